/-
  DERIVED. GIVEN WITH THE SEED: THE CARDS: each row of YtopnlikoaljbmaaDoorRows.lean that lists a variable, with what it lists TIED to the program's text (the seventh form; the later family's looks); each row that meets fmt, with fmt's text TOLD by the authors' own Lean function (tested against real Go, not proved from fmt's source: count such statements apart). THE CARD IS WHAT COUNTS. Prove the row's statement (the work); the ties are given (YtopnlikoaljbmaaDoorTie.lean); close each card by the builder's one call (the guide's Derived/Test/ToyasCard.lean, 'card_holds'). Laid BY PROGRAM, IN A SANDBOX (cutbox-door.mjs). By AI agents, Wed Nov 11 2026. No macro, syntax, notation, axiom, sorry.
-/
import Derived.Test.YtopnlikoaljbmaaDoorRows
import GoSem.ClaimSeven
namespace Go.Proofs.YtopnlikoaljbmaaDoor
namespace Rows

/-- THE TIED CARD OF 'tidegatelaw44.DiskWrites'. -/
def diskWritesCard : Claim7 := { stood := { row := diskWritesRow, standIns := [], harness := (true, "ffe01b6c18c053e7ea2b1ff1f82a55b266739c78af0e7db7f43829516024d82e"), looks := false }, kinds := [], alts := [], laidByText := true, laidKinds := [.data, .pinned], laidTests := true, laidLooks := .later }
def DiskWritesCardSaid : Prop := Claim7.holds Tryd.pinned (.plain (OpenSpec.ofChange diskWritesSpec)) diskWritesCard

/-- THE TIED CARD OF 'tidegatelaw44.DiskCrashes'. -/
def diskCrashesCard : Claim7 := { stood := { row := diskCrashesRow, standIns := [], harness := (true, "ffe01b6c18c053e7ea2b1ff1f82a55b266739c78af0e7db7f43829516024d82e"), looks := false }, kinds := [], alts := [], laidByText := true, laidKinds := [.data, .pinned], laidTests := true, laidLooks := .later }
def DiskCrashesCardSaid : Prop := Claim7.holds Tryd.pinned (.plain (OpenSpec.ofChange diskCrashesSpec)) diskCrashesCard

/-- THE TIED CARD OF 'tidegatelaw44.DiskReads'. -/
def diskReadsCard : Claim7 := { stood := { row := diskReadsRow, standIns := [], harness := (true, "ffe01b6c18c053e7ea2b1ff1f82a55b266739c78af0e7db7f43829516024d82e"), looks := false }, kinds := [], alts := [], laidByText := true, laidKinds := [.data, .pinned], laidTests := true, laidLooks := .later }
def DiskReadsCardSaid : Prop := Claim7.holds Tryd.pinned (.plain (OpenSpec.ofChange diskReadsSpec)) diskReadsCard

/-- THE TIED CARD OF 'tidegatelaw44.DiskKeeps'. -/
def diskKeepsCard : Claim7 := { stood := { row := diskKeepsRow, standIns := [], harness := (true, "ffe01b6c18c053e7ea2b1ff1f82a55b266739c78af0e7db7f43829516024d82e"), looks := false }, kinds := [], alts := [], laidByText := true, laidKinds := [.data, .pinned], laidTests := true, laidLooks := .later }
def DiskKeepsCardSaid : Prop := Claim7.holds Tryd.pinned (.plain (OpenSpec.ofChange diskKeepsSpec)) diskKeepsCard

/-- THE TIED CARD OF 'tidegatelaw44.DiskReplaces'. -/
def diskReplacesCard : Claim7 := { stood := { row := diskReplacesRow, standIns := [], harness := (true, "ffe01b6c18c053e7ea2b1ff1f82a55b266739c78af0e7db7f43829516024d82e"), looks := false }, kinds := [], alts := [], laidByText := true, laidKinds := [.data, .pinned], laidTests := true, laidLooks := .later }
def DiskReplacesCardSaid : Prop := Claim7.holds Tryd.pinned (.plain (OpenSpec.ofChange diskReplacesSpec)) diskReplacesCard

/-- THE TIED CARD OF 'tidegatelaw44.DiskSurvives'. -/
def diskSurvivesCard : Claim7 := { stood := { row := diskSurvivesRow, standIns := [], harness := (true, "ffe01b6c18c053e7ea2b1ff1f82a55b266739c78af0e7db7f43829516024d82e"), looks := false }, kinds := [], alts := [], laidByText := true, laidKinds := [.data, .pinned], laidTests := true, laidLooks := .later }
def DiskSurvivesCardSaid : Prop := Claim7.holds Tryd.pinned (.plain (OpenSpec.ofChange diskSurvivesSpec)) diskSurvivesCard

/-- THE TIED CARD OF 'tidegatelaw44.DiskNames'. -/
def diskNamesCard : Claim7 := { stood := { row := diskNamesRow, standIns := [], harness := (true, "ffe01b6c18c053e7ea2b1ff1f82a55b266739c78af0e7db7f43829516024d82e"), looks := false }, kinds := [], alts := [], laidByText := true, laidKinds := [.data, .pinned], laidTests := true, laidLooks := .later }
def DiskNamesCardSaid : Prop := Claim7.holds Tryd.pinned (.plain (OpenSpec.ofChange diskNamesSpec)) diskNamesCard

/-- THE TIED CARD OF 'tidegatelaw44.DiskRemoves'. -/
def diskRemovesCard : Claim7 := { stood := { row := diskRemovesRow, standIns := [], harness := (true, "ffe01b6c18c053e7ea2b1ff1f82a55b266739c78af0e7db7f43829516024d82e"), looks := false }, kinds := [], alts := [], laidByText := true, laidKinds := [.data, .pinned], laidTests := true, laidLooks := .later }
def DiskRemovesCardSaid : Prop := Claim7.holds Tryd.pinned (.plain (OpenSpec.ofChange diskRemovesSpec)) diskRemovesCard

/-- THE SECOND FORM's CARD OF 'tidegatelaw44.DiskWrites'. -/
def diskWritesUptoCard : Claim7 := { stood := { row := diskWritesUptoRow, standIns := [], harness := (true, "ffe01b6c18c053e7ea2b1ff1f82a55b266739c78af0e7db7f43829516024d82e"), looks := false }, kinds := [], alts := [], laidByText := true, laidKinds := [.data, .pinned], laidTests := true, laidLooks := .later }
def DiskWritesUptoCardSaid : Prop := Claim7.holds Tryd.pinned (.plain (OpenSpec.upto diskWritesSpec)) diskWritesUptoCard

/-- THE SECOND FORM's CARD OF 'tidegatelaw44.DiskCrashes'. -/
def diskCrashesUptoCard : Claim7 := { stood := { row := diskCrashesUptoRow, standIns := [], harness := (true, "ffe01b6c18c053e7ea2b1ff1f82a55b266739c78af0e7db7f43829516024d82e"), looks := false }, kinds := [], alts := [], laidByText := true, laidKinds := [.data, .pinned], laidTests := true, laidLooks := .later }
def DiskCrashesUptoCardSaid : Prop := Claim7.holds Tryd.pinned (.plain (OpenSpec.upto diskCrashesSpec)) diskCrashesUptoCard

/-- THE SECOND FORM's CARD OF 'tidegatelaw44.DiskReads'. -/
def diskReadsUptoCard : Claim7 := { stood := { row := diskReadsUptoRow, standIns := [], harness := (true, "ffe01b6c18c053e7ea2b1ff1f82a55b266739c78af0e7db7f43829516024d82e"), looks := false }, kinds := [], alts := [], laidByText := true, laidKinds := [.data, .pinned], laidTests := true, laidLooks := .later }
def DiskReadsUptoCardSaid : Prop := Claim7.holds Tryd.pinned (.plain (OpenSpec.upto diskReadsSpec)) diskReadsUptoCard

/-- THE SECOND FORM's CARD OF 'tidegatelaw44.DiskKeeps'. -/
def diskKeepsUptoCard : Claim7 := { stood := { row := diskKeepsUptoRow, standIns := [], harness := (true, "ffe01b6c18c053e7ea2b1ff1f82a55b266739c78af0e7db7f43829516024d82e"), looks := false }, kinds := [], alts := [], laidByText := true, laidKinds := [.data, .pinned], laidTests := true, laidLooks := .later }
def DiskKeepsUptoCardSaid : Prop := Claim7.holds Tryd.pinned (.plain (OpenSpec.upto diskKeepsSpec)) diskKeepsUptoCard

/-- THE SECOND FORM's CARD OF 'tidegatelaw44.DiskReplaces'. -/
def diskReplacesUptoCard : Claim7 := { stood := { row := diskReplacesUptoRow, standIns := [], harness := (true, "ffe01b6c18c053e7ea2b1ff1f82a55b266739c78af0e7db7f43829516024d82e"), looks := false }, kinds := [], alts := [], laidByText := true, laidKinds := [.data, .pinned], laidTests := true, laidLooks := .later }
def DiskReplacesUptoCardSaid : Prop := Claim7.holds Tryd.pinned (.plain (OpenSpec.upto diskReplacesSpec)) diskReplacesUptoCard

/-- THE SECOND FORM's CARD OF 'tidegatelaw44.DiskSurvives'. -/
def diskSurvivesUptoCard : Claim7 := { stood := { row := diskSurvivesUptoRow, standIns := [], harness := (true, "ffe01b6c18c053e7ea2b1ff1f82a55b266739c78af0e7db7f43829516024d82e"), looks := false }, kinds := [], alts := [], laidByText := true, laidKinds := [.data, .pinned], laidTests := true, laidLooks := .later }
def DiskSurvivesUptoCardSaid : Prop := Claim7.holds Tryd.pinned (.plain (OpenSpec.upto diskSurvivesSpec)) diskSurvivesUptoCard

/-- THE SECOND FORM's CARD OF 'tidegatelaw44.DiskNames'. -/
def diskNamesUptoCard : Claim7 := { stood := { row := diskNamesUptoRow, standIns := [], harness := (true, "ffe01b6c18c053e7ea2b1ff1f82a55b266739c78af0e7db7f43829516024d82e"), looks := false }, kinds := [], alts := [], laidByText := true, laidKinds := [.data, .pinned], laidTests := true, laidLooks := .later }
def DiskNamesUptoCardSaid : Prop := Claim7.holds Tryd.pinned (.plain (OpenSpec.upto diskNamesSpec)) diskNamesUptoCard

/-- THE SECOND FORM's CARD OF 'tidegatelaw44.DiskRemoves'. -/
def diskRemovesUptoCard : Claim7 := { stood := { row := diskRemovesUptoRow, standIns := [], harness := (true, "ffe01b6c18c053e7ea2b1ff1f82a55b266739c78af0e7db7f43829516024d82e"), looks := false }, kinds := [], alts := [], laidByText := true, laidKinds := [.data, .pinned], laidTests := true, laidLooks := .later }
def DiskRemovesUptoCardSaid : Prop := Claim7.holds Tryd.pinned (.plain (OpenSpec.upto diskRemovesSpec)) diskRemovesUptoCard
end Rows
end Go.Proofs.YtopnlikoaljbmaaDoor
