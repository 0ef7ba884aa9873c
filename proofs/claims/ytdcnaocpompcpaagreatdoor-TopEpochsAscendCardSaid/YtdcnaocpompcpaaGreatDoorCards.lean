/-
  DERIVED. GIVEN WITH THE SEED: THE CARDS: each row of YtdcnaocpompcpaaGreatDoorRows.lean that lists a variable, with what it lists TIED to the program's text (the seventh form; the later family's looks); each row that meets fmt, with fmt's text TOLD by the authors' own Lean function (tested against real Go, not proved from fmt's source: count such statements apart). THE CARD IS WHAT COUNTS. Prove the row's statement (the work); the ties are given (YtdcnaocpompcpaaGreatDoorTie.lean); close each card by the builder's one call (the guide's Derived/Test/ToyasCard.lean, 'card_holds'). Laid BY PROGRAM, IN A SANDBOX (cutbox-door.mjs). By AI agents, Wed Nov 11 2026. No macro, syntax, notation, axiom, sorry.
-/
import Derived.Test.YtdcnaocpompcpaaGreatDoorRows
import GoSem.ClaimSeven
namespace Go.Proofs.YtdcnaocpompcpaaGreatDoor
namespace Rows

/-- THE TIED CARD OF 'tidegatetop.TopCommitsOnce'. -/
def topCommitsOnceCard : Claim7 := { stood := { row := topCommitsOnceRow, standIns := [], harness := (true, "9ee5870ae21916e971b26f5ab3152224852d964f91c1e3c417b93ffa05d786ba"), looks := true }, kinds := [], alts := [], laidByText := true, laidKinds := [.data, .data, .data, .data, .sentinel, .sentinel, .pinned], laidTests := true, laidLooks := .later }
def TopCommitsOnceCardSaid : Prop := Claim7.holds Tryz.pinned (.plain (OpenSpec.ofChange topCommitsOnceSpec)) topCommitsOnceCard

/-- THE TIED CARD OF 'tidegatetop.TopEpochsAscend'. -/
def topEpochsAscendCard : Claim7 := { stood := { row := topEpochsAscendRow, standIns := [], harness := (true, "9ee5870ae21916e971b26f5ab3152224852d964f91c1e3c417b93ffa05d786ba"), looks := true }, kinds := [], alts := [], laidByText := true, laidKinds := [.data, .data, .data, .data, .sentinel, .sentinel, .pinned], laidTests := true, laidLooks := .later }
def TopEpochsAscendCardSaid : Prop := Claim7.holds Tryz.pinned (.plain (OpenSpec.ofChange topEpochsAscendSpec)) topEpochsAscendCard

/-- THE SECOND FORM's CARD OF 'tidegatetop.TopCommitsOnce'. -/
def topCommitsOnceUptoCard : Claim7 := { stood := { row := topCommitsOnceUptoRow, standIns := [], harness := (true, "9ee5870ae21916e971b26f5ab3152224852d964f91c1e3c417b93ffa05d786ba"), looks := true }, kinds := [], alts := [], laidByText := true, laidKinds := [.data, .data, .data, .data, .sentinel, .sentinel, .pinned], laidTests := true, laidLooks := .later }
def TopCommitsOnceUptoCardSaid : Prop := Claim7.holds Tryz.pinned (.plain (OpenSpec.upto topCommitsOnceSpec)) topCommitsOnceUptoCard

/-- THE SECOND FORM's CARD OF 'tidegatetop.TopEpochsAscend'. -/
def topEpochsAscendUptoCard : Claim7 := { stood := { row := topEpochsAscendUptoRow, standIns := [], harness := (true, "9ee5870ae21916e971b26f5ab3152224852d964f91c1e3c417b93ffa05d786ba"), looks := true }, kinds := [], alts := [], laidByText := true, laidKinds := [.data, .data, .data, .data, .sentinel, .sentinel, .pinned], laidTests := true, laidLooks := .later }
def TopEpochsAscendUptoCardSaid : Prop := Claim7.holds Tryz.pinned (.plain (OpenSpec.upto topEpochsAscendSpec)) topEpochsAscendUptoCard
end Rows
end Go.Proofs.YtdcnaocpompcpaaGreatDoor
