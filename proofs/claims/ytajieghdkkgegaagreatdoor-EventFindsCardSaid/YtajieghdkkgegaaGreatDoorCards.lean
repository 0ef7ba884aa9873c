/-
  DERIVED. GIVEN WITH THE SEED: THE CARDS: each row of YtajieghdkkgegaaGreatDoorRows.lean that lists a variable, with what it lists TIED to the program's text (the seventh form; the later family's looks); each row that meets fmt, with fmt's text TOLD by the authors' own Lean function (tested against real Go, not proved from fmt's source: count such statements apart). THE CARD IS WHAT COUNTS. Prove the row's statement (the work); the ties are given (YtajieghdkkgegaaGreatDoorTie.lean); close each card by the builder's one call (the guide's Derived/Test/ToyasCard.lean, 'card_holds'). Laid BY PROGRAM, IN A SANDBOX (cutbox-door.mjs). By AI agents, Wed Nov 11 2026. No macro, syntax, notation, axiom, sorry.
-/
import Derived.Test.YtajieghdkkgegaaGreatDoorRows
import GoSem.ClaimSeven
namespace Go.Proofs.YtajieghdkkgegaaGreatDoor
namespace Rows

/-- THE TIED CARD OF 'tidegatelaw04.EventFinds'. -/
def eventFindsCard : Claim7 := { stood := { row := eventFindsRow, standIns := [], harness := (true, "647fcb675ad1b8584178fcc94febe33a7b6cd51d5b92e78385494d6510ba1ad4"), looks := true }, kinds := [], alts := [], laidByText := true, laidKinds := [.data, .data, .data, .data, .sentinel, .sentinel, .pinned], laidTests := true, laidLooks := .later }
def EventFindsCardSaid : Prop := Claim7.holds Tryz.pinned (.plain (OpenSpec.ofChange eventFindsSpec)) eventFindsCard

/-- THE SECOND FORM's CARD OF 'tidegatelaw04.EventFinds'. -/
def eventFindsUptoCard : Claim7 := { stood := { row := eventFindsUptoRow, standIns := [], harness := (true, "647fcb675ad1b8584178fcc94febe33a7b6cd51d5b92e78385494d6510ba1ad4"), looks := true }, kinds := [], alts := [], laidByText := true, laidKinds := [.data, .data, .data, .data, .sentinel, .sentinel, .pinned], laidTests := true, laidLooks := .later }
def EventFindsUptoCardSaid : Prop := Claim7.holds Tryz.pinned (.plain (OpenSpec.upto eventFindsSpec)) eventFindsUptoCard
end Rows
end Go.Proofs.YtajieghdkkgegaaGreatDoor
