/-
  DERIVED. GIVEN WITH THE SEED: THE CARDS: each row of YteecjacfkildhaaGreatDoorRows.lean that lists a variable, with what it lists TIED to the program's text (the seventh form; the later family's looks); each row that meets fmt, with fmt's text TOLD by the authors' own Lean function (tested against real Go, not proved from fmt's source: count such statements apart). THE CARD IS WHAT COUNTS. Prove the row's statement (the work); the ties are given (YteecjacfkildhaaGreatDoorTie.lean); close each card by the builder's one call (the guide's Derived/Test/ToyasCard.lean, 'card_holds'). Laid BY PROGRAM, IN A SANDBOX (cutbox-door.mjs). By AI agents, Wed Nov 11 2026. No macro, syntax, notation, axiom, sorry.
-/
import Derived.Test.YteecjacfkildhaaGreatDoorRows
import GoSem.ClaimSeven
namespace Go.Proofs.YteecjacfkildhaaGreatDoor
namespace Rows

/-- THE TIED CARD OF 'tidegatelaw04.EventChecks'. -/
def eventChecksCard : Claim7 := { stood := { row := eventChecksRow, standIns := [], harness := (true, "864045cfd6800d32cec38fa3e80da9ac23efb2f791a8ee7b43865e3cf7912c66"), looks := true }, kinds := [], alts := [], laidByText := true, laidKinds := [.data, .data, .data, .data, .sentinel, .sentinel, .pinned], laidTests := true, laidLooks := .later }
def EventChecksCardSaid : Prop := Claim7.holds Tryz.pinned (.plain (OpenSpec.ofChange eventChecksSpec)) eventChecksCard

/-- THE TIED CARD OF 'tidegatelaw04.EventKeys'. -/
def eventKeysCard : Claim7 := { stood := { row := eventKeysRow, standIns := [], harness := (true, "864045cfd6800d32cec38fa3e80da9ac23efb2f791a8ee7b43865e3cf7912c66"), looks := true }, kinds := [], alts := [], laidByText := true, laidKinds := [.data, .data, .data, .data, .sentinel, .sentinel, .pinned], laidTests := true, laidLooks := .later }
def EventKeysCardSaid : Prop := Claim7.holds Tryz.pinned (.plain (OpenSpec.ofChange eventKeysSpec)) eventKeysCard

/-- THE TIED CARD OF 'tidegatelaw04.EventParses'. -/
def eventParsesCard : Claim7 := { stood := { row := eventParsesRow, standIns := [], harness := (true, "864045cfd6800d32cec38fa3e80da9ac23efb2f791a8ee7b43865e3cf7912c66"), looks := true }, kinds := [], alts := [], laidByText := true, laidKinds := [.data, .data, .data, .data, .sentinel, .sentinel, .pinned], laidTests := true, laidLooks := .later }
def EventParsesCardSaid : Prop := Claim7.holds Tryz.pinned (.plain (OpenSpec.ofChange eventParsesSpec)) eventParsesCard

/-- THE TIED CARD OF 'tidegatelaw04.EventFormats'. -/
def eventFormatsCard : Claim7 := { stood := { row := eventFormatsRow, standIns := [], harness := (true, "864045cfd6800d32cec38fa3e80da9ac23efb2f791a8ee7b43865e3cf7912c66"), looks := true }, kinds := [], alts := [], laidByText := true, laidKinds := [.data, .data, .data, .data, .sentinel, .sentinel, .pinned], laidTests := true, laidLooks := .later }
def EventFormatsCardSaid : Prop := Claim7.holds Tryz.pinned (.plain (OpenSpec.ofChange eventFormatsSpec)) eventFormatsCard

/-- THE TIED CARD OF 'tidegatelaw04.EventKeeps'. -/
def eventKeepsCard : Claim7 := { stood := { row := eventKeepsRow, standIns := [], harness := (true, "864045cfd6800d32cec38fa3e80da9ac23efb2f791a8ee7b43865e3cf7912c66"), looks := true }, kinds := [], alts := [], laidByText := true, laidKinds := [.data, .data, .data, .data, .sentinel, .sentinel, .pinned], laidTests := true, laidLooks := .later }
def EventKeepsCardSaid : Prop := Claim7.holds Tryz.pinned (.plain (OpenSpec.ofChange eventKeepsSpec)) eventKeepsCard

/-- THE TIED CARD OF 'tidegatelaw04.EventFinds'. -/
def eventFindsCard : Claim7 := { stood := { row := eventFindsRow, standIns := [], harness := (true, "864045cfd6800d32cec38fa3e80da9ac23efb2f791a8ee7b43865e3cf7912c66"), looks := true }, kinds := [], alts := [], laidByText := true, laidKinds := [.data, .data, .data, .data, .sentinel, .sentinel, .pinned], laidTests := true, laidLooks := .later }
def EventFindsCardSaid : Prop := Claim7.holds Tryz.pinned (.plain (OpenSpec.ofChange eventFindsSpec)) eventFindsCard

/-- THE TIED CARD OF 'tidegatelaw04.EventOrders'. -/
def eventOrdersCard : Claim7 := { stood := { row := eventOrdersRow, standIns := [], harness := (true, "864045cfd6800d32cec38fa3e80da9ac23efb2f791a8ee7b43865e3cf7912c66"), looks := true }, kinds := [], alts := [], laidByText := true, laidKinds := [.data, .data, .data, .data, .sentinel, .sentinel, .pinned], laidTests := true, laidLooks := .later }
def EventOrdersCardSaid : Prop := Claim7.holds Tryz.pinned (.plain (OpenSpec.ofChange eventOrdersSpec)) eventOrdersCard

/-- THE TIED CARD OF 'tidegatelaw04.EventReturns'. -/
def eventReturnsCard : Claim7 := { stood := { row := eventReturnsRow, standIns := [], harness := (true, "864045cfd6800d32cec38fa3e80da9ac23efb2f791a8ee7b43865e3cf7912c66"), looks := true }, kinds := [], alts := [], laidByText := true, laidKinds := [.data, .data, .data, .data, .sentinel, .sentinel, .pinned], laidTests := true, laidLooks := .later }
def EventReturnsCardSaid : Prop := Claim7.holds Tryz.pinned (.plain (OpenSpec.ofChange eventReturnsSpec)) eventReturnsCard

/-- THE SECOND FORM's CARD OF 'tidegatelaw04.EventChecks'. -/
def eventChecksUptoCard : Claim7 := { stood := { row := eventChecksUptoRow, standIns := [], harness := (true, "864045cfd6800d32cec38fa3e80da9ac23efb2f791a8ee7b43865e3cf7912c66"), looks := true }, kinds := [], alts := [], laidByText := true, laidKinds := [.data, .data, .data, .data, .sentinel, .sentinel, .pinned], laidTests := true, laidLooks := .later }
def EventChecksUptoCardSaid : Prop := Claim7.holds Tryz.pinned (.plain (OpenSpec.upto eventChecksSpec)) eventChecksUptoCard

/-- THE SECOND FORM's CARD OF 'tidegatelaw04.EventKeys'. -/
def eventKeysUptoCard : Claim7 := { stood := { row := eventKeysUptoRow, standIns := [], harness := (true, "864045cfd6800d32cec38fa3e80da9ac23efb2f791a8ee7b43865e3cf7912c66"), looks := true }, kinds := [], alts := [], laidByText := true, laidKinds := [.data, .data, .data, .data, .sentinel, .sentinel, .pinned], laidTests := true, laidLooks := .later }
def EventKeysUptoCardSaid : Prop := Claim7.holds Tryz.pinned (.plain (OpenSpec.upto eventKeysSpec)) eventKeysUptoCard

/-- THE SECOND FORM's CARD OF 'tidegatelaw04.EventParses'. -/
def eventParsesUptoCard : Claim7 := { stood := { row := eventParsesUptoRow, standIns := [], harness := (true, "864045cfd6800d32cec38fa3e80da9ac23efb2f791a8ee7b43865e3cf7912c66"), looks := true }, kinds := [], alts := [], laidByText := true, laidKinds := [.data, .data, .data, .data, .sentinel, .sentinel, .pinned], laidTests := true, laidLooks := .later }
def EventParsesUptoCardSaid : Prop := Claim7.holds Tryz.pinned (.plain (OpenSpec.upto eventParsesSpec)) eventParsesUptoCard

/-- THE SECOND FORM's CARD OF 'tidegatelaw04.EventFormats'. -/
def eventFormatsUptoCard : Claim7 := { stood := { row := eventFormatsUptoRow, standIns := [], harness := (true, "864045cfd6800d32cec38fa3e80da9ac23efb2f791a8ee7b43865e3cf7912c66"), looks := true }, kinds := [], alts := [], laidByText := true, laidKinds := [.data, .data, .data, .data, .sentinel, .sentinel, .pinned], laidTests := true, laidLooks := .later }
def EventFormatsUptoCardSaid : Prop := Claim7.holds Tryz.pinned (.plain (OpenSpec.upto eventFormatsSpec)) eventFormatsUptoCard

/-- THE SECOND FORM's CARD OF 'tidegatelaw04.EventKeeps'. -/
def eventKeepsUptoCard : Claim7 := { stood := { row := eventKeepsUptoRow, standIns := [], harness := (true, "864045cfd6800d32cec38fa3e80da9ac23efb2f791a8ee7b43865e3cf7912c66"), looks := true }, kinds := [], alts := [], laidByText := true, laidKinds := [.data, .data, .data, .data, .sentinel, .sentinel, .pinned], laidTests := true, laidLooks := .later }
def EventKeepsUptoCardSaid : Prop := Claim7.holds Tryz.pinned (.plain (OpenSpec.upto eventKeepsSpec)) eventKeepsUptoCard

/-- THE SECOND FORM's CARD OF 'tidegatelaw04.EventFinds'. -/
def eventFindsUptoCard : Claim7 := { stood := { row := eventFindsUptoRow, standIns := [], harness := (true, "864045cfd6800d32cec38fa3e80da9ac23efb2f791a8ee7b43865e3cf7912c66"), looks := true }, kinds := [], alts := [], laidByText := true, laidKinds := [.data, .data, .data, .data, .sentinel, .sentinel, .pinned], laidTests := true, laidLooks := .later }
def EventFindsUptoCardSaid : Prop := Claim7.holds Tryz.pinned (.plain (OpenSpec.upto eventFindsSpec)) eventFindsUptoCard

/-- THE SECOND FORM's CARD OF 'tidegatelaw04.EventOrders'. -/
def eventOrdersUptoCard : Claim7 := { stood := { row := eventOrdersUptoRow, standIns := [], harness := (true, "864045cfd6800d32cec38fa3e80da9ac23efb2f791a8ee7b43865e3cf7912c66"), looks := true }, kinds := [], alts := [], laidByText := true, laidKinds := [.data, .data, .data, .data, .sentinel, .sentinel, .pinned], laidTests := true, laidLooks := .later }
def EventOrdersUptoCardSaid : Prop := Claim7.holds Tryz.pinned (.plain (OpenSpec.upto eventOrdersSpec)) eventOrdersUptoCard

/-- THE SECOND FORM's CARD OF 'tidegatelaw04.EventReturns'. -/
def eventReturnsUptoCard : Claim7 := { stood := { row := eventReturnsUptoRow, standIns := [], harness := (true, "864045cfd6800d32cec38fa3e80da9ac23efb2f791a8ee7b43865e3cf7912c66"), looks := true }, kinds := [], alts := [], laidByText := true, laidKinds := [.data, .data, .data, .data, .sentinel, .sentinel, .pinned], laidTests := true, laidLooks := .later }
def EventReturnsUptoCardSaid : Prop := Claim7.holds Tryz.pinned (.plain (OpenSpec.upto eventReturnsSpec)) eventReturnsUptoCard
end Rows
end Go.Proofs.YteecjacfkildhaaGreatDoor
