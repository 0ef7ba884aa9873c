/-
  DERIVED. GIVEN WITH THE SEED: THE CARDS: each row of YtbhafingccfjgaaDoorRows.lean that lists a variable, with what it lists TIED to the program's text (the seventh form; the later family's looks); each row that meets fmt, with fmt's text TOLD by the authors' own Lean function (tested against real Go, not proved from fmt's source: count such statements apart). THE CARD IS WHAT COUNTS. Prove the row's statement (the work); the ties are given (YtbhafingccfjgaaDoorTie.lean); close each card by the builder's one call (the guide's Derived/Test/ToyasCard.lean, 'card_holds'). Laid BY PROGRAM, IN A SANDBOX (cutbox-door.mjs). By AI agents, Wed Nov 11 2026. No macro, syntax, notation, axiom, sorry.
-/
import Derived.Test.YtbhafingccfjgaaDoorRows
import GoSem.ClaimSeven
namespace Go.Proofs.YtbhafingccfjgaaDoor
namespace Rows

/-- THE TIED CARD OF 'tidegatelaw01.ValueMakes'. -/
def valueMakesCard : Claim7 := { stood := { row := valueMakesRow, standIns := [], harness := (true, "b36375e18c9db3c7a239e2b9bced9502de692cf08a75f461fe534087f9ce02c4"), looks := true }, kinds := [], alts := [], laidByText := true, laidKinds := [.data, .data, .data, .data, .sentinel, .sentinel, .pinned], laidTests := true, laidLooks := .later }
def ValueMakesCardSaid : Prop := Claim7.holds Tryd.pinned (.plain (OpenSpec.ofChange valueMakesSpec)) valueMakesCard

/-- THE TIED CARD OF 'tidegatelaw01.ValueHashes'. -/
def valueHashesCard : Claim7 := { stood := { row := valueHashesRow, standIns := [], harness := (true, "b36375e18c9db3c7a239e2b9bced9502de692cf08a75f461fe534087f9ce02c4"), looks := true }, kinds := [], alts := [], laidByText := true, laidKinds := [.data, .data, .data, .data, .sentinel, .sentinel, .pinned], laidTests := true, laidLooks := .later }
def ValueHashesCardSaid : Prop := Claim7.holds Tryd.pinned (.plain (OpenSpec.ofChange valueHashesSpec)) valueHashesCard

/-- THE TIED CARD OF 'tidegatelaw01.ValueCompares'. -/
def valueComparesCard : Claim7 := { stood := { row := valueComparesRow, standIns := [], harness := (true, "b36375e18c9db3c7a239e2b9bced9502de692cf08a75f461fe534087f9ce02c4"), looks := true }, kinds := [], alts := [], laidByText := true, laidKinds := [.data, .data, .data, .data, .sentinel, .sentinel, .pinned], laidTests := true, laidLooks := .later }
def ValueComparesCardSaid : Prop := Claim7.holds Tryd.pinned (.plain (OpenSpec.ofChange valueComparesSpec)) valueComparesCard

/-- THE TIED CARD OF 'tidegatelaw01.ValueOrders'. -/
def valueOrdersCard : Claim7 := { stood := { row := valueOrdersRow, standIns := [], harness := (true, "b36375e18c9db3c7a239e2b9bced9502de692cf08a75f461fe534087f9ce02c4"), looks := true }, kinds := [], alts := [], laidByText := true, laidKinds := [.data, .data, .data, .data, .sentinel, .sentinel, .pinned], laidTests := true, laidLooks := .later }
def ValueOrdersCardSaid : Prop := Claim7.holds Tryd.pinned (.plain (OpenSpec.ofChange valueOrdersSpec)) valueOrdersCard

/-- THE TIED CARD OF 'tidegatelaw01.ValueEscapes'. -/
def valueEscapesCard : Claim7 := { stood := { row := valueEscapesRow, standIns := [], harness := (true, "b36375e18c9db3c7a239e2b9bced9502de692cf08a75f461fe534087f9ce02c4"), looks := true }, kinds := [], alts := [], laidByText := true, laidKinds := [.data, .data, .data, .data, .sentinel, .sentinel, .pinned], laidTests := true, laidLooks := .later }
def ValueEscapesCardSaid : Prop := Claim7.holds Tryd.pinned (.plain (OpenSpec.ofChange valueEscapesSpec)) valueEscapesCard

/-- THE TIED CARD OF 'tidegatelaw01.ValueChecks'. -/
def valueChecksCard : Claim7 := { stood := { row := valueChecksRow, standIns := [], harness := (true, "b36375e18c9db3c7a239e2b9bced9502de692cf08a75f461fe534087f9ce02c4"), looks := true }, kinds := [], alts := [], laidByText := true, laidKinds := [.data, .data, .data, .data, .sentinel, .sentinel, .pinned], laidTests := true, laidLooks := .later }
def ValueChecksCardSaid : Prop := Claim7.holds Tryd.pinned (.plain (OpenSpec.ofChange valueChecksSpec)) valueChecksCard

/-- THE TIED CARD OF 'tidegatelaw01.ValueReturns'. -/
def valueReturnsCard : Claim7 := { stood := { row := valueReturnsRow, standIns := [], harness := (true, "b36375e18c9db3c7a239e2b9bced9502de692cf08a75f461fe534087f9ce02c4"), looks := true }, kinds := [], alts := [], laidByText := true, laidKinds := [.data, .data, .data, .data, .sentinel, .sentinel, .pinned], laidTests := true, laidLooks := .later }
def ValueReturnsCardSaid : Prop := Claim7.holds Tryd.pinned (.plain (OpenSpec.ofChange valueReturnsSpec)) valueReturnsCard

/-- THE SECOND FORM's CARD OF 'tidegatelaw01.ValueMakes'. -/
def valueMakesUptoCard : Claim7 := { stood := { row := valueMakesUptoRow, standIns := [], harness := (true, "b36375e18c9db3c7a239e2b9bced9502de692cf08a75f461fe534087f9ce02c4"), looks := true }, kinds := [], alts := [], laidByText := true, laidKinds := [.data, .data, .data, .data, .sentinel, .sentinel, .pinned], laidTests := true, laidLooks := .later }
def ValueMakesUptoCardSaid : Prop := Claim7.holds Tryd.pinned (.plain (OpenSpec.upto valueMakesSpec)) valueMakesUptoCard

/-- THE SECOND FORM's CARD OF 'tidegatelaw01.ValueHashes'. -/
def valueHashesUptoCard : Claim7 := { stood := { row := valueHashesUptoRow, standIns := [], harness := (true, "b36375e18c9db3c7a239e2b9bced9502de692cf08a75f461fe534087f9ce02c4"), looks := true }, kinds := [], alts := [], laidByText := true, laidKinds := [.data, .data, .data, .data, .sentinel, .sentinel, .pinned], laidTests := true, laidLooks := .later }
def ValueHashesUptoCardSaid : Prop := Claim7.holds Tryd.pinned (.plain (OpenSpec.upto valueHashesSpec)) valueHashesUptoCard

/-- THE SECOND FORM's CARD OF 'tidegatelaw01.ValueCompares'. -/
def valueComparesUptoCard : Claim7 := { stood := { row := valueComparesUptoRow, standIns := [], harness := (true, "b36375e18c9db3c7a239e2b9bced9502de692cf08a75f461fe534087f9ce02c4"), looks := true }, kinds := [], alts := [], laidByText := true, laidKinds := [.data, .data, .data, .data, .sentinel, .sentinel, .pinned], laidTests := true, laidLooks := .later }
def ValueComparesUptoCardSaid : Prop := Claim7.holds Tryd.pinned (.plain (OpenSpec.upto valueComparesSpec)) valueComparesUptoCard

/-- THE SECOND FORM's CARD OF 'tidegatelaw01.ValueOrders'. -/
def valueOrdersUptoCard : Claim7 := { stood := { row := valueOrdersUptoRow, standIns := [], harness := (true, "b36375e18c9db3c7a239e2b9bced9502de692cf08a75f461fe534087f9ce02c4"), looks := true }, kinds := [], alts := [], laidByText := true, laidKinds := [.data, .data, .data, .data, .sentinel, .sentinel, .pinned], laidTests := true, laidLooks := .later }
def ValueOrdersUptoCardSaid : Prop := Claim7.holds Tryd.pinned (.plain (OpenSpec.upto valueOrdersSpec)) valueOrdersUptoCard

/-- THE SECOND FORM's CARD OF 'tidegatelaw01.ValueEscapes'. -/
def valueEscapesUptoCard : Claim7 := { stood := { row := valueEscapesUptoRow, standIns := [], harness := (true, "b36375e18c9db3c7a239e2b9bced9502de692cf08a75f461fe534087f9ce02c4"), looks := true }, kinds := [], alts := [], laidByText := true, laidKinds := [.data, .data, .data, .data, .sentinel, .sentinel, .pinned], laidTests := true, laidLooks := .later }
def ValueEscapesUptoCardSaid : Prop := Claim7.holds Tryd.pinned (.plain (OpenSpec.upto valueEscapesSpec)) valueEscapesUptoCard

/-- THE SECOND FORM's CARD OF 'tidegatelaw01.ValueChecks'. -/
def valueChecksUptoCard : Claim7 := { stood := { row := valueChecksUptoRow, standIns := [], harness := (true, "b36375e18c9db3c7a239e2b9bced9502de692cf08a75f461fe534087f9ce02c4"), looks := true }, kinds := [], alts := [], laidByText := true, laidKinds := [.data, .data, .data, .data, .sentinel, .sentinel, .pinned], laidTests := true, laidLooks := .later }
def ValueChecksUptoCardSaid : Prop := Claim7.holds Tryd.pinned (.plain (OpenSpec.upto valueChecksSpec)) valueChecksUptoCard

/-- THE SECOND FORM's CARD OF 'tidegatelaw01.ValueReturns'. -/
def valueReturnsUptoCard : Claim7 := { stood := { row := valueReturnsUptoRow, standIns := [], harness := (true, "b36375e18c9db3c7a239e2b9bced9502de692cf08a75f461fe534087f9ce02c4"), looks := true }, kinds := [], alts := [], laidByText := true, laidKinds := [.data, .data, .data, .data, .sentinel, .sentinel, .pinned], laidTests := true, laidLooks := .later }
def ValueReturnsUptoCardSaid : Prop := Claim7.holds Tryd.pinned (.plain (OpenSpec.upto valueReturnsSpec)) valueReturnsUptoCard
end Rows
end Go.Proofs.YtbhafingccfjgaaDoor
