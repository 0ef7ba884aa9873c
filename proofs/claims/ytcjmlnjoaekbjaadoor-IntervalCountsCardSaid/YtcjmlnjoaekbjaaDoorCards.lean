/-
  DERIVED. GIVEN WITH THE SEED: THE CARDS: each row of YtcjmlnjoaekbjaaDoorRows.lean that lists a variable, with what it lists TIED to the program's text (the seventh form; the later family's looks); each row that meets fmt, with fmt's text TOLD by the authors' own Lean function (tested against real Go, not proved from fmt's source: count such statements apart). THE CARD IS WHAT COUNTS. Prove the row's statement (the work); the ties are given (YtcjmlnjoaekbjaaDoorTie.lean); close each card by the builder's one call (the guide's Derived/Test/ToyasCard.lean, 'card_holds'). Laid BY PROGRAM, IN A SANDBOX (cutbox-door.mjs). By AI agents, Wed Nov 11 2026. No macro, syntax, notation, axiom, sorry.
-/
import Derived.Test.YtcjmlnjoaekbjaaDoorRows
import GoSem.ClaimSeven
namespace Go.Proofs.YtcjmlnjoaekbjaaDoor
namespace Rows

/-- THE TIED CARD OF 'tidegatelaw02.IntervalMakes'. -/
def intervalMakesCard : Claim7 := { stood := { row := intervalMakesRow, standIns := [], harness := (true, "c3ae082528e990c3d440d14586702a4d2efb46c2138577e639a0bcf528dc1d85"), looks := false }, kinds := [], alts := [], laidByText := true, laidKinds := [.data, .data, .data], laidTests := true, laidLooks := .later }
def IntervalMakesCardSaid : Prop := Claim7.holds Tryd.pinned (.plain (OpenSpec.ofChange intervalMakesSpec)) intervalMakesCard

/-- THE TIED CARD OF 'tidegatelaw02.IntervalEquals'. -/
def intervalEqualsCard : Claim7 := { stood := { row := intervalEqualsRow, standIns := [], harness := (true, "c3ae082528e990c3d440d14586702a4d2efb46c2138577e639a0bcf528dc1d85"), looks := false }, kinds := [], alts := [], laidByText := true, laidKinds := [.data, .data, .data], laidTests := true, laidLooks := .later }
def IntervalEqualsCardSaid : Prop := Claim7.holds Tryd.pinned (.plain (OpenSpec.ofChange intervalEqualsSpec)) intervalEqualsCard

/-- THE TIED CARD OF 'tidegatelaw02.IntervalBoolean'. -/
def intervalBooleanCard : Claim7 := { stood := { row := intervalBooleanRow, standIns := [], harness := (true, "c3ae082528e990c3d440d14586702a4d2efb46c2138577e639a0bcf528dc1d85"), looks := false }, kinds := [], alts := [], laidByText := true, laidKinds := [.data, .data, .data], laidTests := true, laidLooks := .later }
def IntervalBooleanCardSaid : Prop := Claim7.holds Tryd.pinned (.plain (OpenSpec.ofChange intervalBooleanSpec)) intervalBooleanCard

/-- THE TIED CARD OF 'tidegatelaw02.IntervalCounts'. -/
def intervalCountsCard : Claim7 := { stood := { row := intervalCountsRow, standIns := [], harness := (true, "c3ae082528e990c3d440d14586702a4d2efb46c2138577e639a0bcf528dc1d85"), looks := false }, kinds := [], alts := [], laidByText := true, laidKinds := [.data, .data, .data], laidTests := true, laidLooks := .later }
def IntervalCountsCardSaid : Prop := Claim7.holds Tryd.pinned (.plain (OpenSpec.ofChange intervalCountsSpec)) intervalCountsCard

/-- THE SECOND FORM's CARD OF 'tidegatelaw02.IntervalMakes'. -/
def intervalMakesUptoCard : Claim7 := { stood := { row := intervalMakesUptoRow, standIns := [], harness := (true, "c3ae082528e990c3d440d14586702a4d2efb46c2138577e639a0bcf528dc1d85"), looks := false }, kinds := [], alts := [], laidByText := true, laidKinds := [.data, .data, .data], laidTests := true, laidLooks := .later }
def IntervalMakesUptoCardSaid : Prop := Claim7.holds Tryd.pinned (.plain (OpenSpec.upto intervalMakesSpec)) intervalMakesUptoCard

/-- THE SECOND FORM's CARD OF 'tidegatelaw02.IntervalEquals'. -/
def intervalEqualsUptoCard : Claim7 := { stood := { row := intervalEqualsUptoRow, standIns := [], harness := (true, "c3ae082528e990c3d440d14586702a4d2efb46c2138577e639a0bcf528dc1d85"), looks := false }, kinds := [], alts := [], laidByText := true, laidKinds := [.data, .data, .data], laidTests := true, laidLooks := .later }
def IntervalEqualsUptoCardSaid : Prop := Claim7.holds Tryd.pinned (.plain (OpenSpec.upto intervalEqualsSpec)) intervalEqualsUptoCard

/-- THE SECOND FORM's CARD OF 'tidegatelaw02.IntervalBoolean'. -/
def intervalBooleanUptoCard : Claim7 := { stood := { row := intervalBooleanUptoRow, standIns := [], harness := (true, "c3ae082528e990c3d440d14586702a4d2efb46c2138577e639a0bcf528dc1d85"), looks := false }, kinds := [], alts := [], laidByText := true, laidKinds := [.data, .data, .data], laidTests := true, laidLooks := .later }
def IntervalBooleanUptoCardSaid : Prop := Claim7.holds Tryd.pinned (.plain (OpenSpec.upto intervalBooleanSpec)) intervalBooleanUptoCard

/-- THE SECOND FORM's CARD OF 'tidegatelaw02.IntervalCounts'. -/
def intervalCountsUptoCard : Claim7 := { stood := { row := intervalCountsUptoRow, standIns := [], harness := (true, "c3ae082528e990c3d440d14586702a4d2efb46c2138577e639a0bcf528dc1d85"), looks := false }, kinds := [], alts := [], laidByText := true, laidKinds := [.data, .data, .data], laidTests := true, laidLooks := .later }
def IntervalCountsUptoCardSaid : Prop := Claim7.holds Tryd.pinned (.plain (OpenSpec.upto intervalCountsSpec)) intervalCountsUptoCard
end Rows
end Go.Proofs.YtcjmlnjoaekbjaaDoor
