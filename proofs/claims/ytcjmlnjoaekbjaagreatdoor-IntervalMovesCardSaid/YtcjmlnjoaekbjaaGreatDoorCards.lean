/-
  DERIVED. GIVEN WITH THE SEED: THE CARDS: each row of YtcjmlnjoaekbjaaGreatDoorRows.lean that lists a variable, with what it lists TIED to the program's text (the seventh form; the later family's looks); each row that meets fmt, with fmt's text TOLD by the authors' own Lean function (tested against real Go, not proved from fmt's source: count such statements apart). THE CARD IS WHAT COUNTS. Prove the row's statement (the work); the ties are given (YtcjmlnjoaekbjaaGreatDoorTie.lean); close each card by the builder's one call (the guide's Derived/Test/ToyasCard.lean, 'card_holds'). Laid BY PROGRAM, IN A SANDBOX (cutbox-door.mjs). By AI agents, Wed Nov 11 2026. No macro, syntax, notation, axiom, sorry.
-/
import Derived.Test.YtcjmlnjoaekbjaaGreatDoorRows
import GoSem.ClaimSeven
namespace Go.Proofs.YtcjmlnjoaekbjaaGreatDoor
namespace Rows

/-- THE TIED CARD OF 'tidegatelaw02.IntervalCombines'. -/
def intervalCombinesCard : Claim7 := { stood := { row := intervalCombinesRow, standIns := [], harness := (true, "390cc715d90a3ec0c9818f46ec60fac055dbde7548476678a39f42d12e5a5528"), looks := true }, kinds := [], alts := [], laidByText := true, laidKinds := [.data, .data, .data], laidTests := true, laidLooks := .later }
def IntervalCombinesCardSaid : Prop := Claim7.holds Tryz.pinned (.plain (OpenSpec.ofChange intervalCombinesSpec)) intervalCombinesCard

/-- THE TIED CARD OF 'tidegatelaw02.IntervalMeasures'. -/
def intervalMeasuresCard : Claim7 := { stood := { row := intervalMeasuresRow, standIns := [], harness := (true, "390cc715d90a3ec0c9818f46ec60fac055dbde7548476678a39f42d12e5a5528"), looks := true }, kinds := [], alts := [], laidByText := true, laidKinds := [.data, .data, .data], laidTests := true, laidLooks := .later }
def IntervalMeasuresCardSaid : Prop := Claim7.holds Tryz.pinned (.plain (OpenSpec.ofChange intervalMeasuresSpec)) intervalMeasuresCard

/-- THE TIED CARD OF 'tidegatelaw02.IntervalMoves'. -/
def intervalMovesCard : Claim7 := { stood := { row := intervalMovesRow, standIns := [], harness := (true, "390cc715d90a3ec0c9818f46ec60fac055dbde7548476678a39f42d12e5a5528"), looks := true }, kinds := [], alts := [], laidByText := true, laidKinds := [.data, .data, .data, .data, .sentinel, .sentinel, .pinned], laidTests := true, laidLooks := .later }
def IntervalMovesCardSaid : Prop := Claim7.holds Tryz.pinned (.plain (OpenSpec.ofChange intervalMovesSpec)) intervalMovesCard

/-- THE TIED CARD OF 'tidegatelaw02.IntervalReads'. -/
def intervalReadsCard : Claim7 := { stood := { row := intervalReadsRow, standIns := [], harness := (true, "390cc715d90a3ec0c9818f46ec60fac055dbde7548476678a39f42d12e5a5528"), looks := true }, kinds := [], alts := [], laidByText := true, laidKinds := [.data, .data, .data, .data, .sentinel, .sentinel, .pinned], laidTests := true, laidLooks := .later }
def IntervalReadsCardSaid : Prop := Claim7.holds Tryz.pinned (.plain (OpenSpec.ofChange intervalReadsSpec)) intervalReadsCard

/-- THE SECOND FORM's CARD OF 'tidegatelaw02.IntervalCombines'. -/
def intervalCombinesUptoCard : Claim7 := { stood := { row := intervalCombinesUptoRow, standIns := [], harness := (true, "390cc715d90a3ec0c9818f46ec60fac055dbde7548476678a39f42d12e5a5528"), looks := true }, kinds := [], alts := [], laidByText := true, laidKinds := [.data, .data, .data], laidTests := true, laidLooks := .later }
def IntervalCombinesUptoCardSaid : Prop := Claim7.holds Tryz.pinned (.plain (OpenSpec.upto intervalCombinesSpec)) intervalCombinesUptoCard

/-- THE SECOND FORM's CARD OF 'tidegatelaw02.IntervalMeasures'. -/
def intervalMeasuresUptoCard : Claim7 := { stood := { row := intervalMeasuresUptoRow, standIns := [], harness := (true, "390cc715d90a3ec0c9818f46ec60fac055dbde7548476678a39f42d12e5a5528"), looks := true }, kinds := [], alts := [], laidByText := true, laidKinds := [.data, .data, .data], laidTests := true, laidLooks := .later }
def IntervalMeasuresUptoCardSaid : Prop := Claim7.holds Tryz.pinned (.plain (OpenSpec.upto intervalMeasuresSpec)) intervalMeasuresUptoCard

/-- THE SECOND FORM's CARD OF 'tidegatelaw02.IntervalMoves'. -/
def intervalMovesUptoCard : Claim7 := { stood := { row := intervalMovesUptoRow, standIns := [], harness := (true, "390cc715d90a3ec0c9818f46ec60fac055dbde7548476678a39f42d12e5a5528"), looks := true }, kinds := [], alts := [], laidByText := true, laidKinds := [.data, .data, .data, .data, .sentinel, .sentinel, .pinned], laidTests := true, laidLooks := .later }
def IntervalMovesUptoCardSaid : Prop := Claim7.holds Tryz.pinned (.plain (OpenSpec.upto intervalMovesSpec)) intervalMovesUptoCard

/-- THE SECOND FORM's CARD OF 'tidegatelaw02.IntervalReads'. -/
def intervalReadsUptoCard : Claim7 := { stood := { row := intervalReadsUptoRow, standIns := [], harness := (true, "390cc715d90a3ec0c9818f46ec60fac055dbde7548476678a39f42d12e5a5528"), looks := true }, kinds := [], alts := [], laidByText := true, laidKinds := [.data, .data, .data, .data, .sentinel, .sentinel, .pinned], laidTests := true, laidLooks := .later }
def IntervalReadsUptoCardSaid : Prop := Claim7.holds Tryz.pinned (.plain (OpenSpec.upto intervalReadsSpec)) intervalReadsUptoCard
end Rows
end Go.Proofs.YtcjmlnjoaekbjaaGreatDoor
