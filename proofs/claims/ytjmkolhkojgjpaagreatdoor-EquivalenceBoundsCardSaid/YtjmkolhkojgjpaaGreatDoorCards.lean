/-
  DERIVED. GIVEN WITH THE SEED: THE CARDS: each row of YtjmkolhkojgjpaaGreatDoorRows.lean that lists a variable, with what it lists TIED to the program's text (the seventh form; the later family's looks); each row that meets fmt, with fmt's text TOLD by the authors' own Lean function (tested against real Go, not proved from fmt's source: count such statements apart). THE CARD IS WHAT COUNTS. Prove the row's statement (the work); the ties are given (YtjmkolhkojgjpaaGreatDoorTie.lean); close each card by the builder's one call (the guide's Derived/Test/ToyasCard.lean, 'card_holds'). Laid BY PROGRAM, IN A SANDBOX (cutbox-door.mjs). By AI agents, Wed Nov 11 2026. No macro, syntax, notation, axiom, sorry.
-/
import Derived.Test.YtjmkolhkojgjpaaGreatDoorRows
import GoSem.ClaimSeven
namespace Go.Proofs.YtjmkolhkojgjpaaGreatDoor
namespace Rows

/-- THE TIED CARD OF 'tidegatetop.TopLanguagesKept'. -/
def topLanguagesKeptCard : Claim7 := { stood := { row := topLanguagesKeptRow, standIns := [], harness := (true, "944f9a817011e9fdaa28129e4abfc0b641a974ce1a561774f8fd4804b267c0f8"), looks := false }, kinds := [], alts := [], laidByText := true, laidKinds := [.data, .data, .data], laidTests := true, laidLooks := .later }
def TopLanguagesKeptCardSaid : Prop := Claim7.holds Tryz.pinned (.plain (OpenSpec.ofChange topLanguagesKeptSpec)) topLanguagesKeptCard

/-- THE TIED CARD OF 'tidegatetop.TopVerdictsAgree'. -/
def topVerdictsAgreeCard : Claim7 := { stood := { row := topVerdictsAgreeRow, standIns := [], harness := (true, "944f9a817011e9fdaa28129e4abfc0b641a974ce1a561774f8fd4804b267c0f8"), looks := false }, kinds := [], alts := [], laidByText := true, laidKinds := [.data, .data, .data], laidTests := true, laidLooks := .later }
def TopVerdictsAgreeCardSaid : Prop := Claim7.holds Tryz.pinned (.plain (OpenSpec.ofChange topVerdictsAgreeSpec)) topVerdictsAgreeCard

/-- THE TIED CARD OF 'tidegatelaw31.EquivalenceDecides'. -/
def equivalenceDecidesCard : Claim7 := { stood := { row := equivalenceDecidesRow, standIns := [], harness := (true, "944f9a817011e9fdaa28129e4abfc0b641a974ce1a561774f8fd4804b267c0f8"), looks := false }, kinds := [], alts := [], laidByText := true, laidKinds := [.data, .data, .data], laidTests := true, laidLooks := .later }
def EquivalenceDecidesCardSaid : Prop := Claim7.holds Tryz.pinned (.plain (OpenSpec.ofChange equivalenceDecidesSpec)) equivalenceDecidesCard

/-- THE TIED CARD OF 'tidegatelaw31.EquivalenceVerifies'. -/
def equivalenceVerifiesCard : Claim7 := { stood := { row := equivalenceVerifiesRow, standIns := [], harness := (true, "944f9a817011e9fdaa28129e4abfc0b641a974ce1a561774f8fd4804b267c0f8"), looks := false }, kinds := [], alts := [], laidByText := true, laidKinds := [.data, .data, .data], laidTests := true, laidLooks := .later }
def EquivalenceVerifiesCardSaid : Prop := Claim7.holds Tryz.pinned (.plain (OpenSpec.ofChange equivalenceVerifiesSpec)) equivalenceVerifiesCard

/-- THE TIED CARD OF 'tidegatelaw31.EquivalenceIncludes'. -/
def equivalenceIncludesCard : Claim7 := { stood := { row := equivalenceIncludesRow, standIns := [], harness := (true, "944f9a817011e9fdaa28129e4abfc0b641a974ce1a561774f8fd4804b267c0f8"), looks := false }, kinds := [], alts := [], laidByText := true, laidKinds := [.data, .data, .data], laidTests := true, laidLooks := .later }
def EquivalenceIncludesCardSaid : Prop := Claim7.holds Tryz.pinned (.plain (OpenSpec.ofChange equivalenceIncludesSpec)) equivalenceIncludesCard

/-- THE TIED CARD OF 'tidegatelaw31.EquivalenceSeparates'. -/
def equivalenceSeparatesCard : Claim7 := { stood := { row := equivalenceSeparatesRow, standIns := [], harness := (true, "944f9a817011e9fdaa28129e4abfc0b641a974ce1a561774f8fd4804b267c0f8"), looks := false }, kinds := [], alts := [], laidByText := true, laidKinds := [.data, .data, .data], laidTests := true, laidLooks := .later }
def EquivalenceSeparatesCardSaid : Prop := Claim7.holds Tryz.pinned (.plain (OpenSpec.ofChange equivalenceSeparatesSpec)) equivalenceSeparatesCard

/-- THE TIED CARD OF 'tidegatelaw31.EquivalenceContains'. -/
def equivalenceContainsCard : Claim7 := { stood := { row := equivalenceContainsRow, standIns := [], harness := (true, "944f9a817011e9fdaa28129e4abfc0b641a974ce1a561774f8fd4804b267c0f8"), looks := false }, kinds := [], alts := [], laidByText := true, laidKinds := [.data, .data, .data], laidTests := true, laidLooks := .later }
def EquivalenceContainsCardSaid : Prop := Claim7.holds Tryz.pinned (.plain (OpenSpec.ofChange equivalenceContainsSpec)) equivalenceContainsCard

/-- THE TIED CARD OF 'tidegatelaw31.EquivalenceProves'. -/
def equivalenceProvesCard : Claim7 := { stood := { row := equivalenceProvesRow, standIns := [], harness := (true, "944f9a817011e9fdaa28129e4abfc0b641a974ce1a561774f8fd4804b267c0f8"), looks := false }, kinds := [], alts := [], laidByText := true, laidKinds := [.data, .data, .data], laidTests := true, laidLooks := .later }
def EquivalenceProvesCardSaid : Prop := Claim7.holds Tryz.pinned (.plain (OpenSpec.ofChange equivalenceProvesSpec)) equivalenceProvesCard

/-- THE TIED CARD OF 'tidegatelaw31.EquivalenceBounds'. -/
def equivalenceBoundsCard : Claim7 := { stood := { row := equivalenceBoundsRow, standIns := [], harness := (true, "944f9a817011e9fdaa28129e4abfc0b641a974ce1a561774f8fd4804b267c0f8"), looks := false }, kinds := [], alts := [], laidByText := true, laidKinds := [.data, .data, .data], laidTests := true, laidLooks := .later }
def EquivalenceBoundsCardSaid : Prop := Claim7.holds Tryz.pinned (.plain (OpenSpec.ofChange equivalenceBoundsSpec)) equivalenceBoundsCard

/-- THE SECOND FORM's CARD OF 'tidegatetop.TopLanguagesKept'. -/
def topLanguagesKeptUptoCard : Claim7 := { stood := { row := topLanguagesKeptUptoRow, standIns := [], harness := (true, "944f9a817011e9fdaa28129e4abfc0b641a974ce1a561774f8fd4804b267c0f8"), looks := false }, kinds := [], alts := [], laidByText := true, laidKinds := [.data, .data, .data], laidTests := true, laidLooks := .later }
def TopLanguagesKeptUptoCardSaid : Prop := Claim7.holds Tryz.pinned (.plain (OpenSpec.upto topLanguagesKeptSpec)) topLanguagesKeptUptoCard

/-- THE SECOND FORM's CARD OF 'tidegatetop.TopVerdictsAgree'. -/
def topVerdictsAgreeUptoCard : Claim7 := { stood := { row := topVerdictsAgreeUptoRow, standIns := [], harness := (true, "944f9a817011e9fdaa28129e4abfc0b641a974ce1a561774f8fd4804b267c0f8"), looks := false }, kinds := [], alts := [], laidByText := true, laidKinds := [.data, .data, .data], laidTests := true, laidLooks := .later }
def TopVerdictsAgreeUptoCardSaid : Prop := Claim7.holds Tryz.pinned (.plain (OpenSpec.upto topVerdictsAgreeSpec)) topVerdictsAgreeUptoCard

/-- THE SECOND FORM's CARD OF 'tidegatelaw31.EquivalenceDecides'. -/
def equivalenceDecidesUptoCard : Claim7 := { stood := { row := equivalenceDecidesUptoRow, standIns := [], harness := (true, "944f9a817011e9fdaa28129e4abfc0b641a974ce1a561774f8fd4804b267c0f8"), looks := false }, kinds := [], alts := [], laidByText := true, laidKinds := [.data, .data, .data], laidTests := true, laidLooks := .later }
def EquivalenceDecidesUptoCardSaid : Prop := Claim7.holds Tryz.pinned (.plain (OpenSpec.upto equivalenceDecidesSpec)) equivalenceDecidesUptoCard

/-- THE SECOND FORM's CARD OF 'tidegatelaw31.EquivalenceVerifies'. -/
def equivalenceVerifiesUptoCard : Claim7 := { stood := { row := equivalenceVerifiesUptoRow, standIns := [], harness := (true, "944f9a817011e9fdaa28129e4abfc0b641a974ce1a561774f8fd4804b267c0f8"), looks := false }, kinds := [], alts := [], laidByText := true, laidKinds := [.data, .data, .data], laidTests := true, laidLooks := .later }
def EquivalenceVerifiesUptoCardSaid : Prop := Claim7.holds Tryz.pinned (.plain (OpenSpec.upto equivalenceVerifiesSpec)) equivalenceVerifiesUptoCard

/-- THE SECOND FORM's CARD OF 'tidegatelaw31.EquivalenceIncludes'. -/
def equivalenceIncludesUptoCard : Claim7 := { stood := { row := equivalenceIncludesUptoRow, standIns := [], harness := (true, "944f9a817011e9fdaa28129e4abfc0b641a974ce1a561774f8fd4804b267c0f8"), looks := false }, kinds := [], alts := [], laidByText := true, laidKinds := [.data, .data, .data], laidTests := true, laidLooks := .later }
def EquivalenceIncludesUptoCardSaid : Prop := Claim7.holds Tryz.pinned (.plain (OpenSpec.upto equivalenceIncludesSpec)) equivalenceIncludesUptoCard

/-- THE SECOND FORM's CARD OF 'tidegatelaw31.EquivalenceSeparates'. -/
def equivalenceSeparatesUptoCard : Claim7 := { stood := { row := equivalenceSeparatesUptoRow, standIns := [], harness := (true, "944f9a817011e9fdaa28129e4abfc0b641a974ce1a561774f8fd4804b267c0f8"), looks := false }, kinds := [], alts := [], laidByText := true, laidKinds := [.data, .data, .data], laidTests := true, laidLooks := .later }
def EquivalenceSeparatesUptoCardSaid : Prop := Claim7.holds Tryz.pinned (.plain (OpenSpec.upto equivalenceSeparatesSpec)) equivalenceSeparatesUptoCard

/-- THE SECOND FORM's CARD OF 'tidegatelaw31.EquivalenceContains'. -/
def equivalenceContainsUptoCard : Claim7 := { stood := { row := equivalenceContainsUptoRow, standIns := [], harness := (true, "944f9a817011e9fdaa28129e4abfc0b641a974ce1a561774f8fd4804b267c0f8"), looks := false }, kinds := [], alts := [], laidByText := true, laidKinds := [.data, .data, .data], laidTests := true, laidLooks := .later }
def EquivalenceContainsUptoCardSaid : Prop := Claim7.holds Tryz.pinned (.plain (OpenSpec.upto equivalenceContainsSpec)) equivalenceContainsUptoCard

/-- THE SECOND FORM's CARD OF 'tidegatelaw31.EquivalenceProves'. -/
def equivalenceProvesUptoCard : Claim7 := { stood := { row := equivalenceProvesUptoRow, standIns := [], harness := (true, "944f9a817011e9fdaa28129e4abfc0b641a974ce1a561774f8fd4804b267c0f8"), looks := false }, kinds := [], alts := [], laidByText := true, laidKinds := [.data, .data, .data], laidTests := true, laidLooks := .later }
def EquivalenceProvesUptoCardSaid : Prop := Claim7.holds Tryz.pinned (.plain (OpenSpec.upto equivalenceProvesSpec)) equivalenceProvesUptoCard

/-- THE SECOND FORM's CARD OF 'tidegatelaw31.EquivalenceBounds'. -/
def equivalenceBoundsUptoCard : Claim7 := { stood := { row := equivalenceBoundsUptoRow, standIns := [], harness := (true, "944f9a817011e9fdaa28129e4abfc0b641a974ce1a561774f8fd4804b267c0f8"), looks := false }, kinds := [], alts := [], laidByText := true, laidKinds := [.data, .data, .data], laidTests := true, laidLooks := .later }
def EquivalenceBoundsUptoCardSaid : Prop := Claim7.holds Tryz.pinned (.plain (OpenSpec.upto equivalenceBoundsSpec)) equivalenceBoundsUptoCard
end Rows
end Go.Proofs.YtjmkolhkojgjpaaGreatDoor
