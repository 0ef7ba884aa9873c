/-
  NARROWER THAN 'FOR EVERY INPUT', by the rows' own cells (each row's printed sentence says how): TopLanguagesKept: laid · TopVerdictsAgree: laid · EquivalenceDecides: laid · EquivalenceVerifies: laid · EquivalenceIncludes: laid · EquivalenceSeparates: laid · EquivalenceContains: laid · EquivalenceProves: laid · EquivalenceBounds: laid.
  DERIVED. THE GIVEN ROWS OF THIS SEAT. 9 by the template 'for every input the law returns true; each argument reads behind the call as it read before'; 0 by the template 'total and deterministic' (their statements: YtjmkolhkojgjpaaGreatDoorTotals.lean).
  GIVEN WITH THE SEED: the statements are not yours to turn. If you find one false, say at which input.
  Laid BY PROGRAM, IN A SANDBOX (cutbox-rows.mjs): the forced cells as the released guide's own fill.sh prints them over the translation 6c8ed486e4a382de… (all of the seat's roots in one cut). By AI agents, Wed Nov 11 2026. No macro, syntax, notation, axiom, sorry.
-/
import Derived.Test.YtjmkolhkojgjpaaGreatDoorChecked
import GoSem.Claim
import GoSem.ClaimJoined
import GoSem.ClaimMapViews
import Derived.JoinedTies
import Derived.KernelRfl
namespace Go.Proofs.YtjmkolhkojgjpaaGreatDoor
/- THE CELL 'sum', in the pinned program and in every row, IS THE sha256 OF THE DUMP (.gsa) THAT YtjmkolhkojgjpaaGreatDoorProg.lean LOADS. Nothing in Lean hashes anything: it is a label: what it is worth is what the hold of that sum in a sandbox is worth. -/
noncomputable def Tryz.pinned : Pinned := { name := "ytjmkolhkojgjpaagreatdoor", sum := "6c8ed486e4a382de24252949108a9a9b94217160682667fb62c7302824f15ead", checked := Tryz.checked }
namespace Rows
def none {H : Type} : Left H := { results := [], args := [] }

/- WHAT THE LISTED PACKAGE-LEVEL VARIABLES READ AS WHEN THE CALL BEGINS. Each datum BY PROGRAM (the guide's laid-datum.mjs) off the statement by which the dump's own 'gosem.cut.vars' lays the variable. In a bare row this is a premise. The card (YtjmkolhkojgjpaaGreatDoorCards.lean) ties it to the program's text. -/
def laid_math_bits_deBruijn32tab {H : Type} : DataW H := .agg [.lit (.int .u8 0), .lit (.int .u8 1), .lit (.int .u8 28), .lit (.int .u8 2), .lit (.int .u8 29), .lit (.int .u8 14), .lit (.int .u8 24), .lit (.int .u8 3), .lit (.int .u8 30), .lit (.int .u8 22), .lit (.int .u8 20), .lit (.int .u8 15), .lit (.int .u8 25), .lit (.int .u8 17), .lit (.int .u8 4), .lit (.int .u8 8), .lit (.int .u8 31), .lit (.int .u8 27), .lit (.int .u8 13), .lit (.int .u8 23), .lit (.int .u8 21), .lit (.int .u8 19), .lit (.int .u8 16), .lit (.int .u8 7), .lit (.int .u8 26), .lit (.int .u8 12), .lit (.int .u8 18), .lit (.int .u8 6), .lit (.int .u8 11), .lit (.int .u8 5), .lit (.int .u8 10), .lit (.int .u8 9)]
def laid_math_bits_deBruijn64tab {H : Type} : DataW H := .agg [.lit (.int .u8 0), .lit (.int .u8 1), .lit (.int .u8 56), .lit (.int .u8 2), .lit (.int .u8 57), .lit (.int .u8 49), .lit (.int .u8 28), .lit (.int .u8 3), .lit (.int .u8 61), .lit (.int .u8 58), .lit (.int .u8 42), .lit (.int .u8 50), .lit (.int .u8 38), .lit (.int .u8 29), .lit (.int .u8 17), .lit (.int .u8 4), .lit (.int .u8 62), .lit (.int .u8 47), .lit (.int .u8 59), .lit (.int .u8 36), .lit (.int .u8 45), .lit (.int .u8 43), .lit (.int .u8 51), .lit (.int .u8 22), .lit (.int .u8 53), .lit (.int .u8 39), .lit (.int .u8 33), .lit (.int .u8 30), .lit (.int .u8 24), .lit (.int .u8 18), .lit (.int .u8 12), .lit (.int .u8 5), .lit (.int .u8 63), .lit (.int .u8 55), .lit (.int .u8 48), .lit (.int .u8 27), .lit (.int .u8 60), .lit (.int .u8 41), .lit (.int .u8 37), .lit (.int .u8 16), .lit (.int .u8 46), .lit (.int .u8 35), .lit (.int .u8 44), .lit (.int .u8 21), .lit (.int .u8 52), .lit (.int .u8 32), .lit (.int .u8 23), .lit (.int .u8 11), .lit (.int .u8 54), .lit (.int .u8 26), .lit (.int .u8 40), .lit (.int .u8 15), .lit (.int .u8 34), .lit (.int .u8 20), .lit (.int .u8 31), .lit (.int .u8 10), .lit (.int .u8 25), .lit (.int .u8 14), .lit (.int .u8 19), .lit (.int .u8 9), .lit (.int .u8 13), .lit (.int .u8 8), .lit (.int .u8 7), .lit (.int .u8 6)]
def laid_internal_strconv_uint64pow10 {H : Type} : DataW H := .agg [.lit (.int .u64 1), .lit (.int .u64 10), .lit (.int .u64 100), .lit (.int .u64 1000), .lit (.int .u64 10000), .lit (.int .u64 100000), .lit (.int .u64 1000000), .lit (.int .u64 10000000), .lit (.int .u64 100000000), .lit (.int .u64 1000000000), .lit (.int .u64 10000000000), .lit (.int .u64 100000000000), .lit (.int .u64 1000000000000), .lit (.int .u64 10000000000000), .lit (.int .u64 100000000000000), .lit (.int .u64 1000000000000000), .lit (.int .u64 10000000000000000), .lit (.int .u64 100000000000000000), .lit (.int .u64 1000000000000000000), .lit (.int .u64 10000000000000000000)]

/-- 'tidegatetop.TopLanguagesKept': WHATEVER THE INPUT: true; the input reads as it did. -/
def topLanguagesKeptSpec : ChangeSpec := { name := "topLanguagesKept", fn := fun _ => fun
  | [d1, d2] => { results := [.lit (.bool true)], args := [d1, d2] }
  | _ => none }
def topLanguagesKeptRow : OpenClaim := { program := "ytjmkolhkojgjpaagreatdoor", sum := "6c8ed486e4a382de24252949108a9a9b94217160682667fb62c7302824f15ead", func := "tidegate/tidegatetop.TopLanguagesKept", spec := "topLanguagesKept", unfollowed := true, recurses := true, named := ["internal/strconv.uint64pow10", "math/bits.deBruijn32tab", "math/bits.deBruijn64tab"], plainKeys := false, apart := false, laid := [("math/bits.deBruijn32tab", laid_math_bits_deBruijn32tab), ("math/bits.deBruijn64tab", laid_math_bits_deBruijn64tab), ("internal/strconv.uint64pow10", laid_internal_strconv_uint64pow10)] }
def TopLanguagesKeptSaid : Prop := topLanguagesKeptRow.holds Tryz.pinned (OpenSpec.ofChange topLanguagesKeptSpec)

/-- ITS FALSE NEIGHBOUR: 'it returns false'. Refute it at one input. -/
def topLanguagesKeptWrong : ChangeSpec := { name := "topLanguagesKept", fn := fun _ => fun
  | [d1, d2] => { results := [.lit (.bool false)], args := [d1, d2] }
  | _ => none }
def TopLanguagesKeptWrongFalsely : Prop := topLanguagesKeptRow.holds Tryz.pinned (OpenSpec.ofChange topLanguagesKeptWrong)

/-- 'tidegatetop.TopVerdictsAgree': WHATEVER THE INPUT: true; the input reads as it did. -/
def topVerdictsAgreeSpec : ChangeSpec := { name := "topVerdictsAgree", fn := fun _ => fun
  | [d1, d2] => { results := [.lit (.bool true)], args := [d1, d2] }
  | _ => none }
def topVerdictsAgreeRow : OpenClaim := { program := "ytjmkolhkojgjpaagreatdoor", sum := "6c8ed486e4a382de24252949108a9a9b94217160682667fb62c7302824f15ead", func := "tidegate/tidegatetop.TopVerdictsAgree", spec := "topVerdictsAgree", unfollowed := true, recurses := true, named := ["internal/strconv.uint64pow10", "math/bits.deBruijn32tab", "math/bits.deBruijn64tab"], plainKeys := false, apart := false, laid := [("math/bits.deBruijn32tab", laid_math_bits_deBruijn32tab), ("math/bits.deBruijn64tab", laid_math_bits_deBruijn64tab), ("internal/strconv.uint64pow10", laid_internal_strconv_uint64pow10)] }
def TopVerdictsAgreeSaid : Prop := topVerdictsAgreeRow.holds Tryz.pinned (OpenSpec.ofChange topVerdictsAgreeSpec)

/-- ITS FALSE NEIGHBOUR: 'it returns false'. Refute it at one input. -/
def topVerdictsAgreeWrong : ChangeSpec := { name := "topVerdictsAgree", fn := fun _ => fun
  | [d1, d2] => { results := [.lit (.bool false)], args := [d1, d2] }
  | _ => none }
def TopVerdictsAgreeWrongFalsely : Prop := topVerdictsAgreeRow.holds Tryz.pinned (OpenSpec.ofChange topVerdictsAgreeWrong)

/-- 'tidegatelaw31.EquivalenceDecides': WHATEVER THE INPUT: true; the input reads as it did. -/
def equivalenceDecidesSpec : ChangeSpec := { name := "equivalenceDecides", fn := fun _ => fun
  | [d1, d2] => { results := [.lit (.bool true)], args := [d1, d2] }
  | _ => none }
def equivalenceDecidesRow : OpenClaim := { program := "ytjmkolhkojgjpaagreatdoor", sum := "6c8ed486e4a382de24252949108a9a9b94217160682667fb62c7302824f15ead", func := "tidegate/tidegatelaw31.EquivalenceDecides", spec := "equivalenceDecides", unfollowed := true, recurses := true, named := ["internal/strconv.uint64pow10", "math/bits.deBruijn32tab", "math/bits.deBruijn64tab"], plainKeys := false, apart := false, laid := [("math/bits.deBruijn32tab", laid_math_bits_deBruijn32tab), ("math/bits.deBruijn64tab", laid_math_bits_deBruijn64tab), ("internal/strconv.uint64pow10", laid_internal_strconv_uint64pow10)] }
def EquivalenceDecidesSaid : Prop := equivalenceDecidesRow.holds Tryz.pinned (OpenSpec.ofChange equivalenceDecidesSpec)

/-- ITS FALSE NEIGHBOUR: 'it returns false'. Refute it at one input. -/
def equivalenceDecidesWrong : ChangeSpec := { name := "equivalenceDecides", fn := fun _ => fun
  | [d1, d2] => { results := [.lit (.bool false)], args := [d1, d2] }
  | _ => none }
def EquivalenceDecidesWrongFalsely : Prop := equivalenceDecidesRow.holds Tryz.pinned (OpenSpec.ofChange equivalenceDecidesWrong)

/-- 'tidegatelaw31.EquivalenceVerifies': WHATEVER THE INPUT: true; the input reads as it did. -/
def equivalenceVerifiesSpec : ChangeSpec := { name := "equivalenceVerifies", fn := fun _ => fun
  | [d1, d2, d3] => { results := [.lit (.bool true)], args := [d1, d2, d3] }
  | _ => none }
def equivalenceVerifiesRow : OpenClaim := { program := "ytjmkolhkojgjpaagreatdoor", sum := "6c8ed486e4a382de24252949108a9a9b94217160682667fb62c7302824f15ead", func := "tidegate/tidegatelaw31.EquivalenceVerifies", spec := "equivalenceVerifies", unfollowed := true, recurses := true, named := ["internal/strconv.uint64pow10", "math/bits.deBruijn32tab", "math/bits.deBruijn64tab"], plainKeys := false, apart := false, laid := [("math/bits.deBruijn32tab", laid_math_bits_deBruijn32tab), ("math/bits.deBruijn64tab", laid_math_bits_deBruijn64tab), ("internal/strconv.uint64pow10", laid_internal_strconv_uint64pow10)] }
def EquivalenceVerifiesSaid : Prop := equivalenceVerifiesRow.holds Tryz.pinned (OpenSpec.ofChange equivalenceVerifiesSpec)

/-- ITS FALSE NEIGHBOUR: 'it returns false'. Refute it at one input. -/
def equivalenceVerifiesWrong : ChangeSpec := { name := "equivalenceVerifies", fn := fun _ => fun
  | [d1, d2, d3] => { results := [.lit (.bool false)], args := [d1, d2, d3] }
  | _ => none }
def EquivalenceVerifiesWrongFalsely : Prop := equivalenceVerifiesRow.holds Tryz.pinned (OpenSpec.ofChange equivalenceVerifiesWrong)

/-- 'tidegatelaw31.EquivalenceIncludes': WHATEVER THE INPUT: true; the input reads as it did. -/
def equivalenceIncludesSpec : ChangeSpec := { name := "equivalenceIncludes", fn := fun _ => fun
  | [d1, d2] => { results := [.lit (.bool true)], args := [d1, d2] }
  | _ => none }
def equivalenceIncludesRow : OpenClaim := { program := "ytjmkolhkojgjpaagreatdoor", sum := "6c8ed486e4a382de24252949108a9a9b94217160682667fb62c7302824f15ead", func := "tidegate/tidegatelaw31.EquivalenceIncludes", spec := "equivalenceIncludes", unfollowed := true, recurses := true, named := ["internal/strconv.uint64pow10", "math/bits.deBruijn32tab", "math/bits.deBruijn64tab"], plainKeys := false, apart := false, laid := [("math/bits.deBruijn32tab", laid_math_bits_deBruijn32tab), ("math/bits.deBruijn64tab", laid_math_bits_deBruijn64tab), ("internal/strconv.uint64pow10", laid_internal_strconv_uint64pow10)] }
def EquivalenceIncludesSaid : Prop := equivalenceIncludesRow.holds Tryz.pinned (OpenSpec.ofChange equivalenceIncludesSpec)

/-- ITS FALSE NEIGHBOUR: 'it returns false'. Refute it at one input. -/
def equivalenceIncludesWrong : ChangeSpec := { name := "equivalenceIncludes", fn := fun _ => fun
  | [d1, d2] => { results := [.lit (.bool false)], args := [d1, d2] }
  | _ => none }
def EquivalenceIncludesWrongFalsely : Prop := equivalenceIncludesRow.holds Tryz.pinned (OpenSpec.ofChange equivalenceIncludesWrong)

/-- 'tidegatelaw31.EquivalenceSeparates': WHATEVER THE INPUT: true; the input reads as it did. -/
def equivalenceSeparatesSpec : ChangeSpec := { name := "equivalenceSeparates", fn := fun _ => fun
  | [d1, d2] => { results := [.lit (.bool true)], args := [d1, d2] }
  | _ => none }
def equivalenceSeparatesRow : OpenClaim := { program := "ytjmkolhkojgjpaagreatdoor", sum := "6c8ed486e4a382de24252949108a9a9b94217160682667fb62c7302824f15ead", func := "tidegate/tidegatelaw31.EquivalenceSeparates", spec := "equivalenceSeparates", unfollowed := true, recurses := true, named := ["internal/strconv.uint64pow10", "math/bits.deBruijn32tab", "math/bits.deBruijn64tab"], plainKeys := false, apart := false, laid := [("math/bits.deBruijn32tab", laid_math_bits_deBruijn32tab), ("math/bits.deBruijn64tab", laid_math_bits_deBruijn64tab), ("internal/strconv.uint64pow10", laid_internal_strconv_uint64pow10)] }
def EquivalenceSeparatesSaid : Prop := equivalenceSeparatesRow.holds Tryz.pinned (OpenSpec.ofChange equivalenceSeparatesSpec)

/-- ITS FALSE NEIGHBOUR: 'it returns false'. Refute it at one input. -/
def equivalenceSeparatesWrong : ChangeSpec := { name := "equivalenceSeparates", fn := fun _ => fun
  | [d1, d2] => { results := [.lit (.bool false)], args := [d1, d2] }
  | _ => none }
def EquivalenceSeparatesWrongFalsely : Prop := equivalenceSeparatesRow.holds Tryz.pinned (OpenSpec.ofChange equivalenceSeparatesWrong)

/-- 'tidegatelaw31.EquivalenceContains': WHATEVER THE INPUT: true; the input reads as it did. -/
def equivalenceContainsSpec : ChangeSpec := { name := "equivalenceContains", fn := fun _ => fun
  | [d1, d2] => { results := [.lit (.bool true)], args := [d1, d2] }
  | _ => none }
def equivalenceContainsRow : OpenClaim := { program := "ytjmkolhkojgjpaagreatdoor", sum := "6c8ed486e4a382de24252949108a9a9b94217160682667fb62c7302824f15ead", func := "tidegate/tidegatelaw31.EquivalenceContains", spec := "equivalenceContains", unfollowed := true, recurses := true, named := ["internal/strconv.uint64pow10", "math/bits.deBruijn32tab", "math/bits.deBruijn64tab"], plainKeys := false, apart := false, laid := [("math/bits.deBruijn32tab", laid_math_bits_deBruijn32tab), ("math/bits.deBruijn64tab", laid_math_bits_deBruijn64tab), ("internal/strconv.uint64pow10", laid_internal_strconv_uint64pow10)] }
def EquivalenceContainsSaid : Prop := equivalenceContainsRow.holds Tryz.pinned (OpenSpec.ofChange equivalenceContainsSpec)

/-- ITS FALSE NEIGHBOUR: 'it returns false'. Refute it at one input. -/
def equivalenceContainsWrong : ChangeSpec := { name := "equivalenceContains", fn := fun _ => fun
  | [d1, d2] => { results := [.lit (.bool false)], args := [d1, d2] }
  | _ => none }
def EquivalenceContainsWrongFalsely : Prop := equivalenceContainsRow.holds Tryz.pinned (OpenSpec.ofChange equivalenceContainsWrong)

/-- 'tidegatelaw31.EquivalenceProves': WHATEVER THE INPUT: true; the input reads as it did. -/
def equivalenceProvesSpec : ChangeSpec := { name := "equivalenceProves", fn := fun _ => fun
  | [d1, d2, d3] => { results := [.lit (.bool true)], args := [d1, d2, d3] }
  | _ => none }
def equivalenceProvesRow : OpenClaim := { program := "ytjmkolhkojgjpaagreatdoor", sum := "6c8ed486e4a382de24252949108a9a9b94217160682667fb62c7302824f15ead", func := "tidegate/tidegatelaw31.EquivalenceProves", spec := "equivalenceProves", unfollowed := true, recurses := true, named := ["internal/strconv.uint64pow10", "math/bits.deBruijn32tab", "math/bits.deBruijn64tab"], plainKeys := false, apart := false, laid := [("math/bits.deBruijn32tab", laid_math_bits_deBruijn32tab), ("math/bits.deBruijn64tab", laid_math_bits_deBruijn64tab), ("internal/strconv.uint64pow10", laid_internal_strconv_uint64pow10)] }
def EquivalenceProvesSaid : Prop := equivalenceProvesRow.holds Tryz.pinned (OpenSpec.ofChange equivalenceProvesSpec)

/-- ITS FALSE NEIGHBOUR: 'it returns false'. Refute it at one input. -/
def equivalenceProvesWrong : ChangeSpec := { name := "equivalenceProves", fn := fun _ => fun
  | [d1, d2, d3] => { results := [.lit (.bool false)], args := [d1, d2, d3] }
  | _ => none }
def EquivalenceProvesWrongFalsely : Prop := equivalenceProvesRow.holds Tryz.pinned (OpenSpec.ofChange equivalenceProvesWrong)

/-- 'tidegatelaw31.EquivalenceBounds': WHATEVER THE INPUT: true; the input reads as it did. -/
def equivalenceBoundsSpec : ChangeSpec := { name := "equivalenceBounds", fn := fun _ => fun
  | [d1, d2] => { results := [.lit (.bool true)], args := [d1, d2] }
  | _ => none }
def equivalenceBoundsRow : OpenClaim := { program := "ytjmkolhkojgjpaagreatdoor", sum := "6c8ed486e4a382de24252949108a9a9b94217160682667fb62c7302824f15ead", func := "tidegate/tidegatelaw31.EquivalenceBounds", spec := "equivalenceBounds", unfollowed := true, recurses := true, named := ["internal/strconv.uint64pow10", "math/bits.deBruijn32tab", "math/bits.deBruijn64tab"], plainKeys := false, apart := false, laid := [("math/bits.deBruijn32tab", laid_math_bits_deBruijn32tab), ("math/bits.deBruijn64tab", laid_math_bits_deBruijn64tab), ("internal/strconv.uint64pow10", laid_internal_strconv_uint64pow10)] }
def EquivalenceBoundsSaid : Prop := equivalenceBoundsRow.holds Tryz.pinned (OpenSpec.ofChange equivalenceBoundsSpec)

/-- ITS FALSE NEIGHBOUR: 'it returns false'. Refute it at one input. -/
def equivalenceBoundsWrong : ChangeSpec := { name := "equivalenceBounds", fn := fun _ => fun
  | [d1, d2] => { results := [.lit (.bool false)], args := [d1, d2] }
  | _ => none }
def EquivalenceBoundsWrongFalsely : Prop := equivalenceBoundsRow.holds Tryz.pinned (OpenSpec.ofChange equivalenceBoundsWrong)

/- THE SECOND FORM. 'bulk': how many values and letters a reading holds, each counted each time it is reached (what is shared counts as often as it is met; a slice's spare places count too). A statement '..UptoSaid' is the law's where the arguments, and the package variables that the reading takes, are together of bulk at most 1048576: NARROWER than '..Said'. Prove '..Said' where nothing that the law and all that it calls make is longer than what came in: it says more and counts as full. Else prove '..UptoSaid'. A law counts once. -/
mutual
def uptoBulk {H : Type} : DataW H → Nat
  | .lit (.string bytes) => bytes.length + 1
  | .lit _ => 1
  | .nil => 1
  | .ptr d => uptoBulk d + 1
  | .slice elems spare => uptoBulkAll elems + uptoBulkAll spare + 1
  | .agg parts => uptoBulkAll parts + 1
  | .iface _ d => uptoBulk d + 1
  | .map entries => uptoBulkEntries entries + 1
  | .held _ => 1
def uptoBulkAll {H : Type} : List (DataW H) → Nat
  | [] => 0
  | d :: r => uptoBulk d + uptoBulkAll r
def uptoBulkEntries {H : Type} : List (Lit × DataW H) → Nat
  | [] => 0
  | x :: r => uptoBulkEntry x + uptoBulkEntries r
def uptoBulkEntry {H : Type} : Lit × DataW H → Nat
  | (.string bytes, d) => bytes.length + uptoBulk d + 1
  | (_, d) => uptoBulk d + 1
 end
def uptoSmall : (H : Type) → List (DataW H) → Bool := fun _ ds => decide (uptoBulkAll ds ≤ 1048576)
def OpenSpec.upto (s : _root_.Go.ChangeSpec) : _root_.Go.OpenSpec := { _root_.Go.OpenSpec.ofChange s with cond := some uptoSmall }

/-- 'tidegatetop.TopLanguagesKept', WHERE WHAT IT READS IS OF BULK AT MOST 1048576: true; the input reads as it did. -/
def topLanguagesKeptUptoRow : OpenClaim := { program := "ytjmkolhkojgjpaagreatdoor", sum := "6c8ed486e4a382de24252949108a9a9b94217160682667fb62c7302824f15ead", func := "tidegate/tidegatetop.TopLanguagesKept", spec := "topLanguagesKept", unfollowed := true, recurses := true, named := ["internal/strconv.uint64pow10", "math/bits.deBruijn32tab", "math/bits.deBruijn64tab"], plainKeys := false, apart := false, laid := [("math/bits.deBruijn32tab", laid_math_bits_deBruijn32tab), ("math/bits.deBruijn64tab", laid_math_bits_deBruijn64tab), ("internal/strconv.uint64pow10", laid_internal_strconv_uint64pow10)], narrowed := true }
def TopLanguagesKeptUptoSaid : Prop := topLanguagesKeptUptoRow.holds Tryz.pinned (OpenSpec.upto topLanguagesKeptSpec)

/-- 'tidegatetop.TopVerdictsAgree', WHERE WHAT IT READS IS OF BULK AT MOST 1048576: true; the input reads as it did. -/
def topVerdictsAgreeUptoRow : OpenClaim := { program := "ytjmkolhkojgjpaagreatdoor", sum := "6c8ed486e4a382de24252949108a9a9b94217160682667fb62c7302824f15ead", func := "tidegate/tidegatetop.TopVerdictsAgree", spec := "topVerdictsAgree", unfollowed := true, recurses := true, named := ["internal/strconv.uint64pow10", "math/bits.deBruijn32tab", "math/bits.deBruijn64tab"], plainKeys := false, apart := false, laid := [("math/bits.deBruijn32tab", laid_math_bits_deBruijn32tab), ("math/bits.deBruijn64tab", laid_math_bits_deBruijn64tab), ("internal/strconv.uint64pow10", laid_internal_strconv_uint64pow10)], narrowed := true }
def TopVerdictsAgreeUptoSaid : Prop := topVerdictsAgreeUptoRow.holds Tryz.pinned (OpenSpec.upto topVerdictsAgreeSpec)

/-- 'tidegatelaw31.EquivalenceDecides', WHERE WHAT IT READS IS OF BULK AT MOST 1048576: true; the input reads as it did. -/
def equivalenceDecidesUptoRow : OpenClaim := { program := "ytjmkolhkojgjpaagreatdoor", sum := "6c8ed486e4a382de24252949108a9a9b94217160682667fb62c7302824f15ead", func := "tidegate/tidegatelaw31.EquivalenceDecides", spec := "equivalenceDecides", unfollowed := true, recurses := true, named := ["internal/strconv.uint64pow10", "math/bits.deBruijn32tab", "math/bits.deBruijn64tab"], plainKeys := false, apart := false, laid := [("math/bits.deBruijn32tab", laid_math_bits_deBruijn32tab), ("math/bits.deBruijn64tab", laid_math_bits_deBruijn64tab), ("internal/strconv.uint64pow10", laid_internal_strconv_uint64pow10)], narrowed := true }
def EquivalenceDecidesUptoSaid : Prop := equivalenceDecidesUptoRow.holds Tryz.pinned (OpenSpec.upto equivalenceDecidesSpec)

/-- 'tidegatelaw31.EquivalenceVerifies', WHERE WHAT IT READS IS OF BULK AT MOST 1048576: true; the input reads as it did. -/
def equivalenceVerifiesUptoRow : OpenClaim := { program := "ytjmkolhkojgjpaagreatdoor", sum := "6c8ed486e4a382de24252949108a9a9b94217160682667fb62c7302824f15ead", func := "tidegate/tidegatelaw31.EquivalenceVerifies", spec := "equivalenceVerifies", unfollowed := true, recurses := true, named := ["internal/strconv.uint64pow10", "math/bits.deBruijn32tab", "math/bits.deBruijn64tab"], plainKeys := false, apart := false, laid := [("math/bits.deBruijn32tab", laid_math_bits_deBruijn32tab), ("math/bits.deBruijn64tab", laid_math_bits_deBruijn64tab), ("internal/strconv.uint64pow10", laid_internal_strconv_uint64pow10)], narrowed := true }
def EquivalenceVerifiesUptoSaid : Prop := equivalenceVerifiesUptoRow.holds Tryz.pinned (OpenSpec.upto equivalenceVerifiesSpec)

/-- 'tidegatelaw31.EquivalenceIncludes', WHERE WHAT IT READS IS OF BULK AT MOST 1048576: true; the input reads as it did. -/
def equivalenceIncludesUptoRow : OpenClaim := { program := "ytjmkolhkojgjpaagreatdoor", sum := "6c8ed486e4a382de24252949108a9a9b94217160682667fb62c7302824f15ead", func := "tidegate/tidegatelaw31.EquivalenceIncludes", spec := "equivalenceIncludes", unfollowed := true, recurses := true, named := ["internal/strconv.uint64pow10", "math/bits.deBruijn32tab", "math/bits.deBruijn64tab"], plainKeys := false, apart := false, laid := [("math/bits.deBruijn32tab", laid_math_bits_deBruijn32tab), ("math/bits.deBruijn64tab", laid_math_bits_deBruijn64tab), ("internal/strconv.uint64pow10", laid_internal_strconv_uint64pow10)], narrowed := true }
def EquivalenceIncludesUptoSaid : Prop := equivalenceIncludesUptoRow.holds Tryz.pinned (OpenSpec.upto equivalenceIncludesSpec)

/-- 'tidegatelaw31.EquivalenceSeparates', WHERE WHAT IT READS IS OF BULK AT MOST 1048576: true; the input reads as it did. -/
def equivalenceSeparatesUptoRow : OpenClaim := { program := "ytjmkolhkojgjpaagreatdoor", sum := "6c8ed486e4a382de24252949108a9a9b94217160682667fb62c7302824f15ead", func := "tidegate/tidegatelaw31.EquivalenceSeparates", spec := "equivalenceSeparates", unfollowed := true, recurses := true, named := ["internal/strconv.uint64pow10", "math/bits.deBruijn32tab", "math/bits.deBruijn64tab"], plainKeys := false, apart := false, laid := [("math/bits.deBruijn32tab", laid_math_bits_deBruijn32tab), ("math/bits.deBruijn64tab", laid_math_bits_deBruijn64tab), ("internal/strconv.uint64pow10", laid_internal_strconv_uint64pow10)], narrowed := true }
def EquivalenceSeparatesUptoSaid : Prop := equivalenceSeparatesUptoRow.holds Tryz.pinned (OpenSpec.upto equivalenceSeparatesSpec)

/-- 'tidegatelaw31.EquivalenceContains', WHERE WHAT IT READS IS OF BULK AT MOST 1048576: true; the input reads as it did. -/
def equivalenceContainsUptoRow : OpenClaim := { program := "ytjmkolhkojgjpaagreatdoor", sum := "6c8ed486e4a382de24252949108a9a9b94217160682667fb62c7302824f15ead", func := "tidegate/tidegatelaw31.EquivalenceContains", spec := "equivalenceContains", unfollowed := true, recurses := true, named := ["internal/strconv.uint64pow10", "math/bits.deBruijn32tab", "math/bits.deBruijn64tab"], plainKeys := false, apart := false, laid := [("math/bits.deBruijn32tab", laid_math_bits_deBruijn32tab), ("math/bits.deBruijn64tab", laid_math_bits_deBruijn64tab), ("internal/strconv.uint64pow10", laid_internal_strconv_uint64pow10)], narrowed := true }
def EquivalenceContainsUptoSaid : Prop := equivalenceContainsUptoRow.holds Tryz.pinned (OpenSpec.upto equivalenceContainsSpec)

/-- 'tidegatelaw31.EquivalenceProves', WHERE WHAT IT READS IS OF BULK AT MOST 1048576: true; the input reads as it did. -/
def equivalenceProvesUptoRow : OpenClaim := { program := "ytjmkolhkojgjpaagreatdoor", sum := "6c8ed486e4a382de24252949108a9a9b94217160682667fb62c7302824f15ead", func := "tidegate/tidegatelaw31.EquivalenceProves", spec := "equivalenceProves", unfollowed := true, recurses := true, named := ["internal/strconv.uint64pow10", "math/bits.deBruijn32tab", "math/bits.deBruijn64tab"], plainKeys := false, apart := false, laid := [("math/bits.deBruijn32tab", laid_math_bits_deBruijn32tab), ("math/bits.deBruijn64tab", laid_math_bits_deBruijn64tab), ("internal/strconv.uint64pow10", laid_internal_strconv_uint64pow10)], narrowed := true }
def EquivalenceProvesUptoSaid : Prop := equivalenceProvesUptoRow.holds Tryz.pinned (OpenSpec.upto equivalenceProvesSpec)

/-- 'tidegatelaw31.EquivalenceBounds', WHERE WHAT IT READS IS OF BULK AT MOST 1048576: true; the input reads as it did. -/
def equivalenceBoundsUptoRow : OpenClaim := { program := "ytjmkolhkojgjpaagreatdoor", sum := "6c8ed486e4a382de24252949108a9a9b94217160682667fb62c7302824f15ead", func := "tidegate/tidegatelaw31.EquivalenceBounds", spec := "equivalenceBounds", unfollowed := true, recurses := true, named := ["internal/strconv.uint64pow10", "math/bits.deBruijn32tab", "math/bits.deBruijn64tab"], plainKeys := false, apart := false, laid := [("math/bits.deBruijn32tab", laid_math_bits_deBruijn32tab), ("math/bits.deBruijn64tab", laid_math_bits_deBruijn64tab), ("internal/strconv.uint64pow10", laid_internal_strconv_uint64pow10)], narrowed := true }
def EquivalenceBoundsUptoSaid : Prop := equivalenceBoundsUptoRow.holds Tryz.pinned (OpenSpec.upto equivalenceBoundsSpec)

end Rows
end Go.Proofs.YtjmkolhkojgjpaaGreatDoor
