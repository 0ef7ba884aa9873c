/-
  NARROWER THAN 'FOR EVERY INPUT', by the rows' own cells (each row's printed sentence says how): DeterminizeSubsets: laid · DeterminizeBuilds: laid · DeterminizeCompletes: laid · MinimizeBuilds: laid · MinimizeClasses: laid · MinimizeParts: laid · MinimizeRefines: laid · MinimizeNumbers: laid · MinimizeRenumbers: laid · MinimizeKeeps: laid.
  DERIVED. THE GIVEN ROWS OF THIS SEAT. 10 by the template 'for every input the law returns true; each argument reads behind the call as it read before'; 0 by the template 'total and deterministic' (their statements: YteghceocnldccaaGreatDoorTotals.lean).
  GIVEN WITH THE SEED: the statements are not yours to turn. If you find one false, say at which input.
  Laid BY PROGRAM, IN A SANDBOX (cutbox-rows.mjs): the forced cells as the released guide's own fill.sh prints them over the translation d18407eb578ac061… (all of the seat's roots in one cut). By AI agents, Wed Nov 11 2026. No macro, syntax, notation, axiom, sorry.
-/
import Derived.Test.YteghceocnldccaaGreatDoorChecked
import GoSem.Claim
import GoSem.ClaimJoined
import GoSem.ClaimMapViews
import Derived.JoinedTies
import Derived.KernelRfl
namespace Go.Proofs.YteghceocnldccaaGreatDoor
/- THE CELL 'sum', in the pinned program and in every row, IS THE sha256 OF THE DUMP (.gsa) THAT YteghceocnldccaaGreatDoorProg.lean LOADS. Nothing in Lean hashes anything: it is a label: what it is worth is what the hold of that sum in a sandbox is worth. -/
noncomputable def Tryz.pinned : Pinned := { name := "yteghceocnldccaagreatdoor", sum := "d18407eb578ac0611d112cf7a861257d92b4063a52262a4d3471e9896ede9c51", checked := Tryz.checked }
namespace Rows
def none {H : Type} : Left H := { results := [], args := [] }

/- WHAT THE LISTED PACKAGE-LEVEL VARIABLES READ AS WHEN THE CALL BEGINS. Each datum BY PROGRAM (the guide's laid-datum.mjs) off the statement by which the dump's own 'gosem.cut.vars' lays the variable. In a bare row this is a premise. The card (YteghceocnldccaaGreatDoorCards.lean) ties it to the program's text. -/
def laid_math_bits_deBruijn32tab {H : Type} : DataW H := .agg [.lit (.int .u8 0), .lit (.int .u8 1), .lit (.int .u8 28), .lit (.int .u8 2), .lit (.int .u8 29), .lit (.int .u8 14), .lit (.int .u8 24), .lit (.int .u8 3), .lit (.int .u8 30), .lit (.int .u8 22), .lit (.int .u8 20), .lit (.int .u8 15), .lit (.int .u8 25), .lit (.int .u8 17), .lit (.int .u8 4), .lit (.int .u8 8), .lit (.int .u8 31), .lit (.int .u8 27), .lit (.int .u8 13), .lit (.int .u8 23), .lit (.int .u8 21), .lit (.int .u8 19), .lit (.int .u8 16), .lit (.int .u8 7), .lit (.int .u8 26), .lit (.int .u8 12), .lit (.int .u8 18), .lit (.int .u8 6), .lit (.int .u8 11), .lit (.int .u8 5), .lit (.int .u8 10), .lit (.int .u8 9)]
def laid_math_bits_deBruijn64tab {H : Type} : DataW H := .agg [.lit (.int .u8 0), .lit (.int .u8 1), .lit (.int .u8 56), .lit (.int .u8 2), .lit (.int .u8 57), .lit (.int .u8 49), .lit (.int .u8 28), .lit (.int .u8 3), .lit (.int .u8 61), .lit (.int .u8 58), .lit (.int .u8 42), .lit (.int .u8 50), .lit (.int .u8 38), .lit (.int .u8 29), .lit (.int .u8 17), .lit (.int .u8 4), .lit (.int .u8 62), .lit (.int .u8 47), .lit (.int .u8 59), .lit (.int .u8 36), .lit (.int .u8 45), .lit (.int .u8 43), .lit (.int .u8 51), .lit (.int .u8 22), .lit (.int .u8 53), .lit (.int .u8 39), .lit (.int .u8 33), .lit (.int .u8 30), .lit (.int .u8 24), .lit (.int .u8 18), .lit (.int .u8 12), .lit (.int .u8 5), .lit (.int .u8 63), .lit (.int .u8 55), .lit (.int .u8 48), .lit (.int .u8 27), .lit (.int .u8 60), .lit (.int .u8 41), .lit (.int .u8 37), .lit (.int .u8 16), .lit (.int .u8 46), .lit (.int .u8 35), .lit (.int .u8 44), .lit (.int .u8 21), .lit (.int .u8 52), .lit (.int .u8 32), .lit (.int .u8 23), .lit (.int .u8 11), .lit (.int .u8 54), .lit (.int .u8 26), .lit (.int .u8 40), .lit (.int .u8 15), .lit (.int .u8 34), .lit (.int .u8 20), .lit (.int .u8 31), .lit (.int .u8 10), .lit (.int .u8 25), .lit (.int .u8 14), .lit (.int .u8 19), .lit (.int .u8 9), .lit (.int .u8 13), .lit (.int .u8 8), .lit (.int .u8 7), .lit (.int .u8 6)]
def laid_internal_strconv_uint64pow10 {H : Type} : DataW H := .agg [.lit (.int .u64 1), .lit (.int .u64 10), .lit (.int .u64 100), .lit (.int .u64 1000), .lit (.int .u64 10000), .lit (.int .u64 100000), .lit (.int .u64 1000000), .lit (.int .u64 10000000), .lit (.int .u64 100000000), .lit (.int .u64 1000000000), .lit (.int .u64 10000000000), .lit (.int .u64 100000000000), .lit (.int .u64 1000000000000), .lit (.int .u64 10000000000000), .lit (.int .u64 100000000000000), .lit (.int .u64 1000000000000000), .lit (.int .u64 10000000000000000), .lit (.int .u64 100000000000000000), .lit (.int .u64 1000000000000000000), .lit (.int .u64 10000000000000000000)]

/-- 'tidegatelaw29.DeterminizeSubsets': WHATEVER THE INPUT: true; the input reads as it did. -/
def determinizeSubsetsSpec : ChangeSpec := { name := "determinizeSubsets", fn := fun _ => fun
  | [d] => { results := [.lit (.bool true)], args := [d] }
  | _ => none }
def determinizeSubsetsRow : OpenClaim := { program := "yteghceocnldccaagreatdoor", sum := "d18407eb578ac0611d112cf7a861257d92b4063a52262a4d3471e9896ede9c51", func := "tidegate/tidegatelaw29.DeterminizeSubsets", spec := "determinizeSubsets", unfollowed := true, recurses := true, named := ["internal/strconv.uint64pow10", "math/bits.deBruijn32tab", "math/bits.deBruijn64tab"], plainKeys := false, apart := false, laid := [("math/bits.deBruijn32tab", laid_math_bits_deBruijn32tab), ("math/bits.deBruijn64tab", laid_math_bits_deBruijn64tab), ("internal/strconv.uint64pow10", laid_internal_strconv_uint64pow10)] }
def DeterminizeSubsetsSaid : Prop := determinizeSubsetsRow.holds Tryz.pinned (OpenSpec.ofChange determinizeSubsetsSpec)

/-- ITS FALSE NEIGHBOUR: 'it returns false'. Refute it at one input. -/
def determinizeSubsetsWrong : ChangeSpec := { name := "determinizeSubsets", fn := fun _ => fun
  | [d] => { results := [.lit (.bool false)], args := [d] }
  | _ => none }
def DeterminizeSubsetsWrongFalsely : Prop := determinizeSubsetsRow.holds Tryz.pinned (OpenSpec.ofChange determinizeSubsetsWrong)

/-- 'tidegatelaw29.DeterminizeBuilds': WHATEVER THE INPUT: true; the input reads as it did. -/
def determinizeBuildsSpec : ChangeSpec := { name := "determinizeBuilds", fn := fun _ => fun
  | [d] => { results := [.lit (.bool true)], args := [d] }
  | _ => none }
def determinizeBuildsRow : OpenClaim := { program := "yteghceocnldccaagreatdoor", sum := "d18407eb578ac0611d112cf7a861257d92b4063a52262a4d3471e9896ede9c51", func := "tidegate/tidegatelaw29.DeterminizeBuilds", spec := "determinizeBuilds", unfollowed := true, recurses := true, named := ["internal/strconv.uint64pow10", "math/bits.deBruijn32tab", "math/bits.deBruijn64tab"], plainKeys := false, apart := false, laid := [("math/bits.deBruijn32tab", laid_math_bits_deBruijn32tab), ("math/bits.deBruijn64tab", laid_math_bits_deBruijn64tab), ("internal/strconv.uint64pow10", laid_internal_strconv_uint64pow10)] }
def DeterminizeBuildsSaid : Prop := determinizeBuildsRow.holds Tryz.pinned (OpenSpec.ofChange determinizeBuildsSpec)

/-- ITS FALSE NEIGHBOUR: 'it returns false'. Refute it at one input. -/
def determinizeBuildsWrong : ChangeSpec := { name := "determinizeBuilds", fn := fun _ => fun
  | [d] => { results := [.lit (.bool false)], args := [d] }
  | _ => none }
def DeterminizeBuildsWrongFalsely : Prop := determinizeBuildsRow.holds Tryz.pinned (OpenSpec.ofChange determinizeBuildsWrong)

/-- 'tidegatelaw29.DeterminizeCompletes': WHATEVER THE INPUT: true; the input reads as it did. -/
def determinizeCompletesSpec : ChangeSpec := { name := "determinizeCompletes", fn := fun _ => fun
  | [d] => { results := [.lit (.bool true)], args := [d] }
  | _ => none }
def determinizeCompletesRow : OpenClaim := { program := "yteghceocnldccaagreatdoor", sum := "d18407eb578ac0611d112cf7a861257d92b4063a52262a4d3471e9896ede9c51", func := "tidegate/tidegatelaw29.DeterminizeCompletes", spec := "determinizeCompletes", unfollowed := true, recurses := true, named := ["internal/strconv.uint64pow10", "math/bits.deBruijn32tab", "math/bits.deBruijn64tab"], plainKeys := false, apart := false, laid := [("math/bits.deBruijn32tab", laid_math_bits_deBruijn32tab), ("math/bits.deBruijn64tab", laid_math_bits_deBruijn64tab), ("internal/strconv.uint64pow10", laid_internal_strconv_uint64pow10)] }
def DeterminizeCompletesSaid : Prop := determinizeCompletesRow.holds Tryz.pinned (OpenSpec.ofChange determinizeCompletesSpec)

/-- ITS FALSE NEIGHBOUR: 'it returns false'. Refute it at one input. -/
def determinizeCompletesWrong : ChangeSpec := { name := "determinizeCompletes", fn := fun _ => fun
  | [d] => { results := [.lit (.bool false)], args := [d] }
  | _ => none }
def DeterminizeCompletesWrongFalsely : Prop := determinizeCompletesRow.holds Tryz.pinned (OpenSpec.ofChange determinizeCompletesWrong)

/-- 'tidegatelaw30.MinimizeBuilds': WHATEVER THE INPUT: true; the input reads as it did. -/
def minimizeBuildsSpec : ChangeSpec := { name := "minimizeBuilds", fn := fun _ => fun
  | [d] => { results := [.lit (.bool true)], args := [d] }
  | _ => none }
def minimizeBuildsRow : OpenClaim := { program := "yteghceocnldccaagreatdoor", sum := "d18407eb578ac0611d112cf7a861257d92b4063a52262a4d3471e9896ede9c51", func := "tidegate/tidegatelaw30.MinimizeBuilds", spec := "minimizeBuilds", unfollowed := true, recurses := true, named := ["internal/strconv.uint64pow10", "math/bits.deBruijn32tab", "math/bits.deBruijn64tab"], plainKeys := false, apart := false, laid := [("math/bits.deBruijn32tab", laid_math_bits_deBruijn32tab), ("math/bits.deBruijn64tab", laid_math_bits_deBruijn64tab), ("internal/strconv.uint64pow10", laid_internal_strconv_uint64pow10)] }
def MinimizeBuildsSaid : Prop := minimizeBuildsRow.holds Tryz.pinned (OpenSpec.ofChange minimizeBuildsSpec)

/-- ITS FALSE NEIGHBOUR: 'it returns false'. Refute it at one input. -/
def minimizeBuildsWrong : ChangeSpec := { name := "minimizeBuilds", fn := fun _ => fun
  | [d] => { results := [.lit (.bool false)], args := [d] }
  | _ => none }
def MinimizeBuildsWrongFalsely : Prop := minimizeBuildsRow.holds Tryz.pinned (OpenSpec.ofChange minimizeBuildsWrong)

/-- 'tidegatelaw30.MinimizeClasses': WHATEVER THE INPUT: true; the input reads as it did. -/
def minimizeClassesSpec : ChangeSpec := { name := "minimizeClasses", fn := fun _ => fun
  | [d1, d2, d3] => { results := [.lit (.bool true)], args := [d1, d2, d3] }
  | _ => none }
def minimizeClassesRow : OpenClaim := { program := "yteghceocnldccaagreatdoor", sum := "d18407eb578ac0611d112cf7a861257d92b4063a52262a4d3471e9896ede9c51", func := "tidegate/tidegatelaw30.MinimizeClasses", spec := "minimizeClasses", unfollowed := true, recurses := true, named := ["internal/strconv.uint64pow10", "math/bits.deBruijn32tab", "math/bits.deBruijn64tab"], plainKeys := false, apart := false, laid := [("math/bits.deBruijn32tab", laid_math_bits_deBruijn32tab), ("math/bits.deBruijn64tab", laid_math_bits_deBruijn64tab), ("internal/strconv.uint64pow10", laid_internal_strconv_uint64pow10)] }
def MinimizeClassesSaid : Prop := minimizeClassesRow.holds Tryz.pinned (OpenSpec.ofChange minimizeClassesSpec)

/-- ITS FALSE NEIGHBOUR: 'it returns false'. Refute it at one input. -/
def minimizeClassesWrong : ChangeSpec := { name := "minimizeClasses", fn := fun _ => fun
  | [d1, d2, d3] => { results := [.lit (.bool false)], args := [d1, d2, d3] }
  | _ => none }
def MinimizeClassesWrongFalsely : Prop := minimizeClassesRow.holds Tryz.pinned (OpenSpec.ofChange minimizeClassesWrong)

/-- 'tidegatelaw30.MinimizeParts': WHATEVER THE INPUT: true; the input reads as it did. -/
def minimizePartsSpec : ChangeSpec := { name := "minimizeParts", fn := fun _ => fun
  | [d1, d2, d3] => { results := [.lit (.bool true)], args := [d1, d2, d3] }
  | _ => none }
def minimizePartsRow : OpenClaim := { program := "yteghceocnldccaagreatdoor", sum := "d18407eb578ac0611d112cf7a861257d92b4063a52262a4d3471e9896ede9c51", func := "tidegate/tidegatelaw30.MinimizeParts", spec := "minimizeParts", unfollowed := true, recurses := true, named := ["internal/strconv.uint64pow10", "math/bits.deBruijn32tab", "math/bits.deBruijn64tab"], plainKeys := false, apart := false, laid := [("math/bits.deBruijn32tab", laid_math_bits_deBruijn32tab), ("math/bits.deBruijn64tab", laid_math_bits_deBruijn64tab), ("internal/strconv.uint64pow10", laid_internal_strconv_uint64pow10)] }
def MinimizePartsSaid : Prop := minimizePartsRow.holds Tryz.pinned (OpenSpec.ofChange minimizePartsSpec)

/-- ITS FALSE NEIGHBOUR: 'it returns false'. Refute it at one input. -/
def minimizePartsWrong : ChangeSpec := { name := "minimizeParts", fn := fun _ => fun
  | [d1, d2, d3] => { results := [.lit (.bool false)], args := [d1, d2, d3] }
  | _ => none }
def MinimizePartsWrongFalsely : Prop := minimizePartsRow.holds Tryz.pinned (OpenSpec.ofChange minimizePartsWrong)

/-- 'tidegatelaw30.MinimizeRefines': WHATEVER THE INPUT: true; the input reads as it did. -/
def minimizeRefinesSpec : ChangeSpec := { name := "minimizeRefines", fn := fun _ => fun
  | [d1, d2] => { results := [.lit (.bool true)], args := [d1, d2] }
  | _ => none }
def minimizeRefinesRow : OpenClaim := { program := "yteghceocnldccaagreatdoor", sum := "d18407eb578ac0611d112cf7a861257d92b4063a52262a4d3471e9896ede9c51", func := "tidegate/tidegatelaw30.MinimizeRefines", spec := "minimizeRefines", unfollowed := true, recurses := true, named := ["internal/strconv.uint64pow10", "math/bits.deBruijn32tab", "math/bits.deBruijn64tab"], plainKeys := false, apart := false, laid := [("math/bits.deBruijn32tab", laid_math_bits_deBruijn32tab), ("math/bits.deBruijn64tab", laid_math_bits_deBruijn64tab), ("internal/strconv.uint64pow10", laid_internal_strconv_uint64pow10)] }
def MinimizeRefinesSaid : Prop := minimizeRefinesRow.holds Tryz.pinned (OpenSpec.ofChange minimizeRefinesSpec)

/-- ITS FALSE NEIGHBOUR: 'it returns false'. Refute it at one input. -/
def minimizeRefinesWrong : ChangeSpec := { name := "minimizeRefines", fn := fun _ => fun
  | [d1, d2] => { results := [.lit (.bool false)], args := [d1, d2] }
  | _ => none }
def MinimizeRefinesWrongFalsely : Prop := minimizeRefinesRow.holds Tryz.pinned (OpenSpec.ofChange minimizeRefinesWrong)

/-- 'tidegatelaw30.MinimizeNumbers': WHATEVER THE INPUT: true; the input reads as it did. -/
def minimizeNumbersSpec : ChangeSpec := { name := "minimizeNumbers", fn := fun _ => fun
  | [d1, d2] => { results := [.lit (.bool true)], args := [d1, d2] }
  | _ => none }
def minimizeNumbersRow : OpenClaim := { program := "yteghceocnldccaagreatdoor", sum := "d18407eb578ac0611d112cf7a861257d92b4063a52262a4d3471e9896ede9c51", func := "tidegate/tidegatelaw30.MinimizeNumbers", spec := "minimizeNumbers", unfollowed := true, recurses := true, named := ["internal/strconv.uint64pow10", "math/bits.deBruijn32tab", "math/bits.deBruijn64tab"], plainKeys := false, apart := false, laid := [("math/bits.deBruijn32tab", laid_math_bits_deBruijn32tab), ("math/bits.deBruijn64tab", laid_math_bits_deBruijn64tab), ("internal/strconv.uint64pow10", laid_internal_strconv_uint64pow10)] }
def MinimizeNumbersSaid : Prop := minimizeNumbersRow.holds Tryz.pinned (OpenSpec.ofChange minimizeNumbersSpec)

/-- ITS FALSE NEIGHBOUR: 'it returns false'. Refute it at one input. -/
def minimizeNumbersWrong : ChangeSpec := { name := "minimizeNumbers", fn := fun _ => fun
  | [d1, d2] => { results := [.lit (.bool false)], args := [d1, d2] }
  | _ => none }
def MinimizeNumbersWrongFalsely : Prop := minimizeNumbersRow.holds Tryz.pinned (OpenSpec.ofChange minimizeNumbersWrong)

/-- 'tidegatelaw30.MinimizeRenumbers': WHATEVER THE INPUT: true; the input reads as it did. -/
def minimizeRenumbersSpec : ChangeSpec := { name := "minimizeRenumbers", fn := fun _ => fun
  | [d1, d2] => { results := [.lit (.bool true)], args := [d1, d2] }
  | _ => none }
def minimizeRenumbersRow : OpenClaim := { program := "yteghceocnldccaagreatdoor", sum := "d18407eb578ac0611d112cf7a861257d92b4063a52262a4d3471e9896ede9c51", func := "tidegate/tidegatelaw30.MinimizeRenumbers", spec := "minimizeRenumbers", unfollowed := true, recurses := true, named := ["internal/strconv.uint64pow10", "math/bits.deBruijn32tab", "math/bits.deBruijn64tab"], plainKeys := false, apart := false, laid := [("math/bits.deBruijn32tab", laid_math_bits_deBruijn32tab), ("math/bits.deBruijn64tab", laid_math_bits_deBruijn64tab), ("internal/strconv.uint64pow10", laid_internal_strconv_uint64pow10)] }
def MinimizeRenumbersSaid : Prop := minimizeRenumbersRow.holds Tryz.pinned (OpenSpec.ofChange minimizeRenumbersSpec)

/-- ITS FALSE NEIGHBOUR: 'it returns false'. Refute it at one input. -/
def minimizeRenumbersWrong : ChangeSpec := { name := "minimizeRenumbers", fn := fun _ => fun
  | [d1, d2] => { results := [.lit (.bool false)], args := [d1, d2] }
  | _ => none }
def MinimizeRenumbersWrongFalsely : Prop := minimizeRenumbersRow.holds Tryz.pinned (OpenSpec.ofChange minimizeRenumbersWrong)

/-- 'tidegatelaw30.MinimizeKeeps': WHATEVER THE INPUT: true; the input reads as it did. -/
def minimizeKeepsSpec : ChangeSpec := { name := "minimizeKeeps", fn := fun _ => fun
  | [d1, d2] => { results := [.lit (.bool true)], args := [d1, d2] }
  | _ => none }
def minimizeKeepsRow : OpenClaim := { program := "yteghceocnldccaagreatdoor", sum := "d18407eb578ac0611d112cf7a861257d92b4063a52262a4d3471e9896ede9c51", func := "tidegate/tidegatelaw30.MinimizeKeeps", spec := "minimizeKeeps", unfollowed := true, recurses := true, named := ["internal/strconv.uint64pow10", "math/bits.deBruijn32tab", "math/bits.deBruijn64tab"], plainKeys := false, apart := false, laid := [("math/bits.deBruijn32tab", laid_math_bits_deBruijn32tab), ("math/bits.deBruijn64tab", laid_math_bits_deBruijn64tab), ("internal/strconv.uint64pow10", laid_internal_strconv_uint64pow10)] }
def MinimizeKeepsSaid : Prop := minimizeKeepsRow.holds Tryz.pinned (OpenSpec.ofChange minimizeKeepsSpec)

/-- ITS FALSE NEIGHBOUR: 'it returns false'. Refute it at one input. -/
def minimizeKeepsWrong : ChangeSpec := { name := "minimizeKeeps", fn := fun _ => fun
  | [d1, d2] => { results := [.lit (.bool false)], args := [d1, d2] }
  | _ => none }
def MinimizeKeepsWrongFalsely : Prop := minimizeKeepsRow.holds Tryz.pinned (OpenSpec.ofChange minimizeKeepsWrong)

/- THE SECOND FORM. 'bulk': how many values and letters a reading holds, each counted each time it is reached (what is shared counts as often as it is met; a slice's spare places count too). A statement '..UptoSaid' is the law's where the arguments, and the package variables that the reading takes, are together of bulk at most 1048576: NARROWER than '..Said'. Prove '..Said' where nothing that the law and all that it calls make is longer than what came in: it says more and counts as full. Else prove '..UptoSaid'. A law counts once. -/
mutual
def uptoBulk {H : Type} : DataW H → Nat
  | .lit (.string bytes) => bytes.length + 1
  | .lit _ => 1
  | .nil => 1
  | .ptr d => uptoBulk d + 1
  | .slice elems spare => uptoBulkAll elems + uptoBulkAll spare + 1
  | .agg parts => uptoBulkAll parts + 1
  | .iface _ d => uptoBulk d + 1
  | .map entries => uptoBulkEntries entries + 1
  | .held _ => 1
def uptoBulkAll {H : Type} : List (DataW H) → Nat
  | [] => 0
  | d :: r => uptoBulk d + uptoBulkAll r
def uptoBulkEntries {H : Type} : List (Lit × DataW H) → Nat
  | [] => 0
  | x :: r => uptoBulkEntry x + uptoBulkEntries r
def uptoBulkEntry {H : Type} : Lit × DataW H → Nat
  | (.string bytes, d) => bytes.length + uptoBulk d + 1
  | (_, d) => uptoBulk d + 1
 end
def uptoSmall : (H : Type) → List (DataW H) → Bool := fun _ ds => decide (uptoBulkAll ds ≤ 1048576)
def OpenSpec.upto (s : _root_.Go.ChangeSpec) : _root_.Go.OpenSpec := { _root_.Go.OpenSpec.ofChange s with cond := some uptoSmall }

/-- 'tidegatelaw29.DeterminizeSubsets', WHERE WHAT IT READS IS OF BULK AT MOST 1048576: true; the input reads as it did. -/
def determinizeSubsetsUptoRow : OpenClaim := { program := "yteghceocnldccaagreatdoor", sum := "d18407eb578ac0611d112cf7a861257d92b4063a52262a4d3471e9896ede9c51", func := "tidegate/tidegatelaw29.DeterminizeSubsets", spec := "determinizeSubsets", unfollowed := true, recurses := true, named := ["internal/strconv.uint64pow10", "math/bits.deBruijn32tab", "math/bits.deBruijn64tab"], plainKeys := false, apart := false, laid := [("math/bits.deBruijn32tab", laid_math_bits_deBruijn32tab), ("math/bits.deBruijn64tab", laid_math_bits_deBruijn64tab), ("internal/strconv.uint64pow10", laid_internal_strconv_uint64pow10)], narrowed := true }
def DeterminizeSubsetsUptoSaid : Prop := determinizeSubsetsUptoRow.holds Tryz.pinned (OpenSpec.upto determinizeSubsetsSpec)

/-- 'tidegatelaw29.DeterminizeBuilds', WHERE WHAT IT READS IS OF BULK AT MOST 1048576: true; the input reads as it did. -/
def determinizeBuildsUptoRow : OpenClaim := { program := "yteghceocnldccaagreatdoor", sum := "d18407eb578ac0611d112cf7a861257d92b4063a52262a4d3471e9896ede9c51", func := "tidegate/tidegatelaw29.DeterminizeBuilds", spec := "determinizeBuilds", unfollowed := true, recurses := true, named := ["internal/strconv.uint64pow10", "math/bits.deBruijn32tab", "math/bits.deBruijn64tab"], plainKeys := false, apart := false, laid := [("math/bits.deBruijn32tab", laid_math_bits_deBruijn32tab), ("math/bits.deBruijn64tab", laid_math_bits_deBruijn64tab), ("internal/strconv.uint64pow10", laid_internal_strconv_uint64pow10)], narrowed := true }
def DeterminizeBuildsUptoSaid : Prop := determinizeBuildsUptoRow.holds Tryz.pinned (OpenSpec.upto determinizeBuildsSpec)

/-- 'tidegatelaw29.DeterminizeCompletes', WHERE WHAT IT READS IS OF BULK AT MOST 1048576: true; the input reads as it did. -/
def determinizeCompletesUptoRow : OpenClaim := { program := "yteghceocnldccaagreatdoor", sum := "d18407eb578ac0611d112cf7a861257d92b4063a52262a4d3471e9896ede9c51", func := "tidegate/tidegatelaw29.DeterminizeCompletes", spec := "determinizeCompletes", unfollowed := true, recurses := true, named := ["internal/strconv.uint64pow10", "math/bits.deBruijn32tab", "math/bits.deBruijn64tab"], plainKeys := false, apart := false, laid := [("math/bits.deBruijn32tab", laid_math_bits_deBruijn32tab), ("math/bits.deBruijn64tab", laid_math_bits_deBruijn64tab), ("internal/strconv.uint64pow10", laid_internal_strconv_uint64pow10)], narrowed := true }
def DeterminizeCompletesUptoSaid : Prop := determinizeCompletesUptoRow.holds Tryz.pinned (OpenSpec.upto determinizeCompletesSpec)

/-- 'tidegatelaw30.MinimizeBuilds', WHERE WHAT IT READS IS OF BULK AT MOST 1048576: true; the input reads as it did. -/
def minimizeBuildsUptoRow : OpenClaim := { program := "yteghceocnldccaagreatdoor", sum := "d18407eb578ac0611d112cf7a861257d92b4063a52262a4d3471e9896ede9c51", func := "tidegate/tidegatelaw30.MinimizeBuilds", spec := "minimizeBuilds", unfollowed := true, recurses := true, named := ["internal/strconv.uint64pow10", "math/bits.deBruijn32tab", "math/bits.deBruijn64tab"], plainKeys := false, apart := false, laid := [("math/bits.deBruijn32tab", laid_math_bits_deBruijn32tab), ("math/bits.deBruijn64tab", laid_math_bits_deBruijn64tab), ("internal/strconv.uint64pow10", laid_internal_strconv_uint64pow10)], narrowed := true }
def MinimizeBuildsUptoSaid : Prop := minimizeBuildsUptoRow.holds Tryz.pinned (OpenSpec.upto minimizeBuildsSpec)

/-- 'tidegatelaw30.MinimizeClasses', WHERE WHAT IT READS IS OF BULK AT MOST 1048576: true; the input reads as it did. -/
def minimizeClassesUptoRow : OpenClaim := { program := "yteghceocnldccaagreatdoor", sum := "d18407eb578ac0611d112cf7a861257d92b4063a52262a4d3471e9896ede9c51", func := "tidegate/tidegatelaw30.MinimizeClasses", spec := "minimizeClasses", unfollowed := true, recurses := true, named := ["internal/strconv.uint64pow10", "math/bits.deBruijn32tab", "math/bits.deBruijn64tab"], plainKeys := false, apart := false, laid := [("math/bits.deBruijn32tab", laid_math_bits_deBruijn32tab), ("math/bits.deBruijn64tab", laid_math_bits_deBruijn64tab), ("internal/strconv.uint64pow10", laid_internal_strconv_uint64pow10)], narrowed := true }
def MinimizeClassesUptoSaid : Prop := minimizeClassesUptoRow.holds Tryz.pinned (OpenSpec.upto minimizeClassesSpec)

/-- 'tidegatelaw30.MinimizeParts', WHERE WHAT IT READS IS OF BULK AT MOST 1048576: true; the input reads as it did. -/
def minimizePartsUptoRow : OpenClaim := { program := "yteghceocnldccaagreatdoor", sum := "d18407eb578ac0611d112cf7a861257d92b4063a52262a4d3471e9896ede9c51", func := "tidegate/tidegatelaw30.MinimizeParts", spec := "minimizeParts", unfollowed := true, recurses := true, named := ["internal/strconv.uint64pow10", "math/bits.deBruijn32tab", "math/bits.deBruijn64tab"], plainKeys := false, apart := false, laid := [("math/bits.deBruijn32tab", laid_math_bits_deBruijn32tab), ("math/bits.deBruijn64tab", laid_math_bits_deBruijn64tab), ("internal/strconv.uint64pow10", laid_internal_strconv_uint64pow10)], narrowed := true }
def MinimizePartsUptoSaid : Prop := minimizePartsUptoRow.holds Tryz.pinned (OpenSpec.upto minimizePartsSpec)

/-- 'tidegatelaw30.MinimizeRefines', WHERE WHAT IT READS IS OF BULK AT MOST 1048576: true; the input reads as it did. -/
def minimizeRefinesUptoRow : OpenClaim := { program := "yteghceocnldccaagreatdoor", sum := "d18407eb578ac0611d112cf7a861257d92b4063a52262a4d3471e9896ede9c51", func := "tidegate/tidegatelaw30.MinimizeRefines", spec := "minimizeRefines", unfollowed := true, recurses := true, named := ["internal/strconv.uint64pow10", "math/bits.deBruijn32tab", "math/bits.deBruijn64tab"], plainKeys := false, apart := false, laid := [("math/bits.deBruijn32tab", laid_math_bits_deBruijn32tab), ("math/bits.deBruijn64tab", laid_math_bits_deBruijn64tab), ("internal/strconv.uint64pow10", laid_internal_strconv_uint64pow10)], narrowed := true }
def MinimizeRefinesUptoSaid : Prop := minimizeRefinesUptoRow.holds Tryz.pinned (OpenSpec.upto minimizeRefinesSpec)

/-- 'tidegatelaw30.MinimizeNumbers', WHERE WHAT IT READS IS OF BULK AT MOST 1048576: true; the input reads as it did. -/
def minimizeNumbersUptoRow : OpenClaim := { program := "yteghceocnldccaagreatdoor", sum := "d18407eb578ac0611d112cf7a861257d92b4063a52262a4d3471e9896ede9c51", func := "tidegate/tidegatelaw30.MinimizeNumbers", spec := "minimizeNumbers", unfollowed := true, recurses := true, named := ["internal/strconv.uint64pow10", "math/bits.deBruijn32tab", "math/bits.deBruijn64tab"], plainKeys := false, apart := false, laid := [("math/bits.deBruijn32tab", laid_math_bits_deBruijn32tab), ("math/bits.deBruijn64tab", laid_math_bits_deBruijn64tab), ("internal/strconv.uint64pow10", laid_internal_strconv_uint64pow10)], narrowed := true }
def MinimizeNumbersUptoSaid : Prop := minimizeNumbersUptoRow.holds Tryz.pinned (OpenSpec.upto minimizeNumbersSpec)

/-- 'tidegatelaw30.MinimizeRenumbers', WHERE WHAT IT READS IS OF BULK AT MOST 1048576: true; the input reads as it did. -/
def minimizeRenumbersUptoRow : OpenClaim := { program := "yteghceocnldccaagreatdoor", sum := "d18407eb578ac0611d112cf7a861257d92b4063a52262a4d3471e9896ede9c51", func := "tidegate/tidegatelaw30.MinimizeRenumbers", spec := "minimizeRenumbers", unfollowed := true, recurses := true, named := ["internal/strconv.uint64pow10", "math/bits.deBruijn32tab", "math/bits.deBruijn64tab"], plainKeys := false, apart := false, laid := [("math/bits.deBruijn32tab", laid_math_bits_deBruijn32tab), ("math/bits.deBruijn64tab", laid_math_bits_deBruijn64tab), ("internal/strconv.uint64pow10", laid_internal_strconv_uint64pow10)], narrowed := true }
def MinimizeRenumbersUptoSaid : Prop := minimizeRenumbersUptoRow.holds Tryz.pinned (OpenSpec.upto minimizeRenumbersSpec)

/-- 'tidegatelaw30.MinimizeKeeps', WHERE WHAT IT READS IS OF BULK AT MOST 1048576: true; the input reads as it did. -/
def minimizeKeepsUptoRow : OpenClaim := { program := "yteghceocnldccaagreatdoor", sum := "d18407eb578ac0611d112cf7a861257d92b4063a52262a4d3471e9896ede9c51", func := "tidegate/tidegatelaw30.MinimizeKeeps", spec := "minimizeKeeps", unfollowed := true, recurses := true, named := ["internal/strconv.uint64pow10", "math/bits.deBruijn32tab", "math/bits.deBruijn64tab"], plainKeys := false, apart := false, laid := [("math/bits.deBruijn32tab", laid_math_bits_deBruijn32tab), ("math/bits.deBruijn64tab", laid_math_bits_deBruijn64tab), ("internal/strconv.uint64pow10", laid_internal_strconv_uint64pow10)], narrowed := true }
def MinimizeKeepsUptoSaid : Prop := minimizeKeepsUptoRow.holds Tryz.pinned (OpenSpec.upto minimizeKeepsSpec)

end Rows
end Go.Proofs.YteghceocnldccaaGreatDoor
