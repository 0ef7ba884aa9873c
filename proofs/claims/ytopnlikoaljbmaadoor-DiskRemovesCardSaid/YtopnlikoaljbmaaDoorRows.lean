/-
  NARROWER THAN 'FOR EVERY INPUT', by the rows' own cells (each row's printed sentence says how): DiskWrites: laid · DiskCrashes: laid · DiskReads: laid · DiskKeeps: laid · DiskReplaces: laid · DiskSurvives: laid · DiskNames: laid · DiskRemoves: laid.
  DERIVED. THE GIVEN ROWS OF THIS SEAT. 8 by the template 'for every input the law returns true; each argument reads behind the call as it read before'; 0 by the template 'total and deterministic' (their statements: YtopnlikoaljbmaaDoorTotals.lean).
  GIVEN WITH THE SEED: the statements are not yours to turn. If you find one false, say at which input.
  Laid BY PROGRAM, IN A SANDBOX (cutbox-rows.mjs): the forced cells as the released guide's own fill.sh prints them over the translation 9292e26862c90af1… (all of the seat's roots in one cut). By AI agents, Wed Nov 11 2026. No macro, syntax, notation, axiom, sorry.
-/
import Derived.Test.YtopnlikoaljbmaaDoorChecked
import GoSem.PinnedTables
import GoSem.Claim
import GoSem.ClaimJoined
import GoSem.ClaimMapViews
import Derived.JoinedTies
import Derived.KernelRfl
namespace Go.Proofs.YtopnlikoaljbmaaDoor
/- THE CELL 'sum', in the pinned program and in every row, IS THE sha256 OF THE DUMP (.gsa) THAT YtopnlikoaljbmaaDoorProg.lean LOADS. Nothing in Lean hashes anything: it is a label: what it is worth is what the hold of that sum in a sandbox is worth. -/
noncomputable def Tryd.pinned : Pinned := { name := "ytopnlikoaljbmaadoor", sum := "9292e26862c90af147f739ba8a04c119e7fb7a409fd29e46556a64115e016a27", checked := Tryd.checked }
namespace Rows
def none {H : Type} : Left H := { results := [], args := [] }

/- WHAT THE LISTED PACKAGE-LEVEL VARIABLES READ AS WHEN THE CALL BEGINS. Each datum BY PROGRAM (the guide's laid-datum.mjs) off the statement by which the dump's own 'gosem.cut.vars' lays the variable. In a bare row this is a premise. The card (YtopnlikoaljbmaaDoorCards.lean) ties it to the program's text. -/
def laid_unicode_utf8_acceptRanges {H : Type} : DataW H := .agg [.agg [.lit (.int .u8 128), .lit (.int .u8 191)], .agg [.lit (.int .u8 160), .lit (.int .u8 191)], .agg [.lit (.int .u8 128), .lit (.int .u8 159)], .agg [.lit (.int .u8 144), .lit (.int .u8 191)], .agg [.lit (.int .u8 128), .lit (.int .u8 143)], .agg [.lit (.int .u8 0), .lit (.int .u8 0)], .agg [.lit (.int .u8 0), .lit (.int .u8 0)], .agg [.lit (.int .u8 0), .lit (.int .u8 0)], .agg [.lit (.int .u8 0), .lit (.int .u8 0)], .agg [.lit (.int .u8 0), .lit (.int .u8 0)], .agg [.lit (.int .u8 0), .lit (.int .u8 0)], .agg [.lit (.int .u8 0), .lit (.int .u8 0)], .agg [.lit (.int .u8 0), .lit (.int .u8 0)], .agg [.lit (.int .u8 0), .lit (.int .u8 0)], .agg [.lit (.int .u8 0), .lit (.int .u8 0)], .agg [.lit (.int .u8 0), .lit (.int .u8 0)]]
/-- One of Go's own tables, pinned by name: the form's constant. -/
def laid_unicode_utf8_first : DataW Unit := Go.Pinned.utf8First

/-- 'tidegatelaw44.DiskWrites': WHATEVER THE INPUT: true; the input reads as it did. -/
def diskWritesSpec : ChangeSpec := { name := "diskWrites", fn := fun _ => fun
  | [d1, d2, d3] => { results := [.lit (.bool true)], args := [d1, d2, d3] }
  | _ => none }
def diskWritesRow : OpenClaim := { program := "ytopnlikoaljbmaadoor", sum := "9292e26862c90af147f739ba8a04c119e7fb7a409fd29e46556a64115e016a27", func := "tidegate/tidegatelaw44.DiskWrites", spec := "diskWrites", inPlace := ["internal/bytealg.IndexByteString", "internal/bytealg.IndexString", "slices.overlaps[tidegate/api.File]"], unfollowed := true, recurses := true, named := ["unicode/utf8.first", "unicode/utf8.acceptRanges", "internal/bytealg.MaxLen"], apart := false, laid := [("unicode/utf8.acceptRanges", laid_unicode_utf8_acceptRanges), ("unicode/utf8.first", laid_unicode_utf8_first)] }
def DiskWritesSaid : Prop := diskWritesRow.holds Tryd.pinned (OpenSpec.ofChange diskWritesSpec)

/-- ITS FALSE NEIGHBOUR: 'it returns false'. Refute it at one input. -/
def diskWritesWrong : ChangeSpec := { name := "diskWrites", fn := fun _ => fun
  | [d1, d2, d3] => { results := [.lit (.bool false)], args := [d1, d2, d3] }
  | _ => none }
def DiskWritesWrongFalsely : Prop := diskWritesRow.holds Tryd.pinned (OpenSpec.ofChange diskWritesWrong)

/-- 'tidegatelaw44.DiskCrashes': WHATEVER THE INPUT: true; the input reads as it did. -/
def diskCrashesSpec : ChangeSpec := { name := "diskCrashes", fn := fun _ => fun
  | [d1, d2] => { results := [.lit (.bool true)], args := [d1, d2] }
  | _ => none }
def diskCrashesRow : OpenClaim := { program := "ytopnlikoaljbmaadoor", sum := "9292e26862c90af147f739ba8a04c119e7fb7a409fd29e46556a64115e016a27", func := "tidegate/tidegatelaw44.DiskCrashes", spec := "diskCrashes", inPlace := ["internal/bytealg.IndexByteString", "internal/bytealg.IndexString", "slices.overlaps[tidegate/api.File]"], unfollowed := true, recurses := true, named := ["unicode/utf8.first", "unicode/utf8.acceptRanges", "internal/bytealg.MaxLen"], apart := false, laid := [("unicode/utf8.acceptRanges", laid_unicode_utf8_acceptRanges), ("unicode/utf8.first", laid_unicode_utf8_first)] }
def DiskCrashesSaid : Prop := diskCrashesRow.holds Tryd.pinned (OpenSpec.ofChange diskCrashesSpec)

/-- ITS FALSE NEIGHBOUR: 'it returns false'. Refute it at one input. -/
def diskCrashesWrong : ChangeSpec := { name := "diskCrashes", fn := fun _ => fun
  | [d1, d2] => { results := [.lit (.bool false)], args := [d1, d2] }
  | _ => none }
def DiskCrashesWrongFalsely : Prop := diskCrashesRow.holds Tryd.pinned (OpenSpec.ofChange diskCrashesWrong)

/-- 'tidegatelaw44.DiskReads': WHATEVER THE INPUT: true; the input reads as it did. -/
def diskReadsSpec : ChangeSpec := { name := "diskReads", fn := fun _ => fun
  | [d1, d2] => { results := [.lit (.bool true)], args := [d1, d2] }
  | _ => none }
def diskReadsRow : OpenClaim := { program := "ytopnlikoaljbmaadoor", sum := "9292e26862c90af147f739ba8a04c119e7fb7a409fd29e46556a64115e016a27", func := "tidegate/tidegatelaw44.DiskReads", spec := "diskReads", inPlace := ["internal/bytealg.IndexByteString", "internal/bytealg.IndexString", "slices.overlaps[tidegate/api.File]"], unfollowed := true, recurses := true, named := ["unicode/utf8.first", "unicode/utf8.acceptRanges", "internal/bytealg.MaxLen"], apart := false, laid := [("unicode/utf8.acceptRanges", laid_unicode_utf8_acceptRanges), ("unicode/utf8.first", laid_unicode_utf8_first)] }
def DiskReadsSaid : Prop := diskReadsRow.holds Tryd.pinned (OpenSpec.ofChange diskReadsSpec)

/-- ITS FALSE NEIGHBOUR: 'it returns false'. Refute it at one input. -/
def diskReadsWrong : ChangeSpec := { name := "diskReads", fn := fun _ => fun
  | [d1, d2] => { results := [.lit (.bool false)], args := [d1, d2] }
  | _ => none }
def DiskReadsWrongFalsely : Prop := diskReadsRow.holds Tryd.pinned (OpenSpec.ofChange diskReadsWrong)

/-- 'tidegatelaw44.DiskKeeps': WHATEVER THE INPUT: true; the input reads as it did. -/
def diskKeepsSpec : ChangeSpec := { name := "diskKeeps", fn := fun _ => fun
  | [d1, d2, d3] => { results := [.lit (.bool true)], args := [d1, d2, d3] }
  | _ => none }
def diskKeepsRow : OpenClaim := { program := "ytopnlikoaljbmaadoor", sum := "9292e26862c90af147f739ba8a04c119e7fb7a409fd29e46556a64115e016a27", func := "tidegate/tidegatelaw44.DiskKeeps", spec := "diskKeeps", inPlace := ["internal/bytealg.IndexByteString", "internal/bytealg.IndexString", "slices.overlaps[tidegate/api.File]"], unfollowed := true, recurses := true, named := ["unicode/utf8.first", "unicode/utf8.acceptRanges", "internal/bytealg.MaxLen"], apart := false, laid := [("unicode/utf8.acceptRanges", laid_unicode_utf8_acceptRanges), ("unicode/utf8.first", laid_unicode_utf8_first)] }
def DiskKeepsSaid : Prop := diskKeepsRow.holds Tryd.pinned (OpenSpec.ofChange diskKeepsSpec)

/-- ITS FALSE NEIGHBOUR: 'it returns false'. Refute it at one input. -/
def diskKeepsWrong : ChangeSpec := { name := "diskKeeps", fn := fun _ => fun
  | [d1, d2, d3] => { results := [.lit (.bool false)], args := [d1, d2, d3] }
  | _ => none }
def DiskKeepsWrongFalsely : Prop := diskKeepsRow.holds Tryd.pinned (OpenSpec.ofChange diskKeepsWrong)

/-- 'tidegatelaw44.DiskReplaces': WHATEVER THE INPUT: true; the input reads as it did. -/
def diskReplacesSpec : ChangeSpec := { name := "diskReplaces", fn := fun _ => fun
  | [d1, d2, d3] => { results := [.lit (.bool true)], args := [d1, d2, d3] }
  | _ => none }
def diskReplacesRow : OpenClaim := { program := "ytopnlikoaljbmaadoor", sum := "9292e26862c90af147f739ba8a04c119e7fb7a409fd29e46556a64115e016a27", func := "tidegate/tidegatelaw44.DiskReplaces", spec := "diskReplaces", inPlace := ["internal/bytealg.IndexByteString", "internal/bytealg.IndexString", "slices.overlaps[tidegate/api.File]"], unfollowed := true, recurses := true, named := ["unicode/utf8.first", "unicode/utf8.acceptRanges", "internal/bytealg.MaxLen"], apart := false, laid := [("unicode/utf8.acceptRanges", laid_unicode_utf8_acceptRanges), ("unicode/utf8.first", laid_unicode_utf8_first)] }
def DiskReplacesSaid : Prop := diskReplacesRow.holds Tryd.pinned (OpenSpec.ofChange diskReplacesSpec)

/-- ITS FALSE NEIGHBOUR: 'it returns false'. Refute it at one input. -/
def diskReplacesWrong : ChangeSpec := { name := "diskReplaces", fn := fun _ => fun
  | [d1, d2, d3] => { results := [.lit (.bool false)], args := [d1, d2, d3] }
  | _ => none }
def DiskReplacesWrongFalsely : Prop := diskReplacesRow.holds Tryd.pinned (OpenSpec.ofChange diskReplacesWrong)

/-- 'tidegatelaw44.DiskSurvives': WHATEVER THE INPUT: true; the input reads as it did. -/
def diskSurvivesSpec : ChangeSpec := { name := "diskSurvives", fn := fun _ => fun
  | [d1, d2, d3] => { results := [.lit (.bool true)], args := [d1, d2, d3] }
  | _ => none }
def diskSurvivesRow : OpenClaim := { program := "ytopnlikoaljbmaadoor", sum := "9292e26862c90af147f739ba8a04c119e7fb7a409fd29e46556a64115e016a27", func := "tidegate/tidegatelaw44.DiskSurvives", spec := "diskSurvives", inPlace := ["internal/bytealg.IndexByteString", "internal/bytealg.IndexString", "slices.overlaps[tidegate/api.File]"], unfollowed := true, recurses := true, named := ["unicode/utf8.first", "unicode/utf8.acceptRanges", "internal/bytealg.MaxLen"], apart := false, laid := [("unicode/utf8.acceptRanges", laid_unicode_utf8_acceptRanges), ("unicode/utf8.first", laid_unicode_utf8_first)] }
def DiskSurvivesSaid : Prop := diskSurvivesRow.holds Tryd.pinned (OpenSpec.ofChange diskSurvivesSpec)

/-- ITS FALSE NEIGHBOUR: 'it returns false'. Refute it at one input. -/
def diskSurvivesWrong : ChangeSpec := { name := "diskSurvives", fn := fun _ => fun
  | [d1, d2, d3] => { results := [.lit (.bool false)], args := [d1, d2, d3] }
  | _ => none }
def DiskSurvivesWrongFalsely : Prop := diskSurvivesRow.holds Tryd.pinned (OpenSpec.ofChange diskSurvivesWrong)

/-- 'tidegatelaw44.DiskNames': WHATEVER THE INPUT: true; the input reads as it did. -/
def diskNamesSpec : ChangeSpec := { name := "diskNames", fn := fun _ => fun
  | [d1, d2, d3] => { results := [.lit (.bool true)], args := [d1, d2, d3] }
  | _ => none }
def diskNamesRow : OpenClaim := { program := "ytopnlikoaljbmaadoor", sum := "9292e26862c90af147f739ba8a04c119e7fb7a409fd29e46556a64115e016a27", func := "tidegate/tidegatelaw44.DiskNames", spec := "diskNames", inPlace := ["internal/bytealg.IndexByteString", "internal/bytealg.IndexString", "slices.overlaps[tidegate/api.File]"], unfollowed := true, recurses := true, named := ["unicode/utf8.first", "unicode/utf8.acceptRanges", "internal/bytealg.MaxLen"], apart := false, laid := [("unicode/utf8.acceptRanges", laid_unicode_utf8_acceptRanges), ("unicode/utf8.first", laid_unicode_utf8_first)] }
def DiskNamesSaid : Prop := diskNamesRow.holds Tryd.pinned (OpenSpec.ofChange diskNamesSpec)

/-- ITS FALSE NEIGHBOUR: 'it returns false'. Refute it at one input. -/
def diskNamesWrong : ChangeSpec := { name := "diskNames", fn := fun _ => fun
  | [d1, d2, d3] => { results := [.lit (.bool false)], args := [d1, d2, d3] }
  | _ => none }
def DiskNamesWrongFalsely : Prop := diskNamesRow.holds Tryd.pinned (OpenSpec.ofChange diskNamesWrong)

/-- 'tidegatelaw44.DiskRemoves': WHATEVER THE INPUT: true; the input reads as it did. -/
def diskRemovesSpec : ChangeSpec := { name := "diskRemoves", fn := fun _ => fun
  | [d1, d2, d3] => { results := [.lit (.bool true)], args := [d1, d2, d3] }
  | _ => none }
def diskRemovesRow : OpenClaim := { program := "ytopnlikoaljbmaadoor", sum := "9292e26862c90af147f739ba8a04c119e7fb7a409fd29e46556a64115e016a27", func := "tidegate/tidegatelaw44.DiskRemoves", spec := "diskRemoves", inPlace := ["internal/bytealg.IndexByteString", "internal/bytealg.IndexString", "slices.overlaps[tidegate/api.File]"], unfollowed := true, recurses := true, named := ["unicode/utf8.first", "unicode/utf8.acceptRanges", "internal/bytealg.MaxLen"], apart := false, laid := [("unicode/utf8.acceptRanges", laid_unicode_utf8_acceptRanges), ("unicode/utf8.first", laid_unicode_utf8_first)] }
def DiskRemovesSaid : Prop := diskRemovesRow.holds Tryd.pinned (OpenSpec.ofChange diskRemovesSpec)

/-- ITS FALSE NEIGHBOUR: 'it returns false'. Refute it at one input. -/
def diskRemovesWrong : ChangeSpec := { name := "diskRemoves", fn := fun _ => fun
  | [d1, d2, d3] => { results := [.lit (.bool false)], args := [d1, d2, d3] }
  | _ => none }
def DiskRemovesWrongFalsely : Prop := diskRemovesRow.holds Tryd.pinned (OpenSpec.ofChange diskRemovesWrong)

/- THE SECOND FORM. 'bulk': how many values and letters a reading holds, each counted each time it is reached (what is shared counts as often as it is met; a slice's spare places count too). A statement '..UptoSaid' is the law's where the arguments, and the package variables that the reading takes, are together of bulk at most 1048576: NARROWER than '..Said'. Prove '..Said' where nothing that the law and all that it calls make is longer than what came in: it says more and counts as full. Else prove '..UptoSaid'. A law counts once. -/
mutual
def uptoBulk {H : Type} : DataW H → Nat
  | .lit (.string bytes) => bytes.length + 1
  | .lit _ => 1
  | .nil => 1
  | .ptr d => uptoBulk d + 1
  | .slice elems spare => uptoBulkAll elems + uptoBulkAll spare + 1
  | .agg parts => uptoBulkAll parts + 1
  | .iface _ d => uptoBulk d + 1
  | .map entries => uptoBulkEntries entries + 1
  | .held _ => 1
def uptoBulkAll {H : Type} : List (DataW H) → Nat
  | [] => 0
  | d :: r => uptoBulk d + uptoBulkAll r
def uptoBulkEntries {H : Type} : List (Lit × DataW H) → Nat
  | [] => 0
  | x :: r => uptoBulkEntry x + uptoBulkEntries r
def uptoBulkEntry {H : Type} : Lit × DataW H → Nat
  | (.string bytes, d) => bytes.length + uptoBulk d + 1
  | (_, d) => uptoBulk d + 1
 end
def uptoSmall : (H : Type) → List (DataW H) → Bool := fun _ ds => decide (uptoBulkAll ds ≤ 1048576)
def OpenSpec.upto (s : _root_.Go.ChangeSpec) : _root_.Go.OpenSpec := { _root_.Go.OpenSpec.ofChange s with cond := some uptoSmall }

/-- 'tidegatelaw44.DiskWrites', WHERE WHAT IT READS IS OF BULK AT MOST 1048576: true; the input reads as it did. -/
def diskWritesUptoRow : OpenClaim := { program := "ytopnlikoaljbmaadoor", sum := "9292e26862c90af147f739ba8a04c119e7fb7a409fd29e46556a64115e016a27", func := "tidegate/tidegatelaw44.DiskWrites", spec := "diskWrites", inPlace := ["internal/bytealg.IndexByteString", "internal/bytealg.IndexString", "slices.overlaps[tidegate/api.File]"], unfollowed := true, recurses := true, named := ["unicode/utf8.first", "unicode/utf8.acceptRanges", "internal/bytealg.MaxLen"], apart := false, laid := [("unicode/utf8.acceptRanges", laid_unicode_utf8_acceptRanges), ("unicode/utf8.first", laid_unicode_utf8_first)], narrowed := true }
def DiskWritesUptoSaid : Prop := diskWritesUptoRow.holds Tryd.pinned (OpenSpec.upto diskWritesSpec)

/-- 'tidegatelaw44.DiskCrashes', WHERE WHAT IT READS IS OF BULK AT MOST 1048576: true; the input reads as it did. -/
def diskCrashesUptoRow : OpenClaim := { program := "ytopnlikoaljbmaadoor", sum := "9292e26862c90af147f739ba8a04c119e7fb7a409fd29e46556a64115e016a27", func := "tidegate/tidegatelaw44.DiskCrashes", spec := "diskCrashes", inPlace := ["internal/bytealg.IndexByteString", "internal/bytealg.IndexString", "slices.overlaps[tidegate/api.File]"], unfollowed := true, recurses := true, named := ["unicode/utf8.first", "unicode/utf8.acceptRanges", "internal/bytealg.MaxLen"], apart := false, laid := [("unicode/utf8.acceptRanges", laid_unicode_utf8_acceptRanges), ("unicode/utf8.first", laid_unicode_utf8_first)], narrowed := true }
def DiskCrashesUptoSaid : Prop := diskCrashesUptoRow.holds Tryd.pinned (OpenSpec.upto diskCrashesSpec)

/-- 'tidegatelaw44.DiskReads', WHERE WHAT IT READS IS OF BULK AT MOST 1048576: true; the input reads as it did. -/
def diskReadsUptoRow : OpenClaim := { program := "ytopnlikoaljbmaadoor", sum := "9292e26862c90af147f739ba8a04c119e7fb7a409fd29e46556a64115e016a27", func := "tidegate/tidegatelaw44.DiskReads", spec := "diskReads", inPlace := ["internal/bytealg.IndexByteString", "internal/bytealg.IndexString", "slices.overlaps[tidegate/api.File]"], unfollowed := true, recurses := true, named := ["unicode/utf8.first", "unicode/utf8.acceptRanges", "internal/bytealg.MaxLen"], apart := false, laid := [("unicode/utf8.acceptRanges", laid_unicode_utf8_acceptRanges), ("unicode/utf8.first", laid_unicode_utf8_first)], narrowed := true }
def DiskReadsUptoSaid : Prop := diskReadsUptoRow.holds Tryd.pinned (OpenSpec.upto diskReadsSpec)

/-- 'tidegatelaw44.DiskKeeps', WHERE WHAT IT READS IS OF BULK AT MOST 1048576: true; the input reads as it did. -/
def diskKeepsUptoRow : OpenClaim := { program := "ytopnlikoaljbmaadoor", sum := "9292e26862c90af147f739ba8a04c119e7fb7a409fd29e46556a64115e016a27", func := "tidegate/tidegatelaw44.DiskKeeps", spec := "diskKeeps", inPlace := ["internal/bytealg.IndexByteString", "internal/bytealg.IndexString", "slices.overlaps[tidegate/api.File]"], unfollowed := true, recurses := true, named := ["unicode/utf8.first", "unicode/utf8.acceptRanges", "internal/bytealg.MaxLen"], apart := false, laid := [("unicode/utf8.acceptRanges", laid_unicode_utf8_acceptRanges), ("unicode/utf8.first", laid_unicode_utf8_first)], narrowed := true }
def DiskKeepsUptoSaid : Prop := diskKeepsUptoRow.holds Tryd.pinned (OpenSpec.upto diskKeepsSpec)

/-- 'tidegatelaw44.DiskReplaces', WHERE WHAT IT READS IS OF BULK AT MOST 1048576: true; the input reads as it did. -/
def diskReplacesUptoRow : OpenClaim := { program := "ytopnlikoaljbmaadoor", sum := "9292e26862c90af147f739ba8a04c119e7fb7a409fd29e46556a64115e016a27", func := "tidegate/tidegatelaw44.DiskReplaces", spec := "diskReplaces", inPlace := ["internal/bytealg.IndexByteString", "internal/bytealg.IndexString", "slices.overlaps[tidegate/api.File]"], unfollowed := true, recurses := true, named := ["unicode/utf8.first", "unicode/utf8.acceptRanges", "internal/bytealg.MaxLen"], apart := false, laid := [("unicode/utf8.acceptRanges", laid_unicode_utf8_acceptRanges), ("unicode/utf8.first", laid_unicode_utf8_first)], narrowed := true }
def DiskReplacesUptoSaid : Prop := diskReplacesUptoRow.holds Tryd.pinned (OpenSpec.upto diskReplacesSpec)

/-- 'tidegatelaw44.DiskSurvives', WHERE WHAT IT READS IS OF BULK AT MOST 1048576: true; the input reads as it did. -/
def diskSurvivesUptoRow : OpenClaim := { program := "ytopnlikoaljbmaadoor", sum := "9292e26862c90af147f739ba8a04c119e7fb7a409fd29e46556a64115e016a27", func := "tidegate/tidegatelaw44.DiskSurvives", spec := "diskSurvives", inPlace := ["internal/bytealg.IndexByteString", "internal/bytealg.IndexString", "slices.overlaps[tidegate/api.File]"], unfollowed := true, recurses := true, named := ["unicode/utf8.first", "unicode/utf8.acceptRanges", "internal/bytealg.MaxLen"], apart := false, laid := [("unicode/utf8.acceptRanges", laid_unicode_utf8_acceptRanges), ("unicode/utf8.first", laid_unicode_utf8_first)], narrowed := true }
def DiskSurvivesUptoSaid : Prop := diskSurvivesUptoRow.holds Tryd.pinned (OpenSpec.upto diskSurvivesSpec)

/-- 'tidegatelaw44.DiskNames', WHERE WHAT IT READS IS OF BULK AT MOST 1048576: true; the input reads as it did. -/
def diskNamesUptoRow : OpenClaim := { program := "ytopnlikoaljbmaadoor", sum := "9292e26862c90af147f739ba8a04c119e7fb7a409fd29e46556a64115e016a27", func := "tidegate/tidegatelaw44.DiskNames", spec := "diskNames", inPlace := ["internal/bytealg.IndexByteString", "internal/bytealg.IndexString", "slices.overlaps[tidegate/api.File]"], unfollowed := true, recurses := true, named := ["unicode/utf8.first", "unicode/utf8.acceptRanges", "internal/bytealg.MaxLen"], apart := false, laid := [("unicode/utf8.acceptRanges", laid_unicode_utf8_acceptRanges), ("unicode/utf8.first", laid_unicode_utf8_first)], narrowed := true }
def DiskNamesUptoSaid : Prop := diskNamesUptoRow.holds Tryd.pinned (OpenSpec.upto diskNamesSpec)

/-- 'tidegatelaw44.DiskRemoves', WHERE WHAT IT READS IS OF BULK AT MOST 1048576: true; the input reads as it did. -/
def diskRemovesUptoRow : OpenClaim := { program := "ytopnlikoaljbmaadoor", sum := "9292e26862c90af147f739ba8a04c119e7fb7a409fd29e46556a64115e016a27", func := "tidegate/tidegatelaw44.DiskRemoves", spec := "diskRemoves", inPlace := ["internal/bytealg.IndexByteString", "internal/bytealg.IndexString", "slices.overlaps[tidegate/api.File]"], unfollowed := true, recurses := true, named := ["unicode/utf8.first", "unicode/utf8.acceptRanges", "internal/bytealg.MaxLen"], apart := false, laid := [("unicode/utf8.acceptRanges", laid_unicode_utf8_acceptRanges), ("unicode/utf8.first", laid_unicode_utf8_first)], narrowed := true }
def DiskRemovesUptoSaid : Prop := diskRemovesUptoRow.holds Tryd.pinned (OpenSpec.upto diskRemovesSpec)

end Rows
end Go.Proofs.YtopnlikoaljbmaaDoor
