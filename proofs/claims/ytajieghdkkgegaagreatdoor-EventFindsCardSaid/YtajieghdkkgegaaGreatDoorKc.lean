/- The types of the program, as the abstract machine is told of them. -/
import Derived.Test.YtajieghdkkgegaaGreatDoorKb
import Derived.Test.YtajieghdkkgegaaGreatDoorChecked
import Derived.KernelRfl
import Derived.Lib.LaidTab
import Derived.Lib.ItoaNum
import Derived.Shelf.Small.Strs
import Derived.Shelf.LaysM
import Derived.Shelf.Strconv.Itoa3
import Derived.Test.YtajieghdkkgegaaGreatDoorProg
import Derived.Lib.AppendIntMem
import Derived.Lib.MakeNoZero
import Derived.Carry
import Derived.Maps.Keyed
set_option linter.all false
set_option maxRecDepth 100000
namespace Go.Abs
open Go Go.Proofs

def T : TT := [
  (2, { desc := .int .i64, zero := (.int .i64 0), size := 1, bytes := 8 }),
  (3, { desc := .int .i64, zero := (.int .i64 0), size := 1, bytes := 8 }),
  (4, { desc := .bool, zero := (.bool false), size := 1, bytes := 1 }),
  (5, { desc := .int .u8, zero := (.int .u8 0), size := 1, bytes := 1 }),
  (9, { desc := .string, zero := (.string ⟨#[]⟩), size := 1, bytes := 16 }),
  (21, { desc := .int .i32, zero := (.int .i32 0), size := 1, bytes := 4 }),
  (22, { desc := .slice 33, zero := (.slice none 0 0), size := 1, bytes := 24 }),
  (23, { desc := .slice 39, zero := (.slice none 0 0), size := 1, bytes := 24 }),
  (25, { desc := .struct #[{ name := "Source", type := 3, offset := 0, embedded := false, tag := "", pkgPath := "", byteOffset := 0 }, { name := "Seq", type := 3, offset := 1, embedded := false, tag := "", pkgPath := "", byteOffset := 8 }, { name := "Type", type := 3, offset := 2, embedded := false, tag := "", pkgPath := "", byteOffset := 16 }, { name := "Time", type := 3, offset := 3, embedded := false, tag := "", pkgPath := "", byteOffset := 24 }, { name := "Values", type := 23, offset := 4, embedded := false, tag := "", pkgPath := "", byteOffset := 32 }], zero := (.agg #[(.int .i64 0), (.int .i64 0), (.int .i64 0), (.int .i64 0), (.slice none 0 0)]), size := 5, bytes := 56 }),
  (28, { desc := .int .i64, zero := (.int .i64 0), size := 1, bytes := 8 }),
  (31, { desc := .slice 37, zero := (.slice none 0 0), size := 1, bytes := 24 }),
  (33, { desc := .struct #[{ name := "Name", type := 9, offset := 0, embedded := false, tag := "", pkgPath := "", byteOffset := 0 }, { name := "Fields", type := 31, offset := 1, embedded := false, tag := "", pkgPath := "", byteOffset := 16 }], zero := (.agg #[(.string ⟨#[]⟩), (.slice none 0 0)]), size := 2, bytes := 40 }),
  (35, { desc := .slice 3, zero := (.slice none 0 0), size := 1, bytes := 24 }),
  (37, { desc := .struct #[{ name := "Name", type := 9, offset := 0, embedded := false, tag := "", pkgPath := "", byteOffset := 0 }, { name := "Kind", type := 3, offset := 1, embedded := false, tag := "", pkgPath := "", byteOffset := 16 }], zero := (.agg #[(.string ⟨#[]⟩), (.int .i64 0)]), size := 2, bytes := 24, eqv := true }),
  (39, { desc := .struct #[{ name := "Kind", type := 3, offset := 0, embedded := false, tag := "", pkgPath := "", byteOffset := 0 }, { name := "Num", type := 3, offset := 1, embedded := false, tag := "", pkgPath := "", byteOffset := 8 }, { name := "Text", type := 9, offset := 2, embedded := false, tag := "", pkgPath := "", byteOffset := 16 }], zero := (.agg #[(.int .i64 0), (.int .i64 0), (.string ⟨#[]⟩)]), size := 3, bytes := 32, eqv := true }),
  (47, { desc := .struct #[{ name := "Time", type := 3, offset := 0, embedded := false, tag := "", pkgPath := "", byteOffset := 0 }, { name := "Source", type := 3, offset := 1, embedded := false, tag := "", pkgPath := "", byteOffset := 8 }, { name := "Seq", type := 3, offset := 2, embedded := false, tag := "", pkgPath := "", byteOffset := 16 }], zero := (.agg #[(.int .i64 0), (.int .i64 0), (.int .i64 0)]), size := 3, bytes := 24, eqv := true }),
  (52, { desc := .map 9 4, zero := (.map none), size := 1, bytes := 8 }),
  (60, { desc := .slice 9, zero := (.slice none 0 0), size := 1, bytes := 24 }),
  (67, { desc := .func #[84] #[] false, zero := .nilFunc, size := 1, bytes := 8 }),
  (70, { desc := .pointer 25, zero := (.pointer none), size := 1, bytes := 8 }),
  (73, { desc := .pointer 76, zero := (.pointer none), size := 1, bytes := 8 }),
  (74, { desc := .slice 5, zero := (.slice none 0 0), size := 1, bytes := 24 }),
  (76, { desc := .struct #[{ name := "addr", type := 73, offset := 0, embedded := false, tag := "", pkgPath := "strings", byteOffset := 0 }, { name := "buf", type := 74, offset := 1, embedded := false, tag := "", pkgPath := "strings", byteOffset := 8 }], zero := (.agg #[(.pointer none), (.slice none 0 0)]), size := 2, bytes := 32 }),
  (79, { desc := .interface #[("Error", 82)], zero := .nilIface, size := 1, bytes := 16 }),
  (92, { desc := .int .u64, zero := (.int .u64 0), size := 1, bytes := 8 }),
  (93, { desc := .pointer 5, zero := (.pointer none), size := 1, bytes := 8 }),
  (105, { desc := .array 24 5, zero := (.agg #[(.int .u8 0), (.int .u8 0), (.int .u8 0), (.int .u8 0), (.int .u8 0), (.int .u8 0), (.int .u8 0), (.int .u8 0), (.int .u8 0), (.int .u8 0), (.int .u8 0), (.int .u8 0), (.int .u8 0), (.int .u8 0), (.int .u8 0), (.int .u8 0), (.int .u8 0), (.int .u8 0), (.int .u8 0), (.int .u8 0), (.int .u8 0), (.int .u8 0), (.int .u8 0), (.int .u8 0)]), size := 24, bytes := 24 }),
  (106, { desc := .int .u64, zero := (.int .u64 0), size := 1, bytes := 8 }),
  (111, { desc := .unsafePointer, zero := (.pointer none), size := 1, bytes := 8 }),
  (117, { desc := .struct #[{ name := "rest", type := 9, offset := 0, embedded := false, tag := "", pkgPath := "tidegate/value", byteOffset := 0 }, { name := "out", type := 74, offset := 1, embedded := false, tag := "", pkgPath := "tidegate/value", byteOffset := 16 }], zero := (.agg #[(.string ⟨#[]⟩), (.slice none 0 0)]), size := 2, bytes := 40 }),
  (121, { desc := .array 20 106, zero := (.agg #[(.int .u64 0), (.int .u64 0), (.int .u64 0), (.int .u64 0), (.int .u64 0), (.int .u64 0), (.int .u64 0), (.int .u64 0), (.int .u64 0), (.int .u64 0), (.int .u64 0), (.int .u64 0), (.int .u64 0), (.int .u64 0), (.int .u64 0), (.int .u64 0), (.int .u64 0), (.int .u64 0), (.int .u64 0), (.int .u64 0)]), size := 20, bytes := 160 }),
  (122, { desc := .int .u32, zero := (.int .u32 0), size := 1, bytes := 4 }),
  (123, { desc := .array 65 5, zero := (.agg #[(.int .u8 0), (.int .u8 0), (.int .u8 0), (.int .u8 0), (.int .u8 0), (.int .u8 0), (.int .u8 0), (.int .u8 0), (.int .u8 0), (.int .u8 0), (.int .u8 0), (.int .u8 0), (.int .u8 0), (.int .u8 0), (.int .u8 0), (.int .u8 0), (.int .u8 0), (.int .u8 0), (.int .u8 0), (.int .u8 0), (.int .u8 0), (.int .u8 0), (.int .u8 0), (.int .u8 0), (.int .u8 0), (.int .u8 0), (.int .u8 0), (.int .u8 0), (.int .u8 0), (.int .u8 0), (.int .u8 0), (.int .u8 0), (.int .u8 0), (.int .u8 0), (.int .u8 0), (.int .u8 0), (.int .u8 0), (.int .u8 0), (.int .u8 0), (.int .u8 0), (.int .u8 0), (.int .u8 0), (.int .u8 0), (.int .u8 0), (.int .u8 0), (.int .u8 0), (.int .u8 0), (.int .u8 0), (.int .u8 0), (.int .u8 0), (.int .u8 0), (.int .u8 0), (.int .u8 0), (.int .u8 0), (.int .u8 0), (.int .u8 0), (.int .u8 0), (.int .u8 0), (.int .u8 0), (.int .u8 0), (.int .u8 0), (.int .u8 0), (.int .u8 0), (.int .u8 0), (.int .u8 0)]), size := 65, bytes := 65 }),
  (129, { desc := .array 256 4, zero := (.agg #[(.bool false), (.bool false), (.bool false), (.bool false), (.bool false), (.bool false), (.bool false), (.bool false), (.bool false), (.bool false), (.bool false), (.bool false), (.bool false), (.bool false), (.bool false), (.bool false), (.bool false), (.bool false), (.bool false), (.bool false), (.bool false), (.bool false), (.bool false), (.bool false), (.bool false), (.bool false), (.bool false), (.bool false), (.bool false), (.bool false), (.bool false), (.bool false), (.bool false), (.bool false), (.bool false), (.bool false), (.bool false), (.bool false), (.bool false), (.bool false), (.bool false), (.bool false), (.bool false), (.bool false), (.bool false), (.bool false), (.bool false), (.bool false), (.bool false), (.bool false), (.bool false), (.bool false), (.bool false), (.bool false), (.bool false), (.bool false), (.bool false), (.bool false), (.bool false), (.bool false), (.bool false), (.bool false), (.bool false), (.bool false), (.bool false), (.bool false), (.bool false), (.bool false), (.bool false), (.bool false), (.bool false), (.bool false), (.bool false), (.bool false), (.bool false), (.bool false), (.bool false), (.bool false), (.bool false), (.bool false), (.bool false), (.bool false), (.bool false), (.bool false), (.bool false), (.bool false), (.bool false), (.bool false), (.bool false), (.bool false), (.bool false), (.bool false), (.bool false), (.bool false), (.bool false), (.bool false), (.bool false), (.bool false), (.bool false), (.bool false), (.bool false), (.bool false), (.bool false), (.bool false), (.bool false), (.bool false), (.bool false), (.bool false), (.bool false), (.bool false), (.bool false), (.bool false), (.bool false), (.bool false), (.bool false), (.bool false), (.bool false), (.bool false), (.bool false), (.bool false), (.bool false), (.bool false), (.bool false), (.bool false), (.bool false), (.bool false), (.bool false), (.bool false), (.bool false), (.bool false), (.bool false), (.bool false), (.bool false), (.bool false), (.bool false), (.bool false), (.bool false), (.bool false), (.bool false), (.bool false), (.bool false), (.bool false), (.bool false), (.bool false), (.bool false), (.bool false), (.bool false), (.bool false), (.bool false), (.bool false), (.bool false), (.bool false), (.bool false), (.bool false), (.bool false), (.bool false), (.bool false), (.bool false), (.bool false), (.bool false), (.bool false), (.bool false), (.bool false), (.bool false), (.bool false), (.bool false), (.bool false), (.bool false), (.bool false), (.bool false), (.bool false), (.bool false), (.bool false), (.bool false), (.bool false), (.bool false), (.bool false), (.bool false), (.bool false), (.bool false), (.bool false), (.bool false), (.bool false), (.bool false), (.bool false), (.bool false), (.bool false), (.bool false), (.bool false), (.bool false), (.bool false), (.bool false), (.bool false), (.bool false), (.bool false), (.bool false), (.bool false), (.bool false), (.bool false), (.bool false), (.bool false), (.bool false), (.bool false), (.bool false), (.bool false), (.bool false), (.bool false), (.bool false), (.bool false), (.bool false), (.bool false), (.bool false), (.bool false), (.bool false), (.bool false), (.bool false), (.bool false), (.bool false), (.bool false), (.bool false), (.bool false), (.bool false), (.bool false), (.bool false), (.bool false), (.bool false), (.bool false), (.bool false), (.bool false), (.bool false), (.bool false), (.bool false), (.bool false), (.bool false), (.bool false), (.bool false), (.bool false), (.bool false), (.bool false), (.bool false), (.bool false), (.bool false), (.bool false), (.bool false), (.bool false), (.bool false), (.bool false), (.bool false), (.bool false), (.bool false), (.bool false), (.bool false), (.bool false), (.bool false), (.bool false), (.bool false)]), size := 256, bytes := 256 }),
  (133, { desc := .pointer 129, zero := (.pointer none), size := 1, bytes := 8 }),
  (142, { desc := .pointer 153, zero := (.pointer none), size := 1, bytes := 8 }),
  (145, { desc := .array 32 5, zero := (.agg #[(.int .u8 0), (.int .u8 0), (.int .u8 0), (.int .u8 0), (.int .u8 0), (.int .u8 0), (.int .u8 0), (.int .u8 0), (.int .u8 0), (.int .u8 0), (.int .u8 0), (.int .u8 0), (.int .u8 0), (.int .u8 0), (.int .u8 0), (.int .u8 0), (.int .u8 0), (.int .u8 0), (.int .u8 0), (.int .u8 0), (.int .u8 0), (.int .u8 0), (.int .u8 0), (.int .u8 0), (.int .u8 0), (.int .u8 0), (.int .u8 0), (.int .u8 0), (.int .u8 0), (.int .u8 0), (.int .u8 0), (.int .u8 0)]), size := 32, bytes := 32 }),
  (146, { desc := .array 64 5, zero := (.agg #[(.int .u8 0), (.int .u8 0), (.int .u8 0), (.int .u8 0), (.int .u8 0), (.int .u8 0), (.int .u8 0), (.int .u8 0), (.int .u8 0), (.int .u8 0), (.int .u8 0), (.int .u8 0), (.int .u8 0), (.int .u8 0), (.int .u8 0), (.int .u8 0), (.int .u8 0), (.int .u8 0), (.int .u8 0), (.int .u8 0), (.int .u8 0), (.int .u8 0), (.int .u8 0), (.int .u8 0), (.int .u8 0), (.int .u8 0), (.int .u8 0), (.int .u8 0), (.int .u8 0), (.int .u8 0), (.int .u8 0), (.int .u8 0), (.int .u8 0), (.int .u8 0), (.int .u8 0), (.int .u8 0), (.int .u8 0), (.int .u8 0), (.int .u8 0), (.int .u8 0), (.int .u8 0), (.int .u8 0), (.int .u8 0), (.int .u8 0), (.int .u8 0), (.int .u8 0), (.int .u8 0), (.int .u8 0), (.int .u8 0), (.int .u8 0), (.int .u8 0), (.int .u8 0), (.int .u8 0), (.int .u8 0), (.int .u8 0), (.int .u8 0), (.int .u8 0), (.int .u8 0), (.int .u8 0), (.int .u8 0), (.int .u8 0), (.int .u8 0), (.int .u8 0), (.int .u8 0)]), size := 64, bytes := 64 }),
  (153, { desc := .struct #[{ name := "Func", type := 9, offset := 0, embedded := false, tag := "", pkgPath := "", byteOffset := 0 }, { name := "Num", type := 9, offset := 1, embedded := false, tag := "", pkgPath := "", byteOffset := 16 }, { name := "Err", type := 79, offset := 2, embedded := false, tag := "", pkgPath := "", byteOffset := 32 }], zero := (.agg #[(.string ⟨#[]⟩), (.string ⟨#[]⟩), .nilIface]), size := 3, bytes := 48 }),
  (155, { desc := .array 256 5, zero := (.agg #[(.int .u8 0), (.int .u8 0), (.int .u8 0), (.int .u8 0), (.int .u8 0), (.int .u8 0), (.int .u8 0), (.int .u8 0), (.int .u8 0), (.int .u8 0), (.int .u8 0), (.int .u8 0), (.int .u8 0), (.int .u8 0), (.int .u8 0), (.int .u8 0), (.int .u8 0), (.int .u8 0), (.int .u8 0), (.int .u8 0), (.int .u8 0), (.int .u8 0), (.int .u8 0), (.int .u8 0), (.int .u8 0), (.int .u8 0), (.int .u8 0), (.int .u8 0), (.int .u8 0), (.int .u8 0), (.int .u8 0), (.int .u8 0), (.int .u8 0), (.int .u8 0), (.int .u8 0), (.int .u8 0), (.int .u8 0), (.int .u8 0), (.int .u8 0), (.int .u8 0), (.int .u8 0), (.int .u8 0), (.int .u8 0), (.int .u8 0), (.int .u8 0), (.int .u8 0), (.int .u8 0), (.int .u8 0), (.int .u8 0), (.int .u8 0), (.int .u8 0), (.int .u8 0), (.int .u8 0), (.int .u8 0), (.int .u8 0), (.int .u8 0), (.int .u8 0), (.int .u8 0), (.int .u8 0), (.int .u8 0), (.int .u8 0), (.int .u8 0), (.int .u8 0), (.int .u8 0), (.int .u8 0), (.int .u8 0), (.int .u8 0), (.int .u8 0), (.int .u8 0), (.int .u8 0), (.int .u8 0), (.int .u8 0), (.int .u8 0), (.int .u8 0), (.int .u8 0), (.int .u8 0), (.int .u8 0), (.int .u8 0), (.int .u8 0), (.int .u8 0), (.int .u8 0), (.int .u8 0), (.int .u8 0), (.int .u8 0), (.int .u8 0), (.int .u8 0), (.int .u8 0), (.int .u8 0), (.int .u8 0), (.int .u8 0), (.int .u8 0), (.int .u8 0), (.int .u8 0), (.int .u8 0), (.int .u8 0), (.int .u8 0), (.int .u8 0), (.int .u8 0), (.int .u8 0), (.int .u8 0), (.int .u8 0), (.int .u8 0), (.int .u8 0), (.int .u8 0), (.int .u8 0), (.int .u8 0), (.int .u8 0), (.int .u8 0), (.int .u8 0), (.int .u8 0), (.int .u8 0), (.int .u8 0), (.int .u8 0), (.int .u8 0), (.int .u8 0), (.int .u8 0), (.int .u8 0), (.int .u8 0), (.int .u8 0), (.int .u8 0), (.int .u8 0), (.int .u8 0), (.int .u8 0), (.int .u8 0), (.int .u8 0), (.int .u8 0), (.int .u8 0), (.int .u8 0), (.int .u8 0), (.int .u8 0), (.int .u8 0), (.int .u8 0), (.int .u8 0), (.int .u8 0), (.int .u8 0), (.int .u8 0), (.int .u8 0), (.int .u8 0), (.int .u8 0), (.int .u8 0), (.int .u8 0), (.int .u8 0), (.int .u8 0), (.int .u8 0), (.int .u8 0), (.int .u8 0), (.int .u8 0), (.int .u8 0), (.int .u8 0), (.int .u8 0), (.int .u8 0), (.int .u8 0), (.int .u8 0), (.int .u8 0), (.int .u8 0), (.int .u8 0), (.int .u8 0), (.int .u8 0), (.int .u8 0), (.int .u8 0), (.int .u8 0), (.int .u8 0), (.int .u8 0), (.int .u8 0), (.int .u8 0), (.int .u8 0), (.int .u8 0), (.int .u8 0), (.int .u8 0), (.int .u8 0), (.int .u8 0), (.int .u8 0), (.int .u8 0), (.int .u8 0), (.int .u8 0), (.int .u8 0), (.int .u8 0), (.int .u8 0), (.int .u8 0), (.int .u8 0), (.int .u8 0), (.int .u8 0), (.int .u8 0), (.int .u8 0), (.int .u8 0), (.int .u8 0), (.int .u8 0), (.int .u8 0), (.int .u8 0), (.int .u8 0), (.int .u8 0), (.int .u8 0), (.int .u8 0), (.int .u8 0), (.int .u8 0), (.int .u8 0), (.int .u8 0), (.int .u8 0), (.int .u8 0), (.int .u8 0), (.int .u8 0), (.int .u8 0), (.int .u8 0), (.int .u8 0), (.int .u8 0), (.int .u8 0), (.int .u8 0), (.int .u8 0), (.int .u8 0), (.int .u8 0), (.int .u8 0), (.int .u8 0), (.int .u8 0), (.int .u8 0), (.int .u8 0), (.int .u8 0), (.int .u8 0), (.int .u8 0), (.int .u8 0), (.int .u8 0), (.int .u8 0), (.int .u8 0), (.int .u8 0), (.int .u8 0), (.int .u8 0), (.int .u8 0), (.int .u8 0), (.int .u8 0), (.int .u8 0), (.int .u8 0), (.int .u8 0), (.int .u8 0), (.int .u8 0), (.int .u8 0), (.int .u8 0), (.int .u8 0), (.int .u8 0), (.int .u8 0), (.int .u8 0), (.int .u8 0), (.int .u8 0), (.int .u8 0), (.int .u8 0), (.int .u8 0), (.int .u8 0), (.int .u8 0), (.int .u8 0), (.int .u8 0), (.int .u8 0), (.int .u8 0), (.int .u8 0), (.int .u8 0), (.int .u8 0), (.int .u8 0), (.int .u8 0), (.int .u8 0)]), size := 256, bytes := 256 }),
  (157, { desc := .struct #[{ name := "lo", type := 5, offset := 0, embedded := false, tag := "", pkgPath := "unicode/utf8", byteOffset := 0 }, { name := "hi", type := 5, offset := 1, embedded := false, tag := "", pkgPath := "unicode/utf8", byteOffset := 1 }], zero := (.agg #[(.int .u8 0), (.int .u8 0)]), size := 2, bytes := 2, eqv := true }),
  (158, { desc := .array 16 157, zero := (.agg #[(.int .u8 0), (.int .u8 0), (.int .u8 0), (.int .u8 0), (.int .u8 0), (.int .u8 0), (.int .u8 0), (.int .u8 0), (.int .u8 0), (.int .u8 0), (.int .u8 0), (.int .u8 0), (.int .u8 0), (.int .u8 0), (.int .u8 0), (.int .u8 0), (.int .u8 0), (.int .u8 0), (.int .u8 0), (.int .u8 0), (.int .u8 0), (.int .u8 0), (.int .u8 0), (.int .u8 0), (.int .u8 0), (.int .u8 0), (.int .u8 0), (.int .u8 0), (.int .u8 0), (.int .u8 0), (.int .u8 0), (.int .u8 0)]), size := 32, bytes := 32 }),
  (163, { desc := .struct #[{ name := "s", type := 9, offset := 0, embedded := false, tag := "", pkgPath := "errors", byteOffset := 0 }], zero := (.agg #[(.string ⟨#[]⟩)]), size := 1, bytes := 16, eqv := true })]

def OkRow (P : Program) (T : TT) (t : Nat) (i : TI) : Prop := P.underlying t = some i.desc ∧ (P.info? t).map (fun j => (j.zero, j.size, j.bytes)) = some (some i.zero, i.size, i.bytes) ∧
  (i.eqv = true → P.stoodInHeld t = false ∧ P.eqGuardType P.depth t = false) ∧ (∀ fs, i.desc = .struct fs → fieldsKnown T fs = true)

theorem row2 : OkRow Tryz.prog T 2 { desc := .int .i64, zero := (.int .i64 0), size := 1, bytes := 8 } :=
  ⟨by kernel_rfl, by kernel_rfl, fun h => (by cases h), fun fs h => (by cases h)⟩
theorem row3 : OkRow Tryz.prog T 3 { desc := .int .i64, zero := (.int .i64 0), size := 1, bytes := 8 } :=
  ⟨by kernel_rfl, by kernel_rfl, fun h => (by cases h), fun fs h => (by cases h)⟩
theorem row4 : OkRow Tryz.prog T 4 { desc := .bool, zero := (.bool false), size := 1, bytes := 1 } :=
  ⟨by kernel_rfl, by kernel_rfl, fun h => (by cases h), fun fs h => (by cases h)⟩
theorem row5 : OkRow Tryz.prog T 5 { desc := .int .u8, zero := (.int .u8 0), size := 1, bytes := 1 } :=
  ⟨by kernel_rfl, by kernel_rfl, fun h => (by cases h), fun fs h => (by cases h)⟩
theorem row9 : OkRow Tryz.prog T 9 { desc := .string, zero := (.string ⟨#[]⟩), size := 1, bytes := 16 } :=
  ⟨by kernel_rfl, by kernel_rfl, fun h => (by cases h), fun fs h => (by cases h)⟩
theorem row21 : OkRow Tryz.prog T 21 { desc := .int .i32, zero := (.int .i32 0), size := 1, bytes := 4 } :=
  ⟨by kernel_rfl, by kernel_rfl, fun h => (by cases h), fun fs h => (by cases h)⟩
theorem row22 : OkRow Tryz.prog T 22 { desc := .slice 33, zero := (.slice none 0 0), size := 1, bytes := 24 } :=
  ⟨by kernel_rfl, by kernel_rfl, fun h => (by cases h), fun fs h => (by cases h)⟩
theorem row23 : OkRow Tryz.prog T 23 { desc := .slice 39, zero := (.slice none 0 0), size := 1, bytes := 24 } :=
  ⟨by kernel_rfl, by kernel_rfl, fun h => (by cases h), fun fs h => (by cases h)⟩
theorem row25 : OkRow Tryz.prog T 25 { desc := .struct #[{ name := "Source", type := 3, offset := 0, embedded := false, tag := "", pkgPath := "", byteOffset := 0 }, { name := "Seq", type := 3, offset := 1, embedded := false, tag := "", pkgPath := "", byteOffset := 8 }, { name := "Type", type := 3, offset := 2, embedded := false, tag := "", pkgPath := "", byteOffset := 16 }, { name := "Time", type := 3, offset := 3, embedded := false, tag := "", pkgPath := "", byteOffset := 24 }, { name := "Values", type := 23, offset := 4, embedded := false, tag := "", pkgPath := "", byteOffset := 32 }], zero := (.agg #[(.int .i64 0), (.int .i64 0), (.int .i64 0), (.int .i64 0), (.slice none 0 0)]), size := 5, bytes := 56 } :=
  ⟨by kernel_rfl, by kernel_rfl, fun h => (by cases h), fun fs h => (by cases h; kernel_rfl)⟩
theorem row28 : OkRow Tryz.prog T 28 { desc := .int .i64, zero := (.int .i64 0), size := 1, bytes := 8 } :=
  ⟨by kernel_rfl, by kernel_rfl, fun h => (by cases h), fun fs h => (by cases h)⟩
theorem row31 : OkRow Tryz.prog T 31 { desc := .slice 37, zero := (.slice none 0 0), size := 1, bytes := 24 } :=
  ⟨by kernel_rfl, by kernel_rfl, fun h => (by cases h), fun fs h => (by cases h)⟩
theorem row33 : OkRow Tryz.prog T 33 { desc := .struct #[{ name := "Name", type := 9, offset := 0, embedded := false, tag := "", pkgPath := "", byteOffset := 0 }, { name := "Fields", type := 31, offset := 1, embedded := false, tag := "", pkgPath := "", byteOffset := 16 }], zero := (.agg #[(.string ⟨#[]⟩), (.slice none 0 0)]), size := 2, bytes := 40 } :=
  ⟨by kernel_rfl, by kernel_rfl, fun h => (by cases h), fun fs h => (by cases h; kernel_rfl)⟩
theorem row35 : OkRow Tryz.prog T 35 { desc := .slice 3, zero := (.slice none 0 0), size := 1, bytes := 24 } :=
  ⟨by kernel_rfl, by kernel_rfl, fun h => (by cases h), fun fs h => (by cases h)⟩
theorem row37 : OkRow Tryz.prog T 37 { desc := .struct #[{ name := "Name", type := 9, offset := 0, embedded := false, tag := "", pkgPath := "", byteOffset := 0 }, { name := "Kind", type := 3, offset := 1, embedded := false, tag := "", pkgPath := "", byteOffset := 16 }], zero := (.agg #[(.string ⟨#[]⟩), (.int .i64 0)]), size := 2, bytes := 24, eqv := true } :=
  ⟨by kernel_rfl, by kernel_rfl, fun _ => ⟨by kernel_rfl, by kernel_rfl⟩, fun fs h => (by cases h; kernel_rfl)⟩
theorem row39 : OkRow Tryz.prog T 39 { desc := .struct #[{ name := "Kind", type := 3, offset := 0, embedded := false, tag := "", pkgPath := "", byteOffset := 0 }, { name := "Num", type := 3, offset := 1, embedded := false, tag := "", pkgPath := "", byteOffset := 8 }, { name := "Text", type := 9, offset := 2, embedded := false, tag := "", pkgPath := "", byteOffset := 16 }], zero := (.agg #[(.int .i64 0), (.int .i64 0), (.string ⟨#[]⟩)]), size := 3, bytes := 32, eqv := true } :=
  ⟨by kernel_rfl, by kernel_rfl, fun _ => ⟨by kernel_rfl, by kernel_rfl⟩, fun fs h => (by cases h; kernel_rfl)⟩
theorem row47 : OkRow Tryz.prog T 47 { desc := .struct #[{ name := "Time", type := 3, offset := 0, embedded := false, tag := "", pkgPath := "", byteOffset := 0 }, { name := "Source", type := 3, offset := 1, embedded := false, tag := "", pkgPath := "", byteOffset := 8 }, { name := "Seq", type := 3, offset := 2, embedded := false, tag := "", pkgPath := "", byteOffset := 16 }], zero := (.agg #[(.int .i64 0), (.int .i64 0), (.int .i64 0)]), size := 3, bytes := 24, eqv := true } :=
  ⟨by kernel_rfl, by kernel_rfl, fun _ => ⟨by kernel_rfl, by kernel_rfl⟩, fun fs h => (by cases h; kernel_rfl)⟩
theorem row52 : OkRow Tryz.prog T 52 { desc := .map 9 4, zero := (.map none), size := 1, bytes := 8 } :=
  ⟨by kernel_rfl, by kernel_rfl, fun h => (by cases h), fun fs h => (by cases h)⟩
theorem row60 : OkRow Tryz.prog T 60 { desc := .slice 9, zero := (.slice none 0 0), size := 1, bytes := 24 } :=
  ⟨by kernel_rfl, by kernel_rfl, fun h => (by cases h), fun fs h => (by cases h)⟩
theorem row67 : OkRow Tryz.prog T 67 { desc := .func #[84] #[] false, zero := .nilFunc, size := 1, bytes := 8 } :=
  ⟨by kernel_rfl, by kernel_rfl, fun h => (by cases h), fun fs h => (by cases h)⟩
theorem row70 : OkRow Tryz.prog T 70 { desc := .pointer 25, zero := (.pointer none), size := 1, bytes := 8 } :=
  ⟨by kernel_rfl, by kernel_rfl, fun h => (by cases h), fun fs h => (by cases h)⟩
theorem row73 : OkRow Tryz.prog T 73 { desc := .pointer 76, zero := (.pointer none), size := 1, bytes := 8 } :=
  ⟨by kernel_rfl, by kernel_rfl, fun h => (by cases h), fun fs h => (by cases h)⟩
theorem row74 : OkRow Tryz.prog T 74 { desc := .slice 5, zero := (.slice none 0 0), size := 1, bytes := 24 } :=
  ⟨by kernel_rfl, by kernel_rfl, fun h => (by cases h), fun fs h => (by cases h)⟩
theorem row76 : OkRow Tryz.prog T 76 { desc := .struct #[{ name := "addr", type := 73, offset := 0, embedded := false, tag := "", pkgPath := "strings", byteOffset := 0 }, { name := "buf", type := 74, offset := 1, embedded := false, tag := "", pkgPath := "strings", byteOffset := 8 }], zero := (.agg #[(.pointer none), (.slice none 0 0)]), size := 2, bytes := 32 } :=
  ⟨by kernel_rfl, by kernel_rfl, fun h => (by cases h), fun fs h => (by cases h; kernel_rfl)⟩
theorem row79 : OkRow Tryz.prog T 79 { desc := .interface #[("Error", 82)], zero := .nilIface, size := 1, bytes := 16 } :=
  ⟨by kernel_rfl, by kernel_rfl, fun h => (by cases h), fun fs h => (by cases h)⟩
theorem row92 : OkRow Tryz.prog T 92 { desc := .int .u64, zero := (.int .u64 0), size := 1, bytes := 8 } :=
  ⟨by kernel_rfl, by kernel_rfl, fun h => (by cases h), fun fs h => (by cases h)⟩
theorem row93 : OkRow Tryz.prog T 93 { desc := .pointer 5, zero := (.pointer none), size := 1, bytes := 8 } :=
  ⟨by kernel_rfl, by kernel_rfl, fun h => (by cases h), fun fs h => (by cases h)⟩
theorem row105 : OkRow Tryz.prog T 105 { desc := .array 24 5, zero := (.agg #[(.int .u8 0), (.int .u8 0), (.int .u8 0), (.int .u8 0), (.int .u8 0), (.int .u8 0), (.int .u8 0), (.int .u8 0), (.int .u8 0), (.int .u8 0), (.int .u8 0), (.int .u8 0), (.int .u8 0), (.int .u8 0), (.int .u8 0), (.int .u8 0), (.int .u8 0), (.int .u8 0), (.int .u8 0), (.int .u8 0), (.int .u8 0), (.int .u8 0), (.int .u8 0), (.int .u8 0)]), size := 24, bytes := 24 } :=
  ⟨by kernel_rfl, by kernel_rfl, fun h => (by cases h), fun fs h => (by cases h)⟩
theorem row106 : OkRow Tryz.prog T 106 { desc := .int .u64, zero := (.int .u64 0), size := 1, bytes := 8 } :=
  ⟨by kernel_rfl, by kernel_rfl, fun h => (by cases h), fun fs h => (by cases h)⟩
theorem row111 : OkRow Tryz.prog T 111 { desc := .unsafePointer, zero := (.pointer none), size := 1, bytes := 8 } :=
  ⟨by kernel_rfl, by kernel_rfl, fun h => (by cases h), fun fs h => (by cases h)⟩
theorem row117 : OkRow Tryz.prog T 117 { desc := .struct #[{ name := "rest", type := 9, offset := 0, embedded := false, tag := "", pkgPath := "tidegate/value", byteOffset := 0 }, { name := "out", type := 74, offset := 1, embedded := false, tag := "", pkgPath := "tidegate/value", byteOffset := 16 }], zero := (.agg #[(.string ⟨#[]⟩), (.slice none 0 0)]), size := 2, bytes := 40 } :=
  ⟨by kernel_rfl, by kernel_rfl, fun h => (by cases h), fun fs h => (by cases h; kernel_rfl)⟩
theorem row121 : OkRow Tryz.prog T 121 { desc := .array 20 106, zero := (.agg #[(.int .u64 0), (.int .u64 0), (.int .u64 0), (.int .u64 0), (.int .u64 0), (.int .u64 0), (.int .u64 0), (.int .u64 0), (.int .u64 0), (.int .u64 0), (.int .u64 0), (.int .u64 0), (.int .u64 0), (.int .u64 0), (.int .u64 0), (.int .u64 0), (.int .u64 0), (.int .u64 0), (.int .u64 0), (.int .u64 0)]), size := 20, bytes := 160 } :=
  ⟨by kernel_rfl, by kernel_rfl, fun h => (by cases h), fun fs h => (by cases h)⟩
theorem row122 : OkRow Tryz.prog T 122 { desc := .int .u32, zero := (.int .u32 0), size := 1, bytes := 4 } :=
  ⟨by kernel_rfl, by kernel_rfl, fun h => (by cases h), fun fs h => (by cases h)⟩
theorem row123 : OkRow Tryz.prog T 123 { desc := .array 65 5, zero := (.agg #[(.int .u8 0), (.int .u8 0), (.int .u8 0), (.int .u8 0), (.int .u8 0), (.int .u8 0), (.int .u8 0), (.int .u8 0), (.int .u8 0), (.int .u8 0), (.int .u8 0), (.int .u8 0), (.int .u8 0), (.int .u8 0), (.int .u8 0), (.int .u8 0), (.int .u8 0), (.int .u8 0), (.int .u8 0), (.int .u8 0), (.int .u8 0), (.int .u8 0), (.int .u8 0), (.int .u8 0), (.int .u8 0), (.int .u8 0), (.int .u8 0), (.int .u8 0), (.int .u8 0), (.int .u8 0), (.int .u8 0), (.int .u8 0), (.int .u8 0), (.int .u8 0), (.int .u8 0), (.int .u8 0), (.int .u8 0), (.int .u8 0), (.int .u8 0), (.int .u8 0), (.int .u8 0), (.int .u8 0), (.int .u8 0), (.int .u8 0), (.int .u8 0), (.int .u8 0), (.int .u8 0), (.int .u8 0), (.int .u8 0), (.int .u8 0), (.int .u8 0), (.int .u8 0), (.int .u8 0), (.int .u8 0), (.int .u8 0), (.int .u8 0), (.int .u8 0), (.int .u8 0), (.int .u8 0), (.int .u8 0), (.int .u8 0), (.int .u8 0), (.int .u8 0), (.int .u8 0), (.int .u8 0)]), size := 65, bytes := 65 } :=
  ⟨by kernel_rfl, by kernel_rfl, fun h => (by cases h), fun fs h => (by cases h)⟩
theorem row129 : OkRow Tryz.prog T 129 { desc := .array 256 4, zero := (.agg #[(.bool false), (.bool false), (.bool false), (.bool false), (.bool false), (.bool false), (.bool false), (.bool false), (.bool false), (.bool false), (.bool false), (.bool false), (.bool false), (.bool false), (.bool false), (.bool false), (.bool false), (.bool false), (.bool false), (.bool false), (.bool false), (.bool false), (.bool false), (.bool false), (.bool false), (.bool false), (.bool false), (.bool false), (.bool false), (.bool false), (.bool false), (.bool false), (.bool false), (.bool false), (.bool false), (.bool false), (.bool false), (.bool false), (.bool false), (.bool false), (.bool false), (.bool false), (.bool false), (.bool false), (.bool false), (.bool false), (.bool false), (.bool false), (.bool false), (.bool false), (.bool false), (.bool false), (.bool false), (.bool false), (.bool false), (.bool false), (.bool false), (.bool false), (.bool false), (.bool false), (.bool false), (.bool false), (.bool false), (.bool false), (.bool false), (.bool false), (.bool false), (.bool false), (.bool false), (.bool false), (.bool false), (.bool false), (.bool false), (.bool false), (.bool false), (.bool false), (.bool false), (.bool false), (.bool false), (.bool false), (.bool false), (.bool false), (.bool false), (.bool false), (.bool false), (.bool false), (.bool false), (.bool false), (.bool false), (.bool false), (.bool false), (.bool false), (.bool false), (.bool false), (.bool false), (.bool false), (.bool false), (.bool false), (.bool false), (.bool false), (.bool false), (.bool false), (.bool false), (.bool false), (.bool false), (.bool false), (.bool false), (.bool false), (.bool false), (.bool false), (.bool false), (.bool false), (.bool false), (.bool false), (.bool false), (.bool false), (.bool false), (.bool false), (.bool false), (.bool false), (.bool false), (.bool false), (.bool false), (.bool false), (.bool false), (.bool false), (.bool false), (.bool false), (.bool false), (.bool false), (.bool false), (.bool false), (.bool false), (.bool false), (.bool false), (.bool false), (.bool false), (.bool false), (.bool false), (.bool false), (.bool false), (.bool false), (.bool false), (.bool false), (.bool false), (.bool false), (.bool false), (.bool false), (.bool false), (.bool false), (.bool false), (.bool false), (.bool false), (.bool false), (.bool false), (.bool false), (.bool false), (.bool false), (.bool false), (.bool false), (.bool false), (.bool false), (.bool false), (.bool false), (.bool false), (.bool false), (.bool false), (.bool false), (.bool false), (.bool false), (.bool false), (.bool false), (.bool false), (.bool false), (.bool false), (.bool false), (.bool false), (.bool false), (.bool false), (.bool false), (.bool false), (.bool false), (.bool false), (.bool false), (.bool false), (.bool false), (.bool false), (.bool false), (.bool false), (.bool false), (.bool false), (.bool false), (.bool false), (.bool false), (.bool false), (.bool false), (.bool false), (.bool false), (.bool false), (.bool false), (.bool false), (.bool false), (.bool false), (.bool false), (.bool false), (.bool false), (.bool false), (.bool false), (.bool false), (.bool false), (.bool false), (.bool false), (.bool false), (.bool false), (.bool false), (.bool false), (.bool false), (.bool false), (.bool false), (.bool false), (.bool false), (.bool false), (.bool false), (.bool false), (.bool false), (.bool false), (.bool false), (.bool false), (.bool false), (.bool false), (.bool false), (.bool false), (.bool false), (.bool false), (.bool false), (.bool false), (.bool false), (.bool false), (.bool false), (.bool false), (.bool false), (.bool false), (.bool false), (.bool false), (.bool false), (.bool false), (.bool false), (.bool false), (.bool false), (.bool false), (.bool false), (.bool false), (.bool false), (.bool false), (.bool false), (.bool false)]), size := 256, bytes := 256 } :=
  ⟨by kernel_rfl, by kernel_rfl, fun h => (by cases h), fun fs h => (by cases h)⟩
theorem row133 : OkRow Tryz.prog T 133 { desc := .pointer 129, zero := (.pointer none), size := 1, bytes := 8 } :=
  ⟨by kernel_rfl, by kernel_rfl, fun h => (by cases h), fun fs h => (by cases h)⟩
theorem row142 : OkRow Tryz.prog T 142 { desc := .pointer 153, zero := (.pointer none), size := 1, bytes := 8 } :=
  ⟨by kernel_rfl, by kernel_rfl, fun h => (by cases h), fun fs h => (by cases h)⟩
theorem row145 : OkRow Tryz.prog T 145 { desc := .array 32 5, zero := (.agg #[(.int .u8 0), (.int .u8 0), (.int .u8 0), (.int .u8 0), (.int .u8 0), (.int .u8 0), (.int .u8 0), (.int .u8 0), (.int .u8 0), (.int .u8 0), (.int .u8 0), (.int .u8 0), (.int .u8 0), (.int .u8 0), (.int .u8 0), (.int .u8 0), (.int .u8 0), (.int .u8 0), (.int .u8 0), (.int .u8 0), (.int .u8 0), (.int .u8 0), (.int .u8 0), (.int .u8 0), (.int .u8 0), (.int .u8 0), (.int .u8 0), (.int .u8 0), (.int .u8 0), (.int .u8 0), (.int .u8 0), (.int .u8 0)]), size := 32, bytes := 32 } :=
  ⟨by kernel_rfl, by kernel_rfl, fun h => (by cases h), fun fs h => (by cases h)⟩
theorem row146 : OkRow Tryz.prog T 146 { desc := .array 64 5, zero := (.agg #[(.int .u8 0), (.int .u8 0), (.int .u8 0), (.int .u8 0), (.int .u8 0), (.int .u8 0), (.int .u8 0), (.int .u8 0), (.int .u8 0), (.int .u8 0), (.int .u8 0), (.int .u8 0), (.int .u8 0), (.int .u8 0), (.int .u8 0), (.int .u8 0), (.int .u8 0), (.int .u8 0), (.int .u8 0), (.int .u8 0), (.int .u8 0), (.int .u8 0), (.int .u8 0), (.int .u8 0), (.int .u8 0), (.int .u8 0), (.int .u8 0), (.int .u8 0), (.int .u8 0), (.int .u8 0), (.int .u8 0), (.int .u8 0), (.int .u8 0), (.int .u8 0), (.int .u8 0), (.int .u8 0), (.int .u8 0), (.int .u8 0), (.int .u8 0), (.int .u8 0), (.int .u8 0), (.int .u8 0), (.int .u8 0), (.int .u8 0), (.int .u8 0), (.int .u8 0), (.int .u8 0), (.int .u8 0), (.int .u8 0), (.int .u8 0), (.int .u8 0), (.int .u8 0), (.int .u8 0), (.int .u8 0), (.int .u8 0), (.int .u8 0), (.int .u8 0), (.int .u8 0), (.int .u8 0), (.int .u8 0), (.int .u8 0), (.int .u8 0), (.int .u8 0), (.int .u8 0)]), size := 64, bytes := 64 } :=
  ⟨by kernel_rfl, by kernel_rfl, fun h => (by cases h), fun fs h => (by cases h)⟩
theorem row153 : OkRow Tryz.prog T 153 { desc := .struct #[{ name := "Func", type := 9, offset := 0, embedded := false, tag := "", pkgPath := "", byteOffset := 0 }, { name := "Num", type := 9, offset := 1, embedded := false, tag := "", pkgPath := "", byteOffset := 16 }, { name := "Err", type := 79, offset := 2, embedded := false, tag := "", pkgPath := "", byteOffset := 32 }], zero := (.agg #[(.string ⟨#[]⟩), (.string ⟨#[]⟩), .nilIface]), size := 3, bytes := 48 } :=
  ⟨by kernel_rfl, by kernel_rfl, fun h => (by cases h), fun fs h => (by cases h; kernel_rfl)⟩
theorem row155 : OkRow Tryz.prog T 155 { desc := .array 256 5, zero := (.agg #[(.int .u8 0), (.int .u8 0), (.int .u8 0), (.int .u8 0), (.int .u8 0), (.int .u8 0), (.int .u8 0), (.int .u8 0), (.int .u8 0), (.int .u8 0), (.int .u8 0), (.int .u8 0), (.int .u8 0), (.int .u8 0), (.int .u8 0), (.int .u8 0), (.int .u8 0), (.int .u8 0), (.int .u8 0), (.int .u8 0), (.int .u8 0), (.int .u8 0), (.int .u8 0), (.int .u8 0), (.int .u8 0), (.int .u8 0), (.int .u8 0), (.int .u8 0), (.int .u8 0), (.int .u8 0), (.int .u8 0), (.int .u8 0), (.int .u8 0), (.int .u8 0), (.int .u8 0), (.int .u8 0), (.int .u8 0), (.int .u8 0), (.int .u8 0), (.int .u8 0), (.int .u8 0), (.int .u8 0), (.int .u8 0), (.int .u8 0), (.int .u8 0), (.int .u8 0), (.int .u8 0), (.int .u8 0), (.int .u8 0), (.int .u8 0), (.int .u8 0), (.int .u8 0), (.int .u8 0), (.int .u8 0), (.int .u8 0), (.int .u8 0), (.int .u8 0), (.int .u8 0), (.int .u8 0), (.int .u8 0), (.int .u8 0), (.int .u8 0), (.int .u8 0), (.int .u8 0), (.int .u8 0), (.int .u8 0), (.int .u8 0), (.int .u8 0), (.int .u8 0), (.int .u8 0), (.int .u8 0), (.int .u8 0), (.int .u8 0), (.int .u8 0), (.int .u8 0), (.int .u8 0), (.int .u8 0), (.int .u8 0), (.int .u8 0), (.int .u8 0), (.int .u8 0), (.int .u8 0), (.int .u8 0), (.int .u8 0), (.int .u8 0), (.int .u8 0), (.int .u8 0), (.int .u8 0), (.int .u8 0), (.int .u8 0), (.int .u8 0), (.int .u8 0), (.int .u8 0), (.int .u8 0), (.int .u8 0), (.int .u8 0), (.int .u8 0), (.int .u8 0), (.int .u8 0), (.int .u8 0), (.int .u8 0), (.int .u8 0), (.int .u8 0), (.int .u8 0), (.int .u8 0), (.int .u8 0), (.int .u8 0), (.int .u8 0), (.int .u8 0), (.int .u8 0), (.int .u8 0), (.int .u8 0), (.int .u8 0), (.int .u8 0), (.int .u8 0), (.int .u8 0), (.int .u8 0), (.int .u8 0), (.int .u8 0), (.int .u8 0), (.int .u8 0), (.int .u8 0), (.int .u8 0), (.int .u8 0), (.int .u8 0), (.int .u8 0), (.int .u8 0), (.int .u8 0), (.int .u8 0), (.int .u8 0), (.int .u8 0), (.int .u8 0), (.int .u8 0), (.int .u8 0), (.int .u8 0), (.int .u8 0), (.int .u8 0), (.int .u8 0), (.int .u8 0), (.int .u8 0), (.int .u8 0), (.int .u8 0), (.int .u8 0), (.int .u8 0), (.int .u8 0), (.int .u8 0), (.int .u8 0), (.int .u8 0), (.int .u8 0), (.int .u8 0), (.int .u8 0), (.int .u8 0), (.int .u8 0), (.int .u8 0), (.int .u8 0), (.int .u8 0), (.int .u8 0), (.int .u8 0), (.int .u8 0), (.int .u8 0), (.int .u8 0), (.int .u8 0), (.int .u8 0), (.int .u8 0), (.int .u8 0), (.int .u8 0), (.int .u8 0), (.int .u8 0), (.int .u8 0), (.int .u8 0), (.int .u8 0), (.int .u8 0), (.int .u8 0), (.int .u8 0), (.int .u8 0), (.int .u8 0), (.int .u8 0), (.int .u8 0), (.int .u8 0), (.int .u8 0), (.int .u8 0), (.int .u8 0), (.int .u8 0), (.int .u8 0), (.int .u8 0), (.int .u8 0), (.int .u8 0), (.int .u8 0), (.int .u8 0), (.int .u8 0), (.int .u8 0), (.int .u8 0), (.int .u8 0), (.int .u8 0), (.int .u8 0), (.int .u8 0), (.int .u8 0), (.int .u8 0), (.int .u8 0), (.int .u8 0), (.int .u8 0), (.int .u8 0), (.int .u8 0), (.int .u8 0), (.int .u8 0), (.int .u8 0), (.int .u8 0), (.int .u8 0), (.int .u8 0), (.int .u8 0), (.int .u8 0), (.int .u8 0), (.int .u8 0), (.int .u8 0), (.int .u8 0), (.int .u8 0), (.int .u8 0), (.int .u8 0), (.int .u8 0), (.int .u8 0), (.int .u8 0), (.int .u8 0), (.int .u8 0), (.int .u8 0), (.int .u8 0), (.int .u8 0), (.int .u8 0), (.int .u8 0), (.int .u8 0), (.int .u8 0), (.int .u8 0), (.int .u8 0), (.int .u8 0), (.int .u8 0), (.int .u8 0), (.int .u8 0), (.int .u8 0), (.int .u8 0), (.int .u8 0), (.int .u8 0), (.int .u8 0), (.int .u8 0), (.int .u8 0), (.int .u8 0), (.int .u8 0), (.int .u8 0), (.int .u8 0), (.int .u8 0), (.int .u8 0), (.int .u8 0), (.int .u8 0), (.int .u8 0), (.int .u8 0), (.int .u8 0), (.int .u8 0), (.int .u8 0)]), size := 256, bytes := 256 } :=
  ⟨by kernel_rfl, by kernel_rfl, fun h => (by cases h), fun fs h => (by cases h)⟩
theorem row157 : OkRow Tryz.prog T 157 { desc := .struct #[{ name := "lo", type := 5, offset := 0, embedded := false, tag := "", pkgPath := "unicode/utf8", byteOffset := 0 }, { name := "hi", type := 5, offset := 1, embedded := false, tag := "", pkgPath := "unicode/utf8", byteOffset := 1 }], zero := (.agg #[(.int .u8 0), (.int .u8 0)]), size := 2, bytes := 2, eqv := true } :=
  ⟨by kernel_rfl, by kernel_rfl, fun _ => ⟨by kernel_rfl, by kernel_rfl⟩, fun fs h => (by cases h; kernel_rfl)⟩
theorem row158 : OkRow Tryz.prog T 158 { desc := .array 16 157, zero := (.agg #[(.int .u8 0), (.int .u8 0), (.int .u8 0), (.int .u8 0), (.int .u8 0), (.int .u8 0), (.int .u8 0), (.int .u8 0), (.int .u8 0), (.int .u8 0), (.int .u8 0), (.int .u8 0), (.int .u8 0), (.int .u8 0), (.int .u8 0), (.int .u8 0), (.int .u8 0), (.int .u8 0), (.int .u8 0), (.int .u8 0), (.int .u8 0), (.int .u8 0), (.int .u8 0), (.int .u8 0), (.int .u8 0), (.int .u8 0), (.int .u8 0), (.int .u8 0), (.int .u8 0), (.int .u8 0), (.int .u8 0), (.int .u8 0)]), size := 32, bytes := 32 } :=
  ⟨by kernel_rfl, by kernel_rfl, fun h => (by cases h), fun fs h => (by cases h)⟩
theorem row163 : OkRow Tryz.prog T 163 { desc := .struct #[{ name := "s", type := 9, offset := 0, embedded := false, tag := "", pkgPath := "errors", byteOffset := 0 }], zero := (.agg #[(.string ⟨#[]⟩)]), size := 1, bytes := 16, eqv := true } :=
  ⟨by kernel_rfl, by kernel_rfl, fun _ => ⟨by kernel_rfl, by kernel_rfl⟩, fun fs h => (by cases h; kernel_rfl)⟩
theorem tOk : TOk Tryz.prog T := fun t i h => by
  have hm := look_mem h
  simp only [T, List.mem_cons, List.not_mem_nil, or_false, Prod.mk.injEq] at hm
  rcases hm with ⟨rfl, rfl⟩ | ⟨rfl, rfl⟩ | ⟨rfl, rfl⟩ | ⟨rfl, rfl⟩ | ⟨rfl, rfl⟩ | ⟨rfl, rfl⟩ | ⟨rfl, rfl⟩ | ⟨rfl, rfl⟩ | ⟨rfl, rfl⟩ | ⟨rfl, rfl⟩ | ⟨rfl, rfl⟩ | ⟨rfl, rfl⟩ | ⟨rfl, rfl⟩ | ⟨rfl, rfl⟩ | ⟨rfl, rfl⟩ | ⟨rfl, rfl⟩ | ⟨rfl, rfl⟩ | ⟨rfl, rfl⟩ | ⟨rfl, rfl⟩ | ⟨rfl, rfl⟩ | ⟨rfl, rfl⟩ | ⟨rfl, rfl⟩ | ⟨rfl, rfl⟩ | ⟨rfl, rfl⟩ | ⟨rfl, rfl⟩ | ⟨rfl, rfl⟩ | ⟨rfl, rfl⟩ | ⟨rfl, rfl⟩ | ⟨rfl, rfl⟩ | ⟨rfl, rfl⟩ | ⟨rfl, rfl⟩ | ⟨rfl, rfl⟩ | ⟨rfl, rfl⟩ | ⟨rfl, rfl⟩ | ⟨rfl, rfl⟩ | ⟨rfl, rfl⟩ | ⟨rfl, rfl⟩ | ⟨rfl, rfl⟩ | ⟨rfl, rfl⟩ | ⟨rfl, rfl⟩ | ⟨rfl, rfl⟩ | ⟨rfl, rfl⟩ | ⟨rfl, rfl⟩
  · exact row2
  · exact row3
  · exact row4
  · exact row5
  · exact row9
  · exact row21
  · exact row22
  · exact row23
  · exact row25
  · exact row28
  · exact row31
  · exact row33
  · exact row35
  · exact row37
  · exact row39
  · exact row47
  · exact row52
  · exact row60
  · exact row67
  · exact row70
  · exact row73
  · exact row74
  · exact row76
  · exact row79
  · exact row92
  · exact row93
  · exact row105
  · exact row106
  · exact row111
  · exact row117
  · exact row121
  · exact row122
  · exact row123
  · exact row129
  · exact row133
  · exact row142
  · exact row145
  · exact row146
  · exact row153
  · exact row155
  · exact row157
  · exact row158
  · exact row163
theorem T2 : look T 2 = some { desc := .int .i64, zero := (.int .i64 0), size := 1, bytes := 8 } := rfl
theorem T3 : look T 3 = some { desc := .int .i64, zero := (.int .i64 0), size := 1, bytes := 8 } := rfl
theorem T4 : look T 4 = some { desc := .bool, zero := (.bool false), size := 1, bytes := 1 } := rfl
theorem T5 : look T 5 = some { desc := .int .u8, zero := (.int .u8 0), size := 1, bytes := 1 } := rfl
theorem T9 : look T 9 = some { desc := .string, zero := (.string ⟨#[]⟩), size := 1, bytes := 16 } := rfl
theorem T22 : look T 22 = some { desc := .slice 33, zero := (.slice none 0 0), size := 1, bytes := 24 } := rfl
theorem T23 : look T 23 = some { desc := .slice 39, zero := (.slice none 0 0), size := 1, bytes := 24 } := rfl
theorem T25 : look T 25 = some { desc := .struct #[{ name := "Source", type := 3, offset := 0, embedded := false, tag := "", pkgPath := "", byteOffset := 0 }, { name := "Seq", type := 3, offset := 1, embedded := false, tag := "", pkgPath := "", byteOffset := 8 }, { name := "Type", type := 3, offset := 2, embedded := false, tag := "", pkgPath := "", byteOffset := 16 }, { name := "Time", type := 3, offset := 3, embedded := false, tag := "", pkgPath := "", byteOffset := 24 }, { name := "Values", type := 23, offset := 4, embedded := false, tag := "", pkgPath := "", byteOffset := 32 }], zero := (.agg #[(.int .i64 0), (.int .i64 0), (.int .i64 0), (.int .i64 0), (.slice none 0 0)]), size := 5, bytes := 56 } := rfl
theorem T28 : look T 28 = some { desc := .int .i64, zero := (.int .i64 0), size := 1, bytes := 8 } := rfl
theorem T31 : look T 31 = some { desc := .slice 37, zero := (.slice none 0 0), size := 1, bytes := 24 } := rfl
theorem T33 : look T 33 = some { desc := .struct #[{ name := "Name", type := 9, offset := 0, embedded := false, tag := "", pkgPath := "", byteOffset := 0 }, { name := "Fields", type := 31, offset := 1, embedded := false, tag := "", pkgPath := "", byteOffset := 16 }], zero := (.agg #[(.string ⟨#[]⟩), (.slice none 0 0)]), size := 2, bytes := 40 } := rfl
theorem T35 : look T 35 = some { desc := .slice 3, zero := (.slice none 0 0), size := 1, bytes := 24 } := rfl
theorem T37 : look T 37 = some { desc := .struct #[{ name := "Name", type := 9, offset := 0, embedded := false, tag := "", pkgPath := "", byteOffset := 0 }, { name := "Kind", type := 3, offset := 1, embedded := false, tag := "", pkgPath := "", byteOffset := 16 }], zero := (.agg #[(.string ⟨#[]⟩), (.int .i64 0)]), size := 2, bytes := 24, eqv := true } := rfl
theorem T39 : look T 39 = some { desc := .struct #[{ name := "Kind", type := 3, offset := 0, embedded := false, tag := "", pkgPath := "", byteOffset := 0 }, { name := "Num", type := 3, offset := 1, embedded := false, tag := "", pkgPath := "", byteOffset := 8 }, { name := "Text", type := 9, offset := 2, embedded := false, tag := "", pkgPath := "", byteOffset := 16 }], zero := (.agg #[(.int .i64 0), (.int .i64 0), (.string ⟨#[]⟩)]), size := 3, bytes := 32, eqv := true } := rfl
theorem T47 : look T 47 = some { desc := .struct #[{ name := "Time", type := 3, offset := 0, embedded := false, tag := "", pkgPath := "", byteOffset := 0 }, { name := "Source", type := 3, offset := 1, embedded := false, tag := "", pkgPath := "", byteOffset := 8 }, { name := "Seq", type := 3, offset := 2, embedded := false, tag := "", pkgPath := "", byteOffset := 16 }], zero := (.agg #[(.int .i64 0), (.int .i64 0), (.int .i64 0)]), size := 3, bytes := 24, eqv := true } := rfl
theorem T52 : look T 52 = some { desc := .map 9 4, zero := (.map none), size := 1, bytes := 8 } := rfl
theorem T60 : look T 60 = some { desc := .slice 9, zero := (.slice none 0 0), size := 1, bytes := 24 } := rfl
theorem T73 : look T 73 = some { desc := .pointer 76, zero := (.pointer none), size := 1, bytes := 8 } := rfl
theorem T74 : look T 74 = some { desc := .slice 5, zero := (.slice none 0 0), size := 1, bytes := 24 } := rfl
theorem T76 : look T 76 = some { desc := .struct #[{ name := "addr", type := 73, offset := 0, embedded := false, tag := "", pkgPath := "strings", byteOffset := 0 }, { name := "buf", type := 74, offset := 1, embedded := false, tag := "", pkgPath := "strings", byteOffset := 8 }], zero := (.agg #[(.pointer none), (.slice none 0 0)]), size := 2, bytes := 32 } := rfl
theorem T79 : look T 79 = some { desc := .interface #[("Error", 82)], zero := .nilIface, size := 1, bytes := 16 } := rfl
theorem T93 : look T 93 = some { desc := .pointer 5, zero := (.pointer none), size := 1, bytes := 8 } := rfl
theorem T106 : look T 106 = some { desc := .int .u64, zero := (.int .u64 0), size := 1, bytes := 8 } := rfl
theorem T111 : look T 111 = some { desc := .unsafePointer, zero := (.pointer none), size := 1, bytes := 8 } := rfl
theorem T117 : look T 117 = some { desc := .struct #[{ name := "rest", type := 9, offset := 0, embedded := false, tag := "", pkgPath := "tidegate/value", byteOffset := 0 }, { name := "out", type := 74, offset := 1, embedded := false, tag := "", pkgPath := "tidegate/value", byteOffset := 16 }], zero := (.agg #[(.string ⟨#[]⟩), (.slice none 0 0)]), size := 2, bytes := 40 } := rfl
theorem T122 : look T 122 = some { desc := .int .u32, zero := (.int .u32 0), size := 1, bytes := 4 } := rfl
theorem mixed : Tryz.prog.follows .mixedOrders = true := by kernel_rfl
end Go.Abs
set_option maxRecDepth 100000
namespace Go.Abs
open Go Go.Proofs
def pow10Cells : List Value := Lib.pow10Tab.map fun z => Value.int .u64 z
/-- The cells of a variable that holds some int. -/
def someInt (cs : List Value) : Prop := ∃ m, cs = [.int .i64 m]
/-- The cells of a variable that holds some error, or none. -/
def someErr (cs : List Value) : Prop := ∃ ev, cs = [ev] ∧ (ev = .nilIface ∨ ∃ te pe, ev = .iface te pe)
noncomputable instance env : Env Tryz.prog := ⟨[(0, (· = pow10Cells)), (1, someInt)]⟩
theorem pow10_tab {w : World} {I : Nat → Prop} (h : EOK Tryz.prog w I) : Lib.TabIs Tryz.prog w "internal/strconv.uint64pow10" .u64 Lib.pow10Tab := by
  obtain ⟨_, _, t, fr, rfl, hb⟩ := h 0 (· = pow10Cells) (by first | exact List.mem_singleton.2 rfl | exact List.mem_cons_self)
  unfold Lib.TabIs World.var?
  rw [show Tryz.prog.globalNamed "internal/strconv.uint64pow10" = some 0 by kernel_rfl]
  simp only [Option.bind_some, hb]
  rfl
theorem maxLen_cell {w : World} {I : Nat → Prop} (h : EOK Tryz.prog w I) : ∃ m, w.cell? ⟨1, 0, none⟩ = some (.int .i64 m) := by
  obtain ⟨_, _, t, fr, ⟨m, rfl⟩, hb⟩ := h 1 someInt (by first | exact List.mem_cons_of_mem _ (List.mem_singleton.2 rfl) | exact List.mem_cons_of_mem _ List.mem_cons_self)
  exact ⟨m, by rw [Lib.cell_of_heap hb]; rfl⟩
end Go.Abs
set_option maxRecDepth 100000
namespace Go.Abs
open Go Go.Proofs
set_option linter.unusedSimpArgs false
attribute [simp] T3 T4 T5 T9 T74 T39 T28 T23 T122 T2 T106
theorem ite_t {α : Type} {c : Bool} {a b : α} (h : c = true) : (if c = true then a else b) = a := by rw [if_pos h]
theorem ite_f {α : Type} {c : Bool} {a b : α} (h : c = false) : (if c = true then a else b) = b := by rw [if_neg (by rw [h]; decide)]
@[simp] def encI (n : Int) : AV := .int .i64 n
abbrev AV.i (n : Int) : AV := .int .i64 n
abbrev W (n : Int) : Int := IntKind.i64.wrap n
theorem wrap_i64 (n : Int) (h1 : -9223372036854775808 ≤ n) (h2 : n ≤ 9223372036854775807) : IntKind.i64.wrap n = n := by
  rw [IntKind.wrap_i64]; omega
end Go.Abs
set_option maxRecDepth 100000
namespace Go.Abs
open Go Go.Proofs
set_option linter.unusedSimpArgs false
structure Val where
  kind : Int
  num : Int
  text : List UInt8
deriving Inhabited, DecidableEq
@[simp] def encV (v : Val) : AV := .agg [.int .i64 v.kind, .int .i64 v.num, .str v.text]
def zeroV : Val := ⟨0, 0, []⟩

def sizeR (v : Val) : Int := if (v.kind == 0 && (decide (v.num < -1099511627776) || decide (1099511627776 < v.num))) = true then 2 else if (v.kind == 1 && v.num != 0 && v.num != 1) = true then 2 else if decide ((64 : Int) < v.text.length) = true then 13 else 0
theorem pc_size (v : Val) : PC Tryz.prog 37 [encV v] (fun r => r = .i (sizeR v)) := by
  refine PC_body tOk Tryz.func37 rfl Tryz.results37 rfl (by simp [Tryz.ntmps37]) ?_
  rw [Tryz.ntmps37]
  simp only [argSlots]
  simp only [encV]
  repeat (first
    | (refine AWP_seq (AWP_regS tOk rfl ?_); simp)
    | (refine AWP_regS tOk rfl ?_; simp)
    | (refine AWP_skip ?_; simp)
    | (refine AWP_exit ?_; simp)
    | (refine AWP_ret ?_; simp)
    | refine AWP_block ?_
    | refine AWP_seq ?_)
  refine AWP_cond2 rfl (fun h => ?_) (fun h1 => ?_)
  · repeat (first
      | (refine AWP_seq (AWP_regS tOk rfl ?_); simp)
      | (refine AWP_regS tOk rfl ?_; simp)
      | (refine AWP_skip ?_; simp)
      | (refine AWP_exit ?_; simp)
      | (refine AWP_ret ?_; simp)
      | refine AWP_block ?_
      | refine AWP_seq ?_)
    rw [sizeR, ite_t h]
  repeat (first
    | (refine AWP_seq (AWP_regS tOk rfl ?_); simp)
    | (refine AWP_regS tOk rfl ?_; simp)
    | (refine AWP_skip ?_; simp)
    | (refine AWP_exit ?_; simp)
    | (refine AWP_ret ?_; simp)
    | refine AWP_block ?_
    | refine AWP_seq ?_)
  refine AWP_cond2 rfl (fun h => ?_) (fun h2 => ?_)
  · repeat (first
      | (refine AWP_seq (AWP_regS tOk rfl ?_); simp)
      | (refine AWP_regS tOk rfl ?_; simp)
      | (refine AWP_skip ?_; simp)
      | (refine AWP_exit ?_; simp)
      | (refine AWP_ret ?_; simp)
      | refine AWP_block ?_
      | refine AWP_seq ?_)
    rw [sizeR, ite_f h1, ite_t h]
  repeat (first
    | (refine AWP_seq (AWP_regS tOk rfl ?_); simp)
    | (refine AWP_regS tOk rfl ?_; simp)
    | (refine AWP_skip ?_; simp)
    | (refine AWP_exit ?_; simp)
    | (refine AWP_ret ?_; simp)
    | refine AWP_block ?_
    | refine AWP_seq ?_)
  refine AWP_cond2 rfl (fun h => ?_) (fun h3 => ?_)
  · repeat (first
      | (refine AWP_seq (AWP_regS tOk rfl ?_); simp)
      | (refine AWP_regS tOk rfl ?_; simp)
      | (refine AWP_skip ?_; simp)
      | (refine AWP_exit ?_; simp)
      | (refine AWP_ret ?_; simp)
      | refine AWP_block ?_
      | refine AWP_seq ?_)
    rw [sizeR, ite_f h1, ite_f h2, ite_t h]
  repeat (first
    | (refine AWP_seq (AWP_regS tOk rfl ?_); simp)
    | (refine AWP_regS tOk rfl ?_; simp)
    | (refine AWP_skip ?_; simp)
    | (refine AWP_exit ?_; simp)
    | (refine AWP_ret ?_; simp)
    | refine AWP_block ?_
    | refine AWP_seq ?_)
  rw [sizeR, ite_f h1, ite_f h2, ite_f h3]

def checkR (v : Val) : Int := if (v.kind == 0 || v.kind == 1) = true then (if (!v.text.isEmpty) = true then 3 else sizeR v) else if (v.kind == 2) = true then (if (v.num != 0) = true then 3 else sizeR v) else 1
theorem pc_Check (v : Val) : PC Tryz.prog 25 [encV v] (fun r => r = .i (checkR v)) := by
  refine PC_body tOk Tryz.func25 rfl Tryz.results25 rfl (by simp [Tryz.ntmps25]) ?_
  rw [Tryz.ntmps25]
  simp only [argSlots]
  simp only [encV]
  repeat (first
    | (refine AWP_seq (AWP_regS tOk rfl ?_); simp)
    | (refine AWP_regS tOk rfl ?_; simp)
    | (refine AWP_skip ?_; simp)
    | (refine AWP_exit ?_; simp)
    | (refine AWP_ret ?_; simp)
    | refine AWP_block ?_
    | refine AWP_seq ?_)
  refine AWP_cond2 rfl (fun h => ?_) (fun h => ?_)
  · repeat (first
      | (refine AWP_seq (AWP_regS tOk rfl ?_); simp)
      | (refine AWP_regS tOk rfl ?_; simp)
      | (refine AWP_skip ?_; simp)
      | (refine AWP_exit ?_; simp)
      | (refine AWP_ret ?_; simp)
      | refine AWP_block ?_
      | refine AWP_seq ?_)
    refine AWP_cond (b := true) (by simp [h]) ?_
    repeat (first
      | (refine AWP_seq (AWP_regS tOk rfl ?_); simp)
      | (refine AWP_regS tOk rfl ?_; simp)
      | (refine AWP_skip ?_; simp)
      | (refine AWP_exit ?_; simp)
      | (refine AWP_ret ?_; simp)
      | refine AWP_block ?_
      | refine AWP_seq ?_)
    refine AWP_cond2 rfl (fun ht => ?_) (fun ht => ?_)
    · repeat (first
        | (refine AWP_seq (AWP_regS tOk rfl ?_); simp)
        | (refine AWP_regS tOk rfl ?_; simp)
        | (refine AWP_skip ?_; simp)
        | (refine AWP_exit ?_; simp)
        | (refine AWP_ret ?_; simp)
        | refine AWP_block ?_
        | refine AWP_seq ?_)
      rw [checkR, ite_t (by simp [h]), ite_t ht]
    · repeat (first
        | (refine AWP_seq (AWP_regS tOk rfl ?_); simp)
        | (refine AWP_regS tOk rfl ?_; simp)
        | (refine AWP_skip ?_; simp)
        | (refine AWP_exit ?_; simp)
        | (refine AWP_ret ?_; simp)
        | refine AWP_block ?_
        | refine AWP_seq ?_)
      refine AStep_PC rfl rfl (by simp) (pc_size v) rfl ?_
      rintro _ rfl
      simp
      repeat (first
        | (refine AWP_seq (AWP_regS tOk rfl ?_); simp)
        | (refine AWP_regS tOk rfl ?_; simp)
        | (refine AWP_skip ?_; simp)
        | (refine AWP_exit ?_; simp)
        | (refine AWP_ret ?_; simp)
        | refine AWP_block ?_
        | refine AWP_seq ?_)
      rw [checkR, ite_t (by simp [h]), ite_f ht]
  · repeat (first
      | (refine AWP_seq (AWP_regS tOk rfl ?_); simp)
      | (refine AWP_regS tOk rfl ?_; simp)
      | (refine AWP_skip ?_; simp)
      | (refine AWP_exit ?_; simp)
      | (refine AWP_ret ?_; simp)
      | refine AWP_block ?_
      | refine AWP_seq ?_)
    refine AWP_cond2 rfl (fun h1 => ?_) (fun h1 => ?_)
    · repeat (first
        | (refine AWP_seq (AWP_regS tOk rfl ?_); simp)
        | (refine AWP_regS tOk rfl ?_; simp)
        | (refine AWP_skip ?_; simp)
        | (refine AWP_exit ?_; simp)
        | (refine AWP_ret ?_; simp)
        | refine AWP_block ?_
        | refine AWP_seq ?_)
      refine AWP_cond2 rfl (fun ht => ?_) (fun ht => ?_)
      · repeat (first
          | (refine AWP_seq (AWP_regS tOk rfl ?_); simp)
          | (refine AWP_regS tOk rfl ?_; simp)
          | (refine AWP_skip ?_; simp)
          | (refine AWP_exit ?_; simp)
          | (refine AWP_ret ?_; simp)
          | refine AWP_block ?_
          | refine AWP_seq ?_)
        rw [checkR, ite_t (by simp [h1]), ite_t ht]
      · repeat (first
          | (refine AWP_seq (AWP_regS tOk rfl ?_); simp)
          | (refine AWP_regS tOk rfl ?_; simp)
          | (refine AWP_skip ?_; simp)
          | (refine AWP_exit ?_; simp)
          | (refine AWP_ret ?_; simp)
          | refine AWP_block ?_
          | refine AWP_seq ?_)
        refine AStep_PC rfl rfl (by simp) (pc_size v) rfl ?_
        rintro _ rfl
        simp
        repeat (first
          | (refine AWP_seq (AWP_regS tOk rfl ?_); simp)
          | (refine AWP_regS tOk rfl ?_; simp)
          | (refine AWP_skip ?_; simp)
          | (refine AWP_exit ?_; simp)
          | (refine AWP_ret ?_; simp)
          | refine AWP_block ?_
          | refine AWP_seq ?_)
        rw [checkR, ite_t (by simp [h1]), ite_f ht]
    · repeat (first
        | (refine AWP_seq (AWP_regS tOk rfl ?_); simp)
        | (refine AWP_regS tOk rfl ?_; simp)
        | (refine AWP_skip ?_; simp)
        | (refine AWP_exit ?_; simp)
        | (refine AWP_ret ?_; simp)
        | refine AWP_block ?_
        | refine AWP_seq ?_)
      refine AWP_cond2 rfl (fun h2 => ?_) (fun h2 => ?_)
      · repeat (first
          | (refine AWP_seq (AWP_regS tOk rfl ?_); simp)
          | (refine AWP_regS tOk rfl ?_; simp)
          | (refine AWP_skip ?_; simp)
          | (refine AWP_exit ?_; simp)
          | (refine AWP_ret ?_; simp)
          | refine AWP_block ?_
          | refine AWP_seq ?_)
        refine AWP_cond2 rfl (fun hn => ?_) (fun hn => ?_)
        · repeat (first
            | (refine AWP_seq (AWP_regS tOk rfl ?_); simp)
            | (refine AWP_regS tOk rfl ?_; simp)
            | (refine AWP_skip ?_; simp)
            | (refine AWP_exit ?_; simp)
            | (refine AWP_ret ?_; simp)
            | refine AWP_block ?_
            | refine AWP_seq ?_)
          rw [checkR, ite_f (by simp [h, h1]), ite_t h2, ite_t hn]
        · repeat (first
            | (refine AWP_seq (AWP_regS tOk rfl ?_); simp)
            | (refine AWP_regS tOk rfl ?_; simp)
            | (refine AWP_skip ?_; simp)
            | (refine AWP_exit ?_; simp)
            | (refine AWP_ret ?_; simp)
            | refine AWP_block ?_
            | refine AWP_seq ?_)
          refine AStep_PC rfl rfl (by simp) (pc_size v) rfl ?_
          rintro _ rfl
          simp
          repeat (first
            | (refine AWP_seq (AWP_regS tOk rfl ?_); simp)
            | (refine AWP_regS tOk rfl ?_; simp)
            | (refine AWP_skip ?_; simp)
            | (refine AWP_exit ?_; simp)
            | (refine AWP_ret ?_; simp)
            | refine AWP_block ?_
            | refine AWP_seq ?_)
          rw [checkR, ite_f (by simp [h, h1]), ite_t h2, ite_f hn]
      · repeat (first
          | (refine AWP_seq (AWP_regS tOk rfl ?_); simp)
          | (refine AWP_regS tOk rfl ?_; simp)
          | (refine AWP_skip ?_; simp)
          | (refine AWP_exit ?_; simp)
          | (refine AWP_ret ?_; simp)
          | refine AWP_block ?_
          | refine AWP_seq ?_)
        rw [checkR, ite_f (by simp [h, h1]), ite_f h2]

def checkedV (v : Val) : Val × Int := if (checkR v != 0) = true then (zeroV, checkR v) else (v, 0)
theorem pc_checked (v : Val) : PC Tryz.prog 74 [encV v] (fun r => r = .tup [encV (checkedV v).1, .i (checkedV v).2]) := by
  refine PC_body tOk Tryz.func74 rfl Tryz.results74 rfl (by simp [Tryz.ntmps74]) ?_
  rw [Tryz.ntmps74]
  simp only [argSlots]
  simp only [encV]
  repeat (first
    | (refine AWP_seq (AWP_regS tOk rfl ?_); simp)
    | (refine AWP_regS tOk rfl ?_; simp)
    | (refine AWP_skip ?_; simp)
    | (refine AWP_exit ?_; simp)
    | (refine AWP_ret ?_; simp)
    | refine AWP_block ?_
    | refine AWP_seq ?_)
  refine AStep_PC rfl rfl (by simp) (pc_Check v) rfl ?_
  rintro _ rfl
  simp
  repeat (first
    | (refine AWP_seq (AWP_regS tOk rfl ?_); simp)
    | (refine AWP_regS tOk rfl ?_; simp)
    | (refine AWP_skip ?_; simp)
    | (refine AWP_exit ?_; simp)
    | (refine AWP_ret ?_; simp)
    | refine AWP_block ?_
    | refine AWP_seq ?_)
  refine AWP_cond2 rfl (fun h => ?_) (fun h => ?_)
  · repeat (first
      | (refine AWP_seq (AWP_regS tOk rfl ?_); simp)
      | (refine AWP_regS tOk rfl ?_; simp)
      | (refine AWP_skip ?_; simp)
      | (refine AWP_exit ?_; simp)
      | (refine AWP_ret ?_; simp)
      | refine AWP_block ?_
      | refine AWP_seq ?_)
    rw [checkedV, ite_t h]
    simp [zeroV]
  · repeat (first
      | (refine AWP_seq (AWP_regS tOk rfl ?_); simp)
      | (refine AWP_regS tOk rfl ?_; simp)
      | (refine AWP_skip ?_; simp)
      | (refine AWP_exit ?_; simp)
      | (refine AWP_ret ?_; simp)
      | refine AWP_block ?_
      | refine AWP_seq ?_)
    rw [checkedV, ite_f h]
    simp
theorem pc_Int (n : Int) : PC Tryz.prog 60 [.i n] (fun r => r = .tup [encV (checkedV ⟨0, n, []⟩).1, .i (checkedV ⟨0, n, []⟩).2]) := by
  refine PC_body tOk Tryz.func60 rfl Tryz.results60 rfl (by simp [Tryz.ntmps60]) ?_
  rw [Tryz.ntmps60]
  simp only [argSlots]
  repeat (first
    | (refine AWP_seq (AWP_regS tOk rfl ?_); simp)
    | (refine AWP_regS tOk rfl ?_; simp)
    | (refine AWP_skip ?_; simp)
    | (refine AWP_exit ?_; simp)
    | (refine AWP_ret ?_; simp)
    | refine AWP_block ?_
    | refine AWP_seq ?_)
  refine AStep_PC rfl rfl (by simp) (pc_checked ⟨0, n, []⟩) rfl ?_
  rintro _ rfl
  simp
  repeat (first
    | (refine AWP_seq (AWP_regS tOk rfl ?_); simp)
    | (refine AWP_regS tOk rfl ?_; simp)
    | (refine AWP_skip ?_; simp)
    | (refine AWP_exit ?_; simp)
    | (refine AWP_ret ?_; simp)
    | refine AWP_block ?_
    | refine AWP_seq ?_)
theorem pc_String (s : List UInt8) : PC Tryz.prog 58 [.str s] (fun r => r = .tup [encV (checkedV ⟨2, 0, s⟩).1, .i (checkedV ⟨2, 0, s⟩).2]) := by
  refine PC_body tOk Tryz.func58 rfl Tryz.results58 rfl (by simp [Tryz.ntmps58]) ?_
  rw [Tryz.ntmps58]
  simp only [argSlots]
  repeat (first
    | (refine AWP_seq (AWP_regS tOk rfl ?_); simp)
    | (refine AWP_regS tOk rfl ?_; simp)
    | (refine AWP_skip ?_; simp)
    | (refine AWP_exit ?_; simp)
    | (refine AWP_ret ?_; simp)
    | refine AWP_block ?_
    | refine AWP_seq ?_)
  refine AStep_PC rfl rfl (by simp) (pc_checked ⟨2, 0, s⟩) rfl ?_
  rintro _ rfl
  simp
  repeat (first
    | (refine AWP_seq (AWP_regS tOk rfl ?_); simp)
    | (refine AWP_regS tOk rfl ?_; simp)
    | (refine AWP_skip ?_; simp)
    | (refine AWP_exit ?_; simp)
    | (refine AWP_ret ?_; simp)
    | refine AWP_block ?_
    | refine AWP_seq ?_)
def boolV (b : Bool) : Val := ⟨1, if b = true then 1 else 0, []⟩
theorem pc_Bool (b : Bool) : PC Tryz.prog 55 [.bool b] (fun r => r = encV (boolV b)) := by
  refine PC_body tOk Tryz.func55 rfl Tryz.results55 rfl (by simp [Tryz.ntmps55]) ?_
  rw [Tryz.ntmps55]
  simp only [argSlots]
  repeat (first
    | (refine AWP_seq (AWP_regS tOk rfl ?_); simp)
    | (refine AWP_regS tOk rfl ?_; simp)
    | (refine AWP_skip ?_; simp)
    | (refine AWP_exit ?_; simp)
    | (refine AWP_ret ?_; simp)
    | refine AWP_block ?_
    | refine AWP_seq ?_)
  refine AWP_cond2 rfl (fun h => ?_) (fun h => ?_)
  · repeat (first
      | (refine AWP_seq (AWP_regS tOk rfl ?_); simp)
      | (refine AWP_regS tOk rfl ?_; simp)
      | (refine AWP_skip ?_; simp)
      | (refine AWP_exit ?_; simp)
      | (refine AWP_ret ?_; simp)
      | refine AWP_block ?_
      | refine AWP_seq ?_)
    simp [boolV, h]
  · repeat (first
      | (refine AWP_seq (AWP_regS tOk rfl ?_); simp)
      | (refine AWP_regS tOk rfl ?_; simp)
      | (refine AWP_skip ?_; simp)
      | (refine AWP_exit ?_; simp)
      | (refine AWP_ret ?_; simp)
      | refine AWP_block ?_
      | refine AWP_seq ?_)
    simp [boolV, h]
def rCheckR (v : Val) : Int := if (decide (v.kind < 0) || decide (2 < v.kind)) = true then 1 else if (v.kind == 2) = true then (if (v.num != 0) = true then 3 else if decide ((64 : Int) < v.text.length) = true then 13 else 0) else
  if (!v.text.isEmpty) = true then 3 else if (v.kind == 1 && (decide (v.num < 0) || decide (1 < v.num)) || decide (v.num < -1099511627776) || decide (1099511627776 < v.num)) = true then 2 else 0
def rIntR (n : Int) : Val × Int := if (decide (n < -1099511627776) || decide (1099511627776 < n)) = true then (zeroV, 2) else (⟨0, n, []⟩, 0)
def rStringR (s : List UInt8) : Val × Int := if decide ((64 : Int) < s.length) = true then (zeroV, 13) else (⟨2, 0, s⟩, 0)
end Go.Abs
set_option maxRecDepth 100000
namespace Go.Abs
open Go Go.Proofs
set_option linter.unusedSimpArgs false

def firstErr (f : Val → Int) : List Val → Int
  | [] => 0
  | v :: r => if (f v != 0) = true then f v else firstErr f r
def checkAllR (f : Val → Int) (l : List Val) : Int := if decide ((256 : Int) < l.length) = true then 5 else firstErr f l
theorem drop_get {α : Type} {l : List α} {j : Nat} (h : j < l.length) : l.drop j = l[j] :: l.drop (j + 1) := List.drop_eq_getElem_cons h
def cmpI (a b : Int) : Int := if decide (a < b) = true then -1 else if decide (b < a) = true then 1 else 0
def cmpS (a b : List UInt8) : Int := if Op.bytesLess a b = true then -1 else if Op.bytesLess b a = true then 1 else 0
def rCompR (a b : Val) : Int := if (a.kind != b.kind) = true then cmpI a.kind b.kind else if (a.num != b.num) = true then cmpI a.num b.num else if Op.bytesLess a.text b.text = true then -1 else if (!Op.bytesLess a.text b.text && !a.text == b.text) = true then 1 else 0
def fmix (h : Int) (c : UInt8) : Int := Int.tmod (W (bits .xor .i64 h (W c.toNat) * 16777619)) 4294967296
end Go.Abs
/-
  DERIVED: THE SHELF's CONTRACTS AT THIS DUMP, IN PLAIN WORDS (tools/lay-plain.mjs out of 'TryzShelf.lean', which tools/lay-shelf.mjs wrote): THE SAME DECLARATIONS UNDER THE SAME NAMES: 'import', 'namespace', 'open', 'def', 'theorem' AND NOTHING ELSE: no command of the shelf's: FOR A HAND-IN. Each laying: the table of numbers ('.._ren') and one theorem, a field a fact of the dump's own or the kernel's comparison; each contract: ONE APPLICATION.
-/
namespace Go.Proofs
open Go.Shelf
def Tryz.lays137_ren : Go.Shelf.Ren := ⟨fun | 137 => 51 | 217 => 67 | 266 => 82 | n => n, fun | 9 => 9 | 5 => 5 | 3 => 3 | n => n, fun | n => n⟩
theorem Tryz.lays137 : Go.Proofs.Lays.n137 Tryz.prog Tryz.lays137_ren := {
  mixed := by kernel_rfl
  f137 := Tryz.func51.trans (congrArg some (by kernel_rfl))
  f217 := Tryz.func67.trans (congrArg some (by kernel_rfl))
  f266 := Tryz.func82.trans (congrArg some (by kernel_rfl))
  t3 := Tryz.underlying3
  a3 := Tryz.isAgg3
  z3 := Tryz.sizeOf3
  v3 := Tryz.zeroValue3
  t5 := Tryz.underlying5
  a5 := Tryz.isAgg5
  z5 := Tryz.sizeOf5
  v5 := Tryz.zeroValue5
  t9 := Tryz.underlying9
  a9 := Tryz.isAgg9
  z9 := Tryz.sizeOf9
  v9 := Tryz.zeroValue9 }
open Go.RowKit in
/-- strings.IndexByte: "IndexByte returns the index of the first instance of c in s, or -1 if c is not present in s.": IT RETURNS 'Lib.indexByte s c'; the world is as it was. (LAID: no walk: one application.) -/
theorem Tryz.strings_IndexByte (s : ByteArray) (c : Int) (w : World) :
    Calls Tryz.prog 51 #[.string s, .int .u8 c] w fun e w' => e = .returned (.int .i64 (Lib.indexByte s.data.toList c.toNat.toUInt8)) ∧ w' = w := Any.strings_IndexByte Tryz.lays137 s c w
def Tryz.laysM171_ren : Go.Shelf.Ren := ⟨fun | 171 => 21 | 243 => 31 | 246 => 46 | 283 => 61 | 284 => 62 | 285 => 63 | 286 => 64 | 129 => 78 | 317 => 77 | 318 => 79 | 319 => 80 | 320 => 81 | 337 => 94 | 338 => 95 | n => n, fun | 3 => 3 | 9 => 9 | 2 => 2 | 4 => 4 | 171 => 105 | 0 => 0 | 53 => 106 | 37 => 74 | 5 => 5 | 173 => 109 | 212 => 121 | 51 => 122 | 20 => 20 | 213 => 123 | 46 => 92 | 232 => 145 | 233 => 146 | n => n, fun | 17 => 0 | 18 => 2 | 19 => 3 | n => n⟩
theorem Tryz.laysM171 : Go.Proofs.LaysM.n171 Tryz.prog Tryz.laysM171_ren := {
  mixed := by kernel_rfl
  f129 := Tryz.func78.trans (congrArg some (by kernel_rfl))
  f171 := Tryz.func21.trans (congrArg some (by kernel_rfl))
  f243 := Tryz.func31.trans (congrArg some (by kernel_rfl))
  f246 := Tryz.func46.trans (congrArg some (by kernel_rfl))
  f283 := Tryz.func61.trans (congrArg some (by kernel_rfl))
  f284 := Tryz.func62.trans (congrArg some (by kernel_rfl))
  f285 := Tryz.func63.trans (congrArg some (by kernel_rfl))
  f286 := Tryz.func64.trans (congrArg some (by kernel_rfl))
  f317 := Tryz.func77.trans (congrArg some (by kernel_rfl))
  f318 := Tryz.func79.trans (congrArg some (by kernel_rfl))
  f319 := Tryz.func80.trans (congrArg some (by kernel_rfl))
  f320 := Tryz.func81.trans (congrArg some (by kernel_rfl))
  f337 := Tryz.func94.trans (congrArg some (by kernel_rfl))
  f338 := Tryz.func95.trans (congrArg some (by kernel_rfl))
  t0 := Tryz.underlying0
  a0 := Tryz.isAgg0
  z0 := Tryz.sizeOf0
  v0 := Tryz.zeroValue0
  t2 := Tryz.underlying2
  a2 := Tryz.isAgg2
  z2 := Tryz.sizeOf2
  v2 := Tryz.zeroValue2
  t3 := Tryz.underlying3
  a3 := Tryz.isAgg3
  z3 := Tryz.sizeOf3
  v3 := Tryz.zeroValue3
  t4 := Tryz.underlying4
  a4 := Tryz.isAgg4
  z4 := Tryz.sizeOf4
  v4 := Tryz.zeroValue4
  t5 := Tryz.underlying5
  a5 := Tryz.isAgg5
  z5 := Tryz.sizeOf5
  v5 := Tryz.zeroValue5
  t9 := Tryz.underlying9
  a9 := Tryz.isAgg9
  z9 := Tryz.sizeOf9
  v9 := Tryz.zeroValue9
  t20 := Tryz.underlying20
  a20 := Tryz.isAgg20
  z20 := Tryz.sizeOf20
  v20 := Tryz.zeroValue20
  t37 := Tryz.underlying74
  a37 := Tryz.isAgg74
  z37 := Tryz.sizeOf74
  v37 := Tryz.zeroValue74
  t46 := Tryz.underlying92
  a46 := Tryz.isAgg92
  z46 := Tryz.sizeOf92
  v46 := Tryz.zeroValue92
  t51 := Tryz.underlying122
  a51 := Tryz.isAgg122
  z51 := Tryz.sizeOf122
  v51 := Tryz.zeroValue122
  t53 := Tryz.underlying106
  a53 := Tryz.isAgg106
  z53 := Tryz.sizeOf106
  v53 := Tryz.zeroValue106
  t171 := Tryz.underlying105
  a171 := Tryz.isAgg105
  z171 := Tryz.sizeOf105
  v171 := Tryz.zeroValue105
  t173 := Tryz.underlying109
  a173 := Tryz.isAgg109
  z173 := Tryz.sizeOf109
  v173 := Tryz.zeroValue109
  t212 := Tryz.underlying121
  a212 := Tryz.isAgg121
  z212 := Tryz.sizeOf121
  v212 := Tryz.zeroValue121
  t213 := Tryz.underlying123
  a213 := Tryz.isAgg123
  z213 := Tryz.sizeOf123
  t232 := Tryz.underlying145
  a232 := Tryz.isAgg145
  z232 := Tryz.sizeOf145
  v232 := Tryz.zeroValue145
  t233 := Tryz.underlying146
  a233 := Tryz.isAgg146
  z233 := Tryz.sizeOf146
  v233 := Tryz.zeroValue146
  g17 := by kernel_rfl
  g18 := by kernel_rfl
  g19 := by kernel_rfl
  i0 := by kernel_rfl
  i2 := by kernel_rfl
  i3 := by kernel_rfl
  i4 := by kernel_rfl
  i5 := by kernel_rfl
  i9 := by kernel_rfl
  i20 := by kernel_rfl
  i37 := by kernel_rfl
  i46 := by kernel_rfl
  i51 := by kernel_rfl
  i53 := by kernel_rfl
  i171 := by kernel_rfl
  i173 := by kernel_rfl
  i212 := by kernel_rfl
  i232 := by kernel_rfl
  i233 := by kernel_rfl
  m17 := by kernel_rfl
  m18 := by kernel_rfl
  m19 := by kernel_rfl }
open Go.RowKit Go.Sort Go.Lib in
/-- strconv.Itoa: "Itoa is equivalent to FormatInt(int64(i), 10).": i's DECIMAL NUMERAL ('Lib.itoa': a '-' where i is negative, then the digits), FOR EVERY int. The world behind the call: the world before it, new blocks behind the heap (the library's 'var a [24]byte'), draws. (LAID: no walk: one application.) -/
theorem Tryz.strconv_Itoa (n : Int) (h0 : -9223372036854775808 ≤ n) (h1 : n ≤ 9223372036854775807) (w : World) (htab : Lib.TabIs Tryz.prog w "internal/strconv.uint64pow10" .u64 Lib.pow10Tab) :
    Calls Tryz.prog 21 #[.int .i64 n] w fun e w' => e = .returned (.string ⟨(Lib.itoa n).toArray⟩) ∧ ∃ k os, w' = grow (w.drewN k) os := Any.strconv_Itoa Tryz.laysM171 n h0 h1 w htab
end Go.Proofs
set_option maxRecDepth 100000
namespace Go.Abs
open Go Go.Proofs
set_option linter.unusedSimpArgs false

theorem callable_Itoa : Callable Tryz.prog 21 := callable Tryz.func21 rfl (by kernel_rfl)
theorem pc_Itoa (n : Int) (h0 : -9223372036854775808 ≤ n) (h1 : n ≤ 9223372036854775807) : PC Tryz.prog 21 [.i n] (fun r => r = .str (Lib.itoa n)) :=
  PC_ext (us := [.int .i64 n]) callable_Itoa rfl fun w I hE => (Tryz.strconv_Itoa n h0 h1 w (pow10_tab hE)).mono fun e w' ⟨h, k, os, hw⟩ => ⟨⟨_, _, rfl, h, .str _⟩, by rw [hw]; exact Lib.below_grow _ w (Nat.le_refl _) k os⟩
theorem callable_Ixb : Callable Tryz.prog 51 := callable Tryz.func51 rfl (by kernel_rfl)
theorem pc_Ixb (s : List UInt8) (c : UInt8) : PC Tryz.prog 51 [.str s, .int .u8 c.toNat] (fun r => r = .i (Lib.indexByte s c)) :=
  PC_ext (us := [.string ⟨s.toArray⟩, .int .u8 c.toNat]) callable_Ixb rfl fun w I hE => (Tryz.strings_IndexByte _ _ w).mono fun e w' ⟨h, hw⟩ => ⟨⟨_, _, rfl, h, by
    have : ((c.toNat : Int).toNat).toUInt8 = c := by simp
    rw [this]
    exact PVR.int .i64 _⟩, by rw [hw]; exact RowKit.Below.refl _ _⟩
end Go.Abs
set_option maxRecDepth 100000
namespace Go.Abs
open Go Go.Proofs
set_option linter.unusedSimpArgs false
attribute [simp] T76 T73 T111 T79 T93
theorem set_same {α : Type} (l : List α) (i : Nat) (x : α) (h : l[i]? = some x) : l.set i x = l := by
  refine List.ext_getElem? fun k => ?_
  rw [List.getElem?_set]
  split
  · rename_i e; subst e; rw [h]; simp [(List.getElem?_eq_some_iff.1 h).1]
  · rfl
set_option maxHeartbeats 400000 in
theorem fc_copyCheck (H : List AObj) (id q : Nat) (p buf : AV) (hp : p = .nilp ∨ p = .vptr id 0) (hid : H[id]? = some (.vars [p, buf])) (hq : H[q]? = some (.tag id 76)) :
    FC Tryz.prog 49 [.vptr id 0] H (fun r H' => r = .tup [] ∧ H' = H.set id (.vars [.vptr id 0, buf])) := by
  refine FC_body tOk Tryz.func49 rfl Tryz.results49 rfl (by simp [Tryz.ntmps49]) ?_
  rw [Tryz.ntmps49]
  simp only [argSlots]
  rcases hp with rfl | rfl
  · repeat (first
      | (refine AWP_seq (AWP_regS tOk rfl ?_); simp [hid])
      | (refine AWP_regS tOk rfl ?_; simp [hid])
      | (refine AWP_skip ?_; simp [hid])
      | (refine AWP_exit ?_; simp [hid])
      | (refine AWP_ret ?_; simp [hid])
      | refine AWP_block ?_
      | refine AWP_seq ?_)
    refine AWP_cond rfl ?_
    repeat (first
      | (refine AWP_seq (AWP_regS tOk rfl ?_); simp [hid])
      | (refine AWP_regS tOk rfl ?_; simp [hid])
      | (refine AWP_skip ?_; simp [hid])
      | (refine AWP_exit ?_; simp [hid])
      | (refine AWP_ret ?_; simp [hid])
      | refine AWP_block ?_
      | refine AWP_seq ?_)
    refine AStep_toUnsafe tOk rfl rfl rfl T73 rfl T76 (by decide) T111 rfl rfl hid (by simp) ?_
    simp
    refine AStep_noEscape rfl rfl rfl Tryz.func65 (by kernel_rfl) (by kernel_rfl) (by kernel_rfl) (by kernel_rfl) ?_
    simp
    refine AStep_fromUnsafe tOk rfl rfl rfl T111 rfl T76 T73 rfl q rfl hid hq (by kernel_rfl) ?_
    simp [hid]
    repeat (first
      | (refine AWP_seq (AWP_regS tOk rfl ?_); simp [hid])
      | (refine AWP_regS tOk rfl ?_; simp [hid])
      | (refine AWP_skip ?_; simp [hid])
      | (refine AWP_exit ?_; simp [hid])
      | (refine AWP_ret ?_; simp [hid])
      | refine AWP_block ?_
      | refine AWP_seq ?_)
  · repeat (first
      | (refine AWP_seq (AWP_regS tOk rfl ?_); simp [hid])
      | (refine AWP_regS tOk rfl ?_; simp [hid])
      | (refine AWP_skip ?_; simp [hid])
      | (refine AWP_exit ?_; simp [hid])
      | (refine AWP_ret ?_; simp [hid])
      | refine AWP_block ?_
      | refine AWP_seq ?_)
    refine AWP_cond rfl ?_
    repeat (first
      | (refine AWP_seq (AWP_regS tOk rfl ?_); simp [hid])
      | (refine AWP_regS tOk rfl ?_; simp [hid])
      | (refine AWP_skip ?_; simp [hid])
      | (refine AWP_exit ?_; simp [hid])
      | (refine AWP_ret ?_; simp [hid])
      | refine AWP_block ?_
      | refine AWP_seq ?_)
    refine AStep_ptrSame tOk rfl rfl rfl T73 rfl T76 rfl rfl ?_
    simp [hid]
    repeat (first
      | (refine AWP_seq (AWP_regS tOk rfl ?_); simp [hid])
      | (refine AWP_regS tOk rfl ?_; simp [hid])
      | (refine AWP_skip ?_; simp [hid])
      | (refine AWP_exit ?_; simp [hid])
      | (refine AWP_ret ?_; simp [hid])
      | refine AWP_block ?_
      | refine AWP_seq ?_)
    refine AWP_cond rfl ?_
    repeat (first
      | (refine AWP_seq (AWP_regS tOk rfl ?_); simp [hid])
      | (refine AWP_regS tOk rfl ?_; simp [hid])
      | (refine AWP_skip ?_; simp [hid])
      | (refine AWP_exit ?_; simp [hid])
      | (refine AWP_ret ?_; simp [hid])
      | refine AWP_block ?_
      | refine AWP_seq ?_)
    rw [set_same _ _ _ hid]
def bytesA (s : List UInt8) : List AV := s.map byteAV
/-- A builder: object 0 its two cells, object 1 its tag, object 2 the bytes. -/
def bld (p : AV) (s : List UInt8) : List AObj := [.vars [p, .sl 2 1 0 s.length], .tag 0 76, .arr 5 1 (s.map byteAV)]
set_option maxHeartbeats 400000 in
theorem fc_WriteByte (p : AV) (hp : p = .nilp ∨ p = .vptr 0 0) (s : List UInt8) (c : UInt8) (hl : s.length ≤ 100000000) :
    FC Tryz.prog 48 [.vptr 0 0, .int .u8 c.toNat] (bld p s) (fun r H' => r = .nili ∧ ∃ G, H' = [.vars [.vptr 0 0, .sl 4 1 0 (s ++ [c]).length], .tag 0 76, .dead, G, .arr 5 1 ((s ++ [c]).map byteAV)]) := by
  refine FC_body tOk Tryz.func48 rfl Tryz.results48 rfl (by simp [Tryz.ntmps48]) ?_
  rw [Tryz.ntmps48]
  simp only [argSlots]
  simp only [bld]
  repeat (first
    | (refine AWP_seq (AWP_regS tOk rfl ?_); simp)
    | (refine AWP_regS tOk rfl ?_; simp)
    | (refine AWP_skip ?_; simp)
    | (refine AWP_exit ?_; simp)
    | (refine AWP_ret ?_; simp)
    | refine AWP_block ?_
    | refine AWP_seq ?_)
  refine AStep_FC rfl rfl (fc_copyCheck _ 0 1 p _ hp rfl rfl) rfl ?_
  rintro _ _ ⟨rfl, rfl⟩
  simp
  repeat (first
    | (refine AWP_seq (AWP_regS tOk rfl ?_); simp)
    | (refine AWP_regS tOk rfl ?_; simp)
    | (refine AWP_skip ?_; simp)
    | (refine AWP_exit ?_; simp)
    | (refine AWP_ret ?_; simp)
    | refine AWP_block ?_
    | refine AWP_seq ?_)
  refine AStep_appendS tOk rfl rfl T74 rfl T5 rfl (by decide) (by decide) rfl rfl rfl ?_
  simp
  refine ⟨by simp [appOk] <;> omega, ?_⟩
  repeat (first
    | (refine AWP_seq (AWP_regS tOk rfl ?_); simp)
    | (refine AWP_regS tOk rfl ?_; simp)
    | (refine AWP_skip ?_; simp)
    | (refine AWP_exit ?_; simp)
    | (refine AWP_ret ?_; simp)
    | refine AWP_block ?_
    | refine AWP_seq ?_)
set_option maxHeartbeats 400000 in
theorem fc_WriteString (p : AV) (hp : p = .nilp ∨ p = .vptr 0 0) (s t : List UInt8) (hl : s.length ≤ 100000000) (ht : t.length ≤ 100000000) :
    FC Tryz.prog 35 [.vptr 0 0, .str t] (bld p s) (fun r H' => r = .tup [.i t.length, .nili] ∧ H' = [.vars [.vptr 0 0, .sl 3 1 0 (s ++ t).length], .tag 0 76, .dead, .arr 5 1 ((s ++ t).map byteAV)]) := by
  refine FC_body tOk Tryz.func35 rfl Tryz.results35 rfl (by simp [Tryz.ntmps35]) ?_
  rw [Tryz.ntmps35]
  simp only [argSlots]
  simp only [bld]
  repeat (first
    | (refine AWP_seq (AWP_regS tOk rfl ?_); simp)
    | (refine AWP_regS tOk rfl ?_; simp)
    | (refine AWP_skip ?_; simp)
    | (refine AWP_exit ?_; simp)
    | (refine AWP_ret ?_; simp)
    | refine AWP_block ?_
    | refine AWP_seq ?_)
  refine AStep_FC rfl rfl (fc_copyCheck _ 0 1 p _ hp rfl rfl) rfl ?_
  rintro _ _ ⟨rfl, rfl⟩
  simp
  repeat (first
    | (refine AWP_seq (AWP_regS tOk rfl ?_); simp)
    | (refine AWP_regS tOk rfl ?_; simp)
    | (refine AWP_skip ?_; simp)
    | (refine AWP_exit ?_; simp)
    | (refine AWP_ret ?_; simp)
    | refine AWP_block ?_
    | refine AWP_seq ?_)
  refine AStep_appendStrS tOk rfl rfl T9 rfl rfl T74 rfl T5 rfl (by decide) rfl rfl rfl ?_
  simp
  refine ⟨⟨by omega, by omega⟩, ?_⟩
  repeat (first
    | (refine AWP_seq (AWP_regS tOk rfl ?_); simp)
    | (refine AWP_regS tOk rfl ?_; simp)
    | (refine AWP_skip ?_; simp)
    | (refine AWP_exit ?_; simp)
    | (refine AWP_ret ?_; simp)
    | refine AWP_block ?_
    | refine AWP_seq ?_)
theorem FC_bString (s : List UInt8) (h0 : s ≠ []) (hl : s.length ≤ 100000000) :
    FC Tryz.prog 36 [.vptr 0 0] (bld (.vptr 0 0) s) (fun r H' => r = .str s) := by
  refine FC_body tOk Tryz.func36 rfl Tryz.results36 rfl (by simp [Tryz.ntmps36]) ?_
  rw [Tryz.ntmps36]
  simp only [argSlots]
  simp only [bld]
  have hpos : 0 < s.length := List.length_pos_iff.2 h0
  repeat (first
    | (refine AWP_seq (AWP_regS tOk rfl ?_); simp)
    | (refine AWP_regS tOk rfl ?_; simp)
    | (refine AWP_skip ?_; simp)
    | (refine AWP_exit ?_; simp)
    | (refine AWP_ret ?_; simp)
    | refine AWP_block ?_
    | refine AWP_seq ?_)
  refine AWP_draw tOk mixed [10] [0, 1, 2, 3, 5, 6, 7, 8, 9, 4, 10, 11] rfl (by kernel_rfl) ?_
  simp
  refine AStep_sliceData rfl rfl rfl rfl hpos ?_
  simp
  refine AStep_unsafeString tOk rfl rfl rfl T93 rfl T5 rfl rfl rfl rfl rfl h0 ?_
  simp
  repeat (first
    | (refine AWP_seq (AWP_regS tOk rfl ?_); simp)
    | (refine AWP_regS tOk rfl ?_; simp)
    | (refine AWP_skip ?_; simp)
    | (refine AWP_exit ?_; simp)
    | (refine AWP_ret ?_; simp)
    | refine AWP_block ?_
    | refine AWP_seq ?_)
end Go.Abs
set_option maxRecDepth 100000
namespace Go.Abs
open Go Go.Proofs
set_option linter.unusedSimpArgs false
def hexs : List UInt8 := [48, 49, 50, 51, 52, 53, 54, 55, 56, 57, 97, 98, 99, 100, 101, 102]
def hexD (n : Nat) : UInt8 := hexs.getD n 0
def hexq (c : UInt8) : List UInt8 := [92, 120, hexD (c.toNat / 16), hexD (c.toNat % 16)]
def escB (c : UInt8) : List UInt8 :=
  if ((c.toNat : Int) == 34 || (c.toNat : Int) == 92) = true then [92, c] else if ((c.toNat : Int) == 10) = true then [92, 110]
  else if (decide ((c.toNat : Int) < 32) || decide ((126 : Int) < c.toNat)) = true then hexq c else [c]
def quoteTo (s : List UInt8) : List UInt8 := 34 :: s.flatMap escB
def quoteR (s : List UInt8) : List UInt8 := quoteTo s ++ [34]
theorem escB_len (c : UInt8) : (escB c).length ≤ 4 := by
  unfold escB hexq
  repeat' split
  all_goals exact Nat.le_of_ble_eq_true rfl
theorem drop_take_one (s : List UInt8) (j : Nat) (h : j < s.length) : (s.take (j + 1)).drop j = [s[j]] := by
  rw [List.take_succ_eq_append_getElem h, List.drop_append, List.drop_eq_nil_of_le (by rw [List.length_take]; omega), List.length_take, Nat.min_eq_left (Nat.le_of_lt h), Nat.sub_self]
  rfl
theorem quoteTo_len (s : List UInt8) : (quoteTo s).length ≤ 1 + 4 * s.length := by
  unfold quoteTo
  induction s with
  | nil => exact Nat.le_refl _
  | cons c s ih =>
    have := escB_len c
    rw [List.length_cons] at ih
    rw [List.flatMap_cons, List.length_cons, List.length_append, List.length_cons]
    omega
@[simp] theorem bld_len (p : AV) (s : List UInt8) : (bld p s).length = 3 := rfl
theorem quoteTo_succ (s : List UInt8) (j : Nat) (h : j < s.length) : quoteTo (s.take (j + 1)) = quoteTo (s.take j) ++ escB s[j] := by
  rw [quoteTo, quoteTo, List.take_succ_eq_append_getElem h, List.flatMap_append, List.flatMap_cons, List.flatMap_nil, List.append_nil]
  rfl
theorem and15 : (List.range 256).all (fun n => bits .and .u8 n 15 == ((n % 16 : Nat) : Int)) = true := by kernel_rfl
theorem nib_hi (n : Nat) (h : n < 256) : ∃ a : Nat, a = n / 16 ∧ a ≤ 15 ∧ (n : Int).fdiv (2 ^ min 4 IntKind.u8.bits) = a := by
  refine ⟨n / 16, rfl, by omega, ?_⟩
  rw [show min 4 IntKind.u8.bits = 4 from rfl, Int.fdiv_eq_ediv_of_nonneg _ (by decide)]
  omega
theorem nib_lo (n : Nat) (h : n < 256) : ∃ a : Nat, a = n % 16 ∧ a ≤ 15 ∧ bits .and .u8 n 15 = a := by
  refine ⟨n % 16, rfl, by omega, ?_⟩
  have := List.all_eq_true.1 and15 n (List.mem_range.2 h)
  simpa using this
theorem nib_u8 (a : Nat) (h : a ≤ 15) : IntKind.u8.wrap ((a : Int) + 1) = a + 1 ∧ (0 : Int) ≤ (a : Int) + 1 ∧ (a : Int) + 1 ≤ 16 ∧ ((a : Int) + 1).toNat = a + 1 := by
  refine ⟨?_, by omega, by omega, by omega⟩
  rw [IntKind.wrap_u8]; omega
theorem hexD_drop (a : Nat) (h : a ≤ 15) : List.drop a (48 :: List.take a [49, 50, 51, 52, 53, 54, 55, 56, 57, 97, 98, 99, 100, 101, 102]) = [hexD a] := by
  have := drop_take_one hexs a (by show a < 16; omega)
  rw [hexD, List.getD_eq_getElem?_getD, List.getElem?_eq_getElem (by show a < 16; omega)]
  exact this
set_option maxHeartbeats 1000000 in
theorem pc_quoted (s : List UInt8) (hs : s.length ≤ 1000000) : PC Tryz.prog 33 [.str s] (fun r => r = .str (quoteR s)) := by
  refine PC_body tOk Tryz.func33 rfl Tryz.results33 rfl (by simp [Tryz.ntmps33]) ?_
  rw [Tryz.ntmps33]
  simp only [argSlots]
  refine AWP_seq (AWP_regS tOk rfl ?_)
  simp
  refine AWP_seq (AWP_reg1 (AStep_allocT tOk rfl rfl T76 rfl ?_))
  simp
  refine AWP_nilOwn 0 1 5 1 rfl rfl ?_
  simp
  repeat (first
    | (refine AWP_seq (AWP_regS tOk rfl ?_); simp)
    | (refine AWP_regS tOk rfl ?_; simp)
    | (refine AWP_skip ?_; simp)
    | (refine AWP_exit ?_; simp)
    | (refine AWP_ret ?_; simp)
    | refine AWP_block ?_
    | refine AWP_seq ?_)
  refine AStep_FC rfl rfl (fc_WriteByte .nilp (.inl rfl) [] 34 (by simp)) rfl ?_
  rintro _ _ ⟨rfl, G, rfl⟩
  simp
  repeat (first
    | (refine AWP_seq (AWP_regS tOk rfl ?_); simp)
    | (refine AWP_regS tOk rfl ?_; simp)
    | (refine AWP_skip ?_; simp)
    | (refine AWP_exit ?_; simp)
    | (refine AWP_ret ?_; simp)
    | refine AWP_block ?_
    | refine AWP_seq ?_)
  refine AWP_ren [0, 1, 4] (sl' := [(0, .str s), (3, .vptr 0 0), (8, .i s.length), (9, .i 0)]) (H' := bld (.vptr 0 0) [34]) ?_ (by simp [bld]) (by decide) (by simp) rfl (by simp [bld]) (by simp [bld]) (by simp)
  refine AWP_count s.length (fun j => [(0, .str s), (3, .vptr 0 0), (8, .i s.length), (9, .i j)]) (fun j => bld (.vptr 0 0) (quoteTo (s.take j))) (G := []) (by simp [quoteTo]) (by simp) (by simp) (by simp [bld]) (by simp [bld]) ?_
  intro j hj ih
  have hq := quoteTo_len (s.take j)
  rw [List.length_take] at hq
  have hq' : (quoteTo (s.take j)).length ≤ 100000000 := by omega
  repeat (first
    | (refine AWP_seq (AWP_regS tOk rfl ?_); simp)
    | (refine AWP_regS tOk rfl ?_; simp)
    | (refine AWP_skip ?_; simp)
    | (refine AWP_exit ?_; simp)
    | (refine AWP_ret ?_; simp)
    | refine AWP_block ?_
    | refine AWP_seq ?_)
  refine AWP_cond2 rfl (fun hlt => ?_) (fun hge => ?_)
  · have hlt' : j < s.length := by simpa using hlt
    have hesc := quoteTo_succ s j hlt'
    have hw1 : IntKind.i64.wrap ((j : Int) + 1) = j + 1 := wrap_i64 _ (by omega) (by omega)
    have hw2 : (0 : Int) ≤ (j : Int) + 1 := by omega
    have hw3 : (j : Int) + 1 ≤ s.length := by omega
    have hw4 : ((j : Int) + 1).toNat = j + 1 := by omega
    repeat (first
      | (refine AWP_seq (AWP_regS tOk rfl ?_); simp [hlt'])
      | (refine AWP_regS tOk rfl ?_; simp [hlt'])
      | (refine AWP_skip ?_; simp [hlt'])
      | (refine AWP_exit ?_; simp [hlt'])
      | (refine AWP_ret ?_; simp [hlt'])
      | refine AWP_block ?_
      | refine AWP_seq ?_)
    refine AWP_cond2 rfl (fun h1 => ?_) (fun h1 => ?_)
    · repeat (first
        | (refine AWP_seq (AWP_regS tOk rfl ?_); simp [hlt', hw1, hw2, hw3, hw4, drop_take_one s j hlt'])
        | (refine AWP_regS tOk rfl ?_; simp [hlt', hw1, hw2, hw3, hw4, drop_take_one s j hlt'])
        | (refine AWP_skip ?_; simp [hlt', hw1, hw2, hw3, hw4, drop_take_one s j hlt'])
        | (refine AWP_exit ?_; simp [hlt', hw1, hw2, hw3, hw4, drop_take_one s j hlt'])
        | (refine AWP_ret ?_; simp [hlt', hw1, hw2, hw3, hw4, drop_take_one s j hlt'])
        | refine AWP_block ?_
        | refine AWP_seq ?_)
      refine AStep_FC rfl rfl (fc_WriteString (.vptr 0 0) (.inr rfl) _ [92, s[j]] hq' (by simp)) rfl ?_
      rintro _ _ ⟨rfl, rfl⟩
      simp
      repeat (first
        | (refine AWP_seq (AWP_regS tOk rfl ?_); simp [hlt', hw1])
        | (refine AWP_regS tOk rfl ?_; simp [hlt', hw1])
        | (refine AWP_skip ?_; simp [hlt', hw1])
        | (refine AWP_exit ?_; simp [hlt', hw1])
        | (refine AWP_ret ?_; simp [hlt', hw1])
        | refine AWP_block ?_
        | refine AWP_seq ?_)
      rw [escB, ite_t h1] at hesc
      refine ALoop_ren [0, 1, 3] (sl' := [(0, .str s), (3, .vptr 0 0), (8, .i s.length), (9, .i (j + 1 : Nat))]) (H' := bld (.vptr 0 0) (quoteTo (s.take (j + 1)))) (ih hlt') ?_ (by decide) (by simp) rfl (by simp [bld]) (by simp [bld]) ?_
      · rw [hesc]; simp [bld]
      · simp
    · repeat (first
        | (refine AWP_seq (AWP_regS tOk rfl ?_); simp [hlt'])
        | (refine AWP_regS tOk rfl ?_; simp [hlt'])
        | (refine AWP_skip ?_; simp [hlt'])
        | (refine AWP_exit ?_; simp [hlt'])
        | (refine AWP_ret ?_; simp [hlt'])
        | refine AWP_block ?_
        | refine AWP_seq ?_)
      refine AWP_cond2 rfl (fun h2 => ?_) (fun h2 => ?_)
      · repeat (first
          | (refine AWP_seq (AWP_regS tOk rfl ?_); simp [hlt'])
          | (refine AWP_regS tOk rfl ?_; simp [hlt'])
          | (refine AWP_skip ?_; simp [hlt'])
          | (refine AWP_exit ?_; simp [hlt'])
          | (refine AWP_ret ?_; simp [hlt'])
          | refine AWP_block ?_
          | refine AWP_seq ?_)
        refine AStep_FC rfl rfl (fc_WriteString (.vptr 0 0) (.inr rfl) _ [92, 110] hq' (by simp)) rfl ?_
        rintro _ _ ⟨rfl, rfl⟩
        simp
        repeat (first
          | (refine AWP_seq (AWP_regS tOk rfl ?_); simp [hlt', hw1])
          | (refine AWP_regS tOk rfl ?_; simp [hlt', hw1])
          | (refine AWP_skip ?_; simp [hlt', hw1])
          | (refine AWP_exit ?_; simp [hlt', hw1])
          | (refine AWP_ret ?_; simp [hlt', hw1])
          | refine AWP_block ?_
          | refine AWP_seq ?_)
        rw [escB, ite_f h1, ite_t h2] at hesc
        refine ALoop_ren [0, 1, 3] (sl' := [(0, .str s), (3, .vptr 0 0), (8, .i s.length), (9, .i (j + 1 : Nat))]) (H' := bld (.vptr 0 0) (quoteTo (s.take (j + 1)))) (ih hlt') ?_ (by decide) (by simp) rfl (by simp [bld]) (by simp [bld]) ?_
        · rw [hesc]; simp [bld]
        · simp
      · repeat (first
          | (refine AWP_seq (AWP_regS tOk rfl ?_); simp [hlt'])
          | (refine AWP_regS tOk rfl ?_; simp [hlt'])
          | (refine AWP_skip ?_; simp [hlt'])
          | (refine AWP_exit ?_; simp [hlt'])
          | (refine AWP_ret ?_; simp [hlt'])
          | refine AWP_block ?_
          | refine AWP_seq ?_)
        refine AWP_cond2 rfl (fun h3 => ?_) (fun h3 => ?_)
        · have hn := s[j].toNat_lt
          obtain ⟨x, hx, hx1, hx2⟩ := nib_hi s[j].toNat hn
          obtain ⟨y, hy, hy1, hy2⟩ := nib_lo s[j].toNat hn
          obtain ⟨x3, x4, x5, x6⟩ := nib_u8 x hx1
          obtain ⟨y3, y4, y5, y6⟩ := nib_u8 y hy1
          refine AWP_draw tOk mixed [14] [0, 1, 2, 3, 4, 5, 6, 7, 8, 9, 10, 11, 12, 13, 14] rfl (by kernel_rfl) ?_
          simp [hx2, hy2, x3, x4, x5, x6, y3, y4, y5, y6, hexD_drop x hx1, hexD_drop y hy1]
          refine AStep_FC rfl rfl (fc_WriteString (.vptr 0 0) (.inr rfl) _ [92, 120, hexD x, hexD y] hq' (by simp)) rfl ?_
          rintro _ _ ⟨rfl, rfl⟩
          simp
          repeat (first
            | (refine AWP_seq (AWP_regS tOk rfl ?_); simp [hlt', hw1])
            | (refine AWP_regS tOk rfl ?_; simp [hlt', hw1])
            | (refine AWP_skip ?_; simp [hlt', hw1])
            | (refine AWP_exit ?_; simp [hlt', hw1])
            | (refine AWP_ret ?_; simp [hlt', hw1])
            | refine AWP_block ?_
            | refine AWP_seq ?_)
          rw [escB, ite_f h1, ite_f h2, ite_t h3, hexq, ← hx, ← hy] at hesc
          refine ALoop_ren [0, 1, 3] (sl' := [(0, .str s), (3, .vptr 0 0), (8, .i s.length), (9, .i (j + 1 : Nat))]) (H' := bld (.vptr 0 0) (quoteTo (s.take (j + 1)))) (ih hlt') ?_ (by decide) (by simp) rfl (by simp [bld]) (by simp [bld]) ?_
          · rw [hesc]; simp [bld]
          · simp
        · repeat (first
            | (refine AWP_seq (AWP_regS tOk rfl ?_); simp [hlt'])
            | (refine AWP_regS tOk rfl ?_; simp [hlt'])
            | (refine AWP_skip ?_; simp [hlt'])
            | (refine AWP_exit ?_; simp [hlt'])
            | (refine AWP_ret ?_; simp [hlt'])
            | refine AWP_block ?_
            | refine AWP_seq ?_)
          refine AStep_FC rfl rfl (fc_WriteByte (.vptr 0 0) (.inr rfl) _ s[j] hq') rfl ?_
          rintro _ _ ⟨rfl, G, rfl⟩
          simp
          repeat (first
            | (refine AWP_seq (AWP_regS tOk rfl ?_); simp [hlt', hw1])
            | (refine AWP_regS tOk rfl ?_; simp [hlt', hw1])
            | (refine AWP_skip ?_; simp [hlt', hw1])
            | (refine AWP_exit ?_; simp [hlt', hw1])
            | (refine AWP_ret ?_; simp [hlt', hw1])
            | refine AWP_block ?_
            | refine AWP_seq ?_)
          rw [escB, ite_f h1, ite_f h2, ite_f h3] at hesc
          refine ALoop_ren [0, 1, 4] (sl' := [(0, .str s), (3, .vptr 0 0), (8, .i s.length), (9, .i (j + 1 : Nat))]) (H' := bld (.vptr 0 0) (quoteTo (s.take (j + 1)))) (ih hlt') ?_ (by decide) (by simp) rfl (by simp [bld]) (by simp [bld]) ?_
          · rw [hesc]; simp [bld]
          · simp
  · have hge' : j = s.length := by simp at hge; omega
    subst hge'
    rw [List.take_length] at hq' ⊢
    repeat (first
      | (refine AWP_seq (AWP_regS tOk rfl ?_); simp)
      | (refine AWP_regS tOk rfl ?_; simp)
      | (refine AWP_skip ?_; simp)
      | (refine AWP_exit ?_; simp)
      | (refine AWP_ret ?_; simp)
      | refine AWP_block ?_
      | refine AWP_seq ?_)
    refine AStep_FC rfl rfl (fc_WriteByte (.vptr 0 0) (.inr rfl) _ 34 hq') rfl ?_
    rintro _ _ ⟨rfl, G, rfl⟩
    simp
    refine AWP_ren [0, 1, 4] (sl' := [(3, .vptr 0 0)]) (H' := bld (.vptr 0 0) (quoteR s)) ?_ (by simp [bld, quoteR]) (by decide) (by simp) rfl (by simp [bld]) (by simp [bld]) (by simp)
    repeat (first
      | (refine AWP_seq (AWP_regS tOk rfl ?_); simp)
      | (refine AWP_regS tOk rfl ?_; simp)
      | (refine AWP_skip ?_; simp)
      | (refine AWP_exit ?_; simp)
      | (refine AWP_ret ?_; simp)
      | refine AWP_block ?_
      | refine AWP_seq ?_)
    refine AStep_FC rfl rfl (FC_bString (quoteR s) (by simp [quoteR]) (by have := quoteTo_len s; simp [quoteR]; omega)) rfl ?_
    rintro _ H' rfl
    simp
    repeat (first
      | (refine AWP_seq (AWP_regS tOk rfl ?_); simp)
      | (refine AWP_regS tOk rfl ?_; simp)
      | (refine AWP_skip ?_; simp)
      | (refine AWP_exit ?_; simp)
      | (refine AWP_ret ?_; simp)
      | refine AWP_block ?_
      | refine AWP_seq ?_)
end Go.Abs
set_option maxRecDepth 100000
namespace Go.Abs
open Go Go.Proofs
set_option linter.unusedSimpArgs false
def boolS (b : Bool) : List UInt8 := if b = true then [116, 114, 117, 101] else [102, 97, 108, 115, 101]
theorem pc_iFormatBool (b : Bool) : PC Tryz.prog 47 [.bool b] (fun r => r = .str (boolS b)) := by
  refine PC_body tOk Tryz.func47 rfl Tryz.results47 rfl (by simp [Tryz.ntmps47]) ?_
  rw [Tryz.ntmps47]
  simp only [argSlots]
  repeat (first
    | (refine AWP_seq (AWP_regS tOk rfl ?_); simp)
    | (refine AWP_regS tOk rfl ?_; simp)
    | (refine AWP_skip ?_; simp)
    | (refine AWP_exit ?_; simp)
    | (refine AWP_ret ?_; simp)
    | refine AWP_block ?_
    | refine AWP_seq ?_)
  refine AWP_cond2 rfl (fun h => ?_) (fun h => ?_)
  · repeat (first
      | (refine AWP_seq (AWP_regS tOk rfl ?_); simp)
      | (refine AWP_regS tOk rfl ?_; simp)
      | (refine AWP_skip ?_; simp)
      | (refine AWP_exit ?_; simp)
      | (refine AWP_ret ?_; simp)
      | refine AWP_block ?_
      | refine AWP_seq ?_)
    subst h; rfl
  · repeat (first
      | (refine AWP_seq (AWP_regS tOk rfl ?_); simp)
      | (refine AWP_regS tOk rfl ?_; simp)
      | (refine AWP_skip ?_; simp)
      | (refine AWP_exit ?_; simp)
      | (refine AWP_ret ?_; simp)
      | refine AWP_block ?_
      | refine AWP_seq ?_)
    subst h; rfl
theorem pc_FormatBool (b : Bool) : PC Tryz.prog 32 [.bool b] (fun r => r = .str (boolS b)) := by
  refine PC_body tOk Tryz.func32 rfl Tryz.results32 rfl (by simp [Tryz.ntmps32]) ?_
  rw [Tryz.ntmps32]
  simp only [argSlots]
  repeat (first
    | (refine AWP_seq (AWP_regS tOk rfl ?_); simp)
    | (refine AWP_regS tOk rfl ?_; simp)
    | (refine AWP_skip ?_; simp)
    | (refine AWP_exit ?_; simp)
    | (refine AWP_ret ?_; simp)
    | refine AWP_block ?_
    | refine AWP_seq ?_)
  refine AStep_PC rfl rfl (by simp) (pc_iFormatBool b) rfl ?_
  rintro _ rfl
  simp
  repeat (first
    | (refine AWP_seq (AWP_regS tOk rfl ?_); simp)
    | (refine AWP_regS tOk rfl ?_; simp)
    | (refine AWP_skip ?_; simp)
    | (refine AWP_exit ?_; simp)
    | (refine AWP_ret ?_; simp)
    | refine AWP_block ?_
    | refine AWP_seq ?_)
theorem checkR_zero {v : Val} (h : checkR v = 0) : (v.kind = 0 ∧ v.text = [] ∧ -1099511627776 ≤ v.num ∧ v.num ≤ 1099511627776) ∨ (v.kind = 1 ∧ v.text = [] ∧ (v.num = 0 ∨ v.num = 1)) ∨ (v.kind = 2 ∧ v.num = 0 ∧ v.text.length ≤ 64) := by
  unfold checkR sizeR at h
  by_cases h0 : v.kind = 0
  · simp [h0] at h
    by_cases ht : v.text = []
    · simp [ht] at h; left; exact ⟨h0, ht, by omega, by omega⟩
    · simp [ht] at h
  by_cases h1 : v.kind = 1
  · simp [h1] at h
    by_cases ht : v.text = []
    · simp [ht] at h; right; left; exact ⟨h1, ht, by omega⟩
    · simp [ht] at h
  by_cases h2 : v.kind = 2
  · simp [h2] at h
    by_cases ht : v.num = 0
    · simp [ht] at h; right; right; exact ⟨h2, ht, by omega⟩
    · simp [ht] at h
  · simp [h0, h1, h2] at h
def fmtText (v : Val) : List UInt8 := if (v.kind == 0) = true then Lib.itoa v.num else if (v.kind == 1) = true then boolS (v.num == 1) else quoteR v.text
def formatR (v : Val) : List UInt8 × Int := if (checkR v != 0) = true then ([], checkR v) else (fmtText v, 0)
attribute [local irreducible] quoteR Lib.itoa checkR
theorem pc_Format (v : Val) : PC Tryz.prog 22 [encV v] (fun r => r = .tup [.str (formatR v).1, .i (formatR v).2]) := by
  refine PC_body tOk Tryz.func22 rfl Tryz.results22 rfl (by simp [Tryz.ntmps22]) ?_
  rw [Tryz.ntmps22]
  simp only [argSlots]
  simp only [encV]
  repeat (first
    | (refine AWP_seq (AWP_regS tOk rfl ?_); simp)
    | (refine AWP_regS tOk rfl ?_; simp)
    | (refine AWP_skip ?_; simp)
    | (refine AWP_exit ?_; simp)
    | (refine AWP_ret ?_; simp)
    | refine AWP_block ?_
    | refine AWP_seq ?_)
  refine AStep_PC rfl rfl (by simp) (pc_Check v) rfl ?_
  rintro _ rfl
  simp
  repeat (first
    | (refine AWP_seq (AWP_regS tOk rfl ?_); simp)
    | (refine AWP_regS tOk rfl ?_; simp)
    | (refine AWP_skip ?_; simp)
    | (refine AWP_exit ?_; simp)
    | (refine AWP_ret ?_; simp)
    | refine AWP_block ?_
    | refine AWP_seq ?_)
  refine AWP_cond2 rfl (fun h => ?_) (fun h => ?_)
  · repeat (first
      | (refine AWP_seq (AWP_regS tOk rfl ?_); simp)
      | (refine AWP_regS tOk rfl ?_; simp)
      | (refine AWP_skip ?_; simp)
      | (refine AWP_exit ?_; simp)
      | (refine AWP_ret ?_; simp)
      | refine AWP_block ?_
      | refine AWP_seq ?_)
    rw [formatR, ite_t h]
    simp
  have hz := checkR_zero (v := v) (by simpa using h)
  repeat (first
    | (refine AWP_seq (AWP_regS tOk rfl ?_); simp)
    | (refine AWP_regS tOk rfl ?_; simp)
    | (refine AWP_skip ?_; simp)
    | (refine AWP_exit ?_; simp)
    | (refine AWP_ret ?_; simp)
    | refine AWP_block ?_
    | refine AWP_seq ?_)
  refine AWP_cond2 rfl (fun h0 => ?_) (fun h0 => ?_)
  · have hk : v.kind = 0 := by simpa using h0
    repeat (first
      | (refine AWP_seq (AWP_regS tOk rfl ?_); simp)
      | (refine AWP_regS tOk rfl ?_; simp)
      | (refine AWP_skip ?_; simp)
      | (refine AWP_exit ?_; simp)
      | (refine AWP_ret ?_; simp)
      | refine AWP_block ?_
      | refine AWP_seq ?_)
    refine AStep_PC rfl rfl (by simp) (pc_Itoa v.num (by omega) (by omega)) rfl ?_
    rintro _ rfl
    simp
    repeat (first
      | (refine AWP_seq (AWP_regS tOk rfl ?_); simp)
      | (refine AWP_regS tOk rfl ?_; simp)
      | (refine AWP_skip ?_; simp)
      | (refine AWP_exit ?_; simp)
      | (refine AWP_ret ?_; simp)
      | refine AWP_block ?_
      | refine AWP_seq ?_)
    rw [formatR, ite_f h, fmtText, ite_t h0]
    simp
  repeat (first
    | (refine AWP_seq (AWP_regS tOk rfl ?_); simp)
    | (refine AWP_regS tOk rfl ?_; simp)
    | (refine AWP_skip ?_; simp)
    | (refine AWP_exit ?_; simp)
    | (refine AWP_ret ?_; simp)
    | refine AWP_block ?_
    | refine AWP_seq ?_)
  refine AWP_cond2 rfl (fun h1 => ?_) (fun h1 => ?_)
  · repeat (first
      | (refine AWP_seq (AWP_regS tOk rfl ?_); simp)
      | (refine AWP_regS tOk rfl ?_; simp)
      | (refine AWP_skip ?_; simp)
      | (refine AWP_exit ?_; simp)
      | (refine AWP_ret ?_; simp)
      | refine AWP_block ?_
      | refine AWP_seq ?_)
    refine AStep_PC rfl rfl (by simp) (pc_FormatBool (v.num == 1)) rfl ?_
    rintro _ rfl
    simp
    repeat (first
      | (refine AWP_seq (AWP_regS tOk rfl ?_); simp)
      | (refine AWP_regS tOk rfl ?_; simp)
      | (refine AWP_skip ?_; simp)
      | (refine AWP_exit ?_; simp)
      | (refine AWP_ret ?_; simp)
      | refine AWP_block ?_
      | refine AWP_seq ?_)
    rw [formatR, ite_f h, fmtText, ite_f h0, ite_t h1]
    simp
  · have h0' : v.kind ≠ 0 := by simpa using h0
    have h1' : v.kind ≠ 1 := by simpa using h1
    repeat (first
      | (refine AWP_seq (AWP_regS tOk rfl ?_); simp)
      | (refine AWP_regS tOk rfl ?_; simp)
      | (refine AWP_skip ?_; simp)
      | (refine AWP_exit ?_; simp)
      | (refine AWP_ret ?_; simp)
      | refine AWP_block ?_
      | refine AWP_seq ?_)
    refine AStep_PC rfl rfl (by simp) (pc_quoted v.text (by omega)) rfl ?_
    rintro _ rfl
    simp
    repeat (first
      | (refine AWP_seq (AWP_regS tOk rfl ?_); simp)
      | (refine AWP_regS tOk rfl ?_; simp)
      | (refine AWP_skip ?_; simp)
      | (refine AWP_exit ?_; simp)
      | (refine AWP_ret ?_; simp)
      | refine AWP_block ?_
      | refine AWP_seq ?_)
    rw [formatR, ite_f h, fmtText, ite_f h0, ite_f h1]
    simp
def compR (a b : Val) : Int := if (cmpI a.kind b.kind != 0) = true then cmpI a.kind b.kind else if (cmpI a.num b.num != 0) = true then cmpI a.num b.num else Lib.compareBytes a.text b.text
attribute [local irreducible] cmpI
end Go.Abs
set_option maxRecDepth 100000
namespace Go.Abs
open Go Go.Proofs
set_option linter.unusedSimpArgs false
@[simp] def u8A (z : Int) : AV := .int .u8 z
def shB (n : Int) (j : Nat) : Int := IntKind.u8.wrap (n.fdiv (2 ^ min (56 - 8 * (j : Int)).toNat IntKind.i64.bits))
def numB (n : Int) (j : Nat) : List Int := (List.range j).map (shB n)
def hashB (v : Val) : List Int := IntKind.u8.wrap v.kind :: (if (v.kind == 2) = true then v.text.map (fun c => (c.toNat : Int)) else numB v.num 8)
def hstep (h z : Int) : Int := IntKind.u32.wrap (bits .xor .u32 h (IntKind.u32.wrap z) * 16777619)
def hashR (v : Val) : Int × Int := if (checkR v != 0) = true then (0, checkR v) else (W ((hashB v).foldl hstep 2166136261), 0)
@[simp] theorem numB_len (n : Int) (j : Nat) : (numB n j).length = j := by simp [numB]
attribute [local irreducible] checkR
def rmix (h z : Int) : Int := Int.tmod (W (bits .xor .i64 h (W z) * 16777619)) 4294967296
def rsh (n : Int) (j : Nat) : Int := IntKind.u8.wrap (n.fdiv (2 ^ min (8 * (7 - (j : Int))).toNat IntKind.i64.bits))
def rnumB (n : Int) (j : Nat) : List Int := (List.range j).map (rsh n)
def rHashR (v : Val) : Int × Int := if (rCheckR v != 0) = true then (0, rCheckR v) else if (v.kind == 2) = true then ((v.text.map (fun c => (c.toNat : Int))).foldl rmix (rmix 2166136261 (IntKind.u8.wrap v.kind)), 0) else ((rnumB v.num 8).foldl rmix (rmix 2166136261 (IntKind.u8.wrap v.kind)), 0)
attribute [local irreducible] rmix
attribute [local irreducible] rCheckR
end Go.Abs
set_option maxRecDepth 100000
namespace Go.Abs
open Go Go.Proofs
set_option linter.unusedSimpArgs false
attribute [simp] T117
/-- A reader: object 0 its two cells, object 1 the bytes. -/
def rdr (rest s : List UInt8) : List AObj := [.vars [.str rest, .sl 1 1 0 s.length], .arr 5 1 (s.map byteAV)]
@[simp] theorem rdr_len (r s : List UInt8) : (rdr r s).length = 2 := rfl
def rdr' (rest s : List UInt8) (H : List AObj) : Prop := ∃ G, H = [.vars [.str rest, .sl 3 1 0 s.length], .dead, G, .arr 5 1 (s.map byteAV)]
def printB (c : UInt8) : Bool := decide ((32 : Int) ≤ c.toNat) && decide ((c.toNat : Int) ≤ 126)
set_option maxHeartbeats 1000000 in
theorem fc_plain (c : UInt8) (rest s : List UInt8) (hl : s.length ≤ 100000000) :
    FC Tryz.prog 72 [.vptr 0 0] (rdr (c :: rest) s) (fun r H' => r = .bool (printB c) ∧ rdr' rest (s ++ [c]) H') := by
  refine FC_body tOk Tryz.func72 rfl Tryz.results72 rfl (by simp [Tryz.ntmps72]) ?_
  rw [Tryz.ntmps72]
  simp only [argSlots]
  simp only [rdr]
  repeat (first
    | (refine AWP_seq (AWP_regS tOk rfl ?_); simp)
    | (refine AWP_regS tOk rfl ?_; simp)
    | (refine AWP_skip ?_; simp)
    | (refine AWP_exit ?_; simp)
    | (refine AWP_ret ?_; simp)
    | refine AWP_block ?_
    | refine AWP_seq ?_)
  have hr0 : (1 : Int) ≤ (rest.length : Int) + 1 := by omega
  refine AWP_drawT tOk mixed [8, 16, 19] (.val 0 (.val 1 (.val 2 (.val 3 (.val 4 (.val 5 (.val 6 (.val 9 (.val 10 (.val 11 (.two 7 (.two 8 (.val 12 (.val 13 (.val 14 (.val 15 (.one 16 (.val 17 (.val 18 (.one 19 (.done))))))))) 12 (.val 13 (.one 8 (.val 14 (.val 15 (.one 16 (.val 17 (.val 18 (.one 19 (.done)))))))))) 12 (.val 13 (.one 7 (.one 8 (.val 14 (.val 15 (.one 16 (.val 17 (.val 18 (.one 19 (.done))))))))))))))))))))) rfl (by kernel_rfl) ?_
  simp [hr0]
  refine ⟨?_, ?_⟩
  · refine AStep_appendS tOk rfl rfl T74 rfl T5 rfl (by decide) (by decide) rfl rfl rfl ?_
    simp [hr0]
    refine ⟨by simp [appOk, hr0] <;> omega, ?_⟩
    repeat (first
      | (refine AWP_seq (AWP_regS tOk rfl ?_); simp)
      | (refine AWP_regS tOk rfl ?_; simp)
      | (refine AWP_skip ?_; simp)
      | (refine AWP_exit ?_; simp)
      | (refine AWP_ret ?_; simp)
      | refine AWP_block ?_
      | refine AWP_seq ?_)
    exact ⟨rfl, _, by simp; rfl⟩
  · refine AStep_appendS tOk rfl rfl T74 rfl T5 rfl (by decide) (by decide) rfl rfl rfl ?_
    simp [hr0]
    refine ⟨by simp [appOk, hr0] <;> omega, ?_⟩
    repeat (first
      | (refine AWP_seq (AWP_regS tOk rfl ?_); simp)
      | (refine AWP_regS tOk rfl ?_; simp)
      | (refine AWP_skip ?_; simp)
      | (refine AWP_exit ?_; simp)
      | (refine AWP_ret ?_; simp)
      | refine AWP_block ?_
      | refine AWP_seq ?_)
    exact ⟨rfl, _, by simp; rfl⟩
def hexI (c : UInt8) : Int := Lib.indexByte hexs c
theorem indexByte_bound (l : List UInt8) (c : UInt8) : -1 ≤ Lib.indexByte l c ∧ Lib.indexByte l c < l.length := by
  induction l with
  | nil => simp [Lib.indexByte]
  | cons x l ih =>
    unfold Lib.indexByte
    simp only [List.length_cons]
    split
    · omega
    · split <;> omega
theorem hexI_bound (c : UInt8) : -1 ≤ hexI c ∧ hexI c < 16 := indexByte_bound hexs c
def hexV (a b : UInt8) : UInt8 := UInt8.ofNat (16 * hexI a + hexI b).toNat
theorem hexV_int (a b : UInt8) (ha : 0 ≤ hexI a) (hb : 0 ≤ hexI b) : ((hexV a b).toNat : Int) = 16 * hexI a + hexI b := by
  have h1 := hexI_bound a
  have h2 := hexI_bound b
  have : (hexV a b).toNat = (16 * hexI a + hexI b).toNat % 256 := by simp [hexV]
  rw [this]
  omega
def escX : List UInt8 → Option (UInt8 × List UInt8)
  | a :: b :: r => if (decide (hexI a < 0) || decide (hexI b < 0)) = true then none else some (hexV a b, r)
  | _ => none
def escR : List UInt8 → Option (UInt8 × List UInt8)
  | [] => none
  | c :: r => if ((c.toNat : Int) == 34 || (c.toNat : Int) == 92) = true then some (c, r) else if ((c.toNat : Int) == 110) = true then some (10, r) else if ((c.toNat : Int) == 120) = true then escX r else none
def escQ (e : Option (UInt8 × List UInt8)) (s : List UInt8) (r : AV) (H' : List AObj) : Prop := match e with
  | none => r = .bool false
  | some (b, r') => r = .bool true ∧ rdr' r' (s ++ [b]) H'
theorem hexI_def (c : UInt8) : hexI c = Lib.indexByte hexs c := rfl
attribute [local irreducible] hexI hexV
set_option maxHeartbeats 1000000 in
theorem fc_escaped (rest s : List UInt8) (hl : s.length ≤ 100000000) :
    FC Tryz.prog 73 [.vptr 0 0] (rdr rest s) (escQ (escR rest) s) := by
  refine FC_body tOk Tryz.func73 rfl Tryz.results73 rfl (by simp [Tryz.ntmps73]) ?_
  rw [Tryz.ntmps73]
  simp only [argSlots]
  simp only [rdr]
  rcases rest with _ | ⟨c, rest⟩
  · repeat (first
      | (refine AWP_seq (AWP_regS tOk rfl ?_); simp)
      | (refine AWP_regS tOk rfl ?_; simp)
      | (refine AWP_skip ?_; simp)
      | (refine AWP_exit ?_; simp)
      | (refine AWP_ret ?_; simp)
      | refine AWP_block ?_
      | refine AWP_seq ?_)
    refine AWP_cond rfl ?_
    repeat (first
      | (refine AWP_seq (AWP_regS tOk rfl ?_); simp)
      | (refine AWP_regS tOk rfl ?_; simp)
      | (refine AWP_skip ?_; simp)
      | (refine AWP_exit ?_; simp)
      | (refine AWP_ret ?_; simp)
      | refine AWP_block ?_
      | refine AWP_seq ?_)
    rfl
  have hr0 : (1 : Int) ≤ (rest.length : Int) + 1 := by omega
  repeat (first
    | (refine AWP_seq (AWP_regS tOk rfl ?_); simp)
    | (refine AWP_regS tOk rfl ?_; simp)
    | (refine AWP_skip ?_; simp)
    | (refine AWP_exit ?_; simp)
    | (refine AWP_ret ?_; simp)
    | refine AWP_block ?_
    | refine AWP_seq ?_)
  refine AWP_cond rfl ?_
  repeat (first
    | (refine AWP_seq (AWP_regS tOk rfl ?_); simp)
    | (refine AWP_regS tOk rfl ?_; simp)
    | (refine AWP_skip ?_; simp)
    | (refine AWP_exit ?_; simp)
    | (refine AWP_ret ?_; simp)
    | refine AWP_block ?_
    | refine AWP_seq ?_)
  refine AWP_cond2 rfl (fun h1 => ?_) (fun h1 => ?_)
  · repeat (first
      | (refine AWP_seq (AWP_regS tOk rfl ?_); simp)
      | (refine AWP_regS tOk rfl ?_; simp)
      | (refine AWP_skip ?_; simp)
      | (refine AWP_exit ?_; simp)
      | (refine AWP_ret ?_; simp)
      | refine AWP_block ?_
      | refine AWP_seq ?_)
    refine AWP_cond (b := true) (by rw [← h1]; rfl) ?_
    repeat (first
      | (refine AWP_seq (AWP_regS tOk rfl ?_); simp)
      | (refine AWP_regS tOk rfl ?_; simp)
      | (refine AWP_skip ?_; simp)
      | (refine AWP_exit ?_; simp)
      | (refine AWP_ret ?_; simp)
      | refine AWP_block ?_
      | refine AWP_seq ?_)
    refine AStep_appendS tOk rfl rfl T74 rfl T5 rfl (by decide) (by decide) rfl rfl rfl ?_
    simp [hr0]
    refine ⟨by simp [appOk, hr0] <;> omega, ?_⟩
    repeat (first
      | (refine AWP_seq (AWP_regS tOk rfl ?_); simp [hr0])
      | (refine AWP_regS tOk rfl ?_; simp [hr0])
      | (refine AWP_skip ?_; simp [hr0])
      | (refine AWP_exit ?_; simp [hr0])
      | (refine AWP_ret ?_; simp [hr0])
      | refine AWP_block ?_
      | refine AWP_seq ?_)
    rw [escR, ite_t (by rw [h1]; rfl)]
    exact ⟨rfl, _, by simp; rfl⟩
  · repeat (first
      | (refine AWP_seq (AWP_regS tOk rfl ?_); simp)
      | (refine AWP_regS tOk rfl ?_; simp)
      | (refine AWP_skip ?_; simp)
      | (refine AWP_exit ?_; simp)
      | (refine AWP_ret ?_; simp)
      | refine AWP_block ?_
      | refine AWP_seq ?_)
    refine AWP_cond2 rfl (fun h2 => ?_) (fun h2 => ?_)
    · repeat (first
        | (refine AWP_seq (AWP_regS tOk rfl ?_); simp)
        | (refine AWP_regS tOk rfl ?_; simp)
        | (refine AWP_skip ?_; simp)
        | (refine AWP_exit ?_; simp)
        | (refine AWP_ret ?_; simp)
        | refine AWP_block ?_
        | refine AWP_seq ?_)
      refine AStep_appendS tOk rfl rfl T74 rfl T5 rfl (by decide) (by decide) rfl rfl rfl ?_
      simp [hr0]
      refine ⟨by simp [appOk, hr0] <;> omega, ?_⟩
      repeat (first
        | (refine AWP_seq (AWP_regS tOk rfl ?_); simp [hr0])
        | (refine AWP_regS tOk rfl ?_; simp [hr0])
        | (refine AWP_skip ?_; simp [hr0])
        | (refine AWP_exit ?_; simp [hr0])
        | (refine AWP_ret ?_; simp [hr0])
        | refine AWP_block ?_
        | refine AWP_seq ?_)
      rw [escR, ite_t (by rw [h2]; simp)]
      exact ⟨rfl, _, by simp; rfl⟩
    have h12 : ((c.toNat : Int) == 34 || (c.toNat : Int) == 92) = false := by rw [h1, h2]; rfl
    repeat (first
      | (refine AWP_seq (AWP_regS tOk rfl ?_); simp)
      | (refine AWP_regS tOk rfl ?_; simp)
      | (refine AWP_skip ?_; simp)
      | (refine AWP_exit ?_; simp)
      | (refine AWP_ret ?_; simp)
      | refine AWP_block ?_
      | refine AWP_seq ?_)
    refine AWP_cond2 rfl (fun h3 => ?_) (fun h3 => ?_)
    · repeat (first
        | (refine AWP_seq (AWP_regS tOk rfl ?_); simp)
        | (refine AWP_regS tOk rfl ?_; simp)
        | (refine AWP_skip ?_; simp)
        | (refine AWP_exit ?_; simp)
        | (refine AWP_ret ?_; simp)
        | refine AWP_block ?_
        | refine AWP_seq ?_)
      refine AStep_appendS tOk rfl rfl T74 rfl T5 rfl (by decide) (by decide) rfl rfl rfl ?_
      simp [hr0]
      refine ⟨by simp [appOk, hr0] <;> omega, ?_⟩
      repeat (first
        | (refine AWP_seq (AWP_regS tOk rfl ?_); simp [hr0])
        | (refine AWP_regS tOk rfl ?_; simp [hr0])
        | (refine AWP_skip ?_; simp [hr0])
        | (refine AWP_exit ?_; simp [hr0])
        | (refine AWP_ret ?_; simp [hr0])
        | refine AWP_block ?_
        | refine AWP_seq ?_)
      rw [escR, ite_f h12, ite_t h3]
      exact ⟨rfl, _, by simp; rfl⟩
    repeat (first
      | (refine AWP_seq (AWP_regS tOk rfl ?_); simp)
      | (refine AWP_regS tOk rfl ?_; simp)
      | (refine AWP_skip ?_; simp)
      | (refine AWP_exit ?_; simp)
      | (refine AWP_ret ?_; simp)
      | refine AWP_block ?_
      | refine AWP_seq ?_)
    refine AWP_cond2 rfl (fun h4 => ?_) (fun h4 => ?_)
    · repeat (first
        | (refine AWP_seq (AWP_regS tOk rfl ?_); simp)
        | (refine AWP_regS tOk rfl ?_; simp)
        | (refine AWP_skip ?_; simp)
        | (refine AWP_exit ?_; simp)
        | (refine AWP_ret ?_; simp)
        | refine AWP_block ?_
        | refine AWP_seq ?_)
      rcases rest with _ | ⟨a, _ | ⟨b, rest⟩⟩
      · refine AWP_cond rfl ?_
        repeat (first
          | (refine AWP_seq (AWP_regS tOk rfl ?_); simp)
          | (refine AWP_regS tOk rfl ?_; simp)
          | (refine AWP_skip ?_; simp)
          | (refine AWP_exit ?_; simp)
          | (refine AWP_ret ?_; simp)
          | refine AWP_block ?_
          | refine AWP_seq ?_)
        rw [escR, ite_f h12, ite_f h3, ite_t h4]
        rfl
      · refine AWP_cond rfl ?_
        repeat (first
          | (refine AWP_seq (AWP_regS tOk rfl ?_); simp)
          | (refine AWP_regS tOk rfl ?_; simp)
          | (refine AWP_skip ?_; simp)
          | (refine AWP_exit ?_; simp)
          | (refine AWP_ret ?_; simp)
          | refine AWP_block ?_
          | refine AWP_seq ?_)
        rw [escR, ite_f h12, ite_f h3, ite_t h4]
        rfl
      · refine AWP_cond (b := false) ?_ ?_
        · simp; omega
        have hr1 : (2 : Int) ≤ (rest.length : Int) + 1 + 1 + 1 := by omega
        have hr2 : (1 : Int) ≤ (rest.length : Int) + 1 := by omega
        have hr3 : (1 : Int) ≤ (rest.length : Int) + 1 + 1 + 1 := by omega
        have hr4 : (2 : Int) < (rest.length : Int) + 1 + 1 + 1 := by omega
        repeat (first
          | (refine AWP_seq (AWP_regS tOk rfl ?_); simp)
          | (refine AWP_regS tOk rfl ?_; simp)
          | (refine AWP_skip ?_; simp)
          | (refine AWP_exit ?_; simp)
          | (refine AWP_ret ?_; simp)
          | refine AWP_block ?_
          | refine AWP_seq ?_)
        refine AWP_drawT tOk mixed [] (.val 0 (.val 1 (.val 2 (.val 3 (.val 4 (.val 6 (.val 7 (.val 8 (.val 9 (.val 10 (.one 5 (.one 11 (.val 12 (.val 13 (.done))))))))))))))) rfl (by kernel_rfl) ?_
        simp [hr1, hr3, hr4]
        refine AStep_PC rfl rfl (by simp) (pc_Ixb hexs a) rfl ?_
        rintro _ rfl
        simp
        refine AStep_PC rfl rfl (by simp) (pc_Ixb hexs b) rfl ?_
        rintro _ rfl
        simp
        have bx := hexI_bound a
        have byy := hexI_bound b
        rw [← hexI_def a, ← hexI_def b]
        repeat (first
          | (refine AWP_seq (AWP_regS tOk rfl ?_); simp)
          | (refine AWP_regS tOk rfl ?_; simp)
          | (refine AWP_skip ?_; simp)
          | (refine AWP_exit ?_; simp)
          | (refine AWP_ret ?_; simp)
          | refine AWP_block ?_
          | refine AWP_seq ?_)
        refine AWP_cond2 rfl (fun h5 => ?_) (fun h5 => ?_)
        · repeat (first
            | (refine AWP_seq (AWP_regS tOk rfl ?_); simp)
            | (refine AWP_regS tOk rfl ?_; simp)
            | (refine AWP_skip ?_; simp)
            | (refine AWP_exit ?_; simp)
            | (refine AWP_ret ?_; simp)
            | refine AWP_block ?_
            | refine AWP_seq ?_)
          rw [escR, ite_f h12, ite_f h3, ite_t h4, escX, ite_t h5]
          rfl
        · have h5' : 0 ≤ hexI a ∧ 0 ≤ hexI b := by simpa using h5
          have e1 : IntKind.i64.wrap (hexI a * 2 ^ min 4 IntKind.i64.bits) = hexI a * 16 := by rw [show min 4 IntKind.i64.bits = 4 from rfl]; exact wrap_i64 _ (by omega) (by omega)
          have e2 : IntKind.i64.wrap (hexI a * 16 + hexI b) = hexI a * 16 + hexI b := wrap_i64 _ (by omega) (by omega)
          have e3 : IntKind.u8.wrap (hexI a * 16 + hexI b) = (hexV a b).toNat := by rw [hexV_int a b h5'.1 h5'.2, IntKind.wrap_u8]; omega
          repeat (first
            | (refine AWP_seq (AWP_regS tOk rfl ?_); simp [e1, e2, e3])
            | (refine AWP_regS tOk rfl ?_; simp [e1, e2, e3])
            | (refine AWP_skip ?_; simp [e1, e2, e3])
            | (refine AWP_exit ?_; simp [e1, e2, e3])
            | (refine AWP_ret ?_; simp [e1, e2, e3])
            | refine AWP_block ?_
            | refine AWP_seq ?_)
          refine AStep_appendS tOk rfl rfl T74 rfl T5 rfl (by decide) (by decide) rfl rfl rfl ?_
          simp [hr1, hr2]
          refine ⟨by simp [appOk, hr1, hr2] <;> omega, ?_⟩
          repeat (first
            | (refine AWP_seq (AWP_regS tOk rfl ?_); simp [hr1, hr2])
            | (refine AWP_regS tOk rfl ?_; simp [hr1, hr2])
            | (refine AWP_skip ?_; simp [hr1, hr2])
            | (refine AWP_exit ?_; simp [hr1, hr2])
            | (refine AWP_ret ?_; simp [hr1, hr2])
            | refine AWP_block ?_
            | refine AWP_seq ?_)
          rw [escR, ite_f h12, ite_f h3, ite_t h4, escX, ite_f h5]
          exact ⟨rfl, _, by simp; rfl⟩
    · repeat (first
        | (refine AWP_seq (AWP_regS tOk rfl ?_); simp)
        | (refine AWP_regS tOk rfl ?_; simp)
        | (refine AWP_skip ?_; simp)
        | (refine AWP_exit ?_; simp)
        | (refine AWP_ret ?_; simp)
        | refine AWP_block ?_
        | refine AWP_seq ?_)
      rw [escR, ite_f h12, ite_f h3, ite_f h4]
      rfl
end Go.Abs
set_option maxRecDepth 100000
namespace Go.Abs
open Go Go.Proofs
set_option linter.unusedSimpArgs false
def unqF : Nat → List UInt8 → List UInt8 → List UInt8 × Bool
  | 0, _, _ => ([], false)
  | _ + 1, [], _ => ([], false)
  | n + 1, c :: r, out => if ((c.toNat : Int) == 34) = true then (out, (c :: r) == [34]) else if ((c.toNat : Int) == 92) = true then (match escR r with
      | none => ([], false)
      | some (b, r') => unqF n r' (out ++ [b])) else if printB c = true then unqF n r (out ++ [c]) else ([], false)
theorem escR_len {r r' : List UInt8} {b : UInt8} (h : escR r = some (b, r')) : r'.length < r.length := by
  rcases r with _ | ⟨c, r⟩
  · cases h
  · rw [escR] at h
    split at h
    · cases h; simp
    · split at h
      · cases h; simp
      · split at h
        · rcases r with _ | ⟨x, _ | ⟨y, r⟩⟩
          · cases h
          · cases h
          · rw [escX] at h
            split at h
            · cases h
            · cases h; simp; omega
        · cases h
theorem unqF_nil (n : Nat) (out : List UInt8) : unqF n [] out = ([], false) := by cases n <;> rfl
attribute [local irreducible] printB escR
set_option maxHeartbeats 2000000 in
theorem pc_unquoted (c0 : UInt8) (s : List UInt8) (hs : s.length ≤ 1000000) : PC Tryz.prog 57 [.str (c0 :: s)] (fun r => r = .tup [.str (unqF s.length s []).1, .bool (unqF s.length s []).2]) := by
  refine PC_body tOk Tryz.func57 rfl Tryz.results57 rfl (by simp [Tryz.ntmps57]) ?_
  rw [Tryz.ntmps57]
  simp only [argSlots]
  have hr0 : (1 : Int) ≤ (s.length : Int) + 1 := by omega
  refine AWP_seq (AWP_regS tOk rfl ?_)
  simp [hr0]
  refine AWP_seq (AWP_regS tOk rfl ?_)
  simp [hr0]
  refine AWP_nilOwn 0 1 5 1 rfl rfl ?_
  simp
  repeat (first
    | (refine AWP_seq (AWP_regS tOk rfl ?_); simp)
    | (refine AWP_regS tOk rfl ?_; simp)
    | (refine AWP_skip ?_; simp)
    | (refine AWP_exit ?_; simp)
    | (refine AWP_ret ?_; simp)
    | refine AWP_block ?_
    | refine AWP_seq ?_)
  obtain ⟨RES, hres⟩ : ∃ RES, unqF s.length s [] = RES := ⟨_, rfl⟩
  rw [hres]
  refine AWP_loop (ALoop_keep (sl' := [(4, .vptr 0 0)]) ?_ (by simp))
  refine ALoop_wf (F := fun (u : List UInt8 × List UInt8) => ⟨[(4, .vptr 0 0)], rdr u.1 u.2⟩) (fun u => u.1.length + u.2.length ≤ s.length ∧ ∃ n, u.1.length ≤ n ∧ unqF n u.1 u.2 = RES) (fun u => u.1.length) ?_ (s, []) ⟨by simp, _, Nat.le_refl _, hres⟩
  rintro ⟨rest, out⟩ ⟨hb, n, hn, hI⟩ ih
  simp only at hb hn hI ih ⊢
  rcases rest with _ | ⟨c, rest⟩
  · rw [unqF_nil] at hI
    subst hI
    simp only [rdr]
    repeat (first
      | (refine AWP_seq (AWP_regS tOk rfl ?_); simp)
      | (refine AWP_regS tOk rfl ?_; simp)
      | (refine AWP_skip ?_; simp)
      | (refine AWP_exit ?_; simp)
      | (refine AWP_ret ?_; simp)
      | refine AWP_block ?_
      | refine AWP_seq ?_)
    refine AWP_cond rfl ?_
    repeat (first
      | (refine AWP_seq (AWP_regS tOk rfl ?_); simp)
      | (refine AWP_regS tOk rfl ?_; simp)
      | (refine AWP_skip ?_; simp)
      | (refine AWP_exit ?_; simp)
      | (refine AWP_ret ?_; simp)
      | refine AWP_block ?_
      | refine AWP_seq ?_)
  · obtain ⟨n, rfl⟩ : ∃ k, n = k + 1 := ⟨n - 1, by simp at hn; omega⟩
    simp at hn hb
    rw [unqF] at hI
    have hr1 : (1 : Int) ≤ (rest.length : Int) + 1 := by omega
    simp only [rdr]
    repeat (first
      | (refine AWP_seq (AWP_regS tOk rfl ?_); simp)
      | (refine AWP_regS tOk rfl ?_; simp)
      | (refine AWP_skip ?_; simp)
      | (refine AWP_exit ?_; simp)
      | (refine AWP_ret ?_; simp)
      | refine AWP_block ?_
      | refine AWP_seq ?_)
    refine AWP_cond rfl ?_
    repeat (first
      | (refine AWP_seq (AWP_regS tOk rfl ?_); simp)
      | (refine AWP_regS tOk rfl ?_; simp)
      | (refine AWP_skip ?_; simp)
      | (refine AWP_exit ?_; simp)
      | (refine AWP_ret ?_; simp)
      | refine AWP_block ?_
      | refine AWP_seq ?_)
    refine AWP_cond2 rfl (fun h1 => ?_) (fun h1 => ?_)
    · rw [ite_t h1] at hI
      repeat (first
        | (refine AWP_seq (AWP_regS tOk rfl ?_); simp)
        | (refine AWP_regS tOk rfl ?_; simp)
        | (refine AWP_skip ?_; simp)
        | (refine AWP_exit ?_; simp)
        | (refine AWP_ret ?_; simp)
        | refine AWP_block ?_
        | refine AWP_seq ?_)
      refine AWP_drawT tOk mixed [] (.val 0 (.val 1 (.val 2 (.val 3 (.val 5 (.val 6 (.val 7 (.val 8 (.val 9 (.one 4 (.val 10 (.val 11 (.done))))))))))))) rfl (by kernel_rfl) ?_
      simp
      refine AStep_toStr tOk rfl rfl T74 rfl T5 rfl T9 rfl rfl (s := out) (by simp [List.take_of_length_le]) rfl ?_
      simp
      repeat (first
        | (refine AWP_seq (AWP_regS tOk rfl ?_); simp)
        | (refine AWP_regS tOk rfl ?_; simp)
        | (refine AWP_skip ?_; simp)
        | (refine AWP_exit ?_; simp)
        | (refine AWP_ret ?_; simp)
        | refine AWP_block ?_
        | refine AWP_seq ?_)
      rw [← hI]
      simp
    rw [ite_f h1] at hI
    repeat (first
      | (refine AWP_seq (AWP_regS tOk rfl ?_); simp)
      | (refine AWP_regS tOk rfl ?_; simp)
      | (refine AWP_skip ?_; simp)
      | (refine AWP_exit ?_; simp)
      | (refine AWP_ret ?_; simp)
      | refine AWP_block ?_
      | refine AWP_seq ?_)
    refine AWP_cond2 rfl (fun h2 => ?_) (fun h2 => ?_)
    · rw [ite_t h2] at hI
      repeat (first
        | (refine AWP_seq (AWP_regS tOk rfl ?_); simp [hr1])
        | (refine AWP_regS tOk rfl ?_; simp [hr1])
        | (refine AWP_skip ?_; simp [hr1])
        | (refine AWP_exit ?_; simp [hr1])
        | (refine AWP_ret ?_; simp [hr1])
        | refine AWP_block ?_
        | refine AWP_seq ?_)
      refine AStep_FC rfl rfl (fc_escaped rest out (by omega)) rfl ?_
      intro r H' hq
      unfold escQ at hq
      cases he : escR rest with
      | none =>
        rw [he] at hq hI
        simp only at hq hI
        subst hq
        subst hI
        simp
        repeat (first
          | (refine AWP_seq (AWP_regS tOk rfl ?_); simp)
          | (refine AWP_regS tOk rfl ?_; simp)
          | (refine AWP_skip ?_; simp)
          | (refine AWP_exit ?_; simp)
          | (refine AWP_ret ?_; simp)
          | refine AWP_block ?_
          | refine AWP_seq ?_)
        refine AWP_cond rfl ?_
        repeat (first
          | (refine AWP_seq (AWP_regS tOk rfl ?_); simp)
          | (refine AWP_regS tOk rfl ?_; simp)
          | (refine AWP_skip ?_; simp)
          | (refine AWP_exit ?_; simp)
          | (refine AWP_ret ?_; simp)
          | refine AWP_block ?_
          | refine AWP_seq ?_)
      | some p =>
        obtain ⟨b, r'⟩ := p
        rw [he] at hq hI
        simp only at hq hI
        obtain ⟨rfl, G, rfl⟩ := hq
        have hlt := escR_len he
        simp
        repeat (first
          | (refine AWP_seq (AWP_regS tOk rfl ?_); simp)
          | (refine AWP_regS tOk rfl ?_; simp)
          | (refine AWP_skip ?_; simp)
          | (refine AWP_exit ?_; simp)
          | (refine AWP_ret ?_; simp)
          | refine AWP_block ?_
          | refine AWP_seq ?_)
        refine AWP_cond rfl ?_
        repeat (first
          | (refine AWP_seq (AWP_regS tOk rfl ?_); simp)
          | (refine AWP_regS tOk rfl ?_; simp)
          | (refine AWP_skip ?_; simp)
          | (refine AWP_exit ?_; simp)
          | (refine AWP_ret ?_; simp)
          | refine AWP_block ?_
          | refine AWP_seq ?_)
        refine ALoop_ren [0, 3] (sl' := [(4, .vptr 0 0)]) (H' := rdr r' (out ++ [b])) (ih (r', out ++ [b]) ⟨by simp; omega, n, by simp; omega, hI⟩ (by simp; omega)) (by simp [rdr]) (by decide) (by simp) rfl (by simp [rdr]) (by simp [rdr]) (by simp)
    · rw [ite_f h2] at hI
      repeat (first
        | (refine AWP_seq (AWP_regS tOk rfl ?_); simp)
        | (refine AWP_regS tOk rfl ?_; simp)
        | (refine AWP_skip ?_; simp)
        | (refine AWP_exit ?_; simp)
        | (refine AWP_ret ?_; simp)
        | refine AWP_block ?_
        | refine AWP_seq ?_)
      refine AStep_FC rfl rfl (fc_plain c rest out (by omega)) rfl ?_
      rintro r H' ⟨rfl, G, rfl⟩
      simp
      repeat (first
        | (refine AWP_seq (AWP_regS tOk rfl ?_); simp)
        | (refine AWP_regS tOk rfl ?_; simp)
        | (refine AWP_skip ?_; simp)
        | (refine AWP_exit ?_; simp)
        | (refine AWP_ret ?_; simp)
        | refine AWP_block ?_
        | refine AWP_seq ?_)
      refine AWP_cond2 rfl (fun h3 => ?_) (fun h3 => ?_)
      · rw [ite_f (by simpa using h3)] at hI
        subst hI
        repeat (first
          | (refine AWP_seq (AWP_regS tOk rfl ?_); simp)
          | (refine AWP_regS tOk rfl ?_; simp)
          | (refine AWP_skip ?_; simp)
          | (refine AWP_exit ?_; simp)
          | (refine AWP_ret ?_; simp)
          | refine AWP_block ?_
          | refine AWP_seq ?_)
      · rw [ite_t (by simpa using h3)] at hI
        repeat (first
          | (refine AWP_seq (AWP_regS tOk rfl ?_); simp)
          | (refine AWP_regS tOk rfl ?_; simp)
          | (refine AWP_skip ?_; simp)
          | (refine AWP_exit ?_; simp)
          | (refine AWP_ret ?_; simp)
          | refine AWP_block ?_
          | refine AWP_seq ?_)
        refine ALoop_ren [0, 3] (sl' := [(4, .vptr 0 0)]) (H' := rdr rest (out ++ [c])) (ih (rest, out ++ [c]) ⟨by simp; omega, n, by simp; omega, hI⟩ (by simp)) (by simp [rdr]) (by decide) (by simp) rfl (by simp [rdr]) (by simp [rdr]) (by simp)
end Go.Abs
set_option maxRecDepth 100000
namespace Go.Abs
open Go Go.Proofs
set_option linter.unusedSimpArgs false

def boolTab (p : Nat → Bool) : List AV := (List.range 256).map (fun i => .bool (p i))
def zAs : Value := match look T 129 with
  | some i => i.zero
  | none => .bool false
theorem TAsz : look T 129 = some { desc := .array 256 4, zero := zAs, size := 256, bytes := 256 } := rfl
theorem zAs_cells : zAs.cells.toList.map zeroCell = boolTab (fun _ => false) := by kernel_rfl
theorem zAs_cells' : List.map zeroCell (match zAs with | Value.agg cs => cs | v => #[v]).toList = boolTab (fun _ => false) := zAs_cells
@[simp] theorem boolTab_len (p : Nat → Bool) : (boolTab p).length = 256 := by simp [boolTab]
@[simp] theorem boolTab_take (p : Nat → Bool) : (boolTab p).take 256 = boolTab p := List.take_of_length_le (by simp)
theorem boolTab_get (p : Nat → Bool) (i : Nat) (h : i < 256) : (boolTab p)[i]? = some (.bool (p i)) := by simp [boolTab, h]
theorem boolTab_drop (p : Nat → Bool) (i : Nat) (h : i < 256) : (boolTab p).drop i = .bool (p i) :: (boolTab p).drop (i + 1) := by
  rw [List.drop_eq_getElem_cons (by simpa using h)]
  congr 1
  simp [boolTab]
theorem boolTab_set (p : Nat → Bool) (i : Nat) (h : i < 256) : (boolTab p).set i (.bool true) = boolTab (fun j => j == i || p j) := by
  refine List.ext_getElem? fun k => ?_
  by_cases hk : k < 256
  · rw [boolTab_get _ _ hk]
    by_cases hki : i = k
    · subst hki; rw [List.getElem?_set_self (by simpa using h)]; simp
    · rw [List.getElem?_set_ne hki, boolTab_get _ _ hk]; simp [show k ≠ i from fun e => hki e.symm]
  · rw [List.getElem?_eq_none (by simp; omega), List.getElem?_eq_none (by simp; omega)]
@[simp] theorem boolTab_leaf (p : Nat → Bool) : (boolTab p).all AV.leaf = true := by simp [boolTab, AV.leaf]
@[simp] theorem boolTab_leaf' (p : Nat → Bool) : (∀ x, x ∈ boolTab p → x.leaf = true) ↔ True := by have := boolTab_leaf p; rw [List.all_eq_true] at this; simp only [iff_true]; exact this
@[simp] theorem boolTab_pure (p : Nat → Bool) : (boolTab p).all AV.pure = true := by simp [boolTab, AV.pure]
@[simp] theorem boolTab_flat (p : Nat → Bool) : (boolTab p).all AV.flat = true := by simp [boolTab, AV.flat]
@[simp] theorem boolTab_under (p : Nat → Bool) (n : Nat) : (boolTab p).all (AV.under n) = true := by simp [boolTab, AV.under]
theorem setCells_app (ds xs ys zs : List AV) (h : ys.length = xs.length) : setCells (ds ++ ys ++ zs) ds.length xs = ds ++ xs ++ zs := by
  induction xs generalizing ds ys with
  | nil => simp at h; subst h; simp [setCells]
  | cons x xs ih =>
    rcases ys with _ | ⟨y, ys⟩
    · simp at h
    · rw [setCells]
      have := ih (ds ++ [x]) ys (by simpa using h)
      simp at this ⊢
      exact this
@[simp] theorem boolTab_setCells (p q : Nat → Bool) : setCells (boolTab p) 0 (boolTab q) = boolTab q := by
  have := setCells_app [] (boolTab q) (boolTab p) [] (by simp)
  simpa using this
theorem allSome_map {α β : Type} (f : α → Option β) (g : α → β) (l : List α) (h : ∀ x ∈ l, f x = some (g x)) : allSome (l.map f) = some (l.map g) := by
  induction l with
  | nil => rfl
  | cons x l ih => rw [List.map_cons, h x (by simp), allSome, ih (fun y hy => h y (by simp [hy]))]; rfl
@[simp] theorem boolTab_snap0 (H : List AObj) (p : Nat → Bool) : allSome ((boolTab p).map (snap0 H)) = some (boolTab p) := by
  rw [allSome_map (snap0 H) id _ (fun x hx => ?_)]
  · simp
  · obtain ⟨i, _, rfl⟩ := List.mem_map.1 hx; simp
@[simp] theorem boolTab_snap1 (H : List AObj) (p : Nat → Bool) : allSome ((boolTab p).map (snap1 H)) = some (boolTab p) := by
  rw [allSome_map (snap1 H) id _ (fun x hx => ?_)]
  · simp
  · obtain ⟨i, _, rfl⟩ := List.mem_map.1 hx; simp
attribute [simp] TAsz zAs_cells zAs_cells'
attribute [irreducible] zAs boolTab

set_option maxHeartbeats 400000 in
theorem pc_asc_contains (p : Nat → Bool) (c : Nat) (hc : c < 256) : PC Tryz.prog 99 [.iptr (boolTab p), .int .u8 c] (fun r => r = .bool (p c)) := by
  refine PC_body tOk Tryz.func99 rfl Tryz.results99 rfl (by simp [Tryz.ntmps99]) ?_
  rw [Tryz.ntmps99]
  simp only [argSlots]
  have hc' : (c : Int) < 256 := by omega
  repeat (first
    | (refine AWP_seq (AWP_regS tOk rfl ?_); simp [hc', boolTab_drop p c hc])
    | (refine AWP_regS tOk rfl ?_; simp [hc', boolTab_drop p c hc])
    | (refine AWP_skip ?_; simp [hc', boolTab_drop p c hc])
    | (refine AWP_exit ?_; simp [hc', boolTab_drop p c hc])
    | (refine AWP_ret ?_; simp [hc', boolTab_drop p c hc])
    | refine AWP_block ?_
    | refine AWP_seq ?_)

def setOf (cs : List UInt8) (i : Nat) : Bool := cs.any (fun c => c.toNat == i)
theorem setOf_succ (cs : List UInt8) (j : Nat) (h : j < cs.length) : setOf (cs.take (j + 1)) = fun i => (i == cs[j].toNat || setOf (cs.take j) i) := by
  funext i
  rw [setOf, List.take_succ_eq_append_getElem h, List.any_append, setOf]
  simp only [List.any_cons, List.any_nil, Bool.or_false]
  rw [Bool.or_comm]
  congr 1
  rw [Bool.beq_comm]
set_option maxHeartbeats 1000000 in
theorem pc_makeASCIISet (cs : List UInt8) (hcs : ∀ c ∈ cs, c.toNat < 128) (hlen : cs.length ≤ 1000000) : PC Tryz.prog 86 [.str cs] (fun r => r = .tup [.agg (boolTab (setOf cs)), .bool true]) := by
  refine PC_body tOk Tryz.func86 rfl Tryz.results86 rfl (by simp [Tryz.ntmps86]) ?_
  rw [Tryz.ntmps86]
  simp only [argSlots]
  repeat (first
    | (refine AWP_seq (AWP_regS tOk rfl ?_); simp [-Value.cells])
    | (refine AWP_regS tOk rfl ?_; simp [-Value.cells])
    | (refine AWP_skip ?_; simp [-Value.cells])
    | (refine AWP_exit ?_; simp [-Value.cells])
    | (refine AWP_ret ?_; simp [-Value.cells])
    | refine AWP_block ?_
    | refine AWP_seq ?_)
  refine AWP_count cs.length (fun j => [(0, .str cs), (2, .vptr 0 0), (4, .i j)]) (fun j => [.vars (boolTab (setOf (cs.take j)))]) rfl (by simp) (by simp [setOf]) (by simp) (by simp) ?_
  intro j hj ih
  repeat (first
    | (refine AWP_seq (AWP_regS tOk rfl ?_); simp)
    | (refine AWP_regS tOk rfl ?_; simp)
    | (refine AWP_skip ?_; simp)
    | (refine AWP_exit ?_; simp)
    | (refine AWP_ret ?_; simp)
    | refine AWP_block ?_
    | refine AWP_seq ?_)
  refine AWP_cond2 rfl (fun hlt => ?_) (fun hge => ?_)
  · have hlt' : j < cs.length := by simpa using hlt
    have hcj := hcs cs[j] (List.getElem_mem hlt')
    repeat (first
      | (refine AWP_seq (AWP_regS tOk rfl ?_); simp [hlt'])
      | (refine AWP_regS tOk rfl ?_; simp [hlt'])
      | (refine AWP_skip ?_; simp [hlt'])
      | (refine AWP_exit ?_; simp [hlt'])
      | (refine AWP_ret ?_; simp [hlt'])
      | refine AWP_block ?_
      | refine AWP_seq ?_)
    refine AWP_cond (b := false) ?_ ?_
    · simp; omega
    have h1 : (cs[j].toNat : Int) < 256 := by omega
    have h2 : cs[j].toNat ≤ 255 := by omega
    repeat (first
      | (refine AWP_seq (AWP_regS tOk rfl ?_); simp [hlt', h1, h2, boolTab_set (setOf (cs.take j)) cs[j].toNat (by omega)])
      | (refine AWP_regS tOk rfl ?_; simp [hlt', h1, h2, boolTab_set (setOf (cs.take j)) cs[j].toNat (by omega)])
      | (refine AWP_skip ?_; simp [hlt', h1, h2, boolTab_set (setOf (cs.take j)) cs[j].toNat (by omega)])
      | (refine AWP_exit ?_; simp [hlt', h1, h2, boolTab_set (setOf (cs.take j)) cs[j].toNat (by omega)])
      | (refine AWP_ret ?_; simp [hlt', h1, h2, boolTab_set (setOf (cs.take j)) cs[j].toNat (by omega)])
      | refine AWP_block ?_
      | refine AWP_seq ?_)
    refine ALoop_end [] (ih hlt') ?_ (by simp) ?_ (by simp) (by simp)
    · rw [setOf_succ cs j hlt']; simp
    · simp
      exact wrap_i64 _ (by omega) (by omega)
  · have hge' : j = cs.length := by simp at hge; omega
    subst hge'
    repeat (first
      | (refine AWP_seq (AWP_regS tOk rfl ?_); simp)
      | (refine AWP_regS tOk rfl ?_; simp)
      | (refine AWP_skip ?_; simp)
      | (refine AWP_exit ?_; simp)
      | (refine AWP_ret ?_; simp)
      | refine AWP_block ?_
      | refine AWP_seq ?_)

def rtrim (p : UInt8 → Bool) (s : List UInt8) : List UInt8 := (s.reverse.dropWhile p).reverse
theorem rtrim_app (p : UInt8 → Bool) (s : List UInt8) (c : UInt8) : rtrim p (s ++ [c]) = if p c = true then rtrim p s else s ++ [c] := by
  simp only [rtrim, List.reverse_append, List.reverse_cons, List.reverse_nil, List.nil_append, List.cons_append, List.dropWhile_cons]
  split <;> simp
set_option maxHeartbeats 1000000 in
theorem pc_trimRightASCII (p : Nat → Bool) (s : List UInt8) (hlen : s.length ≤ 1000000) : PC Tryz.prog 88 [.str s, .iptr (boolTab p)] (fun r => r = .str (rtrim (fun c => p c.toNat) s)) := by
  refine PC_body tOk Tryz.func88 rfl Tryz.results88 rfl (by simp [Tryz.ntmps88]) ?_
  rw [Tryz.ntmps88]
  simp only [argSlots]
  repeat (first
    | (refine AWP_seq (AWP_regS tOk rfl ?_); simp)
    | (refine AWP_regS tOk rfl ?_; simp)
    | (refine AWP_skip ?_; simp)
    | (refine AWP_exit ?_; simp)
    | (refine AWP_ret ?_; simp)
    | refine AWP_block ?_
    | refine AWP_seq ?_)
  refine AWP_loop (ALoop_keep (sl' := [(0, .str s), (1, .iptr (boolTab p))]) ?_ (by simp))
  refine ALoop_wf (F := fun u => ⟨[(0, .str u), (1, .iptr (boolTab p))], []⟩) (fun u => u.length ≤ s.length ∧ rtrim (fun c => p c.toNat) u = rtrim (fun c => p c.toNat) s) (fun u => u.length) ?_ s ⟨Nat.le_refl _, rfl⟩
  rintro u ⟨hu, hr⟩ ih
  rcases List.eq_nil_or_concat u with rfl | ⟨v, c, rfl⟩
  · repeat (first
      | (refine AWP_seq (AWP_regS tOk rfl ?_); simp)
      | (refine AWP_regS tOk rfl ?_; simp)
      | (refine AWP_skip ?_; simp)
      | (refine AWP_exit ?_; simp)
      | (refine AWP_ret ?_; simp)
      | refine AWP_block ?_
      | refine AWP_seq ?_)
    refine AWP_cond rfl ?_
    repeat (first
      | (refine AWP_seq (AWP_regS tOk rfl ?_); simp)
      | (refine AWP_regS tOk rfl ?_; simp)
      | (refine AWP_skip ?_; simp)
      | (refine AWP_exit ?_; simp)
      | (refine AWP_ret ?_; simp)
      | refine AWP_block ?_
      | refine AWP_seq ?_)
    rw [← hr]; rfl
  · rw [List.concat_eq_append] at *
    simp at hu
    have hw : IntKind.i64.wrap (v.length : Int) = v.length := wrap_i64 _ (by omega) (by omega)
    rw [rtrim_app] at hr
    repeat (first
      | (refine AWP_seq (AWP_regS tOk rfl ?_); simp)
      | (refine AWP_regS tOk rfl ?_; simp)
      | (refine AWP_skip ?_; simp)
      | (refine AWP_exit ?_; simp)
      | (refine AWP_ret ?_; simp)
      | refine AWP_block ?_
      | refine AWP_seq ?_)
    refine AWP_cond (b := true) ?_ ?_
    · simp
    repeat (first
      | (refine AWP_seq (AWP_regS tOk rfl ?_); simp [hw])
      | (refine AWP_regS tOk rfl ?_; simp [hw])
      | (refine AWP_skip ?_; simp [hw])
      | (refine AWP_exit ?_; simp [hw])
      | (refine AWP_ret ?_; simp [hw])
      | refine AWP_block ?_
      | refine AWP_seq ?_)
    refine AStep_PC rfl rfl (by simp) (pc_asc_contains p c.toNat (by have := c.toNat_lt; omega)) rfl ?_
    rintro _ rfl
    simp
    refine AWP_cond2 rfl (fun h => ?_) (fun h => ?_)
    · repeat (first
        | (refine AWP_seq (AWP_regS tOk rfl ?_); simp)
        | (refine AWP_regS tOk rfl ?_; simp)
        | (refine AWP_skip ?_; simp)
        | (refine AWP_exit ?_; simp)
        | (refine AWP_ret ?_; simp)
        | refine AWP_block ?_
        | refine AWP_seq ?_)
      simp at h
      rw [h] at hr
      simpa using hr
    · have h0 : (v.length : Int) ≤ v.length + 1 := by omega
      repeat (first
        | (refine AWP_seq (AWP_regS tOk rfl ?_); simp [hw, h0])
        | (refine AWP_regS tOk rfl ?_; simp [hw, h0])
        | (refine AWP_skip ?_; simp [hw, h0])
        | (refine AWP_exit ?_; simp [hw, h0])
        | (refine AWP_ret ?_; simp [hw, h0])
        | refine AWP_block ?_
        | refine AWP_seq ?_)
      simp at h
      rw [if_pos h] at hr
      refine ALoop_end [] (ih v ⟨by omega, hr⟩ (by simp)) rfl (by simp) ?_ (by simp) (by simp)
      simp

set_option maxHeartbeats 1000000 in
theorem pc_trimLeftASCII (p : Nat → Bool) (s : List UInt8) (hlen : s.length ≤ 1000000) : PC Tryz.prog 87 [.str s, .iptr (boolTab p)] (fun r => r = .str (s.dropWhile (fun c => p c.toNat))) := by
  refine PC_body tOk Tryz.func87 rfl Tryz.results87 rfl (by simp [Tryz.ntmps87]) ?_
  rw [Tryz.ntmps87]
  simp only [argSlots]
  repeat (first
    | (refine AWP_seq (AWP_regS tOk rfl ?_); simp)
    | (refine AWP_regS tOk rfl ?_; simp)
    | (refine AWP_skip ?_; simp)
    | (refine AWP_exit ?_; simp)
    | (refine AWP_ret ?_; simp)
    | refine AWP_block ?_
    | refine AWP_seq ?_)
  refine AWP_loop (ALoop_keep (sl' := [(0, .str s), (1, .iptr (boolTab p))]) ?_ (by simp))
  refine ALoop_wf (F := fun u => ⟨[(0, .str u), (1, .iptr (boolTab p))], []⟩) (fun u => u.length ≤ s.length ∧ u.dropWhile (fun c => p c.toNat) = s.dropWhile (fun c => p c.toNat)) (fun u => u.length) ?_ s ⟨Nat.le_refl _, rfl⟩
  rintro u ⟨hu, hr⟩ ih
  rcases u with _ | ⟨c, v⟩
  · repeat (first
      | (refine AWP_seq (AWP_regS tOk rfl ?_); simp)
      | (refine AWP_regS tOk rfl ?_; simp)
      | (refine AWP_skip ?_; simp)
      | (refine AWP_exit ?_; simp)
      | (refine AWP_ret ?_; simp)
      | refine AWP_block ?_
      | refine AWP_seq ?_)
    refine AWP_cond rfl ?_
    repeat (first
      | (refine AWP_seq (AWP_regS tOk rfl ?_); simp)
      | (refine AWP_regS tOk rfl ?_; simp)
      | (refine AWP_skip ?_; simp)
      | (refine AWP_exit ?_; simp)
      | (refine AWP_ret ?_; simp)
      | refine AWP_block ?_
      | refine AWP_seq ?_)
    rw [← hr]; rfl
  · simp at hu
    rw [List.dropWhile_cons] at hr
    repeat (first
      | (refine AWP_seq (AWP_regS tOk rfl ?_); simp)
      | (refine AWP_regS tOk rfl ?_; simp)
      | (refine AWP_skip ?_; simp)
      | (refine AWP_exit ?_; simp)
      | (refine AWP_ret ?_; simp)
      | refine AWP_block ?_
      | refine AWP_seq ?_)
    refine AWP_cond (b := true) ?_ ?_
    · simp
    repeat (first
      | (refine AWP_seq (AWP_regS tOk rfl ?_); simp)
      | (refine AWP_regS tOk rfl ?_; simp)
      | (refine AWP_skip ?_; simp)
      | (refine AWP_exit ?_; simp)
      | (refine AWP_ret ?_; simp)
      | refine AWP_block ?_
      | refine AWP_seq ?_)
    refine AStep_PC rfl rfl (by simp) (pc_asc_contains p c.toNat (by have := c.toNat_lt; omega)) rfl ?_
    rintro _ rfl
    simp
    refine AWP_cond2 rfl (fun h => ?_) (fun h => ?_)
    · repeat (first
        | (refine AWP_seq (AWP_regS tOk rfl ?_); simp)
        | (refine AWP_regS tOk rfl ?_; simp)
        | (refine AWP_skip ?_; simp)
        | (refine AWP_exit ?_; simp)
        | (refine AWP_ret ?_; simp)
        | refine AWP_block ?_
        | refine AWP_seq ?_)
      simp at h
      rw [h] at hr
      simpa using hr
    · have h0 : (1 : Int) ≤ v.length + 1 := by omega
      repeat (first
        | (refine AWP_seq (AWP_regS tOk rfl ?_); simp [h0])
        | (refine AWP_regS tOk rfl ?_; simp [h0])
        | (refine AWP_skip ?_; simp [h0])
        | (refine AWP_exit ?_; simp [h0])
        | (refine AWP_ret ?_; simp [h0])
        | refine AWP_block ?_
        | refine AWP_seq ?_)
      simp at h
      rw [if_pos h] at hr
      refine ALoop_end [] (ih v ⟨by omega, hr⟩ (by simp)) rfl (by simp) ?_ (by simp) (by simp)
      simp

def trimS (cs s : List UInt8) : List UInt8 := (rtrim (fun c => setOf cs c.toNat) s).dropWhile (fun c => setOf cs c.toNat)
theorem rtrim_len (p : UInt8 → Bool) (s : List UInt8) : (rtrim p s).length ≤ s.length := by
  simp only [rtrim, List.length_reverse]
  have := (List.dropWhile_sublist p (l := s.reverse)).length_le
  simpa using this
set_option maxHeartbeats 1000000 in
theorem pc_Trim (cs s : List UInt8) (hcs : ∀ c ∈ cs, c.toNat < 128) (hlen : cs.length ≤ 1000000) (h2 : 2 ≤ cs.length) (hs : s.length ≤ 1000000) (hs0 : s ≠ []) : PC Tryz.prog 69 [.str s, .str cs] (fun r => r = .str (trimS cs s)) := by
  refine PC_body tOk Tryz.func69 rfl Tryz.results69 rfl (by simp [Tryz.ntmps69]) ?_
  rw [Tryz.ntmps69]
  simp only [argSlots]
  repeat (first
    | (refine AWP_seq (AWP_regS tOk rfl ?_); simp)
    | (refine AWP_regS tOk rfl ?_; simp)
    | (refine AWP_skip ?_; simp)
    | (refine AWP_exit ?_; simp)
    | (refine AWP_ret ?_; simp)
    | refine AWP_block ?_
    | refine AWP_seq ?_)
  rcases cs with _ | ⟨a, _ | ⟨b, r⟩⟩
  · simp at h2
  · simp at h2
  generalize hcc : a :: b :: r = cs at *
  have hc0 : cs ≠ [] := by rw [← hcc]; simp
  refine AWP_cond (b := false) (by simp [hs0, hc0]) ?_
  have hne : ((cs.length : Int) == 1) = false := by simp; omega
  have hg : cs[0]? = some a := by rw [← hcc]; rfl
  repeat (first
    | (refine AWP_seq (AWP_regS tOk rfl ?_); simp [hne, hg])
    | (refine AWP_regS tOk rfl ?_; simp [hne, hg])
    | (refine AWP_skip ?_; simp [hne, hg])
    | (refine AWP_exit ?_; simp [hne, hg])
    | (refine AWP_ret ?_; simp [hne, hg])
    | refine AWP_block ?_
    | refine AWP_seq ?_)
  refine AWP_cond rfl ?_
  repeat (first
    | (refine AWP_seq (AWP_regS tOk rfl ?_); simp [-Value.cells, -AV.leaf])
    | (refine AWP_regS tOk rfl ?_; simp [-Value.cells, -AV.leaf])
    | (refine AWP_skip ?_; simp [-Value.cells, -AV.leaf])
    | (refine AWP_exit ?_; simp [-Value.cells, -AV.leaf])
    | (refine AWP_ret ?_; simp [-Value.cells, -AV.leaf])
    | refine AWP_block ?_
    | refine AWP_seq ?_)
  refine AStep_PC rfl rfl (by simp) (pc_makeASCIISet cs hcs hlen) rfl ?_
  rintro _ rfl
  simp [-Value.cells, -AV.leaf]
  repeat (first
    | (refine AWP_seq (AWP_regS tOk rfl ?_); simp [-Value.cells, -AV.leaf])
    | (refine AWP_regS tOk rfl ?_; simp [-Value.cells, -AV.leaf])
    | (refine AWP_skip ?_; simp [-Value.cells, -AV.leaf])
    | (refine AWP_exit ?_; simp [-Value.cells, -AV.leaf])
    | (refine AWP_ret ?_; simp [-Value.cells, -AV.leaf])
    | refine AWP_block ?_
    | refine AWP_seq ?_)
  refine AWP_cond rfl ?_
  repeat (first
    | (refine AWP_seq (AWP_regS tOk rfl ?_); simp)
    | (refine AWP_regS tOk rfl ?_; simp)
    | (refine AWP_skip ?_; simp)
    | (refine AWP_exit ?_; simp)
    | (refine AWP_ret ?_; simp)
    | refine AWP_block ?_
    | refine AWP_seq ?_)
  refine AStep_PCflat rfl rfl (by first | (simp; done) | (simp; rfl)) (pc_trimRightASCII (setOf cs) s hs) rfl ?_
  rintro _ rfl
  refine ⟨by first | simp | rfl | trivial, ?_⟩
  simp
  refine AStep_PCflat rfl rfl (by first | (simp; done) | (simp; rfl)) (pc_trimLeftASCII (setOf cs) _ (Nat.le_trans (rtrim_len _ s) hs)) rfl ?_
  rintro _ rfl
  refine ⟨by first | simp | rfl | trivial, ?_⟩
  simp
  repeat (first
    | (refine AWP_seq (AWP_regS tOk rfl ?_); simp)
    | (refine AWP_regS tOk rfl ?_; simp)
    | (refine AWP_skip ?_; simp)
    | (refine AWP_exit ?_; simp)
    | (refine AWP_ret ?_; simp)
    | refine AWP_block ?_
    | refine AWP_seq ?_)
  rfl

theorem dw_nil {α : Type} (p : α → Bool) (l : List α) : l.dropWhile p = [] ↔ ∀ x ∈ l, p x = true := by
  induction l with
  | nil => simp
  | cons a l ih =>
    rw [List.dropWhile_cons]
    split
    · rename_i h; rw [ih]; simp [h]
    · rename_i h; simp [h]
theorem dw_mem {α : Type} (p : α → Bool) (l : List α) (x : α) (h : x ∈ l) : p x = true ∨ x ∈ l.dropWhile p := by
  induction l with
  | nil => cases h
  | cons a l ih =>
    rw [List.dropWhile_cons]
    split
    · rename_i ha
      rcases List.mem_cons.1 h with rfl | h
      · exact .inl ha
      · exact ih h
    · exact .inr h
theorem trimS_nil (cs s : List UInt8) : (trimS cs s == []) = s.all (fun c => setOf cs c.toNat) := by
  rw [Bool.eq_iff_iff]
  simp only [beq_iff_eq, trimS, List.all_eq_true]
  rw [dw_nil]
  constructor
  · intro h x hx
    rcases dw_mem (fun c => setOf cs c.toNat) s.reverse x (by simpa using hx) with h1 | h1
    · exact h1
    · exact h x (by simpa [rtrim] using h1)
  · intro h x hx
    refine h x ?_
    have := (List.dropWhile_sublist (fun c : UInt8 => setOf cs c.toNat) (l := s.reverse)).subset (by simpa [rtrim] using hx)
    simpa using this

end Go.Abs
set_option maxRecDepth 100000
namespace Go.Abs
open Go Go.Proofs
set_option linter.unusedSimpArgs false
def hasPre (s p : List UInt8) : Bool := p.isPrefixOf s
theorem hasPre_eq (s p : List UInt8) (h : p.length ≤ s.length) : (s.take p.length == p) = hasPre s p := by
  rw [Bool.eq_iff_iff, beq_iff_eq, hasPre, List.isPrefixOf_iff_prefix, List.prefix_iff_eq_take]
  exact eq_comm
theorem hasPre_short (s p : List UInt8) (h : s.length < p.length) : hasPre s p = false := by
  rw [Bool.eq_false_iff, hasPre]
  intro h'
  have := (List.isPrefixOf_iff_prefix.1 h').length_le
  omega
theorem pc_slHasPrefix (s p : List UInt8) : PC Tryz.prog 71 [.str s, .str p] (fun r => r = .bool (hasPre s p)) := by
  refine PC_body tOk Tryz.func71 rfl Tryz.results71 rfl (by simp [Tryz.ntmps71]) ?_
  rw [Tryz.ntmps71]
  simp only [argSlots]
  by_cases h : p.length ≤ s.length
  · have h' : (p.length : Int) ≤ s.length := by omega
    repeat (first
      | (refine AWP_seq (AWP_regS tOk rfl ?_); simp [h, h'])
      | (refine AWP_regS tOk rfl ?_; simp [h, h'])
      | (refine AWP_skip ?_; simp [h, h'])
      | (refine AWP_exit ?_; simp [h, h'])
      | (refine AWP_ret ?_; simp [h, h'])
      | refine AWP_block ?_
      | refine AWP_seq ?_)
    exact hasPre_eq s p h
  · have h' : ¬ (p.length : Int) ≤ s.length := by omega
    repeat (first
      | (refine AWP_seq (AWP_regS tOk rfl ?_); simp [h, h'])
      | (refine AWP_regS tOk rfl ?_; simp [h, h'])
      | (refine AWP_skip ?_; simp [h, h'])
      | (refine AWP_exit ?_; simp [h, h'])
      | (refine AWP_ret ?_; simp [h, h'])
      | refine AWP_block ?_
      | refine AWP_seq ?_)
    rw [hasPre_short s p (by omega)]
theorem pc_HasPrefix (s p : List UInt8) : PC Tryz.prog 56 [.str s, .str p] (fun r => r = .bool (hasPre s p)) := by
  refine PC_body tOk Tryz.func56 rfl Tryz.results56 rfl (by simp [Tryz.ntmps56]) ?_
  rw [Tryz.ntmps56]
  simp only [argSlots]
  repeat (first
    | (refine AWP_seq (AWP_regS tOk rfl ?_); simp)
    | (refine AWP_regS tOk rfl ?_; simp)
    | (refine AWP_skip ?_; simp)
    | (refine AWP_exit ?_; simp)
    | (refine AWP_ret ?_; simp)
    | refine AWP_block ?_
    | refine AWP_seq ?_)
  refine AStep_PC rfl rfl (by simp) (pc_slHasPrefix s p) rfl ?_
  rintro _ rfl
  simp
  repeat (first
    | (refine AWP_seq (AWP_regS tOk rfl ?_); simp)
    | (refine AWP_regS tOk rfl ?_; simp)
    | (refine AWP_skip ?_; simp)
    | (refine AWP_exit ?_; simp)
    | (refine AWP_ret ?_; simp)
    | refine AWP_block ?_
    | refine AWP_seq ?_)
def trimPre (s p : List UInt8) : List UInt8 := if hasPre s p = true then s.drop p.length else s
theorem pc_slTrimPrefix (s p : List UInt8) : PC Tryz.prog 91 [.str s, .str p] (fun r => r = .str (trimPre s p)) := by
  refine PC_body tOk Tryz.func91 rfl Tryz.results91 rfl (by simp [Tryz.ntmps91]) ?_
  rw [Tryz.ntmps91]
  simp only [argSlots]
  repeat (first
    | (refine AWP_seq (AWP_regS tOk rfl ?_); simp)
    | (refine AWP_regS tOk rfl ?_; simp)
    | (refine AWP_skip ?_; simp)
    | (refine AWP_exit ?_; simp)
    | (refine AWP_ret ?_; simp)
    | refine AWP_block ?_
    | refine AWP_seq ?_)
  refine AStep_PC rfl rfl (by simp) (pc_slHasPrefix s p) rfl ?_
  rintro _ rfl
  simp
  repeat (first
    | (refine AWP_seq (AWP_regS tOk rfl ?_); simp)
    | (refine AWP_regS tOk rfl ?_; simp)
    | (refine AWP_skip ?_; simp)
    | (refine AWP_exit ?_; simp)
    | (refine AWP_ret ?_; simp)
    | refine AWP_block ?_
    | refine AWP_seq ?_)
  refine AWP_cond2 rfl (fun h => ?_) (fun h => ?_)
  · have hl : p.length ≤ s.length := by
      by_cases hl : p.length ≤ s.length
      · exact hl
      · rw [hasPre_short s p (by omega)] at h; cases h
    have h' : (p.length : Int) ≤ s.length := by omega
    repeat (first
      | (refine AWP_seq (AWP_regS tOk rfl ?_); simp [hl, h'])
      | (refine AWP_regS tOk rfl ?_; simp [hl, h'])
      | (refine AWP_skip ?_; simp [hl, h'])
      | (refine AWP_exit ?_; simp [hl, h'])
      | (refine AWP_ret ?_; simp [hl, h'])
      | refine AWP_block ?_
      | refine AWP_seq ?_)
    rw [trimPre, ite_t h]
  · repeat (first
      | (refine AWP_seq (AWP_regS tOk rfl ?_); simp)
      | (refine AWP_regS tOk rfl ?_; simp)
      | (refine AWP_skip ?_; simp)
      | (refine AWP_exit ?_; simp)
      | (refine AWP_ret ?_; simp)
      | refine AWP_block ?_
      | refine AWP_seq ?_)
    rw [trimPre, ite_f h]
theorem pc_TrimPrefix (s p : List UInt8) : PC Tryz.prog 75 [.str s, .str p] (fun r => r = .str (trimPre s p)) := by
  refine PC_body tOk Tryz.func75 rfl Tryz.results75 rfl (by simp [Tryz.ntmps75]) ?_
  rw [Tryz.ntmps75]
  simp only [argSlots]
  repeat (first
    | (refine AWP_seq (AWP_regS tOk rfl ?_); simp)
    | (refine AWP_regS tOk rfl ?_; simp)
    | (refine AWP_skip ?_; simp)
    | (refine AWP_exit ?_; simp)
    | (refine AWP_ret ?_; simp)
    | refine AWP_block ?_
    | refine AWP_seq ?_)
  refine AStep_PC rfl rfl (by simp) (pc_slTrimPrefix s p) rfl ?_
  rintro _ rfl
  simp
  repeat (first
    | (refine AWP_seq (AWP_regS tOk rfl ?_); simp)
    | (refine AWP_regS tOk rfl ?_; simp)
    | (refine AWP_skip ?_; simp)
    | (refine AWP_exit ?_; simp)
    | (refine AWP_ret ?_; simp)
    | refine AWP_block ?_
    | refine AWP_seq ?_)
end Go.Abs
set_option maxRecDepth 100000
namespace Go.Abs
open Go Go.Proofs
set_option linter.unusedSimpArgs false
def isD (c : UInt8) : Bool := decide (48 ≤ c.toNat) && decide (c.toNat ≤ 57)
def dstep (n : Int) (c : UInt8) : Int := n * 10 + ((c.toNat : Int) - 48)
def dval (s : List UInt8) : Int := s.foldl dstep 0
theorem dval_snoc (s : List UInt8) (c : UInt8) : dval (s ++ [c]) = dstep (dval s) c := by simp [dval]
theorem isD_iff (c : UInt8) : isD c = true ↔ 48 ≤ c.toNat ∧ c.toNat ≤ 57 := by simp [isD]
theorem dval_take (s : List UInt8) (hd : s.all isD = true) (hl : s.length ≤ 15) (j : Nat) (hj : j ≤ s.length) : 0 ≤ dval (s.take j) ∧ dval (s.take j) < 10 ^ j := by
  induction j with
  | zero => simp [dval]
  | succ j ih =>
    have h := ih (by omega)
    have hlt : j < s.length := by omega
    rw [List.take_succ_eq_append_getElem hlt, dval_snoc, dstep]
    have hc := (isD_iff s[j]).1 (List.all_eq_true.1 hd _ (List.getElem_mem hlt))
    rw [Int.pow_succ]
    omega
theorem pow_le15 (j : Nat) (h : j ≤ 15) : (10 : Int) ^ j ≤ 1000000000000000 := by
  have : (10 : Nat) ^ j ≤ 10 ^ 15 := Nat.pow_le_pow_right (by omega) h
  have h2 : ((10 ^ j : Nat) : Int) ≤ ((10 ^ 15 : Nat) : Int) := by exact_mod_cast this
  simpa using h2
set_option maxHeartbeats 1000000 in
theorem pc_iAtoi (s : List UInt8) (h0 : s ≠ []) (hl : s.length ≤ 15) (hd : s.all isD = true) : PC Tryz.prog 92 [.str s] (fun r => r = .tup [.i (dval s), .nili]) := by
  refine PC_body tOk Tryz.func92 rfl Tryz.results92 rfl (by simp [Tryz.ntmps92]) ?_
  rw [Tryz.ntmps92]
  simp only [argSlots]
  have hp : 0 < s.length := List.length_pos_iff.2 h0
  have hp2 : (s.length : Int) < 19 := by omega
  have hc0 := (isD_iff s[0]).1 (List.all_eq_true.1 hd _ (List.getElem_mem hp))
  have hn1 : ((s[0].toNat : Int) == 45) = false := by simp; omega
  have hn2 : ((s[0].toNat : Int) == 43) = false := by simp; omega
  repeat (first
    | (refine AWP_seq (AWP_regS tOk rfl ?_); simp [h0, hp, hp2])
    | (refine AWP_regS tOk rfl ?_; simp [h0, hp, hp2])
    | (refine AWP_skip ?_; simp [h0, hp, hp2])
    | (refine AWP_exit ?_; simp [h0, hp, hp2])
    | (refine AWP_ret ?_; simp [h0, hp, hp2])
    | refine AWP_block ?_
    | refine AWP_seq ?_)
  refine AWP_cond rfl ?_
  repeat (first
    | (refine AWP_seq (AWP_regS tOk rfl ?_); simp [hp, hn1, hn2])
    | (refine AWP_regS tOk rfl ?_; simp [hp, hn1, hn2])
    | (refine AWP_skip ?_; simp [hp, hn1, hn2])
    | (refine AWP_exit ?_; simp [hp, hn1, hn2])
    | (refine AWP_ret ?_; simp [hp, hn1, hn2])
    | refine AWP_block ?_
    | refine AWP_seq ?_)
  refine AWP_cond rfl ?_
  repeat (first
    | (refine AWP_seq (AWP_regS tOk rfl ?_); simp)
    | (refine AWP_regS tOk rfl ?_; simp)
    | (refine AWP_skip ?_; simp)
    | (refine AWP_exit ?_; simp)
    | (refine AWP_ret ?_; simp)
    | refine AWP_block ?_
    | refine AWP_seq ?_)
  refine AStep_toBytes tOk rfl rfl T74 rfl T5 rfl T9 rfl (by omega) rfl ?_
  simp
  repeat (first
    | (refine AWP_seq (AWP_regS tOk rfl ?_); simp)
    | (refine AWP_regS tOk rfl ?_; simp)
    | (refine AWP_skip ?_; simp)
    | (refine AWP_exit ?_; simp)
    | (refine AWP_ret ?_; simp)
    | refine AWP_block ?_
    | refine AWP_seq ?_)
  refine AWP_count s.length (fun j => [(5, .str s), (6, .i (dval (s.take j))), (47, .list (s.map byteAV)), (48, .i s.length), (49, .i j)]) (fun _ => []) (G := []) rfl (by simp) (by simp [dval]) (by simp) (by simp) ?_
  intro j hj ih
  repeat (first
    | (refine AWP_seq (AWP_regS tOk rfl ?_); simp)
    | (refine AWP_regS tOk rfl ?_; simp)
    | (refine AWP_skip ?_; simp)
    | (refine AWP_exit ?_; simp)
    | (refine AWP_ret ?_; simp)
    | refine AWP_block ?_
    | refine AWP_seq ?_)
  refine AWP_cond2 rfl (fun hlt => ?_) (fun hge => ?_)
  · have hlt' : j < s.length := by simpa using hlt
    have hc := (isD_iff s[j]).1 (List.all_eq_true.1 hd _ (List.getElem_mem hlt'))
    have hw : IntKind.i64.wrap ((j : Int) + 1) = j + 1 := wrap_i64 _ (by omega) (by omega)
    have hu : IntKind.u8.wrap ((s[j].toNat : Int) - 48) = (s[j].toNat : Int) - 48 := by rw [IntKind.wrap_u8]; omega
    have hb := dval_take s hd hl j hj
    have hb2 := pow_le15 j (by omega)
    have e1 : IntKind.i64.wrap (dval (s.take j) * 10) = dval (s.take j) * 10 := wrap_i64 _ (by omega) (by omega)
    have e2 : IntKind.i64.wrap ((s[j].toNat : Int) - 48) = (s[j].toNat : Int) - 48 := wrap_i64 _ (by omega) (by omega)
    have e3 : IntKind.i64.wrap (dval (s.take j) * 10 + ((s[j].toNat : Int) - 48)) = dval (s.take j) * 10 + ((s[j].toNat : Int) - 48) := wrap_i64 _ (by omega) (by omega)
    have hf : dval (s.take (j + 1)) = dval (s.take j) * 10 + ((s[j].toNat : Int) - 48) := by rw [List.take_succ_eq_append_getElem hlt', dval_snoc, dstep]
    repeat (first
      | (refine AWP_seq (AWP_regS tOk rfl ?_); simp [hlt', hu])
      | (refine AWP_regS tOk rfl ?_; simp [hlt', hu])
      | (refine AWP_skip ?_; simp [hlt', hu])
      | (refine AWP_exit ?_; simp [hlt', hu])
      | (refine AWP_ret ?_; simp [hlt', hu])
      | refine AWP_block ?_
      | refine AWP_seq ?_)
    refine AWP_cond (b := false) ?_ ?_
    · simp; omega
    repeat (first
      | (refine AWP_seq (AWP_regS tOk rfl ?_); simp [e1, e2, e3, hw])
      | (refine AWP_regS tOk rfl ?_; simp [e1, e2, e3, hw])
      | (refine AWP_skip ?_; simp [e1, e2, e3, hw])
      | (refine AWP_exit ?_; simp [e1, e2, e3, hw])
      | (refine AWP_ret ?_; simp [e1, e2, e3, hw])
      | refine AWP_block ?_
      | refine AWP_seq ?_)
    refine ALoop_end [] (ih hlt') rfl (by simp) ?_ (by simp) (by simp)
    rw [hf]
    simp
  · have hge' : j = s.length := by simp at hge; omega
    subst hge'
    rw [List.take_length]
    repeat (first
      | (refine AWP_seq (AWP_regS tOk rfl ?_); simp [hp, hn1])
      | (refine AWP_regS tOk rfl ?_; simp [hp, hn1])
      | (refine AWP_skip ?_; simp [hp, hn1])
      | (refine AWP_exit ?_; simp [hp, hn1])
      | (refine AWP_ret ?_; simp [hp, hn1])
      | refine AWP_block ?_
      | refine AWP_seq ?_)
    refine AWP_cond rfl ?_
    repeat (first
      | (refine AWP_seq (AWP_regS tOk rfl ?_); simp)
      | (refine AWP_regS tOk rfl ?_; simp)
      | (refine AWP_skip ?_; simp)
      | (refine AWP_exit ?_; simp)
      | (refine AWP_ret ?_; simp)
      | refine AWP_block ?_
      | refine AWP_seq ?_)
theorem pc_Atoi (s : List UInt8) (h0 : s ≠ []) (hl : s.length ≤ 15) (hd : s.all isD = true) : PC Tryz.prog 76 [.str s] (fun r => r = .tup [.i (dval s), .nili]) := by
  refine PC_body tOk Tryz.func76 rfl Tryz.results76 rfl (by simp [Tryz.ntmps76]) ?_
  rw [Tryz.ntmps76]
  simp only [argSlots]
  repeat (first
    | (refine AWP_seq (AWP_regS tOk rfl ?_); simp)
    | (refine AWP_regS tOk rfl ?_; simp)
    | (refine AWP_skip ?_; simp)
    | (refine AWP_exit ?_; simp)
    | (refine AWP_ret ?_; simp)
    | refine AWP_block ?_
    | refine AWP_seq ?_)
  refine AStep_PC rfl rfl (by simp) (pc_iAtoi s h0 hl hd) rfl ?_
  rintro _ rfl
  simp
  repeat (first
    | (refine AWP_seq (AWP_regS tOk rfl ?_); simp)
    | (refine AWP_regS tOk rfl ?_; simp)
    | (refine AWP_skip ?_; simp)
    | (refine AWP_exit ?_; simp)
    | (refine AWP_ret ?_; simp)
    | refine AWP_block ?_
    | refine AWP_seq ?_)
  refine AStep_nilI (b := false) tOk rfl rfl rfl T79 rfl rfl ?_
  simp
  repeat (first
    | (refine AWP_seq (AWP_regS tOk rfl ?_); simp)
    | (refine AWP_regS tOk rfl ?_; simp)
    | (refine AWP_skip ?_; simp)
    | (refine AWP_exit ?_; simp)
    | (refine AWP_ret ?_; simp)
    | refine AWP_block ?_
    | refine AWP_seq ?_)
  refine AWP_cond rfl ?_
  repeat (first
    | (refine AWP_seq (AWP_regS tOk rfl ?_); simp)
    | (refine AWP_regS tOk rfl ?_; simp)
    | (refine AWP_skip ?_; simp)
    | (refine AWP_exit ?_; simp)
    | (refine AWP_ret ?_; simp)
    | refine AWP_block ?_
    | refine AWP_seq ?_)
end Go.Abs
set_option maxRecDepth 100000
namespace Go.Abs
open Go Go.Proofs
set_option linter.unusedSimpArgs false
def digs : List UInt8 := [48, 49, 50, 51, 52, 53, 54, 55, 56, 57]
theorem digs_ok : ∀ n : Fin 256, setOf digs n.val = (decide (48 ≤ n.val) && decide (n.val ≤ 57)) := by decide +kernel
theorem digs_set (c : UInt8) : setOf digs c.toNat = isD c := digs_ok ⟨c.toNat, c.toNat_lt⟩
theorem digs_lt : ∀ c ∈ digs, c.toNat < 128 := by decide +kernel
theorem trim_digs (t : List UInt8) : (trimS digs t == []) = t.all isD := by
  rw [trimS_nil]
  congr 1
  funext c
  exact digs_set c
theorem trim_digs' (t : List UInt8) : (trimS digs t).isEmpty = t.all isD := by
  rw [← trim_digs]; cases trimS digs t <;> rfl
def intB (t s : List UInt8) : Bool := match t with
  | [] => false
  | c :: r => (c :: r).all isD && !(((c.toNat : Int) == 48) && !(s == [48]))
def intV (t s : List UInt8) : Int := if decide (t.length < s.length) = true then W (0 - dval (t.take 15)) else dval (t.take 15)
def intR (s : List UInt8) : Int × Bool := if intB (trimPre s [45]) s = true then (intV (trimPre s [45]) s, true) else (0, false)
attribute [local irreducible] trimS dval isD trimPre
set_option maxHeartbeats 1000000 in
theorem pc_integer (s : List UInt8) (hs : s.length ≤ 1000000) : PC Tryz.prog 59 [.str s] (fun r => r = .tup [.i (intR s).1, .bool (intR s).2]) := by
  refine PC_body tOk Tryz.func59 rfl Tryz.results59 rfl (by simp [Tryz.ntmps59]) ?_
  rw [Tryz.ntmps59]
  simp only [argSlots]
  repeat (first
    | (refine AWP_seq (AWP_regS tOk rfl ?_); simp)
    | (refine AWP_regS tOk rfl ?_; simp)
    | (refine AWP_skip ?_; simp)
    | (refine AWP_exit ?_; simp)
    | (refine AWP_ret ?_; simp)
    | refine AWP_block ?_
    | refine AWP_seq ?_)
  refine AStep_PC rfl rfl (by simp) (pc_TrimPrefix s [45]) rfl ?_
  rintro _ rfl
  simp
  have htl : (trimPre s [45]).length ≤ s.length := by unfold trimPre; split <;> simp
  rw [intR]
  generalize ht : trimPre s [45] = t at *
  repeat (first
    | (refine AWP_seq (AWP_regS tOk rfl ?_); simp)
    | (refine AWP_regS tOk rfl ?_; simp)
    | (refine AWP_skip ?_; simp)
    | (refine AWP_exit ?_; simp)
    | (refine AWP_ret ?_; simp)
    | refine AWP_block ?_
    | refine AWP_seq ?_)
  rcases t with _ | ⟨c, t⟩
  · repeat (first
      | (refine AWP_seq (AWP_regS tOk rfl ?_); simp)
      | (refine AWP_regS tOk rfl ?_; simp)
      | (refine AWP_skip ?_; simp)
      | (refine AWP_exit ?_; simp)
      | (refine AWP_ret ?_; simp)
      | refine AWP_block ?_
      | refine AWP_seq ?_)
    refine AStep_skip rfl rfl ?_
    simp
    repeat (first
      | (refine AWP_seq (AWP_regS tOk rfl ?_); simp)
      | (refine AWP_regS tOk rfl ?_; simp)
      | (refine AWP_skip ?_; simp)
      | (refine AWP_exit ?_; simp)
      | (refine AWP_ret ?_; simp)
      | refine AWP_block ?_
      | refine AWP_seq ?_)
    refine AWP_cond rfl ?_
    repeat (first
      | (refine AWP_seq (AWP_regS tOk rfl ?_); simp)
      | (refine AWP_regS tOk rfl ?_; simp)
      | (refine AWP_skip ?_; simp)
      | (refine AWP_exit ?_; simp)
      | (refine AWP_ret ?_; simp)
      | refine AWP_block ?_
      | refine AWP_seq ?_)
    simp [intB]
  refine AStep_PC rfl rfl (by simp) (pc_Trim digs (c :: t) digs_lt (by decide) (by decide) (by omega) (by simp)) rfl ?_
  rintro _ rfl
  simp
  repeat (first
    | (refine AWP_seq (AWP_regS tOk rfl ?_); simp)
    | (refine AWP_regS tOk rfl ?_; simp)
    | (refine AWP_skip ?_; simp)
    | (refine AWP_exit ?_; simp)
    | (refine AWP_ret ?_; simp)
    | refine AWP_block ?_
    | refine AWP_seq ?_)
  rw [trim_digs']
  have hb : intB (c :: t) s = !(!(c :: t).all isD || (((c.toNat : Int) == 48) && !(s == [48]))) := by simp [intB]
  refine AWP_cond2 rfl (fun h1 => ?_) (fun h1 => ?_)
  · repeat (first
      | (refine AWP_seq (AWP_regS tOk rfl ?_); simp)
      | (refine AWP_regS tOk rfl ?_; simp)
      | (refine AWP_skip ?_; simp)
      | (refine AWP_exit ?_; simp)
      | (refine AWP_ret ?_; simp)
      | refine AWP_block ?_
      | refine AWP_seq ?_)
    rw [ite_f (by rw [hb, h1]; rfl)]
    exact ⟨rfl, rfl⟩
  have hbt : intB (c :: t) s = true := by rw [hb, h1]; rfl
  have hd : (c :: t).all isD = true := by
    have := Bool.or_eq_false_iff.1 h1
    simpa using this.1
  rw [ite_t hbt]
  obtain ⟨u, hu⟩ : ∃ u, (c :: t).take 15 = u := ⟨_, rfl⟩
  have hu0 : u ≠ [] := by rw [← hu]; simp
  have hul : u.length ≤ 15 := by rw [← hu]; simp; omega
  have hud : u.all isD = true := by
    rw [List.all_eq_true] at hd ⊢
    intro x hx
    rw [← hu] at hx
    exact hd x (List.mem_of_mem_take hx)
  obtain ⟨R, hR⟩ : ∃ R, intV (c :: t) s = R := ⟨_, rfl⟩
  rw [hR]
  have hlt15 : t.length + 1 ≤ s.length := by simpa using htl
  repeat (first
    | (refine AWP_seq (AWP_regS tOk rfl ?_); simp)
    | (refine AWP_regS tOk rfl ?_; simp)
    | (refine AWP_skip ?_; simp)
    | (refine AWP_exit ?_; simp)
    | (refine AWP_ret ?_; simp)
    | refine AWP_block ?_
    | refine AWP_seq ?_)
  refine AWP_cond2 rfl (fun h2 => ?_) (fun h2 => ?_)
  · have hl : (15 : Int) ≤ (t.length : Int) + 1 := by simp at h2; omega
    have he : c :: List.take 14 t = u := by rw [← hu]; rfl
    repeat (first
      | (refine AWP_seq (AWP_regS tOk rfl ?_); simp [hl, he])
      | (refine AWP_regS tOk rfl ?_; simp [hl, he])
      | (refine AWP_skip ?_; simp [hl, he])
      | (refine AWP_exit ?_; simp [hl, he])
      | (refine AWP_ret ?_; simp [hl, he])
      | refine AWP_block ?_
      | refine AWP_seq ?_)
    refine AStep_PC rfl rfl (by simp) (pc_Atoi u hu0 hul hud) rfl ?_
    rintro _ rfl
    simp
    repeat (first
      | (refine AWP_seq (AWP_regS tOk rfl ?_); simp)
      | (refine AWP_regS tOk rfl ?_; simp)
      | (refine AWP_skip ?_; simp)
      | (refine AWP_exit ?_; simp)
      | (refine AWP_ret ?_; simp)
      | refine AWP_block ?_
      | refine AWP_seq ?_)
    refine AStep_PC rfl rfl (by simp) (pc_TrimPrefix s [45]) rfl ?_
    rintro _ rfl
    simp
    rw [ht]
    repeat (first
      | (refine AWP_seq (AWP_regS tOk rfl ?_); simp)
      | (refine AWP_regS tOk rfl ?_; simp)
      | (refine AWP_skip ?_; simp)
      | (refine AWP_exit ?_; simp)
      | (refine AWP_ret ?_; simp)
      | refine AWP_block ?_
      | refine AWP_seq ?_)
    refine AWP_cond2 rfl (fun h3 => ?_) (fun h3 => ?_)
    · repeat (first
        | (refine AWP_seq (AWP_regS tOk rfl ?_); simp)
        | (refine AWP_regS tOk rfl ?_; simp)
        | (refine AWP_skip ?_; simp)
        | (refine AWP_exit ?_; simp)
        | (refine AWP_ret ?_; simp)
        | refine AWP_block ?_
        | refine AWP_seq ?_)
      rw [← hR, intV, hu, ite_t (by simpa using h3)]
      simp
    · repeat (first
        | (refine AWP_seq (AWP_regS tOk rfl ?_); simp)
        | (refine AWP_regS tOk rfl ?_; simp)
        | (refine AWP_skip ?_; simp)
        | (refine AWP_exit ?_; simp)
        | (refine AWP_ret ?_; simp)
        | refine AWP_block ?_
        | refine AWP_seq ?_)
      rw [← hR, intV, hu, ite_f (by simpa using h3)]
  · have he : c :: t = u := by rw [← hu]; symm; apply List.take_of_length_le; simp at h2; simp; omega
    repeat (first
      | (refine AWP_seq (AWP_regS tOk rfl ?_); simp)
      | (refine AWP_regS tOk rfl ?_; simp)
      | (refine AWP_skip ?_; simp)
      | (refine AWP_exit ?_; simp)
      | (refine AWP_ret ?_; simp)
      | refine AWP_block ?_
      | refine AWP_seq ?_)
    rw [he]
    refine AStep_PC rfl rfl (by simp) (pc_Atoi u hu0 hul hud) rfl ?_
    rintro _ rfl
    simp
    repeat (first
      | (refine AWP_seq (AWP_regS tOk rfl ?_); simp)
      | (refine AWP_regS tOk rfl ?_; simp)
      | (refine AWP_skip ?_; simp)
      | (refine AWP_exit ?_; simp)
      | (refine AWP_ret ?_; simp)
      | refine AWP_block ?_
      | refine AWP_seq ?_)
    refine AStep_PC rfl rfl (by simp) (pc_TrimPrefix s [45]) rfl ?_
    rintro _ rfl
    simp
    rw [ht]
    repeat (first
      | (refine AWP_seq (AWP_regS tOk rfl ?_); simp)
      | (refine AWP_regS tOk rfl ?_; simp)
      | (refine AWP_skip ?_; simp)
      | (refine AWP_exit ?_; simp)
      | (refine AWP_ret ?_; simp)
      | refine AWP_block ?_
      | refine AWP_seq ?_)
    refine AWP_cond2 rfl (fun h3 => ?_) (fun h3 => ?_)
    · repeat (first
        | (refine AWP_seq (AWP_regS tOk rfl ?_); simp)
        | (refine AWP_regS tOk rfl ?_; simp)
        | (refine AWP_skip ?_; simp)
        | (refine AWP_exit ?_; simp)
        | (refine AWP_ret ?_; simp)
        | refine AWP_block ?_
        | refine AWP_seq ?_)
      rw [← hR, intV, hu, ite_t (by simpa using h3)]
      simp
    · repeat (first
        | (refine AWP_seq (AWP_regS tOk rfl ?_); simp)
        | (refine AWP_regS tOk rfl ?_; simp)
        | (refine AWP_skip ?_; simp)
        | (refine AWP_exit ?_; simp)
        | (refine AWP_ret ?_; simp)
        | refine AWP_block ?_
        | refine AWP_seq ?_)
      rw [← hR, intV, hu, ite_f (by simpa using h3)]
end Go.Abs
set_option maxRecDepth 100000
namespace Go.Abs
open Go Go.Proofs
set_option linter.unusedSimpArgs false
def sTrue : List UInt8 := [116, 114, 117, 101]
def sFalse : List UInt8 := [102, 97, 108, 115, 101]
def unqR (s : List UInt8) : List UInt8 × Bool := unqF (s.length - 1) (s.drop 1) []
def parseR (s : List UInt8) : Val × Int :=
  if decide ((65536 : Int) < s.length) = true then (zeroV, 13)
  else if (s == sTrue || s == sFalse) = true then (boolV (s == sTrue), 0)
  else if hasPre s [34] = true then (if (!(unqR s).2) = true then (zeroV, 4) else checkedV ⟨2, 0, (unqR s).1⟩)
  else if (!(intR s).2) = true then (zeroV, 4) else checkedV ⟨0, (intR s).1, []⟩
attribute [local irreducible] unqF intR hasPre checkedV boolV
set_option maxHeartbeats 1000000 in
theorem pc_Parse (s : List UInt8) : PC Tryz.prog 45 [.str s] (fun r => r = .tup [encV (parseR s).1, .i (parseR s).2]) := by
  refine PC_body tOk Tryz.func45 rfl Tryz.results45 rfl (by simp [Tryz.ntmps45]) ?_
  rw [Tryz.ntmps45]
  simp only [argSlots]
  repeat (first
    | (refine AWP_seq (AWP_regS tOk rfl ?_); simp)
    | (refine AWP_regS tOk rfl ?_; simp)
    | (refine AWP_skip ?_; simp)
    | (refine AWP_exit ?_; simp)
    | (refine AWP_ret ?_; simp)
    | refine AWP_block ?_
    | refine AWP_seq ?_)
  refine AWP_cond2 rfl (fun h => ?_) (fun h => ?_)
  · repeat (first
      | (refine AWP_seq (AWP_regS tOk rfl ?_); simp)
      | (refine AWP_regS tOk rfl ?_; simp)
      | (refine AWP_skip ?_; simp)
      | (refine AWP_exit ?_; simp)
      | (refine AWP_ret ?_; simp)
      | refine AWP_block ?_
      | refine AWP_seq ?_)
    rw [parseR, ite_t h]
    simp [zeroV]
  have hs : s.length ≤ 65536 := by simp at h; omega
  repeat (first
    | (refine AWP_seq (AWP_regS tOk rfl ?_); simp)
    | (refine AWP_regS tOk rfl ?_; simp)
    | (refine AWP_skip ?_; simp)
    | (refine AWP_exit ?_; simp)
    | (refine AWP_ret ?_; simp)
    | refine AWP_block ?_
    | refine AWP_seq ?_)
  refine AWP_cond2 rfl (fun h1 : (s == sTrue || s == sFalse) = true => ?_) (fun h1 : (s == sTrue || s == sFalse) = false => ?_)
  · repeat (first
      | (refine AWP_seq (AWP_regS tOk rfl ?_); simp)
      | (refine AWP_regS tOk rfl ?_; simp)
      | (refine AWP_skip ?_; simp)
      | (refine AWP_exit ?_; simp)
      | (refine AWP_ret ?_; simp)
      | refine AWP_block ?_
      | refine AWP_seq ?_)
    refine AStep_PC rfl rfl (by simp) (pc_Bool (s == sTrue)) rfl ?_
    rintro _ rfl
    simp
    repeat (first
      | (refine AWP_seq (AWP_regS tOk rfl ?_); simp)
      | (refine AWP_regS tOk rfl ?_; simp)
      | (refine AWP_skip ?_; simp)
      | (refine AWP_exit ?_; simp)
      | (refine AWP_ret ?_; simp)
      | refine AWP_block ?_
      | refine AWP_seq ?_)
    rw [parseR, ite_f h, ite_t h1]
    simp
  repeat (first
    | (refine AWP_seq (AWP_regS tOk rfl ?_); simp)
    | (refine AWP_regS tOk rfl ?_; simp)
    | (refine AWP_skip ?_; simp)
    | (refine AWP_exit ?_; simp)
    | (refine AWP_ret ?_; simp)
    | refine AWP_block ?_
    | refine AWP_seq ?_)
  refine AStep_PC rfl rfl (by simp) (pc_HasPrefix s [34]) rfl ?_
  rintro _ rfl
  simp
  repeat (first
    | (refine AWP_seq (AWP_regS tOk rfl ?_); simp)
    | (refine AWP_regS tOk rfl ?_; simp)
    | (refine AWP_skip ?_; simp)
    | (refine AWP_exit ?_; simp)
    | (refine AWP_ret ?_; simp)
    | refine AWP_block ?_
    | refine AWP_seq ?_)
  refine AWP_cond2 rfl (fun h2 => ?_) (fun h2 => ?_)
  · repeat (first
      | (refine AWP_seq (AWP_regS tOk rfl ?_); simp)
      | (refine AWP_regS tOk rfl ?_; simp)
      | (refine AWP_skip ?_; simp)
      | (refine AWP_exit ?_; simp)
      | (refine AWP_ret ?_; simp)
      | refine AWP_block ?_
      | refine AWP_seq ?_)
    obtain ⟨c, u, rfl⟩ : ∃ c u, s = c :: u := by
      cases s with
      | nil => rw [hasPre_short [] [34] (by simp)] at h2; cases h2
      | cons c u => exact ⟨c, u, rfl⟩
    refine AStep_PC rfl rfl (by simp) (pc_unquoted c u (by simp at hs; omega)) rfl ?_
    rintro _ rfl
    simp
    repeat (first
      | (refine AWP_seq (AWP_regS tOk rfl ?_); simp)
      | (refine AWP_regS tOk rfl ?_; simp)
      | (refine AWP_skip ?_; simp)
      | (refine AWP_exit ?_; simp)
      | (refine AWP_ret ?_; simp)
      | refine AWP_block ?_
      | refine AWP_seq ?_)
    have hu : unqR (c :: u) = unqF u.length u [] := rfl
    refine AWP_cond2 rfl (fun h3 => ?_) (fun h3 => ?_)
    · repeat (first
        | (refine AWP_seq (AWP_regS tOk rfl ?_); simp)
        | (refine AWP_regS tOk rfl ?_; simp)
        | (refine AWP_skip ?_; simp)
        | (refine AWP_exit ?_; simp)
        | (refine AWP_ret ?_; simp)
        | refine AWP_block ?_
        | refine AWP_seq ?_)
      rw [parseR, ite_f h, ite_f h1, ite_t h2, hu, ite_t h3]
      simp [zeroV]
    · repeat (first
        | (refine AWP_seq (AWP_regS tOk rfl ?_); simp)
        | (refine AWP_regS tOk rfl ?_; simp)
        | (refine AWP_skip ?_; simp)
        | (refine AWP_exit ?_; simp)
        | (refine AWP_ret ?_; simp)
        | refine AWP_block ?_
        | refine AWP_seq ?_)
      refine AStep_PC rfl rfl (by simp) (pc_String (unqF u.length u []).1) rfl ?_
      rintro _ rfl
      simp
      repeat (first
        | (refine AWP_seq (AWP_regS tOk rfl ?_); simp)
        | (refine AWP_regS tOk rfl ?_; simp)
        | (refine AWP_skip ?_; simp)
        | (refine AWP_exit ?_; simp)
        | (refine AWP_ret ?_; simp)
        | refine AWP_block ?_
        | refine AWP_seq ?_)
      rw [parseR, ite_f h, ite_f h1, ite_t h2, hu, ite_f h3]
      simp
  · repeat (first
      | (refine AWP_seq (AWP_regS tOk rfl ?_); simp)
      | (refine AWP_regS tOk rfl ?_; simp)
      | (refine AWP_skip ?_; simp)
      | (refine AWP_exit ?_; simp)
      | (refine AWP_ret ?_; simp)
      | refine AWP_block ?_
      | refine AWP_seq ?_)
    refine AStep_PC rfl rfl (by simp) (pc_integer s (by omega)) rfl ?_
    rintro _ rfl
    simp
    repeat (first
      | (refine AWP_seq (AWP_regS tOk rfl ?_); simp)
      | (refine AWP_regS tOk rfl ?_; simp)
      | (refine AWP_skip ?_; simp)
      | (refine AWP_exit ?_; simp)
      | (refine AWP_ret ?_; simp)
      | refine AWP_block ?_
      | refine AWP_seq ?_)
    refine AWP_cond2 rfl (fun h3 => ?_) (fun h3 => ?_)
    · repeat (first
        | (refine AWP_seq (AWP_regS tOk rfl ?_); simp)
        | (refine AWP_regS tOk rfl ?_; simp)
        | (refine AWP_skip ?_; simp)
        | (refine AWP_exit ?_; simp)
        | (refine AWP_ret ?_; simp)
        | refine AWP_block ?_
        | refine AWP_seq ?_)
      rw [parseR, ite_f h, ite_f h1, ite_f h2, ite_t h3]
      simp [zeroV]
    · repeat (first
        | (refine AWP_seq (AWP_regS tOk rfl ?_); simp)
        | (refine AWP_regS tOk rfl ?_; simp)
        | (refine AWP_skip ?_; simp)
        | (refine AWP_exit ?_; simp)
        | (refine AWP_ret ?_; simp)
        | refine AWP_block ?_
        | refine AWP_seq ?_)
      refine AStep_PC rfl rfl (by simp) (pc_Int (intR s).1) rfl ?_
      rintro _ rfl
      simp
      repeat (first
        | (refine AWP_seq (AWP_regS tOk rfl ?_); simp)
        | (refine AWP_regS tOk rfl ?_; simp)
        | (refine AWP_skip ?_; simp)
        | (refine AWP_exit ?_; simp)
        | (refine AWP_ret ?_; simp)
        | refine AWP_block ?_
        | refine AWP_seq ?_)
      rw [parseR, ite_f h, ite_f h1, ite_f h2, ite_f h3]
      simp
end Go.Abs
set_option maxRecDepth 100000
namespace Go.Abs
open Go Go.RowKit
section
variable {P : Program} [Env P] {nt k : Nat} {Q : Exit → AS → Prop}
end
end Go.Abs
set_option maxRecDepth 100000
namespace Go.Abs
open Go Go.RowKit
section
variable {P : Program} [Env P] {T : TT} {nt k : Nat} {S : AS} {ops : Array Oper} {o : Oper} {R : AS → Prop} {Q : Exit → AS → Prop}
theorem AStep_capNil (hT : TOk P T) {wr : Bool} (hw : wantedA ops S o = some true) {x : Operand} {t e : TypeId} (ho : o.op = .call ⟨.builtin .cap, #[x], #[t]⟩) {it : TI} (ht : look T t = some it) (hit : it.desc = .slice e)
    (hx : rho S.sl x = some .nils) (hd : dstOk nt o = true) (hR : R (S.putD o.dst (.int .i64 (0 : Nat)))) : AStep P nt k wr ops o S R := fun C a w K Q hst hK => by
  unfold OpW
  rw [if_pos (hst.wanted hw)]
  obtain ⟨I, m, hws, hsl, hk, hE⟩ := hst
  have hut := hT.und ht
  rw [hit] at hut
  have hse := (rho_sound hsl hx).nils_inv
  unfold wpA
  have : (execOp a.eval o).run P w = .ok (.value (goInt 0)) w := by simp [execOp, ho, resolve, invoke, builtin, hse, cap_run hut]
  rw [this]
  exact hK _ _ w hR (St.value hsl hk hE hws (Fut.refl _ _ _ _) (Nat.le_refl _) (dstOk_spec hd) (.pure (.int _ _))) (fun _ => Held.refl w)
/-- An own slice's object, cut short. -/
theorem AWP_trunc {c : Code} {sl : List (Nat × AV)} {H : List AObj} (i k' : Nat) {e : TypeId} {cw : Nat} {xs : List AV} (hi : H[i]? = some (.arr e cw xs)) (h : AWP P nt k c Q ⟨sl, H.set i (.arr e cw (xs.take k'))⟩) : AWP P nt k c Q ⟨sl, H⟩ := fun C a w hs => by
  obtain ⟨I, m, hw, hsl, hk, hf⟩ := hs
  have hlen : (H.set i (.arr e cw (xs.take k'))).length = H.length := by simp
  rcases hw.obj i _ hi with ⟨e1, e2⟩ | ⟨b, cap, vs, hb, hh, q1, q2, q3, q4, hr⟩
  · subst e2
    have : H.set i (.arr e cw (([] : List AV).take k')) = H := by
      rw [List.take_nil]
      exact List.ext_getElem? fun j => by
        by_cases hj : j = i
        · subst hj; rw [hi, List.getElem?_set_self (List.getElem?_eq_some_iff.1 hi).1]
        · rw [List.getElem?_set_ne (fun e => hj e.symm)]
    rw [this] at h
    exact h C a w ⟨I, m, hw, hsl, hk, hf⟩
  · obtain ⟨g1, g2⟩ := hw.set (w' := w) (o' := .arr e cw (xs.take k')) hi rfl hb (World.grownBy.refl _ _) (fun _ h => h) (fun m' hf' => .inr ⟨b, cap, vs, rfl, hh, by simp; omega, q2, q3, fun x hx => q4 x (List.mem_of_mem_take hx), fun j x hx => by
      rw [List.getElem?_take] at hx
      split at hx
      · exact hr j x hx
      · cases hx⟩)
    refine h C a w ⟨I, m, g1, ⟨hsl.1, hsl.2.1, fun t x hx => ?_⟩, by rw [hlen]; exact hk, hf⟩
    obtain ⟨v, hv, hr'⟩ := hsl.2.2 t x hx
    exact ⟨v, hv, by simpa using hr'⟩
end
end Go.Abs
set_option maxRecDepth 100000
namespace Go.Abs
open Go Go.RowKit
section
variable {P : Program} [Env P] {T : TT} {nt k : Nat} {S : AS} {ops : Array Oper} {o : Oper} {R : AS → Prop} {Q : Exit → AS → Prop}
theorem one_call {w : World} {I : Nat → Prop} {m : Nat → Option Nat} {n : Nat} {f : FuncId} {x : AV} {a : Act} (hsl : SlotsR nt S.sl a w I m n) (hc : callArgs S o.op = some (f, [x])) :
    ∃ v : Value, (execOp a.eval o).run P w = (callFunc f #[v]).run P w ∧ VR w I m n v x := by
  have hcall : ∃ vals : Array Value, (execOp a.eval o).run P w = (callFunc f vals).run P w ∧ vals.size = 1 ∧ ∀ (v : Value), vals[0]? = some v → VR w I m n v x := by
    unfold callArgs at hc
    split at hc
    · rename_i c hop
      obtain ⟨callee, args, ts⟩ := c
      simp only at hc
      split at hc
      · rename_i cf
        split at hc
        · rename_i f' fs cs ys h1 h2
          simp only [Option.some.injEq, Prod.mk.injEq] at hc
          obtain ⟨rfl, hxs⟩ := hc
          obtain ⟨vs, us, hev, e1, e2, e3, e4⟩ := (rho_sound hsl h1).fn_inv
          obtain ⟨e5, e6⟩ := rho_all (g := true) rfl hsl h2
          have hlen : fs.length + ys.length + cs.length = 1 := by have := congrArg List.length hxs; simpa [Nat.add_assoc] using this
          refine ⟨vs ++ args.map a.eval ++ us, ?_, by simp only [Array.size_append]; omega, fun v hv => ?_⟩
          · simp [execOp, hop, resolve, hev, Deferred.ofValue, invoke]
          · have hx : (fs ++ ys ++ cs)[0]? = some x := by rw [hxs]; rfl
            rw [Array.getElem?_append] at hv
            rw [List.getElem?_append] at hx
            simp only [Array.size_append, List.length_append] at hv hx
            by_cases c1 : 0 < vs.size + (args.map a.eval).size
            · rw [if_pos c1] at hv
              rw [if_pos (by omega)] at hx
              rw [Array.getElem?_append] at hv
              rw [List.getElem?_append] at hx
              by_cases c2 : 0 < vs.size
              · rw [if_pos c2] at hv
                rw [if_pos (by omega)] at hx
                exact e2 0 v x hv hx
              · rw [if_neg c2] at hv
                rw [if_neg (by omega), ← e1] at hx
                exact e6 _ v x hv hx
            · rw [if_neg c1] at hv
              rw [if_neg (by omega), ← e1, ← e5] at hx
              exact e4 _ v x hv hx
        · cases hc
      · cases hc
    · cases hc
  obtain ⟨vals, hrun, hsz, hval⟩ := hcall
  obtain ⟨v, rfl⟩ : ∃ v, vals = #[v] := by
    rcases vals with ⟨vs⟩
    match vs, hsz with
    | [v], _ => exact ⟨v, rfl⟩
  exact ⟨v, hrun, hval v rfl⟩
/-- internal/bytealg.MakeNoZero: a new slice of bytes that nothing is known of. -/
theorem AStep_makeNoZero (hT : TOk P T) {wr : Bool} (hw : wantedA ops S o = some true) (hd : dstOk nt o = true) {f : FuncId} {fn : Func} {n : Nat} (hc : callArgs S o.op = some (f, [.int .i64 n])) (hf : P.funcs[f]? = some fn)
    (hname : (fn.name == "runtime.NumGoroutine") = false) (hb : fn.body.isNone = true) (hn : Extern.findNext fn = none) {ps : Array TypeId} {t e : TypeId} (he : Extern.find fn = some (Extern.BytealgMakeNoZero.makeNoZero ps #[t]))
    {it : TI} (ht : look T t = some it) (hit : it.desc = .slice e) (hbound : n ≤ 140737488355328)
    (hR : R (({ S with hp := S.hp ++ [.arr e 1 (List.replicate n .top)] } : AS).putD o.dst (.sl S.hp.length 1 0 n))) : AStep P nt k wr ops o S R := fun C a w K Q hst hK => by
  unfold OpW
  rw [if_pos (hst.wanted hw)]
  obtain ⟨I, m, hws, hsl, hk', hE⟩ := hst
  have hut := hT.und ht
  rw [hit] at hut
  obtain ⟨v, hrun, hv⟩ := one_call (P := P) hsl hc
  have hv := hv.int_inv
  subst hv
  obtain ⟨cs, h1, h2, h3⟩ := Lib.run_makeNoZero (P := P) w ps t e hut n (by omega)
  have h3 := h3 (by unfold maxLen; omega)
  have hrun2 : (execOp a.eval o).run P w = .ok (.value (.slice (some ⟨w.heap.size, 0, none⟩) n cs.size)) (w.drew.drew.alloc (.cells cs e)) := by
    rw [hrun, run_callFunc_extern hf hname hb hn he, h1]
    rfl
  have hbl : Below w.heap.size w (w.drew.drew.alloc (.cells cs e)) := (Below.refl _ _).drew.drew.alloc (Nat.le_refl _) _
  obtain ⟨g1, g2⟩ := hws.push hbl (some w.heap.size) (fun b e => by injection e with e; subst e; simp) (.arr e 1 (List.replicate n .top)) (fun m' hf hm => .inr ⟨w.heap.size, cs.size, cs, rfl, heap_alloc_new w.drew.drew _, by simp; omega, h3, by simp,
    fun y hy => by rw [List.eq_of_mem_replicate hy]; rfl, fun p y hp j v hv => by
      rw [List.getElem?_replicate] at hp
      split at hp
      · rename_i hpn
        obtain rfl := Option.some.inj hp
        have hj : j = 0 := by
          have := (List.getElem?_eq_some_iff.1 hv).1
          simp [AV.cells] at this; omega
        subst hj
        have : v = .top := by simpa [AV.cells] using hv.symm
        subst this
        exact ⟨cs[p]'(by omega), by simp, .top _⟩
      · cases hp⟩)
  unfold wpA
  rw [hrun2]
  refine hK _ _ _ hR (St.value hsl hk' hE g1 g2 (by simp) (dstOk_spec hd) ?_) (fun _ => Held.of_below hbl)
  have := VR.sl (w := w.drew.drew.alloc (.cells cs e)) (I := I) (m := upd m S.hp.length (some w.heap.size)) (n := S.hp.length + 1) S.hp.length 1 0 n cs.size w.heap.size e (by omega) (upd_same _ _ _)
    (by have := heap_alloc_new w.drew.drew (.cells cs e); simp only [World.size_drew] at this; simp only [World.shape?, this, Nat.zero_add, Nat.mul_one]) h2 (by omega)
  simpa using this
end
end Go.Abs
set_option maxRecDepth 100000
namespace Go.Abs
open Go Go.RowKit Go.Maps
theorem AV.val_inj {x y : AV} {u : Value} (hx : x.val = some u) (hy : y.val = some u) : x = y := by
  cases x <;> simp [AV.val] at hx <;> subst hx <;> cases y <;> simp [AV.val] at hy
  · rw [hy]
  · rw [hy.1, hy.2]
  · rw [hy]
/-- A plain value that may be a key. -/
def isKey (P : Program) (k : TypeId) (x : AV) : Prop := ∃ u l, x.val = some u ∧ keyOf P k u = some l
section
variable {P : Program} [Env P] {T : TT} {nt k : Nat} {S : AS} {ops : Array Oper} {o : Oper} {R : AS → Prop} {Q : Exit → AS → Prop}
/-- make(map[K]V): an empty map. -/
theorem AStep_makeMap {wr : Bool} (hw : wantedA ops S o = some true) (hd : dstOk nt o = true) {t : TypeId} (ho : o.op = .makeMap t none)
    (hR : R (({ S with hp := S.hp ++ [.mp []] } : AS).putD o.dst (.mref S.hp.length))) : AStep P nt k wr ops o S R := fun C a w K Q hst hK => by
  unfold OpW
  rw [if_pos (hst.wanted hw)]
  obtain ⟨I, m, hws, hsl, hk', hE⟩ := hst
  have hrun : (execOp a.eval o).run P w = .ok (.value (.map (some w.heap.size))) (w.alloc (.map #[] 0)) := by
    have h0 := run_makeMap (P := P) t w
    simp [execOp, ho, h0]
  have hbl : Below w.heap.size w (w.alloc (.map #[] 0)) := (Below.refl _ _).alloc (Nat.le_refl _) _
  have hh : (w.alloc (.map #[] 0)).heap[w.heap.size]? = some (.map #[] 0) := heap_alloc_new w _
  obtain ⟨g1, g2⟩ := hws.push hbl (some w.heap.size) (fun b e => by injection e with e; subst e; exact ⟨Nat.le_refl _, (Array.getElem?_eq_some_iff.1 hh).1⟩) (.mp []) (fun m' hf hm => ⟨w.heap.size, #[], 0, rfl, hh, rfl, fun i e p he _ => by simp at he⟩)
  unfold wpA
  rw [hrun]
  refine hK _ _ _ hR (St.value hsl hk' hE g1 g2 (by simp) (dstOk_spec hd) (.mref _ _ (by simp) (upd_same _ _ _))) (fun _ => Held.of_below hbl)
/-- What a map's look-up meets. -/
theorem map_find {w : World} {I : Nat → Prop} {es : Array MapEntry} {kvs : List (AV × AV)} {kt : TypeId} (K : Keyed P kt) (hl : es.size = kvs.length)
    (hr : ∀ (i : Nat) (e : MapEntry) (p : AV × AV), es[i]? = some e → kvs[i]? = some p → PVR w I e.key p.1 ∧ PVR w I e.val p.2) {kx : AV} {u : Value} {lk : Lit} (hu : kx.val = some u) (hk : keyOf P kt u = some lk) (hks : ∀ p ∈ kvs, isKey P kt p.1) :
    ((Instr.findKey kt u es.toList).run P w = .ok none w ∧ ∀ p ∈ kvs, p.1 ≠ kx) ∨
    ∃ j e p, (Instr.findKey kt u es.toList).run P w = .ok (some (j, e.val)) w ∧ es[j]? = some e ∧ kvs[j]? = some p ∧ p.1 = kx ∧ e.key = u := by
  have hpair : ∀ (i : Nat) (e : MapEntry), es[i]? = some e → ∃ p, kvs[i]? = some p := fun i e he => by
    have hi : i < es.size := (Array.getElem?_eq_some_iff.1 he).1
    exact ⟨kvs[i]'(by omega), by simp⟩
  rcases K.find w hk es.toList (fun e he => by
    obtain ⟨i, hi, rfl⟩ := List.getElem_of_mem he
    have hi' : i < es.size := by simpa using hi
    have he' : es[i]? = some es[i] := by simp [hi']
    obtain ⟨p, hp⟩ := hpair i _ he'
    obtain ⟨v, l, hv, hl'⟩ := hks p (List.mem_of_getElem? hp)
    have := (hr i _ p he' hp).1.val hv
    refine ⟨l, ?_⟩
    simp only [Array.getElem_toList]
    rw [this]; exact hl') with ⟨h1, h2⟩ | ⟨j, e, h1, h2, h3⟩
  · refine .inl ⟨h1, fun p hp hpk => ?_⟩
    obtain ⟨i, hi, rfl⟩ := List.getElem_of_mem hp
    have hi' : i < es.size := by omega
    have he' : es[i]? = some es[i] := by simp [hi']
    have := (hr i _ kvs[i] he' (by simp)).1.val (by rw [hpk]; exact hu)
    exact h2 es[i] (by rw [← Array.getElem_toList]; exact List.getElem_mem _) this
  · have h2' : es[j]? = some e := by rw [← Array.getElem?_toList]; exact h2
    obtain ⟨p, hp⟩ := hpair j e h2'
    obtain ⟨v, l, hv, _⟩ := hks p (List.mem_of_getElem? hp)
    have h4 := (hr j e p h2' hp).1.val hv
    refine .inr ⟨j, e, p, h1, h2', hp, ?_, h3⟩
    exact AV.val_inj hv (by rw [hu, ← h4, h3])
theorem AStep_lookup (hT : TOk P T) {wr : Bool} (hw : wantedA ops S o = some true) (hd : dstOk nt o = true) {t kt et : TypeId} {x ix : Operand} (ho : o.op = .lookup t x ix false) {it ei : TI} (ht : look T t = some it) (hit : it.desc = .map kt et) (he : look T et = some ei)
    (K : Keyed P kt) {id : Nat} (hx : rho S.sl x = some (.mref id)) {kx : AV} (hix : rho S.sl ix = some kx) {kvs : List (AV × AV)} (hob : S.hp[id]? = some (.mp kvs)) (hkx : isKey P kt kx) (hks : ∀ p ∈ kvs, isKey P kt p.1) {z : AV} (hz : z.val = some ei.zero)
    (hR1 : ∀ (j : Nat) (p : AV × AV), kvs[j]? = some p → p.1 = kx → R (S.putD o.dst p.2)) (hR2 : (∀ p ∈ kvs, p.1 ≠ kx) → R (S.putD o.dst z)) : AStep P nt k wr ops o S R := fun C a w K' Q hst hK => by
  unfold OpW
  rw [if_pos (hst.wanted hw)]
  obtain ⟨I, m, hws, hsl, hk, hE⟩ := hst
  have hut := hT.und ht
  rw [hit] at hut
  obtain ⟨b, hb, _, hxe⟩ := (rho_sound hsl hx).mref_inv
  obtain ⟨u, lk, hu, hlk⟩ := hkx
  have hpu : kx.pure = true := by cases kx <;> simp [AV.val] at hu <;> simp [AV.pure]
  have hixe := ((rho_sound hsl hix).toPure hpu).val hu
  obtain ⟨b', es, ck, hb', hh, hl, hr⟩ := hws.obj id _ hob
  obtain rfl : b = b' := by rw [hb] at hb'; exact Option.some.inj hb'
  have hzr := hT.zero he w
  unfold wpA
  rcases map_find K hl hr hu hlk hks with ⟨h1, h2⟩ | ⟨j, e, p, h1, h2, h3, h4, h5⟩
  · have : (execOp a.eval o).run P w = .ok (.value ei.zero) w := by
      simp [execOp, ho, hxe, hixe, Instr.lookup, run_underlying hut, MapKept.run_getObj_map hh, K.check w _ hlk, h1, hzr, Result.andThen]
    rw [this]
    refine hK _ _ w (hR2 h2) (St.value hsl hk hE hws (Fut.refl _ _ _ _) (Nat.le_refl _) (dstOk_spec hd) (.pure ?_)) (fun _ => Held.refl w)
    cases z <;> simp [AV.val] at hz <;> rw [← hz]
    · exact .bool _
    · exact .int _ _
    · exact .str _
  · have : (execOp a.eval o).run P w = .ok (.value e.val) w := by
      simp [execOp, ho, hxe, hixe, Instr.lookup, run_underlying hut, MapKept.run_getObj_map hh, K.check w _ hlk, h1, Result.andThen]
    rw [this]
    exact hK _ _ w (hR1 j p h3 h4) (St.value hsl hk hE hws (Fut.refl _ _ _ _) (Nat.le_refl _) (dstOk_spec hd) (.pure (hr j e p h2 h3).2)) (fun _ => Held.refl w)
theorem AStep_mapUpdate (hT : TOk P T) (hw : wantedA ops S o = some true) (hd : dstOk nt o = true) {t kt et : TypeId} {x ix y : Operand} (ho : o.op = .mapUpdate t x ix y) {it : TI} (ht : look T t = some it) (hit : it.desc = .map kt et)
    (K : Keyed P kt) {id : Nat} (hx : rho S.sl x = some (.mref id)) {kx : AV} (hix : rho S.sl ix = some kx) {vy : AV} (hy : rho S.sl y = some vy) (hpy : vy.pure = true) {kvs : List (AV × AV)} (hob : S.hp[id]? = some (.mp kvs)) (hkx : isKey P kt kx) (hks : ∀ p ∈ kvs, isKey P kt p.1)
    (hR1 : ∀ (j : Nat) (p : AV × AV), kvs[j]? = some p → p.1 = kx → R (({ S with hp := S.hp.set id (.mp (kvs.set j (kx, vy))) } : AS).putD o.dst (.tup [])))
    (hR2 : (∀ p ∈ kvs, p.1 ≠ kx) → R (({ S with hp := S.hp.set id (.mp (kvs ++ [(kx, vy)])) } : AS).putD o.dst (.tup []))) : AStep P nt k true ops o S R := fun C a w K' Q hst hK => by
  unfold OpW
  rw [if_pos (hst.wanted hw)]
  obtain ⟨I, m, hws, hsl, hk, hE⟩ := hst
  have hut := hT.und ht
  rw [hit] at hut
  obtain ⟨b, hb, _, hxe⟩ := (rho_sound hsl hx).mref_inv
  obtain ⟨u, lk, hu, hlk⟩ := hkx
  have hpu : kx.pure = true := by cases kx <;> simp [AV.val] at hu <;> simp [AV.pure]
  have hixp := (rho_sound hsl hix).toPure hpu
  have hixe := hixp.val hu
  have hixp' : PVR w I u kx := by rw [← hixe]; exact hixp
  have hyp := (rho_sound hsl hy).toPure hpy
  obtain ⟨b', es, ck, hb', hh, hl, hr⟩ := hws.obj id _ hob
  obtain rfl : b = b' := by rw [hb] at hb'; exact Option.some.inj hb'
  have hnshape : w.shape? b = none := by simp [World.shape?, hh]
  have hgrow : ∀ o' : Obj, w.grownBy { w with heap := w.heap.setIfInBounds b o' } (some b) := fun o' => ⟨rfl, rfl, rfl, by simp, fun i _ hi => by
    simp only []
    rw [Array.getElem?_setIfInBounds_ne (fun e => hi (by rw [e]))]⟩
  have hself : ∀ o' : Obj, ({ w with heap := w.heap.setIfInBounds b o' } : World).heap[b]? = some o' := fun o' => by
    have : b < w.heap.size := (Array.getElem?_eq_some_iff.1 hh).1
    simp [this]
  unfold wpA
  rcases map_find K hl hr hu hlk hks with ⟨h1, h2⟩ | ⟨j, e, p, h1, h2, h3, h4, h5⟩
  · have : (execOp a.eval o).run P w = .ok .skip { w with heap := w.heap.setIfInBounds b (.map (es.push ⟨u, a.eval y, ck⟩) (ck + 1)) } := by
      simp [execOp, ho, hxe, hixe, Instr.mapUpdate, run_underlying hut, MapKept.run_getObj_map hh, K.check w _ hlk, h1, MapKept.run_setObj_map _ hh, Result.andThen]
    rw [this]
    obtain ⟨g1, g2⟩ := hws.set (o' := .mp (kvs ++ [(kx, vy)])) hob rfl hb (hgrow (.map (es.push ⟨u, a.eval y, ck⟩) (ck + 1))) (fun s hs => by rw [hnshape] at hs; cases hs) (fun m' hf => ⟨b, _, _, rfl, hself _, by simp [hl], fun i e' p' he hp' => by
      rw [Array.getElem?_push] at he
      split at he
      · rename_i hi
        cases he
        rw [List.getElem?_append_right (by omega)] at hp'
        have : i - kvs.length = 0 := by omega
        rw [this] at hp'
        cases hp'
        exact ⟨hixp'.mono hf.ext, hyp.mono hf.ext⟩
      · rename_i hi
        have hi' : i < es.size := (Array.getElem?_eq_some_iff.1 he).1
        rw [List.getElem?_append_left (by omega)] at hp'
        have := hr i e' p' he hp'
        exact ⟨this.1.mono hf.ext, this.2.mono hf.ext⟩⟩)
    exact hK _ _ _ (hR2 h2) (St.value hsl hk hE g1 g2 (by simp) (dstOk_spec hd) (undef_VR _ _ _ _)) (fun e => by cases e)
  · have : (execOp a.eval o).run P w = .ok .skip { w with heap := w.heap.setIfInBounds b (.map (es.modify j fun e => { e with key := u, val := a.eval y }) ck) } := by
      have hst' := K.stays w hlk
      simp [execOp, ho, hxe, hixe, Instr.mapUpdate, run_underlying hut, MapKept.run_getObj_map hh, K.check w _ hlk, h1, h2, h5, hst', MapKept.run_setObj_map _ hh, Result.andThen]
    rw [this]
    obtain ⟨g1, g2⟩ := hws.set (o' := .mp (kvs.set j (kx, vy))) hob rfl hb (hgrow (.map (es.modify j fun e => { e with key := u, val := a.eval y }) ck)) (fun s hs => by rw [hnshape] at hs; cases hs) (fun m' hf => ⟨b, _, _, rfl, hself _, by simp [hl], fun i e' p' he hp' => by
      rw [Array.getElem?_modify] at he
      by_cases hij : j = i
      · subst hij
        rw [if_pos rfl, h2] at he
        rw [List.getElem?_set_self (List.getElem?_eq_some_iff.1 h3).1] at hp'
        cases he
        cases hp'
        exact ⟨hixp'.mono hf.ext, hyp.mono hf.ext⟩
      · rw [if_neg hij] at he
        rw [List.getElem?_set_ne hij] at hp'
        have := hr i e' p' he hp'
        exact ⟨this.1.mono hf.ext, this.2.mono hf.ext⟩⟩)
    exact hK _ _ _ (hR1 j p h3 h4) (St.value hsl hk hE g1 g2 (by simp) (dstOk_spec hd) (undef_VR _ _ _ _)) (fun e => by cases e)
end
end Go.Abs
set_option maxRecDepth 100000
namespace Go.Abs
open Go Go.Proofs
set_option linter.unusedSimpArgs false
theorem get_app {H : List AObj} {i : Nat} {x : AObj} (h : H[i]? = some x) (G : List AObj) : (H ++ G)[i]? = some x := by
  rw [List.getElem?_append_left (List.getElem?_eq_some_iff.1 h).1]; exact h
theorem set_app {H : List AObj} {i : Nat} {x : AObj} (h : H[i]? = some x) (G : List AObj) (y : AObj) : (H ++ G).set i y = H.set i y ++ G :=
  List.set_append_left _ _ (List.getElem?_eq_some_iff.1 h).1
theorem get_set {H : List AObj} {i j : Nat} {x : AObj} (hne : j ≠ i) (h : H[i]? = some x) (y : AObj) : (H.set j y)[i]? = some x := by rw [List.getElem?_set_ne hne]; exact h
theorem get_self {H : List AObj} {i : Nat} {x : AObj} (h : H[i]? = some x) (y : AObj) : (H.set i y)[i]? = some y := List.getElem?_set_self (List.getElem?_eq_some_iff.1 h).1
theorem get_app' {H : List AObj} {i : Nat} {x : AObj} (h : H[i]? = some x) (G : List AObj) (hh : i < (H ++ G).length) : (H ++ G)[i]'hh = x := by
  have := get_app h G
  rw [List.getElem?_eq_getElem hh] at this
  exact Option.some.inj this
theorem get_map {H : List AObj} {i : Nat} {x : AObj} (h : H[i]? = some x) (f : AObj → AObj) : (H.map f)[i]? = some (f x) := by rw [List.getElem?_map, h]; rfl
theorem gen_FC {P : Program} [Env P] {f : Nat} {args : List AV} {H0 : List AObj} {R : AV → List AObj → Prop} (h : ∀ H1, H1 = H0 → FC P f args H1 R) : FC P f args H0 R := h _ rfl
end Go.Abs
set_option maxRecDepth 100000
namespace Go.Abs
open Go Go.Proofs
set_option linter.unusedSimpArgs false
structure Fld where
  name : List UInt8
  kind : Int
deriving Inhabited, DecidableEq
structure Sch where
  name : List UInt8
  fields : List Fld
deriving Inhabited, DecidableEq
@[simp] def encF (f : Fld) : AV := .agg [.str f.name, .int .i64 f.kind]
@[simp] def encSch (s : Sch) : AV := .agg [.str s.name, .list (s.fields.map encF)]
attribute [simp] T33 T22 T37 T31 T52
def letR (c : UInt8) : Bool := decide ((c.toNat : Int) = 95) || (decide (97 ≤ (c.toNat : Int)) && decide ((c.toNat : Int) ≤ 122)) || (decide (65 ≤ (c.toNat : Int)) && decide ((c.toNat : Int) ≤ 90))
def okC (c : UInt8) : Bool := letR c || isD c
def nameR : List UInt8 → Bool
  | [] => false
  | c :: r => decide ((c :: r).length ≤ 24) && !isD c && (c :: r).all okC
theorem pc_sdigit (c : UInt8) : PC Tryz.prog 38 [.int .u8 c.toNat] (fun r => r = .bool (isD c)) := by
  refine PC_body tOk Tryz.func38 rfl Tryz.results38 rfl (by simp [Tryz.ntmps38]) ?_
  rw [Tryz.ntmps38]
  simp only [argSlots]
  repeat (first
    | (refine AWP_seq (AWP_regS tOk rfl ?_); simp)
    | (refine AWP_regS tOk rfl ?_; simp)
    | (refine AWP_skip ?_; simp)
    | (refine AWP_exit ?_; simp)
    | (refine AWP_ret ?_; simp)
    | refine AWP_block ?_
    | refine AWP_seq ?_)
  rw [isD, Bool.eq_iff_iff]
  simp
  omega
theorem pc_sletter (c : UInt8) : PC Tryz.prog 39 [.int .u8 c.toNat] (fun r => r = .bool (letR c)) := by
  refine PC_body tOk Tryz.func39 rfl Tryz.results39 rfl (by simp [Tryz.ntmps39]) ?_
  rw [Tryz.ntmps39]
  simp only [argSlots]
  repeat (first
    | (refine AWP_seq (AWP_regS tOk rfl ?_); simp)
    | (refine AWP_regS tOk rfl ?_; simp)
    | (refine AWP_skip ?_; simp)
    | (refine AWP_exit ?_; simp)
    | (refine AWP_ret ?_; simp)
    | refine AWP_block ?_
    | refine AWP_seq ?_)
  rw [letR, Bool.eq_iff_iff]
  simp
theorem name_long (c : UInt8) (r : List UInt8) (h : 24 < r.length + 1) : nameR (c :: r) = false := by
  rw [nameR, decide_eq_false (show ¬ (c :: r).length ≤ 24 by simp; omega)]; rfl
theorem name_short (c : UInt8) (r : List UInt8) (h : ¬ 24 < r.length + 1) : nameR (c :: r) = (!isD c && (c :: r).all okC) := by
  rw [nameR, decide_eq_true (show (c :: r).length ≤ 24 by simp; omega)]; rfl
theorem name_len {s : List UInt8} (h : nameR s = true) : s.length ≤ 24 := by
  cases s with
  | nil => simp
  | cons c r =>
    by_cases h2 : 24 < r.length + 1
    · rw [name_long c r h2] at h; cases h
    · simp; omega
attribute [local irreducible] isD letR
set_option maxHeartbeats 1000000 in
theorem pc_sname (s : List UInt8) : PC Tryz.prog 26 [.str s] (fun r => r = .bool (nameR s)) := by
  refine PC_body tOk Tryz.func26 rfl Tryz.results26 rfl (by simp [Tryz.ntmps26]) ?_
  rw [Tryz.ntmps26]
  simp only [argSlots]
  rcases s with _ | ⟨c, r⟩
  · repeat (first
      | (refine AWP_seq (AWP_regS tOk rfl ?_); simp)
      | (refine AWP_regS tOk rfl ?_; simp)
      | (refine AWP_skip ?_; simp)
      | (refine AWP_exit ?_; simp)
      | (refine AWP_ret ?_; simp)
      | refine AWP_block ?_
      | refine AWP_seq ?_)
    refine AStep_skip rfl rfl ?_
    simp
    repeat (first
      | (refine AWP_seq (AWP_regS tOk rfl ?_); simp)
      | (refine AWP_regS tOk rfl ?_; simp)
      | (refine AWP_skip ?_; simp)
      | (refine AWP_exit ?_; simp)
      | (refine AWP_ret ?_; simp)
      | refine AWP_block ?_
      | refine AWP_seq ?_)
    refine AWP_cond rfl ?_
    repeat (first
      | (refine AWP_seq (AWP_regS tOk rfl ?_); simp)
      | (refine AWP_regS tOk rfl ?_; simp)
      | (refine AWP_skip ?_; simp)
      | (refine AWP_exit ?_; simp)
      | (refine AWP_ret ?_; simp)
      | refine AWP_block ?_
      | refine AWP_seq ?_)
    rfl
  have hln : ((r.length : Int) + 1 == 0) = false := beq_eq_false_iff_ne.2 (by omega)
  by_cases hl : 24 < r.length + 1
  · have hl' : (24 : Int) < (r.length : Int) + 1 := by omega
    repeat (first
      | (refine AWP_seq (AWP_regS tOk rfl ?_); simp [hln, hl'])
      | (refine AWP_regS tOk rfl ?_; simp [hln, hl'])
      | (refine AWP_skip ?_; simp [hln, hl'])
      | (refine AWP_exit ?_; simp [hln, hl'])
      | (refine AWP_ret ?_; simp [hln, hl'])
      | refine AWP_block ?_
      | refine AWP_seq ?_)
    refine AStep_skip rfl rfl ?_
    simp
    repeat (first
      | (refine AWP_seq (AWP_regS tOk rfl ?_); simp)
      | (refine AWP_regS tOk rfl ?_; simp)
      | (refine AWP_skip ?_; simp)
      | (refine AWP_exit ?_; simp)
      | (refine AWP_ret ?_; simp)
      | refine AWP_block ?_
      | refine AWP_seq ?_)
    refine AWP_cond rfl ?_
    repeat (first
      | (refine AWP_seq (AWP_regS tOk rfl ?_); simp)
      | (refine AWP_regS tOk rfl ?_; simp)
      | (refine AWP_skip ?_; simp)
      | (refine AWP_exit ?_; simp)
      | (refine AWP_ret ?_; simp)
      | refine AWP_block ?_
      | refine AWP_seq ?_)
    exact name_long c r hl
  have hl' : ¬ (24 : Int) < (r.length : Int) + 1 := by omega
  rw [name_short c r hl]
  obtain ⟨R, hR⟩ : ∃ R, (c :: r).all okC = R := ⟨_, rfl⟩
  rw [hR]
  repeat (first
    | (refine AWP_seq (AWP_regS tOk rfl ?_); simp [hln, hl'])
    | (refine AWP_regS tOk rfl ?_; simp [hln, hl'])
    | (refine AWP_skip ?_; simp [hln, hl'])
    | (refine AWP_exit ?_; simp [hln, hl'])
    | (refine AWP_ret ?_; simp [hln, hl'])
    | refine AWP_block ?_
    | refine AWP_seq ?_)
  refine AStep_PC rfl rfl (by simp) (pc_sdigit c) rfl ?_
  rintro _ rfl
  simp
  cases hd : isD c with
  | true =>
    repeat (first
      | (refine AWP_seq (AWP_regS tOk rfl ?_); simp)
      | (refine AWP_regS tOk rfl ?_; simp)
      | (refine AWP_skip ?_; simp)
      | (refine AWP_exit ?_; simp)
      | (refine AWP_ret ?_; simp)
      | refine AWP_block ?_
      | refine AWP_seq ?_)
    refine AWP_cond rfl ?_
    repeat (first
      | (refine AWP_seq (AWP_regS tOk rfl ?_); simp)
      | (refine AWP_regS tOk rfl ?_; simp)
      | (refine AWP_skip ?_; simp)
      | (refine AWP_exit ?_; simp)
      | (refine AWP_ret ?_; simp)
      | refine AWP_block ?_
      | refine AWP_seq ?_)
  | false =>
    repeat (first
      | (refine AWP_seq (AWP_regS tOk rfl ?_); simp)
      | (refine AWP_regS tOk rfl ?_; simp)
      | (refine AWP_skip ?_; simp)
      | (refine AWP_exit ?_; simp)
      | (refine AWP_ret ?_; simp)
      | refine AWP_block ?_
      | refine AWP_seq ?_)
    refine AWP_cond rfl ?_
    have hts : (c :: r).length ≤ 24 := by simp; omega
    obtain ⟨t, ht⟩ : ∃ t, c :: r = t := ⟨_, rfl⟩
    rw [ht] at hts hR ⊢
    repeat (first
      | (refine AWP_seq (AWP_regS tOk rfl ?_); simp)
      | (refine AWP_regS tOk rfl ?_; simp)
      | (refine AWP_skip ?_; simp)
      | (refine AWP_exit ?_; simp)
      | (refine AWP_ret ?_; simp)
      | refine AWP_block ?_
      | refine AWP_seq ?_)
    refine AWP_countI t.length (fun j => (t.take j).all okC = true) (fun j => [(0, .str t), (18, .i t.length), (19, .i j)]) (fun _ => []) rfl (by simp) (by simp) (by simp) (by simp) (by simp) ?_
    intro j hj hI ih
    repeat (first
      | (refine AWP_seq (AWP_regS tOk rfl ?_); simp)
      | (refine AWP_regS tOk rfl ?_; simp)
      | (refine AWP_skip ?_; simp)
      | (refine AWP_exit ?_; simp)
      | (refine AWP_ret ?_; simp)
      | refine AWP_block ?_
      | refine AWP_seq ?_)
    refine AWP_cond2 rfl (fun hlt => ?_) (fun hge => ?_)
    · have hlt' : j < t.length := by simpa using hlt
      have hw : IntKind.i64.wrap ((j : Int) + 1) = j + 1 := wrap_i64 _ (by omega) (by omega)
      repeat (first
        | (refine AWP_seq (AWP_regS tOk rfl ?_); simp [hlt'])
        | (refine AWP_regS tOk rfl ?_; simp [hlt'])
        | (refine AWP_skip ?_; simp [hlt'])
        | (refine AWP_exit ?_; simp [hlt'])
        | (refine AWP_ret ?_; simp [hlt'])
        | refine AWP_block ?_
        | refine AWP_seq ?_)
      refine AStep_PC rfl rfl (by simp) (pc_sletter t[j]) rfl ?_
      rintro _ rfl
      simp [hlt']
      have hsu : (t.take (j + 1)).all okC = okC t[j] := by rw [List.take_succ_eq_append_getElem hlt', List.all_append, hI]; simp
      have hno : okC t[j] = false → t.all okC = false := fun h => by
        rw [Bool.eq_false_iff]
        intro ha
        rw [List.all_eq_true.1 ha _ (List.getElem_mem hlt')] at h
        cases h
      cases hlet : letR t[j] with
      | true =>
        repeat (first
          | (refine AWP_seq (AWP_regS tOk rfl ?_); simp [hlt'])
          | (refine AWP_regS tOk rfl ?_; simp [hlt'])
          | (refine AWP_skip ?_; simp [hlt'])
          | (refine AWP_exit ?_; simp [hlt'])
          | (refine AWP_ret ?_; simp [hlt'])
          | refine AWP_block ?_
          | refine AWP_seq ?_)
        refine AStep_skip rfl rfl ?_
        simp
        repeat (first
          | (refine AWP_seq (AWP_regS tOk rfl ?_); simp [hlt'])
          | (refine AWP_regS tOk rfl ?_; simp [hlt'])
          | (refine AWP_skip ?_; simp [hlt'])
          | (refine AWP_exit ?_; simp [hlt'])
          | (refine AWP_ret ?_; simp [hlt'])
          | refine AWP_block ?_
          | refine AWP_seq ?_)
        refine AWP_cond rfl ?_
        repeat (first
          | (refine AWP_seq (AWP_regS tOk rfl ?_); simp [hw])
          | (refine AWP_regS tOk rfl ?_; simp [hw])
          | (refine AWP_skip ?_; simp [hw])
          | (refine AWP_exit ?_; simp [hw])
          | (refine AWP_ret ?_; simp [hw])
          | refine AWP_block ?_
          | refine AWP_seq ?_)
        exact ALoop_end _ (ih hlt' (by rw [hsu, okC, hlet]; rfl)) rfl (by simp) (by simp) (by simp) (by simp)
      | false =>
        repeat (first
          | (refine AWP_seq (AWP_regS tOk rfl ?_); simp [hlt'])
          | (refine AWP_regS tOk rfl ?_; simp [hlt'])
          | (refine AWP_skip ?_; simp [hlt'])
          | (refine AWP_exit ?_; simp [hlt'])
          | (refine AWP_ret ?_; simp [hlt'])
          | refine AWP_block ?_
          | refine AWP_seq ?_)
        refine AStep_PC rfl rfl (by simp) (pc_sdigit t[j]) rfl ?_
        rintro _ rfl
        simp [hlt']
        repeat (first
          | (refine AWP_seq (AWP_regS tOk rfl ?_); simp [hlt'])
          | (refine AWP_regS tOk rfl ?_; simp [hlt'])
          | (refine AWP_skip ?_; simp [hlt'])
          | (refine AWP_exit ?_; simp [hlt'])
          | (refine AWP_ret ?_; simp [hlt'])
          | refine AWP_block ?_
          | refine AWP_seq ?_)
        cases hdg : isD t[j] with
        | true =>
          refine AWP_cond rfl ?_
          repeat (first
            | (refine AWP_seq (AWP_regS tOk rfl ?_); simp [hw])
            | (refine AWP_regS tOk rfl ?_; simp [hw])
            | (refine AWP_skip ?_; simp [hw])
            | (refine AWP_exit ?_; simp [hw])
            | (refine AWP_ret ?_; simp [hw])
            | refine AWP_block ?_
            | refine AWP_seq ?_)
          exact ALoop_end _ (ih hlt' (by rw [hsu, okC, hlet, hdg]; rfl)) rfl (by simp) (by simp) (by simp) (by simp)
        | false =>
          refine AWP_cond rfl ?_
          repeat (first
            | (refine AWP_seq (AWP_regS tOk rfl ?_); simp)
            | (refine AWP_regS tOk rfl ?_; simp)
            | (refine AWP_skip ?_; simp)
            | (refine AWP_exit ?_; simp)
            | (refine AWP_ret ?_; simp)
            | refine AWP_block ?_
            | refine AWP_seq ?_)
          rw [← hR, hno (by rw [okC, hlet, hdg]; rfl)]
    · have hge' : j = t.length := by simp at hge; omega
      subst hge'
      rw [List.take_length] at hI
      repeat (first
        | (refine AWP_seq (AWP_regS tOk rfl ?_); simp)
        | (refine AWP_regS tOk rfl ?_; simp)
        | (refine AWP_skip ?_; simp)
        | (refine AWP_exit ?_; simp)
        | (refine AWP_ret ?_; simp)
        | refine AWP_block ?_
        | refine AWP_seq ?_)
      rw [← hR, hI]
end Go.Abs
set_option maxRecDepth 100000
namespace Go.Abs
open Go Go.Proofs Go.Maps
set_option linter.unusedSimpArgs false
def timeT : List UInt8 := [116, 105, 109, 101]
def fnameR (s : List UInt8) : Bool := nameR s && !(s == timeT)
theorem pc_sfieldName (s : List UInt8) : PC Tryz.prog 27 [.str s] (fun r => r = .bool (fnameR s)) := by
  refine PC_body tOk Tryz.func27 rfl Tryz.results27 rfl (by simp [Tryz.ntmps27]) ?_
  rw [Tryz.ntmps27]
  simp only [argSlots]
  repeat (first
    | (refine AWP_seq (AWP_regS tOk rfl ?_); simp)
    | (refine AWP_regS tOk rfl ?_; simp)
    | (refine AWP_skip ?_; simp)
    | (refine AWP_exit ?_; simp)
    | (refine AWP_ret ?_; simp)
    | refine AWP_block ?_
    | refine AWP_seq ?_)
  refine AStep_PC rfl rfl (by simp) (pc_sname s) rfl ?_
  rintro _ rfl
  simp
  repeat (first
    | (refine AWP_seq (AWP_regS tOk rfl ?_); simp)
    | (refine AWP_regS tOk rfl ?_; simp)
    | (refine AWP_skip ?_; simp)
    | (refine AWP_exit ?_; simp)
    | (refine AWP_ret ?_; simp)
    | refine AWP_block ?_
    | refine AWP_seq ?_)
  rfl
/-- A set of names, as a map. -/
def seenM (l : List (List UInt8)) : AObj := .mp (l.map fun n => (.str n, .bool true))
theorem strKeyed : Keyed Tryz.prog 9 := string_keyed (by kernel_rfl)
theorem str_isKey (s : List UInt8) (h : s.length ≤ 1000000) : isKey Tryz.prog 9 (.str s) :=
  ⟨.string ⟨s.toArray⟩, .string s, rfl, by
    have := Go.WideMaps.keyOf_string_mk (P := Tryz.prog) (k := 9) (s := ⟨s.toArray⟩) (by kernel_rfl) (by show s.toArray.size ≤ maxLen; unfold maxLen; simp; omega)
    exact this⟩
section
variable {nt k : Nat} {S : AS} {ops : Array Oper} {o : Oper} {R : AS → Prop}
theorem AStep_seen {wr : Bool} (hw : wantedA ops S o = some true) (hd : dstOk nt o = true) {x ix : Operand} (ho : o.op = .lookup 52 x ix false) {id : Nat} (hx : rho S.sl x = some (.mref id)) {n : List UInt8} (hix : rho S.sl ix = some (.str n))
    {l : List (List UInt8)} (hob : S.hp[id]? = some (seenM l)) (hl : ∀ m ∈ l, m.length ≤ 24) (hn : n.length ≤ 24) (hR : R (S.putD o.dst (.bool (decide (n ∈ l))))) : AStep Tryz.prog nt k wr ops o S R := by
  refine AStep_lookup tOk hw hd ho T52 rfl T4 strKeyed hx hix hob (str_isKey n (by omega)) (fun p hp => ?_) (z := .bool false) rfl (fun j p hp he => ?_) (fun hne => ?_)
  · obtain ⟨m, hm, rfl⟩ := List.mem_map.1 hp
    exact str_isKey m (by have := hl m hm; omega)
  · rw [List.getElem?_map] at hp
    obtain ⟨m, hm, rfl⟩ := Option.map_eq_some_iff.1 hp
    have hmn : m = n := by simpa using he
    rw [decide_eq_true (by rw [← hmn]; exact List.mem_of_getElem? hm)] at hR
    exact hR
  · rw [decide_eq_false (fun hm => hne (.str n, .bool true) (List.mem_map.2 ⟨n, hm, rfl⟩) rfl)] at hR
    exact hR
theorem AStep_see (hw : wantedA ops S o = some true) (hd : dstOk nt o = true) {x ix y : Operand} (ho : o.op = .mapUpdate 52 x ix y) {id : Nat} (hx : rho S.sl x = some (.mref id)) {n : List UInt8} (hix : rho S.sl ix = some (.str n)) (hy : rho S.sl y = some (.bool true))
    {l : List (List UInt8)} (hob : S.hp[id]? = some (seenM l)) (hl : ∀ m ∈ l, m.length ≤ 24) (hn : n.length ≤ 24) (hnl : n ∉ l) (hR : R (({ S with hp := S.hp.set id (seenM (l ++ [n])) } : AS).putD o.dst (.tup []))) : AStep Tryz.prog nt k true ops o S R := by
  refine AStep_mapUpdate tOk hw hd ho T52 rfl strKeyed hx hix hy (by simp [AV.pure]) hob (str_isKey n (by omega)) (fun p hp => ?_) (fun j p hp he => ?_) (fun hne => ?_)
  · obtain ⟨m, hm, rfl⟩ := List.mem_map.1 hp
    exact str_isKey m (by have := hl m hm; omega)
  · rw [List.getElem?_map] at hp
    obtain ⟨m, hm, rfl⟩ := Option.map_eq_some_iff.1 hp
    have hmn : m = n := by simpa using he
    exact absurd (by rw [← hmn]; exact List.mem_of_getElem? hm) hnl
  · have e : l.map (fun n => (AV.str n, AV.bool true)) ++ [(.str n, .bool true)] = (l ++ [n]).map (fun n => (AV.str n, AV.bool true)) := by simp
    rw [e]
    exact hR
end
/-- Fields, behind names that were seen. -/
def fieldsR : List (List UInt8) → List Fld → Int
  | _, [] => 0
  | seen, f :: r => if fnameR f.name = false then 8 else if f.name ∈ seen then 7 else if f.kind < 0 ∨ 3 ≤ f.kind then 1 else fieldsR (seen ++ [f.name]) r
def ckSch (s : Sch) : Int := if nameR s.name = false then 8 else if 8 < s.fields.length then 5 else fieldsR [] s.fields
theorem fname_len {s : List UInt8} (h : fnameR s = true) : s.length ≤ 24 := by
  rw [fnameR, Bool.and_eq_true] at h
  exact name_len h.1
attribute [local irreducible] nameR fnameR
set_option maxHeartbeats 2000000 in
theorem pc_sCheck (s : Sch) : PC Tryz.prog 16 [encSch s] (fun r => r = .i (ckSch s)) := by
  refine PC_body tOk Tryz.func16 rfl Tryz.results16 rfl (by simp [Tryz.ntmps16]) ?_
  rw [Tryz.ntmps16]
  simp only [argSlots]
  rw [ckSch]
  repeat (first
    | (refine AWP_seq (AWP_regS tOk rfl ?_); simp)
    | (refine AWP_regS tOk rfl ?_; simp)
    | (refine AWP_skip ?_; simp)
    | (refine AWP_exit ?_; simp)
    | (refine AWP_ret ?_; simp)
    | refine AWP_block ?_
    | refine AWP_seq ?_)
  refine AStep_PC rfl rfl (by simp) (pc_sname s.name) rfl ?_
  rintro _ rfl
  simp
  repeat (first
    | (refine AWP_seq (AWP_regS tOk rfl ?_); simp)
    | (refine AWP_regS tOk rfl ?_; simp)
    | (refine AWP_skip ?_; simp)
    | (refine AWP_exit ?_; simp)
    | (refine AWP_ret ?_; simp)
    | refine AWP_block ?_
    | refine AWP_seq ?_)
  cases hn : nameR s.name with
  | false =>
    refine AWP_cond rfl ?_
    repeat (first
      | (refine AWP_seq (AWP_regS tOk rfl ?_); simp)
      | (refine AWP_regS tOk rfl ?_; simp)
      | (refine AWP_skip ?_; simp)
      | (refine AWP_exit ?_; simp)
      | (refine AWP_ret ?_; simp)
      | refine AWP_block ?_
      | refine AWP_seq ?_)
  | true =>
  refine AWP_cond rfl ?_
  repeat (first
    | (refine AWP_seq (AWP_regS tOk rfl ?_); simp)
    | (refine AWP_regS tOk rfl ?_; simp)
    | (refine AWP_skip ?_; simp)
    | (refine AWP_exit ?_; simp)
    | (refine AWP_ret ?_; simp)
    | refine AWP_block ?_
    | refine AWP_seq ?_)
  refine AWP_cond2 rfl (fun h => ?_) (fun h => ?_)
  · repeat (first
      | (refine AWP_seq (AWP_regS tOk rfl ?_); simp)
      | (refine AWP_regS tOk rfl ?_; simp)
      | (refine AWP_skip ?_; simp)
      | (refine AWP_exit ?_; simp)
      | (refine AWP_ret ?_; simp)
      | refine AWP_block ?_
      | refine AWP_seq ?_)
    intro h8; simp at h; omega
  have hl : s.fields.length ≤ 8 := by simp at h; omega
  rw [if_neg (by omega)]
  obtain ⟨R, hR⟩ : ∃ R, fieldsR [] s.fields = R := ⟨_, rfl⟩
  rw [hR]
  generalize s.fields = l at *
  repeat (first
    | (refine AWP_seq (AWP_regS tOk rfl ?_); simp)
    | (refine AWP_regS tOk rfl ?_; simp)
    | (refine AWP_skip ?_; simp)
    | (refine AWP_exit ?_; simp)
    | (refine AWP_ret ?_; simp)
    | refine AWP_block ?_
    | refine AWP_seq ?_)
  refine AStep_makeMap rfl rfl rfl ?_
  simp
  repeat (first
    | (refine AWP_seq (AWP_regS tOk rfl ?_); simp)
    | (refine AWP_regS tOk rfl ?_; simp)
    | (refine AWP_skip ?_; simp)
    | (refine AWP_exit ?_; simp)
    | (refine AWP_ret ?_; simp)
    | refine AWP_block ?_
    | refine AWP_seq ?_)
  refine AWP_loop (ALoop_keep (sl' := [(3, .mref 1), (16, .list (l.map encF)), (17, .i l.length), (18, .i 0)]) ?_ (by simp))
  refine ALoop_wf (F := fun (u : Nat × List (List UInt8) × List AObj) => ⟨[(3, .mref 1), (16, .list (l.map encF)), (17, .i l.length), (18, .i u.1)], u.2.2⟩)
    (fun u => u.1 ≤ l.length ∧ u.2.2[1]? = some (seenM u.2.1) ∧ (∀ n ∈ u.2.1, n.length ≤ 24) ∧ fieldsR u.2.1 (l.drop u.1) = R) (fun u => l.length - u.1) ?_ (0, [], [.vars [.str s.name, .list (l.map encF)], .mp []]) ⟨by simp, rfl, by simp, by simpa using hR⟩
  rintro ⟨j, seen, H2⟩ ⟨hj, g1, g2, g3⟩ ih
  simp only at hj g1 g2 g3 ih ⊢
  repeat (first
    | (refine AWP_seq (AWP_regS tOk rfl ?_); simp)
    | (refine AWP_regS tOk rfl ?_; simp)
    | (refine AWP_skip ?_; simp)
    | (refine AWP_exit ?_; simp)
    | (refine AWP_ret ?_; simp)
    | refine AWP_block ?_
    | refine AWP_seq ?_)
  refine AWP_cond2 rfl (fun hlt => ?_) (fun hge => ?_)
  · have hlt' : j < l.length := by simpa using hlt
    have hw : IntKind.i64.wrap ((j : Int) + 1) = j + 1 := wrap_i64 _ (by omega) (by omega)
    rw [drop_get hlt', fieldsR] at g3
    repeat (first
      | (refine AWP_seq (AWP_regS tOk rfl ?_); simp [hlt'])
      | (refine AWP_regS tOk rfl ?_; simp [hlt'])
      | (refine AWP_skip ?_; simp [hlt'])
      | (refine AWP_exit ?_; simp [hlt'])
      | (refine AWP_ret ?_; simp [hlt'])
      | refine AWP_block ?_
      | refine AWP_seq ?_)
    refine AStep_PC rfl rfl (by simp) (pc_sfieldName l[j].name) rfl ?_
    rintro _ rfl
    simp
    repeat (first
      | (refine AWP_seq (AWP_regS tOk rfl ?_); simp)
      | (refine AWP_regS tOk rfl ?_; simp)
      | (refine AWP_skip ?_; simp)
      | (refine AWP_exit ?_; simp)
      | (refine AWP_ret ?_; simp)
      | refine AWP_block ?_
      | refine AWP_seq ?_)
    cases hf : fnameR l[j].name with
    | false =>
      rw [hf, if_pos rfl] at g3
      refine AWP_cond rfl ?_
      repeat (first
        | (refine AWP_seq (AWP_regS tOk rfl ?_); simp)
        | (refine AWP_regS tOk rfl ?_; simp)
        | (refine AWP_skip ?_; simp)
        | (refine AWP_exit ?_; simp)
        | (refine AWP_ret ?_; simp)
        | refine AWP_block ?_
        | refine AWP_seq ?_)
      exact g3
    | true =>
    have hnl := fname_len hf
    rw [hf, if_neg (by simp)] at g3
    refine AWP_cond rfl ?_
    repeat (first
      | (refine AWP_seq (AWP_regS tOk rfl ?_); simp)
      | (refine AWP_regS tOk rfl ?_; simp)
      | (refine AWP_skip ?_; simp)
      | (refine AWP_exit ?_; simp)
      | (refine AWP_ret ?_; simp)
      | refine AWP_block ?_
      | refine AWP_seq ?_)
    refine AStep_seen rfl rfl rfl rfl rfl (get_app g1 _) g2 hnl ?_
    simp
    by_cases hm : l[j].name ∈ seen
    · rw [if_pos hm] at g3
      repeat (first
        | (refine AWP_seq (AWP_regS tOk rfl ?_); simp)
        | (refine AWP_regS tOk rfl ?_; simp)
        | (refine AWP_skip ?_; simp)
        | (refine AWP_exit ?_; simp)
        | (refine AWP_ret ?_; simp)
        | refine AWP_block ?_
        | refine AWP_seq ?_)
      refine AWP_cond2 rfl (fun _ => ?_) (fun h' => absurd hm (by simpa using h'))
      repeat (first
        | (refine AWP_seq (AWP_regS tOk rfl ?_); simp)
        | (refine AWP_regS tOk rfl ?_; simp)
        | (refine AWP_skip ?_; simp)
        | (refine AWP_exit ?_; simp)
        | (refine AWP_ret ?_; simp)
        | refine AWP_block ?_
        | refine AWP_seq ?_)
      exact g3
    rw [if_neg hm] at g3
    repeat (first
      | (refine AWP_seq (AWP_regS tOk rfl ?_); simp)
      | (refine AWP_regS tOk rfl ?_; simp)
      | (refine AWP_skip ?_; simp)
      | (refine AWP_exit ?_; simp)
      | (refine AWP_ret ?_; simp)
      | refine AWP_block ?_
      | refine AWP_seq ?_)
    refine AWP_cond2 rfl (fun h' => absurd (by simpa using h') hm) (fun _ => ?_)
    repeat (first
      | (refine AWP_seq (AWP_regS tOk rfl ?_); simp)
      | (refine AWP_regS tOk rfl ?_; simp)
      | (refine AWP_skip ?_; simp)
      | (refine AWP_exit ?_; simp)
      | (refine AWP_ret ?_; simp)
      | refine AWP_block ?_
      | refine AWP_seq ?_)
    refine AWP_cond2 rfl (fun h' => ?_) (fun h' => ?_)
    · repeat (first
        | (refine AWP_seq (AWP_regS tOk rfl ?_); simp)
        | (refine AWP_regS tOk rfl ?_; simp)
        | (refine AWP_skip ?_; simp)
        | (refine AWP_exit ?_; simp)
        | (refine AWP_ret ?_; simp)
        | refine AWP_block ?_
        | refine AWP_seq ?_)
      rw [if_pos (by simpa using h')] at g3
      exact g3
    rw [if_neg (by simp at h'; omega)] at g3
    repeat (first
      | (refine AWP_seq (AWP_regS tOk rfl ?_); simp)
      | (refine AWP_regS tOk rfl ?_; simp)
      | (refine AWP_skip ?_; simp)
      | (refine AWP_exit ?_; simp)
      | (refine AWP_ret ?_; simp)
      | refine AWP_block ?_
      | refine AWP_seq ?_)
    refine AStep_see rfl rfl rfl rfl rfl rfl (get_app g1 _) g2 hnl hm ?_
    simp [set_app g1]
    repeat (first
      | (refine AWP_seq (AWP_regS tOk rfl ?_); simp [hw])
      | (refine AWP_regS tOk rfl ?_; simp [hw])
      | (refine AWP_skip ?_; simp [hw])
      | (refine AWP_exit ?_; simp [hw])
      | (refine AWP_ret ?_; simp [hw])
      | refine AWP_block ?_
      | refine AWP_seq ?_)
    exact ALoop_keep (sl' := [(3, .mref 1), (16, .list (l.map encF)), (17, .i l.length), (18, .i (j + 1 : Nat))]) (ih (j + 1, seen ++ [l[j].name], H2.set 1 (seenM (seen ++ [l[j].name])) ++ [.vars [.str l[j].name, .int .i64 l[j].kind]]) ⟨by simp; omega, get_app (get_self g1 _) _, fun n hn => (List.mem_append.1 hn).elim (g2 n) (fun h => by simp at h; rw [h]; exact hnl), g3⟩ (by simp; omega)) (by simp)
  · have hge' : j = l.length := by simp at hge; omega
    subst hge'
    rw [List.drop_length, fieldsR] at g3
    repeat (first
      | (refine AWP_seq (AWP_regS tOk rfl ?_); simp)
      | (refine AWP_regS tOk rfl ?_; simp)
      | (refine AWP_skip ?_; simp)
      | (refine AWP_exit ?_; simp)
      | (refine AWP_ret ?_; simp)
      | refine AWP_block ?_
      | refine AWP_seq ?_)
    exact g3
/-- Event types, behind names that were seen. -/
def schsR : List (List UInt8) → List Sch → Int
  | _, [] => 0
  | seen, s :: r => if ckSch s ≠ 0 then ckSch s else if s.name ∈ seen then 7 else schsR (seen ++ [s.name]) r
def ckSchs (l : List Sch) : Int := if 16 < l.length then 5 else schsR [] l
theorem ckSch_name {s : Sch} (h : ckSch s = 0) : nameR s.name = true := by
  unfold ckSch at h
  cases hn : nameR s.name with
  | true => rfl
  | false => rw [hn, if_pos rfl] at h; exact absurd h (by decide)
attribute [local irreducible] ckSch
set_option maxHeartbeats 2000000 in
theorem pc_sCheckAll (l : List Sch) : PC Tryz.prog 7 [.list (l.map encSch)] (fun r => r = .i (ckSchs l)) := by
  refine PC_body tOk Tryz.func7 rfl Tryz.results7 rfl (by simp [Tryz.ntmps7]) ?_
  rw [Tryz.ntmps7]
  simp only [argSlots]
  rw [ckSchs]
  repeat (first
    | (refine AWP_seq (AWP_regS tOk rfl ?_); simp)
    | (refine AWP_regS tOk rfl ?_; simp)
    | (refine AWP_skip ?_; simp)
    | (refine AWP_exit ?_; simp)
    | (refine AWP_ret ?_; simp)
    | refine AWP_block ?_
    | refine AWP_seq ?_)
  refine AWP_cond2 rfl (fun h => ?_) (fun h => ?_)
  · repeat (first
      | (refine AWP_seq (AWP_regS tOk rfl ?_); simp)
      | (refine AWP_regS tOk rfl ?_; simp)
      | (refine AWP_skip ?_; simp)
      | (refine AWP_exit ?_; simp)
      | (refine AWP_ret ?_; simp)
      | refine AWP_block ?_
      | refine AWP_seq ?_)
    intro h8; simp at h; omega
  have hl : l.length ≤ 16 := by simp at h; omega
  rw [if_neg (by omega)]
  obtain ⟨R, hR⟩ : ∃ R, schsR [] l = R := ⟨_, rfl⟩
  rw [hR]
  repeat (first
    | (refine AWP_seq (AWP_regS tOk rfl ?_); simp)
    | (refine AWP_regS tOk rfl ?_; simp)
    | (refine AWP_skip ?_; simp)
    | (refine AWP_exit ?_; simp)
    | (refine AWP_ret ?_; simp)
    | refine AWP_block ?_
    | refine AWP_seq ?_)
  refine AStep_makeMap rfl rfl rfl ?_
  simp
  repeat (first
    | (refine AWP_seq (AWP_regS tOk rfl ?_); simp)
    | (refine AWP_regS tOk rfl ?_; simp)
    | (refine AWP_skip ?_; simp)
    | (refine AWP_exit ?_; simp)
    | (refine AWP_ret ?_; simp)
    | refine AWP_block ?_
    | refine AWP_seq ?_)
  refine AWP_loop (ALoop_keep (sl' := [(3, .mref 0), (11, .list (l.map encSch)), (12, .i l.length), (13, .i 0)]) ?_ (by simp))
  refine ALoop_wf (F := fun (u : Nat × List (List UInt8) × List AObj) => ⟨[(3, .mref 0), (11, .list (l.map encSch)), (12, .i l.length), (13, .i u.1)], u.2.2⟩)
    (fun u => u.1 ≤ l.length ∧ u.2.2[0]? = some (seenM u.2.1) ∧ (∀ n ∈ u.2.1, n.length ≤ 24) ∧ schsR u.2.1 (l.drop u.1) = R) (fun u => l.length - u.1) ?_ (0, [], [.mp []]) ⟨by simp, rfl, by simp, by simpa using hR⟩
  rintro ⟨j, seen, H2⟩ ⟨hj, g1, g2, g3⟩ ih
  simp only at hj g1 g2 g3 ih ⊢
  repeat (first
    | (refine AWP_seq (AWP_regS tOk rfl ?_); simp)
    | (refine AWP_regS tOk rfl ?_; simp)
    | (refine AWP_skip ?_; simp)
    | (refine AWP_exit ?_; simp)
    | (refine AWP_ret ?_; simp)
    | refine AWP_block ?_
    | refine AWP_seq ?_)
  refine AWP_cond2 rfl (fun hlt => ?_) (fun hge => ?_)
  · have hlt' : j < l.length := by simpa using hlt
    have hw : IntKind.i64.wrap ((j : Int) + 1) = j + 1 := wrap_i64 _ (by omega) (by omega)
    rw [drop_get hlt', schsR] at g3
    repeat (first
      | (refine AWP_seq (AWP_regS tOk rfl ?_); simp [hlt'])
      | (refine AWP_regS tOk rfl ?_; simp [hlt'])
      | (refine AWP_skip ?_; simp [hlt'])
      | (refine AWP_exit ?_; simp [hlt'])
      | (refine AWP_ret ?_; simp [hlt'])
      | refine AWP_block ?_
      | refine AWP_seq ?_)
    refine AStep_PC rfl rfl (by simp) (pc_sCheck l[j]) rfl ?_
    rintro _ rfl
    simp
    repeat (first
      | (refine AWP_seq (AWP_regS tOk rfl ?_); simp)
      | (refine AWP_regS tOk rfl ?_; simp)
      | (refine AWP_skip ?_; simp)
      | (refine AWP_exit ?_; simp)
      | (refine AWP_ret ?_; simp)
      | refine AWP_block ?_
      | refine AWP_seq ?_)
    refine AWP_cond2 rfl (fun hf => ?_) (fun hf => ?_)
    · rw [if_pos (by simpa using hf)] at g3
      repeat (first
        | (refine AWP_seq (AWP_regS tOk rfl ?_); simp)
        | (refine AWP_regS tOk rfl ?_; simp)
        | (refine AWP_skip ?_; simp)
        | (refine AWP_exit ?_; simp)
        | (refine AWP_ret ?_; simp)
        | refine AWP_block ?_
        | refine AWP_seq ?_)
      exact g3
    have h0 : ckSch l[j] = 0 := by simpa using hf
    have hnl := name_len (ckSch_name h0)
    rw [if_neg (by simpa using hf)] at g3
    repeat (first
      | (refine AWP_seq (AWP_regS tOk rfl ?_); simp)
      | (refine AWP_regS tOk rfl ?_; simp)
      | (refine AWP_skip ?_; simp)
      | (refine AWP_exit ?_; simp)
      | (refine AWP_ret ?_; simp)
      | refine AWP_block ?_
      | refine AWP_seq ?_)
    refine AStep_seen rfl rfl rfl rfl rfl (get_app g1 _) g2 hnl ?_
    simp
    by_cases hm : l[j].name ∈ seen
    · rw [if_pos hm] at g3
      repeat (first
        | (refine AWP_seq (AWP_regS tOk rfl ?_); simp)
        | (refine AWP_regS tOk rfl ?_; simp)
        | (refine AWP_skip ?_; simp)
        | (refine AWP_exit ?_; simp)
        | (refine AWP_ret ?_; simp)
        | refine AWP_block ?_
        | refine AWP_seq ?_)
      refine AWP_cond2 rfl (fun _ => ?_) (fun h' => absurd hm (by simpa using h'))
      repeat (first
        | (refine AWP_seq (AWP_regS tOk rfl ?_); simp)
        | (refine AWP_regS tOk rfl ?_; simp)
        | (refine AWP_skip ?_; simp)
        | (refine AWP_exit ?_; simp)
        | (refine AWP_ret ?_; simp)
        | refine AWP_block ?_
        | refine AWP_seq ?_)
      exact g3
    rw [if_neg hm] at g3
    repeat (first
      | (refine AWP_seq (AWP_regS tOk rfl ?_); simp)
      | (refine AWP_regS tOk rfl ?_; simp)
      | (refine AWP_skip ?_; simp)
      | (refine AWP_exit ?_; simp)
      | (refine AWP_ret ?_; simp)
      | refine AWP_block ?_
      | refine AWP_seq ?_)
    refine AWP_cond2 rfl (fun h' => absurd (by simpa using h') hm) (fun _ => ?_)
    repeat (first
      | (refine AWP_seq (AWP_regS tOk rfl ?_); simp)
      | (refine AWP_regS tOk rfl ?_; simp)
      | (refine AWP_skip ?_; simp)
      | (refine AWP_exit ?_; simp)
      | (refine AWP_ret ?_; simp)
      | refine AWP_block ?_
      | refine AWP_seq ?_)
    refine AStep_see rfl rfl rfl rfl rfl rfl (get_app g1 _) g2 hnl hm ?_
    simp [set_app g1]
    repeat (first
      | (refine AWP_seq (AWP_regS tOk rfl ?_); simp [hw])
      | (refine AWP_regS tOk rfl ?_; simp [hw])
      | (refine AWP_skip ?_; simp [hw])
      | (refine AWP_exit ?_; simp [hw])
      | (refine AWP_ret ?_; simp [hw])
      | refine AWP_block ?_
      | refine AWP_seq ?_)
    exact ALoop_keep (sl' := [(3, .mref 0), (11, .list (l.map encSch)), (12, .i l.length), (13, .i (j + 1 : Nat))]) (ih (j + 1, seen ++ [l[j].name], H2.set 0 (seenM (seen ++ [l[j].name])) ++ [.vars [.str l[j].name, .list (l[j].fields.map encF)]]) ⟨by simp; omega, get_app (get_self g1 _) _, fun n hn => (List.mem_append.1 hn).elim (g2 n) (fun h => by simp at h; rw [h]; exact hnl), g3⟩ (by simp; omega)) (by simp)
  · have hge' : j = l.length := by simp at hge; omega
    subst hge'
    rw [List.drop_length, schsR] at g3
    repeat (first
      | (refine AWP_seq (AWP_regS tOk rfl ?_); simp)
      | (refine AWP_regS tOk rfl ?_; simp)
      | (refine AWP_skip ?_; simp)
      | (refine AWP_exit ?_; simp)
      | (refine AWP_ret ?_; simp)
      | refine AWP_block ?_
      | refine AWP_seq ?_)
    exact g3
end Go.Abs
set_option maxRecDepth 100000
namespace Go.Abs
open Go Go.Proofs
set_option linter.unusedSimpArgs false
structure Ev where
  source : Int
  seq : Int
  type : Int
  time : Int
  values : List Val
deriving Inhabited, DecidableEq
@[simp] def encE (e : Ev) : AV := .agg [.int .i64 e.source, .int .i64 e.seq, .int .i64 e.type, .int .i64 e.time, .list (e.values.map encV)]
attribute [simp] T25 T47
def badS (e : Ev) : Bool := decide (e.source < 0) || decide (8 ≤ e.source)
def badN (e : Ev) : Bool := decide (e.seq < 0) || decide (1099511627776 < e.seq) || decide (e.time < 0) || decide (1099511627776 < e.time)
def numsR (e : Ev) : Int := if badS e = true then 32 else if badN e = true then 2 else 0
theorem pc_enumbers (e : Ev) : PC Tryz.prog 24 [encE e] (fun r => r = .i (numsR e)) := by
  refine PC_body tOk Tryz.func24 rfl Tryz.results24 rfl (by simp [Tryz.ntmps24]) ?_
  rw [Tryz.ntmps24]
  simp only [argSlots]
  rw [numsR]
  cases hs : badS e with
  | true =>
    repeat (first
      | (refine AWP_seq (AWP_regS tOk rfl ?_); simp)
      | (refine AWP_regS tOk rfl ?_; simp)
      | (refine AWP_skip ?_; simp)
      | (refine AWP_exit ?_; simp)
      | (refine AWP_ret ?_; simp)
      | refine AWP_block ?_
      | refine AWP_seq ?_)
    refine AWP_cond2 rfl (fun h => ?_) (fun h => ?_)
    · repeat (first
        | (refine AWP_seq (AWP_regS tOk rfl ?_); simp)
        | (refine AWP_regS tOk rfl ?_; simp)
        | (refine AWP_skip ?_; simp)
        | (refine AWP_exit ?_; simp)
        | (refine AWP_ret ?_; simp)
        | refine AWP_block ?_
        | refine AWP_seq ?_)
    · rw [badS] at hs; rw [hs] at h; cases h
  | false =>
    repeat (first
      | (refine AWP_seq (AWP_regS tOk rfl ?_); simp)
      | (refine AWP_regS tOk rfl ?_; simp)
      | (refine AWP_skip ?_; simp)
      | (refine AWP_exit ?_; simp)
      | (refine AWP_ret ?_; simp)
      | refine AWP_block ?_
      | refine AWP_seq ?_)
    refine AWP_cond2 rfl (fun h => ?_) (fun h => ?_)
    · rw [badS] at hs; rw [hs] at h; cases h
    cases hn : badN e with
    | true =>
      repeat (first
        | (refine AWP_seq (AWP_regS tOk rfl ?_); simp)
        | (refine AWP_regS tOk rfl ?_; simp)
        | (refine AWP_skip ?_; simp)
        | (refine AWP_exit ?_; simp)
        | (refine AWP_ret ?_; simp)
        | refine AWP_block ?_
        | refine AWP_seq ?_)
      refine AWP_cond2 rfl (fun h => ?_) (fun h => ?_)
      · repeat (first
          | (refine AWP_seq (AWP_regS tOk rfl ?_); simp)
          | (refine AWP_regS tOk rfl ?_; simp)
          | (refine AWP_skip ?_; simp)
          | (refine AWP_exit ?_; simp)
          | (refine AWP_ret ?_; simp)
          | refine AWP_block ?_
          | refine AWP_seq ?_)
      · rw [badN] at hn; rw [hn] at h; cases h
    | false =>
      repeat (first
        | (refine AWP_seq (AWP_regS tOk rfl ?_); simp)
        | (refine AWP_regS tOk rfl ?_; simp)
        | (refine AWP_skip ?_; simp)
        | (refine AWP_exit ?_; simp)
        | (refine AWP_ret ?_; simp)
        | refine AWP_block ?_
        | refine AWP_seq ?_)
      refine AWP_cond2 rfl (fun h => ?_) (fun h => ?_)
      · rw [badN] at hn; rw [hn] at h; cases h
      repeat (first
        | (refine AWP_seq (AWP_regS tOk rfl ?_); simp)
        | (refine AWP_regS tOk rfl ?_; simp)
        | (refine AWP_skip ?_; simp)
        | (refine AWP_exit ?_; simp)
        | (refine AWP_ret ?_; simp)
        | refine AWP_block ?_
        | refine AWP_seq ?_)
def valsR : List Val → List Fld → Int
  | v :: vs, f :: fs => if checkR v ≠ 0 then checkR v else if v.kind ≠ f.kind then 9 else valsR vs fs
  | _, _ => 0
def validR (l : List Sch) (e : Ev) : Int :=
  if numsR e ≠ 0 then numsR e else if e.type < 0 ∨ (l.length : Int) ≤ e.type then 6 else
    if e.values.length ≠ (l.getD e.type.toNat default).fields.length then 15 else valsR e.values (l.getD e.type.toNat default).fields
attribute [local irreducible] numsR checkR
set_option maxHeartbeats 2000000 in
theorem pc_evalid (l : List Sch) (e : Ev) (hlen : l.length ≤ 1000000) (hf8 : ∀ s ∈ l, s.fields.length ≤ 8) : PC Tryz.prog 15 [.list (l.map encSch), encE e] (fun r => r = .i (validR l e)) := by
  refine PC_body tOk Tryz.func15 rfl Tryz.results15 rfl (by simp [Tryz.ntmps15]) ?_
  rw [Tryz.ntmps15]
  simp only [argSlots]
  obtain ⟨R, hR⟩ : ∃ R, validR l e = R := ⟨_, rfl⟩
  rw [hR]
  rw [validR] at hR
  repeat (first
    | (refine AWP_seq (AWP_regS tOk rfl ?_); simp)
    | (refine AWP_regS tOk rfl ?_; simp)
    | (refine AWP_skip ?_; simp)
    | (refine AWP_exit ?_; simp)
    | (refine AWP_ret ?_; simp)
    | refine AWP_block ?_
    | refine AWP_seq ?_)
  refine AStep_PC rfl rfl (by simp) (pc_enumbers e) rfl ?_
  rintro _ rfl
  simp
  repeat (first
    | (refine AWP_seq (AWP_regS tOk rfl ?_); simp)
    | (refine AWP_regS tOk rfl ?_; simp)
    | (refine AWP_skip ?_; simp)
    | (refine AWP_exit ?_; simp)
    | (refine AWP_ret ?_; simp)
    | refine AWP_block ?_
    | refine AWP_seq ?_)
  refine AWP_cond2 rfl (fun h => ?_) (fun h => ?_)
  · repeat (first
      | (refine AWP_seq (AWP_regS tOk rfl ?_); simp)
      | (refine AWP_regS tOk rfl ?_; simp)
      | (refine AWP_skip ?_; simp)
      | (refine AWP_exit ?_; simp)
      | (refine AWP_ret ?_; simp)
      | refine AWP_block ?_
      | refine AWP_seq ?_)
    rw [if_pos (by simpa using h)] at hR
    exact hR
  rw [if_neg (by simpa using h)] at hR
  repeat (first
    | (refine AWP_seq (AWP_regS tOk rfl ?_); simp)
    | (refine AWP_regS tOk rfl ?_; simp)
    | (refine AWP_skip ?_; simp)
    | (refine AWP_exit ?_; simp)
    | (refine AWP_ret ?_; simp)
    | refine AWP_block ?_
    | refine AWP_seq ?_)
  refine AWP_cond2 rfl (fun h2 => ?_) (fun h2 => ?_)
  · repeat (first
      | (refine AWP_seq (AWP_regS tOk rfl ?_); simp)
      | (refine AWP_regS tOk rfl ?_; simp)
      | (refine AWP_skip ?_; simp)
      | (refine AWP_exit ?_; simp)
      | (refine AWP_ret ?_; simp)
      | refine AWP_block ?_
      | refine AWP_seq ?_)
    rw [if_pos (by simpa using h2)] at hR
    exact hR
  have hb : 0 ≤ e.type ∧ e.type < l.length := by simp at h2; omega
  rw [if_neg (by omega)] at hR
  obtain ⟨k, hk⟩ : ∃ k : Nat, e.type = k := ⟨e.type.toNat, by omega⟩
  have hkl : k < l.length := by omega
  have hg : l.getD e.type.toNat default = l[k] := by rw [hk, List.getD_eq_getElem?_getD]; simp [hkl]
  rw [hg] at hR
  clear h h2 hg hb
  have hfl : l[k].fields.length ≤ 8 := hf8 _ (List.getElem_mem hkl)
  generalize hfs : l[k].fields = fs at *
  obtain ⟨es, eq, et, em, vs⟩ := e
  simp only at hk hR
  subst hk
  repeat (first
    | (refine AWP_seq (AWP_regS tOk rfl ?_); simp [hkl, hfs])
    | (refine AWP_regS tOk rfl ?_; simp [hkl, hfs])
    | (refine AWP_skip ?_; simp [hkl, hfs])
    | (refine AWP_exit ?_; simp [hkl, hfs])
    | (refine AWP_ret ?_; simp [hkl, hfs])
    | refine AWP_block ?_
    | refine AWP_seq ?_)
  refine AWP_cond2 rfl (fun h3 => ?_) (fun h3 => ?_)
  · repeat (first
      | (refine AWP_seq (AWP_regS tOk rfl ?_); simp)
      | (refine AWP_regS tOk rfl ?_; simp)
      | (refine AWP_skip ?_; simp)
      | (refine AWP_exit ?_; simp)
      | (refine AWP_ret ?_; simp)
      | refine AWP_block ?_
      | refine AWP_seq ?_)
    rw [if_pos (by simp at h3; omega)] at hR
    exact hR
  have hlv : vs.length = fs.length := by simp at h3; omega
  rw [if_neg (by omega)] at hR
  repeat (first
    | (refine AWP_seq (AWP_regS tOk rfl ?_); simp)
    | (refine AWP_regS tOk rfl ?_; simp)
    | (refine AWP_skip ?_; simp)
    | (refine AWP_exit ?_; simp)
    | (refine AWP_ret ?_; simp)
    | refine AWP_block ?_
    | refine AWP_seq ?_)
  refine AWP_loop (ALoop_keep (sl' := [(6, .list (fs.map encF)), (38, .list (vs.map encV)), (39, .i vs.length), (40, .i 0)]) ?_ (by simp))
  refine ALoop_wf (F := fun (u : Nat × List AObj) => ⟨[(6, .list (fs.map encF)), (38, .list (vs.map encV)), (39, .i vs.length), (40, .i u.1)], u.2⟩)
    (fun u => u.1 ≤ vs.length ∧ valsR (vs.drop u.1) (fs.drop u.1) = R) (fun u => vs.length - u.1) ?_ (0, _) ⟨by simp, by simpa using hR⟩
  rintro ⟨j, H2⟩ ⟨hj, g1⟩ ih
  simp only at hj g1 ih ⊢
  repeat (first
    | (refine AWP_seq (AWP_regS tOk rfl ?_); simp)
    | (refine AWP_regS tOk rfl ?_; simp)
    | (refine AWP_skip ?_; simp)
    | (refine AWP_exit ?_; simp)
    | (refine AWP_ret ?_; simp)
    | refine AWP_block ?_
    | refine AWP_seq ?_)
  refine AWP_cond2 rfl (fun hlt => ?_) (fun hge => ?_)
  · have hlt' : j < vs.length := by simpa using hlt
    have hltf : j < fs.length := by omega
    have hw : IntKind.i64.wrap ((j : Int) + 1) = j + 1 := wrap_i64 _ (by omega) (by omega)
    rw [drop_get hlt', drop_get hltf, valsR] at g1
    repeat (first
      | (refine AWP_seq (AWP_regS tOk rfl ?_); simp [hlt'])
      | (refine AWP_regS tOk rfl ?_; simp [hlt'])
      | (refine AWP_skip ?_; simp [hlt'])
      | (refine AWP_exit ?_; simp [hlt'])
      | (refine AWP_ret ?_; simp [hlt'])
      | refine AWP_block ?_
      | refine AWP_seq ?_)
    refine AStep_PC rfl rfl (by simp) (pc_Check vs[j]) rfl ?_
    rintro _ rfl
    simp
    repeat (first
      | (refine AWP_seq (AWP_regS tOk rfl ?_); simp)
      | (refine AWP_regS tOk rfl ?_; simp)
      | (refine AWP_skip ?_; simp)
      | (refine AWP_exit ?_; simp)
      | (refine AWP_ret ?_; simp)
      | refine AWP_block ?_
      | refine AWP_seq ?_)
    refine AWP_cond2 rfl (fun h4 => ?_) (fun h4 => ?_)
    · repeat (first
        | (refine AWP_seq (AWP_regS tOk rfl ?_); simp)
        | (refine AWP_regS tOk rfl ?_; simp)
        | (refine AWP_skip ?_; simp)
        | (refine AWP_exit ?_; simp)
        | (refine AWP_ret ?_; simp)
        | refine AWP_block ?_
        | refine AWP_seq ?_)
      rw [if_pos (by simpa using h4)] at g1
      exact g1
    rw [if_neg (by simpa using h4)] at g1
    repeat (first
      | (refine AWP_seq (AWP_regS tOk rfl ?_); simp)
      | (refine AWP_regS tOk rfl ?_; simp)
      | (refine AWP_skip ?_; simp)
      | (refine AWP_exit ?_; simp)
      | (refine AWP_ret ?_; simp)
      | refine AWP_block ?_
      | refine AWP_seq ?_)
    refine AWP_drawT tOk mixed [] (.val 0 (.val 1 (.val 2 (.val 3 (.val 4 (.val 5 (.val 6 (.val 7 (.done))))))))) rfl (by kernel_rfl) ?_
    simp [hlt', hltf]
    repeat (first
      | (refine AWP_seq (AWP_regS tOk rfl ?_); simp)
      | (refine AWP_regS tOk rfl ?_; simp)
      | (refine AWP_skip ?_; simp)
      | (refine AWP_exit ?_; simp)
      | (refine AWP_ret ?_; simp)
      | refine AWP_block ?_
      | refine AWP_seq ?_)
    refine AWP_cond2 rfl (fun h5 => ?_) (fun h5 => ?_)
    · repeat (first
        | (refine AWP_seq (AWP_regS tOk rfl ?_); simp)
        | (refine AWP_regS tOk rfl ?_; simp)
        | (refine AWP_skip ?_; simp)
        | (refine AWP_exit ?_; simp)
        | (refine AWP_ret ?_; simp)
        | refine AWP_block ?_
        | refine AWP_seq ?_)
      rw [if_pos (by simpa using h5)] at g1
      exact g1
    rw [if_neg (by simpa using h5)] at g1
    repeat (first
      | (refine AWP_seq (AWP_regS tOk rfl ?_); simp [hw])
      | (refine AWP_regS tOk rfl ?_; simp [hw])
      | (refine AWP_skip ?_; simp [hw])
      | (refine AWP_exit ?_; simp [hw])
      | (refine AWP_ret ?_; simp [hw])
      | refine AWP_block ?_
      | refine AWP_seq ?_)
    exact ALoop_keep (sl' := [(6, .list (fs.map encF)), (38, .list (vs.map encV)), (39, .i vs.length), (40, .i (j + 1 : Nat))]) (ih (j + 1, _) ⟨by simp; omega, g1⟩ (by simp; omega)) (by simp)
  · have hge' : j = vs.length := by simp at hge; omega
    subst hge'
    rw [List.drop_length, valsR] at g1
    repeat (first
      | (refine AWP_seq (AWP_regS tOk rfl ?_); simp)
      | (refine AWP_regS tOk rfl ?_; simp)
      | (refine AWP_skip ?_; simp)
      | (refine AWP_exit ?_; simp)
      | (refine AWP_ret ?_; simp)
      | refine AWP_block ?_
      | refine AWP_seq ?_)
    · exact g1
    · intro v vs' f fs' h1 h2; cases h1
def ckEv (l : List Sch) (e : Ev) : Int := if ckSchs l ≠ 0 then ckSchs l else validR l e
theorem ckSch_fields {s : Sch} (h : ckSch s = 0) : s.fields.length ≤ 8 := by
  unfold ckSch at h
  by_cases hn : nameR s.name = false
  · rw [if_pos hn] at h; cases h
  · rw [if_neg hn] at h
    by_cases h8 : 8 < s.fields.length
    · rw [if_pos h8] at h; cases h
    · omega
theorem schsR_all : ∀ (l : List Sch) (seen : List (List UInt8)), schsR seen l = 0 → ∀ s ∈ l, ckSch s = 0
  | [], _, _, s, hs => by simp at hs
  | x :: r, seen, h, s, hs => by
    rw [schsR] at h
    by_cases hx : ckSch x ≠ 0
    · rw [if_pos hx] at h; exact absurd h hx
    · rw [if_neg hx] at h
      by_cases hm : x.name ∈ seen
      · rw [if_pos hm] at h; cases h
      · rw [if_neg hm] at h
        rcases List.mem_cons.1 hs with rfl | hs
        · simpa using hx
        · exact schsR_all r _ h s hs
theorem ckSchs_all {l : List Sch} (h : ckSchs l = 0) : ∀ s ∈ l, ckSch s = 0 := by
  unfold ckSchs at h
  by_cases h16 : 16 < l.length
  · rw [if_pos h16] at h; cases h
  · rw [if_neg h16] at h; exact schsR_all l [] h
attribute [local irreducible] ckSchs validR
theorem ckSchs_len {l : List Sch} (h : ckSchs l = 0) : l.length ≤ 16 := by
  unfold ckSchs at h
  by_cases h16 : 16 < l.length
  · rw [if_pos h16] at h; cases h
  · omega
theorem pc_eCheck (l : List Sch) (e : Ev) : PC Tryz.prog 6 [.list (l.map encSch), encE e] (fun r => r = .i (ckEv l e)) := by
  refine PC_body tOk Tryz.func6 rfl Tryz.results6 rfl (by simp [Tryz.ntmps6]) ?_
  rw [Tryz.ntmps6]
  simp only [argSlots]
  obtain ⟨R, hR⟩ : ∃ R, ckEv l e = R := ⟨_, rfl⟩
  rw [hR]
  rw [ckEv] at hR
  repeat (first
    | (refine AWP_seq (AWP_regS tOk rfl ?_); simp)
    | (refine AWP_regS tOk rfl ?_; simp)
    | (refine AWP_skip ?_; simp)
    | (refine AWP_exit ?_; simp)
    | (refine AWP_ret ?_; simp)
    | refine AWP_block ?_
    | refine AWP_seq ?_)
  refine AStep_PC rfl rfl (by simp) (pc_sCheckAll l) rfl ?_
  rintro _ rfl
  simp
  repeat (first
    | (refine AWP_seq (AWP_regS tOk rfl ?_); simp)
    | (refine AWP_regS tOk rfl ?_; simp)
    | (refine AWP_skip ?_; simp)
    | (refine AWP_exit ?_; simp)
    | (refine AWP_ret ?_; simp)
    | refine AWP_block ?_
    | refine AWP_seq ?_)
  refine AWP_cond2 rfl (fun h => ?_) (fun h => ?_)
  · repeat (first
      | (refine AWP_seq (AWP_regS tOk rfl ?_); simp)
      | (refine AWP_regS tOk rfl ?_; simp)
      | (refine AWP_skip ?_; simp)
      | (refine AWP_exit ?_; simp)
      | (refine AWP_ret ?_; simp)
      | refine AWP_block ?_
      | refine AWP_seq ?_)
    rw [if_pos (by simpa using h)] at hR
    exact hR
  rw [if_neg (by simpa using h)] at hR
  have hl := ckSchs_len (l := l) (by simpa using h)
  repeat (first
    | (refine AWP_seq (AWP_regS tOk rfl ?_); simp)
    | (refine AWP_regS tOk rfl ?_; simp)
    | (refine AWP_skip ?_; simp)
    | (refine AWP_exit ?_; simp)
    | (refine AWP_ret ?_; simp)
    | refine AWP_block ?_
    | refine AWP_seq ?_)
  refine AStep_PC rfl rfl (by simp) (pc_evalid l e (by omega) (fun s hs => ckSch_fields (ckSchs_all (by simpa using h) s hs))) rfl ?_
  rintro _ rfl
  simp
  repeat (first
    | (refine AWP_seq (AWP_regS tOk rfl ?_); simp)
    | (refine AWP_regS tOk rfl ?_; simp)
    | (refine AWP_skip ?_; simp)
    | (refine AWP_exit ?_; simp)
    | (refine AWP_ret ?_; simp)
    | refine AWP_block ?_
    | refine AWP_seq ?_)
  exact hR
end Go.Abs
