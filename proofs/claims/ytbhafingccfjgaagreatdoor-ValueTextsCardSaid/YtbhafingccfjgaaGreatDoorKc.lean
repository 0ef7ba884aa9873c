/- The types of the program, as the abstract machine is told of them. -/
import Derived.Test.YtbhafingccfjgaaGreatDoorKb
import Derived.Test.YtbhafingccfjgaaGreatDoorChecked
import Derived.KernelRfl
import Derived.Lib.LaidTab
import Derived.Lib.ItoaNum
import Derived.Shelf.Small.Strs
import Derived.Shelf.LaysM
import Derived.Shelf.Strconv.Itoa3
import Derived.Test.YtbhafingccfjgaaGreatDoorProg
import Derived.Lib.AppendIntMem
set_option linter.all false
set_option maxRecDepth 100000
namespace Go.Abs
open Go Go.Proofs

def T : TT := [
  (2, { desc := .int .i64, zero := (.int .i64 0), size := 1, bytes := 8 }),
  (3, { desc := .int .i64, zero := (.int .i64 0), size := 1, bytes := 8 }),
  (4, { desc := .bool, zero := (.bool false), size := 1, bytes := 1 }),
  (5, { desc := .int .u8, zero := (.int .u8 0), size := 1, bytes := 1 }),
  (9, { desc := .string, zero := (.string ⟨#[]⟩), size := 1, bytes := 16 }),
  (21, { desc := .int .i32, zero := (.int .i32 0), size := 1, bytes := 4 }),
  (23, { desc := .struct #[{ name := "Kind", type := 3, offset := 0, embedded := false, tag := "", pkgPath := "", byteOffset := 0 }, { name := "Num", type := 3, offset := 1, embedded := false, tag := "", pkgPath := "", byteOffset := 8 }, { name := "Text", type := 9, offset := 2, embedded := false, tag := "", pkgPath := "", byteOffset := 16 }], zero := (.agg #[(.int .i64 0), (.int .i64 0), (.string ⟨#[]⟩)]), size := 3, bytes := 32, eqv := true }),
  (25, { desc := .int .i64, zero := (.int .i64 0), size := 1, bytes := 8 }),
  (38, { desc := .func #[23, 23] #[3] false, zero := .nilFunc, size := 1, bytes := 8 }),
  (53, { desc := .slice 5, zero := (.slice none 0 0), size := 1, bytes := 24 }),
  (54, { desc := .int .u32, zero := (.int .u32 0), size := 1, bytes := 4 }),
  (56, { desc := .slice 38, zero := (.slice none 0 0), size := 1, bytes := 24 }),
  (60, { desc := .struct #[{ name := "rest", type := 9, offset := 0, embedded := false, tag := "", pkgPath := "tidegate/value", byteOffset := 0 }, { name := "out", type := 53, offset := 1, embedded := false, tag := "", pkgPath := "tidegate/value", byteOffset := 16 }], zero := (.agg #[(.string ⟨#[]⟩), (.slice none 0 0)]), size := 2, bytes := 40 }),
  (64, { desc := .interface #[("Error", 75)], zero := .nilIface, size := 1, bytes := 16 }),
  (70, { desc := .pointer 72, zero := (.pointer none), size := 1, bytes := 8 }),
  (72, { desc := .struct #[{ name := "addr", type := 70, offset := 0, embedded := false, tag := "", pkgPath := "strings", byteOffset := 0 }, { name := "buf", type := 53, offset := 1, embedded := false, tag := "", pkgPath := "strings", byteOffset := 8 }], zero := (.agg #[(.pointer none), (.slice none 0 0)]), size := 2, bytes := 32 }),
  (74, { desc := .int .u64, zero := (.int .u64 0), size := 1, bytes := 8 }),
  (80, { desc := .array 256 4, zero := (.agg #[(.bool false), (.bool false), (.bool false), (.bool false), (.bool false), (.bool false), (.bool false), (.bool false), (.bool false), (.bool false), (.bool false), (.bool false), (.bool false), (.bool false), (.bool false), (.bool false), (.bool false), (.bool false), (.bool false), (.bool false), (.bool false), (.bool false), (.bool false), (.bool false), (.bool false), (.bool false), (.bool false), (.bool false), (.bool false), (.bool false), (.bool false), (.bool false), (.bool false), (.bool false), (.bool false), (.bool false), (.bool false), (.bool false), (.bool false), (.bool false), (.bool false), (.bool false), (.bool false), (.bool false), (.bool false), (.bool false), (.bool false), (.bool false), (.bool false), (.bool false), (.bool false), (.bool false), (.bool false), (.bool false), (.bool false), (.bool false), (.bool false), (.bool false), (.bool false), (.bool false), (.bool false), (.bool false), (.bool false), (.bool false), (.bool false), (.bool false), (.bool false), (.bool false), (.bool false), (.bool false), (.bool false), (.bool false), (.bool false), (.bool false), (.bool false), (.bool false), (.bool false), (.bool false), (.bool false), (.bool false), (.bool false), (.bool false), (.bool false), (.bool false), (.bool false), (.bool false), (.bool false), (.bool false), (.bool false), (.bool false), (.bool false), (.bool false), (.bool false), (.bool false), (.bool false), (.bool false), (.bool false), (.bool false), (.bool false), (.bool false), (.bool false), (.bool false), (.bool false), (.bool false), (.bool false), (.bool false), (.bool false), (.bool false), (.bool false), (.bool false), (.bool false), (.bool false), (.bool false), (.bool false), (.bool false), (.bool false), (.bool false), (.bool false), (.bool false), (.bool false), (.bool false), (.bool false), (.bool false), (.bool false), (.bool false), (.bool false), (.bool false), (.bool false), (.bool false), (.bool false), (.bool false), (.bool false), (.bool false), (.bool false), (.bool false), (.bool false), (.bool false), (.bool false), (.bool false), (.bool false), (.bool false), (.bool false), (.bool false), (.bool false), (.bool false), (.bool false), (.bool false), (.bool false), (.bool false), (.bool false), (.bool false), (.bool false), (.bool false), (.bool false), (.bool false), (.bool false), (.bool false), (.bool false), (.bool false), (.bool false), (.bool false), (.bool false), (.bool false), (.bool false), (.bool false), (.bool false), (.bool false), (.bool false), (.bool false), (.bool false), (.bool false), (.bool false), (.bool false), (.bool false), (.bool false), (.bool false), (.bool false), (.bool false), (.bool false), (.bool false), (.bool false), (.bool false), (.bool false), (.bool false), (.bool false), (.bool false), (.bool false), (.bool false), (.bool false), (.bool false), (.bool false), (.bool false), (.bool false), (.bool false), (.bool false), (.bool false), (.bool false), (.bool false), (.bool false), (.bool false), (.bool false), (.bool false), (.bool false), (.bool false), (.bool false), (.bool false), (.bool false), (.bool false), (.bool false), (.bool false), (.bool false), (.bool false), (.bool false), (.bool false), (.bool false), (.bool false), (.bool false), (.bool false), (.bool false), (.bool false), (.bool false), (.bool false), (.bool false), (.bool false), (.bool false), (.bool false), (.bool false), (.bool false), (.bool false), (.bool false), (.bool false), (.bool false), (.bool false), (.bool false), (.bool false), (.bool false), (.bool false), (.bool false), (.bool false), (.bool false), (.bool false), (.bool false), (.bool false), (.bool false), (.bool false), (.bool false), (.bool false), (.bool false), (.bool false), (.bool false), (.bool false), (.bool false), (.bool false), (.bool false), (.bool false), (.bool false)]), size := 256, bytes := 256 }),
  (84, { desc := .pointer 80, zero := (.pointer none), size := 1, bytes := 8 }),
  (87, { desc := .pointer 5, zero := (.pointer none), size := 1, bytes := 8 }),
  (96, { desc := .pointer 111, zero := (.pointer none), size := 1, bytes := 8 }),
  (99, { desc := .array 24 5, zero := (.agg #[(.int .u8 0), (.int .u8 0), (.int .u8 0), (.int .u8 0), (.int .u8 0), (.int .u8 0), (.int .u8 0), (.int .u8 0), (.int .u8 0), (.int .u8 0), (.int .u8 0), (.int .u8 0), (.int .u8 0), (.int .u8 0), (.int .u8 0), (.int .u8 0), (.int .u8 0), (.int .u8 0), (.int .u8 0), (.int .u8 0), (.int .u8 0), (.int .u8 0), (.int .u8 0), (.int .u8 0)]), size := 24, bytes := 24 }),
  (100, { desc := .int .u64, zero := (.int .u64 0), size := 1, bytes := 8 }),
  (105, { desc := .unsafePointer, zero := (.pointer none), size := 1, bytes := 8 }),
  (111, { desc := .struct #[{ name := "Func", type := 9, offset := 0, embedded := false, tag := "", pkgPath := "", byteOffset := 0 }, { name := "Num", type := 9, offset := 1, embedded := false, tag := "", pkgPath := "", byteOffset := 16 }, { name := "Err", type := 64, offset := 2, embedded := false, tag := "", pkgPath := "", byteOffset := 32 }], zero := (.agg #[(.string ⟨#[]⟩), (.string ⟨#[]⟩), .nilIface]), size := 3, bytes := 48 }),
  (115, { desc := .array 20 100, zero := (.agg #[(.int .u64 0), (.int .u64 0), (.int .u64 0), (.int .u64 0), (.int .u64 0), (.int .u64 0), (.int .u64 0), (.int .u64 0), (.int .u64 0), (.int .u64 0), (.int .u64 0), (.int .u64 0), (.int .u64 0), (.int .u64 0), (.int .u64 0), (.int .u64 0), (.int .u64 0), (.int .u64 0), (.int .u64 0), (.int .u64 0)]), size := 20, bytes := 160 }),
  (116, { desc := .array 65 5, zero := (.agg #[(.int .u8 0), (.int .u8 0), (.int .u8 0), (.int .u8 0), (.int .u8 0), (.int .u8 0), (.int .u8 0), (.int .u8 0), (.int .u8 0), (.int .u8 0), (.int .u8 0), (.int .u8 0), (.int .u8 0), (.int .u8 0), (.int .u8 0), (.int .u8 0), (.int .u8 0), (.int .u8 0), (.int .u8 0), (.int .u8 0), (.int .u8 0), (.int .u8 0), (.int .u8 0), (.int .u8 0), (.int .u8 0), (.int .u8 0), (.int .u8 0), (.int .u8 0), (.int .u8 0), (.int .u8 0), (.int .u8 0), (.int .u8 0), (.int .u8 0), (.int .u8 0), (.int .u8 0), (.int .u8 0), (.int .u8 0), (.int .u8 0), (.int .u8 0), (.int .u8 0), (.int .u8 0), (.int .u8 0), (.int .u8 0), (.int .u8 0), (.int .u8 0), (.int .u8 0), (.int .u8 0), (.int .u8 0), (.int .u8 0), (.int .u8 0), (.int .u8 0), (.int .u8 0), (.int .u8 0), (.int .u8 0), (.int .u8 0), (.int .u8 0), (.int .u8 0), (.int .u8 0), (.int .u8 0), (.int .u8 0), (.int .u8 0), (.int .u8 0), (.int .u8 0), (.int .u8 0), (.int .u8 0)]), size := 65, bytes := 65 }),
  (118, { desc := .array 256 5, zero := (.agg #[(.int .u8 0), (.int .u8 0), (.int .u8 0), (.int .u8 0), (.int .u8 0), (.int .u8 0), (.int .u8 0), (.int .u8 0), (.int .u8 0), (.int .u8 0), (.int .u8 0), (.int .u8 0), (.int .u8 0), (.int .u8 0), (.int .u8 0), (.int .u8 0), (.int .u8 0), (.int .u8 0), (.int .u8 0), (.int .u8 0), (.int .u8 0), (.int .u8 0), (.int .u8 0), (.int .u8 0), (.int .u8 0), (.int .u8 0), (.int .u8 0), (.int .u8 0), (.int .u8 0), (.int .u8 0), (.int .u8 0), (.int .u8 0), (.int .u8 0), (.int .u8 0), (.int .u8 0), (.int .u8 0), (.int .u8 0), (.int .u8 0), (.int .u8 0), (.int .u8 0), (.int .u8 0), (.int .u8 0), (.int .u8 0), (.int .u8 0), (.int .u8 0), (.int .u8 0), (.int .u8 0), (.int .u8 0), (.int .u8 0), (.int .u8 0), (.int .u8 0), (.int .u8 0), (.int .u8 0), (.int .u8 0), (.int .u8 0), (.int .u8 0), (.int .u8 0), (.int .u8 0), (.int .u8 0), (.int .u8 0), (.int .u8 0), (.int .u8 0), (.int .u8 0), (.int .u8 0), (.int .u8 0), (.int .u8 0), (.int .u8 0), (.int .u8 0), (.int .u8 0), (.int .u8 0), (.int .u8 0), (.int .u8 0), (.int .u8 0), (.int .u8 0), (.int .u8 0), (.int .u8 0), (.int .u8 0), (.int .u8 0), (.int .u8 0), (.int .u8 0), (.int .u8 0), (.int .u8 0), (.int .u8 0), (.int .u8 0), (.int .u8 0), (.int .u8 0), (.int .u8 0), (.int .u8 0), (.int .u8 0), (.int .u8 0), (.int .u8 0), (.int .u8 0), (.int .u8 0), (.int .u8 0), (.int .u8 0), (.int .u8 0), (.int .u8 0), (.int .u8 0), (.int .u8 0), (.int .u8 0), (.int .u8 0), (.int .u8 0), (.int .u8 0), (.int .u8 0), (.int .u8 0), (.int .u8 0), (.int .u8 0), (.int .u8 0), (.int .u8 0), (.int .u8 0), (.int .u8 0), (.int .u8 0), (.int .u8 0), (.int .u8 0), (.int .u8 0), (.int .u8 0), (.int .u8 0), (.int .u8 0), (.int .u8 0), (.int .u8 0), (.int .u8 0), (.int .u8 0), (.int .u8 0), (.int .u8 0), (.int .u8 0), (.int .u8 0), (.int .u8 0), (.int .u8 0), (.int .u8 0), (.int .u8 0), (.int .u8 0), (.int .u8 0), (.int .u8 0), (.int .u8 0), (.int .u8 0), (.int .u8 0), (.int .u8 0), (.int .u8 0), (.int .u8 0), (.int .u8 0), (.int .u8 0), (.int .u8 0), (.int .u8 0), (.int .u8 0), (.int .u8 0), (.int .u8 0), (.int .u8 0), (.int .u8 0), (.int .u8 0), (.int .u8 0), (.int .u8 0), (.int .u8 0), (.int .u8 0), (.int .u8 0), (.int .u8 0), (.int .u8 0), (.int .u8 0), (.int .u8 0), (.int .u8 0), (.int .u8 0), (.int .u8 0), (.int .u8 0), (.int .u8 0), (.int .u8 0), (.int .u8 0), (.int .u8 0), (.int .u8 0), (.int .u8 0), (.int .u8 0), (.int .u8 0), (.int .u8 0), (.int .u8 0), (.int .u8 0), (.int .u8 0), (.int .u8 0), (.int .u8 0), (.int .u8 0), (.int .u8 0), (.int .u8 0), (.int .u8 0), (.int .u8 0), (.int .u8 0), (.int .u8 0), (.int .u8 0), (.int .u8 0), (.int .u8 0), (.int .u8 0), (.int .u8 0), (.int .u8 0), (.int .u8 0), (.int .u8 0), (.int .u8 0), (.int .u8 0), (.int .u8 0), (.int .u8 0), (.int .u8 0), (.int .u8 0), (.int .u8 0), (.int .u8 0), (.int .u8 0), (.int .u8 0), (.int .u8 0), (.int .u8 0), (.int .u8 0), (.int .u8 0), (.int .u8 0), (.int .u8 0), (.int .u8 0), (.int .u8 0), (.int .u8 0), (.int .u8 0), (.int .u8 0), (.int .u8 0), (.int .u8 0), (.int .u8 0), (.int .u8 0), (.int .u8 0), (.int .u8 0), (.int .u8 0), (.int .u8 0), (.int .u8 0), (.int .u8 0), (.int .u8 0), (.int .u8 0), (.int .u8 0), (.int .u8 0), (.int .u8 0), (.int .u8 0), (.int .u8 0), (.int .u8 0), (.int .u8 0), (.int .u8 0), (.int .u8 0), (.int .u8 0), (.int .u8 0), (.int .u8 0), (.int .u8 0), (.int .u8 0), (.int .u8 0), (.int .u8 0), (.int .u8 0), (.int .u8 0), (.int .u8 0), (.int .u8 0), (.int .u8 0), (.int .u8 0), (.int .u8 0), (.int .u8 0), (.int .u8 0), (.int .u8 0), (.int .u8 0), (.int .u8 0), (.int .u8 0), (.int .u8 0), (.int .u8 0), (.int .u8 0)]), size := 256, bytes := 256 }),
  (120, { desc := .struct #[{ name := "lo", type := 5, offset := 0, embedded := false, tag := "", pkgPath := "unicode/utf8", byteOffset := 0 }, { name := "hi", type := 5, offset := 1, embedded := false, tag := "", pkgPath := "unicode/utf8", byteOffset := 1 }], zero := (.agg #[(.int .u8 0), (.int .u8 0)]), size := 2, bytes := 2, eqv := true }),
  (121, { desc := .array 16 120, zero := (.agg #[(.int .u8 0), (.int .u8 0), (.int .u8 0), (.int .u8 0), (.int .u8 0), (.int .u8 0), (.int .u8 0), (.int .u8 0), (.int .u8 0), (.int .u8 0), (.int .u8 0), (.int .u8 0), (.int .u8 0), (.int .u8 0), (.int .u8 0), (.int .u8 0), (.int .u8 0), (.int .u8 0), (.int .u8 0), (.int .u8 0), (.int .u8 0), (.int .u8 0), (.int .u8 0), (.int .u8 0), (.int .u8 0), (.int .u8 0), (.int .u8 0), (.int .u8 0), (.int .u8 0), (.int .u8 0), (.int .u8 0), (.int .u8 0)]), size := 32, bytes := 32 }),
  (127, { desc := .struct #[{ name := "s", type := 9, offset := 0, embedded := false, tag := "", pkgPath := "errors", byteOffset := 0 }], zero := (.agg #[(.string ⟨#[]⟩)]), size := 1, bytes := 16, eqv := true }),
  (129, { desc := .array 32 5, zero := (.agg #[(.int .u8 0), (.int .u8 0), (.int .u8 0), (.int .u8 0), (.int .u8 0), (.int .u8 0), (.int .u8 0), (.int .u8 0), (.int .u8 0), (.int .u8 0), (.int .u8 0), (.int .u8 0), (.int .u8 0), (.int .u8 0), (.int .u8 0), (.int .u8 0), (.int .u8 0), (.int .u8 0), (.int .u8 0), (.int .u8 0), (.int .u8 0), (.int .u8 0), (.int .u8 0), (.int .u8 0), (.int .u8 0), (.int .u8 0), (.int .u8 0), (.int .u8 0), (.int .u8 0), (.int .u8 0), (.int .u8 0), (.int .u8 0)]), size := 32, bytes := 32 }),
  (130, { desc := .array 64 5, zero := (.agg #[(.int .u8 0), (.int .u8 0), (.int .u8 0), (.int .u8 0), (.int .u8 0), (.int .u8 0), (.int .u8 0), (.int .u8 0), (.int .u8 0), (.int .u8 0), (.int .u8 0), (.int .u8 0), (.int .u8 0), (.int .u8 0), (.int .u8 0), (.int .u8 0), (.int .u8 0), (.int .u8 0), (.int .u8 0), (.int .u8 0), (.int .u8 0), (.int .u8 0), (.int .u8 0), (.int .u8 0), (.int .u8 0), (.int .u8 0), (.int .u8 0), (.int .u8 0), (.int .u8 0), (.int .u8 0), (.int .u8 0), (.int .u8 0), (.int .u8 0), (.int .u8 0), (.int .u8 0), (.int .u8 0), (.int .u8 0), (.int .u8 0), (.int .u8 0), (.int .u8 0), (.int .u8 0), (.int .u8 0), (.int .u8 0), (.int .u8 0), (.int .u8 0), (.int .u8 0), (.int .u8 0), (.int .u8 0), (.int .u8 0), (.int .u8 0), (.int .u8 0), (.int .u8 0), (.int .u8 0), (.int .u8 0), (.int .u8 0), (.int .u8 0), (.int .u8 0), (.int .u8 0), (.int .u8 0), (.int .u8 0), (.int .u8 0), (.int .u8 0), (.int .u8 0), (.int .u8 0)]), size := 64, bytes := 64 })]

def OkRow (P : Program) (T : TT) (t : Nat) (i : TI) : Prop := P.underlying t = some i.desc ∧ (P.info? t).map (fun j => (j.zero, j.size, j.bytes)) = some (some i.zero, i.size, i.bytes) ∧
  (i.eqv = true → P.stoodInHeld t = false ∧ P.eqGuardType P.depth t = false) ∧ (∀ fs, i.desc = .struct fs → fieldsKnown T fs = true)

theorem row2 : OkRow Tryz.prog T 2 { desc := .int .i64, zero := (.int .i64 0), size := 1, bytes := 8 } :=
  ⟨by kernel_rfl, by kernel_rfl, fun h => (by cases h), fun fs h => (by cases h)⟩
theorem row3 : OkRow Tryz.prog T 3 { desc := .int .i64, zero := (.int .i64 0), size := 1, bytes := 8 } :=
  ⟨by kernel_rfl, by kernel_rfl, fun h => (by cases h), fun fs h => (by cases h)⟩
theorem row4 : OkRow Tryz.prog T 4 { desc := .bool, zero := (.bool false), size := 1, bytes := 1 } :=
  ⟨by kernel_rfl, by kernel_rfl, fun h => (by cases h), fun fs h => (by cases h)⟩
theorem row5 : OkRow Tryz.prog T 5 { desc := .int .u8, zero := (.int .u8 0), size := 1, bytes := 1 } :=
  ⟨by kernel_rfl, by kernel_rfl, fun h => (by cases h), fun fs h => (by cases h)⟩
theorem row9 : OkRow Tryz.prog T 9 { desc := .string, zero := (.string ⟨#[]⟩), size := 1, bytes := 16 } :=
  ⟨by kernel_rfl, by kernel_rfl, fun h => (by cases h), fun fs h => (by cases h)⟩
theorem row21 : OkRow Tryz.prog T 21 { desc := .int .i32, zero := (.int .i32 0), size := 1, bytes := 4 } :=
  ⟨by kernel_rfl, by kernel_rfl, fun h => (by cases h), fun fs h => (by cases h)⟩
theorem row23 : OkRow Tryz.prog T 23 { desc := .struct #[{ name := "Kind", type := 3, offset := 0, embedded := false, tag := "", pkgPath := "", byteOffset := 0 }, { name := "Num", type := 3, offset := 1, embedded := false, tag := "", pkgPath := "", byteOffset := 8 }, { name := "Text", type := 9, offset := 2, embedded := false, tag := "", pkgPath := "", byteOffset := 16 }], zero := (.agg #[(.int .i64 0), (.int .i64 0), (.string ⟨#[]⟩)]), size := 3, bytes := 32, eqv := true } :=
  ⟨by kernel_rfl, by kernel_rfl, fun _ => ⟨by kernel_rfl, by kernel_rfl⟩, fun fs h => (by cases h; kernel_rfl)⟩
theorem row25 : OkRow Tryz.prog T 25 { desc := .int .i64, zero := (.int .i64 0), size := 1, bytes := 8 } :=
  ⟨by kernel_rfl, by kernel_rfl, fun h => (by cases h), fun fs h => (by cases h)⟩
theorem row38 : OkRow Tryz.prog T 38 { desc := .func #[23, 23] #[3] false, zero := .nilFunc, size := 1, bytes := 8 } :=
  ⟨by kernel_rfl, by kernel_rfl, fun h => (by cases h), fun fs h => (by cases h)⟩
theorem row53 : OkRow Tryz.prog T 53 { desc := .slice 5, zero := (.slice none 0 0), size := 1, bytes := 24 } :=
  ⟨by kernel_rfl, by kernel_rfl, fun h => (by cases h), fun fs h => (by cases h)⟩
theorem row54 : OkRow Tryz.prog T 54 { desc := .int .u32, zero := (.int .u32 0), size := 1, bytes := 4 } :=
  ⟨by kernel_rfl, by kernel_rfl, fun h => (by cases h), fun fs h => (by cases h)⟩
theorem row56 : OkRow Tryz.prog T 56 { desc := .slice 38, zero := (.slice none 0 0), size := 1, bytes := 24 } :=
  ⟨by kernel_rfl, by kernel_rfl, fun h => (by cases h), fun fs h => (by cases h)⟩
theorem row60 : OkRow Tryz.prog T 60 { desc := .struct #[{ name := "rest", type := 9, offset := 0, embedded := false, tag := "", pkgPath := "tidegate/value", byteOffset := 0 }, { name := "out", type := 53, offset := 1, embedded := false, tag := "", pkgPath := "tidegate/value", byteOffset := 16 }], zero := (.agg #[(.string ⟨#[]⟩), (.slice none 0 0)]), size := 2, bytes := 40 } :=
  ⟨by kernel_rfl, by kernel_rfl, fun h => (by cases h), fun fs h => (by cases h; kernel_rfl)⟩
theorem row64 : OkRow Tryz.prog T 64 { desc := .interface #[("Error", 75)], zero := .nilIface, size := 1, bytes := 16 } :=
  ⟨by kernel_rfl, by kernel_rfl, fun h => (by cases h), fun fs h => (by cases h)⟩
theorem row70 : OkRow Tryz.prog T 70 { desc := .pointer 72, zero := (.pointer none), size := 1, bytes := 8 } :=
  ⟨by kernel_rfl, by kernel_rfl, fun h => (by cases h), fun fs h => (by cases h)⟩
theorem row72 : OkRow Tryz.prog T 72 { desc := .struct #[{ name := "addr", type := 70, offset := 0, embedded := false, tag := "", pkgPath := "strings", byteOffset := 0 }, { name := "buf", type := 53, offset := 1, embedded := false, tag := "", pkgPath := "strings", byteOffset := 8 }], zero := (.agg #[(.pointer none), (.slice none 0 0)]), size := 2, bytes := 32 } :=
  ⟨by kernel_rfl, by kernel_rfl, fun h => (by cases h), fun fs h => (by cases h; kernel_rfl)⟩
theorem row74 : OkRow Tryz.prog T 74 { desc := .int .u64, zero := (.int .u64 0), size := 1, bytes := 8 } :=
  ⟨by kernel_rfl, by kernel_rfl, fun h => (by cases h), fun fs h => (by cases h)⟩
theorem row80 : OkRow Tryz.prog T 80 { desc := .array 256 4, zero := (.agg #[(.bool false), (.bool false), (.bool false), (.bool false), (.bool false), (.bool false), (.bool false), (.bool false), (.bool false), (.bool false), (.bool false), (.bool false), (.bool false), (.bool false), (.bool false), (.bool false), (.bool false), (.bool false), (.bool false), (.bool false), (.bool false), (.bool false), (.bool false), (.bool false), (.bool false), (.bool false), (.bool false), (.bool false), (.bool false), (.bool false), (.bool false), (.bool false), (.bool false), (.bool false), (.bool false), (.bool false), (.bool false), (.bool false), (.bool false), (.bool false), (.bool false), (.bool false), (.bool false), (.bool false), (.bool false), (.bool false), (.bool false), (.bool false), (.bool false), (.bool false), (.bool false), (.bool false), (.bool false), (.bool false), (.bool false), (.bool false), (.bool false), (.bool false), (.bool false), (.bool false), (.bool false), (.bool false), (.bool false), (.bool false), (.bool false), (.bool false), (.bool false), (.bool false), (.bool false), (.bool false), (.bool false), (.bool false), (.bool false), (.bool false), (.bool false), (.bool false), (.bool false), (.bool false), (.bool false), (.bool false), (.bool false), (.bool false), (.bool false), (.bool false), (.bool false), (.bool false), (.bool false), (.bool false), (.bool false), (.bool false), (.bool false), (.bool false), (.bool false), (.bool false), (.bool false), (.bool false), (.bool false), (.bool false), (.bool false), (.bool false), (.bool false), (.bool false), (.bool false), (.bool false), (.bool false), (.bool false), (.bool false), (.bool false), (.bool false), (.bool false), (.bool false), (.bool false), (.bool false), (.bool false), (.bool false), (.bool false), (.bool false), (.bool false), (.bool false), (.bool false), (.bool false), (.bool false), (.bool false), (.bool false), (.bool false), (.bool false), (.bool false), (.bool false), (.bool false), (.bool false), (.bool false), (.bool false), (.bool false), (.bool false), (.bool false), (.bool false), (.bool false), (.bool false), (.bool false), (.bool false), (.bool false), (.bool false), (.bool false), (.bool false), (.bool false), (.bool false), (.bool false), (.bool false), (.bool false), (.bool false), (.bool false), (.bool false), (.bool false), (.bool false), (.bool false), (.bool false), (.bool false), (.bool false), (.bool false), (.bool false), (.bool false), (.bool false), (.bool false), (.bool false), (.bool false), (.bool false), (.bool false), (.bool false), (.bool false), (.bool false), (.bool false), (.bool false), (.bool false), (.bool false), (.bool false), (.bool false), (.bool false), (.bool false), (.bool false), (.bool false), (.bool false), (.bool false), (.bool false), (.bool false), (.bool false), (.bool false), (.bool false), (.bool false), (.bool false), (.bool false), (.bool false), (.bool false), (.bool false), (.bool false), (.bool false), (.bool false), (.bool false), (.bool false), (.bool false), (.bool false), (.bool false), (.bool false), (.bool false), (.bool false), (.bool false), (.bool false), (.bool false), (.bool false), (.bool false), (.bool false), (.bool false), (.bool false), (.bool false), (.bool false), (.bool false), (.bool false), (.bool false), (.bool false), (.bool false), (.bool false), (.bool false), (.bool false), (.bool false), (.bool false), (.bool false), (.bool false), (.bool false), (.bool false), (.bool false), (.bool false), (.bool false), (.bool false), (.bool false), (.bool false), (.bool false), (.bool false), (.bool false), (.bool false), (.bool false), (.bool false), (.bool false), (.bool false), (.bool false), (.bool false), (.bool false), (.bool false), (.bool false), (.bool false), (.bool false), (.bool false), (.bool false), (.bool false), (.bool false), (.bool false), (.bool false), (.bool false)]), size := 256, bytes := 256 } :=
  ⟨by kernel_rfl, by kernel_rfl, fun h => (by cases h), fun fs h => (by cases h)⟩
theorem row84 : OkRow Tryz.prog T 84 { desc := .pointer 80, zero := (.pointer none), size := 1, bytes := 8 } :=
  ⟨by kernel_rfl, by kernel_rfl, fun h => (by cases h), fun fs h => (by cases h)⟩
theorem row87 : OkRow Tryz.prog T 87 { desc := .pointer 5, zero := (.pointer none), size := 1, bytes := 8 } :=
  ⟨by kernel_rfl, by kernel_rfl, fun h => (by cases h), fun fs h => (by cases h)⟩
theorem row96 : OkRow Tryz.prog T 96 { desc := .pointer 111, zero := (.pointer none), size := 1, bytes := 8 } :=
  ⟨by kernel_rfl, by kernel_rfl, fun h => (by cases h), fun fs h => (by cases h)⟩
theorem row99 : OkRow Tryz.prog T 99 { desc := .array 24 5, zero := (.agg #[(.int .u8 0), (.int .u8 0), (.int .u8 0), (.int .u8 0), (.int .u8 0), (.int .u8 0), (.int .u8 0), (.int .u8 0), (.int .u8 0), (.int .u8 0), (.int .u8 0), (.int .u8 0), (.int .u8 0), (.int .u8 0), (.int .u8 0), (.int .u8 0), (.int .u8 0), (.int .u8 0), (.int .u8 0), (.int .u8 0), (.int .u8 0), (.int .u8 0), (.int .u8 0), (.int .u8 0)]), size := 24, bytes := 24 } :=
  ⟨by kernel_rfl, by kernel_rfl, fun h => (by cases h), fun fs h => (by cases h)⟩
theorem row100 : OkRow Tryz.prog T 100 { desc := .int .u64, zero := (.int .u64 0), size := 1, bytes := 8 } :=
  ⟨by kernel_rfl, by kernel_rfl, fun h => (by cases h), fun fs h => (by cases h)⟩
theorem row105 : OkRow Tryz.prog T 105 { desc := .unsafePointer, zero := (.pointer none), size := 1, bytes := 8 } :=
  ⟨by kernel_rfl, by kernel_rfl, fun h => (by cases h), fun fs h => (by cases h)⟩
theorem row111 : OkRow Tryz.prog T 111 { desc := .struct #[{ name := "Func", type := 9, offset := 0, embedded := false, tag := "", pkgPath := "", byteOffset := 0 }, { name := "Num", type := 9, offset := 1, embedded := false, tag := "", pkgPath := "", byteOffset := 16 }, { name := "Err", type := 64, offset := 2, embedded := false, tag := "", pkgPath := "", byteOffset := 32 }], zero := (.agg #[(.string ⟨#[]⟩), (.string ⟨#[]⟩), .nilIface]), size := 3, bytes := 48 } :=
  ⟨by kernel_rfl, by kernel_rfl, fun h => (by cases h), fun fs h => (by cases h; kernel_rfl)⟩
theorem row115 : OkRow Tryz.prog T 115 { desc := .array 20 100, zero := (.agg #[(.int .u64 0), (.int .u64 0), (.int .u64 0), (.int .u64 0), (.int .u64 0), (.int .u64 0), (.int .u64 0), (.int .u64 0), (.int .u64 0), (.int .u64 0), (.int .u64 0), (.int .u64 0), (.int .u64 0), (.int .u64 0), (.int .u64 0), (.int .u64 0), (.int .u64 0), (.int .u64 0), (.int .u64 0), (.int .u64 0)]), size := 20, bytes := 160 } :=
  ⟨by kernel_rfl, by kernel_rfl, fun h => (by cases h), fun fs h => (by cases h)⟩
theorem row116 : OkRow Tryz.prog T 116 { desc := .array 65 5, zero := (.agg #[(.int .u8 0), (.int .u8 0), (.int .u8 0), (.int .u8 0), (.int .u8 0), (.int .u8 0), (.int .u8 0), (.int .u8 0), (.int .u8 0), (.int .u8 0), (.int .u8 0), (.int .u8 0), (.int .u8 0), (.int .u8 0), (.int .u8 0), (.int .u8 0), (.int .u8 0), (.int .u8 0), (.int .u8 0), (.int .u8 0), (.int .u8 0), (.int .u8 0), (.int .u8 0), (.int .u8 0), (.int .u8 0), (.int .u8 0), (.int .u8 0), (.int .u8 0), (.int .u8 0), (.int .u8 0), (.int .u8 0), (.int .u8 0), (.int .u8 0), (.int .u8 0), (.int .u8 0), (.int .u8 0), (.int .u8 0), (.int .u8 0), (.int .u8 0), (.int .u8 0), (.int .u8 0), (.int .u8 0), (.int .u8 0), (.int .u8 0), (.int .u8 0), (.int .u8 0), (.int .u8 0), (.int .u8 0), (.int .u8 0), (.int .u8 0), (.int .u8 0), (.int .u8 0), (.int .u8 0), (.int .u8 0), (.int .u8 0), (.int .u8 0), (.int .u8 0), (.int .u8 0), (.int .u8 0), (.int .u8 0), (.int .u8 0), (.int .u8 0), (.int .u8 0), (.int .u8 0), (.int .u8 0)]), size := 65, bytes := 65 } :=
  ⟨by kernel_rfl, by kernel_rfl, fun h => (by cases h), fun fs h => (by cases h)⟩
theorem row118 : OkRow Tryz.prog T 118 { desc := .array 256 5, zero := (.agg #[(.int .u8 0), (.int .u8 0), (.int .u8 0), (.int .u8 0), (.int .u8 0), (.int .u8 0), (.int .u8 0), (.int .u8 0), (.int .u8 0), (.int .u8 0), (.int .u8 0), (.int .u8 0), (.int .u8 0), (.int .u8 0), (.int .u8 0), (.int .u8 0), (.int .u8 0), (.int .u8 0), (.int .u8 0), (.int .u8 0), (.int .u8 0), (.int .u8 0), (.int .u8 0), (.int .u8 0), (.int .u8 0), (.int .u8 0), (.int .u8 0), (.int .u8 0), (.int .u8 0), (.int .u8 0), (.int .u8 0), (.int .u8 0), (.int .u8 0), (.int .u8 0), (.int .u8 0), (.int .u8 0), (.int .u8 0), (.int .u8 0), (.int .u8 0), (.int .u8 0), (.int .u8 0), (.int .u8 0), (.int .u8 0), (.int .u8 0), (.int .u8 0), (.int .u8 0), (.int .u8 0), (.int .u8 0), (.int .u8 0), (.int .u8 0), (.int .u8 0), (.int .u8 0), (.int .u8 0), (.int .u8 0), (.int .u8 0), (.int .u8 0), (.int .u8 0), (.int .u8 0), (.int .u8 0), (.int .u8 0), (.int .u8 0), (.int .u8 0), (.int .u8 0), (.int .u8 0), (.int .u8 0), (.int .u8 0), (.int .u8 0), (.int .u8 0), (.int .u8 0), (.int .u8 0), (.int .u8 0), (.int .u8 0), (.int .u8 0), (.int .u8 0), (.int .u8 0), (.int .u8 0), (.int .u8 0), (.int .u8 0), (.int .u8 0), (.int .u8 0), (.int .u8 0), (.int .u8 0), (.int .u8 0), (.int .u8 0), (.int .u8 0), (.int .u8 0), (.int .u8 0), (.int .u8 0), (.int .u8 0), (.int .u8 0), (.int .u8 0), (.int .u8 0), (.int .u8 0), (.int .u8 0), (.int .u8 0), (.int .u8 0), (.int .u8 0), (.int .u8 0), (.int .u8 0), (.int .u8 0), (.int .u8 0), (.int .u8 0), (.int .u8 0), (.int .u8 0), (.int .u8 0), (.int .u8 0), (.int .u8 0), (.int .u8 0), (.int .u8 0), (.int .u8 0), (.int .u8 0), (.int .u8 0), (.int .u8 0), (.int .u8 0), (.int .u8 0), (.int .u8 0), (.int .u8 0), (.int .u8 0), (.int .u8 0), (.int .u8 0), (.int .u8 0), (.int .u8 0), (.int .u8 0), (.int .u8 0), (.int .u8 0), (.int .u8 0), (.int .u8 0), (.int .u8 0), (.int .u8 0), (.int .u8 0), (.int .u8 0), (.int .u8 0), (.int .u8 0), (.int .u8 0), (.int .u8 0), (.int .u8 0), (.int .u8 0), (.int .u8 0), (.int .u8 0), (.int .u8 0), (.int .u8 0), (.int .u8 0), (.int .u8 0), (.int .u8 0), (.int .u8 0), (.int .u8 0), (.int .u8 0), (.int .u8 0), (.int .u8 0), (.int .u8 0), (.int .u8 0), (.int .u8 0), (.int .u8 0), (.int .u8 0), (.int .u8 0), (.int .u8 0), (.int .u8 0), (.int .u8 0), (.int .u8 0), (.int .u8 0), (.int .u8 0), (.int .u8 0), (.int .u8 0), (.int .u8 0), (.int .u8 0), (.int .u8 0), (.int .u8 0), (.int .u8 0), (.int .u8 0), (.int .u8 0), (.int .u8 0), (.int .u8 0), (.int .u8 0), (.int .u8 0), (.int .u8 0), (.int .u8 0), (.int .u8 0), (.int .u8 0), (.int .u8 0), (.int .u8 0), (.int .u8 0), (.int .u8 0), (.int .u8 0), (.int .u8 0), (.int .u8 0), (.int .u8 0), (.int .u8 0), (.int .u8 0), (.int .u8 0), (.int .u8 0), (.int .u8 0), (.int .u8 0), (.int .u8 0), (.int .u8 0), (.int .u8 0), (.int .u8 0), (.int .u8 0), (.int .u8 0), (.int .u8 0), (.int .u8 0), (.int .u8 0), (.int .u8 0), (.int .u8 0), (.int .u8 0), (.int .u8 0), (.int .u8 0), (.int .u8 0), (.int .u8 0), (.int .u8 0), (.int .u8 0), (.int .u8 0), (.int .u8 0), (.int .u8 0), (.int .u8 0), (.int .u8 0), (.int .u8 0), (.int .u8 0), (.int .u8 0), (.int .u8 0), (.int .u8 0), (.int .u8 0), (.int .u8 0), (.int .u8 0), (.int .u8 0), (.int .u8 0), (.int .u8 0), (.int .u8 0), (.int .u8 0), (.int .u8 0), (.int .u8 0), (.int .u8 0), (.int .u8 0), (.int .u8 0), (.int .u8 0), (.int .u8 0), (.int .u8 0), (.int .u8 0), (.int .u8 0), (.int .u8 0), (.int .u8 0), (.int .u8 0), (.int .u8 0), (.int .u8 0), (.int .u8 0), (.int .u8 0), (.int .u8 0), (.int .u8 0), (.int .u8 0), (.int .u8 0), (.int .u8 0), (.int .u8 0), (.int .u8 0), (.int .u8 0), (.int .u8 0), (.int .u8 0), (.int .u8 0)]), size := 256, bytes := 256 } :=
  ⟨by kernel_rfl, by kernel_rfl, fun h => (by cases h), fun fs h => (by cases h)⟩
theorem row120 : OkRow Tryz.prog T 120 { desc := .struct #[{ name := "lo", type := 5, offset := 0, embedded := false, tag := "", pkgPath := "unicode/utf8", byteOffset := 0 }, { name := "hi", type := 5, offset := 1, embedded := false, tag := "", pkgPath := "unicode/utf8", byteOffset := 1 }], zero := (.agg #[(.int .u8 0), (.int .u8 0)]), size := 2, bytes := 2, eqv := true } :=
  ⟨by kernel_rfl, by kernel_rfl, fun _ => ⟨by kernel_rfl, by kernel_rfl⟩, fun fs h => (by cases h; kernel_rfl)⟩
theorem row121 : OkRow Tryz.prog T 121 { desc := .array 16 120, zero := (.agg #[(.int .u8 0), (.int .u8 0), (.int .u8 0), (.int .u8 0), (.int .u8 0), (.int .u8 0), (.int .u8 0), (.int .u8 0), (.int .u8 0), (.int .u8 0), (.int .u8 0), (.int .u8 0), (.int .u8 0), (.int .u8 0), (.int .u8 0), (.int .u8 0), (.int .u8 0), (.int .u8 0), (.int .u8 0), (.int .u8 0), (.int .u8 0), (.int .u8 0), (.int .u8 0), (.int .u8 0), (.int .u8 0), (.int .u8 0), (.int .u8 0), (.int .u8 0), (.int .u8 0), (.int .u8 0), (.int .u8 0), (.int .u8 0)]), size := 32, bytes := 32 } :=
  ⟨by kernel_rfl, by kernel_rfl, fun h => (by cases h), fun fs h => (by cases h)⟩
theorem row127 : OkRow Tryz.prog T 127 { desc := .struct #[{ name := "s", type := 9, offset := 0, embedded := false, tag := "", pkgPath := "errors", byteOffset := 0 }], zero := (.agg #[(.string ⟨#[]⟩)]), size := 1, bytes := 16, eqv := true } :=
  ⟨by kernel_rfl, by kernel_rfl, fun _ => ⟨by kernel_rfl, by kernel_rfl⟩, fun fs h => (by cases h; kernel_rfl)⟩
theorem row129 : OkRow Tryz.prog T 129 { desc := .array 32 5, zero := (.agg #[(.int .u8 0), (.int .u8 0), (.int .u8 0), (.int .u8 0), (.int .u8 0), (.int .u8 0), (.int .u8 0), (.int .u8 0), (.int .u8 0), (.int .u8 0), (.int .u8 0), (.int .u8 0), (.int .u8 0), (.int .u8 0), (.int .u8 0), (.int .u8 0), (.int .u8 0), (.int .u8 0), (.int .u8 0), (.int .u8 0), (.int .u8 0), (.int .u8 0), (.int .u8 0), (.int .u8 0), (.int .u8 0), (.int .u8 0), (.int .u8 0), (.int .u8 0), (.int .u8 0), (.int .u8 0), (.int .u8 0), (.int .u8 0)]), size := 32, bytes := 32 } :=
  ⟨by kernel_rfl, by kernel_rfl, fun h => (by cases h), fun fs h => (by cases h)⟩
theorem row130 : OkRow Tryz.prog T 130 { desc := .array 64 5, zero := (.agg #[(.int .u8 0), (.int .u8 0), (.int .u8 0), (.int .u8 0), (.int .u8 0), (.int .u8 0), (.int .u8 0), (.int .u8 0), (.int .u8 0), (.int .u8 0), (.int .u8 0), (.int .u8 0), (.int .u8 0), (.int .u8 0), (.int .u8 0), (.int .u8 0), (.int .u8 0), (.int .u8 0), (.int .u8 0), (.int .u8 0), (.int .u8 0), (.int .u8 0), (.int .u8 0), (.int .u8 0), (.int .u8 0), (.int .u8 0), (.int .u8 0), (.int .u8 0), (.int .u8 0), (.int .u8 0), (.int .u8 0), (.int .u8 0), (.int .u8 0), (.int .u8 0), (.int .u8 0), (.int .u8 0), (.int .u8 0), (.int .u8 0), (.int .u8 0), (.int .u8 0), (.int .u8 0), (.int .u8 0), (.int .u8 0), (.int .u8 0), (.int .u8 0), (.int .u8 0), (.int .u8 0), (.int .u8 0), (.int .u8 0), (.int .u8 0), (.int .u8 0), (.int .u8 0), (.int .u8 0), (.int .u8 0), (.int .u8 0), (.int .u8 0), (.int .u8 0), (.int .u8 0), (.int .u8 0), (.int .u8 0), (.int .u8 0), (.int .u8 0), (.int .u8 0), (.int .u8 0)]), size := 64, bytes := 64 } :=
  ⟨by kernel_rfl, by kernel_rfl, fun h => (by cases h), fun fs h => (by cases h)⟩
theorem tOk : TOk Tryz.prog T := fun t i h => by
  have hm := look_mem h
  simp only [T, List.mem_cons, List.not_mem_nil, or_false, Prod.mk.injEq] at hm
  rcases hm with ⟨rfl, rfl⟩ | ⟨rfl, rfl⟩ | ⟨rfl, rfl⟩ | ⟨rfl, rfl⟩ | ⟨rfl, rfl⟩ | ⟨rfl, rfl⟩ | ⟨rfl, rfl⟩ | ⟨rfl, rfl⟩ | ⟨rfl, rfl⟩ | ⟨rfl, rfl⟩ | ⟨rfl, rfl⟩ | ⟨rfl, rfl⟩ | ⟨rfl, rfl⟩ | ⟨rfl, rfl⟩ | ⟨rfl, rfl⟩ | ⟨rfl, rfl⟩ | ⟨rfl, rfl⟩ | ⟨rfl, rfl⟩ | ⟨rfl, rfl⟩ | ⟨rfl, rfl⟩ | ⟨rfl, rfl⟩ | ⟨rfl, rfl⟩ | ⟨rfl, rfl⟩ | ⟨rfl, rfl⟩ | ⟨rfl, rfl⟩ | ⟨rfl, rfl⟩ | ⟨rfl, rfl⟩ | ⟨rfl, rfl⟩ | ⟨rfl, rfl⟩ | ⟨rfl, rfl⟩ | ⟨rfl, rfl⟩ | ⟨rfl, rfl⟩ | ⟨rfl, rfl⟩
  · exact row2
  · exact row3
  · exact row4
  · exact row5
  · exact row9
  · exact row21
  · exact row23
  · exact row25
  · exact row38
  · exact row53
  · exact row54
  · exact row56
  · exact row60
  · exact row64
  · exact row70
  · exact row72
  · exact row74
  · exact row80
  · exact row84
  · exact row87
  · exact row96
  · exact row99
  · exact row100
  · exact row105
  · exact row111
  · exact row115
  · exact row116
  · exact row118
  · exact row120
  · exact row121
  · exact row127
  · exact row129
  · exact row130
theorem T2 : look T 2 = some { desc := .int .i64, zero := (.int .i64 0), size := 1, bytes := 8 } := rfl
theorem T3 : look T 3 = some { desc := .int .i64, zero := (.int .i64 0), size := 1, bytes := 8 } := rfl
theorem T4 : look T 4 = some { desc := .bool, zero := (.bool false), size := 1, bytes := 1 } := rfl
theorem T5 : look T 5 = some { desc := .int .u8, zero := (.int .u8 0), size := 1, bytes := 1 } := rfl
theorem T9 : look T 9 = some { desc := .string, zero := (.string ⟨#[]⟩), size := 1, bytes := 16 } := rfl
theorem T21 : look T 21 = some { desc := .int .i32, zero := (.int .i32 0), size := 1, bytes := 4 } := rfl
theorem T23 : look T 23 = some { desc := .struct #[{ name := "Kind", type := 3, offset := 0, embedded := false, tag := "", pkgPath := "", byteOffset := 0 }, { name := "Num", type := 3, offset := 1, embedded := false, tag := "", pkgPath := "", byteOffset := 8 }, { name := "Text", type := 9, offset := 2, embedded := false, tag := "", pkgPath := "", byteOffset := 16 }], zero := (.agg #[(.int .i64 0), (.int .i64 0), (.string ⟨#[]⟩)]), size := 3, bytes := 32, eqv := true } := rfl
theorem T25 : look T 25 = some { desc := .int .i64, zero := (.int .i64 0), size := 1, bytes := 8 } := rfl
theorem T38 : look T 38 = some { desc := .func #[23, 23] #[3] false, zero := .nilFunc, size := 1, bytes := 8 } := rfl
theorem T53 : look T 53 = some { desc := .slice 5, zero := (.slice none 0 0), size := 1, bytes := 24 } := rfl
theorem T54 : look T 54 = some { desc := .int .u32, zero := (.int .u32 0), size := 1, bytes := 4 } := rfl
theorem T56 : look T 56 = some { desc := .slice 38, zero := (.slice none 0 0), size := 1, bytes := 24 } := rfl
theorem T60 : look T 60 = some { desc := .struct #[{ name := "rest", type := 9, offset := 0, embedded := false, tag := "", pkgPath := "tidegate/value", byteOffset := 0 }, { name := "out", type := 53, offset := 1, embedded := false, tag := "", pkgPath := "tidegate/value", byteOffset := 16 }], zero := (.agg #[(.string ⟨#[]⟩), (.slice none 0 0)]), size := 2, bytes := 40 } := rfl
theorem T64 : look T 64 = some { desc := .interface #[("Error", 75)], zero := .nilIface, size := 1, bytes := 16 } := rfl
theorem T70 : look T 70 = some { desc := .pointer 72, zero := (.pointer none), size := 1, bytes := 8 } := rfl
theorem T72 : look T 72 = some { desc := .struct #[{ name := "addr", type := 70, offset := 0, embedded := false, tag := "", pkgPath := "strings", byteOffset := 0 }, { name := "buf", type := 53, offset := 1, embedded := false, tag := "", pkgPath := "strings", byteOffset := 8 }], zero := (.agg #[(.pointer none), (.slice none 0 0)]), size := 2, bytes := 32 } := rfl
theorem T74 : look T 74 = some { desc := .int .u64, zero := (.int .u64 0), size := 1, bytes := 8 } := rfl
theorem T80 : look T 80 = some { desc := .array 256 4, zero := (.agg #[(.bool false), (.bool false), (.bool false), (.bool false), (.bool false), (.bool false), (.bool false), (.bool false), (.bool false), (.bool false), (.bool false), (.bool false), (.bool false), (.bool false), (.bool false), (.bool false), (.bool false), (.bool false), (.bool false), (.bool false), (.bool false), (.bool false), (.bool false), (.bool false), (.bool false), (.bool false), (.bool false), (.bool false), (.bool false), (.bool false), (.bool false), (.bool false), (.bool false), (.bool false), (.bool false), (.bool false), (.bool false), (.bool false), (.bool false), (.bool false), (.bool false), (.bool false), (.bool false), (.bool false), (.bool false), (.bool false), (.bool false), (.bool false), (.bool false), (.bool false), (.bool false), (.bool false), (.bool false), (.bool false), (.bool false), (.bool false), (.bool false), (.bool false), (.bool false), (.bool false), (.bool false), (.bool false), (.bool false), (.bool false), (.bool false), (.bool false), (.bool false), (.bool false), (.bool false), (.bool false), (.bool false), (.bool false), (.bool false), (.bool false), (.bool false), (.bool false), (.bool false), (.bool false), (.bool false), (.bool false), (.bool false), (.bool false), (.bool false), (.bool false), (.bool false), (.bool false), (.bool false), (.bool false), (.bool false), (.bool false), (.bool false), (.bool false), (.bool false), (.bool false), (.bool false), (.bool false), (.bool false), (.bool false), (.bool false), (.bool false), (.bool false), (.bool false), (.bool false), (.bool false), (.bool false), (.bool false), (.bool false), (.bool false), (.bool false), (.bool false), (.bool false), (.bool false), (.bool false), (.bool false), (.bool false), (.bool false), (.bool false), (.bool false), (.bool false), (.bool false), (.bool false), (.bool false), (.bool false), (.bool false), (.bool false), (.bool false), (.bool false), (.bool false), (.bool false), (.bool false), (.bool false), (.bool false), (.bool false), (.bool false), (.bool false), (.bool false), (.bool false), (.bool false), (.bool false), (.bool false), (.bool false), (.bool false), (.bool false), (.bool false), (.bool false), (.bool false), (.bool false), (.bool false), (.bool false), (.bool false), (.bool false), (.bool false), (.bool false), (.bool false), (.bool false), (.bool false), (.bool false), (.bool false), (.bool false), (.bool false), (.bool false), (.bool false), (.bool false), (.bool false), (.bool false), (.bool false), (.bool false), (.bool false), (.bool false), (.bool false), (.bool false), (.bool false), (.bool false), (.bool false), (.bool false), (.bool false), (.bool false), (.bool false), (.bool false), (.bool false), (.bool false), (.bool false), (.bool false), (.bool false), (.bool false), (.bool false), (.bool false), (.bool false), (.bool false), (.bool false), (.bool false), (.bool false), (.bool false), (.bool false), (.bool false), (.bool false), (.bool false), (.bool false), (.bool false), (.bool false), (.bool false), (.bool false), (.bool false), (.bool false), (.bool false), (.bool false), (.bool false), (.bool false), (.bool false), (.bool false), (.bool false), (.bool false), (.bool false), (.bool false), (.bool false), (.bool false), (.bool false), (.bool false), (.bool false), (.bool false), (.bool false), (.bool false), (.bool false), (.bool false), (.bool false), (.bool false), (.bool false), (.bool false), (.bool false), (.bool false), (.bool false), (.bool false), (.bool false), (.bool false), (.bool false), (.bool false), (.bool false), (.bool false), (.bool false), (.bool false), (.bool false), (.bool false), (.bool false), (.bool false), (.bool false), (.bool false), (.bool false), (.bool false), (.bool false), (.bool false), (.bool false), (.bool false), (.bool false), (.bool false), (.bool false), (.bool false)]), size := 256, bytes := 256 } := rfl
theorem T84 : look T 84 = some { desc := .pointer 80, zero := (.pointer none), size := 1, bytes := 8 } := rfl
theorem T87 : look T 87 = some { desc := .pointer 5, zero := (.pointer none), size := 1, bytes := 8 } := rfl
theorem T96 : look T 96 = some { desc := .pointer 111, zero := (.pointer none), size := 1, bytes := 8 } := rfl
theorem T99 : look T 99 = some { desc := .array 24 5, zero := (.agg #[(.int .u8 0), (.int .u8 0), (.int .u8 0), (.int .u8 0), (.int .u8 0), (.int .u8 0), (.int .u8 0), (.int .u8 0), (.int .u8 0), (.int .u8 0), (.int .u8 0), (.int .u8 0), (.int .u8 0), (.int .u8 0), (.int .u8 0), (.int .u8 0), (.int .u8 0), (.int .u8 0), (.int .u8 0), (.int .u8 0), (.int .u8 0), (.int .u8 0), (.int .u8 0), (.int .u8 0)]), size := 24, bytes := 24 } := rfl
theorem T100 : look T 100 = some { desc := .int .u64, zero := (.int .u64 0), size := 1, bytes := 8 } := rfl
theorem T105 : look T 105 = some { desc := .unsafePointer, zero := (.pointer none), size := 1, bytes := 8 } := rfl
theorem T111 : look T 111 = some { desc := .struct #[{ name := "Func", type := 9, offset := 0, embedded := false, tag := "", pkgPath := "", byteOffset := 0 }, { name := "Num", type := 9, offset := 1, embedded := false, tag := "", pkgPath := "", byteOffset := 16 }, { name := "Err", type := 64, offset := 2, embedded := false, tag := "", pkgPath := "", byteOffset := 32 }], zero := (.agg #[(.string ⟨#[]⟩), (.string ⟨#[]⟩), .nilIface]), size := 3, bytes := 48 } := rfl
theorem T115 : look T 115 = some { desc := .array 20 100, zero := (.agg #[(.int .u64 0), (.int .u64 0), (.int .u64 0), (.int .u64 0), (.int .u64 0), (.int .u64 0), (.int .u64 0), (.int .u64 0), (.int .u64 0), (.int .u64 0), (.int .u64 0), (.int .u64 0), (.int .u64 0), (.int .u64 0), (.int .u64 0), (.int .u64 0), (.int .u64 0), (.int .u64 0), (.int .u64 0), (.int .u64 0)]), size := 20, bytes := 160 } := rfl
theorem T116 : look T 116 = some { desc := .array 65 5, zero := (.agg #[(.int .u8 0), (.int .u8 0), (.int .u8 0), (.int .u8 0), (.int .u8 0), (.int .u8 0), (.int .u8 0), (.int .u8 0), (.int .u8 0), (.int .u8 0), (.int .u8 0), (.int .u8 0), (.int .u8 0), (.int .u8 0), (.int .u8 0), (.int .u8 0), (.int .u8 0), (.int .u8 0), (.int .u8 0), (.int .u8 0), (.int .u8 0), (.int .u8 0), (.int .u8 0), (.int .u8 0), (.int .u8 0), (.int .u8 0), (.int .u8 0), (.int .u8 0), (.int .u8 0), (.int .u8 0), (.int .u8 0), (.int .u8 0), (.int .u8 0), (.int .u8 0), (.int .u8 0), (.int .u8 0), (.int .u8 0), (.int .u8 0), (.int .u8 0), (.int .u8 0), (.int .u8 0), (.int .u8 0), (.int .u8 0), (.int .u8 0), (.int .u8 0), (.int .u8 0), (.int .u8 0), (.int .u8 0), (.int .u8 0), (.int .u8 0), (.int .u8 0), (.int .u8 0), (.int .u8 0), (.int .u8 0), (.int .u8 0), (.int .u8 0), (.int .u8 0), (.int .u8 0), (.int .u8 0), (.int .u8 0), (.int .u8 0), (.int .u8 0), (.int .u8 0), (.int .u8 0), (.int .u8 0)]), size := 65, bytes := 65 } := rfl
theorem T118 : look T 118 = some { desc := .array 256 5, zero := (.agg #[(.int .u8 0), (.int .u8 0), (.int .u8 0), (.int .u8 0), (.int .u8 0), (.int .u8 0), (.int .u8 0), (.int .u8 0), (.int .u8 0), (.int .u8 0), (.int .u8 0), (.int .u8 0), (.int .u8 0), (.int .u8 0), (.int .u8 0), (.int .u8 0), (.int .u8 0), (.int .u8 0), (.int .u8 0), (.int .u8 0), (.int .u8 0), (.int .u8 0), (.int .u8 0), (.int .u8 0), (.int .u8 0), (.int .u8 0), (.int .u8 0), (.int .u8 0), (.int .u8 0), (.int .u8 0), (.int .u8 0), (.int .u8 0), (.int .u8 0), (.int .u8 0), (.int .u8 0), (.int .u8 0), (.int .u8 0), (.int .u8 0), (.int .u8 0), (.int .u8 0), (.int .u8 0), (.int .u8 0), (.int .u8 0), (.int .u8 0), (.int .u8 0), (.int .u8 0), (.int .u8 0), (.int .u8 0), (.int .u8 0), (.int .u8 0), (.int .u8 0), (.int .u8 0), (.int .u8 0), (.int .u8 0), (.int .u8 0), (.int .u8 0), (.int .u8 0), (.int .u8 0), (.int .u8 0), (.int .u8 0), (.int .u8 0), (.int .u8 0), (.int .u8 0), (.int .u8 0), (.int .u8 0), (.int .u8 0), (.int .u8 0), (.int .u8 0), (.int .u8 0), (.int .u8 0), (.int .u8 0), (.int .u8 0), (.int .u8 0), (.int .u8 0), (.int .u8 0), (.int .u8 0), (.int .u8 0), (.int .u8 0), (.int .u8 0), (.int .u8 0), (.int .u8 0), (.int .u8 0), (.int .u8 0), (.int .u8 0), (.int .u8 0), (.int .u8 0), (.int .u8 0), (.int .u8 0), (.int .u8 0), (.int .u8 0), (.int .u8 0), (.int .u8 0), (.int .u8 0), (.int .u8 0), (.int .u8 0), (.int .u8 0), (.int .u8 0), (.int .u8 0), (.int .u8 0), (.int .u8 0), (.int .u8 0), (.int .u8 0), (.int .u8 0), (.int .u8 0), (.int .u8 0), (.int .u8 0), (.int .u8 0), (.int .u8 0), (.int .u8 0), (.int .u8 0), (.int .u8 0), (.int .u8 0), (.int .u8 0), (.int .u8 0), (.int .u8 0), (.int .u8 0), (.int .u8 0), (.int .u8 0), (.int .u8 0), (.int .u8 0), (.int .u8 0), (.int .u8 0), (.int .u8 0), (.int .u8 0), (.int .u8 0), (.int .u8 0), (.int .u8 0), (.int .u8 0), (.int .u8 0), (.int .u8 0), (.int .u8 0), (.int .u8 0), (.int .u8 0), (.int .u8 0), (.int .u8 0), (.int .u8 0), (.int .u8 0), (.int .u8 0), (.int .u8 0), (.int .u8 0), (.int .u8 0), (.int .u8 0), (.int .u8 0), (.int .u8 0), (.int .u8 0), (.int .u8 0), (.int .u8 0), (.int .u8 0), (.int .u8 0), (.int .u8 0), (.int .u8 0), (.int .u8 0), (.int .u8 0), (.int .u8 0), (.int .u8 0), (.int .u8 0), (.int .u8 0), (.int .u8 0), (.int .u8 0), (.int .u8 0), (.int .u8 0), (.int .u8 0), (.int .u8 0), (.int .u8 0), (.int .u8 0), (.int .u8 0), (.int .u8 0), (.int .u8 0), (.int .u8 0), (.int .u8 0), (.int .u8 0), (.int .u8 0), (.int .u8 0), (.int .u8 0), (.int .u8 0), (.int .u8 0), (.int .u8 0), (.int .u8 0), (.int .u8 0), (.int .u8 0), (.int .u8 0), (.int .u8 0), (.int .u8 0), (.int .u8 0), (.int .u8 0), (.int .u8 0), (.int .u8 0), (.int .u8 0), (.int .u8 0), (.int .u8 0), (.int .u8 0), (.int .u8 0), (.int .u8 0), (.int .u8 0), (.int .u8 0), (.int .u8 0), (.int .u8 0), (.int .u8 0), (.int .u8 0), (.int .u8 0), (.int .u8 0), (.int .u8 0), (.int .u8 0), (.int .u8 0), (.int .u8 0), (.int .u8 0), (.int .u8 0), (.int .u8 0), (.int .u8 0), (.int .u8 0), (.int .u8 0), (.int .u8 0), (.int .u8 0), (.int .u8 0), (.int .u8 0), (.int .u8 0), (.int .u8 0), (.int .u8 0), (.int .u8 0), (.int .u8 0), (.int .u8 0), (.int .u8 0), (.int .u8 0), (.int .u8 0), (.int .u8 0), (.int .u8 0), (.int .u8 0), (.int .u8 0), (.int .u8 0), (.int .u8 0), (.int .u8 0), (.int .u8 0), (.int .u8 0), (.int .u8 0), (.int .u8 0), (.int .u8 0), (.int .u8 0), (.int .u8 0), (.int .u8 0), (.int .u8 0), (.int .u8 0), (.int .u8 0), (.int .u8 0), (.int .u8 0), (.int .u8 0), (.int .u8 0), (.int .u8 0), (.int .u8 0), (.int .u8 0), (.int .u8 0), (.int .u8 0), (.int .u8 0), (.int .u8 0), (.int .u8 0), (.int .u8 0), (.int .u8 0)]), size := 256, bytes := 256 } := rfl
theorem T120 : look T 120 = some { desc := .struct #[{ name := "lo", type := 5, offset := 0, embedded := false, tag := "", pkgPath := "unicode/utf8", byteOffset := 0 }, { name := "hi", type := 5, offset := 1, embedded := false, tag := "", pkgPath := "unicode/utf8", byteOffset := 1 }], zero := (.agg #[(.int .u8 0), (.int .u8 0)]), size := 2, bytes := 2, eqv := true } := rfl
theorem T121 : look T 121 = some { desc := .array 16 120, zero := (.agg #[(.int .u8 0), (.int .u8 0), (.int .u8 0), (.int .u8 0), (.int .u8 0), (.int .u8 0), (.int .u8 0), (.int .u8 0), (.int .u8 0), (.int .u8 0), (.int .u8 0), (.int .u8 0), (.int .u8 0), (.int .u8 0), (.int .u8 0), (.int .u8 0), (.int .u8 0), (.int .u8 0), (.int .u8 0), (.int .u8 0), (.int .u8 0), (.int .u8 0), (.int .u8 0), (.int .u8 0), (.int .u8 0), (.int .u8 0), (.int .u8 0), (.int .u8 0), (.int .u8 0), (.int .u8 0), (.int .u8 0), (.int .u8 0)]), size := 32, bytes := 32 } := rfl
theorem T127 : look T 127 = some { desc := .struct #[{ name := "s", type := 9, offset := 0, embedded := false, tag := "", pkgPath := "errors", byteOffset := 0 }], zero := (.agg #[(.string ⟨#[]⟩)]), size := 1, bytes := 16, eqv := true } := rfl
theorem T129 : look T 129 = some { desc := .array 32 5, zero := (.agg #[(.int .u8 0), (.int .u8 0), (.int .u8 0), (.int .u8 0), (.int .u8 0), (.int .u8 0), (.int .u8 0), (.int .u8 0), (.int .u8 0), (.int .u8 0), (.int .u8 0), (.int .u8 0), (.int .u8 0), (.int .u8 0), (.int .u8 0), (.int .u8 0), (.int .u8 0), (.int .u8 0), (.int .u8 0), (.int .u8 0), (.int .u8 0), (.int .u8 0), (.int .u8 0), (.int .u8 0), (.int .u8 0), (.int .u8 0), (.int .u8 0), (.int .u8 0), (.int .u8 0), (.int .u8 0), (.int .u8 0), (.int .u8 0)]), size := 32, bytes := 32 } := rfl
theorem T130 : look T 130 = some { desc := .array 64 5, zero := (.agg #[(.int .u8 0), (.int .u8 0), (.int .u8 0), (.int .u8 0), (.int .u8 0), (.int .u8 0), (.int .u8 0), (.int .u8 0), (.int .u8 0), (.int .u8 0), (.int .u8 0), (.int .u8 0), (.int .u8 0), (.int .u8 0), (.int .u8 0), (.int .u8 0), (.int .u8 0), (.int .u8 0), (.int .u8 0), (.int .u8 0), (.int .u8 0), (.int .u8 0), (.int .u8 0), (.int .u8 0), (.int .u8 0), (.int .u8 0), (.int .u8 0), (.int .u8 0), (.int .u8 0), (.int .u8 0), (.int .u8 0), (.int .u8 0), (.int .u8 0), (.int .u8 0), (.int .u8 0), (.int .u8 0), (.int .u8 0), (.int .u8 0), (.int .u8 0), (.int .u8 0), (.int .u8 0), (.int .u8 0), (.int .u8 0), (.int .u8 0), (.int .u8 0), (.int .u8 0), (.int .u8 0), (.int .u8 0), (.int .u8 0), (.int .u8 0), (.int .u8 0), (.int .u8 0), (.int .u8 0), (.int .u8 0), (.int .u8 0), (.int .u8 0), (.int .u8 0), (.int .u8 0), (.int .u8 0), (.int .u8 0), (.int .u8 0), (.int .u8 0), (.int .u8 0), (.int .u8 0)]), size := 64, bytes := 64 } := rfl
theorem mixed : Tryz.prog.follows .mixedOrders = true := by kernel_rfl
end Go.Abs
set_option maxRecDepth 100000
namespace Go.Abs
open Go Go.Proofs
def pow10Cells : List Value := Lib.pow10Tab.map fun z => Value.int .u64 z
noncomputable instance env : Env Tryz.prog := ⟨[(3, pow10Cells)]⟩
theorem pow10_tab {w : World} {I : Nat → Prop} (h : EOK Tryz.prog w I) : Lib.TabIs Tryz.prog w "internal/strconv.uint64pow10" .u64 Lib.pow10Tab := by
  obtain ⟨_, t, fr, hb⟩ := h 3 pow10Cells (List.mem_singleton.2 rfl)
  unfold Lib.TabIs World.var?
  rw [show Tryz.prog.globalNamed "internal/strconv.uint64pow10" = some 3 by kernel_rfl]
  simp only [Option.bind_some, hb]
  rfl
end Go.Abs
set_option maxRecDepth 100000
namespace Go.Abs
open Go Go.Proofs
set_option linter.unusedSimpArgs false
attribute [simp] T3 T4 T5 T9 T53 T23 T25 T54 T56 T2 T100
theorem ite_t {α : Type} {c : Bool} {a b : α} (h : c = true) : (if c = true then a else b) = a := by rw [if_pos h]
theorem ite_f {α : Type} {c : Bool} {a b : α} (h : c = false) : (if c = true then a else b) = b := by rw [if_neg (by rw [h]; decide)]
structure Val where
  kind : Int
  num : Int
  text : List UInt8
deriving Inhabited, DecidableEq
@[simp] def encV (v : Val) : AV := .agg [.int .i64 v.kind, .int .i64 v.num, .str v.text]
@[simp] def encI (n : Int) : AV := .int .i64 n
abbrev AV.i (n : Int) : AV := .int .i64 n
abbrev W (n : Int) : Int := IntKind.i64.wrap n
theorem wrap_i64 (n : Int) (h1 : -9223372036854775808 ≤ n) (h2 : n ≤ 9223372036854775807) : IntKind.i64.wrap n = n := by
  rw [IntKind.wrap_i64]; omega
def zeroV : Val := ⟨0, 0, []⟩

def sizeR (v : Val) : Int := if (v.kind == 0 && (decide (v.num < -1099511627776) || decide (1099511627776 < v.num))) = true then 2 else if (v.kind == 1 && v.num != 0 && v.num != 1) = true then 2 else if decide ((64 : Int) < v.text.length) = true then 13 else 0
theorem pc_size (v : Val) : PC Tryz.prog 42 [encV v] (fun r => r = .i (sizeR v)) := by
  refine PC_body tOk Tryz.func42 rfl Tryz.results42 rfl (by simp [Tryz.ntmps42]) ?_
  rw [Tryz.ntmps42]
  simp only [argSlots]
  simp only [encV]
  repeat (first
    | (refine AWP_seq (AWP_regS tOk rfl ?_); simp)
    | (refine AWP_regS tOk rfl ?_; simp)
    | (refine AWP_skip ?_; simp)
    | (refine AWP_exit ?_; simp)
    | (refine AWP_ret ?_; simp)
    | refine AWP_block ?_
    | refine AWP_seq ?_)
  refine AWP_cond2 rfl (fun h => ?_) (fun h1 => ?_)
  · repeat (first
      | (refine AWP_seq (AWP_regS tOk rfl ?_); simp)
      | (refine AWP_regS tOk rfl ?_; simp)
      | (refine AWP_skip ?_; simp)
      | (refine AWP_exit ?_; simp)
      | (refine AWP_ret ?_; simp)
      | refine AWP_block ?_
      | refine AWP_seq ?_)
    rw [sizeR, ite_t h]
  repeat (first
    | (refine AWP_seq (AWP_regS tOk rfl ?_); simp)
    | (refine AWP_regS tOk rfl ?_; simp)
    | (refine AWP_skip ?_; simp)
    | (refine AWP_exit ?_; simp)
    | (refine AWP_ret ?_; simp)
    | refine AWP_block ?_
    | refine AWP_seq ?_)
  refine AWP_cond2 rfl (fun h => ?_) (fun h2 => ?_)
  · repeat (first
      | (refine AWP_seq (AWP_regS tOk rfl ?_); simp)
      | (refine AWP_regS tOk rfl ?_; simp)
      | (refine AWP_skip ?_; simp)
      | (refine AWP_exit ?_; simp)
      | (refine AWP_ret ?_; simp)
      | refine AWP_block ?_
      | refine AWP_seq ?_)
    rw [sizeR, ite_f h1, ite_t h]
  repeat (first
    | (refine AWP_seq (AWP_regS tOk rfl ?_); simp)
    | (refine AWP_regS tOk rfl ?_; simp)
    | (refine AWP_skip ?_; simp)
    | (refine AWP_exit ?_; simp)
    | (refine AWP_ret ?_; simp)
    | refine AWP_block ?_
    | refine AWP_seq ?_)
  refine AWP_cond2 rfl (fun h => ?_) (fun h3 => ?_)
  · repeat (first
      | (refine AWP_seq (AWP_regS tOk rfl ?_); simp)
      | (refine AWP_regS tOk rfl ?_; simp)
      | (refine AWP_skip ?_; simp)
      | (refine AWP_exit ?_; simp)
      | (refine AWP_ret ?_; simp)
      | refine AWP_block ?_
      | refine AWP_seq ?_)
    rw [sizeR, ite_f h1, ite_f h2, ite_t h]
  repeat (first
    | (refine AWP_seq (AWP_regS tOk rfl ?_); simp)
    | (refine AWP_regS tOk rfl ?_; simp)
    | (refine AWP_skip ?_; simp)
    | (refine AWP_exit ?_; simp)
    | (refine AWP_ret ?_; simp)
    | refine AWP_block ?_
    | refine AWP_seq ?_)
  rw [sizeR, ite_f h1, ite_f h2, ite_f h3]

def checkR (v : Val) : Int := if (v.kind == 0 || v.kind == 1) = true then (if (!v.text.isEmpty) = true then 3 else sizeR v) else if (v.kind == 2) = true then (if (v.num != 0) = true then 3 else sizeR v) else 1
theorem pc_Check (v : Val) : PC Tryz.prog 22 [encV v] (fun r => r = .i (checkR v)) := by
  refine PC_body tOk Tryz.func22 rfl Tryz.results22 rfl (by simp [Tryz.ntmps22]) ?_
  rw [Tryz.ntmps22]
  simp only [argSlots]
  simp only [encV]
  repeat (first
    | (refine AWP_seq (AWP_regS tOk rfl ?_); simp)
    | (refine AWP_regS tOk rfl ?_; simp)
    | (refine AWP_skip ?_; simp)
    | (refine AWP_exit ?_; simp)
    | (refine AWP_ret ?_; simp)
    | refine AWP_block ?_
    | refine AWP_seq ?_)
  refine AWP_cond2 rfl (fun h => ?_) (fun h => ?_)
  · repeat (first
      | (refine AWP_seq (AWP_regS tOk rfl ?_); simp)
      | (refine AWP_regS tOk rfl ?_; simp)
      | (refine AWP_skip ?_; simp)
      | (refine AWP_exit ?_; simp)
      | (refine AWP_ret ?_; simp)
      | refine AWP_block ?_
      | refine AWP_seq ?_)
    refine AWP_cond (b := true) (by simp [h]) ?_
    repeat (first
      | (refine AWP_seq (AWP_regS tOk rfl ?_); simp)
      | (refine AWP_regS tOk rfl ?_; simp)
      | (refine AWP_skip ?_; simp)
      | (refine AWP_exit ?_; simp)
      | (refine AWP_ret ?_; simp)
      | refine AWP_block ?_
      | refine AWP_seq ?_)
    refine AWP_cond2 rfl (fun ht => ?_) (fun ht => ?_)
    · repeat (first
        | (refine AWP_seq (AWP_regS tOk rfl ?_); simp)
        | (refine AWP_regS tOk rfl ?_; simp)
        | (refine AWP_skip ?_; simp)
        | (refine AWP_exit ?_; simp)
        | (refine AWP_ret ?_; simp)
        | refine AWP_block ?_
        | refine AWP_seq ?_)
      rw [checkR, ite_t (by simp [h]), ite_t ht]
    · repeat (first
        | (refine AWP_seq (AWP_regS tOk rfl ?_); simp)
        | (refine AWP_regS tOk rfl ?_; simp)
        | (refine AWP_skip ?_; simp)
        | (refine AWP_exit ?_; simp)
        | (refine AWP_ret ?_; simp)
        | refine AWP_block ?_
        | refine AWP_seq ?_)
      refine AStep_PC rfl rfl (by simp) (pc_size v) rfl ?_
      rintro _ rfl
      simp
      repeat (first
        | (refine AWP_seq (AWP_regS tOk rfl ?_); simp)
        | (refine AWP_regS tOk rfl ?_; simp)
        | (refine AWP_skip ?_; simp)
        | (refine AWP_exit ?_; simp)
        | (refine AWP_ret ?_; simp)
        | refine AWP_block ?_
        | refine AWP_seq ?_)
      rw [checkR, ite_t (by simp [h]), ite_f ht]
  · repeat (first
      | (refine AWP_seq (AWP_regS tOk rfl ?_); simp)
      | (refine AWP_regS tOk rfl ?_; simp)
      | (refine AWP_skip ?_; simp)
      | (refine AWP_exit ?_; simp)
      | (refine AWP_ret ?_; simp)
      | refine AWP_block ?_
      | refine AWP_seq ?_)
    refine AWP_cond2 rfl (fun h1 => ?_) (fun h1 => ?_)
    · repeat (first
        | (refine AWP_seq (AWP_regS tOk rfl ?_); simp)
        | (refine AWP_regS tOk rfl ?_; simp)
        | (refine AWP_skip ?_; simp)
        | (refine AWP_exit ?_; simp)
        | (refine AWP_ret ?_; simp)
        | refine AWP_block ?_
        | refine AWP_seq ?_)
      refine AWP_cond2 rfl (fun ht => ?_) (fun ht => ?_)
      · repeat (first
          | (refine AWP_seq (AWP_regS tOk rfl ?_); simp)
          | (refine AWP_regS tOk rfl ?_; simp)
          | (refine AWP_skip ?_; simp)
          | (refine AWP_exit ?_; simp)
          | (refine AWP_ret ?_; simp)
          | refine AWP_block ?_
          | refine AWP_seq ?_)
        rw [checkR, ite_t (by simp [h1]), ite_t ht]
      · repeat (first
          | (refine AWP_seq (AWP_regS tOk rfl ?_); simp)
          | (refine AWP_regS tOk rfl ?_; simp)
          | (refine AWP_skip ?_; simp)
          | (refine AWP_exit ?_; simp)
          | (refine AWP_ret ?_; simp)
          | refine AWP_block ?_
          | refine AWP_seq ?_)
        refine AStep_PC rfl rfl (by simp) (pc_size v) rfl ?_
        rintro _ rfl
        simp
        repeat (first
          | (refine AWP_seq (AWP_regS tOk rfl ?_); simp)
          | (refine AWP_regS tOk rfl ?_; simp)
          | (refine AWP_skip ?_; simp)
          | (refine AWP_exit ?_; simp)
          | (refine AWP_ret ?_; simp)
          | refine AWP_block ?_
          | refine AWP_seq ?_)
        rw [checkR, ite_t (by simp [h1]), ite_f ht]
    · repeat (first
        | (refine AWP_seq (AWP_regS tOk rfl ?_); simp)
        | (refine AWP_regS tOk rfl ?_; simp)
        | (refine AWP_skip ?_; simp)
        | (refine AWP_exit ?_; simp)
        | (refine AWP_ret ?_; simp)
        | refine AWP_block ?_
        | refine AWP_seq ?_)
      refine AWP_cond2 rfl (fun h2 => ?_) (fun h2 => ?_)
      · repeat (first
          | (refine AWP_seq (AWP_regS tOk rfl ?_); simp)
          | (refine AWP_regS tOk rfl ?_; simp)
          | (refine AWP_skip ?_; simp)
          | (refine AWP_exit ?_; simp)
          | (refine AWP_ret ?_; simp)
          | refine AWP_block ?_
          | refine AWP_seq ?_)
        refine AWP_cond2 rfl (fun hn => ?_) (fun hn => ?_)
        · repeat (first
            | (refine AWP_seq (AWP_regS tOk rfl ?_); simp)
            | (refine AWP_regS tOk rfl ?_; simp)
            | (refine AWP_skip ?_; simp)
            | (refine AWP_exit ?_; simp)
            | (refine AWP_ret ?_; simp)
            | refine AWP_block ?_
            | refine AWP_seq ?_)
          rw [checkR, ite_f (by simp [h, h1]), ite_t h2, ite_t hn]
        · repeat (first
            | (refine AWP_seq (AWP_regS tOk rfl ?_); simp)
            | (refine AWP_regS tOk rfl ?_; simp)
            | (refine AWP_skip ?_; simp)
            | (refine AWP_exit ?_; simp)
            | (refine AWP_ret ?_; simp)
            | refine AWP_block ?_
            | refine AWP_seq ?_)
          refine AStep_PC rfl rfl (by simp) (pc_size v) rfl ?_
          rintro _ rfl
          simp
          repeat (first
            | (refine AWP_seq (AWP_regS tOk rfl ?_); simp)
            | (refine AWP_regS tOk rfl ?_; simp)
            | (refine AWP_skip ?_; simp)
            | (refine AWP_exit ?_; simp)
            | (refine AWP_ret ?_; simp)
            | refine AWP_block ?_
            | refine AWP_seq ?_)
          rw [checkR, ite_f (by simp [h, h1]), ite_t h2, ite_f hn]
      · repeat (first
          | (refine AWP_seq (AWP_regS tOk rfl ?_); simp)
          | (refine AWP_regS tOk rfl ?_; simp)
          | (refine AWP_skip ?_; simp)
          | (refine AWP_exit ?_; simp)
          | (refine AWP_ret ?_; simp)
          | refine AWP_block ?_
          | refine AWP_seq ?_)
        rw [checkR, ite_f (by simp [h, h1]), ite_f h2]

def checkedV (v : Val) : Val × Int := if (checkR v != 0) = true then (zeroV, checkR v) else (v, 0)
theorem pc_checked (v : Val) : PC Tryz.prog 35 [encV v] (fun r => r = .tup [encV (checkedV v).1, .i (checkedV v).2]) := by
  refine PC_body tOk Tryz.func35 rfl Tryz.results35 rfl (by simp [Tryz.ntmps35]) ?_
  rw [Tryz.ntmps35]
  simp only [argSlots]
  simp only [encV]
  repeat (first
    | (refine AWP_seq (AWP_regS tOk rfl ?_); simp)
    | (refine AWP_regS tOk rfl ?_; simp)
    | (refine AWP_skip ?_; simp)
    | (refine AWP_exit ?_; simp)
    | (refine AWP_ret ?_; simp)
    | refine AWP_block ?_
    | refine AWP_seq ?_)
  refine AStep_PC rfl rfl (by simp) (pc_Check v) rfl ?_
  rintro _ rfl
  simp
  repeat (first
    | (refine AWP_seq (AWP_regS tOk rfl ?_); simp)
    | (refine AWP_regS tOk rfl ?_; simp)
    | (refine AWP_skip ?_; simp)
    | (refine AWP_exit ?_; simp)
    | (refine AWP_ret ?_; simp)
    | refine AWP_block ?_
    | refine AWP_seq ?_)
  refine AWP_cond2 rfl (fun h => ?_) (fun h => ?_)
  · repeat (first
      | (refine AWP_seq (AWP_regS tOk rfl ?_); simp)
      | (refine AWP_regS tOk rfl ?_; simp)
      | (refine AWP_skip ?_; simp)
      | (refine AWP_exit ?_; simp)
      | (refine AWP_ret ?_; simp)
      | refine AWP_block ?_
      | refine AWP_seq ?_)
    rw [checkedV, ite_t h]
    simp [zeroV]
  · repeat (first
      | (refine AWP_seq (AWP_regS tOk rfl ?_); simp)
      | (refine AWP_regS tOk rfl ?_; simp)
      | (refine AWP_skip ?_; simp)
      | (refine AWP_exit ?_; simp)
      | (refine AWP_ret ?_; simp)
      | refine AWP_block ?_
      | refine AWP_seq ?_)
    rw [checkedV, ite_f h]
    simp
theorem pc_Int (n : Int) : PC Tryz.prog 16 [.i n] (fun r => r = .tup [encV (checkedV ⟨0, n, []⟩).1, .i (checkedV ⟨0, n, []⟩).2]) := by
  refine PC_body tOk Tryz.func16 rfl Tryz.results16 rfl (by simp [Tryz.ntmps16]) ?_
  rw [Tryz.ntmps16]
  simp only [argSlots]
  repeat (first
    | (refine AWP_seq (AWP_regS tOk rfl ?_); simp)
    | (refine AWP_regS tOk rfl ?_; simp)
    | (refine AWP_skip ?_; simp)
    | (refine AWP_exit ?_; simp)
    | (refine AWP_ret ?_; simp)
    | refine AWP_block ?_
    | refine AWP_seq ?_)
  refine AStep_PC rfl rfl (by simp) (pc_checked ⟨0, n, []⟩) rfl ?_
  rintro _ rfl
  simp
  repeat (first
    | (refine AWP_seq (AWP_regS tOk rfl ?_); simp)
    | (refine AWP_regS tOk rfl ?_; simp)
    | (refine AWP_skip ?_; simp)
    | (refine AWP_exit ?_; simp)
    | (refine AWP_ret ?_; simp)
    | refine AWP_block ?_
    | refine AWP_seq ?_)
theorem pc_String (s : List UInt8) : PC Tryz.prog 14 [.str s] (fun r => r = .tup [encV (checkedV ⟨2, 0, s⟩).1, .i (checkedV ⟨2, 0, s⟩).2]) := by
  refine PC_body tOk Tryz.func14 rfl Tryz.results14 rfl (by simp [Tryz.ntmps14]) ?_
  rw [Tryz.ntmps14]
  simp only [argSlots]
  repeat (first
    | (refine AWP_seq (AWP_regS tOk rfl ?_); simp)
    | (refine AWP_regS tOk rfl ?_; simp)
    | (refine AWP_skip ?_; simp)
    | (refine AWP_exit ?_; simp)
    | (refine AWP_ret ?_; simp)
    | refine AWP_block ?_
    | refine AWP_seq ?_)
  refine AStep_PC rfl rfl (by simp) (pc_checked ⟨2, 0, s⟩) rfl ?_
  rintro _ rfl
  simp
  repeat (first
    | (refine AWP_seq (AWP_regS tOk rfl ?_); simp)
    | (refine AWP_regS tOk rfl ?_; simp)
    | (refine AWP_skip ?_; simp)
    | (refine AWP_exit ?_; simp)
    | (refine AWP_ret ?_; simp)
    | refine AWP_block ?_
    | refine AWP_seq ?_)
def boolV (b : Bool) : Val := ⟨1, if b = true then 1 else 0, []⟩
theorem pc_Bool (b : Bool) : PC Tryz.prog 9 [.bool b] (fun r => r = encV (boolV b)) := by
  refine PC_body tOk Tryz.func9 rfl Tryz.results9 rfl (by simp [Tryz.ntmps9]) ?_
  rw [Tryz.ntmps9]
  simp only [argSlots]
  repeat (first
    | (refine AWP_seq (AWP_regS tOk rfl ?_); simp)
    | (refine AWP_regS tOk rfl ?_; simp)
    | (refine AWP_skip ?_; simp)
    | (refine AWP_exit ?_; simp)
    | (refine AWP_ret ?_; simp)
    | refine AWP_block ?_
    | refine AWP_seq ?_)
  refine AWP_cond2 rfl (fun h => ?_) (fun h => ?_)
  · repeat (first
      | (refine AWP_seq (AWP_regS tOk rfl ?_); simp)
      | (refine AWP_regS tOk rfl ?_; simp)
      | (refine AWP_skip ?_; simp)
      | (refine AWP_exit ?_; simp)
      | (refine AWP_ret ?_; simp)
      | refine AWP_block ?_
      | refine AWP_seq ?_)
    simp [boolV, h]
  · repeat (first
      | (refine AWP_seq (AWP_regS tOk rfl ?_); simp)
      | (refine AWP_regS tOk rfl ?_; simp)
      | (refine AWP_skip ?_; simp)
      | (refine AWP_exit ?_; simp)
      | (refine AWP_ret ?_; simp)
      | refine AWP_block ?_
      | refine AWP_seq ?_)
    simp [boolV, h]
theorem pc_rBool (b : Bool) : PC Tryz.prog 17 [.bool b] (fun r => r = encV (boolV b)) := by
  refine PC_body tOk Tryz.func17 rfl Tryz.results17 rfl (by simp [Tryz.ntmps17]) ?_
  rw [Tryz.ntmps17]
  simp only [argSlots]
  repeat (first
    | (refine AWP_seq (AWP_regS tOk rfl ?_); simp)
    | (refine AWP_regS tOk rfl ?_; simp)
    | (refine AWP_skip ?_; simp)
    | (refine AWP_exit ?_; simp)
    | (refine AWP_ret ?_; simp)
    | refine AWP_block ?_
    | refine AWP_seq ?_)
  refine AWP_cond2 rfl (fun h => ?_) (fun h => ?_)
  · repeat (first
      | (refine AWP_seq (AWP_regS tOk rfl ?_); simp)
      | (refine AWP_regS tOk rfl ?_; simp)
      | (refine AWP_skip ?_; simp)
      | (refine AWP_exit ?_; simp)
      | (refine AWP_ret ?_; simp)
      | refine AWP_block ?_
      | refine AWP_seq ?_)
    simp [boolV, h]
  · repeat (first
      | (refine AWP_seq (AWP_regS tOk rfl ?_); simp)
      | (refine AWP_regS tOk rfl ?_; simp)
      | (refine AWP_skip ?_; simp)
      | (refine AWP_exit ?_; simp)
      | (refine AWP_ret ?_; simp)
      | refine AWP_block ?_
      | refine AWP_seq ?_)
    simp [boolV, h]

def rCheckR (v : Val) : Int := if (decide (v.kind < 0) || decide (2 < v.kind)) = true then 1 else if (v.kind == 2) = true then (if (v.num != 0) = true then 3 else if decide ((64 : Int) < v.text.length) = true then 13 else 0) else
  if (!v.text.isEmpty) = true then 3 else if (v.kind == 1 && (decide (v.num < 0) || decide (1 < v.num)) || decide (v.num < -1099511627776) || decide (1099511627776 < v.num)) = true then 2 else 0
theorem pc_rCheck (v : Val) : PC Tryz.prog 26 [encV v] (fun r => r = .i (rCheckR v)) := by
  refine PC_body tOk Tryz.func26 rfl Tryz.results26 rfl (by simp [Tryz.ntmps26]) ?_
  rw [Tryz.ntmps26]
  simp only [argSlots]
  simp only [encV]
  repeat (first
    | (refine AWP_seq (AWP_regS tOk rfl ?_); simp)
    | (refine AWP_regS tOk rfl ?_; simp)
    | (refine AWP_skip ?_; simp)
    | (refine AWP_exit ?_; simp)
    | (refine AWP_ret ?_; simp)
    | refine AWP_block ?_
    | refine AWP_seq ?_)
  refine AWP_cond2 rfl (fun h => ?_) (fun h => ?_)
  · repeat (first
      | (refine AWP_seq (AWP_regS tOk rfl ?_); simp)
      | (refine AWP_regS tOk rfl ?_; simp)
      | (refine AWP_skip ?_; simp)
      | (refine AWP_exit ?_; simp)
      | (refine AWP_ret ?_; simp)
      | refine AWP_block ?_
      | refine AWP_seq ?_)
    rw [rCheckR, ite_t h]
  repeat (first
    | (refine AWP_seq (AWP_regS tOk rfl ?_); simp)
    | (refine AWP_regS tOk rfl ?_; simp)
    | (refine AWP_skip ?_; simp)
    | (refine AWP_exit ?_; simp)
    | (refine AWP_ret ?_; simp)
    | refine AWP_block ?_
    | refine AWP_seq ?_)
  refine AWP_cond2 rfl (fun h1 => ?_) (fun h1 => ?_)
  · repeat (first
      | (refine AWP_seq (AWP_regS tOk rfl ?_); simp)
      | (refine AWP_regS tOk rfl ?_; simp)
      | (refine AWP_skip ?_; simp)
      | (refine AWP_exit ?_; simp)
      | (refine AWP_ret ?_; simp)
      | refine AWP_block ?_
      | refine AWP_seq ?_)
    refine AWP_cond2 rfl (fun h2 => ?_) (fun h2 => ?_)
    · repeat (first
        | (refine AWP_seq (AWP_regS tOk rfl ?_); simp)
        | (refine AWP_regS tOk rfl ?_; simp)
        | (refine AWP_skip ?_; simp)
        | (refine AWP_exit ?_; simp)
        | (refine AWP_ret ?_; simp)
        | refine AWP_block ?_
        | refine AWP_seq ?_)
      rw [rCheckR, ite_f h, ite_t h1, ite_t h2]
    repeat (first
      | (refine AWP_seq (AWP_regS tOk rfl ?_); simp)
      | (refine AWP_regS tOk rfl ?_; simp)
      | (refine AWP_skip ?_; simp)
      | (refine AWP_exit ?_; simp)
      | (refine AWP_ret ?_; simp)
      | refine AWP_block ?_
      | refine AWP_seq ?_)
    refine AWP_cond2 rfl (fun h3 => ?_) (fun h3 => ?_)
    · repeat (first
        | (refine AWP_seq (AWP_regS tOk rfl ?_); simp)
        | (refine AWP_regS tOk rfl ?_; simp)
        | (refine AWP_skip ?_; simp)
        | (refine AWP_exit ?_; simp)
        | (refine AWP_ret ?_; simp)
        | refine AWP_block ?_
        | refine AWP_seq ?_)
      rw [rCheckR, ite_f h, ite_t h1, ite_f h2, ite_t h3]
    repeat (first
      | (refine AWP_seq (AWP_regS tOk rfl ?_); simp)
      | (refine AWP_regS tOk rfl ?_; simp)
      | (refine AWP_skip ?_; simp)
      | (refine AWP_exit ?_; simp)
      | (refine AWP_ret ?_; simp)
      | refine AWP_block ?_
      | refine AWP_seq ?_)
    rw [rCheckR, ite_f h, ite_t h1, ite_f h2, ite_f h3]
  repeat (first
    | (refine AWP_seq (AWP_regS tOk rfl ?_); simp)
    | (refine AWP_regS tOk rfl ?_; simp)
    | (refine AWP_skip ?_; simp)
    | (refine AWP_exit ?_; simp)
    | (refine AWP_ret ?_; simp)
    | refine AWP_block ?_
    | refine AWP_seq ?_)
  refine AWP_cond2 rfl (fun h2 => ?_) (fun h2 => ?_)
  · repeat (first
      | (refine AWP_seq (AWP_regS tOk rfl ?_); simp)
      | (refine AWP_regS tOk rfl ?_; simp)
      | (refine AWP_skip ?_; simp)
      | (refine AWP_exit ?_; simp)
      | (refine AWP_ret ?_; simp)
      | refine AWP_block ?_
      | refine AWP_seq ?_)
    rw [rCheckR, ite_f h, ite_f h1, ite_t h2]
  repeat (first
    | (refine AWP_seq (AWP_regS tOk rfl ?_); simp)
    | (refine AWP_regS tOk rfl ?_; simp)
    | (refine AWP_skip ?_; simp)
    | (refine AWP_exit ?_; simp)
    | (refine AWP_ret ?_; simp)
    | refine AWP_block ?_
    | refine AWP_seq ?_)
  refine AWP_cond2 rfl (fun h3 => ?_) (fun h3 => ?_)
  · repeat (first
      | (refine AWP_seq (AWP_regS tOk rfl ?_); simp)
      | (refine AWP_regS tOk rfl ?_; simp)
      | (refine AWP_skip ?_; simp)
      | (refine AWP_exit ?_; simp)
      | (refine AWP_ret ?_; simp)
      | refine AWP_block ?_
      | refine AWP_seq ?_)
    rw [rCheckR, ite_f h, ite_f h1, ite_f h2, ite_t h3]
  repeat (first
    | (refine AWP_seq (AWP_regS tOk rfl ?_); simp)
    | (refine AWP_regS tOk rfl ?_; simp)
    | (refine AWP_skip ?_; simp)
    | (refine AWP_exit ?_; simp)
    | (refine AWP_ret ?_; simp)
    | refine AWP_block ?_
    | refine AWP_seq ?_)
  rw [rCheckR, ite_f h, ite_f h1, ite_f h2, ite_f h3]
theorem pc_rNum (n : Int) : PC Tryz.prog 41 [.i n] (fun r => r = encV ⟨0, n, []⟩) := by
  refine PC_body tOk Tryz.func41 rfl Tryz.results41 rfl (by simp [Tryz.ntmps41]) ?_
  rw [Tryz.ntmps41]
  simp only [argSlots]
  repeat (first
    | (refine AWP_seq (AWP_regS tOk rfl ?_); simp)
    | (refine AWP_regS tOk rfl ?_; simp)
    | (refine AWP_skip ?_; simp)
    | (refine AWP_exit ?_; simp)
    | (refine AWP_ret ?_; simp)
    | refine AWP_block ?_
    | refine AWP_seq ?_)
theorem pc_rText (s : List UInt8) : PC Tryz.prog 40 [.str s] (fun r => r = encV ⟨2, 0, s⟩) := by
  refine PC_body tOk Tryz.func40 rfl Tryz.results40 rfl (by simp [Tryz.ntmps40]) ?_
  rw [Tryz.ntmps40]
  simp only [argSlots]
  repeat (first
    | (refine AWP_seq (AWP_regS tOk rfl ?_); simp)
    | (refine AWP_regS tOk rfl ?_; simp)
    | (refine AWP_skip ?_; simp)
    | (refine AWP_exit ?_; simp)
    | (refine AWP_ret ?_; simp)
    | refine AWP_block ?_
    | refine AWP_seq ?_)
def rIntR (n : Int) : Val × Int := if (decide (n < -1099511627776) || decide (1099511627776 < n)) = true then (zeroV, 2) else (⟨0, n, []⟩, 0)
theorem pc_rInt (n : Int) : PC Tryz.prog 21 [.i n] (fun r => r = .tup [encV (rIntR n).1, .i (rIntR n).2]) := by
  refine PC_body tOk Tryz.func21 rfl Tryz.results21 rfl (by simp [Tryz.ntmps21]) ?_
  rw [Tryz.ntmps21]
  simp only [argSlots]
  repeat (first
    | (refine AWP_seq (AWP_regS tOk rfl ?_); simp)
    | (refine AWP_regS tOk rfl ?_; simp)
    | (refine AWP_skip ?_; simp)
    | (refine AWP_exit ?_; simp)
    | (refine AWP_ret ?_; simp)
    | refine AWP_block ?_
    | refine AWP_seq ?_)
  refine AWP_cond2 rfl (fun h => ?_) (fun h => ?_)
  · repeat (first
      | (refine AWP_seq (AWP_regS tOk rfl ?_); simp)
      | (refine AWP_regS tOk rfl ?_; simp)
      | (refine AWP_skip ?_; simp)
      | (refine AWP_exit ?_; simp)
      | (refine AWP_ret ?_; simp)
      | refine AWP_block ?_
      | refine AWP_seq ?_)
    rw [rIntR, ite_t h]
    simp [zeroV]
  repeat (first
    | (refine AWP_seq (AWP_regS tOk rfl ?_); simp)
    | (refine AWP_regS tOk rfl ?_; simp)
    | (refine AWP_skip ?_; simp)
    | (refine AWP_exit ?_; simp)
    | (refine AWP_ret ?_; simp)
    | refine AWP_block ?_
    | refine AWP_seq ?_)
  refine AStep_PC rfl rfl (by simp) (pc_rNum n) rfl ?_
  rintro _ rfl
  simp
  repeat (first
    | (refine AWP_seq (AWP_regS tOk rfl ?_); simp)
    | (refine AWP_regS tOk rfl ?_; simp)
    | (refine AWP_skip ?_; simp)
    | (refine AWP_exit ?_; simp)
    | (refine AWP_ret ?_; simp)
    | refine AWP_block ?_
    | refine AWP_seq ?_)
  rw [rIntR, ite_f h]
  simp
def rStringR (s : List UInt8) : Val × Int := if decide ((64 : Int) < s.length) = true then (zeroV, 13) else (⟨2, 0, s⟩, 0)
theorem pc_rString (s : List UInt8) : PC Tryz.prog 19 [.str s] (fun r => r = .tup [encV (rStringR s).1, .i (rStringR s).2]) := by
  refine PC_body tOk Tryz.func19 rfl Tryz.results19 rfl (by simp [Tryz.ntmps19]) ?_
  rw [Tryz.ntmps19]
  simp only [argSlots]
  repeat (first
    | (refine AWP_seq (AWP_regS tOk rfl ?_); simp)
    | (refine AWP_regS tOk rfl ?_; simp)
    | (refine AWP_skip ?_; simp)
    | (refine AWP_exit ?_; simp)
    | (refine AWP_ret ?_; simp)
    | refine AWP_block ?_
    | refine AWP_seq ?_)
  refine AWP_cond2 rfl (fun h => ?_) (fun h => ?_)
  · repeat (first
      | (refine AWP_seq (AWP_regS tOk rfl ?_); simp)
      | (refine AWP_regS tOk rfl ?_; simp)
      | (refine AWP_skip ?_; simp)
      | (refine AWP_exit ?_; simp)
      | (refine AWP_ret ?_; simp)
      | refine AWP_block ?_
      | refine AWP_seq ?_)
    rw [rStringR, ite_t h]
    simp [zeroV]
  repeat (first
    | (refine AWP_seq (AWP_regS tOk rfl ?_); simp)
    | (refine AWP_regS tOk rfl ?_; simp)
    | (refine AWP_skip ?_; simp)
    | (refine AWP_exit ?_; simp)
    | (refine AWP_ret ?_; simp)
    | refine AWP_block ?_
    | refine AWP_seq ?_)
  refine AStep_PC rfl rfl (by simp) (pc_rText s) rfl ?_
  rintro _ rfl
  simp
  repeat (first
    | (refine AWP_seq (AWP_regS tOk rfl ?_); simp)
    | (refine AWP_regS tOk rfl ?_; simp)
    | (refine AWP_skip ?_; simp)
    | (refine AWP_exit ?_; simp)
    | (refine AWP_ret ?_; simp)
    | refine AWP_block ?_
    | refine AWP_seq ?_)
  rw [rStringR, ite_f h]
  simp
end Go.Abs
set_option maxRecDepth 100000
namespace Go.Abs
open Go Go.Proofs
set_option linter.unusedSimpArgs false

def firstErr (f : Val → Int) : List Val → Int
  | [] => 0
  | v :: r => if (f v != 0) = true then f v else firstErr f r
def checkAllR (f : Val → Int) (l : List Val) : Int := if decide ((256 : Int) < l.length) = true then 5 else firstErr f l
theorem drop_get {α : Type} {l : List α} {j : Nat} (h : j < l.length) : l.drop j = l[j] :: l.drop (j + 1) := List.drop_eq_getElem_cons h
def cmpI (a b : Int) : Int := if decide (a < b) = true then -1 else if decide (b < a) = true then 1 else 0
theorem pc_isNaN (a : Int) : PC Tryz.prog 50 [.i a] (fun r => r = .bool false) := by
  refine PC_body tOk Tryz.func50 rfl Tryz.results50 rfl (by simp [Tryz.ntmps50]) ?_
  rw [Tryz.ntmps50]
  simp only [argSlots]
  repeat (first
    | (refine AWP_seq (AWP_regS tOk rfl ?_); simp)
    | (refine AWP_regS tOk rfl ?_; simp)
    | (refine AWP_skip ?_; simp)
    | (refine AWP_exit ?_; simp)
    | (refine AWP_ret ?_; simp)
    | refine AWP_block ?_
    | refine AWP_seq ?_)
theorem pc_cmpInt (a b : Int) : PC Tryz.prog 29 [.i a, .i b] (fun r => r = .i (cmpI a b)) := by
  refine PC_body tOk Tryz.func29 rfl Tryz.results29 rfl (by simp [Tryz.ntmps29]) ?_
  rw [Tryz.ntmps29]
  simp only [argSlots]
  repeat (first
    | (refine AWP_seq (AWP_regS tOk rfl ?_); simp)
    | (refine AWP_regS tOk rfl ?_; simp)
    | (refine AWP_skip ?_; simp)
    | (refine AWP_exit ?_; simp)
    | (refine AWP_ret ?_; simp)
    | refine AWP_block ?_
    | refine AWP_seq ?_)
  refine AStep_PC rfl rfl (by simp) (pc_isNaN a) rfl ?_
  rintro _ rfl
  simp
  repeat (first
    | (refine AWP_seq (AWP_regS tOk rfl ?_); simp)
    | (refine AWP_regS tOk rfl ?_; simp)
    | (refine AWP_skip ?_; simp)
    | (refine AWP_exit ?_; simp)
    | (refine AWP_ret ?_; simp)
    | refine AWP_block ?_
    | refine AWP_seq ?_)
  refine AStep_PC rfl rfl (by simp) (pc_isNaN b) rfl ?_
  rintro _ rfl
  simp
  repeat (first
    | (refine AWP_seq (AWP_regS tOk rfl ?_); simp)
    | (refine AWP_regS tOk rfl ?_; simp)
    | (refine AWP_skip ?_; simp)
    | (refine AWP_exit ?_; simp)
    | (refine AWP_ret ?_; simp)
    | refine AWP_block ?_
    | refine AWP_seq ?_)
  refine AWP_cond rfl ?_
  repeat (first
    | (refine AWP_seq (AWP_regS tOk rfl ?_); simp)
    | (refine AWP_regS tOk rfl ?_; simp)
    | (refine AWP_skip ?_; simp)
    | (refine AWP_exit ?_; simp)
    | (refine AWP_ret ?_; simp)
    | refine AWP_block ?_
    | refine AWP_seq ?_)
  refine AWP_cond rfl ?_
  repeat (first
    | (refine AWP_seq (AWP_regS tOk rfl ?_); simp)
    | (refine AWP_regS tOk rfl ?_; simp)
    | (refine AWP_skip ?_; simp)
    | (refine AWP_exit ?_; simp)
    | (refine AWP_ret ?_; simp)
    | refine AWP_block ?_
    | refine AWP_seq ?_)
  refine AWP_cond2 rfl (fun h => ?_) (fun h => ?_)
  · repeat (first
      | (refine AWP_seq (AWP_regS tOk rfl ?_); simp)
      | (refine AWP_regS tOk rfl ?_; simp)
      | (refine AWP_skip ?_; simp)
      | (refine AWP_exit ?_; simp)
      | (refine AWP_ret ?_; simp)
      | refine AWP_block ?_
      | refine AWP_seq ?_)
    rw [cmpI, ite_t h]
  repeat (first
    | (refine AWP_seq (AWP_regS tOk rfl ?_); simp)
    | (refine AWP_regS tOk rfl ?_; simp)
    | (refine AWP_skip ?_; simp)
    | (refine AWP_exit ?_; simp)
    | (refine AWP_ret ?_; simp)
    | refine AWP_block ?_
    | refine AWP_seq ?_)
  refine AWP_cond2 rfl (fun h1 => ?_) (fun h1 => ?_)
  · repeat (first
      | (refine AWP_seq (AWP_regS tOk rfl ?_); simp)
      | (refine AWP_regS tOk rfl ?_; simp)
      | (refine AWP_skip ?_; simp)
      | (refine AWP_exit ?_; simp)
      | (refine AWP_ret ?_; simp)
      | refine AWP_block ?_
      | refine AWP_seq ?_)
    rw [cmpI, ite_f h, ite_t h1]
  · repeat (first
      | (refine AWP_seq (AWP_regS tOk rfl ?_); simp)
      | (refine AWP_regS tOk rfl ?_; simp)
      | (refine AWP_skip ?_; simp)
      | (refine AWP_exit ?_; simp)
      | (refine AWP_ret ?_; simp)
      | refine AWP_block ?_
      | refine AWP_seq ?_)
    rw [cmpI, ite_f h, ite_f h1]
def cmpS (a b : List UInt8) : Int := if Op.bytesLess a b = true then -1 else if Op.bytesLess b a = true then 1 else 0
theorem pc_cmp1 (a b : Val) : PC Tryz.prog 28 [encV a, encV b] (fun r => r = .i (cmpI a.kind b.kind)) := by
  refine PC_body tOk Tryz.func28 rfl Tryz.results28 rfl (by simp [Tryz.ntmps28]) ?_
  rw [Tryz.ntmps28]
  simp only [argSlots]
  simp only [encV]
  repeat (first
    | (refine AWP_seq (AWP_regS tOk rfl ?_); simp)
    | (refine AWP_regS tOk rfl ?_; simp)
    | (refine AWP_skip ?_; simp)
    | (refine AWP_exit ?_; simp)
    | (refine AWP_ret ?_; simp)
    | refine AWP_block ?_
    | refine AWP_seq ?_)
  refine AStep_PC rfl rfl (by simp) (pc_cmpInt a.kind b.kind) rfl ?_
  rintro _ rfl
  simp
  repeat (first
    | (refine AWP_seq (AWP_regS tOk rfl ?_); simp)
    | (refine AWP_regS tOk rfl ?_; simp)
    | (refine AWP_skip ?_; simp)
    | (refine AWP_exit ?_; simp)
    | (refine AWP_ret ?_; simp)
    | refine AWP_block ?_
    | refine AWP_seq ?_)
theorem pc_cmp2 (a b : Val) : PC Tryz.prog 30 [encV a, encV b] (fun r => r = .i (cmpI a.num b.num)) := by
  refine PC_body tOk Tryz.func30 rfl Tryz.results30 rfl (by simp [Tryz.ntmps30]) ?_
  rw [Tryz.ntmps30]
  simp only [argSlots]
  simp only [encV]
  repeat (first
    | (refine AWP_seq (AWP_regS tOk rfl ?_); simp)
    | (refine AWP_regS tOk rfl ?_; simp)
    | (refine AWP_skip ?_; simp)
    | (refine AWP_exit ?_; simp)
    | (refine AWP_ret ?_; simp)
    | refine AWP_block ?_
    | refine AWP_seq ?_)
  refine AStep_PC rfl rfl (by simp) (pc_cmpInt a.num b.num) rfl ?_
  rintro _ rfl
  simp
  repeat (first
    | (refine AWP_seq (AWP_regS tOk rfl ?_); simp)
    | (refine AWP_regS tOk rfl ?_; simp)
    | (refine AWP_skip ?_; simp)
    | (refine AWP_exit ?_; simp)
    | (refine AWP_ret ?_; simp)
    | refine AWP_block ?_
    | refine AWP_seq ?_)
def rCompR (a b : Val) : Int := if (a.kind != b.kind) = true then cmpI a.kind b.kind else if (a.num != b.num) = true then cmpI a.num b.num else if Op.bytesLess a.text b.text = true then -1 else if (!Op.bytesLess a.text b.text && !a.text == b.text) = true then 1 else 0
def fmix (h : Int) (c : UInt8) : Int := Int.tmod (W (bits .xor .i64 h (W c.toNat) * 16777619)) 4294967296
end Go.Abs
/-
  DERIVED: THE SHELF's CONTRACTS AT THIS DUMP, IN PLAIN WORDS (tools/lay-plain.mjs out of 'TryzShelf.lean', which tools/lay-shelf.mjs wrote): THE SAME DECLARATIONS UNDER THE SAME NAMES: 'import', 'namespace', 'open', 'def', 'theorem' AND NOTHING ELSE: no command of the shelf's: FOR A HAND-IN. Each laying: the table of numbers ('.._ren') and one theorem, a field a fact of the dump's own or the kernel's comparison; each contract: ONE APPLICATION.
-/
namespace Go.Proofs
open Go.Shelf
def Tryz.lays106_ren : Go.Shelf.Ren := ⟨fun | 106 => 31 | 213 => 51 | 265 => 66 | n => n, fun | 9 => 9 | 3 => 3 | n => n, fun | n => n⟩
theorem Tryz.lays106 : Go.Proofs.Lays.n106 Tryz.prog Tryz.lays106_ren := {
  mixed := by kernel_rfl
  f106 := Tryz.func31.trans (congrArg some (by kernel_rfl))
  f213 := Tryz.func51.trans (congrArg some (by kernel_rfl))
  f265 := Tryz.func66.trans (congrArg some (by kernel_rfl))
  t3 := Tryz.underlying3
  a3 := Tryz.isAgg3
  z3 := Tryz.sizeOf3
  v3 := Tryz.zeroValue3
  t9 := Tryz.underlying9
  a9 := Tryz.isAgg9
  z9 := Tryz.sizeOf9
  v9 := Tryz.zeroValue9 }
open Go.RowKit in
/-- strings.Compare: "Compare returns an integer comparing two strings lexicographically. The result will be 0 if a == b, -1 if a < b, and +1 if a > b.": IT RETURNS 'Lib.compareBytes a b'; the world is as it was. (LAID: no walk: one application.) -/
theorem Tryz.strings_Compare (a b : ByteArray) (w : World) :
    Calls Tryz.prog 31 #[.string a, .string b] w fun e w' => e = .returned (.int .i64 (Lib.compareBytes a.data.toList b.data.toList)) ∧ w' = w := Any.strings_Compare Tryz.lays106 a b w
def Tryz.lays137_ren : Go.Shelf.Ren := ⟨fun | 137 => 52 | 217 => 67 | 266 => 82 | n => n, fun | 9 => 9 | 5 => 5 | 3 => 3 | n => n, fun | n => n⟩
theorem Tryz.lays137 : Go.Proofs.Lays.n137 Tryz.prog Tryz.lays137_ren := {
  mixed := by kernel_rfl
  f137 := Tryz.func52.trans (congrArg some (by kernel_rfl))
  f217 := Tryz.func67.trans (congrArg some (by kernel_rfl))
  f266 := Tryz.func82.trans (congrArg some (by kernel_rfl))
  t3 := Tryz.underlying3
  a3 := Tryz.isAgg3
  z3 := Tryz.sizeOf3
  v3 := Tryz.zeroValue3
  t5 := Tryz.underlying5
  a5 := Tryz.isAgg5
  z5 := Tryz.sizeOf5
  v5 := Tryz.zeroValue5
  t9 := Tryz.underlying9
  a9 := Tryz.isAgg9
  z9 := Tryz.sizeOf9
  v9 := Tryz.zeroValue9 }
open Go.RowKit in
/-- strings.IndexByte: "IndexByte returns the index of the first instance of c in s, or -1 if c is not present in s.": IT RETURNS 'Lib.indexByte s c'; the world is as it was. (LAID: no walk: one application.) -/
theorem Tryz.strings_IndexByte (s : ByteArray) (c : Int) (w : World) :
    Calls Tryz.prog 52 #[.string s, .int .u8 c] w fun e w' => e = .returned (.int .i64 (Lib.indexByte s.data.toList c.toNat.toUInt8)) ∧ w' = w := Any.strings_IndexByte Tryz.lays137 s c w
def Tryz.laysM171_ren : Go.Shelf.Ren := ⟨fun | 171 => 23 | 243 => 43 | 246 => 63 | 283 => 77 | 284 => 78 | 285 => 79 | 286 => 80 | 129 => 90 | 317 => 89 | 318 => 91 | 319 => 92 | 320 => 93 | 337 => 99 | 338 => 100 | n => n, fun | 3 => 3 | 9 => 9 | 2 => 2 | 4 => 4 | 171 => 99 | 0 => 0 | 53 => 100 | 37 => 53 | 5 => 5 | 173 => 103 | 212 => 115 | 51 => 54 | 20 => 20 | 213 => 116 | 46 => 74 | 232 => 129 | 233 => 130 | n => n, fun | 17 => 3 | 18 => 6 | 19 => 7 | n => n⟩
theorem Tryz.laysM171 : Go.Proofs.LaysM.n171 Tryz.prog Tryz.laysM171_ren := {
  mixed := by kernel_rfl
  f129 := Tryz.func90.trans (congrArg some (by kernel_rfl))
  f171 := Tryz.func23.trans (congrArg some (by kernel_rfl))
  f243 := Tryz.func43.trans (congrArg some (by kernel_rfl))
  f246 := Tryz.func63.trans (congrArg some (by kernel_rfl))
  f283 := Tryz.func77.trans (congrArg some (by kernel_rfl))
  f284 := Tryz.func78.trans (congrArg some (by kernel_rfl))
  f285 := Tryz.func79.trans (congrArg some (by kernel_rfl))
  f286 := Tryz.func80.trans (congrArg some (by kernel_rfl))
  f317 := Tryz.func89.trans (congrArg some (by kernel_rfl))
  f318 := Tryz.func91.trans (congrArg some (by kernel_rfl))
  f319 := Tryz.func92.trans (congrArg some (by kernel_rfl))
  f320 := Tryz.func93.trans (congrArg some (by kernel_rfl))
  f337 := Tryz.func99.trans (congrArg some (by kernel_rfl))
  f338 := Tryz.func100.trans (congrArg some (by kernel_rfl))
  t0 := Tryz.underlying0
  a0 := Tryz.isAgg0
  z0 := Tryz.sizeOf0
  v0 := Tryz.zeroValue0
  t2 := Tryz.underlying2
  a2 := Tryz.isAgg2
  z2 := Tryz.sizeOf2
  v2 := Tryz.zeroValue2
  t3 := Tryz.underlying3
  a3 := Tryz.isAgg3
  z3 := Tryz.sizeOf3
  v3 := Tryz.zeroValue3
  t4 := Tryz.underlying4
  a4 := Tryz.isAgg4
  z4 := Tryz.sizeOf4
  v4 := Tryz.zeroValue4
  t5 := Tryz.underlying5
  a5 := Tryz.isAgg5
  z5 := Tryz.sizeOf5
  v5 := Tryz.zeroValue5
  t9 := Tryz.underlying9
  a9 := Tryz.isAgg9
  z9 := Tryz.sizeOf9
  v9 := Tryz.zeroValue9
  t20 := Tryz.underlying20
  a20 := Tryz.isAgg20
  z20 := Tryz.sizeOf20
  v20 := Tryz.zeroValue20
  t37 := Tryz.underlying53
  a37 := Tryz.isAgg53
  z37 := Tryz.sizeOf53
  v37 := Tryz.zeroValue53
  t46 := Tryz.underlying74
  a46 := Tryz.isAgg74
  z46 := Tryz.sizeOf74
  v46 := Tryz.zeroValue74
  t51 := Tryz.underlying54
  a51 := Tryz.isAgg54
  z51 := Tryz.sizeOf54
  v51 := Tryz.zeroValue54
  t53 := Tryz.underlying100
  a53 := Tryz.isAgg100
  z53 := Tryz.sizeOf100
  v53 := Tryz.zeroValue100
  t171 := Tryz.underlying99
  a171 := Tryz.isAgg99
  z171 := Tryz.sizeOf99
  v171 := Tryz.zeroValue99
  t173 := Tryz.underlying103
  a173 := Tryz.isAgg103
  z173 := Tryz.sizeOf103
  v173 := Tryz.zeroValue103
  t212 := Tryz.underlying115
  a212 := Tryz.isAgg115
  z212 := Tryz.sizeOf115
  v212 := Tryz.zeroValue115
  t213 := Tryz.underlying116
  a213 := Tryz.isAgg116
  z213 := Tryz.sizeOf116
  t232 := Tryz.underlying129
  a232 := Tryz.isAgg129
  z232 := Tryz.sizeOf129
  v232 := Tryz.zeroValue129
  t233 := Tryz.underlying130
  a233 := Tryz.isAgg130
  z233 := Tryz.sizeOf130
  v233 := Tryz.zeroValue130
  g17 := by kernel_rfl
  g18 := by kernel_rfl
  g19 := by kernel_rfl
  i0 := by kernel_rfl
  i2 := by kernel_rfl
  i3 := by kernel_rfl
  i4 := by kernel_rfl
  i5 := by kernel_rfl
  i9 := by kernel_rfl
  i20 := by kernel_rfl
  i37 := by kernel_rfl
  i46 := by kernel_rfl
  i51 := by kernel_rfl
  i53 := by kernel_rfl
  i171 := by kernel_rfl
  i173 := by kernel_rfl
  i212 := by kernel_rfl
  i232 := by kernel_rfl
  i233 := by kernel_rfl
  m17 := by kernel_rfl
  m18 := by kernel_rfl
  m19 := by kernel_rfl }
open Go.RowKit Go.Sort Go.Lib in
/-- strconv.Itoa: "Itoa is equivalent to FormatInt(int64(i), 10).": i's DECIMAL NUMERAL ('Lib.itoa': a '-' where i is negative, then the digits), FOR EVERY int. The world behind the call: the world before it, new blocks behind the heap (the library's 'var a [24]byte'), draws. (LAID: no walk: one application.) -/
theorem Tryz.strconv_Itoa (n : Int) (h0 : -9223372036854775808 ≤ n) (h1 : n ≤ 9223372036854775807) (w : World) (htab : Lib.TabIs Tryz.prog w "internal/strconv.uint64pow10" .u64 Lib.pow10Tab) :
    Calls Tryz.prog 23 #[.int .i64 n] w fun e w' => e = .returned (.string ⟨(Lib.itoa n).toArray⟩) ∧ ∃ k os, w' = grow (w.drewN k) os := Any.strconv_Itoa Tryz.laysM171 n h0 h1 w htab
end Go.Proofs
set_option maxRecDepth 100000
namespace Go.Abs
open Go Go.Proofs
set_option linter.unusedSimpArgs false

theorem callable_Itoa : Callable Tryz.prog 23 := callable Tryz.func23 rfl (by kernel_rfl)
theorem pc_Itoa (n : Int) (h0 : -9223372036854775808 ≤ n) (h1 : n ≤ 9223372036854775807) : PC Tryz.prog 23 [.i n] (fun r => r = .str (Lib.itoa n)) :=
  PC_ext (us := [.int .i64 n]) callable_Itoa rfl fun w I hE => (Tryz.strconv_Itoa n h0 h1 w (pow10_tab hE)).mono fun e w' ⟨h, k, os, hw⟩ => ⟨⟨_, _, rfl, h, .str _⟩, by rw [hw]; exact Lib.below_grow _ w (Nat.le_refl _) k os⟩
theorem callable_Cmp : Callable Tryz.prog 31 := callable Tryz.func31 rfl (by kernel_rfl)
theorem pc_Cmp (a b : List UInt8) : PC Tryz.prog 31 [.str a, .str b] (fun r => r = .i (Lib.compareBytes a b)) :=
  PC_ext (us := [.string ⟨a.toArray⟩, .string ⟨b.toArray⟩]) callable_Cmp rfl fun w I hE => (Tryz.strings_Compare _ _ w).mono fun e w' ⟨h, hw⟩ => ⟨⟨_, _, rfl, h, by simpa using PVR.int .i64 _⟩, by rw [hw]; exact RowKit.Below.refl _ _⟩
theorem callable_Ixb : Callable Tryz.prog 52 := callable Tryz.func52 rfl (by kernel_rfl)
theorem pc_Ixb (s : List UInt8) (c : UInt8) : PC Tryz.prog 52 [.str s, .int .u8 c.toNat] (fun r => r = .i (Lib.indexByte s c)) :=
  PC_ext (us := [.string ⟨s.toArray⟩, .int .u8 c.toNat]) callable_Ixb rfl fun w I hE => (Tryz.strings_IndexByte _ _ w).mono fun e w' ⟨h, hw⟩ => ⟨⟨_, _, rfl, h, by
    have : ((c.toNat : Int).toNat).toUInt8 = c := by simp
    rw [this]
    exact PVR.int .i64 _⟩, by rw [hw]; exact RowKit.Below.refl _ _⟩
end Go.Abs
set_option maxRecDepth 100000
namespace Go.Abs
open Go Go.Proofs
set_option linter.unusedSimpArgs false
attribute [simp] T72 T70 T105 T64 T87
theorem set_same {α : Type} (l : List α) (i : Nat) (x : α) (h : l[i]? = some x) : l.set i x = l := by
  refine List.ext_getElem? fun k => ?_
  rw [List.getElem?_set]
  split
  · rename_i e; subst e; rw [h]; simp [(List.getElem?_eq_some_iff.1 h).1]
  · rfl
set_option maxHeartbeats 400000 in
theorem fc_copyCheck (H : List AObj) (id q : Nat) (p buf : AV) (hp : p = .nilp ∨ p = .vptr id 0) (hid : H[id]? = some (.vars [p, buf])) (hq : H[q]? = some (.tag id 72)) :
    FC Tryz.prog 64 [.vptr id 0] H (fun r H' => r = .tup [] ∧ H' = H.set id (.vars [.vptr id 0, buf])) := by
  refine FC_body tOk Tryz.func64 rfl Tryz.results64 rfl (by simp [Tryz.ntmps64]) ?_
  rw [Tryz.ntmps64]
  simp only [argSlots]
  rcases hp with rfl | rfl
  · repeat (first
      | (refine AWP_seq (AWP_regS tOk rfl ?_); simp [hid])
      | (refine AWP_regS tOk rfl ?_; simp [hid])
      | (refine AWP_skip ?_; simp [hid])
      | (refine AWP_exit ?_; simp [hid])
      | (refine AWP_ret ?_; simp [hid])
      | refine AWP_block ?_
      | refine AWP_seq ?_)
    refine AWP_cond rfl ?_
    repeat (first
      | (refine AWP_seq (AWP_regS tOk rfl ?_); simp [hid])
      | (refine AWP_regS tOk rfl ?_; simp [hid])
      | (refine AWP_skip ?_; simp [hid])
      | (refine AWP_exit ?_; simp [hid])
      | (refine AWP_ret ?_; simp [hid])
      | refine AWP_block ?_
      | refine AWP_seq ?_)
    refine AStep_toUnsafe tOk rfl rfl rfl T70 rfl T72 (by decide) T105 rfl rfl hid (by simp) ?_
    simp
    refine AStep_noEscape rfl rfl rfl Tryz.func81 (by kernel_rfl) (by kernel_rfl) (by kernel_rfl) (by kernel_rfl) ?_
    simp
    refine AStep_fromUnsafe tOk rfl rfl rfl T105 rfl T72 T70 rfl q rfl hid hq (by kernel_rfl) ?_
    simp [hid]
    repeat (first
      | (refine AWP_seq (AWP_regS tOk rfl ?_); simp [hid])
      | (refine AWP_regS tOk rfl ?_; simp [hid])
      | (refine AWP_skip ?_; simp [hid])
      | (refine AWP_exit ?_; simp [hid])
      | (refine AWP_ret ?_; simp [hid])
      | refine AWP_block ?_
      | refine AWP_seq ?_)
  · repeat (first
      | (refine AWP_seq (AWP_regS tOk rfl ?_); simp [hid])
      | (refine AWP_regS tOk rfl ?_; simp [hid])
      | (refine AWP_skip ?_; simp [hid])
      | (refine AWP_exit ?_; simp [hid])
      | (refine AWP_ret ?_; simp [hid])
      | refine AWP_block ?_
      | refine AWP_seq ?_)
    refine AWP_cond rfl ?_
    repeat (first
      | (refine AWP_seq (AWP_regS tOk rfl ?_); simp [hid])
      | (refine AWP_regS tOk rfl ?_; simp [hid])
      | (refine AWP_skip ?_; simp [hid])
      | (refine AWP_exit ?_; simp [hid])
      | (refine AWP_ret ?_; simp [hid])
      | refine AWP_block ?_
      | refine AWP_seq ?_)
    refine AStep_ptrSame tOk rfl rfl rfl T70 rfl T72 rfl rfl ?_
    simp [hid]
    repeat (first
      | (refine AWP_seq (AWP_regS tOk rfl ?_); simp [hid])
      | (refine AWP_regS tOk rfl ?_; simp [hid])
      | (refine AWP_skip ?_; simp [hid])
      | (refine AWP_exit ?_; simp [hid])
      | (refine AWP_ret ?_; simp [hid])
      | refine AWP_block ?_
      | refine AWP_seq ?_)
    refine AWP_cond rfl ?_
    repeat (first
      | (refine AWP_seq (AWP_regS tOk rfl ?_); simp [hid])
      | (refine AWP_regS tOk rfl ?_; simp [hid])
      | (refine AWP_skip ?_; simp [hid])
      | (refine AWP_exit ?_; simp [hid])
      | (refine AWP_ret ?_; simp [hid])
      | refine AWP_block ?_
      | refine AWP_seq ?_)
    rw [set_same _ _ _ hid]
def bytesA (s : List UInt8) : List AV := s.map byteAV
/-- A builder: object 0 its two cells, object 1 its tag, object 2 the bytes. -/
def bld (p : AV) (s : List UInt8) : List AObj := [.vars [p, .sl 2 1 0 s.length], .tag 0 72, .arr 5 1 (s.map byteAV)]
set_option maxHeartbeats 400000 in
theorem fc_WriteByte (p : AV) (hp : p = .nilp ∨ p = .vptr 0 0) (s : List UInt8) (c : UInt8) (hl : s.length ≤ 100000000) :
    FC Tryz.prog 45 [.vptr 0 0, .int .u8 c.toNat] (bld p s) (fun r H' => r = .nili ∧ ∃ G, H' = [.vars [.vptr 0 0, .sl 4 1 0 (s ++ [c]).length], .tag 0 72, .dead, G, .arr 5 1 ((s ++ [c]).map byteAV)]) := by
  refine FC_body tOk Tryz.func45 rfl Tryz.results45 rfl (by simp [Tryz.ntmps45]) ?_
  rw [Tryz.ntmps45]
  simp only [argSlots]
  simp only [bld]
  repeat (first
    | (refine AWP_seq (AWP_regS tOk rfl ?_); simp)
    | (refine AWP_regS tOk rfl ?_; simp)
    | (refine AWP_skip ?_; simp)
    | (refine AWP_exit ?_; simp)
    | (refine AWP_ret ?_; simp)
    | refine AWP_block ?_
    | refine AWP_seq ?_)
  refine AStep_FC rfl rfl (fc_copyCheck _ 0 1 p _ hp rfl rfl) rfl ?_
  rintro _ _ ⟨rfl, rfl⟩
  simp
  repeat (first
    | (refine AWP_seq (AWP_regS tOk rfl ?_); simp)
    | (refine AWP_regS tOk rfl ?_; simp)
    | (refine AWP_skip ?_; simp)
    | (refine AWP_exit ?_; simp)
    | (refine AWP_ret ?_; simp)
    | refine AWP_block ?_
    | refine AWP_seq ?_)
  refine AStep_appendS tOk rfl rfl T53 rfl T5 rfl (by decide) (by decide) rfl rfl rfl ?_
  simp
  refine ⟨by simp [appOk]; omega, ?_⟩
  repeat (first
    | (refine AWP_seq (AWP_regS tOk rfl ?_); simp)
    | (refine AWP_regS tOk rfl ?_; simp)
    | (refine AWP_skip ?_; simp)
    | (refine AWP_exit ?_; simp)
    | (refine AWP_ret ?_; simp)
    | refine AWP_block ?_
    | refine AWP_seq ?_)
set_option maxHeartbeats 400000 in
theorem fc_WriteString (p : AV) (hp : p = .nilp ∨ p = .vptr 0 0) (s t : List UInt8) (hl : s.length ≤ 100000000) (ht : t.length ≤ 100000000) :
    FC Tryz.prog 46 [.vptr 0 0, .str t] (bld p s) (fun r H' => r = .tup [.i t.length, .nili] ∧ H' = [.vars [.vptr 0 0, .sl 3 1 0 (s ++ t).length], .tag 0 72, .dead, .arr 5 1 ((s ++ t).map byteAV)]) := by
  refine FC_body tOk Tryz.func46 rfl Tryz.results46 rfl (by simp [Tryz.ntmps46]) ?_
  rw [Tryz.ntmps46]
  simp only [argSlots]
  simp only [bld]
  repeat (first
    | (refine AWP_seq (AWP_regS tOk rfl ?_); simp)
    | (refine AWP_regS tOk rfl ?_; simp)
    | (refine AWP_skip ?_; simp)
    | (refine AWP_exit ?_; simp)
    | (refine AWP_ret ?_; simp)
    | refine AWP_block ?_
    | refine AWP_seq ?_)
  refine AStep_FC rfl rfl (fc_copyCheck _ 0 1 p _ hp rfl rfl) rfl ?_
  rintro _ _ ⟨rfl, rfl⟩
  simp
  repeat (first
    | (refine AWP_seq (AWP_regS tOk rfl ?_); simp)
    | (refine AWP_regS tOk rfl ?_; simp)
    | (refine AWP_skip ?_; simp)
    | (refine AWP_exit ?_; simp)
    | (refine AWP_ret ?_; simp)
    | refine AWP_block ?_
    | refine AWP_seq ?_)
  refine AStep_appendStrS tOk rfl rfl T9 rfl rfl T53 rfl T5 rfl (by decide) rfl rfl rfl ?_
  simp
  refine ⟨⟨by omega, by omega⟩, ?_⟩
  repeat (first
    | (refine AWP_seq (AWP_regS tOk rfl ?_); simp)
    | (refine AWP_regS tOk rfl ?_; simp)
    | (refine AWP_skip ?_; simp)
    | (refine AWP_exit ?_; simp)
    | (refine AWP_ret ?_; simp)
    | refine AWP_block ?_
    | refine AWP_seq ?_)
theorem FC_bString (s : List UInt8) (h0 : s ≠ []) (hl : s.length ≤ 100000000) :
    FC Tryz.prog 47 [.vptr 0 0] (bld (.vptr 0 0) s) (fun r H' => r = .str s) := by
  refine FC_body tOk Tryz.func47 rfl Tryz.results47 rfl (by simp [Tryz.ntmps47]) ?_
  rw [Tryz.ntmps47]
  simp only [argSlots]
  simp only [bld]
  have hpos : 0 < s.length := List.length_pos_iff.2 h0
  repeat (first
    | (refine AWP_seq (AWP_regS tOk rfl ?_); simp)
    | (refine AWP_regS tOk rfl ?_; simp)
    | (refine AWP_skip ?_; simp)
    | (refine AWP_exit ?_; simp)
    | (refine AWP_ret ?_; simp)
    | refine AWP_block ?_
    | refine AWP_seq ?_)
  refine AWP_draw tOk mixed [10] [0, 1, 2, 3, 5, 6, 7, 8, 9, 4, 10, 11] rfl (by kernel_rfl) ?_
  simp
  refine AStep_sliceData rfl rfl rfl rfl hpos ?_
  simp
  refine AStep_unsafeString tOk rfl rfl rfl T87 rfl T5 rfl rfl rfl rfl rfl h0 ?_
  simp
  repeat (first
    | (refine AWP_seq (AWP_regS tOk rfl ?_); simp)
    | (refine AWP_regS tOk rfl ?_; simp)
    | (refine AWP_skip ?_; simp)
    | (refine AWP_exit ?_; simp)
    | (refine AWP_ret ?_; simp)
    | refine AWP_block ?_
    | refine AWP_seq ?_)
end Go.Abs
set_option maxRecDepth 100000
namespace Go.Abs
open Go Go.Proofs
set_option linter.unusedSimpArgs false
def hexs : List UInt8 := [48, 49, 50, 51, 52, 53, 54, 55, 56, 57, 97, 98, 99, 100, 101, 102]
def hexD (n : Nat) : UInt8 := hexs.getD n 0
def hexq (c : UInt8) : List UInt8 := [92, 120, hexD (c.toNat / 16), hexD (c.toNat % 16)]
def escB (c : UInt8) : List UInt8 :=
  if ((c.toNat : Int) == 34 || (c.toNat : Int) == 92) = true then [92, c] else if ((c.toNat : Int) == 10) = true then [92, 110]
  else if (decide ((c.toNat : Int) < 32) || decide ((126 : Int) < c.toNat)) = true then hexq c else [c]
def quoteTo (s : List UInt8) : List UInt8 := 34 :: s.flatMap escB
def quoteR (s : List UInt8) : List UInt8 := quoteTo s ++ [34]
theorem escB_len (c : UInt8) : (escB c).length ≤ 4 := by
  unfold escB hexq
  repeat' split
  all_goals exact Nat.le_of_ble_eq_true rfl
theorem drop_take_one (s : List UInt8) (j : Nat) (h : j < s.length) : (s.take (j + 1)).drop j = [s[j]] := by
  rw [List.take_succ_eq_append_getElem h, List.drop_append, List.drop_eq_nil_of_le (by rw [List.length_take]; omega), List.length_take, Nat.min_eq_left (Nat.le_of_lt h), Nat.sub_self]
  rfl
theorem quoteTo_len (s : List UInt8) : (quoteTo s).length ≤ 1 + 4 * s.length := by
  unfold quoteTo
  induction s with
  | nil => exact Nat.le_refl _
  | cons c s ih =>
    have := escB_len c
    rw [List.length_cons] at ih
    rw [List.flatMap_cons, List.length_cons, List.length_append, List.length_cons]
    omega
@[simp] theorem bld_len (p : AV) (s : List UInt8) : (bld p s).length = 3 := rfl
theorem quoteTo_succ (s : List UInt8) (j : Nat) (h : j < s.length) : quoteTo (s.take (j + 1)) = quoteTo (s.take j) ++ escB s[j] := by
  rw [quoteTo, quoteTo, List.take_succ_eq_append_getElem h, List.flatMap_append, List.flatMap_cons, List.flatMap_nil, List.append_nil]
  rfl
theorem and15 : (List.range 256).all (fun n => bits .and .u8 n 15 == ((n % 16 : Nat) : Int)) = true := by kernel_rfl
theorem nib_hi (n : Nat) (h : n < 256) : ∃ a : Nat, a = n / 16 ∧ a ≤ 15 ∧ (n : Int).fdiv (2 ^ min 4 IntKind.u8.bits) = a := by
  refine ⟨n / 16, rfl, by omega, ?_⟩
  rw [show min 4 IntKind.u8.bits = 4 from rfl, Int.fdiv_eq_ediv_of_nonneg _ (by decide)]
  omega
theorem nib_lo (n : Nat) (h : n < 256) : ∃ a : Nat, a = n % 16 ∧ a ≤ 15 ∧ bits .and .u8 n 15 = a := by
  refine ⟨n % 16, rfl, by omega, ?_⟩
  have := List.all_eq_true.1 and15 n (List.mem_range.2 h)
  simpa using this
theorem nib_u8 (a : Nat) (h : a ≤ 15) : IntKind.u8.wrap ((a : Int) + 1) = a + 1 ∧ (0 : Int) ≤ (a : Int) + 1 ∧ (a : Int) + 1 ≤ 16 ∧ ((a : Int) + 1).toNat = a + 1 := by
  refine ⟨?_, by omega, by omega, by omega⟩
  rw [IntKind.wrap_u8]; omega
theorem hexD_drop (a : Nat) (h : a ≤ 15) : List.drop a (48 :: List.take a [49, 50, 51, 52, 53, 54, 55, 56, 57, 97, 98, 99, 100, 101, 102]) = [hexD a] := by
  have := drop_take_one hexs a (by show a < 16; omega)
  rw [hexD, List.getD_eq_getElem?_getD, List.getElem?_eq_getElem (by show a < 16; omega)]
  exact this
set_option maxHeartbeats 1000000 in
theorem pc_quoted (s : List UInt8) (hs : s.length ≤ 1000000) : PC Tryz.prog 25 [.str s] (fun r => r = .str (quoteR s)) := by
  refine PC_body tOk Tryz.func25 rfl Tryz.results25 rfl (by simp [Tryz.ntmps25]) ?_
  rw [Tryz.ntmps25]
  simp only [argSlots]
  refine AWP_seq (AWP_regS tOk rfl ?_)
  simp
  refine AWP_seq (AWP_reg1 (AStep_allocT tOk rfl rfl T72 rfl ?_))
  simp
  refine AWP_nilOwn 0 1 5 1 rfl rfl ?_
  simp
  repeat (first
    | (refine AWP_seq (AWP_regS tOk rfl ?_); simp)
    | (refine AWP_regS tOk rfl ?_; simp)
    | (refine AWP_skip ?_; simp)
    | (refine AWP_exit ?_; simp)
    | (refine AWP_ret ?_; simp)
    | refine AWP_block ?_
    | refine AWP_seq ?_)
  refine AStep_FC rfl rfl (fc_WriteByte .nilp (.inl rfl) [] 34 (by simp)) rfl ?_
  rintro _ _ ⟨rfl, G, rfl⟩
  simp
  repeat (first
    | (refine AWP_seq (AWP_regS tOk rfl ?_); simp)
    | (refine AWP_regS tOk rfl ?_; simp)
    | (refine AWP_skip ?_; simp)
    | (refine AWP_exit ?_; simp)
    | (refine AWP_ret ?_; simp)
    | refine AWP_block ?_
    | refine AWP_seq ?_)
  refine AWP_ren [0, 1, 4] (sl' := [(0, .str s), (3, .vptr 0 0), (8, .i s.length), (9, .i 0)]) (H' := bld (.vptr 0 0) [34]) ?_ (by simp [bld]) (by decide) (by simp) rfl (by simp [bld]) (by simp [bld]) (by simp)
  refine AWP_count s.length (fun j => [(0, .str s), (3, .vptr 0 0), (8, .i s.length), (9, .i j)]) (fun j => bld (.vptr 0 0) (quoteTo (s.take j))) (G := []) (by simp [quoteTo]) (by simp) (by simp) (by simp [bld]) (by simp [bld]) ?_
  intro j hj ih
  have hq := quoteTo_len (s.take j)
  rw [List.length_take] at hq
  have hq' : (quoteTo (s.take j)).length ≤ 100000000 := by omega
  repeat (first
    | (refine AWP_seq (AWP_regS tOk rfl ?_); simp)
    | (refine AWP_regS tOk rfl ?_; simp)
    | (refine AWP_skip ?_; simp)
    | (refine AWP_exit ?_; simp)
    | (refine AWP_ret ?_; simp)
    | refine AWP_block ?_
    | refine AWP_seq ?_)
  refine AWP_cond2 rfl (fun hlt => ?_) (fun hge => ?_)
  · have hlt' : j < s.length := by simpa using hlt
    have hesc := quoteTo_succ s j hlt'
    have hw1 : IntKind.i64.wrap ((j : Int) + 1) = j + 1 := wrap_i64 _ (by omega) (by omega)
    have hw2 : (0 : Int) ≤ (j : Int) + 1 := by omega
    have hw3 : (j : Int) + 1 ≤ s.length := by omega
    have hw4 : ((j : Int) + 1).toNat = j + 1 := by omega
    repeat (first
      | (refine AWP_seq (AWP_regS tOk rfl ?_); simp [hlt'])
      | (refine AWP_regS tOk rfl ?_; simp [hlt'])
      | (refine AWP_skip ?_; simp [hlt'])
      | (refine AWP_exit ?_; simp [hlt'])
      | (refine AWP_ret ?_; simp [hlt'])
      | refine AWP_block ?_
      | refine AWP_seq ?_)
    refine AWP_cond2 rfl (fun h1 => ?_) (fun h1 => ?_)
    · repeat (first
        | (refine AWP_seq (AWP_regS tOk rfl ?_); simp [hlt', hw1, hw2, hw3, hw4, drop_take_one s j hlt'])
        | (refine AWP_regS tOk rfl ?_; simp [hlt', hw1, hw2, hw3, hw4, drop_take_one s j hlt'])
        | (refine AWP_skip ?_; simp [hlt', hw1, hw2, hw3, hw4, drop_take_one s j hlt'])
        | (refine AWP_exit ?_; simp [hlt', hw1, hw2, hw3, hw4, drop_take_one s j hlt'])
        | (refine AWP_ret ?_; simp [hlt', hw1, hw2, hw3, hw4, drop_take_one s j hlt'])
        | refine AWP_block ?_
        | refine AWP_seq ?_)
      refine AStep_FC rfl rfl (fc_WriteString (.vptr 0 0) (.inr rfl) _ [92, s[j]] hq' (by simp)) rfl ?_
      rintro _ _ ⟨rfl, rfl⟩
      simp
      repeat (first
        | (refine AWP_seq (AWP_regS tOk rfl ?_); simp [hlt', hw1])
        | (refine AWP_regS tOk rfl ?_; simp [hlt', hw1])
        | (refine AWP_skip ?_; simp [hlt', hw1])
        | (refine AWP_exit ?_; simp [hlt', hw1])
        | (refine AWP_ret ?_; simp [hlt', hw1])
        | refine AWP_block ?_
        | refine AWP_seq ?_)
      rw [escB, ite_t h1] at hesc
      refine ALoop_ren [0, 1, 3] (sl' := [(0, .str s), (3, .vptr 0 0), (8, .i s.length), (9, .i (j + 1 : Nat))]) (H' := bld (.vptr 0 0) (quoteTo (s.take (j + 1)))) (ih hlt') ?_ (by decide) (by simp) rfl (by simp [bld]) (by simp [bld]) ?_
      · rw [hesc]; simp [bld]
      · simp
    · repeat (first
        | (refine AWP_seq (AWP_regS tOk rfl ?_); simp [hlt'])
        | (refine AWP_regS tOk rfl ?_; simp [hlt'])
        | (refine AWP_skip ?_; simp [hlt'])
        | (refine AWP_exit ?_; simp [hlt'])
        | (refine AWP_ret ?_; simp [hlt'])
        | refine AWP_block ?_
        | refine AWP_seq ?_)
      refine AWP_cond2 rfl (fun h2 => ?_) (fun h2 => ?_)
      · repeat (first
          | (refine AWP_seq (AWP_regS tOk rfl ?_); simp [hlt'])
          | (refine AWP_regS tOk rfl ?_; simp [hlt'])
          | (refine AWP_skip ?_; simp [hlt'])
          | (refine AWP_exit ?_; simp [hlt'])
          | (refine AWP_ret ?_; simp [hlt'])
          | refine AWP_block ?_
          | refine AWP_seq ?_)
        refine AStep_FC rfl rfl (fc_WriteString (.vptr 0 0) (.inr rfl) _ [92, 110] hq' (by simp)) rfl ?_
        rintro _ _ ⟨rfl, rfl⟩
        simp
        repeat (first
          | (refine AWP_seq (AWP_regS tOk rfl ?_); simp [hlt', hw1])
          | (refine AWP_regS tOk rfl ?_; simp [hlt', hw1])
          | (refine AWP_skip ?_; simp [hlt', hw1])
          | (refine AWP_exit ?_; simp [hlt', hw1])
          | (refine AWP_ret ?_; simp [hlt', hw1])
          | refine AWP_block ?_
          | refine AWP_seq ?_)
        rw [escB, ite_f h1, ite_t h2] at hesc
        refine ALoop_ren [0, 1, 3] (sl' := [(0, .str s), (3, .vptr 0 0), (8, .i s.length), (9, .i (j + 1 : Nat))]) (H' := bld (.vptr 0 0) (quoteTo (s.take (j + 1)))) (ih hlt') ?_ (by decide) (by simp) rfl (by simp [bld]) (by simp [bld]) ?_
        · rw [hesc]; simp [bld]
        · simp
      · repeat (first
          | (refine AWP_seq (AWP_regS tOk rfl ?_); simp [hlt'])
          | (refine AWP_regS tOk rfl ?_; simp [hlt'])
          | (refine AWP_skip ?_; simp [hlt'])
          | (refine AWP_exit ?_; simp [hlt'])
          | (refine AWP_ret ?_; simp [hlt'])
          | refine AWP_block ?_
          | refine AWP_seq ?_)
        refine AWP_cond2 rfl (fun h3 => ?_) (fun h3 => ?_)
        · have hn := s[j].toNat_lt
          obtain ⟨x, hx, hx1, hx2⟩ := nib_hi s[j].toNat hn
          obtain ⟨y, hy, hy1, hy2⟩ := nib_lo s[j].toNat hn
          obtain ⟨x3, x4, x5, x6⟩ := nib_u8 x hx1
          obtain ⟨y3, y4, y5, y6⟩ := nib_u8 y hy1
          refine AWP_draw tOk mixed [14] [0, 1, 2, 3, 4, 5, 6, 7, 8, 9, 10, 11, 12, 13, 14] rfl (by kernel_rfl) ?_
          simp [hx2, hy2, x3, x4, x5, x6, y3, y4, y5, y6, hexD_drop x hx1, hexD_drop y hy1]
          refine AStep_FC rfl rfl (fc_WriteString (.vptr 0 0) (.inr rfl) _ [92, 120, hexD x, hexD y] hq' (by simp)) rfl ?_
          rintro _ _ ⟨rfl, rfl⟩
          simp
          repeat (first
            | (refine AWP_seq (AWP_regS tOk rfl ?_); simp [hlt', hw1])
            | (refine AWP_regS tOk rfl ?_; simp [hlt', hw1])
            | (refine AWP_skip ?_; simp [hlt', hw1])
            | (refine AWP_exit ?_; simp [hlt', hw1])
            | (refine AWP_ret ?_; simp [hlt', hw1])
            | refine AWP_block ?_
            | refine AWP_seq ?_)
          rw [escB, ite_f h1, ite_f h2, ite_t h3, hexq, ← hx, ← hy] at hesc
          refine ALoop_ren [0, 1, 3] (sl' := [(0, .str s), (3, .vptr 0 0), (8, .i s.length), (9, .i (j + 1 : Nat))]) (H' := bld (.vptr 0 0) (quoteTo (s.take (j + 1)))) (ih hlt') ?_ (by decide) (by simp) rfl (by simp [bld]) (by simp [bld]) ?_
          · rw [hesc]; simp [bld]
          · simp
        · repeat (first
            | (refine AWP_seq (AWP_regS tOk rfl ?_); simp [hlt'])
            | (refine AWP_regS tOk rfl ?_; simp [hlt'])
            | (refine AWP_skip ?_; simp [hlt'])
            | (refine AWP_exit ?_; simp [hlt'])
            | (refine AWP_ret ?_; simp [hlt'])
            | refine AWP_block ?_
            | refine AWP_seq ?_)
          refine AStep_FC rfl rfl (fc_WriteByte (.vptr 0 0) (.inr rfl) _ s[j] hq') rfl ?_
          rintro _ _ ⟨rfl, G, rfl⟩
          simp
          repeat (first
            | (refine AWP_seq (AWP_regS tOk rfl ?_); simp [hlt', hw1])
            | (refine AWP_regS tOk rfl ?_; simp [hlt', hw1])
            | (refine AWP_skip ?_; simp [hlt', hw1])
            | (refine AWP_exit ?_; simp [hlt', hw1])
            | (refine AWP_ret ?_; simp [hlt', hw1])
            | refine AWP_block ?_
            | refine AWP_seq ?_)
          rw [escB, ite_f h1, ite_f h2, ite_f h3] at hesc
          refine ALoop_ren [0, 1, 4] (sl' := [(0, .str s), (3, .vptr 0 0), (8, .i s.length), (9, .i (j + 1 : Nat))]) (H' := bld (.vptr 0 0) (quoteTo (s.take (j + 1)))) (ih hlt') ?_ (by decide) (by simp) rfl (by simp [bld]) (by simp [bld]) ?_
          · rw [hesc]; simp [bld]
          · simp
  · have hge' : j = s.length := by simp at hge; omega
    subst hge'
    rw [List.take_length] at hq' ⊢
    repeat (first
      | (refine AWP_seq (AWP_regS tOk rfl ?_); simp)
      | (refine AWP_regS tOk rfl ?_; simp)
      | (refine AWP_skip ?_; simp)
      | (refine AWP_exit ?_; simp)
      | (refine AWP_ret ?_; simp)
      | refine AWP_block ?_
      | refine AWP_seq ?_)
    refine AStep_FC rfl rfl (fc_WriteByte (.vptr 0 0) (.inr rfl) _ 34 hq') rfl ?_
    rintro _ _ ⟨rfl, G, rfl⟩
    simp
    refine AWP_ren [0, 1, 4] (sl' := [(3, .vptr 0 0)]) (H' := bld (.vptr 0 0) (quoteR s)) ?_ (by simp [bld, quoteR]) (by decide) (by simp) rfl (by simp [bld]) (by simp [bld]) (by simp)
    repeat (first
      | (refine AWP_seq (AWP_regS tOk rfl ?_); simp)
      | (refine AWP_regS tOk rfl ?_; simp)
      | (refine AWP_skip ?_; simp)
      | (refine AWP_exit ?_; simp)
      | (refine AWP_ret ?_; simp)
      | refine AWP_block ?_
      | refine AWP_seq ?_)
    refine AStep_FC rfl rfl (FC_bString (quoteR s) (by simp [quoteR]) (by have := quoteTo_len s; simp [quoteR]; omega)) rfl ?_
    rintro _ H' rfl
    simp
    repeat (first
      | (refine AWP_seq (AWP_regS tOk rfl ?_); simp)
      | (refine AWP_regS tOk rfl ?_; simp)
      | (refine AWP_skip ?_; simp)
      | (refine AWP_exit ?_; simp)
      | (refine AWP_ret ?_; simp)
      | refine AWP_block ?_
      | refine AWP_seq ?_)
end Go.Abs
set_option maxRecDepth 100000
namespace Go.Abs
open Go Go.Proofs
set_option linter.unusedSimpArgs false
def boolS (b : Bool) : List UInt8 := if b = true then [116, 114, 117, 101] else [102, 97, 108, 115, 101]
theorem pc_iFormatBool (b : Bool) : PC Tryz.prog 44 [.bool b] (fun r => r = .str (boolS b)) := by
  refine PC_body tOk Tryz.func44 rfl Tryz.results44 rfl (by simp [Tryz.ntmps44]) ?_
  rw [Tryz.ntmps44]
  simp only [argSlots]
  repeat (first
    | (refine AWP_seq (AWP_regS tOk rfl ?_); simp)
    | (refine AWP_regS tOk rfl ?_; simp)
    | (refine AWP_skip ?_; simp)
    | (refine AWP_exit ?_; simp)
    | (refine AWP_ret ?_; simp)
    | refine AWP_block ?_
    | refine AWP_seq ?_)
  refine AWP_cond2 rfl (fun h => ?_) (fun h => ?_)
  · repeat (first
      | (refine AWP_seq (AWP_regS tOk rfl ?_); simp)
      | (refine AWP_regS tOk rfl ?_; simp)
      | (refine AWP_skip ?_; simp)
      | (refine AWP_exit ?_; simp)
      | (refine AWP_ret ?_; simp)
      | refine AWP_block ?_
      | refine AWP_seq ?_)
    subst h; rfl
  · repeat (first
      | (refine AWP_seq (AWP_regS tOk rfl ?_); simp)
      | (refine AWP_regS tOk rfl ?_; simp)
      | (refine AWP_skip ?_; simp)
      | (refine AWP_exit ?_; simp)
      | (refine AWP_ret ?_; simp)
      | refine AWP_block ?_
      | refine AWP_seq ?_)
    subst h; rfl
theorem pc_FormatBool (b : Bool) : PC Tryz.prog 24 [.bool b] (fun r => r = .str (boolS b)) := by
  refine PC_body tOk Tryz.func24 rfl Tryz.results24 rfl (by simp [Tryz.ntmps24]) ?_
  rw [Tryz.ntmps24]
  simp only [argSlots]
  repeat (first
    | (refine AWP_seq (AWP_regS tOk rfl ?_); simp)
    | (refine AWP_regS tOk rfl ?_; simp)
    | (refine AWP_skip ?_; simp)
    | (refine AWP_exit ?_; simp)
    | (refine AWP_ret ?_; simp)
    | refine AWP_block ?_
    | refine AWP_seq ?_)
  refine AStep_PC rfl rfl (by simp) (pc_iFormatBool b) rfl ?_
  rintro _ rfl
  simp
  repeat (first
    | (refine AWP_seq (AWP_regS tOk rfl ?_); simp)
    | (refine AWP_regS tOk rfl ?_; simp)
    | (refine AWP_skip ?_; simp)
    | (refine AWP_exit ?_; simp)
    | (refine AWP_ret ?_; simp)
    | refine AWP_block ?_
    | refine AWP_seq ?_)
theorem checkR_zero {v : Val} (h : checkR v = 0) : (v.kind = 0 ∧ v.text = [] ∧ -1099511627776 ≤ v.num ∧ v.num ≤ 1099511627776) ∨ (v.kind = 1 ∧ v.text = [] ∧ (v.num = 0 ∨ v.num = 1)) ∨ (v.kind = 2 ∧ v.num = 0 ∧ v.text.length ≤ 64) := by
  unfold checkR sizeR at h
  by_cases h0 : v.kind = 0
  · simp [h0] at h
    by_cases ht : v.text = []
    · simp [ht] at h; left; exact ⟨h0, ht, by omega, by omega⟩
    · simp [ht] at h
  by_cases h1 : v.kind = 1
  · simp [h1] at h
    by_cases ht : v.text = []
    · simp [ht] at h; right; left; exact ⟨h1, ht, by omega⟩
    · simp [ht] at h
  by_cases h2 : v.kind = 2
  · simp [h2] at h
    by_cases ht : v.num = 0
    · simp [ht] at h; right; right; exact ⟨h2, ht, by omega⟩
    · simp [ht] at h
  · simp [h0, h1, h2] at h
def fmtText (v : Val) : List UInt8 := if (v.kind == 0) = true then Lib.itoa v.num else if (v.kind == 1) = true then boolS (v.num == 1) else quoteR v.text
def formatR (v : Val) : List UInt8 × Int := if (checkR v != 0) = true then ([], checkR v) else (fmtText v, 0)
attribute [local irreducible] quoteR Lib.itoa checkR
theorem pc_Format (v : Val) : PC Tryz.prog 7 [encV v] (fun r => r = .tup [.str (formatR v).1, .i (formatR v).2]) := by
  refine PC_body tOk Tryz.func7 rfl Tryz.results7 rfl (by simp [Tryz.ntmps7]) ?_
  rw [Tryz.ntmps7]
  simp only [argSlots]
  simp only [encV]
  repeat (first
    | (refine AWP_seq (AWP_regS tOk rfl ?_); simp)
    | (refine AWP_regS tOk rfl ?_; simp)
    | (refine AWP_skip ?_; simp)
    | (refine AWP_exit ?_; simp)
    | (refine AWP_ret ?_; simp)
    | refine AWP_block ?_
    | refine AWP_seq ?_)
  refine AStep_PC rfl rfl (by simp) (pc_Check v) rfl ?_
  rintro _ rfl
  simp
  repeat (first
    | (refine AWP_seq (AWP_regS tOk rfl ?_); simp)
    | (refine AWP_regS tOk rfl ?_; simp)
    | (refine AWP_skip ?_; simp)
    | (refine AWP_exit ?_; simp)
    | (refine AWP_ret ?_; simp)
    | refine AWP_block ?_
    | refine AWP_seq ?_)
  refine AWP_cond2 rfl (fun h => ?_) (fun h => ?_)
  · repeat (first
      | (refine AWP_seq (AWP_regS tOk rfl ?_); simp)
      | (refine AWP_regS tOk rfl ?_; simp)
      | (refine AWP_skip ?_; simp)
      | (refine AWP_exit ?_; simp)
      | (refine AWP_ret ?_; simp)
      | refine AWP_block ?_
      | refine AWP_seq ?_)
    rw [formatR, ite_t h]
    simp
  have hz := checkR_zero (v := v) (by simpa using h)
  repeat (first
    | (refine AWP_seq (AWP_regS tOk rfl ?_); simp)
    | (refine AWP_regS tOk rfl ?_; simp)
    | (refine AWP_skip ?_; simp)
    | (refine AWP_exit ?_; simp)
    | (refine AWP_ret ?_; simp)
    | refine AWP_block ?_
    | refine AWP_seq ?_)
  refine AWP_cond2 rfl (fun h0 => ?_) (fun h0 => ?_)
  · have hk : v.kind = 0 := by simpa using h0
    repeat (first
      | (refine AWP_seq (AWP_regS tOk rfl ?_); simp)
      | (refine AWP_regS tOk rfl ?_; simp)
      | (refine AWP_skip ?_; simp)
      | (refine AWP_exit ?_; simp)
      | (refine AWP_ret ?_; simp)
      | refine AWP_block ?_
      | refine AWP_seq ?_)
    refine AStep_PC rfl rfl (by simp) (pc_Itoa v.num (by omega) (by omega)) rfl ?_
    rintro _ rfl
    simp
    repeat (first
      | (refine AWP_seq (AWP_regS tOk rfl ?_); simp)
      | (refine AWP_regS tOk rfl ?_; simp)
      | (refine AWP_skip ?_; simp)
      | (refine AWP_exit ?_; simp)
      | (refine AWP_ret ?_; simp)
      | refine AWP_block ?_
      | refine AWP_seq ?_)
    rw [formatR, ite_f h, fmtText, ite_t h0]
    simp
  repeat (first
    | (refine AWP_seq (AWP_regS tOk rfl ?_); simp)
    | (refine AWP_regS tOk rfl ?_; simp)
    | (refine AWP_skip ?_; simp)
    | (refine AWP_exit ?_; simp)
    | (refine AWP_ret ?_; simp)
    | refine AWP_block ?_
    | refine AWP_seq ?_)
  refine AWP_cond2 rfl (fun h1 => ?_) (fun h1 => ?_)
  · repeat (first
      | (refine AWP_seq (AWP_regS tOk rfl ?_); simp)
      | (refine AWP_regS tOk rfl ?_; simp)
      | (refine AWP_skip ?_; simp)
      | (refine AWP_exit ?_; simp)
      | (refine AWP_ret ?_; simp)
      | refine AWP_block ?_
      | refine AWP_seq ?_)
    refine AStep_PC rfl rfl (by simp) (pc_FormatBool (v.num == 1)) rfl ?_
    rintro _ rfl
    simp
    repeat (first
      | (refine AWP_seq (AWP_regS tOk rfl ?_); simp)
      | (refine AWP_regS tOk rfl ?_; simp)
      | (refine AWP_skip ?_; simp)
      | (refine AWP_exit ?_; simp)
      | (refine AWP_ret ?_; simp)
      | refine AWP_block ?_
      | refine AWP_seq ?_)
    rw [formatR, ite_f h, fmtText, ite_f h0, ite_t h1]
    simp
  · have h0' : v.kind ≠ 0 := by simpa using h0
    have h1' : v.kind ≠ 1 := by simpa using h1
    repeat (first
      | (refine AWP_seq (AWP_regS tOk rfl ?_); simp)
      | (refine AWP_regS tOk rfl ?_; simp)
      | (refine AWP_skip ?_; simp)
      | (refine AWP_exit ?_; simp)
      | (refine AWP_ret ?_; simp)
      | refine AWP_block ?_
      | refine AWP_seq ?_)
    refine AStep_PC rfl rfl (by simp) (pc_quoted v.text (by omega)) rfl ?_
    rintro _ rfl
    simp
    repeat (first
      | (refine AWP_seq (AWP_regS tOk rfl ?_); simp)
      | (refine AWP_regS tOk rfl ?_; simp)
      | (refine AWP_skip ?_; simp)
      | (refine AWP_exit ?_; simp)
      | (refine AWP_ret ?_; simp)
      | refine AWP_block ?_
      | refine AWP_seq ?_)
    rw [formatR, ite_f h, fmtText, ite_f h0, ite_f h1]
    simp
attribute [simp] T38
def compR (a b : Val) : Int := if (cmpI a.kind b.kind != 0) = true then cmpI a.kind b.kind else if (cmpI a.num b.num != 0) = true then cmpI a.num b.num else Lib.compareBytes a.text b.text
attribute [local irreducible] cmpI
theorem pc_Compare (a b : Val) : PC Tryz.prog 11 [encV a, encV b] (fun r => r = .i (compR a b)) := by
  refine PC_body tOk Tryz.func11 rfl Tryz.results11 rfl (by simp [Tryz.ntmps11]) ?_
  rw [Tryz.ntmps11]
  simp only [argSlots]
  simp only [encV]
  repeat (first
    | (refine AWP_seq (AWP_regS tOk rfl ?_); simp)
    | (refine AWP_regS tOk rfl ?_; simp)
    | (refine AWP_skip ?_; simp)
    | (refine AWP_exit ?_; simp)
    | (refine AWP_ret ?_; simp)
    | refine AWP_block ?_
    | refine AWP_seq ?_)
  refine AWP_loop (ALoop_round ?_)
  repeat (first
    | (refine AWP_seq (AWP_regS tOk rfl ?_); simp)
    | (refine AWP_regS tOk rfl ?_; simp)
    | (refine AWP_skip ?_; simp)
    | (refine AWP_exit ?_; simp)
    | (refine AWP_ret ?_; simp)
    | refine AWP_block ?_
    | refine AWP_seq ?_)
  refine AWP_cond rfl ?_
  repeat (first
    | (refine AWP_seq (AWP_regS tOk rfl ?_); simp)
    | (refine AWP_regS tOk rfl ?_; simp)
    | (refine AWP_skip ?_; simp)
    | (refine AWP_exit ?_; simp)
    | (refine AWP_ret ?_; simp)
    | refine AWP_block ?_
    | refine AWP_seq ?_)
  refine AStep_PC rfl rfl (by simp) (pc_cmp1 a b) rfl ?_
  rintro _ rfl
  simp
  repeat (first
    | (refine AWP_seq (AWP_regS tOk rfl ?_); simp)
    | (refine AWP_regS tOk rfl ?_; simp)
    | (refine AWP_skip ?_; simp)
    | (refine AWP_exit ?_; simp)
    | (refine AWP_ret ?_; simp)
    | refine AWP_block ?_
    | refine AWP_seq ?_)
  refine AWP_cond2 rfl (fun h0 => ?_) (fun h0 => ?_)
  · repeat (first
      | (refine AWP_seq (AWP_regS tOk rfl ?_); simp)
      | (refine AWP_regS tOk rfl ?_; simp)
      | (refine AWP_skip ?_; simp)
      | (refine AWP_exit ?_; simp)
      | (refine AWP_ret ?_; simp)
      | refine AWP_block ?_
      | refine AWP_seq ?_)
    rw [compR, ite_t h0]
  have hw1 : IntKind.i64.wrap (0 + 1) = 1 := wrap_i64 _ (by omega) (by omega)
  have hw2 : IntKind.i64.wrap (1 + 1) = 2 := wrap_i64 _ (by omega) (by omega)
  have hw1' : IntKind.i64.wrap 1 = 1 := wrap_i64 _ (by omega) (by omega)
  have hw2' : IntKind.i64.wrap 2 = 2 := wrap_i64 _ (by omega) (by omega)
  repeat (first
    | (refine AWP_seq (AWP_regS tOk rfl ?_); simp [hw1, hw2, hw1', hw2'])
    | (refine AWP_regS tOk rfl ?_; simp [hw1, hw2, hw1', hw2'])
    | (refine AWP_skip ?_; simp [hw1, hw2, hw1', hw2'])
    | (refine AWP_exit ?_; simp [hw1, hw2, hw1', hw2'])
    | (refine AWP_ret ?_; simp [hw1, hw2, hw1', hw2'])
    | refine AWP_block ?_
    | refine AWP_seq ?_)
  refine ALoop_round ?_
  repeat (first
    | (refine AWP_seq (AWP_regS tOk rfl ?_); simp)
    | (refine AWP_regS tOk rfl ?_; simp)
    | (refine AWP_skip ?_; simp)
    | (refine AWP_exit ?_; simp)
    | (refine AWP_ret ?_; simp)
    | refine AWP_block ?_
    | refine AWP_seq ?_)
  refine AWP_cond rfl ?_
  repeat (first
    | (refine AWP_seq (AWP_regS tOk rfl ?_); simp)
    | (refine AWP_regS tOk rfl ?_; simp)
    | (refine AWP_skip ?_; simp)
    | (refine AWP_exit ?_; simp)
    | (refine AWP_ret ?_; simp)
    | refine AWP_block ?_
    | refine AWP_seq ?_)
  refine AStep_PC rfl rfl (by simp) (pc_cmp2 a b) rfl ?_
  rintro _ rfl
  simp
  repeat (first
    | (refine AWP_seq (AWP_regS tOk rfl ?_); simp)
    | (refine AWP_regS tOk rfl ?_; simp)
    | (refine AWP_skip ?_; simp)
    | (refine AWP_exit ?_; simp)
    | (refine AWP_ret ?_; simp)
    | refine AWP_block ?_
    | refine AWP_seq ?_)
  refine AWP_cond2 rfl (fun h1 => ?_) (fun h1 => ?_)
  · repeat (first
      | (refine AWP_seq (AWP_regS tOk rfl ?_); simp)
      | (refine AWP_regS tOk rfl ?_; simp)
      | (refine AWP_skip ?_; simp)
      | (refine AWP_exit ?_; simp)
      | (refine AWP_ret ?_; simp)
      | refine AWP_block ?_
      | refine AWP_seq ?_)
    rw [compR, ite_f h0, ite_t h1]
  repeat (first
    | (refine AWP_seq (AWP_regS tOk rfl ?_); simp [hw1, hw2, hw1', hw2'])
    | (refine AWP_regS tOk rfl ?_; simp [hw1, hw2, hw1', hw2'])
    | (refine AWP_skip ?_; simp [hw1, hw2, hw1', hw2'])
    | (refine AWP_exit ?_; simp [hw1, hw2, hw1', hw2'])
    | (refine AWP_ret ?_; simp [hw1, hw2, hw1', hw2'])
    | refine AWP_block ?_
    | refine AWP_seq ?_)
  refine ALoop_round ?_
  repeat (first
    | (refine AWP_seq (AWP_regS tOk rfl ?_); simp)
    | (refine AWP_regS tOk rfl ?_; simp)
    | (refine AWP_skip ?_; simp)
    | (refine AWP_exit ?_; simp)
    | (refine AWP_ret ?_; simp)
    | refine AWP_block ?_
    | refine AWP_seq ?_)
  refine AWP_cond rfl ?_
  repeat (first
    | (refine AWP_seq (AWP_regS tOk rfl ?_); simp)
    | (refine AWP_regS tOk rfl ?_; simp)
    | (refine AWP_skip ?_; simp)
    | (refine AWP_exit ?_; simp)
    | (refine AWP_ret ?_; simp)
    | refine AWP_block ?_
    | refine AWP_seq ?_)
  refine AStep_PC rfl rfl (by simp) (pc_Cmp a.text b.text) rfl ?_
  rintro _ rfl
  simp
  repeat (first
    | (refine AWP_seq (AWP_regS tOk rfl ?_); simp)
    | (refine AWP_regS tOk rfl ?_; simp)
    | (refine AWP_skip ?_; simp)
    | (refine AWP_exit ?_; simp)
    | (refine AWP_ret ?_; simp)
    | refine AWP_block ?_
    | refine AWP_seq ?_)
  rw [compR, ite_f h0, ite_f h1]
end Go.Abs
set_option maxRecDepth 100000
namespace Go.Abs
open Go Go.Proofs
set_option linter.unusedSimpArgs false
@[simp] def u8A (z : Int) : AV := .int .u8 z
def shB (n : Int) (j : Nat) : Int := IntKind.u8.wrap (n.fdiv (2 ^ min (56 - 8 * (j : Int)).toNat IntKind.i64.bits))
def numB (n : Int) (j : Nat) : List Int := (List.range j).map (shB n)
def hashB (v : Val) : List Int := IntKind.u8.wrap v.kind :: (if (v.kind == 2) = true then v.text.map (fun c => (c.toNat : Int)) else numB v.num 8)
def hstep (h z : Int) : Int := IntKind.u32.wrap (bits .xor .u32 h (IntKind.u32.wrap z) * 16777619)
def hashR (v : Val) : Int × Int := if (checkR v != 0) = true then (0, checkR v) else (W ((hashB v).foldl hstep 2166136261), 0)
theorem numB_succ (n : Int) (j : Nat) : numB n (j + 1) = numB n j ++ [shB n j] := by simp [numB, List.range_succ]
@[simp] theorem numB_len (n : Int) (j : Nat) : (numB n j).length = j := by simp [numB]
attribute [local irreducible] checkR
set_option maxHeartbeats 1000000 in
theorem pc_Hash (v : Val) : PC Tryz.prog 10 [encV v] (fun r => r = .tup [.i (hashR v).1, .i (hashR v).2]) := by
  refine PC_body tOk Tryz.func10 rfl Tryz.results10 rfl (by simp [Tryz.ntmps10]) ?_
  rw [Tryz.ntmps10]
  simp only [argSlots]
  simp only [encV]
  repeat (first
    | (refine AWP_seq (AWP_regS tOk rfl ?_); simp)
    | (refine AWP_regS tOk rfl ?_; simp)
    | (refine AWP_skip ?_; simp)
    | (refine AWP_exit ?_; simp)
    | (refine AWP_ret ?_; simp)
    | refine AWP_block ?_
    | refine AWP_seq ?_)
  refine AStep_PC rfl rfl (by simp) (pc_Check v) rfl ?_
  rintro _ rfl
  simp
  repeat (first
    | (refine AWP_seq (AWP_regS tOk rfl ?_); simp)
    | (refine AWP_regS tOk rfl ?_; simp)
    | (refine AWP_skip ?_; simp)
    | (refine AWP_exit ?_; simp)
    | (refine AWP_ret ?_; simp)
    | refine AWP_block ?_
    | refine AWP_seq ?_)
  refine AWP_cond2 rfl (fun h => ?_) (fun h => ?_)
  · repeat (first
      | (refine AWP_seq (AWP_regS tOk rfl ?_); simp)
      | (refine AWP_regS tOk rfl ?_; simp)
      | (refine AWP_skip ?_; simp)
      | (refine AWP_exit ?_; simp)
      | (refine AWP_ret ?_; simp)
      | refine AWP_block ?_
      | refine AWP_seq ?_)
    rw [hashR, ite_t h]
    simp
  have hc := checkR_zero (v := v) (by simpa using h)
  repeat (first
    | (refine AWP_seq (AWP_regS tOk rfl ?_); simp)
    | (refine AWP_regS tOk rfl ?_; simp)
    | (refine AWP_skip ?_; simp)
    | (refine AWP_exit ?_; simp)
    | (refine AWP_ret ?_; simp)
    | refine AWP_block ?_
    | refine AWP_seq ?_)
  refine AWP_cond2 rfl (fun h2 => ?_) (fun h2 => ?_)
  · have hk : v.kind = 2 := by simpa using h2
    have hl : v.text.length ≤ 64 := by omega
    repeat (first
      | (refine AWP_seq (AWP_regS tOk rfl ?_); simp)
      | (refine AWP_regS tOk rfl ?_; simp)
      | (refine AWP_skip ?_; simp)
      | (refine AWP_exit ?_; simp)
      | (refine AWP_ret ?_; simp)
      | refine AWP_block ?_
      | refine AWP_seq ?_)
    refine AStep_appendStrS tOk rfl rfl T9 rfl rfl T53 rfl T5 rfl (by decide) rfl rfl rfl ?_
    simp
    refine ⟨⟨by omega, by omega⟩, ?_⟩
    repeat (first
      | (refine AWP_seq (AWP_regS tOk rfl ?_); simp)
      | (refine AWP_regS tOk rfl ?_; simp)
      | (refine AWP_skip ?_; simp)
      | (refine AWP_exit ?_; simp)
      | (refine AWP_ret ?_; simp)
      | refine AWP_block ?_
      | refine AWP_seq ?_)
    obtain ⟨zs, hz⟩ : ∃ zs, hashB v = zs := ⟨_, rfl⟩
    have hzl : zs.length = v.text.length + 1 := by rw [← hz, hashB, ite_t h2]; simp
    refine AWP_ren [0, 2] (sl' := [(7, .int .u32 2166136261), (38, .sl 1 1 0 zs.length), (39, .i zs.length), (40, .i 0)]) (H' := [.vars [.i v.kind, .i v.num, .str v.text], .arr 5 1 (zs.map u8A)]) ?_ ?_ (by decide) (by simp) rfl (by simp) (by simp) ?_
    · refine AWP_count zs.length (fun j => [(7, .int .u32 ((zs.take j).foldl hstep 2166136261)), (38, .sl 1 1 0 zs.length), (39, .i zs.length), (40, .i j)]) (fun _ => [.vars [.i v.kind, .i v.num, .str v.text], .arr 5 1 (zs.map u8A)]) (G := []) (by first | rfl | simp [← hze]) (by simp) (by simp) (by simp) (by simp) ?_
      intro j hj ih
      repeat (first
        | (refine AWP_seq (AWP_regS tOk rfl ?_); simp)
        | (refine AWP_regS tOk rfl ?_; simp)
        | (refine AWP_skip ?_; simp)
        | (refine AWP_exit ?_; simp)
        | (refine AWP_ret ?_; simp)
        | refine AWP_block ?_
        | refine AWP_seq ?_)
      refine AWP_cond2 rfl (fun hlt => ?_) (fun hge => ?_)
      · have hlt' : j < zs.length := by simpa using hlt
        have hw : IntKind.i64.wrap ((j : Int) + 1) = j + 1 := wrap_i64 _ (by omega) (by omega)
        have hf : (zs.take (j + 1)).foldl hstep 2166136261 = hstep ((zs.take j).foldl hstep 2166136261) zs[j] := by rw [List.take_succ_eq_append_getElem hlt', List.foldl_append]; rfl
        repeat (first
          | (refine AWP_seq (AWP_regS tOk rfl ?_); simp [hlt', hw])
          | (refine AWP_regS tOk rfl ?_; simp [hlt', hw])
          | (refine AWP_skip ?_; simp [hlt', hw])
          | (refine AWP_exit ?_; simp [hlt', hw])
          | (refine AWP_ret ?_; simp [hlt', hw])
          | refine AWP_block ?_
          | refine AWP_seq ?_)
        refine ALoop_end [] (ih hlt') rfl (by simp) ?_ (by simp) (by simp)
        rw [hf]
        simp [hstep]
      · have hge' : j = zs.length := by simp at hge; omega
        subst hge'
        rw [List.take_length]
        repeat (first
          | (refine AWP_seq (AWP_regS tOk rfl ?_); simp)
          | (refine AWP_regS tOk rfl ?_; simp)
          | (refine AWP_skip ?_; simp)
          | (refine AWP_exit ?_; simp)
          | (refine AWP_ret ?_; simp)
          | refine AWP_block ?_
          | refine AWP_seq ?_)
        rw [hashR, ite_f h, hz]
        exact ⟨rfl, rfl⟩
    · rw [← hz, hashB, ite_t h2]; simp
    · rw [hzl]; simp; omega
  · repeat (first
      | (refine AWP_seq (AWP_regS tOk rfl ?_); simp)
      | (refine AWP_regS tOk rfl ?_; simp)
      | (refine AWP_skip ?_; simp)
      | (refine AWP_exit ?_; simp)
      | (refine AWP_ret ?_; simp)
      | refine AWP_block ?_
      | refine AWP_seq ?_)
    refine AWP_count 8 (fun j => [(1, .vptr 0 0), (5, .sl 1 1 0 (j + 1)), (6, .i (56 - 8 * (j : Int)))]) (fun j => [.vars [.i v.kind, .i v.num, .str v.text], .arr 5 1 (u8A (IntKind.u8.wrap v.kind) :: (numB v.num j).map u8A)]) (G := []) (by simp [numB]) (by simp) (by simp) (by simp) (by simp) ?_
    intro j hj ih
    repeat (first
      | (refine AWP_seq (AWP_regS tOk rfl ?_); simp)
      | (refine AWP_regS tOk rfl ?_; simp)
      | (refine AWP_skip ?_; simp)
      | (refine AWP_exit ?_; simp)
      | (refine AWP_ret ?_; simp)
      | refine AWP_block ?_
      | refine AWP_seq ?_)
    refine AWP_cond2 rfl (fun hlt => ?_) (fun hge => ?_)
    · have hlt' : j < 8 := by simp at hlt; omega
      have hp : 8 * (j : Int) ≤ 56 := by omega
      repeat (first
        | (refine AWP_seq (AWP_regS tOk rfl ?_); simp [hp])
        | (refine AWP_regS tOk rfl ?_; simp [hp])
        | (refine AWP_skip ?_; simp [hp])
        | (refine AWP_exit ?_; simp [hp])
        | (refine AWP_ret ?_; simp [hp])
        | refine AWP_block ?_
        | refine AWP_seq ?_)
      refine AStep_appendS tOk rfl rfl T53 rfl T5 rfl (by decide) (by decide) rfl rfl rfl ?_
      simp
      refine ⟨by simp [appOk]; omega, ?_⟩
      repeat (first
        | (refine AWP_seq (AWP_regS tOk rfl ?_); simp)
        | (refine AWP_regS tOk rfl ?_; simp)
        | (refine AWP_skip ?_; simp)
        | (refine AWP_exit ?_; simp)
        | (refine AWP_ret ?_; simp)
        | refine AWP_block ?_
        | refine AWP_seq ?_)
      refine ALoop_ren [0, 3] (sl' := [(1, .vptr 0 0), (5, .sl 1 1 0 (j + 1 + 1)), (6, .i (56 - 8 * ((j + 1 : Nat) : Int)))]) (H' := [.vars [.i v.kind, .i v.num, .str v.text], .arr 5 1 (u8A (IntKind.u8.wrap v.kind) :: (numB v.num (j + 1)).map u8A)]) (ih hlt') ?_ (by decide) (by simp) rfl (by simp) (by simp) ?_
      · rw [numB_succ]; simp [shB]
      · simp
        rw [wrap_i64 _ (by omega) (by omega)]
        omega
    · have hge' : j = 8 := by simp at hge; omega
      subst hge'
      repeat (first
        | (refine AWP_seq (AWP_regS tOk rfl ?_); simp)
        | (refine AWP_regS tOk rfl ?_; simp)
        | (refine AWP_skip ?_; simp)
        | (refine AWP_exit ?_; simp)
        | (refine AWP_ret ?_; simp)
        | refine AWP_block ?_
        | refine AWP_seq ?_)
      obtain ⟨zs, hz⟩ : ∃ zs, hashB v = zs := ⟨_, rfl⟩
      have hzl : zs.length = 9 := by rw [← hz, hashB, ite_f h2]; simp
      have hze : u8A (IntKind.u8.wrap v.kind) :: (numB v.num 8).map u8A = zs.map u8A := by rw [← hz, hashB, ite_f h2]; rfl
      refine AWP_keep (sl' := [(7, .int .u32 2166136261), (38, .sl 1 1 0 zs.length), (39, .i zs.length), (40, .i 0)]) ?_ (by simp [hzl])
      refine AWP_count zs.length (fun j => [(7, .int .u32 ((zs.take j).foldl hstep 2166136261)), (38, .sl 1 1 0 zs.length), (39, .i zs.length), (40, .i j)]) (fun _ => [.vars [.i v.kind, .i v.num, .str v.text], .arr 5 1 (zs.map u8A)]) (G := []) (by first | rfl | simp [← hze]) (by simp) (by simp) (by simp) (by simp) ?_
      intro j hj ih
      repeat (first
        | (refine AWP_seq (AWP_regS tOk rfl ?_); simp)
        | (refine AWP_regS tOk rfl ?_; simp)
        | (refine AWP_skip ?_; simp)
        | (refine AWP_exit ?_; simp)
        | (refine AWP_ret ?_; simp)
        | refine AWP_block ?_
        | refine AWP_seq ?_)
      refine AWP_cond2 rfl (fun hlt => ?_) (fun hge => ?_)
      · have hlt' : j < zs.length := by simpa using hlt
        have hw : IntKind.i64.wrap ((j : Int) + 1) = j + 1 := wrap_i64 _ (by omega) (by omega)
        have hf : (zs.take (j + 1)).foldl hstep 2166136261 = hstep ((zs.take j).foldl hstep 2166136261) zs[j] := by rw [List.take_succ_eq_append_getElem hlt', List.foldl_append]; rfl
        repeat (first
          | (refine AWP_seq (AWP_regS tOk rfl ?_); simp [hlt', hw])
          | (refine AWP_regS tOk rfl ?_; simp [hlt', hw])
          | (refine AWP_skip ?_; simp [hlt', hw])
          | (refine AWP_exit ?_; simp [hlt', hw])
          | (refine AWP_ret ?_; simp [hlt', hw])
          | refine AWP_block ?_
          | refine AWP_seq ?_)
        refine ALoop_end [] (ih hlt') rfl (by simp) ?_ (by simp) (by simp)
        rw [hf]
        simp [hstep]
      · have hge' : j = zs.length := by simp at hge; omega
        subst hge'
        rw [List.take_length]
        repeat (first
          | (refine AWP_seq (AWP_regS tOk rfl ?_); simp)
          | (refine AWP_regS tOk rfl ?_; simp)
          | (refine AWP_skip ?_; simp)
          | (refine AWP_exit ?_; simp)
          | (refine AWP_ret ?_; simp)
          | refine AWP_block ?_
          | refine AWP_seq ?_)
        rw [hashR, ite_f h, hz]
        exact ⟨rfl, rfl⟩
def rmix (h z : Int) : Int := Int.tmod (W (bits .xor .i64 h (W z) * 16777619)) 4294967296
def rsh (n : Int) (j : Nat) : Int := IntKind.u8.wrap (n.fdiv (2 ^ min (8 * (7 - (j : Int))).toNat IntKind.i64.bits))
def rnumB (n : Int) (j : Nat) : List Int := (List.range j).map (rsh n)
theorem rnumB_succ (n : Int) (j : Nat) : rnumB n (j + 1) = rnumB n j ++ [rsh n j] := by simp [rnumB, List.range_succ]
def rHashR (v : Val) : Int × Int := if (rCheckR v != 0) = true then (0, rCheckR v) else if (v.kind == 2) = true then ((v.text.map (fun c => (c.toNat : Int))).foldl rmix (rmix 2166136261 (IntKind.u8.wrap v.kind)), 0) else ((rnumB v.num 8).foldl rmix (rmix 2166136261 (IntKind.u8.wrap v.kind)), 0)
attribute [local irreducible] rmix
theorem rCheckR_len {v : Val} (h : (rCheckR v != 0) = false) (hk : v.kind = 2) : v.text.length ≤ 64 := by
  have h' : rCheckR v = 0 := by simpa using h
  unfold rCheckR at h'
  rw [if_neg (by simp [hk]), if_pos (by simp [hk])] at h'
  by_cases hn : (v.num != 0) = true
  · rw [if_pos hn] at h'; omega
  · rw [if_neg hn] at h'
    by_cases hl : (64 : Int) < v.text.length
    · rw [if_pos (by simpa using hl)] at h'; omega
    · omega
attribute [local irreducible] rCheckR
end Go.Abs
set_option maxRecDepth 100000
namespace Go.Abs
open Go Go.Proofs
set_option linter.unusedSimpArgs false
attribute [simp] T60
/-- A reader: object 0 its two cells, object 1 the bytes. -/
def rdr (rest s : List UInt8) : List AObj := [.vars [.str rest, .sl 1 1 0 s.length], .arr 5 1 (s.map byteAV)]
@[simp] theorem rdr_len (r s : List UInt8) : (rdr r s).length = 2 := rfl
def rdr' (rest s : List UInt8) (H : List AObj) : Prop := ∃ G, H = [.vars [.str rest, .sl 3 1 0 s.length], .dead, G, .arr 5 1 (s.map byteAV)]
def printB (c : UInt8) : Bool := decide ((32 : Int) ≤ c.toNat) && decide ((c.toNat : Int) ≤ 126)
set_option maxHeartbeats 1000000 in
theorem fc_plain (c : UInt8) (rest s : List UInt8) (hl : s.length ≤ 100000000) :
    FC Tryz.prog 33 [.vptr 0 0] (rdr (c :: rest) s) (fun r H' => r = .bool (printB c) ∧ rdr' rest (s ++ [c]) H') := by
  refine FC_body tOk Tryz.func33 rfl Tryz.results33 rfl (by simp [Tryz.ntmps33]) ?_
  rw [Tryz.ntmps33]
  simp only [argSlots]
  simp only [rdr]
  repeat (first
    | (refine AWP_seq (AWP_regS tOk rfl ?_); simp)
    | (refine AWP_regS tOk rfl ?_; simp)
    | (refine AWP_skip ?_; simp)
    | (refine AWP_exit ?_; simp)
    | (refine AWP_ret ?_; simp)
    | refine AWP_block ?_
    | refine AWP_seq ?_)
  have hr0 : (1 : Int) ≤ (rest.length : Int) + 1 := by omega
  refine AWP_drawT tOk mixed [8, 16, 19] (.val 0 (.val 1 (.val 2 (.val 3 (.val 4 (.val 5 (.val 6 (.val 9 (.val 10 (.val 11 (.two 7 (.two 8 (.val 12 (.val 13 (.val 14 (.val 15 (.one 16 (.val 17 (.val 18 (.one 19 (.done))))))))) 12 (.val 13 (.one 8 (.val 14 (.val 15 (.one 16 (.val 17 (.val 18 (.one 19 (.done)))))))))) 12 (.val 13 (.one 7 (.one 8 (.val 14 (.val 15 (.one 16 (.val 17 (.val 18 (.one 19 (.done))))))))))))))))))))) rfl (by kernel_rfl) ?_
  simp [hr0]
  refine ⟨?_, ?_⟩
  · refine AStep_appendS tOk rfl rfl T53 rfl T5 rfl (by decide) (by decide) rfl rfl rfl ?_
    simp [hr0]
    refine ⟨by simp [appOk]; omega, ?_⟩
    repeat (first
      | (refine AWP_seq (AWP_regS tOk rfl ?_); simp)
      | (refine AWP_regS tOk rfl ?_; simp)
      | (refine AWP_skip ?_; simp)
      | (refine AWP_exit ?_; simp)
      | (refine AWP_ret ?_; simp)
      | refine AWP_block ?_
      | refine AWP_seq ?_)
    exact ⟨rfl, _, by simp; rfl⟩
  · refine AStep_appendS tOk rfl rfl T53 rfl T5 rfl (by decide) (by decide) rfl rfl rfl ?_
    simp [hr0]
    refine ⟨by simp [appOk]; omega, ?_⟩
    repeat (first
      | (refine AWP_seq (AWP_regS tOk rfl ?_); simp)
      | (refine AWP_regS tOk rfl ?_; simp)
      | (refine AWP_skip ?_; simp)
      | (refine AWP_exit ?_; simp)
      | (refine AWP_ret ?_; simp)
      | refine AWP_block ?_
      | refine AWP_seq ?_)
    exact ⟨rfl, _, by simp; rfl⟩
def hexI (c : UInt8) : Int := Lib.indexByte hexs c
theorem indexByte_bound (l : List UInt8) (c : UInt8) : -1 ≤ Lib.indexByte l c ∧ Lib.indexByte l c < l.length := by
  induction l with
  | nil => simp [Lib.indexByte]
  | cons x l ih =>
    unfold Lib.indexByte
    simp only [List.length_cons]
    split
    · omega
    · split <;> omega
theorem hexI_bound (c : UInt8) : -1 ≤ hexI c ∧ hexI c < 16 := indexByte_bound hexs c
def hexV (a b : UInt8) : UInt8 := UInt8.ofNat (16 * hexI a + hexI b).toNat
theorem hexV_int (a b : UInt8) (ha : 0 ≤ hexI a) (hb : 0 ≤ hexI b) : ((hexV a b).toNat : Int) = 16 * hexI a + hexI b := by
  have h1 := hexI_bound a
  have h2 := hexI_bound b
  have : (hexV a b).toNat = (16 * hexI a + hexI b).toNat % 256 := by simp [hexV]
  rw [this]
  omega
def escX : List UInt8 → Option (UInt8 × List UInt8)
  | a :: b :: r => if (decide (hexI a < 0) || decide (hexI b < 0)) = true then none else some (hexV a b, r)
  | _ => none
def escR : List UInt8 → Option (UInt8 × List UInt8)
  | [] => none
  | c :: r => if ((c.toNat : Int) == 34 || (c.toNat : Int) == 92) = true then some (c, r) else if ((c.toNat : Int) == 110) = true then some (10, r) else if ((c.toNat : Int) == 120) = true then escX r else none
def escQ (e : Option (UInt8 × List UInt8)) (s : List UInt8) (r : AV) (H' : List AObj) : Prop := match e with
  | none => r = .bool false
  | some (b, r') => r = .bool true ∧ rdr' r' (s ++ [b]) H'
theorem hexI_def (c : UInt8) : hexI c = Lib.indexByte hexs c := rfl
attribute [local irreducible] hexI hexV
set_option maxHeartbeats 1000000 in
theorem fc_escaped (rest s : List UInt8) (hl : s.length ≤ 100000000) :
    FC Tryz.prog 34 [.vptr 0 0] (rdr rest s) (escQ (escR rest) s) := by
  refine FC_body tOk Tryz.func34 rfl Tryz.results34 rfl (by simp [Tryz.ntmps34]) ?_
  rw [Tryz.ntmps34]
  simp only [argSlots]
  simp only [rdr]
  rcases rest with _ | ⟨c, rest⟩
  · repeat (first
      | (refine AWP_seq (AWP_regS tOk rfl ?_); simp)
      | (refine AWP_regS tOk rfl ?_; simp)
      | (refine AWP_skip ?_; simp)
      | (refine AWP_exit ?_; simp)
      | (refine AWP_ret ?_; simp)
      | refine AWP_block ?_
      | refine AWP_seq ?_)
    refine AWP_cond rfl ?_
    repeat (first
      | (refine AWP_seq (AWP_regS tOk rfl ?_); simp)
      | (refine AWP_regS tOk rfl ?_; simp)
      | (refine AWP_skip ?_; simp)
      | (refine AWP_exit ?_; simp)
      | (refine AWP_ret ?_; simp)
      | refine AWP_block ?_
      | refine AWP_seq ?_)
    rfl
  have hr0 : (1 : Int) ≤ (rest.length : Int) + 1 := by omega
  repeat (first
    | (refine AWP_seq (AWP_regS tOk rfl ?_); simp)
    | (refine AWP_regS tOk rfl ?_; simp)
    | (refine AWP_skip ?_; simp)
    | (refine AWP_exit ?_; simp)
    | (refine AWP_ret ?_; simp)
    | refine AWP_block ?_
    | refine AWP_seq ?_)
  refine AWP_cond rfl ?_
  repeat (first
    | (refine AWP_seq (AWP_regS tOk rfl ?_); simp)
    | (refine AWP_regS tOk rfl ?_; simp)
    | (refine AWP_skip ?_; simp)
    | (refine AWP_exit ?_; simp)
    | (refine AWP_ret ?_; simp)
    | refine AWP_block ?_
    | refine AWP_seq ?_)
  refine AWP_cond2 rfl (fun h1 => ?_) (fun h1 => ?_)
  · repeat (first
      | (refine AWP_seq (AWP_regS tOk rfl ?_); simp)
      | (refine AWP_regS tOk rfl ?_; simp)
      | (refine AWP_skip ?_; simp)
      | (refine AWP_exit ?_; simp)
      | (refine AWP_ret ?_; simp)
      | refine AWP_block ?_
      | refine AWP_seq ?_)
    refine AWP_cond (b := true) (by rw [← h1]; rfl) ?_
    repeat (first
      | (refine AWP_seq (AWP_regS tOk rfl ?_); simp)
      | (refine AWP_regS tOk rfl ?_; simp)
      | (refine AWP_skip ?_; simp)
      | (refine AWP_exit ?_; simp)
      | (refine AWP_ret ?_; simp)
      | refine AWP_block ?_
      | refine AWP_seq ?_)
    refine AStep_appendS tOk rfl rfl T53 rfl T5 rfl (by decide) (by decide) rfl rfl rfl ?_
    simp [hr0]
    refine ⟨by simp [appOk]; omega, ?_⟩
    repeat (first
      | (refine AWP_seq (AWP_regS tOk rfl ?_); simp [hr0])
      | (refine AWP_regS tOk rfl ?_; simp [hr0])
      | (refine AWP_skip ?_; simp [hr0])
      | (refine AWP_exit ?_; simp [hr0])
      | (refine AWP_ret ?_; simp [hr0])
      | refine AWP_block ?_
      | refine AWP_seq ?_)
    rw [escR, ite_t (by rw [h1]; rfl)]
    exact ⟨rfl, _, by simp; rfl⟩
  · repeat (first
      | (refine AWP_seq (AWP_regS tOk rfl ?_); simp)
      | (refine AWP_regS tOk rfl ?_; simp)
      | (refine AWP_skip ?_; simp)
      | (refine AWP_exit ?_; simp)
      | (refine AWP_ret ?_; simp)
      | refine AWP_block ?_
      | refine AWP_seq ?_)
    refine AWP_cond2 rfl (fun h2 => ?_) (fun h2 => ?_)
    · repeat (first
        | (refine AWP_seq (AWP_regS tOk rfl ?_); simp)
        | (refine AWP_regS tOk rfl ?_; simp)
        | (refine AWP_skip ?_; simp)
        | (refine AWP_exit ?_; simp)
        | (refine AWP_ret ?_; simp)
        | refine AWP_block ?_
        | refine AWP_seq ?_)
      refine AStep_appendS tOk rfl rfl T53 rfl T5 rfl (by decide) (by decide) rfl rfl rfl ?_
      simp [hr0]
      refine ⟨by simp [appOk]; omega, ?_⟩
      repeat (first
        | (refine AWP_seq (AWP_regS tOk rfl ?_); simp [hr0])
        | (refine AWP_regS tOk rfl ?_; simp [hr0])
        | (refine AWP_skip ?_; simp [hr0])
        | (refine AWP_exit ?_; simp [hr0])
        | (refine AWP_ret ?_; simp [hr0])
        | refine AWP_block ?_
        | refine AWP_seq ?_)
      rw [escR, ite_t (by rw [h2]; simp)]
      exact ⟨rfl, _, by simp; rfl⟩
    have h12 : ((c.toNat : Int) == 34 || (c.toNat : Int) == 92) = false := by rw [h1, h2]; rfl
    repeat (first
      | (refine AWP_seq (AWP_regS tOk rfl ?_); simp)
      | (refine AWP_regS tOk rfl ?_; simp)
      | (refine AWP_skip ?_; simp)
      | (refine AWP_exit ?_; simp)
      | (refine AWP_ret ?_; simp)
      | refine AWP_block ?_
      | refine AWP_seq ?_)
    refine AWP_cond2 rfl (fun h3 => ?_) (fun h3 => ?_)
    · repeat (first
        | (refine AWP_seq (AWP_regS tOk rfl ?_); simp)
        | (refine AWP_regS tOk rfl ?_; simp)
        | (refine AWP_skip ?_; simp)
        | (refine AWP_exit ?_; simp)
        | (refine AWP_ret ?_; simp)
        | refine AWP_block ?_
        | refine AWP_seq ?_)
      refine AStep_appendS tOk rfl rfl T53 rfl T5 rfl (by decide) (by decide) rfl rfl rfl ?_
      simp [hr0]
      refine ⟨by simp [appOk]; omega, ?_⟩
      repeat (first
        | (refine AWP_seq (AWP_regS tOk rfl ?_); simp [hr0])
        | (refine AWP_regS tOk rfl ?_; simp [hr0])
        | (refine AWP_skip ?_; simp [hr0])
        | (refine AWP_exit ?_; simp [hr0])
        | (refine AWP_ret ?_; simp [hr0])
        | refine AWP_block ?_
        | refine AWP_seq ?_)
      rw [escR, ite_f h12, ite_t h3]
      exact ⟨rfl, _, by simp; rfl⟩
    repeat (first
      | (refine AWP_seq (AWP_regS tOk rfl ?_); simp)
      | (refine AWP_regS tOk rfl ?_; simp)
      | (refine AWP_skip ?_; simp)
      | (refine AWP_exit ?_; simp)
      | (refine AWP_ret ?_; simp)
      | refine AWP_block ?_
      | refine AWP_seq ?_)
    refine AWP_cond2 rfl (fun h4 => ?_) (fun h4 => ?_)
    · repeat (first
        | (refine AWP_seq (AWP_regS tOk rfl ?_); simp)
        | (refine AWP_regS tOk rfl ?_; simp)
        | (refine AWP_skip ?_; simp)
        | (refine AWP_exit ?_; simp)
        | (refine AWP_ret ?_; simp)
        | refine AWP_block ?_
        | refine AWP_seq ?_)
      rcases rest with _ | ⟨a, _ | ⟨b, rest⟩⟩
      · refine AWP_cond rfl ?_
        repeat (first
          | (refine AWP_seq (AWP_regS tOk rfl ?_); simp)
          | (refine AWP_regS tOk rfl ?_; simp)
          | (refine AWP_skip ?_; simp)
          | (refine AWP_exit ?_; simp)
          | (refine AWP_ret ?_; simp)
          | refine AWP_block ?_
          | refine AWP_seq ?_)
        rw [escR, ite_f h12, ite_f h3, ite_t h4]
        rfl
      · refine AWP_cond rfl ?_
        repeat (first
          | (refine AWP_seq (AWP_regS tOk rfl ?_); simp)
          | (refine AWP_regS tOk rfl ?_; simp)
          | (refine AWP_skip ?_; simp)
          | (refine AWP_exit ?_; simp)
          | (refine AWP_ret ?_; simp)
          | refine AWP_block ?_
          | refine AWP_seq ?_)
        rw [escR, ite_f h12, ite_f h3, ite_t h4]
        rfl
      · refine AWP_cond (b := false) ?_ ?_
        · simp; omega
        have hr1 : (2 : Int) ≤ (rest.length : Int) + 1 + 1 + 1 := by omega
        have hr2 : (1 : Int) ≤ (rest.length : Int) + 1 := by omega
        have hr3 : (1 : Int) ≤ (rest.length : Int) + 1 + 1 + 1 := by omega
        have hr4 : (2 : Int) < (rest.length : Int) + 1 + 1 + 1 := by omega
        repeat (first
          | (refine AWP_seq (AWP_regS tOk rfl ?_); simp)
          | (refine AWP_regS tOk rfl ?_; simp)
          | (refine AWP_skip ?_; simp)
          | (refine AWP_exit ?_; simp)
          | (refine AWP_ret ?_; simp)
          | refine AWP_block ?_
          | refine AWP_seq ?_)
        refine AWP_drawT tOk mixed [] (.val 0 (.val 1 (.val 2 (.val 3 (.val 4 (.val 6 (.val 7 (.val 8 (.val 9 (.val 10 (.one 5 (.one 11 (.val 12 (.val 13 (.done))))))))))))))) rfl (by kernel_rfl) ?_
        simp [hr1, hr3, hr4]
        refine AStep_PC rfl rfl (by simp) (pc_Ixb hexs a) rfl ?_
        rintro _ rfl
        simp
        refine AStep_PC rfl rfl (by simp) (pc_Ixb hexs b) rfl ?_
        rintro _ rfl
        simp
        have bx := hexI_bound a
        have byy := hexI_bound b
        rw [← hexI_def a, ← hexI_def b]
        repeat (first
          | (refine AWP_seq (AWP_regS tOk rfl ?_); simp)
          | (refine AWP_regS tOk rfl ?_; simp)
          | (refine AWP_skip ?_; simp)
          | (refine AWP_exit ?_; simp)
          | (refine AWP_ret ?_; simp)
          | refine AWP_block ?_
          | refine AWP_seq ?_)
        refine AWP_cond2 rfl (fun h5 => ?_) (fun h5 => ?_)
        · repeat (first
            | (refine AWP_seq (AWP_regS tOk rfl ?_); simp)
            | (refine AWP_regS tOk rfl ?_; simp)
            | (refine AWP_skip ?_; simp)
            | (refine AWP_exit ?_; simp)
            | (refine AWP_ret ?_; simp)
            | refine AWP_block ?_
            | refine AWP_seq ?_)
          rw [escR, ite_f h12, ite_f h3, ite_t h4, escX, ite_t h5]
          rfl
        · have h5' : 0 ≤ hexI a ∧ 0 ≤ hexI b := by simpa using h5
          have e1 : IntKind.i64.wrap (hexI a * 2 ^ min 4 IntKind.i64.bits) = hexI a * 16 := by rw [show min 4 IntKind.i64.bits = 4 from rfl]; exact wrap_i64 _ (by omega) (by omega)
          have e2 : IntKind.i64.wrap (hexI a * 16 + hexI b) = hexI a * 16 + hexI b := wrap_i64 _ (by omega) (by omega)
          have e3 : IntKind.u8.wrap (hexI a * 16 + hexI b) = (hexV a b).toNat := by rw [hexV_int a b h5'.1 h5'.2, IntKind.wrap_u8]; omega
          repeat (first
            | (refine AWP_seq (AWP_regS tOk rfl ?_); simp [e1, e2, e3])
            | (refine AWP_regS tOk rfl ?_; simp [e1, e2, e3])
            | (refine AWP_skip ?_; simp [e1, e2, e3])
            | (refine AWP_exit ?_; simp [e1, e2, e3])
            | (refine AWP_ret ?_; simp [e1, e2, e3])
            | refine AWP_block ?_
            | refine AWP_seq ?_)
          refine AStep_appendS tOk rfl rfl T53 rfl T5 rfl (by decide) (by decide) rfl rfl rfl ?_
          simp [hr1, hr2]
          refine ⟨by simp [appOk]; omega, ?_⟩
          repeat (first
            | (refine AWP_seq (AWP_regS tOk rfl ?_); simp [hr1, hr2])
            | (refine AWP_regS tOk rfl ?_; simp [hr1, hr2])
            | (refine AWP_skip ?_; simp [hr1, hr2])
            | (refine AWP_exit ?_; simp [hr1, hr2])
            | (refine AWP_ret ?_; simp [hr1, hr2])
            | refine AWP_block ?_
            | refine AWP_seq ?_)
          rw [escR, ite_f h12, ite_f h3, ite_t h4, escX, ite_f h5]
          exact ⟨rfl, _, by simp; rfl⟩
    · repeat (first
        | (refine AWP_seq (AWP_regS tOk rfl ?_); simp)
        | (refine AWP_regS tOk rfl ?_; simp)
        | (refine AWP_skip ?_; simp)
        | (refine AWP_exit ?_; simp)
        | (refine AWP_ret ?_; simp)
        | refine AWP_block ?_
        | refine AWP_seq ?_)
      rw [escR, ite_f h12, ite_f h3, ite_f h4]
      rfl
end Go.Abs
set_option maxRecDepth 100000
namespace Go.Abs
open Go Go.Proofs
set_option linter.unusedSimpArgs false
def unqF : Nat → List UInt8 → List UInt8 → List UInt8 × Bool
  | 0, _, _ => ([], false)
  | _ + 1, [], _ => ([], false)
  | n + 1, c :: r, out => if ((c.toNat : Int) == 34) = true then (out, (c :: r) == [34]) else if ((c.toNat : Int) == 92) = true then (match escR r with
      | none => ([], false)
      | some (b, r') => unqF n r' (out ++ [b])) else if printB c = true then unqF n r (out ++ [c]) else ([], false)
theorem escR_len {r r' : List UInt8} {b : UInt8} (h : escR r = some (b, r')) : r'.length < r.length := by
  rcases r with _ | ⟨c, r⟩
  · cases h
  · rw [escR] at h
    split at h
    · cases h; simp
    · split at h
      · cases h; simp
      · split at h
        · rcases r with _ | ⟨x, _ | ⟨y, r⟩⟩
          · cases h
          · cases h
          · rw [escX] at h
            split at h
            · cases h
            · cases h; simp; omega
        · cases h
theorem unqF_nil (n : Nat) (out : List UInt8) : unqF n [] out = ([], false) := by cases n <;> rfl
attribute [local irreducible] printB escR
set_option maxHeartbeats 2000000 in
theorem pc_unquoted (c0 : UInt8) (s : List UInt8) (hs : s.length ≤ 1000000) : PC Tryz.prog 13 [.str (c0 :: s)] (fun r => r = .tup [.str (unqF s.length s []).1, .bool (unqF s.length s []).2]) := by
  refine PC_body tOk Tryz.func13 rfl Tryz.results13 rfl (by simp [Tryz.ntmps13]) ?_
  rw [Tryz.ntmps13]
  simp only [argSlots]
  have hr0 : (1 : Int) ≤ (s.length : Int) + 1 := by omega
  refine AWP_seq (AWP_regS tOk rfl ?_)
  simp [hr0]
  refine AWP_seq (AWP_regS tOk rfl ?_)
  simp [hr0]
  refine AWP_nilOwn 0 1 5 1 rfl rfl ?_
  simp
  repeat (first
    | (refine AWP_seq (AWP_regS tOk rfl ?_); simp)
    | (refine AWP_regS tOk rfl ?_; simp)
    | (refine AWP_skip ?_; simp)
    | (refine AWP_exit ?_; simp)
    | (refine AWP_ret ?_; simp)
    | refine AWP_block ?_
    | refine AWP_seq ?_)
  obtain ⟨RES, hres⟩ : ∃ RES, unqF s.length s [] = RES := ⟨_, rfl⟩
  rw [hres]
  refine AWP_loop (ALoop_keep (sl' := [(4, .vptr 0 0)]) ?_ (by simp))
  refine ALoop_wf (F := fun (u : List UInt8 × List UInt8) => ⟨[(4, .vptr 0 0)], rdr u.1 u.2⟩) (fun u => u.1.length + u.2.length ≤ s.length ∧ ∃ n, u.1.length ≤ n ∧ unqF n u.1 u.2 = RES) (fun u => u.1.length) ?_ (s, []) ⟨by simp, _, Nat.le_refl _, hres⟩
  rintro ⟨rest, out⟩ ⟨hb, n, hn, hI⟩ ih
  simp only at hb hn hI ih ⊢
  rcases rest with _ | ⟨c, rest⟩
  · rw [unqF_nil] at hI
    subst hI
    simp only [rdr]
    repeat (first
      | (refine AWP_seq (AWP_regS tOk rfl ?_); simp)
      | (refine AWP_regS tOk rfl ?_; simp)
      | (refine AWP_skip ?_; simp)
      | (refine AWP_exit ?_; simp)
      | (refine AWP_ret ?_; simp)
      | refine AWP_block ?_
      | refine AWP_seq ?_)
    refine AWP_cond rfl ?_
    repeat (first
      | (refine AWP_seq (AWP_regS tOk rfl ?_); simp)
      | (refine AWP_regS tOk rfl ?_; simp)
      | (refine AWP_skip ?_; simp)
      | (refine AWP_exit ?_; simp)
      | (refine AWP_ret ?_; simp)
      | refine AWP_block ?_
      | refine AWP_seq ?_)
  · obtain ⟨n, rfl⟩ : ∃ k, n = k + 1 := ⟨n - 1, by simp at hn; omega⟩
    simp at hn hb
    rw [unqF] at hI
    have hr1 : (1 : Int) ≤ (rest.length : Int) + 1 := by omega
    simp only [rdr]
    repeat (first
      | (refine AWP_seq (AWP_regS tOk rfl ?_); simp)
      | (refine AWP_regS tOk rfl ?_; simp)
      | (refine AWP_skip ?_; simp)
      | (refine AWP_exit ?_; simp)
      | (refine AWP_ret ?_; simp)
      | refine AWP_block ?_
      | refine AWP_seq ?_)
    refine AWP_cond rfl ?_
    repeat (first
      | (refine AWP_seq (AWP_regS tOk rfl ?_); simp)
      | (refine AWP_regS tOk rfl ?_; simp)
      | (refine AWP_skip ?_; simp)
      | (refine AWP_exit ?_; simp)
      | (refine AWP_ret ?_; simp)
      | refine AWP_block ?_
      | refine AWP_seq ?_)
    refine AWP_cond2 rfl (fun h1 => ?_) (fun h1 => ?_)
    · rw [ite_t h1] at hI
      repeat (first
        | (refine AWP_seq (AWP_regS tOk rfl ?_); simp)
        | (refine AWP_regS tOk rfl ?_; simp)
        | (refine AWP_skip ?_; simp)
        | (refine AWP_exit ?_; simp)
        | (refine AWP_ret ?_; simp)
        | refine AWP_block ?_
        | refine AWP_seq ?_)
      refine AWP_drawT tOk mixed [] (.val 0 (.val 1 (.val 2 (.val 3 (.val 5 (.val 6 (.val 7 (.val 8 (.val 9 (.one 4 (.val 10 (.val 11 (.done))))))))))))) rfl (by kernel_rfl) ?_
      simp
      refine AStep_toStr tOk rfl rfl T53 rfl T5 rfl T9 rfl rfl (s := out) (by simp [List.take_of_length_le]) rfl ?_
      simp
      repeat (first
        | (refine AWP_seq (AWP_regS tOk rfl ?_); simp)
        | (refine AWP_regS tOk rfl ?_; simp)
        | (refine AWP_skip ?_; simp)
        | (refine AWP_exit ?_; simp)
        | (refine AWP_ret ?_; simp)
        | refine AWP_block ?_
        | refine AWP_seq ?_)
      rw [← hI]
      simp
    rw [ite_f h1] at hI
    repeat (first
      | (refine AWP_seq (AWP_regS tOk rfl ?_); simp)
      | (refine AWP_regS tOk rfl ?_; simp)
      | (refine AWP_skip ?_; simp)
      | (refine AWP_exit ?_; simp)
      | (refine AWP_ret ?_; simp)
      | refine AWP_block ?_
      | refine AWP_seq ?_)
    refine AWP_cond2 rfl (fun h2 => ?_) (fun h2 => ?_)
    · rw [ite_t h2] at hI
      repeat (first
        | (refine AWP_seq (AWP_regS tOk rfl ?_); simp [hr1])
        | (refine AWP_regS tOk rfl ?_; simp [hr1])
        | (refine AWP_skip ?_; simp [hr1])
        | (refine AWP_exit ?_; simp [hr1])
        | (refine AWP_ret ?_; simp [hr1])
        | refine AWP_block ?_
        | refine AWP_seq ?_)
      refine AStep_FC rfl rfl (fc_escaped rest out (by omega)) rfl ?_
      intro r H' hq
      unfold escQ at hq
      cases he : escR rest with
      | none =>
        rw [he] at hq hI
        simp only at hq hI
        subst hq
        subst hI
        simp
        repeat (first
          | (refine AWP_seq (AWP_regS tOk rfl ?_); simp)
          | (refine AWP_regS tOk rfl ?_; simp)
          | (refine AWP_skip ?_; simp)
          | (refine AWP_exit ?_; simp)
          | (refine AWP_ret ?_; simp)
          | refine AWP_block ?_
          | refine AWP_seq ?_)
        refine AWP_cond rfl ?_
        repeat (first
          | (refine AWP_seq (AWP_regS tOk rfl ?_); simp)
          | (refine AWP_regS tOk rfl ?_; simp)
          | (refine AWP_skip ?_; simp)
          | (refine AWP_exit ?_; simp)
          | (refine AWP_ret ?_; simp)
          | refine AWP_block ?_
          | refine AWP_seq ?_)
      | some p =>
        obtain ⟨b, r'⟩ := p
        rw [he] at hq hI
        simp only at hq hI
        obtain ⟨rfl, G, rfl⟩ := hq
        have hlt := escR_len he
        simp
        repeat (first
          | (refine AWP_seq (AWP_regS tOk rfl ?_); simp)
          | (refine AWP_regS tOk rfl ?_; simp)
          | (refine AWP_skip ?_; simp)
          | (refine AWP_exit ?_; simp)
          | (refine AWP_ret ?_; simp)
          | refine AWP_block ?_
          | refine AWP_seq ?_)
        refine AWP_cond rfl ?_
        repeat (first
          | (refine AWP_seq (AWP_regS tOk rfl ?_); simp)
          | (refine AWP_regS tOk rfl ?_; simp)
          | (refine AWP_skip ?_; simp)
          | (refine AWP_exit ?_; simp)
          | (refine AWP_ret ?_; simp)
          | refine AWP_block ?_
          | refine AWP_seq ?_)
        refine ALoop_ren [0, 3] (sl' := [(4, .vptr 0 0)]) (H' := rdr r' (out ++ [b])) (ih (r', out ++ [b]) ⟨by simp; omega, n, by simp; omega, hI⟩ (by simp; omega)) (by simp [rdr]) (by decide) (by simp) rfl (by simp [rdr]) (by simp [rdr]) (by simp)
    · rw [ite_f h2] at hI
      repeat (first
        | (refine AWP_seq (AWP_regS tOk rfl ?_); simp)
        | (refine AWP_regS tOk rfl ?_; simp)
        | (refine AWP_skip ?_; simp)
        | (refine AWP_exit ?_; simp)
        | (refine AWP_ret ?_; simp)
        | refine AWP_block ?_
        | refine AWP_seq ?_)
      refine AStep_FC rfl rfl (fc_plain c rest out (by omega)) rfl ?_
      rintro r H' ⟨rfl, G, rfl⟩
      simp
      repeat (first
        | (refine AWP_seq (AWP_regS tOk rfl ?_); simp)
        | (refine AWP_regS tOk rfl ?_; simp)
        | (refine AWP_skip ?_; simp)
        | (refine AWP_exit ?_; simp)
        | (refine AWP_ret ?_; simp)
        | refine AWP_block ?_
        | refine AWP_seq ?_)
      refine AWP_cond2 rfl (fun h3 => ?_) (fun h3 => ?_)
      · rw [ite_f (by simpa using h3)] at hI
        subst hI
        repeat (first
          | (refine AWP_seq (AWP_regS tOk rfl ?_); simp)
          | (refine AWP_regS tOk rfl ?_; simp)
          | (refine AWP_skip ?_; simp)
          | (refine AWP_exit ?_; simp)
          | (refine AWP_ret ?_; simp)
          | refine AWP_block ?_
          | refine AWP_seq ?_)
      · rw [ite_t (by simpa using h3)] at hI
        repeat (first
          | (refine AWP_seq (AWP_regS tOk rfl ?_); simp)
          | (refine AWP_regS tOk rfl ?_; simp)
          | (refine AWP_skip ?_; simp)
          | (refine AWP_exit ?_; simp)
          | (refine AWP_ret ?_; simp)
          | refine AWP_block ?_
          | refine AWP_seq ?_)
        refine ALoop_ren [0, 3] (sl' := [(4, .vptr 0 0)]) (H' := rdr rest (out ++ [c])) (ih (rest, out ++ [c]) ⟨by simp; omega, n, by simp; omega, hI⟩ (by simp)) (by simp [rdr]) (by decide) (by simp) rfl (by simp [rdr]) (by simp [rdr]) (by simp)
end Go.Abs
