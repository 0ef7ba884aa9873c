/- The types of the program, as the abstract machine is told of them. -/
import Derived.Test.YtcjmlnjoaekbjaaGreatDoorKe
import Derived.Test.YtcjmlnjoaekbjaaGreatDoorChecked
import Derived.KernelRfl
import Derived.Lib.LaidTab
import Derived.Lib.ItoaNum
import Derived.Shelf.SlGeneric
import Derived.Ground.SlsfProg
import Derived.Shelf.SlSortCmp.WholeK
import Derived.Test.YtcjmlnjoaekbjaaGreatDoorProg
import Derived.Shelf.Small.Strs
import Derived.Shelf.LaysM
import Derived.Shelf.Strconv.Itoa3
import Derived.Shelf.Sort.Plain
import Derived.Ground.Names2Prog
import Derived.Shelf.Slices.CompactI
import Derived.Shelf.Slices.Cells
import Derived.Shelf.Slices.In.SortNone
import Derived.Ground.SlgcProg
import Derived.Shelf.SlicesG.Cmp
set_option linter.all false
set_option maxRecDepth 100000
namespace Go.Abs
open Go Go.Proofs

def T : TT := [
  (2, { desc := .int .i64, zero := (.int .i64 0), size := 1, bytes := 8 }),
  (3, { desc := .int .i64, zero := (.int .i64 0), size := 1, bytes := 8 }),
  (4, { desc := .bool, zero := (.bool false), size := 1, bytes := 1 }),
  (5, { desc := .int .u8, zero := (.int .u8 0), size := 1, bytes := 1 }),
  (9, { desc := .string, zero := (.string ⟨#[]⟩), size := 1, bytes := 16 }),
  (21, { desc := .int .i32, zero := (.int .i32 0), size := 1, bytes := 4 }),
  (22, { desc := .slice 59, zero := (.slice none 0 0), size := 1, bytes := 24 }),
  (25, { desc := .int .i64, zero := (.int .i64 0), size := 1, bytes := 8 }),
  (57, { desc := .slice 22, zero := (.slice none 0 0), size := 1, bytes := 24 }),
  (59, { desc := .struct #[{ name := "Low", type := 3, offset := 0, embedded := false, tag := "", pkgPath := "", byteOffset := 0 }, { name := "High", type := 3, offset := 1, embedded := false, tag := "", pkgPath := "", byteOffset := 8 }], zero := (.agg #[(.int .i64 0), (.int .i64 0)]), size := 2, bytes := 16, eqv := true }),
  (61, { desc := .func #[4, 4] #[4] false, zero := .nilFunc, size := 1, bytes := 8 }),
  (66, { desc := .func #[87] #[] false, zero := .nilFunc, size := 1, bytes := 8 }),
  (71, { desc := .slice 9, zero := (.slice none 0 0), size := 1, bytes := 24 }),
  (75, { desc := .func #[118] #[] false, zero := .nilFunc, size := 1, bytes := 8 }),
  (85, { desc := .func #[59, 59] #[3] false, zero := .nilFunc, size := 1, bytes := 8 }),
  (91, { desc := .func #[59, 3] #[3] false, zero := .nilFunc, size := 1, bytes := 8 }),
  (92, { desc := .pointer 95, zero := (.pointer none), size := 1, bytes := 8 }),
  (93, { desc := .slice 5, zero := (.slice none 0 0), size := 1, bytes := 24 }),
  (95, { desc := .struct #[{ name := "addr", type := 92, offset := 0, embedded := false, tag := "", pkgPath := "strings", byteOffset := 0 }, { name := "buf", type := 93, offset := 1, embedded := false, tag := "", pkgPath := "strings", byteOffset := 8 }], zero := (.agg #[(.pointer none), (.slice none 0 0)]), size := 2, bytes := 32 }),
  (98, { desc := .interface #[("Error", 101)], zero := .nilIface, size := 1, bytes := 16 }),
  (106, { desc := .slice 3, zero := (.slice none 0 0), size := 1, bytes := 24 }),
  (115, { desc := .int .u64, zero := (.int .u64 0), size := 1, bytes := 8 }),
  (117, { desc := .pointer 5, zero := (.pointer none), size := 1, bytes := 8 }),
  (128, { desc := .array 24 5, zero := (.agg #[(.int .u8 0), (.int .u8 0), (.int .u8 0), (.int .u8 0), (.int .u8 0), (.int .u8 0), (.int .u8 0), (.int .u8 0), (.int .u8 0), (.int .u8 0), (.int .u8 0), (.int .u8 0), (.int .u8 0), (.int .u8 0), (.int .u8 0), (.int .u8 0), (.int .u8 0), (.int .u8 0), (.int .u8 0), (.int .u8 0), (.int .u8 0), (.int .u8 0), (.int .u8 0), (.int .u8 0)]), size := 24, bytes := 24 }),
  (129, { desc := .int .u64, zero := (.int .u64 0), size := 1, bytes := 8 }),
  (134, { desc := .unsafePointer, zero := (.pointer none), size := 1, bytes := 8 }),
  (139, { desc := .array 256 4, zero := (.agg #[(.bool false), (.bool false), (.bool false), (.bool false), (.bool false), (.bool false), (.bool false), (.bool false), (.bool false), (.bool false), (.bool false), (.bool false), (.bool false), (.bool false), (.bool false), (.bool false), (.bool false), (.bool false), (.bool false), (.bool false), (.bool false), (.bool false), (.bool false), (.bool false), (.bool false), (.bool false), (.bool false), (.bool false), (.bool false), (.bool false), (.bool false), (.bool false), (.bool false), (.bool false), (.bool false), (.bool false), (.bool false), (.bool false), (.bool false), (.bool false), (.bool false), (.bool false), (.bool false), (.bool false), (.bool false), (.bool false), (.bool false), (.bool false), (.bool false), (.bool false), (.bool false), (.bool false), (.bool false), (.bool false), (.bool false), (.bool false), (.bool false), (.bool false), (.bool false), (.bool false), (.bool false), (.bool false), (.bool false), (.bool false), (.bool false), (.bool false), (.bool false), (.bool false), (.bool false), (.bool false), (.bool false), (.bool false), (.bool false), (.bool false), (.bool false), (.bool false), (.bool false), (.bool false), (.bool false), (.bool false), (.bool false), (.bool false), (.bool false), (.bool false), (.bool false), (.bool false), (.bool false), (.bool false), (.bool false), (.bool false), (.bool false), (.bool false), (.bool false), (.bool false), (.bool false), (.bool false), (.bool false), (.bool false), (.bool false), (.bool false), (.bool false), (.bool false), (.bool false), (.bool false), (.bool false), (.bool false), (.bool false), (.bool false), (.bool false), (.bool false), (.bool false), (.bool false), (.bool false), (.bool false), (.bool false), (.bool false), (.bool false), (.bool false), (.bool false), (.bool false), (.bool false), (.bool false), (.bool false), (.bool false), (.bool false), (.bool false), (.bool false), (.bool false), (.bool false), (.bool false), (.bool false), (.bool false), (.bool false), (.bool false), (.bool false), (.bool false), (.bool false), (.bool false), (.bool false), (.bool false), (.bool false), (.bool false), (.bool false), (.bool false), (.bool false), (.bool false), (.bool false), (.bool false), (.bool false), (.bool false), (.bool false), (.bool false), (.bool false), (.bool false), (.bool false), (.bool false), (.bool false), (.bool false), (.bool false), (.bool false), (.bool false), (.bool false), (.bool false), (.bool false), (.bool false), (.bool false), (.bool false), (.bool false), (.bool false), (.bool false), (.bool false), (.bool false), (.bool false), (.bool false), (.bool false), (.bool false), (.bool false), (.bool false), (.bool false), (.bool false), (.bool false), (.bool false), (.bool false), (.bool false), (.bool false), (.bool false), (.bool false), (.bool false), (.bool false), (.bool false), (.bool false), (.bool false), (.bool false), (.bool false), (.bool false), (.bool false), (.bool false), (.bool false), (.bool false), (.bool false), (.bool false), (.bool false), (.bool false), (.bool false), (.bool false), (.bool false), (.bool false), (.bool false), (.bool false), (.bool false), (.bool false), (.bool false), (.bool false), (.bool false), (.bool false), (.bool false), (.bool false), (.bool false), (.bool false), (.bool false), (.bool false), (.bool false), (.bool false), (.bool false), (.bool false), (.bool false), (.bool false), (.bool false), (.bool false), (.bool false), (.bool false), (.bool false), (.bool false), (.bool false), (.bool false), (.bool false), (.bool false), (.bool false), (.bool false), (.bool false), (.bool false), (.bool false), (.bool false), (.bool false), (.bool false), (.bool false), (.bool false), (.bool false), (.bool false), (.bool false), (.bool false), (.bool false), (.bool false), (.bool false), (.bool false), (.bool false)]), size := 256, bytes := 256 }),
  (143, { desc := .pointer 139, zero := (.pointer none), size := 1, bytes := 8 }),
  (146, { desc := .int .i64, zero := (.int .i64 0), size := 1, bytes := 8 }),
  (154, { desc := .int .u32, zero := (.int .u32 0), size := 1, bytes := 4 }),
  (164, { desc := .array 20 129, zero := (.agg #[(.int .u64 0), (.int .u64 0), (.int .u64 0), (.int .u64 0), (.int .u64 0), (.int .u64 0), (.int .u64 0), (.int .u64 0), (.int .u64 0), (.int .u64 0), (.int .u64 0), (.int .u64 0), (.int .u64 0), (.int .u64 0), (.int .u64 0), (.int .u64 0), (.int .u64 0), (.int .u64 0), (.int .u64 0), (.int .u64 0)]), size := 20, bytes := 160 }),
  (165, { desc := .array 65 5, zero := (.agg #[(.int .u8 0), (.int .u8 0), (.int .u8 0), (.int .u8 0), (.int .u8 0), (.int .u8 0), (.int .u8 0), (.int .u8 0), (.int .u8 0), (.int .u8 0), (.int .u8 0), (.int .u8 0), (.int .u8 0), (.int .u8 0), (.int .u8 0), (.int .u8 0), (.int .u8 0), (.int .u8 0), (.int .u8 0), (.int .u8 0), (.int .u8 0), (.int .u8 0), (.int .u8 0), (.int .u8 0), (.int .u8 0), (.int .u8 0), (.int .u8 0), (.int .u8 0), (.int .u8 0), (.int .u8 0), (.int .u8 0), (.int .u8 0), (.int .u8 0), (.int .u8 0), (.int .u8 0), (.int .u8 0), (.int .u8 0), (.int .u8 0), (.int .u8 0), (.int .u8 0), (.int .u8 0), (.int .u8 0), (.int .u8 0), (.int .u8 0), (.int .u8 0), (.int .u8 0), (.int .u8 0), (.int .u8 0), (.int .u8 0), (.int .u8 0), (.int .u8 0), (.int .u8 0), (.int .u8 0), (.int .u8 0), (.int .u8 0), (.int .u8 0), (.int .u8 0), (.int .u8 0), (.int .u8 0), (.int .u8 0), (.int .u8 0), (.int .u8 0), (.int .u8 0), (.int .u8 0), (.int .u8 0)]), size := 65, bytes := 65 }),
  (166, { desc := .array 256 5, zero := (.agg #[(.int .u8 0), (.int .u8 0), (.int .u8 0), (.int .u8 0), (.int .u8 0), (.int .u8 0), (.int .u8 0), (.int .u8 0), (.int .u8 0), (.int .u8 0), (.int .u8 0), (.int .u8 0), (.int .u8 0), (.int .u8 0), (.int .u8 0), (.int .u8 0), (.int .u8 0), (.int .u8 0), (.int .u8 0), (.int .u8 0), (.int .u8 0), (.int .u8 0), (.int .u8 0), (.int .u8 0), (.int .u8 0), (.int .u8 0), (.int .u8 0), (.int .u8 0), (.int .u8 0), (.int .u8 0), (.int .u8 0), (.int .u8 0), (.int .u8 0), (.int .u8 0), (.int .u8 0), (.int .u8 0), (.int .u8 0), (.int .u8 0), (.int .u8 0), (.int .u8 0), (.int .u8 0), (.int .u8 0), (.int .u8 0), (.int .u8 0), (.int .u8 0), (.int .u8 0), (.int .u8 0), (.int .u8 0), (.int .u8 0), (.int .u8 0), (.int .u8 0), (.int .u8 0), (.int .u8 0), (.int .u8 0), (.int .u8 0), (.int .u8 0), (.int .u8 0), (.int .u8 0), (.int .u8 0), (.int .u8 0), (.int .u8 0), (.int .u8 0), (.int .u8 0), (.int .u8 0), (.int .u8 0), (.int .u8 0), (.int .u8 0), (.int .u8 0), (.int .u8 0), (.int .u8 0), (.int .u8 0), (.int .u8 0), (.int .u8 0), (.int .u8 0), (.int .u8 0), (.int .u8 0), (.int .u8 0), (.int .u8 0), (.int .u8 0), (.int .u8 0), (.int .u8 0), (.int .u8 0), (.int .u8 0), (.int .u8 0), (.int .u8 0), (.int .u8 0), (.int .u8 0), (.int .u8 0), (.int .u8 0), (.int .u8 0), (.int .u8 0), (.int .u8 0), (.int .u8 0), (.int .u8 0), (.int .u8 0), (.int .u8 0), (.int .u8 0), (.int .u8 0), (.int .u8 0), (.int .u8 0), (.int .u8 0), (.int .u8 0), (.int .u8 0), (.int .u8 0), (.int .u8 0), (.int .u8 0), (.int .u8 0), (.int .u8 0), (.int .u8 0), (.int .u8 0), (.int .u8 0), (.int .u8 0), (.int .u8 0), (.int .u8 0), (.int .u8 0), (.int .u8 0), (.int .u8 0), (.int .u8 0), (.int .u8 0), (.int .u8 0), (.int .u8 0), (.int .u8 0), (.int .u8 0), (.int .u8 0), (.int .u8 0), (.int .u8 0), (.int .u8 0), (.int .u8 0), (.int .u8 0), (.int .u8 0), (.int .u8 0), (.int .u8 0), (.int .u8 0), (.int .u8 0), (.int .u8 0), (.int .u8 0), (.int .u8 0), (.int .u8 0), (.int .u8 0), (.int .u8 0), (.int .u8 0), (.int .u8 0), (.int .u8 0), (.int .u8 0), (.int .u8 0), (.int .u8 0), (.int .u8 0), (.int .u8 0), (.int .u8 0), (.int .u8 0), (.int .u8 0), (.int .u8 0), (.int .u8 0), (.int .u8 0), (.int .u8 0), (.int .u8 0), (.int .u8 0), (.int .u8 0), (.int .u8 0), (.int .u8 0), (.int .u8 0), (.int .u8 0), (.int .u8 0), (.int .u8 0), (.int .u8 0), (.int .u8 0), (.int .u8 0), (.int .u8 0), (.int .u8 0), (.int .u8 0), (.int .u8 0), (.int .u8 0), (.int .u8 0), (.int .u8 0), (.int .u8 0), (.int .u8 0), (.int .u8 0), (.int .u8 0), (.int .u8 0), (.int .u8 0), (.int .u8 0), (.int .u8 0), (.int .u8 0), (.int .u8 0), (.int .u8 0), (.int .u8 0), (.int .u8 0), (.int .u8 0), (.int .u8 0), (.int .u8 0), (.int .u8 0), (.int .u8 0), (.int .u8 0), (.int .u8 0), (.int .u8 0), (.int .u8 0), (.int .u8 0), (.int .u8 0), (.int .u8 0), (.int .u8 0), (.int .u8 0), (.int .u8 0), (.int .u8 0), (.int .u8 0), (.int .u8 0), (.int .u8 0), (.int .u8 0), (.int .u8 0), (.int .u8 0), (.int .u8 0), (.int .u8 0), (.int .u8 0), (.int .u8 0), (.int .u8 0), (.int .u8 0), (.int .u8 0), (.int .u8 0), (.int .u8 0), (.int .u8 0), (.int .u8 0), (.int .u8 0), (.int .u8 0), (.int .u8 0), (.int .u8 0), (.int .u8 0), (.int .u8 0), (.int .u8 0), (.int .u8 0), (.int .u8 0), (.int .u8 0), (.int .u8 0), (.int .u8 0), (.int .u8 0), (.int .u8 0), (.int .u8 0), (.int .u8 0), (.int .u8 0), (.int .u8 0), (.int .u8 0), (.int .u8 0), (.int .u8 0), (.int .u8 0), (.int .u8 0), (.int .u8 0), (.int .u8 0), (.int .u8 0), (.int .u8 0), (.int .u8 0), (.int .u8 0), (.int .u8 0), (.int .u8 0), (.int .u8 0), (.int .u8 0), (.int .u8 0), (.int .u8 0), (.int .u8 0)]), size := 256, bytes := 256 }),
  (168, { desc := .struct #[{ name := "lo", type := 5, offset := 0, embedded := false, tag := "", pkgPath := "unicode/utf8", byteOffset := 0 }, { name := "hi", type := 5, offset := 1, embedded := false, tag := "", pkgPath := "unicode/utf8", byteOffset := 1 }], zero := (.agg #[(.int .u8 0), (.int .u8 0)]), size := 2, bytes := 2, eqv := true }),
  (169, { desc := .array 16 168, zero := (.agg #[(.int .u8 0), (.int .u8 0), (.int .u8 0), (.int .u8 0), (.int .u8 0), (.int .u8 0), (.int .u8 0), (.int .u8 0), (.int .u8 0), (.int .u8 0), (.int .u8 0), (.int .u8 0), (.int .u8 0), (.int .u8 0), (.int .u8 0), (.int .u8 0), (.int .u8 0), (.int .u8 0), (.int .u8 0), (.int .u8 0), (.int .u8 0), (.int .u8 0), (.int .u8 0), (.int .u8 0), (.int .u8 0), (.int .u8 0), (.int .u8 0), (.int .u8 0), (.int .u8 0), (.int .u8 0), (.int .u8 0), (.int .u8 0)]), size := 32, bytes := 32 }),
  (176, { desc := .pointer 194, zero := (.pointer none), size := 1, bytes := 8 }),
  (179, { desc := .int .u64, zero := (.int .u64 0), size := 1, bytes := 8 }),
  (183, { desc := .pointer 3, zero := (.pointer none), size := 1, bytes := 8 }),
  (194, { desc := .struct #[{ name := "Func", type := 9, offset := 0, embedded := false, tag := "", pkgPath := "", byteOffset := 0 }, { name := "Num", type := 9, offset := 1, embedded := false, tag := "", pkgPath := "", byteOffset := 16 }, { name := "Err", type := 98, offset := 2, embedded := false, tag := "", pkgPath := "", byteOffset := 32 }], zero := (.agg #[(.string ⟨#[]⟩), (.string ⟨#[]⟩), .nilIface]), size := 3, bytes := 48 }),
  (199, { desc := .array 32 5, zero := (.agg #[(.int .u8 0), (.int .u8 0), (.int .u8 0), (.int .u8 0), (.int .u8 0), (.int .u8 0), (.int .u8 0), (.int .u8 0), (.int .u8 0), (.int .u8 0), (.int .u8 0), (.int .u8 0), (.int .u8 0), (.int .u8 0), (.int .u8 0), (.int .u8 0), (.int .u8 0), (.int .u8 0), (.int .u8 0), (.int .u8 0), (.int .u8 0), (.int .u8 0), (.int .u8 0), (.int .u8 0), (.int .u8 0), (.int .u8 0), (.int .u8 0), (.int .u8 0), (.int .u8 0), (.int .u8 0), (.int .u8 0), (.int .u8 0)]), size := 32, bytes := 32 }),
  (200, { desc := .array 64 5, zero := (.agg #[(.int .u8 0), (.int .u8 0), (.int .u8 0), (.int .u8 0), (.int .u8 0), (.int .u8 0), (.int .u8 0), (.int .u8 0), (.int .u8 0), (.int .u8 0), (.int .u8 0), (.int .u8 0), (.int .u8 0), (.int .u8 0), (.int .u8 0), (.int .u8 0), (.int .u8 0), (.int .u8 0), (.int .u8 0), (.int .u8 0), (.int .u8 0), (.int .u8 0), (.int .u8 0), (.int .u8 0), (.int .u8 0), (.int .u8 0), (.int .u8 0), (.int .u8 0), (.int .u8 0), (.int .u8 0), (.int .u8 0), (.int .u8 0), (.int .u8 0), (.int .u8 0), (.int .u8 0), (.int .u8 0), (.int .u8 0), (.int .u8 0), (.int .u8 0), (.int .u8 0), (.int .u8 0), (.int .u8 0), (.int .u8 0), (.int .u8 0), (.int .u8 0), (.int .u8 0), (.int .u8 0), (.int .u8 0), (.int .u8 0), (.int .u8 0), (.int .u8 0), (.int .u8 0), (.int .u8 0), (.int .u8 0), (.int .u8 0), (.int .u8 0), (.int .u8 0), (.int .u8 0), (.int .u8 0), (.int .u8 0), (.int .u8 0), (.int .u8 0), (.int .u8 0), (.int .u8 0)]), size := 64, bytes := 64 }),
  (205, { desc := .struct #[{ name := "s", type := 9, offset := 0, embedded := false, tag := "", pkgPath := "errors", byteOffset := 0 }], zero := (.agg #[(.string ⟨#[]⟩)]), size := 1, bytes := 16, eqv := true })]

def OkRow (P : Program) (T : TT) (t : Nat) (i : TI) : Prop := P.underlying t = some i.desc ∧ (P.info? t).map (fun j => (j.zero, j.size, j.bytes)) = some (some i.zero, i.size, i.bytes) ∧
  (i.eqv = true → P.stoodInHeld t = false ∧ P.eqGuardType P.depth t = false) ∧ (∀ fs, i.desc = .struct fs → fieldsKnown T fs = true)

theorem row2 : OkRow Tryz.prog T 2 { desc := .int .i64, zero := (.int .i64 0), size := 1, bytes := 8 } :=
  ⟨by kernel_rfl, by kernel_rfl, fun h => (by cases h), fun fs h => (by cases h)⟩
theorem row3 : OkRow Tryz.prog T 3 { desc := .int .i64, zero := (.int .i64 0), size := 1, bytes := 8 } :=
  ⟨by kernel_rfl, by kernel_rfl, fun h => (by cases h), fun fs h => (by cases h)⟩
theorem row4 : OkRow Tryz.prog T 4 { desc := .bool, zero := (.bool false), size := 1, bytes := 1 } :=
  ⟨by kernel_rfl, by kernel_rfl, fun h => (by cases h), fun fs h => (by cases h)⟩
theorem row5 : OkRow Tryz.prog T 5 { desc := .int .u8, zero := (.int .u8 0), size := 1, bytes := 1 } :=
  ⟨by kernel_rfl, by kernel_rfl, fun h => (by cases h), fun fs h => (by cases h)⟩
theorem row9 : OkRow Tryz.prog T 9 { desc := .string, zero := (.string ⟨#[]⟩), size := 1, bytes := 16 } :=
  ⟨by kernel_rfl, by kernel_rfl, fun h => (by cases h), fun fs h => (by cases h)⟩
theorem row21 : OkRow Tryz.prog T 21 { desc := .int .i32, zero := (.int .i32 0), size := 1, bytes := 4 } :=
  ⟨by kernel_rfl, by kernel_rfl, fun h => (by cases h), fun fs h => (by cases h)⟩
theorem row22 : OkRow Tryz.prog T 22 { desc := .slice 59, zero := (.slice none 0 0), size := 1, bytes := 24 } :=
  ⟨by kernel_rfl, by kernel_rfl, fun h => (by cases h), fun fs h => (by cases h)⟩
theorem row25 : OkRow Tryz.prog T 25 { desc := .int .i64, zero := (.int .i64 0), size := 1, bytes := 8 } :=
  ⟨by kernel_rfl, by kernel_rfl, fun h => (by cases h), fun fs h => (by cases h)⟩
theorem row57 : OkRow Tryz.prog T 57 { desc := .slice 22, zero := (.slice none 0 0), size := 1, bytes := 24 } :=
  ⟨by kernel_rfl, by kernel_rfl, fun h => (by cases h), fun fs h => (by cases h)⟩
theorem row59 : OkRow Tryz.prog T 59 { desc := .struct #[{ name := "Low", type := 3, offset := 0, embedded := false, tag := "", pkgPath := "", byteOffset := 0 }, { name := "High", type := 3, offset := 1, embedded := false, tag := "", pkgPath := "", byteOffset := 8 }], zero := (.agg #[(.int .i64 0), (.int .i64 0)]), size := 2, bytes := 16, eqv := true } :=
  ⟨by kernel_rfl, by kernel_rfl, fun _ => ⟨by kernel_rfl, by kernel_rfl⟩, fun fs h => (by cases h; kernel_rfl)⟩
theorem row61 : OkRow Tryz.prog T 61 { desc := .func #[4, 4] #[4] false, zero := .nilFunc, size := 1, bytes := 8 } :=
  ⟨by kernel_rfl, by kernel_rfl, fun h => (by cases h), fun fs h => (by cases h)⟩
theorem row66 : OkRow Tryz.prog T 66 { desc := .func #[87] #[] false, zero := .nilFunc, size := 1, bytes := 8 } :=
  ⟨by kernel_rfl, by kernel_rfl, fun h => (by cases h), fun fs h => (by cases h)⟩
theorem row71 : OkRow Tryz.prog T 71 { desc := .slice 9, zero := (.slice none 0 0), size := 1, bytes := 24 } :=
  ⟨by kernel_rfl, by kernel_rfl, fun h => (by cases h), fun fs h => (by cases h)⟩
theorem row75 : OkRow Tryz.prog T 75 { desc := .func #[118] #[] false, zero := .nilFunc, size := 1, bytes := 8 } :=
  ⟨by kernel_rfl, by kernel_rfl, fun h => (by cases h), fun fs h => (by cases h)⟩
theorem row85 : OkRow Tryz.prog T 85 { desc := .func #[59, 59] #[3] false, zero := .nilFunc, size := 1, bytes := 8 } :=
  ⟨by kernel_rfl, by kernel_rfl, fun h => (by cases h), fun fs h => (by cases h)⟩
theorem row91 : OkRow Tryz.prog T 91 { desc := .func #[59, 3] #[3] false, zero := .nilFunc, size := 1, bytes := 8 } :=
  ⟨by kernel_rfl, by kernel_rfl, fun h => (by cases h), fun fs h => (by cases h)⟩
theorem row92 : OkRow Tryz.prog T 92 { desc := .pointer 95, zero := (.pointer none), size := 1, bytes := 8 } :=
  ⟨by kernel_rfl, by kernel_rfl, fun h => (by cases h), fun fs h => (by cases h)⟩
theorem row93 : OkRow Tryz.prog T 93 { desc := .slice 5, zero := (.slice none 0 0), size := 1, bytes := 24 } :=
  ⟨by kernel_rfl, by kernel_rfl, fun h => (by cases h), fun fs h => (by cases h)⟩
theorem row95 : OkRow Tryz.prog T 95 { desc := .struct #[{ name := "addr", type := 92, offset := 0, embedded := false, tag := "", pkgPath := "strings", byteOffset := 0 }, { name := "buf", type := 93, offset := 1, embedded := false, tag := "", pkgPath := "strings", byteOffset := 8 }], zero := (.agg #[(.pointer none), (.slice none 0 0)]), size := 2, bytes := 32 } :=
  ⟨by kernel_rfl, by kernel_rfl, fun h => (by cases h), fun fs h => (by cases h; kernel_rfl)⟩
theorem row98 : OkRow Tryz.prog T 98 { desc := .interface #[("Error", 101)], zero := .nilIface, size := 1, bytes := 16 } :=
  ⟨by kernel_rfl, by kernel_rfl, fun h => (by cases h), fun fs h => (by cases h)⟩
theorem row106 : OkRow Tryz.prog T 106 { desc := .slice 3, zero := (.slice none 0 0), size := 1, bytes := 24 } :=
  ⟨by kernel_rfl, by kernel_rfl, fun h => (by cases h), fun fs h => (by cases h)⟩
theorem row115 : OkRow Tryz.prog T 115 { desc := .int .u64, zero := (.int .u64 0), size := 1, bytes := 8 } :=
  ⟨by kernel_rfl, by kernel_rfl, fun h => (by cases h), fun fs h => (by cases h)⟩
theorem row117 : OkRow Tryz.prog T 117 { desc := .pointer 5, zero := (.pointer none), size := 1, bytes := 8 } :=
  ⟨by kernel_rfl, by kernel_rfl, fun h => (by cases h), fun fs h => (by cases h)⟩
theorem row128 : OkRow Tryz.prog T 128 { desc := .array 24 5, zero := (.agg #[(.int .u8 0), (.int .u8 0), (.int .u8 0), (.int .u8 0), (.int .u8 0), (.int .u8 0), (.int .u8 0), (.int .u8 0), (.int .u8 0), (.int .u8 0), (.int .u8 0), (.int .u8 0), (.int .u8 0), (.int .u8 0), (.int .u8 0), (.int .u8 0), (.int .u8 0), (.int .u8 0), (.int .u8 0), (.int .u8 0), (.int .u8 0), (.int .u8 0), (.int .u8 0), (.int .u8 0)]), size := 24, bytes := 24 } :=
  ⟨by kernel_rfl, by kernel_rfl, fun h => (by cases h), fun fs h => (by cases h)⟩
theorem row129 : OkRow Tryz.prog T 129 { desc := .int .u64, zero := (.int .u64 0), size := 1, bytes := 8 } :=
  ⟨by kernel_rfl, by kernel_rfl, fun h => (by cases h), fun fs h => (by cases h)⟩
theorem row134 : OkRow Tryz.prog T 134 { desc := .unsafePointer, zero := (.pointer none), size := 1, bytes := 8 } :=
  ⟨by kernel_rfl, by kernel_rfl, fun h => (by cases h), fun fs h => (by cases h)⟩
theorem row139 : OkRow Tryz.prog T 139 { desc := .array 256 4, zero := (.agg #[(.bool false), (.bool false), (.bool false), (.bool false), (.bool false), (.bool false), (.bool false), (.bool false), (.bool false), (.bool false), (.bool false), (.bool false), (.bool false), (.bool false), (.bool false), (.bool false), (.bool false), (.bool false), (.bool false), (.bool false), (.bool false), (.bool false), (.bool false), (.bool false), (.bool false), (.bool false), (.bool false), (.bool false), (.bool false), (.bool false), (.bool false), (.bool false), (.bool false), (.bool false), (.bool false), (.bool false), (.bool false), (.bool false), (.bool false), (.bool false), (.bool false), (.bool false), (.bool false), (.bool false), (.bool false), (.bool false), (.bool false), (.bool false), (.bool false), (.bool false), (.bool false), (.bool false), (.bool false), (.bool false), (.bool false), (.bool false), (.bool false), (.bool false), (.bool false), (.bool false), (.bool false), (.bool false), (.bool false), (.bool false), (.bool false), (.bool false), (.bool false), (.bool false), (.bool false), (.bool false), (.bool false), (.bool false), (.bool false), (.bool false), (.bool false), (.bool false), (.bool false), (.bool false), (.bool false), (.bool false), (.bool false), (.bool false), (.bool false), (.bool false), (.bool false), (.bool false), (.bool false), (.bool false), (.bool false), (.bool false), (.bool false), (.bool false), (.bool false), (.bool false), (.bool false), (.bool false), (.bool false), (.bool false), (.bool false), (.bool false), (.bool false), (.bool false), (.bool false), (.bool false), (.bool false), (.bool false), (.bool false), (.bool false), (.bool false), (.bool false), (.bool false), (.bool false), (.bool false), (.bool false), (.bool false), (.bool false), (.bool false), (.bool false), (.bool false), (.bool false), (.bool false), (.bool false), (.bool false), (.bool false), (.bool false), (.bool false), (.bool false), (.bool false), (.bool false), (.bool false), (.bool false), (.bool false), (.bool false), (.bool false), (.bool false), (.bool false), (.bool false), (.bool false), (.bool false), (.bool false), (.bool false), (.bool false), (.bool false), (.bool false), (.bool false), (.bool false), (.bool false), (.bool false), (.bool false), (.bool false), (.bool false), (.bool false), (.bool false), (.bool false), (.bool false), (.bool false), (.bool false), (.bool false), (.bool false), (.bool false), (.bool false), (.bool false), (.bool false), (.bool false), (.bool false), (.bool false), (.bool false), (.bool false), (.bool false), (.bool false), (.bool false), (.bool false), (.bool false), (.bool false), (.bool false), (.bool false), (.bool false), (.bool false), (.bool false), (.bool false), (.bool false), (.bool false), (.bool false), (.bool false), (.bool false), (.bool false), (.bool false), (.bool false), (.bool false), (.bool false), (.bool false), (.bool false), (.bool false), (.bool false), (.bool false), (.bool false), (.bool false), (.bool false), (.bool false), (.bool false), (.bool false), (.bool false), (.bool false), (.bool false), (.bool false), (.bool false), (.bool false), (.bool false), (.bool false), (.bool false), (.bool false), (.bool false), (.bool false), (.bool false), (.bool false), (.bool false), (.bool false), (.bool false), (.bool false), (.bool false), (.bool false), (.bool false), (.bool false), (.bool false), (.bool false), (.bool false), (.bool false), (.bool false), (.bool false), (.bool false), (.bool false), (.bool false), (.bool false), (.bool false), (.bool false), (.bool false), (.bool false), (.bool false), (.bool false), (.bool false), (.bool false), (.bool false), (.bool false), (.bool false), (.bool false), (.bool false), (.bool false), (.bool false), (.bool false), (.bool false), (.bool false), (.bool false), (.bool false), (.bool false), (.bool false), (.bool false)]), size := 256, bytes := 256 } :=
  ⟨by kernel_rfl, by kernel_rfl, fun h => (by cases h), fun fs h => (by cases h)⟩
theorem row143 : OkRow Tryz.prog T 143 { desc := .pointer 139, zero := (.pointer none), size := 1, bytes := 8 } :=
  ⟨by kernel_rfl, by kernel_rfl, fun h => (by cases h), fun fs h => (by cases h)⟩
theorem row146 : OkRow Tryz.prog T 146 { desc := .int .i64, zero := (.int .i64 0), size := 1, bytes := 8 } :=
  ⟨by kernel_rfl, by kernel_rfl, fun h => (by cases h), fun fs h => (by cases h)⟩
theorem row154 : OkRow Tryz.prog T 154 { desc := .int .u32, zero := (.int .u32 0), size := 1, bytes := 4 } :=
  ⟨by kernel_rfl, by kernel_rfl, fun h => (by cases h), fun fs h => (by cases h)⟩
theorem row164 : OkRow Tryz.prog T 164 { desc := .array 20 129, zero := (.agg #[(.int .u64 0), (.int .u64 0), (.int .u64 0), (.int .u64 0), (.int .u64 0), (.int .u64 0), (.int .u64 0), (.int .u64 0), (.int .u64 0), (.int .u64 0), (.int .u64 0), (.int .u64 0), (.int .u64 0), (.int .u64 0), (.int .u64 0), (.int .u64 0), (.int .u64 0), (.int .u64 0), (.int .u64 0), (.int .u64 0)]), size := 20, bytes := 160 } :=
  ⟨by kernel_rfl, by kernel_rfl, fun h => (by cases h), fun fs h => (by cases h)⟩
theorem row165 : OkRow Tryz.prog T 165 { desc := .array 65 5, zero := (.agg #[(.int .u8 0), (.int .u8 0), (.int .u8 0), (.int .u8 0), (.int .u8 0), (.int .u8 0), (.int .u8 0), (.int .u8 0), (.int .u8 0), (.int .u8 0), (.int .u8 0), (.int .u8 0), (.int .u8 0), (.int .u8 0), (.int .u8 0), (.int .u8 0), (.int .u8 0), (.int .u8 0), (.int .u8 0), (.int .u8 0), (.int .u8 0), (.int .u8 0), (.int .u8 0), (.int .u8 0), (.int .u8 0), (.int .u8 0), (.int .u8 0), (.int .u8 0), (.int .u8 0), (.int .u8 0), (.int .u8 0), (.int .u8 0), (.int .u8 0), (.int .u8 0), (.int .u8 0), (.int .u8 0), (.int .u8 0), (.int .u8 0), (.int .u8 0), (.int .u8 0), (.int .u8 0), (.int .u8 0), (.int .u8 0), (.int .u8 0), (.int .u8 0), (.int .u8 0), (.int .u8 0), (.int .u8 0), (.int .u8 0), (.int .u8 0), (.int .u8 0), (.int .u8 0), (.int .u8 0), (.int .u8 0), (.int .u8 0), (.int .u8 0), (.int .u8 0), (.int .u8 0), (.int .u8 0), (.int .u8 0), (.int .u8 0), (.int .u8 0), (.int .u8 0), (.int .u8 0), (.int .u8 0)]), size := 65, bytes := 65 } :=
  ⟨by kernel_rfl, by kernel_rfl, fun h => (by cases h), fun fs h => (by cases h)⟩
theorem row166 : OkRow Tryz.prog T 166 { desc := .array 256 5, zero := (.agg #[(.int .u8 0), (.int .u8 0), (.int .u8 0), (.int .u8 0), (.int .u8 0), (.int .u8 0), (.int .u8 0), (.int .u8 0), (.int .u8 0), (.int .u8 0), (.int .u8 0), (.int .u8 0), (.int .u8 0), (.int .u8 0), (.int .u8 0), (.int .u8 0), (.int .u8 0), (.int .u8 0), (.int .u8 0), (.int .u8 0), (.int .u8 0), (.int .u8 0), (.int .u8 0), (.int .u8 0), (.int .u8 0), (.int .u8 0), (.int .u8 0), (.int .u8 0), (.int .u8 0), (.int .u8 0), (.int .u8 0), (.int .u8 0), (.int .u8 0), (.int .u8 0), (.int .u8 0), (.int .u8 0), (.int .u8 0), (.int .u8 0), (.int .u8 0), (.int .u8 0), (.int .u8 0), (.int .u8 0), (.int .u8 0), (.int .u8 0), (.int .u8 0), (.int .u8 0), (.int .u8 0), (.int .u8 0), (.int .u8 0), (.int .u8 0), (.int .u8 0), (.int .u8 0), (.int .u8 0), (.int .u8 0), (.int .u8 0), (.int .u8 0), (.int .u8 0), (.int .u8 0), (.int .u8 0), (.int .u8 0), (.int .u8 0), (.int .u8 0), (.int .u8 0), (.int .u8 0), (.int .u8 0), (.int .u8 0), (.int .u8 0), (.int .u8 0), (.int .u8 0), (.int .u8 0), (.int .u8 0), (.int .u8 0), (.int .u8 0), (.int .u8 0), (.int .u8 0), (.int .u8 0), (.int .u8 0), (.int .u8 0), (.int .u8 0), (.int .u8 0), (.int .u8 0), (.int .u8 0), (.int .u8 0), (.int .u8 0), (.int .u8 0), (.int .u8 0), (.int .u8 0), (.int .u8 0), (.int .u8 0), (.int .u8 0), (.int .u8 0), (.int .u8 0), (.int .u8 0), (.int .u8 0), (.int .u8 0), (.int .u8 0), (.int .u8 0), (.int .u8 0), (.int .u8 0), (.int .u8 0), (.int .u8 0), (.int .u8 0), (.int .u8 0), (.int .u8 0), (.int .u8 0), (.int .u8 0), (.int .u8 0), (.int .u8 0), (.int .u8 0), (.int .u8 0), (.int .u8 0), (.int .u8 0), (.int .u8 0), (.int .u8 0), (.int .u8 0), (.int .u8 0), (.int .u8 0), (.int .u8 0), (.int .u8 0), (.int .u8 0), (.int .u8 0), (.int .u8 0), (.int .u8 0), (.int .u8 0), (.int .u8 0), (.int .u8 0), (.int .u8 0), (.int .u8 0), (.int .u8 0), (.int .u8 0), (.int .u8 0), (.int .u8 0), (.int .u8 0), (.int .u8 0), (.int .u8 0), (.int .u8 0), (.int .u8 0), (.int .u8 0), (.int .u8 0), (.int .u8 0), (.int .u8 0), (.int .u8 0), (.int .u8 0), (.int .u8 0), (.int .u8 0), (.int .u8 0), (.int .u8 0), (.int .u8 0), (.int .u8 0), (.int .u8 0), (.int .u8 0), (.int .u8 0), (.int .u8 0), (.int .u8 0), (.int .u8 0), (.int .u8 0), (.int .u8 0), (.int .u8 0), (.int .u8 0), (.int .u8 0), (.int .u8 0), (.int .u8 0), (.int .u8 0), (.int .u8 0), (.int .u8 0), (.int .u8 0), (.int .u8 0), (.int .u8 0), (.int .u8 0), (.int .u8 0), (.int .u8 0), (.int .u8 0), (.int .u8 0), (.int .u8 0), (.int .u8 0), (.int .u8 0), (.int .u8 0), (.int .u8 0), (.int .u8 0), (.int .u8 0), (.int .u8 0), (.int .u8 0), (.int .u8 0), (.int .u8 0), (.int .u8 0), (.int .u8 0), (.int .u8 0), (.int .u8 0), (.int .u8 0), (.int .u8 0), (.int .u8 0), (.int .u8 0), (.int .u8 0), (.int .u8 0), (.int .u8 0), (.int .u8 0), (.int .u8 0), (.int .u8 0), (.int .u8 0), (.int .u8 0), (.int .u8 0), (.int .u8 0), (.int .u8 0), (.int .u8 0), (.int .u8 0), (.int .u8 0), (.int .u8 0), (.int .u8 0), (.int .u8 0), (.int .u8 0), (.int .u8 0), (.int .u8 0), (.int .u8 0), (.int .u8 0), (.int .u8 0), (.int .u8 0), (.int .u8 0), (.int .u8 0), (.int .u8 0), (.int .u8 0), (.int .u8 0), (.int .u8 0), (.int .u8 0), (.int .u8 0), (.int .u8 0), (.int .u8 0), (.int .u8 0), (.int .u8 0), (.int .u8 0), (.int .u8 0), (.int .u8 0), (.int .u8 0), (.int .u8 0), (.int .u8 0), (.int .u8 0), (.int .u8 0), (.int .u8 0), (.int .u8 0), (.int .u8 0), (.int .u8 0), (.int .u8 0), (.int .u8 0), (.int .u8 0), (.int .u8 0), (.int .u8 0), (.int .u8 0), (.int .u8 0), (.int .u8 0), (.int .u8 0), (.int .u8 0), (.int .u8 0), (.int .u8 0), (.int .u8 0), (.int .u8 0), (.int .u8 0), (.int .u8 0)]), size := 256, bytes := 256 } :=
  ⟨by kernel_rfl, by kernel_rfl, fun h => (by cases h), fun fs h => (by cases h)⟩
theorem row168 : OkRow Tryz.prog T 168 { desc := .struct #[{ name := "lo", type := 5, offset := 0, embedded := false, tag := "", pkgPath := "unicode/utf8", byteOffset := 0 }, { name := "hi", type := 5, offset := 1, embedded := false, tag := "", pkgPath := "unicode/utf8", byteOffset := 1 }], zero := (.agg #[(.int .u8 0), (.int .u8 0)]), size := 2, bytes := 2, eqv := true } :=
  ⟨by kernel_rfl, by kernel_rfl, fun _ => ⟨by kernel_rfl, by kernel_rfl⟩, fun fs h => (by cases h; kernel_rfl)⟩
theorem row169 : OkRow Tryz.prog T 169 { desc := .array 16 168, zero := (.agg #[(.int .u8 0), (.int .u8 0), (.int .u8 0), (.int .u8 0), (.int .u8 0), (.int .u8 0), (.int .u8 0), (.int .u8 0), (.int .u8 0), (.int .u8 0), (.int .u8 0), (.int .u8 0), (.int .u8 0), (.int .u8 0), (.int .u8 0), (.int .u8 0), (.int .u8 0), (.int .u8 0), (.int .u8 0), (.int .u8 0), (.int .u8 0), (.int .u8 0), (.int .u8 0), (.int .u8 0), (.int .u8 0), (.int .u8 0), (.int .u8 0), (.int .u8 0), (.int .u8 0), (.int .u8 0), (.int .u8 0), (.int .u8 0)]), size := 32, bytes := 32 } :=
  ⟨by kernel_rfl, by kernel_rfl, fun h => (by cases h), fun fs h => (by cases h)⟩
theorem row176 : OkRow Tryz.prog T 176 { desc := .pointer 194, zero := (.pointer none), size := 1, bytes := 8 } :=
  ⟨by kernel_rfl, by kernel_rfl, fun h => (by cases h), fun fs h => (by cases h)⟩
theorem row179 : OkRow Tryz.prog T 179 { desc := .int .u64, zero := (.int .u64 0), size := 1, bytes := 8 } :=
  ⟨by kernel_rfl, by kernel_rfl, fun h => (by cases h), fun fs h => (by cases h)⟩
theorem row183 : OkRow Tryz.prog T 183 { desc := .pointer 3, zero := (.pointer none), size := 1, bytes := 8 } :=
  ⟨by kernel_rfl, by kernel_rfl, fun h => (by cases h), fun fs h => (by cases h)⟩
theorem row194 : OkRow Tryz.prog T 194 { desc := .struct #[{ name := "Func", type := 9, offset := 0, embedded := false, tag := "", pkgPath := "", byteOffset := 0 }, { name := "Num", type := 9, offset := 1, embedded := false, tag := "", pkgPath := "", byteOffset := 16 }, { name := "Err", type := 98, offset := 2, embedded := false, tag := "", pkgPath := "", byteOffset := 32 }], zero := (.agg #[(.string ⟨#[]⟩), (.string ⟨#[]⟩), .nilIface]), size := 3, bytes := 48 } :=
  ⟨by kernel_rfl, by kernel_rfl, fun h => (by cases h), fun fs h => (by cases h; kernel_rfl)⟩
theorem row199 : OkRow Tryz.prog T 199 { desc := .array 32 5, zero := (.agg #[(.int .u8 0), (.int .u8 0), (.int .u8 0), (.int .u8 0), (.int .u8 0), (.int .u8 0), (.int .u8 0), (.int .u8 0), (.int .u8 0), (.int .u8 0), (.int .u8 0), (.int .u8 0), (.int .u8 0), (.int .u8 0), (.int .u8 0), (.int .u8 0), (.int .u8 0), (.int .u8 0), (.int .u8 0), (.int .u8 0), (.int .u8 0), (.int .u8 0), (.int .u8 0), (.int .u8 0), (.int .u8 0), (.int .u8 0), (.int .u8 0), (.int .u8 0), (.int .u8 0), (.int .u8 0), (.int .u8 0), (.int .u8 0)]), size := 32, bytes := 32 } :=
  ⟨by kernel_rfl, by kernel_rfl, fun h => (by cases h), fun fs h => (by cases h)⟩
theorem row200 : OkRow Tryz.prog T 200 { desc := .array 64 5, zero := (.agg #[(.int .u8 0), (.int .u8 0), (.int .u8 0), (.int .u8 0), (.int .u8 0), (.int .u8 0), (.int .u8 0), (.int .u8 0), (.int .u8 0), (.int .u8 0), (.int .u8 0), (.int .u8 0), (.int .u8 0), (.int .u8 0), (.int .u8 0), (.int .u8 0), (.int .u8 0), (.int .u8 0), (.int .u8 0), (.int .u8 0), (.int .u8 0), (.int .u8 0), (.int .u8 0), (.int .u8 0), (.int .u8 0), (.int .u8 0), (.int .u8 0), (.int .u8 0), (.int .u8 0), (.int .u8 0), (.int .u8 0), (.int .u8 0), (.int .u8 0), (.int .u8 0), (.int .u8 0), (.int .u8 0), (.int .u8 0), (.int .u8 0), (.int .u8 0), (.int .u8 0), (.int .u8 0), (.int .u8 0), (.int .u8 0), (.int .u8 0), (.int .u8 0), (.int .u8 0), (.int .u8 0), (.int .u8 0), (.int .u8 0), (.int .u8 0), (.int .u8 0), (.int .u8 0), (.int .u8 0), (.int .u8 0), (.int .u8 0), (.int .u8 0), (.int .u8 0), (.int .u8 0), (.int .u8 0), (.int .u8 0), (.int .u8 0), (.int .u8 0), (.int .u8 0), (.int .u8 0)]), size := 64, bytes := 64 } :=
  ⟨by kernel_rfl, by kernel_rfl, fun h => (by cases h), fun fs h => (by cases h)⟩
theorem row205 : OkRow Tryz.prog T 205 { desc := .struct #[{ name := "s", type := 9, offset := 0, embedded := false, tag := "", pkgPath := "errors", byteOffset := 0 }], zero := (.agg #[(.string ⟨#[]⟩)]), size := 1, bytes := 16, eqv := true } :=
  ⟨by kernel_rfl, by kernel_rfl, fun _ => ⟨by kernel_rfl, by kernel_rfl⟩, fun fs h => (by cases h; kernel_rfl)⟩
theorem tOk : TOk Tryz.prog T := fun t i h => by
  have hm := look_mem h
  simp only [T, List.mem_cons, List.not_mem_nil, or_false, Prod.mk.injEq] at hm
  rcases hm with ⟨rfl, rfl⟩ | ⟨rfl, rfl⟩ | ⟨rfl, rfl⟩ | ⟨rfl, rfl⟩ | ⟨rfl, rfl⟩ | ⟨rfl, rfl⟩ | ⟨rfl, rfl⟩ | ⟨rfl, rfl⟩ | ⟨rfl, rfl⟩ | ⟨rfl, rfl⟩ | ⟨rfl, rfl⟩ | ⟨rfl, rfl⟩ | ⟨rfl, rfl⟩ | ⟨rfl, rfl⟩ | ⟨rfl, rfl⟩ | ⟨rfl, rfl⟩ | ⟨rfl, rfl⟩ | ⟨rfl, rfl⟩ | ⟨rfl, rfl⟩ | ⟨rfl, rfl⟩ | ⟨rfl, rfl⟩ | ⟨rfl, rfl⟩ | ⟨rfl, rfl⟩ | ⟨rfl, rfl⟩ | ⟨rfl, rfl⟩ | ⟨rfl, rfl⟩ | ⟨rfl, rfl⟩ | ⟨rfl, rfl⟩ | ⟨rfl, rfl⟩ | ⟨rfl, rfl⟩ | ⟨rfl, rfl⟩ | ⟨rfl, rfl⟩ | ⟨rfl, rfl⟩ | ⟨rfl, rfl⟩ | ⟨rfl, rfl⟩ | ⟨rfl, rfl⟩ | ⟨rfl, rfl⟩ | ⟨rfl, rfl⟩ | ⟨rfl, rfl⟩ | ⟨rfl, rfl⟩ | ⟨rfl, rfl⟩ | ⟨rfl, rfl⟩
  · exact row2
  · exact row3
  · exact row4
  · exact row5
  · exact row9
  · exact row21
  · exact row22
  · exact row25
  · exact row57
  · exact row59
  · exact row61
  · exact row66
  · exact row71
  · exact row75
  · exact row85
  · exact row91
  · exact row92
  · exact row93
  · exact row95
  · exact row98
  · exact row106
  · exact row115
  · exact row117
  · exact row128
  · exact row129
  · exact row134
  · exact row139
  · exact row143
  · exact row146
  · exact row154
  · exact row164
  · exact row165
  · exact row166
  · exact row168
  · exact row169
  · exact row176
  · exact row179
  · exact row183
  · exact row194
  · exact row199
  · exact row200
  · exact row205
theorem T2 : look T 2 = some { desc := .int .i64, zero := (.int .i64 0), size := 1, bytes := 8 } := rfl
theorem T3 : look T 3 = some { desc := .int .i64, zero := (.int .i64 0), size := 1, bytes := 8 } := rfl
theorem T4 : look T 4 = some { desc := .bool, zero := (.bool false), size := 1, bytes := 1 } := rfl
theorem T5 : look T 5 = some { desc := .int .u8, zero := (.int .u8 0), size := 1, bytes := 1 } := rfl
theorem T9 : look T 9 = some { desc := .string, zero := (.string ⟨#[]⟩), size := 1, bytes := 16 } := rfl
theorem T21 : look T 21 = some { desc := .int .i32, zero := (.int .i32 0), size := 1, bytes := 4 } := rfl
theorem T22 : look T 22 = some { desc := .slice 59, zero := (.slice none 0 0), size := 1, bytes := 24 } := rfl
theorem T25 : look T 25 = some { desc := .int .i64, zero := (.int .i64 0), size := 1, bytes := 8 } := rfl
theorem T57 : look T 57 = some { desc := .slice 22, zero := (.slice none 0 0), size := 1, bytes := 24 } := rfl
theorem T59 : look T 59 = some { desc := .struct #[{ name := "Low", type := 3, offset := 0, embedded := false, tag := "", pkgPath := "", byteOffset := 0 }, { name := "High", type := 3, offset := 1, embedded := false, tag := "", pkgPath := "", byteOffset := 8 }], zero := (.agg #[(.int .i64 0), (.int .i64 0)]), size := 2, bytes := 16, eqv := true } := rfl
theorem T61 : look T 61 = some { desc := .func #[4, 4] #[4] false, zero := .nilFunc, size := 1, bytes := 8 } := rfl
theorem T66 : look T 66 = some { desc := .func #[87] #[] false, zero := .nilFunc, size := 1, bytes := 8 } := rfl
theorem T71 : look T 71 = some { desc := .slice 9, zero := (.slice none 0 0), size := 1, bytes := 24 } := rfl
theorem T75 : look T 75 = some { desc := .func #[118] #[] false, zero := .nilFunc, size := 1, bytes := 8 } := rfl
theorem T85 : look T 85 = some { desc := .func #[59, 59] #[3] false, zero := .nilFunc, size := 1, bytes := 8 } := rfl
theorem T91 : look T 91 = some { desc := .func #[59, 3] #[3] false, zero := .nilFunc, size := 1, bytes := 8 } := rfl
theorem T92 : look T 92 = some { desc := .pointer 95, zero := (.pointer none), size := 1, bytes := 8 } := rfl
theorem T93 : look T 93 = some { desc := .slice 5, zero := (.slice none 0 0), size := 1, bytes := 24 } := rfl
theorem T95 : look T 95 = some { desc := .struct #[{ name := "addr", type := 92, offset := 0, embedded := false, tag := "", pkgPath := "strings", byteOffset := 0 }, { name := "buf", type := 93, offset := 1, embedded := false, tag := "", pkgPath := "strings", byteOffset := 8 }], zero := (.agg #[(.pointer none), (.slice none 0 0)]), size := 2, bytes := 32 } := rfl
theorem T98 : look T 98 = some { desc := .interface #[("Error", 101)], zero := .nilIface, size := 1, bytes := 16 } := rfl
theorem T106 : look T 106 = some { desc := .slice 3, zero := (.slice none 0 0), size := 1, bytes := 24 } := rfl
theorem T115 : look T 115 = some { desc := .int .u64, zero := (.int .u64 0), size := 1, bytes := 8 } := rfl
theorem T117 : look T 117 = some { desc := .pointer 5, zero := (.pointer none), size := 1, bytes := 8 } := rfl
theorem T128 : look T 128 = some { desc := .array 24 5, zero := (.agg #[(.int .u8 0), (.int .u8 0), (.int .u8 0), (.int .u8 0), (.int .u8 0), (.int .u8 0), (.int .u8 0), (.int .u8 0), (.int .u8 0), (.int .u8 0), (.int .u8 0), (.int .u8 0), (.int .u8 0), (.int .u8 0), (.int .u8 0), (.int .u8 0), (.int .u8 0), (.int .u8 0), (.int .u8 0), (.int .u8 0), (.int .u8 0), (.int .u8 0), (.int .u8 0), (.int .u8 0)]), size := 24, bytes := 24 } := rfl
theorem T129 : look T 129 = some { desc := .int .u64, zero := (.int .u64 0), size := 1, bytes := 8 } := rfl
theorem T134 : look T 134 = some { desc := .unsafePointer, zero := (.pointer none), size := 1, bytes := 8 } := rfl
theorem T139 : look T 139 = some { desc := .array 256 4, zero := (.agg #[(.bool false), (.bool false), (.bool false), (.bool false), (.bool false), (.bool false), (.bool false), (.bool false), (.bool false), (.bool false), (.bool false), (.bool false), (.bool false), (.bool false), (.bool false), (.bool false), (.bool false), (.bool false), (.bool false), (.bool false), (.bool false), (.bool false), (.bool false), (.bool false), (.bool false), (.bool false), (.bool false), (.bool false), (.bool false), (.bool false), (.bool false), (.bool false), (.bool false), (.bool false), (.bool false), (.bool false), (.bool false), (.bool false), (.bool false), (.bool false), (.bool false), (.bool false), (.bool false), (.bool false), (.bool false), (.bool false), (.bool false), (.bool false), (.bool false), (.bool false), (.bool false), (.bool false), (.bool false), (.bool false), (.bool false), (.bool false), (.bool false), (.bool false), (.bool false), (.bool false), (.bool false), (.bool false), (.bool false), (.bool false), (.bool false), (.bool false), (.bool false), (.bool false), (.bool false), (.bool false), (.bool false), (.bool false), (.bool false), (.bool false), (.bool false), (.bool false), (.bool false), (.bool false), (.bool false), (.bool false), (.bool false), (.bool false), (.bool false), (.bool false), (.bool false), (.bool false), (.bool false), (.bool false), (.bool false), (.bool false), (.bool false), (.bool false), (.bool false), (.bool false), (.bool false), (.bool false), (.bool false), (.bool false), (.bool false), (.bool false), (.bool false), (.bool false), (.bool false), (.bool false), (.bool false), (.bool false), (.bool false), (.bool false), (.bool false), (.bool false), (.bool false), (.bool false), (.bool false), (.bool false), (.bool false), (.bool false), (.bool false), (.bool false), (.bool false), (.bool false), (.bool false), (.bool false), (.bool false), (.bool false), (.bool false), (.bool false), (.bool false), (.bool false), (.bool false), (.bool false), (.bool false), (.bool false), (.bool false), (.bool false), (.bool false), (.bool false), (.bool false), (.bool false), (.bool false), (.bool false), (.bool false), (.bool false), (.bool false), (.bool false), (.bool false), (.bool false), (.bool false), (.bool false), (.bool false), (.bool false), (.bool false), (.bool false), (.bool false), (.bool false), (.bool false), (.bool false), (.bool false), (.bool false), (.bool false), (.bool false), (.bool false), (.bool false), (.bool false), (.bool false), (.bool false), (.bool false), (.bool false), (.bool false), (.bool false), (.bool false), (.bool false), (.bool false), (.bool false), (.bool false), (.bool false), (.bool false), (.bool false), (.bool false), (.bool false), (.bool false), (.bool false), (.bool false), (.bool false), (.bool false), (.bool false), (.bool false), (.bool false), (.bool false), (.bool false), (.bool false), (.bool false), (.bool false), (.bool false), (.bool false), (.bool false), (.bool false), (.bool false), (.bool false), (.bool false), (.bool false), (.bool false), (.bool false), (.bool false), (.bool false), (.bool false), (.bool false), (.bool false), (.bool false), (.bool false), (.bool false), (.bool false), (.bool false), (.bool false), (.bool false), (.bool false), (.bool false), (.bool false), (.bool false), (.bool false), (.bool false), (.bool false), (.bool false), (.bool false), (.bool false), (.bool false), (.bool false), (.bool false), (.bool false), (.bool false), (.bool false), (.bool false), (.bool false), (.bool false), (.bool false), (.bool false), (.bool false), (.bool false), (.bool false), (.bool false), (.bool false), (.bool false), (.bool false), (.bool false), (.bool false), (.bool false), (.bool false), (.bool false), (.bool false), (.bool false), (.bool false), (.bool false), (.bool false), (.bool false), (.bool false), (.bool false), (.bool false)]), size := 256, bytes := 256 } := rfl
theorem T143 : look T 143 = some { desc := .pointer 139, zero := (.pointer none), size := 1, bytes := 8 } := rfl
theorem T146 : look T 146 = some { desc := .int .i64, zero := (.int .i64 0), size := 1, bytes := 8 } := rfl
theorem T154 : look T 154 = some { desc := .int .u32, zero := (.int .u32 0), size := 1, bytes := 4 } := rfl
theorem T164 : look T 164 = some { desc := .array 20 129, zero := (.agg #[(.int .u64 0), (.int .u64 0), (.int .u64 0), (.int .u64 0), (.int .u64 0), (.int .u64 0), (.int .u64 0), (.int .u64 0), (.int .u64 0), (.int .u64 0), (.int .u64 0), (.int .u64 0), (.int .u64 0), (.int .u64 0), (.int .u64 0), (.int .u64 0), (.int .u64 0), (.int .u64 0), (.int .u64 0), (.int .u64 0)]), size := 20, bytes := 160 } := rfl
theorem T165 : look T 165 = some { desc := .array 65 5, zero := (.agg #[(.int .u8 0), (.int .u8 0), (.int .u8 0), (.int .u8 0), (.int .u8 0), (.int .u8 0), (.int .u8 0), (.int .u8 0), (.int .u8 0), (.int .u8 0), (.int .u8 0), (.int .u8 0), (.int .u8 0), (.int .u8 0), (.int .u8 0), (.int .u8 0), (.int .u8 0), (.int .u8 0), (.int .u8 0), (.int .u8 0), (.int .u8 0), (.int .u8 0), (.int .u8 0), (.int .u8 0), (.int .u8 0), (.int .u8 0), (.int .u8 0), (.int .u8 0), (.int .u8 0), (.int .u8 0), (.int .u8 0), (.int .u8 0), (.int .u8 0), (.int .u8 0), (.int .u8 0), (.int .u8 0), (.int .u8 0), (.int .u8 0), (.int .u8 0), (.int .u8 0), (.int .u8 0), (.int .u8 0), (.int .u8 0), (.int .u8 0), (.int .u8 0), (.int .u8 0), (.int .u8 0), (.int .u8 0), (.int .u8 0), (.int .u8 0), (.int .u8 0), (.int .u8 0), (.int .u8 0), (.int .u8 0), (.int .u8 0), (.int .u8 0), (.int .u8 0), (.int .u8 0), (.int .u8 0), (.int .u8 0), (.int .u8 0), (.int .u8 0), (.int .u8 0), (.int .u8 0), (.int .u8 0)]), size := 65, bytes := 65 } := rfl
theorem T166 : look T 166 = some { desc := .array 256 5, zero := (.agg #[(.int .u8 0), (.int .u8 0), (.int .u8 0), (.int .u8 0), (.int .u8 0), (.int .u8 0), (.int .u8 0), (.int .u8 0), (.int .u8 0), (.int .u8 0), (.int .u8 0), (.int .u8 0), (.int .u8 0), (.int .u8 0), (.int .u8 0), (.int .u8 0), (.int .u8 0), (.int .u8 0), (.int .u8 0), (.int .u8 0), (.int .u8 0), (.int .u8 0), (.int .u8 0), (.int .u8 0), (.int .u8 0), (.int .u8 0), (.int .u8 0), (.int .u8 0), (.int .u8 0), (.int .u8 0), (.int .u8 0), (.int .u8 0), (.int .u8 0), (.int .u8 0), (.int .u8 0), (.int .u8 0), (.int .u8 0), (.int .u8 0), (.int .u8 0), (.int .u8 0), (.int .u8 0), (.int .u8 0), (.int .u8 0), (.int .u8 0), (.int .u8 0), (.int .u8 0), (.int .u8 0), (.int .u8 0), (.int .u8 0), (.int .u8 0), (.int .u8 0), (.int .u8 0), (.int .u8 0), (.int .u8 0), (.int .u8 0), (.int .u8 0), (.int .u8 0), (.int .u8 0), (.int .u8 0), (.int .u8 0), (.int .u8 0), (.int .u8 0), (.int .u8 0), (.int .u8 0), (.int .u8 0), (.int .u8 0), (.int .u8 0), (.int .u8 0), (.int .u8 0), (.int .u8 0), (.int .u8 0), (.int .u8 0), (.int .u8 0), (.int .u8 0), (.int .u8 0), (.int .u8 0), (.int .u8 0), (.int .u8 0), (.int .u8 0), (.int .u8 0), (.int .u8 0), (.int .u8 0), (.int .u8 0), (.int .u8 0), (.int .u8 0), (.int .u8 0), (.int .u8 0), (.int .u8 0), (.int .u8 0), (.int .u8 0), (.int .u8 0), (.int .u8 0), (.int .u8 0), (.int .u8 0), (.int .u8 0), (.int .u8 0), (.int .u8 0), (.int .u8 0), (.int .u8 0), (.int .u8 0), (.int .u8 0), (.int .u8 0), (.int .u8 0), (.int .u8 0), (.int .u8 0), (.int .u8 0), (.int .u8 0), (.int .u8 0), (.int .u8 0), (.int .u8 0), (.int .u8 0), (.int .u8 0), (.int .u8 0), (.int .u8 0), (.int .u8 0), (.int .u8 0), (.int .u8 0), (.int .u8 0), (.int .u8 0), (.int .u8 0), (.int .u8 0), (.int .u8 0), (.int .u8 0), (.int .u8 0), (.int .u8 0), (.int .u8 0), (.int .u8 0), (.int .u8 0), (.int .u8 0), (.int .u8 0), (.int .u8 0), (.int .u8 0), (.int .u8 0), (.int .u8 0), (.int .u8 0), (.int .u8 0), (.int .u8 0), (.int .u8 0), (.int .u8 0), (.int .u8 0), (.int .u8 0), (.int .u8 0), (.int .u8 0), (.int .u8 0), (.int .u8 0), (.int .u8 0), (.int .u8 0), (.int .u8 0), (.int .u8 0), (.int .u8 0), (.int .u8 0), (.int .u8 0), (.int .u8 0), (.int .u8 0), (.int .u8 0), (.int .u8 0), (.int .u8 0), (.int .u8 0), (.int .u8 0), (.int .u8 0), (.int .u8 0), (.int .u8 0), (.int .u8 0), (.int .u8 0), (.int .u8 0), (.int .u8 0), (.int .u8 0), (.int .u8 0), (.int .u8 0), (.int .u8 0), (.int .u8 0), (.int .u8 0), (.int .u8 0), (.int .u8 0), (.int .u8 0), (.int .u8 0), (.int .u8 0), (.int .u8 0), (.int .u8 0), (.int .u8 0), (.int .u8 0), (.int .u8 0), (.int .u8 0), (.int .u8 0), (.int .u8 0), (.int .u8 0), (.int .u8 0), (.int .u8 0), (.int .u8 0), (.int .u8 0), (.int .u8 0), (.int .u8 0), (.int .u8 0), (.int .u8 0), (.int .u8 0), (.int .u8 0), (.int .u8 0), (.int .u8 0), (.int .u8 0), (.int .u8 0), (.int .u8 0), (.int .u8 0), (.int .u8 0), (.int .u8 0), (.int .u8 0), (.int .u8 0), (.int .u8 0), (.int .u8 0), (.int .u8 0), (.int .u8 0), (.int .u8 0), (.int .u8 0), (.int .u8 0), (.int .u8 0), (.int .u8 0), (.int .u8 0), (.int .u8 0), (.int .u8 0), (.int .u8 0), (.int .u8 0), (.int .u8 0), (.int .u8 0), (.int .u8 0), (.int .u8 0), (.int .u8 0), (.int .u8 0), (.int .u8 0), (.int .u8 0), (.int .u8 0), (.int .u8 0), (.int .u8 0), (.int .u8 0), (.int .u8 0), (.int .u8 0), (.int .u8 0), (.int .u8 0), (.int .u8 0), (.int .u8 0), (.int .u8 0), (.int .u8 0), (.int .u8 0), (.int .u8 0), (.int .u8 0), (.int .u8 0), (.int .u8 0), (.int .u8 0), (.int .u8 0), (.int .u8 0), (.int .u8 0), (.int .u8 0), (.int .u8 0), (.int .u8 0), (.int .u8 0), (.int .u8 0), (.int .u8 0), (.int .u8 0)]), size := 256, bytes := 256 } := rfl
theorem T168 : look T 168 = some { desc := .struct #[{ name := "lo", type := 5, offset := 0, embedded := false, tag := "", pkgPath := "unicode/utf8", byteOffset := 0 }, { name := "hi", type := 5, offset := 1, embedded := false, tag := "", pkgPath := "unicode/utf8", byteOffset := 1 }], zero := (.agg #[(.int .u8 0), (.int .u8 0)]), size := 2, bytes := 2, eqv := true } := rfl
theorem T169 : look T 169 = some { desc := .array 16 168, zero := (.agg #[(.int .u8 0), (.int .u8 0), (.int .u8 0), (.int .u8 0), (.int .u8 0), (.int .u8 0), (.int .u8 0), (.int .u8 0), (.int .u8 0), (.int .u8 0), (.int .u8 0), (.int .u8 0), (.int .u8 0), (.int .u8 0), (.int .u8 0), (.int .u8 0), (.int .u8 0), (.int .u8 0), (.int .u8 0), (.int .u8 0), (.int .u8 0), (.int .u8 0), (.int .u8 0), (.int .u8 0), (.int .u8 0), (.int .u8 0), (.int .u8 0), (.int .u8 0), (.int .u8 0), (.int .u8 0), (.int .u8 0), (.int .u8 0)]), size := 32, bytes := 32 } := rfl
theorem T176 : look T 176 = some { desc := .pointer 194, zero := (.pointer none), size := 1, bytes := 8 } := rfl
theorem T179 : look T 179 = some { desc := .int .u64, zero := (.int .u64 0), size := 1, bytes := 8 } := rfl
theorem T183 : look T 183 = some { desc := .pointer 3, zero := (.pointer none), size := 1, bytes := 8 } := rfl
theorem T194 : look T 194 = some { desc := .struct #[{ name := "Func", type := 9, offset := 0, embedded := false, tag := "", pkgPath := "", byteOffset := 0 }, { name := "Num", type := 9, offset := 1, embedded := false, tag := "", pkgPath := "", byteOffset := 16 }, { name := "Err", type := 98, offset := 2, embedded := false, tag := "", pkgPath := "", byteOffset := 32 }], zero := (.agg #[(.string ⟨#[]⟩), (.string ⟨#[]⟩), .nilIface]), size := 3, bytes := 48 } := rfl
theorem T199 : look T 199 = some { desc := .array 32 5, zero := (.agg #[(.int .u8 0), (.int .u8 0), (.int .u8 0), (.int .u8 0), (.int .u8 0), (.int .u8 0), (.int .u8 0), (.int .u8 0), (.int .u8 0), (.int .u8 0), (.int .u8 0), (.int .u8 0), (.int .u8 0), (.int .u8 0), (.int .u8 0), (.int .u8 0), (.int .u8 0), (.int .u8 0), (.int .u8 0), (.int .u8 0), (.int .u8 0), (.int .u8 0), (.int .u8 0), (.int .u8 0), (.int .u8 0), (.int .u8 0), (.int .u8 0), (.int .u8 0), (.int .u8 0), (.int .u8 0), (.int .u8 0), (.int .u8 0)]), size := 32, bytes := 32 } := rfl
theorem T200 : look T 200 = some { desc := .array 64 5, zero := (.agg #[(.int .u8 0), (.int .u8 0), (.int .u8 0), (.int .u8 0), (.int .u8 0), (.int .u8 0), (.int .u8 0), (.int .u8 0), (.int .u8 0), (.int .u8 0), (.int .u8 0), (.int .u8 0), (.int .u8 0), (.int .u8 0), (.int .u8 0), (.int .u8 0), (.int .u8 0), (.int .u8 0), (.int .u8 0), (.int .u8 0), (.int .u8 0), (.int .u8 0), (.int .u8 0), (.int .u8 0), (.int .u8 0), (.int .u8 0), (.int .u8 0), (.int .u8 0), (.int .u8 0), (.int .u8 0), (.int .u8 0), (.int .u8 0), (.int .u8 0), (.int .u8 0), (.int .u8 0), (.int .u8 0), (.int .u8 0), (.int .u8 0), (.int .u8 0), (.int .u8 0), (.int .u8 0), (.int .u8 0), (.int .u8 0), (.int .u8 0), (.int .u8 0), (.int .u8 0), (.int .u8 0), (.int .u8 0), (.int .u8 0), (.int .u8 0), (.int .u8 0), (.int .u8 0), (.int .u8 0), (.int .u8 0), (.int .u8 0), (.int .u8 0), (.int .u8 0), (.int .u8 0), (.int .u8 0), (.int .u8 0), (.int .u8 0), (.int .u8 0), (.int .u8 0), (.int .u8 0)]), size := 64, bytes := 64 } := rfl
theorem T205 : look T 205 = some { desc := .struct #[{ name := "s", type := 9, offset := 0, embedded := false, tag := "", pkgPath := "errors", byteOffset := 0 }], zero := (.agg #[(.string ⟨#[]⟩)]), size := 1, bytes := 16, eqv := true } := rfl
theorem mixed : Tryz.prog.follows .mixedOrders = true := by kernel_rfl
end Go.Abs
set_option maxRecDepth 100000
namespace Go.Abs
open Go Go.Proofs
def pow10Cells : List Value := Lib.pow10Tab.map fun z => Value.int .u64 z
/-- The cells of a variable that holds some int. -/
def someInt (cs : List Value) : Prop := ∃ m, cs = [.int .i64 m]
noncomputable instance env : Env Tryz.prog := ⟨[(1, (· = pow10Cells)), (0, someInt)]⟩
theorem pow10_tab {w : World} {I : Nat → Prop} (h : EOK Tryz.prog w I) : Lib.TabIs Tryz.prog w "internal/strconv.uint64pow10" .u64 Lib.pow10Tab := by
  obtain ⟨_, _, t, fr, rfl, hb⟩ := h 1 (· = pow10Cells) (by first | exact List.mem_singleton.2 rfl | exact List.mem_cons_self)
  unfold Lib.TabIs World.var?
  rw [show Tryz.prog.globalNamed "internal/strconv.uint64pow10" = some 1 by kernel_rfl]
  simp only [Option.bind_some, hb]
  rfl
theorem maxLen_cell {w : World} {I : Nat → Prop} (h : EOK Tryz.prog w I) : ∃ m, w.cell? ⟨0, 0, none⟩ = some (.int .i64 m) := by
  obtain ⟨_, _, t, fr, ⟨m, rfl⟩, hb⟩ := h 0 someInt (List.mem_cons_of_mem _ (List.mem_singleton.2 rfl))
  exact ⟨m, by rw [Lib.cell_of_heap hb]; rfl⟩
end Go.Abs
set_option maxRecDepth 100000
namespace Go.Abs
open Go Go.Proofs
set_option linter.unusedSimpArgs false
attribute [simp] T3 T4 T5 T9 T93 T25 T154 T2 T129
theorem firstB (x : Bool) : (x && true) = x := by simp
theorem ite_t {α : Type} {c : Bool} {a b : α} (h : c = true) : (if c = true then a else b) = a := by rw [if_pos h]
theorem ite_f {α : Type} {c : Bool} {a b : α} (h : c = false) : (if c = true then a else b) = b := by rw [if_neg (by rw [h]; decide)]
@[simp] def encI (n : Int) : AV := .int .i64 n
abbrev AV.i (n : Int) : AV := .int .i64 n
abbrev W (n : Int) : Int := IntKind.i64.wrap n
theorem wrap_i64 (n : Int) (h1 : -9223372036854775808 ≤ n) (h2 : n ≤ 9223372036854775807) : IntKind.i64.wrap n = n := by
  rw [IntKind.wrap_i64]; omega
theorem wrap_one : IntKind.i64.wrap 1 = 1 := wrap_i64 _ (by omega) (by omega)
end Go.Abs
set_option maxRecDepth 100000
namespace Go.Abs
open Go Go.Proofs
set_option linter.unusedSimpArgs false
attribute [simp] T59 T22
structure Iv where
  lo : Int
  hi : Int
deriving Inhabited, DecidableEq
@[simp] def encIv (v : Iv) : AV := .agg [.int .i64 v.lo, .int .i64 v.hi]
abbrev LIv (l : List Iv) : AV := .list (l.map encIv)
def inB (n : Int) : Bool := decide (-1099511627776 ≤ n) && decide (n ≤ 1099511627776)
def oneR (x : Iv) : Int := if (!inB x.lo || !inB x.hi) = true then 2 else if decide (x.hi < x.lo) = true then 3 else 0
theorem inB_or (a b : Int) : (decide (a < -1099511627776) || decide (1099511627776 < a) || decide (b < -1099511627776) || decide (1099511627776 < b)) = (!inB a || !inB b) := by
  unfold inB
  rw [Bool.eq_iff_iff]
  simp
  omega
theorem inB_iff (a : Int) : inB a = true ↔ -1099511627776 ≤ a ∧ a ≤ 1099511627776 := by simp [inB]
theorem pc_formed (x : Iv) : PC Tryz.prog 51 [encIv x] (fun r => r = .i (oneR x)) := by
  refine PC_body tOk Tryz.func51 rfl Tryz.results51 rfl (by simp [Tryz.ntmps51]) ?_
  rw [Tryz.ntmps51]
  simp only [argSlots]
  simp only [encIv]
  repeat (first
    | (refine AWP_seq (AWP_regS tOk rfl ?_); simp)
    | (refine AWP_regS tOk rfl ?_; simp)
    | (refine AWP_skip ?_; simp)
    | (refine AWP_exit ?_; simp)
    | (refine AWP_ret ?_; simp)
    | refine AWP_block ?_
    | refine AWP_seq ?_)
  rw [inB_or]
  refine AWP_cond2 rfl (fun h => ?_) (fun h => ?_)
  · repeat (first
      | (refine AWP_seq (AWP_regS tOk rfl ?_); simp)
      | (refine AWP_regS tOk rfl ?_; simp)
      | (refine AWP_skip ?_; simp)
      | (refine AWP_exit ?_; simp)
      | (refine AWP_ret ?_; simp)
      | refine AWP_block ?_
      | refine AWP_seq ?_)
    rw [oneR, ite_t h]
  repeat (first
    | (refine AWP_seq (AWP_regS tOk rfl ?_); simp)
    | (refine AWP_regS tOk rfl ?_; simp)
    | (refine AWP_skip ?_; simp)
    | (refine AWP_exit ?_; simp)
    | (refine AWP_ret ?_; simp)
    | refine AWP_block ?_
    | refine AWP_seq ?_)
  refine AWP_cond2 rfl (fun h1 => ?_) (fun h1 => ?_)
  · repeat (first
      | (refine AWP_seq (AWP_regS tOk rfl ?_); simp)
      | (refine AWP_regS tOk rfl ?_; simp)
      | (refine AWP_skip ?_; simp)
      | (refine AWP_exit ?_; simp)
      | (refine AWP_ret ?_; simp)
      | refine AWP_block ?_
      | refine AWP_seq ?_)
    rw [oneR, ite_f h, ite_t h1]
  repeat (first
    | (refine AWP_seq (AWP_regS tOk rfl ?_); simp)
    | (refine AWP_regS tOk rfl ?_; simp)
    | (refine AWP_skip ?_; simp)
    | (refine AWP_exit ?_; simp)
    | (refine AWP_ret ?_; simp)
    | refine AWP_block ?_
    | refine AWP_seq ?_)
  rw [oneR, ite_f h, ite_f h1]
theorem pc_rIn (n : Int) : PC Tryz.prog 89 [.i n] (fun r => r = .bool (inB n)) := by
  refine PC_body tOk Tryz.func89 rfl Tryz.results89 rfl (by simp [Tryz.ntmps89]) ?_
  rw [Tryz.ntmps89]
  simp only [argSlots]
  repeat (first
    | (refine AWP_seq (AWP_regS tOk rfl ?_); simp)
    | (refine AWP_regS tOk rfl ?_; simp)
    | (refine AWP_skip ?_; simp)
    | (refine AWP_exit ?_; simp)
    | (refine AWP_ret ?_; simp)
    | refine AWP_block ?_
    | refine AWP_seq ?_)
  rfl
attribute [local irreducible] inB
theorem pc_rOne (x : Iv) : PC Tryz.prog 69 [encIv x] (fun r => r = .i (oneR x)) := by
  refine PC_body tOk Tryz.func69 rfl Tryz.results69 rfl (by simp [Tryz.ntmps69]) ?_
  rw [Tryz.ntmps69]
  simp only [argSlots]
  simp only [encIv]
  repeat (first
    | (refine AWP_seq (AWP_regS tOk rfl ?_); simp)
    | (refine AWP_regS tOk rfl ?_; simp)
    | (refine AWP_skip ?_; simp)
    | (refine AWP_exit ?_; simp)
    | (refine AWP_ret ?_; simp)
    | refine AWP_block ?_
    | refine AWP_seq ?_)
  cases hp : inB x.lo with
  | false =>
    refine AStep_PC rfl rfl (by simp) (pc_rIn x.lo) rfl ?_
    rintro _ rfl
    simp [hp]
    refine AStep_skip rfl rfl ?_
    simp
    refine AWP_cond rfl ?_
    repeat (first
      | (refine AWP_seq (AWP_regS tOk rfl ?_); simp)
      | (refine AWP_regS tOk rfl ?_; simp)
      | (refine AWP_skip ?_; simp)
      | (refine AWP_exit ?_; simp)
      | (refine AWP_ret ?_; simp)
      | refine AWP_block ?_
      | refine AWP_seq ?_)
    rw [oneR, ite_t (by rw [hp]; rfl)]
  | true =>
    refine AStep_PC rfl rfl (by simp) (pc_rIn x.lo) rfl ?_
    rintro _ rfl
    simp [hp]
    refine AStep_PC rfl rfl (by simp) (pc_rIn x.hi) rfl ?_
    rintro _ rfl
    simp
    have he : (!inB x.lo || !inB x.hi) = !inB x.hi := by rw [hp]; rfl
    refine AWP_cond2 rfl (fun h => ?_) (fun h => ?_)
    · repeat (first
        | (refine AWP_seq (AWP_regS tOk rfl ?_); simp)
        | (refine AWP_regS tOk rfl ?_; simp)
        | (refine AWP_skip ?_; simp)
        | (refine AWP_exit ?_; simp)
        | (refine AWP_ret ?_; simp)
        | refine AWP_block ?_
        | refine AWP_seq ?_)
      rw [oneR, he, ite_t h]
    repeat (first
      | (refine AWP_seq (AWP_regS tOk rfl ?_); simp)
      | (refine AWP_regS tOk rfl ?_; simp)
      | (refine AWP_skip ?_; simp)
      | (refine AWP_exit ?_; simp)
      | (refine AWP_ret ?_; simp)
      | refine AWP_block ?_
      | refine AWP_seq ?_)
    refine AWP_cond2 rfl (fun h1 => ?_) (fun h1 => ?_)
    · repeat (first
        | (refine AWP_seq (AWP_regS tOk rfl ?_); simp)
        | (refine AWP_regS tOk rfl ?_; simp)
        | (refine AWP_skip ?_; simp)
        | (refine AWP_exit ?_; simp)
        | (refine AWP_ret ?_; simp)
        | refine AWP_block ?_
        | refine AWP_seq ?_)
      rw [oneR, he, ite_f h, ite_t h1]
    repeat (first
      | (refine AWP_seq (AWP_regS tOk rfl ?_); simp)
      | (refine AWP_regS tOk rfl ?_; simp)
      | (refine AWP_skip ?_; simp)
      | (refine AWP_exit ?_; simp)
      | (refine AWP_ret ?_; simp)
      | refine AWP_block ?_
      | refine AWP_seq ?_)
    rw [oneR, he, ite_f h, ite_f h1]
/-- What a list in order asks, from a place on. -/
def gapB (l : List Iv) (j : Nat) (x : Iv) : Bool := decide (0 < j) && (match l[j - 1]? with | some y => decide (x.lo < W (y.hi + 2)) | none => false)
def ckFrom (l : List Iv) : Nat → List Iv → Int
  | _, [] => 0
  | j, x :: r => if (oneR x != 0) = true then oneR x else if gapB l j x = true then 14 else ckFrom l (j + 1) r
def ckR (l : List Iv) : Int := if decide ((256 : Int) < l.length) = true then 5 else ckFrom l 0 l
attribute [local irreducible] oneR
theorem drop_get {α : Type} {l : List α} {j : Nat} (h : j < l.length) : l.drop j = l[j] :: l.drop (j + 1) := List.drop_eq_getElem_cons h
set_option maxHeartbeats 1000000 in
theorem pc_Check (l : List Iv) : PC Tryz.prog 27 [LIv l] (fun r => r = .i (ckR l)) := by
  refine PC_body tOk Tryz.func27 rfl Tryz.results27 rfl (by simp [Tryz.ntmps27]) ?_
  rw [Tryz.ntmps27]
  simp only [argSlots]
  refine AWP_len 0 rfl (fun hlen => ?_)
  rw [List.length_map] at hlen
  repeat (first
    | (refine AWP_seq (AWP_regS tOk rfl ?_); simp)
    | (refine AWP_regS tOk rfl ?_; simp)
    | (refine AWP_skip ?_; simp)
    | (refine AWP_exit ?_; simp)
    | (refine AWP_ret ?_; simp)
    | refine AWP_block ?_
    | refine AWP_seq ?_)
  refine AWP_cond2 rfl (fun h => ?_) (fun h => ?_)
  · repeat (first
      | (refine AWP_seq (AWP_regS tOk rfl ?_); simp)
      | (refine AWP_regS tOk rfl ?_; simp)
      | (refine AWP_skip ?_; simp)
      | (refine AWP_exit ?_; simp)
      | (refine AWP_ret ?_; simp)
      | refine AWP_block ?_
      | refine AWP_seq ?_)
    rw [ckR, ite_t h]
  repeat (first
    | (refine AWP_seq (AWP_regS tOk rfl ?_); simp)
    | (refine AWP_regS tOk rfl ?_; simp)
    | (refine AWP_skip ?_; simp)
    | (refine AWP_exit ?_; simp)
    | (refine AWP_ret ?_; simp)
    | refine AWP_block ?_
    | refine AWP_seq ?_)
  refine AWP_countI l.length (fun j => ckFrom l 0 l = ckFrom l j (l.drop j)) (fun j => [(0, LIv l), (9, LIv l), (10, .i l.length), (11, .i j)]) (fun _ => []) rfl (by simp) (by simp) (by simp) (by simp) (by simp) ?_
  intro j hj hI ih
  repeat (first
    | (refine AWP_seq (AWP_regS tOk rfl ?_); simp)
    | (refine AWP_regS tOk rfl ?_; simp)
    | (refine AWP_skip ?_; simp)
    | (refine AWP_exit ?_; simp)
    | (refine AWP_ret ?_; simp)
    | refine AWP_block ?_
    | refine AWP_seq ?_)
  refine AWP_cond2 rfl (fun hlt => ?_) (fun hge => ?_)
  · have hlt' : j < l.length := by simpa using hlt
    have hw : IntKind.i64.wrap ((j : Int) + 1) = j + 1 := wrap_i64 _ (by omega) (by omega)
    rw [drop_get hlt', ckFrom] at hI
    repeat (first
      | (refine AWP_seq (AWP_regS tOk rfl ?_); simp [hlt'])
      | (refine AWP_regS tOk rfl ?_; simp [hlt'])
      | (refine AWP_skip ?_; simp [hlt'])
      | (refine AWP_exit ?_; simp [hlt'])
      | (refine AWP_ret ?_; simp [hlt'])
      | refine AWP_block ?_
      | refine AWP_seq ?_)
    refine AStep_PC rfl rfl (by simp) (pc_formed l[j]) rfl ?_
    rintro _ rfl
    simp
    repeat (first
      | (refine AWP_seq (AWP_regS tOk rfl ?_); simp)
      | (refine AWP_regS tOk rfl ?_; simp)
      | (refine AWP_skip ?_; simp)
      | (refine AWP_exit ?_; simp)
      | (refine AWP_ret ?_; simp)
      | refine AWP_block ?_
      | refine AWP_seq ?_)
    refine AWP_cond2 rfl (fun h2 => ?_) (fun h2 => ?_)
    · repeat (first
        | (refine AWP_seq (AWP_regS tOk rfl ?_); simp)
        | (refine AWP_regS tOk rfl ?_; simp)
        | (refine AWP_skip ?_; simp)
        | (refine AWP_exit ?_; simp)
        | (refine AWP_ret ?_; simp)
        | refine AWP_block ?_
        | refine AWP_seq ?_)
      rw [ckR, ite_f h, hI, ite_t h2]
    rw [ite_f h2] at hI
    repeat (first
      | (refine AWP_seq (AWP_regS tOk rfl ?_); simp)
      | (refine AWP_regS tOk rfl ?_; simp)
      | (refine AWP_skip ?_; simp)
      | (refine AWP_exit ?_; simp)
      | (refine AWP_ret ?_; simp)
      | refine AWP_block ?_
      | refine AWP_seq ?_)
    rcases j with _ | j
    · refine AWP_drawT tOk mixed [] (.val 0 (.val 1 (.val 2 (.val 3 (.val 4 (.val 5 (.val 6 (.val 7 (.val 8 (.val 9 (.val 10 (.val 11 (.val 12 (.val 13 (.done))))))))))))))) rfl (by kernel_rfl) ?_
      simp [hlt']
      refine AWP_cond rfl ?_
      repeat (first
        | (refine AWP_seq (AWP_regS tOk rfl ?_); simp [hw])
        | (refine AWP_regS tOk rfl ?_; simp [hw])
        | (refine AWP_skip ?_; simp [hw])
        | (refine AWP_exit ?_; simp [hw])
        | (refine AWP_ret ?_; simp [hw])
        | refine AWP_block ?_
        | refine AWP_seq ?_)
      refine ALoop_end _ (ih hlt' ?_) rfl (by simp) ?_ (by simp) (by simp)
      · rw [hI, ite_f (by simp [gapB])]
      · simp [wrap_one]
    · have hj1 : j < l.length := by omega
      have hgp : gapB l (j + 1) l[j + 1] = decide (l[j + 1].lo < W (l[j].hi + 2)) := by simp [gapB, hj1]
      have hw2 : IntKind.i64.wrap ((j : Int) + 1 - 1) = j := by rw [wrap_i64 _ (by omega) (by omega)]; omega
      have hw4 : IntKind.i64.wrap (j : Int) = j := wrap_i64 _ (by omega) (by omega)
      have hp : (0 : Int) < (j : Int) + 1 := by omega
      have hw3 : IntKind.i64.wrap ((j : Int) + 1 + 1) = j + 1 + 1 := wrap_i64 _ (by omega) (by omega)
      have ht1 : ((j : Int) + 1).toNat = j + 1 := by omega
      have hp1 : (0 : Int) ≤ (j : Int) + 1 := by omega
      have hp2 : (j : Int) + 1 < l.length := by omega
      have hp3 : (j : Int) < l.length := by omega
      refine AWP_drawT tOk mixed [] (.val 0 (.val 1 (.val 2 (.val 3 (.val 4 (.val 5 (.val 6 (.val 7 (.val 8 (.val 9 (.val 10 (.val 11 (.val 12 (.val 13 (.done))))))))))))))) rfl (by kernel_rfl) ?_
      simp [hlt', hj1, hw2, hw4, hp, ht1, hp1, hp2, hp3]
      refine AWP_cond2 rfl (fun h3 => ?_) (fun h3 => ?_)
      · repeat (first
          | (refine AWP_seq (AWP_regS tOk rfl ?_); simp)
          | (refine AWP_regS tOk rfl ?_; simp)
          | (refine AWP_skip ?_; simp)
          | (refine AWP_exit ?_; simp)
          | (refine AWP_ret ?_; simp)
          | refine AWP_block ?_
          | refine AWP_seq ?_)
        rw [ckR, ite_f h, hI, ite_t (by rw [hgp]; exact h3)]
      · rw [ite_f (by rw [hgp]; exact h3)] at hI
        repeat (first
          | (refine AWP_seq (AWP_regS tOk rfl ?_); simp [hw3])
          | (refine AWP_regS tOk rfl ?_; simp [hw3])
          | (refine AWP_skip ?_; simp [hw3])
          | (refine AWP_exit ?_; simp [hw3])
          | (refine AWP_ret ?_; simp [hw3])
          | refine AWP_block ?_
          | refine AWP_seq ?_)
        refine ALoop_end _ (ih hlt' hI) rfl (by simp) ?_ (by simp) (by simp)
        simp
  · have hge' : j = l.length := by simp at hge; omega
    subst hge'
    repeat (first
      | (refine AWP_seq (AWP_regS tOk rfl ?_); simp)
      | (refine AWP_regS tOk rfl ?_; simp)
      | (refine AWP_skip ?_; simp)
      | (refine AWP_exit ?_; simp)
      | (refine AWP_ret ?_; simp)
      | refine AWP_block ?_
      | refine AWP_seq ?_)
    rw [ckR, ite_f h, hI, List.drop_length]; rfl
set_option maxHeartbeats 1000000 in
theorem pc_rCheck (l : List Iv) : PC Tryz.prog 46 [LIv l] (fun r => r = .i (ckR l)) := by
  refine PC_body tOk Tryz.func46 rfl Tryz.results46 rfl (by simp [Tryz.ntmps46]) ?_
  rw [Tryz.ntmps46]
  simp only [argSlots]
  refine AWP_len 0 rfl (fun hlen => ?_)
  rw [List.length_map] at hlen
  repeat (first
    | (refine AWP_seq (AWP_regS tOk rfl ?_); simp)
    | (refine AWP_regS tOk rfl ?_; simp)
    | (refine AWP_skip ?_; simp)
    | (refine AWP_exit ?_; simp)
    | (refine AWP_ret ?_; simp)
    | refine AWP_block ?_
    | refine AWP_seq ?_)
  refine AWP_cond2 rfl (fun h => ?_) (fun h => ?_)
  · repeat (first
      | (refine AWP_seq (AWP_regS tOk rfl ?_); simp)
      | (refine AWP_regS tOk rfl ?_; simp)
      | (refine AWP_skip ?_; simp)
      | (refine AWP_exit ?_; simp)
      | (refine AWP_ret ?_; simp)
      | refine AWP_block ?_
      | refine AWP_seq ?_)
    rw [ckR, ite_t h]
  repeat (first
    | (refine AWP_seq (AWP_regS tOk rfl ?_); simp)
    | (refine AWP_regS tOk rfl ?_; simp)
    | (refine AWP_skip ?_; simp)
    | (refine AWP_exit ?_; simp)
    | (refine AWP_ret ?_; simp)
    | refine AWP_block ?_
    | refine AWP_seq ?_)
  refine AWP_countI l.length (fun j => ckFrom l 0 l = ckFrom l j (l.drop j)) (fun j => [(0, LIv l), (3, .i j)]) (fun _ => []) rfl (by simp) (by simp) (by simp) (by simp) (by simp) ?_
  intro j hj hI ih
  repeat (first
    | (refine AWP_seq (AWP_regS tOk rfl ?_); simp)
    | (refine AWP_regS tOk rfl ?_; simp)
    | (refine AWP_skip ?_; simp)
    | (refine AWP_exit ?_; simp)
    | (refine AWP_ret ?_; simp)
    | refine AWP_block ?_
    | refine AWP_seq ?_)
  refine AWP_cond2 rfl (fun hlt => ?_) (fun hge => ?_)
  · have hlt' : j < l.length := by simpa using hlt
    have hw : IntKind.i64.wrap ((j : Int) + 1) = j + 1 := wrap_i64 _ (by omega) (by omega)
    rw [drop_get hlt', ckFrom] at hI
    repeat (first
      | (refine AWP_seq (AWP_regS tOk rfl ?_); simp [hlt'])
      | (refine AWP_regS tOk rfl ?_; simp [hlt'])
      | (refine AWP_skip ?_; simp [hlt'])
      | (refine AWP_exit ?_; simp [hlt'])
      | (refine AWP_ret ?_; simp [hlt'])
      | refine AWP_block ?_
      | refine AWP_seq ?_)
    refine AStep_PC rfl rfl (by simp) (pc_rOne l[j]) rfl ?_
    rintro _ rfl
    simp
    repeat (first
      | (refine AWP_seq (AWP_regS tOk rfl ?_); simp)
      | (refine AWP_regS tOk rfl ?_; simp)
      | (refine AWP_skip ?_; simp)
      | (refine AWP_exit ?_; simp)
      | (refine AWP_ret ?_; simp)
      | refine AWP_block ?_
      | refine AWP_seq ?_)
    refine AWP_cond2 rfl (fun h2 => ?_) (fun h2 => ?_)
    · repeat (first
        | (refine AWP_seq (AWP_regS tOk rfl ?_); simp)
        | (refine AWP_regS tOk rfl ?_; simp)
        | (refine AWP_skip ?_; simp)
        | (refine AWP_exit ?_; simp)
        | (refine AWP_ret ?_; simp)
        | refine AWP_block ?_
        | refine AWP_seq ?_)
      rw [ckR, ite_f h, hI, ite_t h2]
    rw [ite_f h2] at hI
    repeat (first
      | (refine AWP_seq (AWP_regS tOk rfl ?_); simp)
      | (refine AWP_regS tOk rfl ?_; simp)
      | (refine AWP_skip ?_; simp)
      | (refine AWP_exit ?_; simp)
      | (refine AWP_ret ?_; simp)
      | refine AWP_block ?_
      | refine AWP_seq ?_)
    rcases j with _ | j
    · refine AWP_drawT tOk mixed [] (.val 0 (.val 1 (.val 2 (.val 3 (.val 4 (.val 5 (.val 6 (.val 7 (.val 8 (.val 9 (.val 10 (.val 11 (.val 12 (.val 13 (.val 14 (.val 15 (.val 16 (.done)))))))))))))))))) rfl (by kernel_rfl) ?_
      simp [hlt']
      refine AWP_cond rfl ?_
      repeat (first
        | (refine AWP_seq (AWP_regS tOk rfl ?_); simp [hw])
        | (refine AWP_regS tOk rfl ?_; simp [hw])
        | (refine AWP_skip ?_; simp [hw])
        | (refine AWP_exit ?_; simp [hw])
        | (refine AWP_ret ?_; simp [hw])
        | refine AWP_block ?_
        | refine AWP_seq ?_)
      refine ALoop_end _ (ih hlt' ?_) rfl (by simp) ?_ (by simp) (by simp)
      · rw [hI, ite_f (by simp [gapB])]
      · simp [wrap_one]
    · have hj1 : j < l.length := by omega
      have hgp : gapB l (j + 1) l[j + 1] = decide (l[j + 1].lo < W (l[j].hi + 2)) := by simp [gapB, hj1]
      have hw2 : IntKind.i64.wrap ((j : Int) + 1 - 1) = j := by rw [wrap_i64 _ (by omega) (by omega)]; omega
      have hw4 : IntKind.i64.wrap (j : Int) = j := wrap_i64 _ (by omega) (by omega)
      have hp : (0 : Int) < (j : Int) + 1 := by omega
      have hw3 : IntKind.i64.wrap ((j : Int) + 1 + 1) = j + 1 + 1 := wrap_i64 _ (by omega) (by omega)
      have ht1 : ((j : Int) + 1).toNat = j + 1 := by omega
      have hp1 : (0 : Int) ≤ (j : Int) + 1 := by omega
      have hp2 : (j : Int) + 1 < l.length := by omega
      have hp3 : (j : Int) < l.length := by omega
      refine AWP_drawT tOk mixed [] (.val 0 (.val 1 (.val 2 (.val 3 (.val 4 (.val 5 (.val 6 (.val 7 (.val 8 (.val 9 (.val 10 (.val 11 (.val 12 (.val 13 (.val 14 (.val 15 (.val 16 (.done)))))))))))))))))) rfl (by kernel_rfl) ?_
      simp [hlt', hj1, hw2, hw4, hp, ht1, hp1, hp2, hp3]
      refine AWP_cond2 rfl (fun h3 => ?_) (fun h3 => ?_)
      · repeat (first
          | (refine AWP_seq (AWP_regS tOk rfl ?_); simp)
          | (refine AWP_regS tOk rfl ?_; simp)
          | (refine AWP_skip ?_; simp)
          | (refine AWP_exit ?_; simp)
          | (refine AWP_ret ?_; simp)
          | refine AWP_block ?_
          | refine AWP_seq ?_)
        rw [ckR, ite_f h, hI, ite_t (by rw [hgp]; exact h3)]
      · rw [ite_f (by rw [hgp]; exact h3)] at hI
        repeat (first
          | (refine AWP_seq (AWP_regS tOk rfl ?_); simp [hw3])
          | (refine AWP_regS tOk rfl ?_; simp [hw3])
          | (refine AWP_skip ?_; simp [hw3])
          | (refine AWP_exit ?_; simp [hw3])
          | (refine AWP_ret ?_; simp [hw3])
          | refine AWP_block ?_
          | refine AWP_seq ?_)
        refine ALoop_end _ (ih hlt' hI) rfl (by simp) ?_ (by simp) (by simp)
        simp
  · have hge' : j = l.length := by simp at hge; omega
    subst hge'
    repeat (first
      | (refine AWP_seq (AWP_regS tOk rfl ?_); simp)
      | (refine AWP_regS tOk rfl ?_; simp)
      | (refine AWP_skip ?_; simp)
      | (refine AWP_exit ?_; simp)
      | (refine AWP_ret ?_; simp)
      | refine AWP_block ?_
      | refine AWP_seq ?_)
    rw [ckR, ite_f h, hI, List.drop_length]; rfl
end Go.Abs
set_option maxRecDepth 100000
namespace Go.Abs
open Go Go.Proofs
set_option linter.unusedSimpArgs false
theorem get_app {H : List AObj} {i : Nat} {x : AObj} (h : H[i]? = some x) (G : List AObj) : (H ++ G)[i]? = some x := by
  rw [List.getElem?_append_left (List.getElem?_eq_some_iff.1 h).1]; exact h
theorem set_app {H : List AObj} {i : Nat} {x : AObj} (h : H[i]? = some x) (G : List AObj) (y : AObj) : (H ++ G).set i y = H.set i y ++ G :=
  List.set_append_left _ _ (List.getElem?_eq_some_iff.1 h).1
theorem get_end (H : List AObj) (x : AObj) (G : List AObj) : (H ++ x :: G)[H.length]? = some x := by simp
theorem set_end (H : List AObj) (x y : AObj) (G : List AObj) : (H ++ x :: G).set H.length y = H ++ y :: G := by simp
theorem get_set {H : List AObj} {i j : Nat} {x : AObj} (hne : j ≠ i) (h : H[i]? = some x) (y : AObj) : (H.set j y)[i]? = some x := by rw [List.getElem?_set_ne hne]; exact h
theorem get_self {H : List AObj} {i : Nat} {x : AObj} (h : H[i]? = some x) (y : AObj) : (H.set i y)[i]? = some y := List.getElem?_set_self (List.getElem?_eq_some_iff.1 h).1
theorem gen_FC {P : Program} [Env P] {f : Nat} {args : List AV} {H0 : List AObj} {R : AV → List AObj → Prop} (h : ∀ H1, H1 = H0 → FC P f args H1 R) : FC P f args H0 R := h _ rfl
theorem fc_Values (H : List AObj) (l : List Iv) : FC Tryz.prog 63 [LIv l] H (fun r H' => r = .fn (.func 87) [] [.vptr H.length 0] ∧ H' = H ++ [.vars [LIv l]]) := by
  refine FC_body tOk Tryz.func63 rfl Tryz.results63 rfl (by simp [Tryz.ntmps63]) ?_
  rw [Tryz.ntmps63]
  simp only [argSlots]
  repeat (first
    | (refine AWP_seq (AWP_regS tOk rfl ?_); simp)
    | (refine AWP_regS tOk rfl ?_; simp)
    | (refine AWP_skip ?_; simp)
    | (refine AWP_exit ?_; simp)
    | (refine AWP_ret ?_; simp)
    | refine AWP_block ?_
    | refine AWP_seq ?_)
set_option maxHeartbeats 2000000 in
theorem fc_AppendSeq (H : List AObj) (id : Nat) (l : List Iv) (hid : H[id]? = some (.vars [LIv l])) (hl : l.length ≤ 1000000) :
    FC Tryz.prog 105 [.nils, .fn (.func 87) [] [.vptr id 0]] H
      (fun r H' => ∃ p, r = .sl p 2 0 l.length ∧ H'[p]? = some (.arr 59 2 (l.map encIv)) ∧ H.length ≤ p ∧ ∀ i, i < H.length → H'[i]? = H[i]?) := by
  refine FC_body tOk Tryz.func105 rfl Tryz.results105 rfl (by simp [Tryz.ntmps105]) ?_
  rw [Tryz.ntmps105]
  simp only [argSlots]
  refine AWP_seq (AWP_regS tOk rfl ?_)
  simp
  refine AWP_nilOwn (cs := [.nils]) H.length 0 59 2 (by simp) rfl ?_
  simp
  repeat (first
    | (refine AWP_seq (AWP_regS tOk rfl ?_); simp)
    | (refine AWP_regS tOk rfl ?_; simp)
    | (refine AWP_skip ?_; simp)
    | (refine AWP_exit ?_; simp)
    | (refine AWP_ret ?_; simp)
    | refine AWP_block ?_
    | refine AWP_seq ?_)
  refine AWP_rangeFunc rfl (Rf := fun _ H' => (∃ sl' ps' a' b', H'[H.length + 2]? = some (.lp true none 13 sl' ps' a' b')) ∧ ∃ p, H'[H.length]? = some (.vars [.sl p 2 0 l.length]) ∧ H'[p]? = some (.arr 59 2 (l.map encIv)) ∧ H.length ≤ p ∧ p ≠ H.length + 2 ∧ ∀ i, i < H.length → H'[i]? = H[i]?) ?_ ?_
  · simp
    refine gen_FC fun H1 hH1 => ?_
    have hlen1 : H1.length = H.length + 3 := by rw [hH1]; simp
    have f0 : H1[H.length]? = some (.vars [.sl (H.length + 1) 2 0 0]) := by rw [hH1]; simp
    have f1 : H1[H.length + 1]? = some (.arr 59 2 []) := by rw [hH1]; simp
    have f2 := congrArg (fun h : List AObj => h[H.length + 2]?) hH1
    simp at f2
    have f3 : ∀ i, i < H.length → H1[i]? = H[i]? := fun i hi => by rw [hH1, List.getElem?_append_left hi]
    have f4 : H1[id]? = some (.vars [LIv l]) := by rw [f3 id (List.getElem?_eq_some_iff.1 hid).1]; exact hid
    clear hH1
    obtain ⟨n, hn⟩ : ∃ n, H.length = n := ⟨_, rfl⟩
    rw [hn] at f0 f1 f2 f3 hlen1 ⊢
    refine FC_body tOk Tryz.func87 rfl Tryz.results87 rfl (by simp [Tryz.ntmps87]) ?_
    rw [Tryz.ntmps87]
    simp only [argSlots]
    repeat (first
      | (refine AWP_seq (AWP_regS tOk rfl ?_); simp [f4])
      | (refine AWP_regS tOk rfl ?_; simp [f4])
      | (refine AWP_skip ?_; simp [f4])
      | (refine AWP_exit ?_; simp [f4])
      | (refine AWP_ret ?_; simp [f4])
      | refine AWP_block ?_
      | refine AWP_seq ?_)
    refine AWP_loop (ALoop_keep (sl' := [(0, .yld (n + 2)), (5, LIv l), (6, .i l.length), (7, .i 0)]) ?_ (by simp))
    refine ALoop_wf (F := fun (u : Nat × Nat × List AObj) => ⟨[(0, .yld (n + 2)), (5, LIv l), (6, .i l.length), (7, .i u.1)], u.2.2⟩)
      (fun u => u.1 ≤ l.length ∧ H1.length ≤ u.2.2.length ∧ u.2.2[n]? = some (.vars [.sl u.2.1 2 0 u.1]) ∧ u.2.2[u.2.1]? = some (.arr 59 2 ((l.take u.1).map encIv)) ∧ u.2.2[n + 2]? = H1[n + 2]? ∧ n < u.2.1 ∧ u.2.1 ≠ n + 2 ∧ ∀ i, i < n → u.2.2[i]? = H[i]?) (fun u => l.length - u.1) ?_ (0, n + 1, H1) ⟨by simp, Nat.le_refl _, f0, by simpa using f1, rfl, by simp, by simp, f3⟩
    rintro ⟨j, p, H2⟩ ⟨hj, g1, g2, g3, g4, g5, g6, g7⟩ ih
    simp only at hj g1 g2 g3 g4 g5 g6 g7 ih ⊢
    rw [f2] at g4
    repeat (first
      | (refine AWP_seq (AWP_regS tOk rfl ?_); simp)
      | (refine AWP_regS tOk rfl ?_; simp)
      | (refine AWP_skip ?_; simp)
      | (refine AWP_exit ?_; simp)
      | (refine AWP_ret ?_; simp)
      | refine AWP_block ?_
      | refine AWP_seq ?_)
    refine AWP_cond2 rfl (fun hlt => ?_) (fun hge => ?_)
    · have hlt' : j < l.length := by simpa using hlt
      have hw : IntKind.i64.wrap ((j : Int) + 1) = j + 1 := wrap_i64 _ (by omega) (by omega)
      repeat (first
        | (refine AWP_seq (AWP_regS tOk rfl ?_); simp [hlt', hlen1])
        | (refine AWP_regS tOk rfl ?_; simp [hlt', hlen1])
        | (refine AWP_skip ?_; simp [hlt', hlen1])
        | (refine AWP_exit ?_; simp [hlt', hlen1])
        | (refine AWP_ret ?_; simp [hlt', hlen1])
        | refine AWP_block ?_
        | refine AWP_seq ?_)
      refine AStep_yield rfl rfl (q := n + 2) rfl rfl (get_app g4 _) rfl rfl rfl (fun jm H4 => jm = none ∧ H2.length ≤ H4.length ∧ ∃ p', H4[n]? = some (.vars [.sl p' 2 0 (j + 1)]) ∧ H4[p']? = some (.arr 59 2 ((l.take (j + 1)).map encIv)) ∧ n < p' ∧ p' ≠ n + 2 ∧ ∀ i, i < n → H4[i]? = H[i]?) ?_ ?_
      · simp [putMany, set_app g4]
        obtain ⟨H3, hH3⟩ : ∃ H3, H2.set (n + 2) .dead = H3 := ⟨_, rfl⟩
        have e1 : H3[n]? = some (.vars [.sl p 2 0 j]) := by rw [← hH3]; exact get_set (by omega) g2 _
        have e2 : H3[p]? = some (.arr 59 2 ((l.take j).map encIv)) := by rw [← hH3]; exact get_set (by omega) g3 _
        have e3 : H3[n + 2]? = some .dead := by rw [← hH3]; exact get_self g4 _
        have e4 : H3.length = H2.length := by rw [← hH3]; simp
        have e5 : ∀ i, i < n → H3[i]? = H[i]? := fun i hi => by rw [← hH3, List.getElem?_set_ne (by omega)]; exact g7 i hi
        have e6 : (H3.set p .dead)[n]? = some (.vars [.sl p 2 0 j]) := get_set (by omega) e1 _
        rw [hH3]
        have hmin : min j l.length = j := Nat.min_eq_left hj
        have htk : (l.take (j + 1)).map encIv = (l.take j).map encIv ++ [encIv l[j]] := by rw [List.take_succ_eq_append_getElem hlt', List.map_append]; rfl
        repeat (first
          | (refine AWP_seq (AWP_regS tOk rfl ?_); simp [get_app e1, get_app e2, set_app e1, set_app e2, get_app e6, set_app e6])
          | (refine AWP_regS tOk rfl ?_; simp [get_app e1, get_app e2, set_app e1, set_app e2, get_app e6, set_app e6])
          | (refine AWP_skip ?_; simp [get_app e1, get_app e2, set_app e1, set_app e2, get_app e6, set_app e6])
          | (refine AWP_exit ?_; simp [get_app e1, get_app e2, set_app e1, set_app e2, get_app e6, set_app e6])
          | (refine AWP_ret ?_; simp [get_app e1, get_app e2, set_app e1, set_app e2, get_app e6, set_app e6])
          | refine AWP_block ?_
          | refine AWP_seq ?_)
        refine AStep_appendS tOk rfl rfl T22 rfl T59 rfl (by decide) (by decide) rfl rfl rfl ?_
        simp [get_app e2, set_app e2, hmin, get_app e6, set_app e6]
        refine ⟨by simp [appOk, get_app e2, set_app e2, hmin, get_app e6, set_app e6] <;> omega, ?_⟩
        have e7 : ((H3.set p .dead).set n (.vars [.sl (H3.length + 3) 2 0 (j + 1)]))[n]? = some (.vars [.sl (H3.length + 3) 2 0 (j + 1)]) := get_self e6 _
        have e8 : ((H3.set p .dead).set n (.vars [.sl (H3.length + 3) 2 0 (j + 1)]))[n + 2]? = some .dead := get_set (by omega) (get_set (by omega) e3 _) _
        have e9 : ∀ i, i < n → ((H3.set p .dead).set n (.vars [.sl (H3.length + 3) 2 0 (j + 1)]))[i]? = H[i]? := fun i hi => by rw [List.getElem?_set_ne (by omega), List.getElem?_set_ne (by omega)]; exact e5 i hi
        have e10 : ((H3.set p .dead).set n (.vars [.sl (H3.length + 3) 2 0 (j + 1)])).length = H3.length := by simp
        generalize (H3.set p .dead).set n (.vars [.sl (H3.length + 3) 2 0 (j + 1)]) = H5 at e7 e8 e9 e10 ⊢
        refine ⟨get_app e8 _, rfl, by simp [e10, e4], H3.length + 3, get_app e7 _, ?_, by omega, by omega, fun i hi => by
          rw [← e9 i hi]; exact List.getElem?_append_left (by omega)⟩
        rw [← e10, List.getElem?_append_right (by omega)]; simp [← List.map_take, htk, encIv]
      · rintro jm H4 ⟨rfl, k1, p', k2, k3, k4, k5, k6⟩
        obtain ⟨q, hq⟩ : ∃ q, H4[n + 2]? = some q := ⟨_, List.getElem?_eq_getElem (by omega)⟩
        simp
        repeat (first
          | (refine AWP_seq (AWP_regS tOk rfl ?_); simp [hw])
          | (refine AWP_regS tOk rfl ?_; simp [hw])
          | (refine AWP_skip ?_; simp [hw])
          | (refine AWP_exit ?_; simp [hw])
          | (refine AWP_ret ?_; simp [hw])
          | refine AWP_block ?_
          | refine AWP_seq ?_)
        refine AWP_cond rfl ?_
        simp
        repeat (first
          | (refine AWP_seq (AWP_regS tOk rfl ?_); simp [hw])
          | (refine AWP_regS tOk rfl ?_; simp [hw])
          | (refine AWP_skip ?_; simp [hw])
          | (refine AWP_exit ?_; simp [hw])
          | (refine AWP_ret ?_; simp [hw])
          | refine AWP_block ?_
          | refine AWP_seq ?_)
        refine ALoop_keep (sl' := [(0, .yld (n + 2)), (5, LIv l), (6, .i l.length), (7, .i (j + 1 : Nat))]) ?_ (by simp [AV.i, AV.int] )
        have key := ih (j + 1, p', _) ⟨by simp; omega, by simp; omega, get_set (i := n) (j := n + 2) (by omega) k2 _, get_set (i := p') (j := n + 2) (by omega) k3 _, by rw [f2]; exact get_self hq _, k4, k5, fun i hi => by rw [← k6 i hi]; exact List.getElem?_set_ne (by omega)⟩ (by simp; omega)
        simp only at key
        rw [hlen1] at key
        exact key
    · have hge' : l.length ≤ j := by simpa using hge
      have hj' : j = l.length := by omega
      subst hj'
      repeat (first
        | (refine AWP_seq (AWP_regS tOk rfl ?_); simp)
        | (refine AWP_regS tOk rfl ?_; simp)
        | (refine AWP_skip ?_; simp)
        | (refine AWP_exit ?_; simp)
        | (refine AWP_ret ?_; simp)
        | refine AWP_block ?_
        | refine AWP_seq ?_)
      exact ⟨⟨_, _, _, _, g4⟩, p, g2, by simpa using g3, by omega, g6, g7⟩
  · rintro r H' ⟨⟨sl', ps', a', b', h0⟩, p, h1, h2, h3, h4, h5⟩
    refine ⟨_, _, _, _, _, _, _, by simpa using h0, ?_⟩
    simp
    have k1 := get_set (j := H.length + 2) (by omega) h1 .dead
    have k2 := get_set (j := H.length + 2) (by omega) h2 .dead
    repeat (first
      | (refine AWP_seq (AWP_regS tOk rfl ?_); simp [k1])
      | (refine AWP_regS tOk rfl ?_; simp [k1])
      | (refine AWP_skip ?_; simp [k1])
      | (refine AWP_exit ?_; simp [k1])
      | (refine AWP_ret ?_; simp [k1])
      | refine AWP_block ?_
      | refine AWP_seq ?_)
    refine ⟨k2, h3, fun i hi => by rw [← h5 i hi]; exact List.getElem?_set_ne (by omega)⟩
end Go.Abs
/-
  DERIVED: THE SHELF's CONTRACTS AT THIS DUMP, IN PLAIN WORDS (tools/lay-plain.mjs out of 'TryzShelf.lean', which tools/lay-shelf.mjs wrote): THE SAME DECLARATIONS UNDER THE SAME NAMES: 'import', 'namespace', 'open', 'def', 'theorem' AND NOTHING ELSE: no command of the shelf's: FOR A HAND-IN. Each laying: the table of numbers ('.._ren') and one theorem, a field a fact of the dump's own or the kernel's comparison; each contract: ONE APPLICATION.
-/
namespace Go.Proofs
open Go.Shelf
def Tryz.sortIv_ren : Go.Shelf.Ren := ⟨fun | 6 => 86 | 15 => 101 | 14 => 106 | 28 => 133 | 29 => 134 | 20 => 141 | 21 => 142 | 22 => 143 | 23 => 144 | 24 => 145 | 25 => 146 | 26 => 147 | 27 => 148 | 46 => 169 | 47 => 163 | 48 => 164 | 49 => 170 | 50 => 171 | 57 => 180 | n => n, fun | 22 => 22 | 24 => 59 | 25 => 85 | 3 => 3 | 39 => 115 | 0 => 0 | 53 => 154 | 55 => 129 | 4 => 4 | 46 => 147 | 45 => 146 | 50 => 89 | 5 => 5 | 9 => 9 | 66 => 179 | 70 => 183 | 76 => 196 | 77 => 39 | n => n, fun | n => n⟩
theorem Tryz.sortIv : Go.Proofs.SlLaysF0.n6 Tryz.prog Tryz.sortIv_ren := {
  mixed := by kernel_rfl
  f6 := ⟨Tryz.f86.name, by decide, Tryz.func86.trans (congrArg some (by kernel_rfl))⟩
  f14 := ⟨Tryz.f106.name, by decide, Tryz.func106.trans (congrArg some (by kernel_rfl))⟩
  f15 := Tryz.func101.trans (congrArg some (by kernel_rfl))
  f20 := ⟨Tryz.f141.name, by decide, Tryz.func141.trans (congrArg some (by kernel_rfl))⟩
  f21 := ⟨Tryz.f142.name, by decide, Tryz.func142.trans (congrArg some (by kernel_rfl))⟩
  f22 := ⟨Tryz.f143.name, by decide, Tryz.func143.trans (congrArg some (by kernel_rfl))⟩
  f23 := ⟨Tryz.f144.name, by decide, Tryz.func144.trans (congrArg some (by kernel_rfl))⟩
  f24 := ⟨Tryz.f145.name, by decide, Tryz.func145.trans (congrArg some (by kernel_rfl))⟩
  f25 := ⟨Tryz.f146.name, by decide, Tryz.func146.trans (congrArg some (by kernel_rfl))⟩
  f26 := ⟨Tryz.f147.name, by decide, Tryz.func147.trans (congrArg some (by kernel_rfl))⟩
  f27 := ⟨Tryz.f148.name, by decide, Tryz.func148.trans (congrArg some (by kernel_rfl))⟩
  f28 := Tryz.func133.trans (congrArg some (by kernel_rfl))
  f29 := Tryz.func134.trans (congrArg some (by kernel_rfl))
  f46 := ⟨Tryz.f169.name, by decide, Tryz.func169.trans (congrArg some (by kernel_rfl))⟩
  f47 := Tryz.func163.trans (congrArg some (by kernel_rfl))
  f48 := Tryz.func164.trans (congrArg some (by kernel_rfl))
  f49 := ⟨Tryz.f170.name, by decide, Tryz.func170.trans (congrArg some (by kernel_rfl))⟩
  f50 := ⟨Tryz.f171.name, by decide, Tryz.func171.trans (congrArg some (by kernel_rfl))⟩
  f57 := ⟨Tryz.f180.name, by decide, Tryz.func180.trans (congrArg some (by kernel_rfl))⟩
  t0 := Tryz.underlying0
  a0 := Tryz.isAgg0
  z0 := Tryz.sizeOf0
  v0 := Tryz.zeroValue0
  t3 := Tryz.underlying3
  a3 := Tryz.isAgg3
  z3 := Tryz.sizeOf3
  v3 := Tryz.zeroValue3
  t4 := Tryz.underlying4
  a4 := Tryz.isAgg4
  z4 := Tryz.sizeOf4
  v4 := Tryz.zeroValue4
  t5 := Tryz.underlying5
  a5 := Tryz.isAgg5
  z5 := Tryz.sizeOf5
  v5 := Tryz.zeroValue5
  t9 := Tryz.underlying9
  a9 := Tryz.isAgg9
  z9 := Tryz.sizeOf9
  v9 := Tryz.zeroValue9
  t22 := Tryz.underlying22
  a22 := Tryz.isAgg22
  z22 := Tryz.sizeOf22
  v22 := Tryz.zeroValue22
  t25 := Tryz.underlying85
  a25 := Tryz.isAgg85
  z25 := Tryz.sizeOf85
  v25 := Tryz.zeroValue85
  t39 := Tryz.underlying115
  a39 := Tryz.isAgg115
  z39 := Tryz.sizeOf115
  v39 := Tryz.zeroValue115
  t45 := Tryz.underlying146
  a45 := Tryz.isAgg146
  z45 := Tryz.sizeOf146
  v45 := Tryz.zeroValue146
  t46 := Tryz.underlying147
  a46 := Tryz.isAgg147
  z46 := Tryz.sizeOf147
  v46 := Tryz.zeroValue147
  t50 := Tryz.underlying89
  a50 := Tryz.isAgg89
  z50 := Tryz.sizeOf89
  v50 := Tryz.zeroValue89
  t53 := Tryz.underlying154
  a53 := Tryz.isAgg154
  z53 := Tryz.sizeOf154
  v53 := Tryz.zeroValue154
  t55 := Tryz.underlying129
  a55 := Tryz.isAgg129
  z55 := Tryz.sizeOf129
  v55 := Tryz.zeroValue129
  t66 := Tryz.underlying179
  a66 := Tryz.isAgg179
  z66 := Tryz.sizeOf179
  v66 := Tryz.zeroValue179
  t70 := Tryz.underlying183
  a70 := Tryz.isAgg183
  z70 := Tryz.sizeOf183
  v70 := Tryz.zeroValue183
  t76 := Tryz.underlying196
  a76 := Tryz.isAgg196
  z76 := Tryz.sizeOf196
  v76 := Tryz.zeroValue196
  t77 := Tryz.underlying39
  a77 := Tryz.isAgg39
  z77 := Tryz.sizeOf39
  v77 := Tryz.zeroValue39 }
end Go.Proofs
/-
  DERIVED: THE SHELF's CONTRACTS AT THIS DUMP, IN PLAIN WORDS (tools/lay-plain.mjs out of 'TryzShelf.lean', which tools/lay-shelf.mjs wrote): THE SAME DECLARATIONS UNDER THE SAME NAMES: 'import', 'namespace', 'open', 'def', 'theorem' AND NOTHING ELSE: no command of the shelf's: FOR A HAND-IN. Each laying: the table of numbers ('.._ren') and one theorem, a field a fact of the dump's own or the kernel's comparison; each contract: ONE APPLICATION.
-/
namespace Go.Proofs
open Go.Shelf
def Tryz.lays137_ren : Go.Shelf.Ren := ⟨fun | 137 => 181 | 217 => 137 | 266 => 167 | n => n, fun | 9 => 9 | 5 => 5 | 3 => 3 | n => n, fun | n => n⟩
theorem Tryz.lays137 : Go.Proofs.Lays.n137 Tryz.prog Tryz.lays137_ren := {
  mixed := by kernel_rfl
  f137 := Tryz.func181.trans (congrArg some (by kernel_rfl))
  f217 := Tryz.func137.trans (congrArg some (by kernel_rfl))
  f266 := Tryz.func167.trans (congrArg some (by kernel_rfl))
  t3 := Tryz.underlying3
  a3 := Tryz.isAgg3
  z3 := Tryz.sizeOf3
  v3 := Tryz.zeroValue3
  t5 := Tryz.underlying5
  a5 := Tryz.isAgg5
  z5 := Tryz.sizeOf5
  v5 := Tryz.zeroValue5
  t9 := Tryz.underlying9
  a9 := Tryz.isAgg9
  z9 := Tryz.sizeOf9
  v9 := Tryz.zeroValue9 }
open Go.RowKit in
/-- strings.IndexByte: "IndexByte returns the index of the first instance of c in s, or -1 if c is not present in s.": IT RETURNS 'Lib.indexByte s c'; the world is as it was. (LAID: no walk: one application.) -/
theorem Tryz.strings_IndexByte (s : ByteArray) (c : Int) (w : World) :
    Calls Tryz.prog 181 #[.string s, .int .u8 c] w fun e w' => e = .returned (.int .i64 (Lib.indexByte s.data.toList c.toNat.toUInt8)) ∧ w' = w := Any.strings_IndexByte Tryz.lays137 s c w
def Tryz.laysM171_ren : Go.Shelf.Ren := ⟨fun | 171 => 52 | 243 => 72 | 246 => 90 | 283 => 107 | 284 => 108 | 285 => 109 | 286 => 110 | 129 => 134 | 317 => 149 | 318 => 150 | 319 => 151 | 320 => 152 | 337 => 172 | 338 => 173 | n => n, fun | 3 => 3 | 9 => 9 | 2 => 2 | 4 => 4 | 171 => 128 | 0 => 0 | 53 => 129 | 37 => 93 | 5 => 5 | 173 => 132 | 212 => 164 | 51 => 154 | 20 => 20 | 213 => 165 | 46 => 115 | 232 => 199 | 233 => 200 | n => n, fun | 17 => 1 | 18 => 6 | 19 => 7 | n => n⟩
theorem Tryz.laysM171 : Go.Proofs.LaysM.n171 Tryz.prog Tryz.laysM171_ren := {
  mixed := by kernel_rfl
  f129 := Tryz.func134.trans (congrArg some (by kernel_rfl))
  f171 := Tryz.func52.trans (congrArg some (by kernel_rfl))
  f243 := Tryz.func72.trans (congrArg some (by kernel_rfl))
  f246 := Tryz.func90.trans (congrArg some (by kernel_rfl))
  f283 := Tryz.func107.trans (congrArg some (by kernel_rfl))
  f284 := Tryz.func108.trans (congrArg some (by kernel_rfl))
  f285 := Tryz.func109.trans (congrArg some (by kernel_rfl))
  f286 := Tryz.func110.trans (congrArg some (by kernel_rfl))
  f317 := Tryz.func149.trans (congrArg some (by kernel_rfl))
  f318 := Tryz.func150.trans (congrArg some (by kernel_rfl))
  f319 := Tryz.func151.trans (congrArg some (by kernel_rfl))
  f320 := Tryz.func152.trans (congrArg some (by kernel_rfl))
  f337 := Tryz.func172.trans (congrArg some (by kernel_rfl))
  f338 := Tryz.func173.trans (congrArg some (by kernel_rfl))
  t0 := Tryz.underlying0
  a0 := Tryz.isAgg0
  z0 := Tryz.sizeOf0
  v0 := Tryz.zeroValue0
  t2 := Tryz.underlying2
  a2 := Tryz.isAgg2
  z2 := Tryz.sizeOf2
  v2 := Tryz.zeroValue2
  t3 := Tryz.underlying3
  a3 := Tryz.isAgg3
  z3 := Tryz.sizeOf3
  v3 := Tryz.zeroValue3
  t4 := Tryz.underlying4
  a4 := Tryz.isAgg4
  z4 := Tryz.sizeOf4
  v4 := Tryz.zeroValue4
  t5 := Tryz.underlying5
  a5 := Tryz.isAgg5
  z5 := Tryz.sizeOf5
  v5 := Tryz.zeroValue5
  t9 := Tryz.underlying9
  a9 := Tryz.isAgg9
  z9 := Tryz.sizeOf9
  v9 := Tryz.zeroValue9
  t20 := Tryz.underlying20
  a20 := Tryz.isAgg20
  z20 := Tryz.sizeOf20
  v20 := Tryz.zeroValue20
  t37 := Tryz.underlying93
  a37 := Tryz.isAgg93
  z37 := Tryz.sizeOf93
  v37 := Tryz.zeroValue93
  t46 := Tryz.underlying115
  a46 := Tryz.isAgg115
  z46 := Tryz.sizeOf115
  v46 := Tryz.zeroValue115
  t51 := Tryz.underlying154
  a51 := Tryz.isAgg154
  z51 := Tryz.sizeOf154
  v51 := Tryz.zeroValue154
  t53 := Tryz.underlying129
  a53 := Tryz.isAgg129
  z53 := Tryz.sizeOf129
  v53 := Tryz.zeroValue129
  t171 := Tryz.underlying128
  a171 := Tryz.isAgg128
  z171 := Tryz.sizeOf128
  v171 := Tryz.zeroValue128
  t173 := Tryz.underlying132
  a173 := Tryz.isAgg132
  z173 := Tryz.sizeOf132
  v173 := Tryz.zeroValue132
  t212 := Tryz.underlying164
  a212 := Tryz.isAgg164
  z212 := Tryz.sizeOf164
  v212 := Tryz.zeroValue164
  t213 := Tryz.underlying165
  a213 := Tryz.isAgg165
  z213 := Tryz.sizeOf165
  t232 := Tryz.underlying199
  a232 := Tryz.isAgg199
  z232 := Tryz.sizeOf199
  v232 := Tryz.zeroValue199
  t233 := Tryz.underlying200
  a233 := Tryz.isAgg200
  z233 := Tryz.sizeOf200
  v233 := Tryz.zeroValue200
  g17 := by kernel_rfl
  g18 := by kernel_rfl
  g19 := by kernel_rfl
  i0 := by kernel_rfl
  i2 := by kernel_rfl
  i3 := by kernel_rfl
  i4 := by kernel_rfl
  i5 := by kernel_rfl
  i9 := by kernel_rfl
  i20 := by kernel_rfl
  i37 := by kernel_rfl
  i46 := by kernel_rfl
  i51 := by kernel_rfl
  i53 := by kernel_rfl
  i171 := by kernel_rfl
  i173 := by kernel_rfl
  i212 := by kernel_rfl
  i232 := by kernel_rfl
  i233 := by kernel_rfl
  m17 := by kernel_rfl
  m18 := by kernel_rfl
  m19 := by kernel_rfl }
open Go.RowKit Go.Sort Go.Lib in
/-- strconv.Itoa: "Itoa is equivalent to FormatInt(int64(i), 10).": i's DECIMAL NUMERAL ('Lib.itoa': a '-' where i is negative, then the digits), FOR EVERY int. The world behind the call: the world before it, new blocks behind the heap (the library's 'var a [24]byte'), draws. (LAID: no walk: one application.) -/
theorem Tryz.strconv_Itoa (n : Int) (h0 : -9223372036854775808 ≤ n) (h1 : n ≤ 9223372036854775807) (w : World) (htab : Lib.TabIs Tryz.prog w "internal/strconv.uint64pow10" .u64 Lib.pow10Tab) :
    Calls Tryz.prog 52 #[.int .i64 n] w fun e w' => e = .returned (.string ⟨(Lib.itoa n).toArray⟩) ∧ ∃ k os, w' = grow (w.drewN k) os := Any.strconv_Itoa Tryz.laysM171 n h0 h1 w htab
def Tryz.lays189_ren : Go.Shelf.Ren := ⟨fun | 189 => 80 | 125 => 101 | 257 => 100 | 128 => 133 | 129 => 134 | 294 => 124 | 295 => 125 | 296 => 126 | 297 => 127 | 298 => 128 | 299 => 129 | 216 => 130 | 300 => 131 | 301 => 132 | 328 => 162 | 329 => 163 | 330 => 164 | 331 => 165 | 332 => 166 | 215 => 88 | 343 => 179 | n => n, fun | 28 => 106 | 3 => 3 | 46 => 115 | 0 => 0 | 51 => 154 | 53 => 129 | 4 => 4 | 183 => 147 | 182 => 146 | 131 => 89 | 5 => 5 | 9 => 9 | 218 => 179 | 222 => 183 | 228 => 196 | 229 => 39 | n => n, fun | n => n⟩
theorem Tryz.lays189 : Go.Proofs.Lays.n189 Tryz.prog Tryz.lays189_ren := {
  mixed := by kernel_rfl
  f125 := Tryz.func101.trans (congrArg some (by kernel_rfl))
  f128 := Tryz.func133.trans (congrArg some (by kernel_rfl))
  f129 := Tryz.func134.trans (congrArg some (by kernel_rfl))
  f189 := Tryz.func80.trans (congrArg some (by kernel_rfl))
  f215 := Tryz.func88.trans (congrArg some (by kernel_rfl))
  f216 := Tryz.func130.trans (congrArg some (by kernel_rfl))
  f257 := Tryz.func100.trans (congrArg some (by kernel_rfl))
  f294 := Tryz.func124.trans (congrArg some (by kernel_rfl))
  f295 := Tryz.func125.trans (congrArg some (by kernel_rfl))
  f296 := Tryz.func126.trans (congrArg some (by kernel_rfl))
  f297 := Tryz.func127.trans (congrArg some (by kernel_rfl))
  f298 := Tryz.func128.trans (congrArg some (by kernel_rfl))
  f299 := Tryz.func129.trans (congrArg some (by kernel_rfl))
  f300 := Tryz.func131.trans (congrArg some (by kernel_rfl))
  f301 := Tryz.func132.trans (congrArg some (by kernel_rfl))
  f328 := Tryz.func162.trans (congrArg some (by kernel_rfl))
  f329 := Tryz.func163.trans (congrArg some (by kernel_rfl))
  f330 := Tryz.func164.trans (congrArg some (by kernel_rfl))
  f331 := Tryz.func165.trans (congrArg some (by kernel_rfl))
  f332 := Tryz.func166.trans (congrArg some (by kernel_rfl))
  f343 := Tryz.func179.trans (congrArg some (by kernel_rfl))
  t0 := Tryz.underlying0
  a0 := Tryz.isAgg0
  z0 := Tryz.sizeOf0
  v0 := Tryz.zeroValue0
  t3 := Tryz.underlying3
  a3 := Tryz.isAgg3
  z3 := Tryz.sizeOf3
  v3 := Tryz.zeroValue3
  t4 := Tryz.underlying4
  a4 := Tryz.isAgg4
  z4 := Tryz.sizeOf4
  v4 := Tryz.zeroValue4
  t5 := Tryz.underlying5
  a5 := Tryz.isAgg5
  z5 := Tryz.sizeOf5
  v5 := Tryz.zeroValue5
  t9 := Tryz.underlying9
  a9 := Tryz.isAgg9
  z9 := Tryz.sizeOf9
  v9 := Tryz.zeroValue9
  t28 := Tryz.underlying106
  a28 := Tryz.isAgg106
  z28 := Tryz.sizeOf106
  v28 := Tryz.zeroValue106
  t46 := Tryz.underlying115
  a46 := Tryz.isAgg115
  z46 := Tryz.sizeOf115
  v46 := Tryz.zeroValue115
  t51 := Tryz.underlying154
  a51 := Tryz.isAgg154
  z51 := Tryz.sizeOf154
  v51 := Tryz.zeroValue154
  t53 := Tryz.underlying129
  a53 := Tryz.isAgg129
  z53 := Tryz.sizeOf129
  v53 := Tryz.zeroValue129
  t131 := Tryz.underlying89
  a131 := Tryz.isAgg89
  z131 := Tryz.sizeOf89
  v131 := Tryz.zeroValue89
  t182 := Tryz.underlying146
  a182 := Tryz.isAgg146
  z182 := Tryz.sizeOf146
  v182 := Tryz.zeroValue146
  t183 := Tryz.underlying147
  a183 := Tryz.isAgg147
  z183 := Tryz.sizeOf147
  v183 := Tryz.zeroValue147
  t218 := Tryz.underlying179
  a218 := Tryz.isAgg179
  z218 := Tryz.sizeOf179
  v218 := Tryz.zeroValue179
  t222 := Tryz.underlying183
  a222 := Tryz.isAgg183
  z222 := Tryz.sizeOf183
  v222 := Tryz.zeroValue183
  t228 := Tryz.underlying196
  a228 := Tryz.isAgg196
  z228 := Tryz.sizeOf196
  v228 := Tryz.zeroValue196
  t229 := Tryz.underlying39
  a229 := Tryz.isAgg39
  z229 := Tryz.sizeOf39
  v229 := Tryz.zeroValue39 }
open Go.Sort Go.RowKit in
theorem Tryz.slices_Sort_int (blk off cap : Nat) (zs : List Int) (w : World) (hH : Holds (Value.int .i64) w blk off zs.toArray) (hblk : blk < w.heap.size) (hsz : zs.length < 4611686018427387904) :
    Calls Tryz.prog 80 #[.slice (some ⟨blk, off, none⟩) zs.length cap] w fun e w' =>
      e = .returned (.tuple #[]) ∧ ∃ n os, w' = grow (putRow (Value.int .i64) (Sort.ahead w n) blk off (zs.mergeSort fun x y => decide (x ≤ y)).toArray) os := Any.slices_Sort_int Tryz.lays189 blk off cap zs w hH hblk hsz
def Tryz.laysNm220_ren : Go.Shelf.Ren := ⟨fun | 20 => 81 | n => n, fun | 22 => 106 | 3 => 3 | 4 => 4 | 0 => 0 | n => n, fun | n => n⟩
theorem Tryz.laysNm220 : Go.Proofs.Lays2.n20 Tryz.prog Tryz.laysNm220_ren := {
  mixed := by kernel_rfl
  f20 := Tryz.func81.trans (congrArg some (by kernel_rfl))
  t0 := Tryz.underlying0
  a0 := Tryz.isAgg0
  z0 := Tryz.sizeOf0
  v0 := Tryz.zeroValue0
  t3 := Tryz.underlying3
  a3 := Tryz.isAgg3
  z3 := Tryz.sizeOf3
  v3 := Tryz.zeroValue3
  t4 := Tryz.underlying4
  a4 := Tryz.isAgg4
  z4 := Tryz.sizeOf4
  v4 := Tryz.zeroValue4
  t22 := Tryz.underlying106
  a22 := Tryz.isAgg106
  z22 := Tryz.sizeOf106
  v22 := Tryz.zeroValue106
  i3 := by kernel_rfl }
open Go.RowKit Go.Lib Go.Sort in
/-- slices.Compact at []int: "Compact replaces consecutive runs of equal elements with a single copy. This is like the uniq command found on Unix. Compact modifies the contents of the slice s and returns the modified slice, which may have a smaller length. Compact zeroes the elements between the new length and the original length. The result preserves the nilness of s.": IT RETURNS THE SLICE CUT TO 'Lib.compact zs'; ITS CELLS HOLD 'Lib.compact zs', THEN ZERO VALUES up to the old length; all else is as it was, but for the count of draws. IN THE WORDS OF slices.Sort's CONTRACT ('Holds', 'putRow'): so the everyday 'slices.Sort(xs); xs = slices.Compact(xs)' goes from the one contract to the other. It asks 'zs.length ≤ cap' (every slice's: the reslicing 's[:k]' looks at it). Length 0, nil: '.._empty'. (LAID: no walk: one application.) -/
theorem Tryz.slices_Compact_int (blk off cap : Nat) (zs : List Int) (w : World) (hH : Holds (Value.int .i64) w blk off zs.toArray) (hsz : zs.length ≤ 9223372036854775807) (hcap : zs.length ≤ cap) :
    Calls Tryz.prog 81 #[.slice (some ⟨blk, off, none⟩) zs.length cap] w fun e w' => e = .returned (.slice (some ⟨blk, off, none⟩) (Lib.compact zs).length cap) ∧ ∃ q, w' = putRow (Value.int .i64) (Sort.ahead w q) blk off (Lib.compact zs ++ List.replicate (zs.length - (Lib.compact zs).length) 0).toArray := Any.slices_Compact_int Tryz.laysNm220 blk off cap zs w hH hsz hcap
open Go.RowKit Go.Lib Go.Sort in
/-- The same at a slice of length 0, a nil one too: it comes back as it is. (LAID: no walk: one application.) -/
theorem Tryz.slices_Compact_int_empty (a : Option Addr) (cap : Nat) (w : World) :
    Calls Tryz.prog 81 #[.slice a 0 cap] w fun e w' => e = .returned (.slice a 0 cap) ∧ w' = w := Any.slices_Compact_int_empty Tryz.laysNm220 a cap w
open Go.RowKit Go.Lib Go.Sort in
/-- slices.Compact at []int, of an argument: the slice cut to 'Lib.compact (elements)'; the n cells hold that, then zeros. (LAID: no walk: one application.) -/
theorem Tryz.slices_Compact_int_cells (b off n c : Nat) (zs : List Int) (w : World) (hz : n ≤ zs.length) (hbig : n ≤ 9223372036854775807) (hcap : n ≤ c) (hc : ∀ j, j < zs.length → w.cell? ⟨b, off + j, none⟩ = some (.int .i64 (zs.getD j 0))) (hf : ∀ j, j < n → w.frozen? ⟨b, off + j, none⟩ = false) :
    Calls Tryz.prog 81 #[.slice (some ⟨b, off, none⟩) n c] w fun e w' => e = .returned (.slice (some ⟨b, off, none⟩) (Lib.compact (zs.take n)).length c) ∧ ∃ q, w' = (w.drewN q).setCells b off ((Lib.compact (zs.take n) ++ List.replicate (n - (Lib.compact (zs.take n)).length) 0).map (Value.int .i64)) := Any.slices_Compact_int_cells Tryz.laysNm220 b off n c zs w hz hbig hcap hc hf
open Go.RowKit Go.Sort in
/-- .. and plain. (LAID: no walk: one application.) -/
theorem Tryz.slices_Sort_int_none (p : Option Addr) (cap : Nat) (w : World) :
    Calls Tryz.prog 80 #[.slice p 0 cap] w fun e w' => e = .returned (.tuple #[]) ∧ w' = w := Any.slices_Sort_int_none Tryz.lays189 p cap w
def Tryz.laysSlC25_f65_ren : Go.Shelf.Ren := ⟨fun | 5 => 65 | 7 => 88 | n => n, fun | 22 => 3 | 3 => 3 | 4 => 4 | n => n, fun | n => n⟩
theorem Tryz.laysSlC25_f65 : Go.Proofs.SlLaysC2.n5 Tryz.prog Tryz.laysSlC25_f65_ren := {
  mixed := by kernel_rfl
  f5 := ⟨Tryz.f65.name, by decide, Tryz.func65.trans (congrArg some (by kernel_rfl))⟩
  f7 := ⟨Tryz.f88.name, by decide, Tryz.func88.trans (congrArg some (by kernel_rfl))⟩
  t3 := Tryz.underlying3
  a3 := Tryz.isAgg3
  z3 := Tryz.sizeOf3
  v3 := Tryz.zeroValue3
  t4 := Tryz.underlying4
  a4 := Tryz.isAgg4
  z4 := Tryz.sizeOf4
  v4 := Tryz.zeroValue4
  t22 := Tryz.underlying3
  a22 := Tryz.isAgg3
  z22 := Tryz.sizeOf3
  v22 := Tryz.zeroValue3 }
open Go.Lib in
/-- cmp.Compare at an int under a name: "Compare returns -1 if x is less than y, 0 if x equals y, +1 if x is greater than y.": IT RETURNS 'Lib.compareInt x y'; the world is as it was. (LAID AT THE INSTANCE 'cmp.Compare[int]': no walk: one application.) -/
theorem Tryz.cmp_Compare_int (x y : Int) (w : World) :
    Calls Tryz.prog 65 #[.int .i64 x, .int .i64 y] w fun e w' => e = .returned (.int .i64 (Lib.compareInt x y)) ∧ w' = w := AnyG.cmp_Compare_int Tryz.laysSlC25_f65 x y w
end Go.Proofs
set_option maxRecDepth 100000
namespace Go.Abs
open Go Go.Proofs Go.RowKit Go.Shelf Go.Lib Go.Sort
set_option linter.unusedSimpArgs false
/-- An interval's two cells. -/
def valsIv (x : Iv) : List Value := [.int .i64 x.lo, .int .i64 x.hi]
set_option maxHeartbeats 1000000 in
theorem calls_less (x y : Iv) (W : World) : Calls Tryz.prog 64 #[.agg #[.int .i64 x.lo, .int .i64 x.hi], .agg #[.int .i64 y.lo, .int .i64 y.hi]] W fun e w' => e = .returned (.int .i64 (Lib.compareInt x.lo y.lo)) ∧ ∃ q os', w' = grow (W.drewN q) os' := by
  have hcon := fun W' => Tryz.cmp_Compare_int x.lo y.lo W'
  generalize Lib.compareInt x.lo y.lo = r at hcon ⊢
  go_enter Tryz.func64, Tryz.ntmps64
  go_wp2_with (go_at_call 65; refine (hcon _).mono ?_; rintro e w' ⟨rfl, rfl⟩)
  go_ret
  exact ⟨rfl, 0, _, by rw [alloc_eq_grow, alloc_eq_grow, grow_grow]; rfl⟩
theorem ltLo (x y : Iv) : ltOf (fun x y : Iv => Lib.compareInt x.lo y.lo) x y = decide (x.lo < y.lo) := by
  unfold ltOf Lib.compareInt
  by_cases h1 : x.lo < y.lo
  · simp [h1]
  · by_cases h2 : y.lo < x.lo <;> simp [h1, h2]
theorem swoLo : SWO (ltOf fun x y : Iv => Lib.compareInt x.lo y.lo) where
  irrefl x := by rw [ltLo]; simp
  trans x y z h1 h2 := by rw [ltLo] at *; simp at *; omega
  ntrans x y z h1 h2 := by rw [ltLo] at *; simp at *; omega
theorem rowIv (l : List Iv) : RowOf 2 (l.map encIv) (flatK valsIv 2 l.toArray) where
  size := by simp
  width x hx := by
    obtain ⟨y, _, rfl⟩ := List.mem_map.1 hx
    rfl
  cell i x hx j y hy := by
    rw [List.getElem?_map] at hx
    obtain ⟨z, hz, rfl⟩ := Option.map_eq_some_iff.1 hx
    obtain ⟨hi, rfl⟩ := List.getElem?_eq_some_iff.1 hz
    have hj : j < 2 := (List.getElem?_eq_some_iff.1 hy).1
    rw [get_flatK _ _ _ _ (by simp; omega)]
    rw [show (i * 2 + j) / 2 = i by omega, show (i * 2 + j) % 2 = j by omega]
    rw [getElem!_pos l.toArray i (by simpa using hi)]
    match j, hj with
    | 0, _ => simp [encIv, AV.cells] at hy; subst hy; rfl
    | 1, _ => simp [encIv, AV.cells] at hy; subst hy; rfl
theorem VR.fn0 {w : World} {I : Nat → Prop} {m : Nat → Option Nat} {n g : Nat} {v : Value} (h : VR w I m n v (.fn (.func g) [] [])) : v = .func (.func g) #[] #[] := by
  cases h with
  | pure h =>
    cases h with
    | fn f vs us xs ys hl h hl' h' =>
      obtain rfl : vs = #[] := Array.size_eq_zero_iff.1 (by simpa using hl)
      obtain rfl : us = #[] := Array.size_eq_zero_iff.1 (by simpa using hl')
      rfl
  | fn f vs us xs ys hl h hl' h' =>
    obtain rfl : vs = #[] := Array.size_eq_zero_iff.1 (by simpa using hl)
    obtain rfl : us = #[] := Array.size_eq_zero_iff.1 (by simpa using hl')
    rfl
theorem rest_fn (g : Nat) (w : World) (I : Nat → Prop) (m : Nat → Option Nat) (n : Nat) (vs : List Value) (hl : vs.length = [AV.fn (.func g) [] []].length) (h : ∀ (i : Nat) (v : Value) (x : AV), vs[i]? = some v → [AV.fn (.func g) [] []][i]? = some x → VR w I m n v x) : vs = [.func (.func g) #[] #[]] := by
  match vs, hl with
  | [v], _ =>
    have := h 0 v _ rfl rfl
    rw [VR.fn0 this]
def byLo (l : List Iv) : Prop := l.Pairwise (fun x y => x.lo ≤ y.lo)
theorem fc_SortFunc (H : List AObj) (p : Nat) (l : List Iv) (hp : H[p]? = some (.arr 59 2 (l.map encIv))) (hl : l.length ≤ 1000000) :
    FC Tryz.prog 86 [.sl p 2 0 l.length, .fn (.func 64) [] []] H
      (fun r H' => r = .tup [] ∧ ∃ l' : List Iv, l'.Perm l ∧ byLo l' ∧ H' = H.set p (.arr 59 2 (l'.map encIv))) := by
  refine (FC_row (xs := l.map encIv) (callable Tryz.func86 rfl rfl) (by simp) hp (rowIv l) [.func (.func 64) #[] #[]] (fun w I m vs a b => rest_fn _ w I m _ vs a b) (fun xs' => ∃ l' : List Iv, l'.Perm l ∧ byLo l' ∧ xs' = l'.map encIv) ?_ ?_).mono ?_
  · intro b cap w hH hb hc
    have eg : ∀ args w, (callFunc 64 args).run Tryz.prog w = .ok (.enter 64 args) w := enters_of Tryz.func64 (by kernel_rfl) rfl
    have := AnyQ.slices_SortFunc Tryz.sortIv 2 Tryz.isAgg59 Tryz.sizeOf59 valsIv (fun _ => rfl) (fun x v hv => by simp [valsIv] at hv; rcases hv with rfl | rfl <;> rfl) (fun x y => Lib.compareInt x.lo y.lo) swoLo 64 #[] b 0 cap l.toArray w eg (fun _ _ _ _ x y => calls_less x y _) hH hb (by simp; omega)
    change Calls Tryz.prog 86 _ _ _ at this
    rw [show (l.toArray).size = l.length by simp] at this
    refine Calls.mono (this) ?_
    rintro e w' ⟨rfl, d', n, os, h1, h2, rfl⟩
    obtain ⟨s1, _, s3⟩ := h1
    have hs : d'.toList.length = l.length := by simpa using s1
    refine ⟨rfl, d'.toList.map encIv, flatK valsIv 2 d', n, os, ⟨d'.toList, ?_, ?_, rfl⟩, by simp [hs], by simpa using rowIv d'.toList, rfl⟩
    · rw [show d'.extract 0 l.length = d' by simp [← hs], show l.toArray.extract 0 l.length = l.toArray by simp] at s3
      simpa using s3
    · refine List.pairwise_iff_getElem.2 fun i j hi hj hij => ?_
      have := h2 i j (Nat.zero_le _) hij (by omega)
      rw [ltLo, getElem!_pos d' i (by simpa using hi), getElem!_pos d' j (by simpa using hj)] at this
      simpa using this
  · rintro h
    have hl0 : l = [] := by simpa using h
    subst hl0
    exact ⟨⟨[], .refl _, .nil, rfl⟩, fun w => AnyF.slices_SortFunc_none Tryz.sortIv none 0 _ w⟩
  · rintro r H' ⟨rfl, xs', ⟨l', h1, h2, rfl⟩, rfl⟩
    exact ⟨rfl, l', h1, h2, rfl⟩
end Go.Abs
set_option maxRecDepth 100000
namespace Go.Abs
open Go Go.Proofs
set_option linter.unusedSimpArgs false
theorem fc_Collect (H : List AObj) (id : Nat) (l : List Iv) (hid : H[id]? = some (.vars [LIv l])) (hl : l.length ≤ 1000000) :
    FC Tryz.prog 85 [.fn (.func 87) [] [.vptr id 0]] H
      (fun r H' => ∃ p, r = .sl p 2 0 l.length ∧ H'[p]? = some (.arr 59 2 (l.map encIv)) ∧ H.length ≤ p ∧ ∀ i, i < H.length → H'[i]? = H[i]?) := by
  refine FC_body tOk Tryz.func85 rfl Tryz.results85 rfl (by simp [Tryz.ntmps85]) ?_
  rw [Tryz.ntmps85]
  simp only [argSlots]
  repeat (first
    | (refine AWP_seq (AWP_regS tOk rfl ?_); simp)
    | (refine AWP_regS tOk rfl ?_; simp)
    | (refine AWP_skip ?_; simp)
    | (refine AWP_exit ?_; simp)
    | (refine AWP_ret ?_; simp)
    | refine AWP_block ?_
    | refine AWP_seq ?_)
  refine AStep_FC rfl rfl (fc_AppendSeq H id l hid hl) rfl ?_
  rintro r H' ⟨p, rfl, h1, h2, h3⟩
  simp
  repeat (first
    | (refine AWP_seq (AWP_regS tOk rfl ?_); simp)
    | (refine AWP_regS tOk rfl ?_; simp)
    | (refine AWP_skip ?_; simp)
    | (refine AWP_exit ?_; simp)
    | (refine AWP_ret ?_; simp)
    | refine AWP_block ?_
    | refine AWP_seq ?_)
  exact ⟨h1, h2, h3⟩
theorem fc_SortedFunc (H : List AObj) (id : Nat) (l : List Iv) (hid : H[id]? = some (.vars [LIv l])) (hl : l.length ≤ 1000000) :
    FC Tryz.prog 62 [.fn (.func 87) [] [.vptr id 0], .fn (.func 64) [] []] H
      (fun r H' => ∃ p, ∃ l' : List Iv, l'.Perm l ∧ byLo l' ∧ r = .sl p 2 0 l'.length ∧ H'[p]? = some (.arr 59 2 (l'.map encIv)) ∧ H.length ≤ p ∧ ∀ i, i < H.length → H'[i]? = H[i]?) := by
  refine FC_body tOk Tryz.func62 rfl Tryz.results62 rfl (by simp [Tryz.ntmps62]) ?_
  rw [Tryz.ntmps62]
  simp only [argSlots]
  repeat (first
    | (refine AWP_seq (AWP_regS tOk rfl ?_); simp)
    | (refine AWP_regS tOk rfl ?_; simp)
    | (refine AWP_skip ?_; simp)
    | (refine AWP_exit ?_; simp)
    | (refine AWP_ret ?_; simp)
    | refine AWP_block ?_
    | refine AWP_seq ?_)
  refine AStep_FC rfl rfl (fc_Collect H id l hid hl) rfl ?_
  rintro r H' ⟨p, rfl, h1, h2, h3⟩
  simp
  repeat (first
    | (refine AWP_seq (AWP_regS tOk rfl ?_); simp)
    | (refine AWP_regS tOk rfl ?_; simp)
    | (refine AWP_skip ?_; simp)
    | (refine AWP_exit ?_; simp)
    | (refine AWP_ret ?_; simp)
    | refine AWP_block ?_
    | refine AWP_seq ?_)
  refine AStep_FC rfl rfl (fc_SortFunc H' p l h1 hl) rfl ?_
  rintro r H'' ⟨rfl, l', g1, g2, rfl⟩
  simp
  repeat (first
    | (refine AWP_seq (AWP_regS tOk rfl ?_); simp)
    | (refine AWP_regS tOk rfl ?_; simp)
    | (refine AWP_skip ?_; simp)
    | (refine AWP_exit ?_; simp)
    | (refine AWP_ret ?_; simp)
    | refine AWP_block ?_
    | refine AWP_seq ?_)
  exact ⟨p, l', g1, g2, ⟨rfl, g1.length_eq.symm⟩, get_self h1 _, h2, fun i hi => by rw [← h3 i hi]; exact List.getElem?_set_ne (by omega)⟩
end Go.Abs
set_option maxRecDepth 100000
namespace Go.Abs
open Go Go.Proofs
set_option linter.unusedSimpArgs false
def pushR : List Iv → Iv → List Iv
  | acc, x => match acc.getLast? with
    | some y => if x.lo ≤ y.hi + 1 then acc.dropLast ++ [⟨y.lo, if y.hi < x.hi then x.hi else y.hi⟩] else acc ++ [x]
    | none => [x]
def ivIn (x : Iv) : Prop := inB x.lo = true ∧ inB x.hi = true
def wideI (x : Iv) : Prop := -4398046511104 ≤ x.hi ∧ x.hi ≤ 4398046511104
theorem ivIn.wide {x : Iv} (h : ivIn x) : wideI x := by have := (inB_iff _).1 h.2; unfold wideI; omega
theorem fc_push (H : List AObj) (p : Nat) (acc : List Iv) (x : Iv) (hp : H[p]? = some (.arr 59 2 (acc.map encIv))) (hl : acc.length ≤ 1000000) (ha : ∀ y ∈ acc, wideI y) :
    FC Tryz.prog 66 [.sl p 2 0 acc.length, encIv x] H
      (fun r H' => ∃ q, r = .sl q 2 0 (pushR acc x).length ∧ H'[q]? = some (.arr 59 2 ((pushR acc x).map encIv)) ∧ (q = p ∨ H.length ≤ q) ∧ ∀ i, i ≠ p → i < H.length → H'[i]? = H[i]?) := by
  refine FC_body tOk Tryz.func66 rfl Tryz.results66 rfl (by simp [Tryz.ntmps66]) ?_
  rw [Tryz.ntmps66]
  simp only [argSlots]
  simp only [encIv]
  repeat (first
    | (refine AWP_seq (AWP_regS tOk rfl ?_); simp)
    | (refine AWP_regS tOk rfl ?_; simp)
    | (refine AWP_skip ?_; simp)
    | (refine AWP_exit ?_; simp)
    | (refine AWP_ret ?_; simp)
    | refine AWP_block ?_
    | refine AWP_seq ?_)
  rcases List.eq_nil_or_concat acc with rfl | ⟨ini, y, rfl⟩
  · refine AWP_drawT tOk mixed [] (.val 0 (.val 1 (.val 2 (.val 3 (.val 4 (.val 5 (.val 6 (.val 7 (.val 8 (.val 9 (.val 10 (.val 11 (.val 12 (.val 13 (.done))))))))))))))) rfl (by kernel_rfl) ?_
    simp
    refine AWP_cond rfl ?_
    simp
    repeat (first
      | (refine AWP_seq (AWP_regS tOk rfl ?_); simp)
      | (refine AWP_regS tOk rfl ?_; simp)
      | (refine AWP_skip ?_; simp)
      | (refine AWP_exit ?_; simp)
      | (refine AWP_ret ?_; simp)
      | refine AWP_block ?_
      | refine AWP_seq ?_)
    refine AStep_appendS tOk rfl rfl T22 rfl T59 rfl (by decide) (by decide) rfl rfl rfl ?_
    simp [get_app hp, set_app hp]
    refine ⟨by simp [appOk, get_app hp, set_app hp] <;> omega, ?_⟩
    repeat (first
      | (refine AWP_seq (AWP_regS tOk rfl ?_); simp)
      | (refine AWP_regS tOk rfl ?_; simp)
      | (refine AWP_skip ?_; simp)
      | (refine AWP_exit ?_; simp)
      | (refine AWP_ret ?_; simp)
      | refine AWP_block ?_
      | refine AWP_seq ?_)
    refine ⟨H.length + 2, ⟨rfl, rfl⟩, ?_, .inr (by omega), fun i hi1 hi2 => ?_⟩
    · rw [List.getElem?_append_right (by simp)]; simp [pushR]
    · rw [List.getElem?_append_left (by simpa using hi2), List.getElem?_set_ne (fun h => hi1 h.symm)]
  · have hy := ha y (by simp)
    have hy1 : -4398046511104 ≤ y.hi ∧ y.hi ≤ 4398046511104 := hy
    have hw : IntKind.i64.wrap (y.hi + 1) = y.hi + 1 := wrap_i64 _ (by omega) (by omega)
    rw [List.concat_eq_append] at hp hl ⊢
    have hlen : (ini ++ [y]).length = ini.length + 1 := by simp
    rw [hlen] at hl ⊢
    have hwn : IntKind.i64.wrap (ini.length : Int) = ini.length := wrap_i64 _ (by omega) (by omega)
    have hg : ((ini ++ [y]).map encIv)[ini.length]? = some (encIv y) := by simp
    have hlt : (ini.length : Int) < ini.length + 1 := by omega
    refine AWP_drawT tOk mixed [] (.val 0 (.val 1 (.val 2 (.val 3 (.val 4 (.val 5 (.val 6 (.val 7 (.val 8 (.val 9 (.val 10 (.val 11 (.val 12 (.val 13 (.done))))))))))))))) rfl (by kernel_rfl) ?_
    simp [get_app hp, hwn, hg, hw, hlt]
    refine AWP_cond2 rfl (fun h1 => ?_) (fun h1 => ?_)
    · repeat (first
        | (refine AWP_seq (AWP_regS tOk rfl ?_); simp)
        | (refine AWP_regS tOk rfl ?_; simp)
        | (refine AWP_skip ?_; simp)
        | (refine AWP_exit ?_; simp)
        | (refine AWP_ret ?_; simp)
        | refine AWP_block ?_
        | refine AWP_seq ?_)
      refine AWP_drawT tOk mixed [14] (.val 0 (.val 1 (.val 2 (.val 3 (.val 4 (.val 5 (.val 6 (.val 7 (.val 8 (.val 9 (.val 10 (.val 11 (.val 12 (.val 13 (.one 14 (.done)))))))))))))))) rfl (by kernel_rfl) ?_
      simp [get_app hp, hwn, hg, hw, hlt, set_app hp]
      repeat (first
        | (refine AWP_seq (AWP_regS tOk rfl ?_); simp)
        | (refine AWP_regS tOk rfl ?_; simp)
        | (refine AWP_skip ?_; simp)
        | (refine AWP_exit ?_; simp)
        | (refine AWP_ret ?_; simp)
        | refine AWP_block ?_
        | refine AWP_seq ?_)
      have hR : pushR (ini ++ [y]) x = ini ++ [⟨y.lo, if y.hi < x.hi then x.hi else y.hi⟩] := by
        have : x.lo ≤ y.hi + 1 := by simpa using h1
        simp [pushR, this]
      rw [hR]
      refine ⟨p, ⟨rfl, by simp⟩, get_app (get_self hp _) _ |>.trans (by simp [encIv]), .inl rfl, fun i hi1 hi2 => ?_⟩
      rw [List.getElem?_append_left (by simpa using hi2), List.getElem?_set_ne (fun h => hi1 h.symm)]
    · repeat (first
        | (refine AWP_seq (AWP_regS tOk rfl ?_); simp)
        | (refine AWP_regS tOk rfl ?_; simp)
        | (refine AWP_skip ?_; simp)
        | (refine AWP_exit ?_; simp)
        | (refine AWP_ret ?_; simp)
        | refine AWP_block ?_
        | refine AWP_seq ?_)
      refine AStep_appendS tOk rfl rfl T22 rfl T59 rfl (by decide) (by decide) rfl rfl rfl ?_
      simp [get_app hp, set_app hp]
      refine ⟨by simp [appOk, get_app hp, set_app hp] <;> omega, ?_⟩
      repeat (first
        | (refine AWP_seq (AWP_regS tOk rfl ?_); simp)
        | (refine AWP_regS tOk rfl ?_; simp)
        | (refine AWP_skip ?_; simp)
        | (refine AWP_exit ?_; simp)
        | (refine AWP_ret ?_; simp)
        | refine AWP_block ?_
        | refine AWP_seq ?_)
      have hR : pushR (ini ++ [y]) x = ini ++ [y] ++ [x] := by
        have : ¬ (x.lo ≤ y.hi + 1) := by simpa using h1
        simp [pushR, this]
      rw [hR]
      refine ⟨H.length + 2, ⟨rfl, by simp⟩, ?_, .inr (by omega), fun i hi1 hi2 => ?_⟩
      · rw [List.getElem?_append_right (by simp)]; simp
      · rw [List.getElem?_append_left (by simpa using hi2), List.getElem?_set_ne (fun h => hi1 h.symm)]
end Go.Abs
set_option maxRecDepth 100000
namespace Go.Abs
open Go Go.Proofs
set_option linter.unusedSimpArgs false
def badR : List Iv → Int
  | [] => 0
  | x :: r => if (oneR x != 0) = true then oneR x else badR r
def pushes (acc l : List Iv) : List Iv := l.foldl pushR acc
def makeE (l : List Iv) : Int := if decide ((256 : Int) < l.length) = true then 5 else badR l
/-- What Make hands back. -/
def MakeQ (l : List Iv) (r : AV) : Prop := (makeE l ≠ 0 ∧ r = .tup [.list [], .i (makeE l)]) ∨ (makeE l = 0 ∧ l.length ≤ 256 ∧ badR l = 0 ∧ ∃ l' : List Iv, l'.Perm l ∧ byLo l' ∧ r = .tup [LIv (pushes [] l'), .i 0])
theorem bad_in : ∀ (l : List Iv), badR l = 0 → ∀ y ∈ l, oneR y = 0
  | [], _, y, hy => by simp at hy
  | x :: r, h, y, hy => by
    rw [badR] at h
    by_cases hx : (oneR x != 0) = true
    · rw [if_pos hx] at h; simp [h] at hx
    · rw [if_neg hx] at h
      rcases List.mem_cons.1 hy with rfl | hy
      · simpa using hx
      · exact bad_in r h y hy
theorem one_in {x : Iv} (h : oneR x = 0) : ivIn x ∧ x.lo ≤ x.hi := by
  unfold oneR at h
  by_cases h1 : (!inB x.lo || !inB x.hi) = true
  · rw [if_pos h1] at h; cases h
  · rw [if_neg h1] at h
    by_cases h2 : decide (x.hi < x.lo) = true
    · rw [if_pos h2] at h; cases h
    · exact ⟨by simpa [ivIn] using h1, by simpa using h2⟩
theorem push_in {acc : List Iv} {x : Iv} (ha : ∀ y ∈ acc, ivIn y) (hx : ivIn x) : ∀ y ∈ pushR acc x, ivIn y := by
  rcases List.eq_nil_or_concat acc with rfl | ⟨ini, z, rfl⟩
  · simpa [pushR] using hx
  · have hz := ha z (by simp)
    have hi : ∀ y ∈ ini, ivIn y := fun y hy => ha y (by simp [hy])
    intro y hy
    simp only [pushR, List.concat_eq_append, List.getLast?_append, List.getLast?_singleton, Option.some_or, List.dropLast_concat] at hy
    split at hy
    · rcases List.mem_append.1 hy with h | h
      · exact hi y h
      · simp at h; subst h
        refine ⟨hz.1, ?_⟩
        simp only
        split
        · exact hx.2
        · exact hz.2
    · rcases List.mem_append.1 hy with h | h
      · rcases List.mem_append.1 h with h | h
        · exact hi y h
        · simp at h; subst h; exact hz
      · simp at h; subst h; exact hx
theorem push_len (acc : List Iv) (x : Iv) : (pushR acc x).length ≤ acc.length + 1 := by
  rcases List.eq_nil_or_concat acc with rfl | ⟨ini, z, rfl⟩
  · simp [pushR]
  · simp only [pushR, List.concat_eq_append, List.getLast?_append, List.getLast?_singleton, Option.some_or, List.dropLast_concat]
    split <;> simp
theorem pushes_snoc (acc l : List Iv) (x : Iv) : pushes acc (l ++ [x]) = pushR (pushes acc l) x := by simp [pushes]
theorem pushes_len : ∀ (l acc : List Iv), (pushes acc l).length ≤ acc.length + l.length
  | [], acc => by simp [pushes]
  | x :: r, acc => by
    have := pushes_len r (pushR acc x)
    have := push_len acc x
    simp only [pushes, List.foldl_cons, List.length_cons] at *
    omega
theorem pushes_in : ∀ (l acc : List Iv), (∀ y ∈ acc, ivIn y) → (∀ y ∈ l, ivIn y) → ∀ y ∈ pushes acc l, ivIn y
  | [], acc, h, _ => by simpa [pushes] using h
  | x :: r, acc, h, hl => pushes_in r (pushR acc x) (push_in h (hl x (by simp))) (fun y hy => hl y (by simp [hy]))
attribute [local irreducible] oneR
set_option maxHeartbeats 2000000 in
theorem pc_Make (l : List Iv) : PC Tryz.prog 34 [LIv l] (MakeQ l) := by
  refine PC_body tOk Tryz.func34 rfl Tryz.results34 rfl (by simp [Tryz.ntmps34]) ?_
  rw [Tryz.ntmps34]
  simp only [argSlots]
  refine AWP_len 0 rfl (fun hlen => ?_)
  rw [List.length_map] at hlen
  repeat (first
    | (refine AWP_seq (AWP_regS tOk rfl ?_); simp)
    | (refine AWP_regS tOk rfl ?_; simp)
    | (refine AWP_skip ?_; simp)
    | (refine AWP_exit ?_; simp)
    | (refine AWP_ret ?_; simp)
    | refine AWP_block ?_
    | refine AWP_seq ?_)
  refine AWP_cond2 rfl (fun h => ?_) (fun h => ?_)
  · repeat (first
      | (refine AWP_seq (AWP_regS tOk rfl ?_); simp)
      | (refine AWP_regS tOk rfl ?_; simp)
      | (refine AWP_skip ?_; simp)
      | (refine AWP_exit ?_; simp)
      | (refine AWP_ret ?_; simp)
      | refine AWP_block ?_
      | refine AWP_seq ?_)
    have hE : makeE l = 5 := by rw [makeE, if_pos h]
    exact .inl ⟨by rw [hE]; decide, by rw [hE]⟩
  have hE : makeE l = badR l := by rw [makeE, if_neg (by simpa using h)]
  have hl6 : l.length ≤ 256 := by simp at h; omega
  repeat (first
    | (refine AWP_seq (AWP_regS tOk rfl ?_); simp)
    | (refine AWP_regS tOk rfl ?_; simp)
    | (refine AWP_skip ?_; simp)
    | (refine AWP_exit ?_; simp)
    | (refine AWP_ret ?_; simp)
    | refine AWP_block ?_
    | refine AWP_seq ?_)
  refine AWP_countI l.length (fun j => badR l = badR (l.drop j)) (fun j => [(0, LIv l), (2, .nils), (13, LIv l), (14, .i l.length), (15, .i j)]) (fun _ => []) rfl (by simp) (by simp) (by simp) (by simp) (by simp) ?_
  intro j hj hI ih
  repeat (first
    | (refine AWP_seq (AWP_regS tOk rfl ?_); simp)
    | (refine AWP_regS tOk rfl ?_; simp)
    | (refine AWP_skip ?_; simp)
    | (refine AWP_exit ?_; simp)
    | (refine AWP_ret ?_; simp)
    | refine AWP_block ?_
    | refine AWP_seq ?_)
  refine AWP_cond2 rfl (fun hlt => ?_) (fun hge => ?_)
  · have hlt' : j < l.length := by simpa using hlt
    have hw : IntKind.i64.wrap ((j : Int) + 1) = j + 1 := wrap_i64 _ (by omega) (by omega)
    rw [drop_get hlt', badR] at hI
    repeat (first
      | (refine AWP_seq (AWP_regS tOk rfl ?_); simp [hlt'])
      | (refine AWP_regS tOk rfl ?_; simp [hlt'])
      | (refine AWP_skip ?_; simp [hlt'])
      | (refine AWP_exit ?_; simp [hlt'])
      | (refine AWP_ret ?_; simp [hlt'])
      | refine AWP_block ?_
      | refine AWP_seq ?_)
    refine AStep_PC rfl rfl (by simp) (pc_formed l[j]) rfl ?_
    rintro _ rfl
    simp
    repeat (first
      | (refine AWP_seq (AWP_regS tOk rfl ?_); simp)
      | (refine AWP_regS tOk rfl ?_; simp)
      | (refine AWP_skip ?_; simp)
      | (refine AWP_exit ?_; simp)
      | (refine AWP_ret ?_; simp)
      | refine AWP_block ?_
      | refine AWP_seq ?_)
    refine AWP_cond2 rfl (fun h2 => ?_) (fun h2 => ?_)
    · repeat (first
        | (refine AWP_seq (AWP_regS tOk rfl ?_); simp)
        | (refine AWP_regS tOk rfl ?_; simp)
        | (refine AWP_skip ?_; simp)
        | (refine AWP_exit ?_; simp)
        | (refine AWP_ret ?_; simp)
        | refine AWP_block ?_
        | refine AWP_seq ?_)
      rw [if_pos h2] at hI
      exact .inl ⟨by rw [hE, hI]; simpa using h2, by rw [hE, hI]⟩
    rw [if_neg (by simp [h2])] at hI
    repeat (first
      | (refine AWP_seq (AWP_regS tOk rfl ?_); simp [hw])
      | (refine AWP_regS tOk rfl ?_; simp [hw])
      | (refine AWP_skip ?_; simp [hw])
      | (refine AWP_exit ?_; simp [hw])
      | (refine AWP_ret ?_; simp [hw])
      | refine AWP_block ?_
      | refine AWP_seq ?_)
    refine ALoop_end _ (ih hlt' hI) rfl (by simp) ?_ (by simp) (by simp)
    simp
  have hge' : j = l.length := by simp at hge; omega
  subst hge'
  have hb : badR l = 0 := by rw [hI, List.drop_length]; rfl
  repeat (first
    | (refine AWP_seq (AWP_regS tOk rfl ?_); simp)
    | (refine AWP_regS tOk rfl ?_; simp)
    | (refine AWP_skip ?_; simp)
    | (refine AWP_exit ?_; simp)
    | (refine AWP_ret ?_; simp)
    | refine AWP_block ?_
    | refine AWP_seq ?_)
  refine AStep_FC rfl rfl (fc_Values [] l) rfl ?_
  rintro r H' ⟨rfl, rfl⟩
  simp
  refine AStep_FC rfl rfl (fc_SortedFunc [.vars [LIv l]] 0 l rfl (by omega)) rfl ?_
  rintro r H' ⟨p, l', h1, h2, rfl, h3, h4, h5⟩
  simp
  repeat (first
    | (refine AWP_seq (AWP_regS tOk rfl ?_); simp)
    | (refine AWP_regS tOk rfl ?_; simp)
    | (refine AWP_skip ?_; simp)
    | (refine AWP_exit ?_; simp)
    | (refine AWP_ret ?_; simp)
    | refine AWP_block ?_
    | refine AWP_seq ?_)
  have hl' : l'.length ≤ 256 := by rw [h1.length_eq]; exact hl6
  have hin : ∀ y ∈ l', ivIn y := fun y hy => (one_in (bad_in l hb y (h1.mem_iff.1 hy))).1
  refine AWP_keep (sl' := [(2, .nils), (7, .nils), (27, .sl p 2 0 l'.length), (28, .i l'.length), (29, .i 0)]) ?_ (by simp)
  refine AWP_freeze p h3 ?_
  simp
  refine AWP_drop (H := []) _ ?_ (by simp) (by simp) (by simp)
  refine AWP_nilSlot 7 59 2 rfl ?_
  simp
  refine AWP_loop (ALoop_keep (sl' := [(2, .nils), (7, .sl 0 2 0 0), (27, LIv l'), (28, .i l'.length), (29, .i 0)]) ?_ (by simp; rw [List.take_of_length_le (by simp)]))
  refine ALoop_wf (F := fun (u : Nat × Nat × List AObj) => ⟨[(2, .nils), (7, .sl u.2.1 2 0 (pushes [] (l'.take u.1)).length), (27, LIv l'), (28, .i l'.length), (29, .i u.1)], u.2.2⟩)
    (fun u => u.1 ≤ l'.length ∧ u.2.2[u.2.1]? = some (.arr 59 2 ((pushes [] (l'.take u.1)).map encIv))) (fun u => l'.length - u.1) ?_ (0, 0, [.arr 59 2 []]) ⟨by simp, rfl⟩
  rintro ⟨j, q, H2⟩ ⟨hj, g1⟩ ih
  simp only at hj g1 ih ⊢
  repeat (first
    | (refine AWP_seq (AWP_regS tOk rfl ?_); simp)
    | (refine AWP_regS tOk rfl ?_; simp)
    | (refine AWP_skip ?_; simp)
    | (refine AWP_exit ?_; simp)
    | (refine AWP_ret ?_; simp)
    | refine AWP_block ?_
    | refine AWP_seq ?_)
  refine AWP_cond2 rfl (fun hlt => ?_) (fun hge => ?_)
  · have hlt' : j < l'.length := by simpa using hlt
    have hw : IntKind.i64.wrap ((j : Int) + 1) = j + 1 := wrap_i64 _ (by omega) (by omega)
    have hpl : (pushes [] (l'.take j)).length ≤ 256 := Nat.le_trans (pushes_len _ _) (by simp; omega)
    repeat (first
      | (refine AWP_seq (AWP_regS tOk rfl ?_); simp [hlt'])
      | (refine AWP_regS tOk rfl ?_; simp [hlt'])
      | (refine AWP_skip ?_; simp [hlt'])
      | (refine AWP_exit ?_; simp [hlt'])
      | (refine AWP_ret ?_; simp [hlt'])
      | refine AWP_block ?_
      | refine AWP_seq ?_)
    refine AStep_FC rfl rfl (fc_push _ q (pushes [] (l'.take j)) l'[j] (get_app g1 _) (by omega) (fun y hy => (pushes_in _ _ (by simp) (fun y hy => hin y (List.mem_of_mem_take hy)) y hy).wide)) rfl ?_
    rintro r H4 ⟨q', rfl, k1, k2, k3⟩
    simp
    repeat (first
      | (refine AWP_seq (AWP_regS tOk rfl ?_); simp [hw])
      | (refine AWP_regS tOk rfl ?_; simp [hw])
      | (refine AWP_skip ?_; simp [hw])
      | (refine AWP_exit ?_; simp [hw])
      | (refine AWP_ret ?_; simp [hw])
      | refine AWP_block ?_
      | refine AWP_seq ?_)
    refine ALoop_keep (sl' := [(2, .nils), (7, .sl q' 2 0 (pushes [] (l'.take (j + 1))).length), (27, LIv l'), (28, .i l'.length), (29, .i (j + 1 : Nat))]) ?_ ?_
    · exact ih (j + 1, q', _) ⟨by simp; omega, by rw [List.take_succ_eq_append_getElem hlt', pushes_snoc]; exact k1⟩ (by simp; omega)
    · rw [List.take_succ_eq_append_getElem hlt', pushes_snoc]; simp
  · have hge' : j = l'.length := by simp at hge; omega
    subst hge'
    rw [List.take_length] at g1
    repeat (first
      | (refine AWP_seq (AWP_regS tOk rfl ?_); simp [g1])
      | (refine AWP_regS tOk rfl ?_; simp [g1])
      | (refine AWP_skip ?_; simp [g1])
      | (refine AWP_exit ?_; simp [g1])
      | (refine AWP_ret ?_; simp [g1])
      | refine AWP_block ?_
      | refine AWP_seq ?_)
    exact .inr ⟨by rw [hE, hb], hl6, hb, l', h1, h2, by rw [List.take_of_length_le (by simp)]⟩
end Go.Abs
set_option maxRecDepth 100000
namespace Go.Abs
open Go Go.Proofs
set_option linter.unusedSimpArgs false
def gtAt (s : List Iv) (j : Nat) (x : Iv) : Bool := match s[j]? with | some y => decide (x.lo < y.lo) | none => false
def insPos (s : List Iv) (x : Iv) : Nat → Nat
  | 0 => 0
  | j + 1 => if gtAt s j x = true then insPos s x j else j + 1
def insR (s : List Iv) (x : Iv) : List Iv := s.take (insPos s x s.length) ++ x :: s.drop (insPos s x s.length)
def isortR (l : List Iv) : List Iv := l.foldl insR []
theorem insPos_le (s : List Iv) (x : Iv) : ∀ j, insPos s x j ≤ j
  | 0 => Nat.le_refl _
  | j + 1 => by
    rw [insPos]
    split
    · exact Nat.le_succ_of_le (insPos_le s x j)
    · exact Nat.le_refl _
theorem insR_len (s : List Iv) (x : Iv) : (insR s x).length = s.length + 1 := by
  have := insPos_le s x s.length
  simp [insR]; omega
theorem isort_snoc (l : List Iv) (x : Iv) : isortR (l ++ [x]) = insR (isortR l) x := by simp [isortR]
theorem isort_len0 : ∀ (l acc : List Iv), (l.foldl insR acc).length = acc.length + l.length
  | [], acc => by simp
  | x :: r, acc => by rw [List.foldl_cons, isort_len0 r, insR_len, List.length_cons]; omega
theorem isort_len (l : List Iv) : (isortR l).length = l.length := by rw [isortR, isort_len0]; simp
set_option maxHeartbeats 2000000 in
theorem pc_sorted (l : List Iv) (hl : l.length ≤ 1000) : PC Tryz.prog 67 [LIv l] (fun r => r = LIv (isortR l)) := by
  refine PC_body tOk Tryz.func67 rfl Tryz.results67 rfl (by simp [Tryz.ntmps67]) ?_
  rw [Tryz.ntmps67]
  simp only [argSlots]
  repeat (first
    | (refine AWP_seq (AWP_regS tOk rfl ?_); simp)
    | (refine AWP_regS tOk rfl ?_; simp)
    | (refine AWP_skip ?_; simp)
    | (refine AWP_exit ?_; simp)
    | (refine AWP_ret ?_; simp)
    | refine AWP_block ?_
    | refine AWP_seq ?_)
  refine AWP_nilList 3 rfl ?_
  simp
  refine AWP_countI l.length (fun _ => True) (fun j => [(0, LIv l), (3, LIv (isortR (l.take j))), (4, .i j)]) (fun _ => []) rfl (by simp) (by simp [isortR]) (by simp) (by simp) trivial ?_
  intro j hj _ ih
  obtain ⟨s, hs⟩ : ∃ s, isortR (l.take j) = s := ⟨_, rfl⟩
  have hsl : s.length = j := by rw [← hs, isort_len, List.length_take]; omega
  rw [hs]
  repeat (first
    | (refine AWP_seq (AWP_regS tOk rfl ?_); simp)
    | (refine AWP_regS tOk rfl ?_; simp)
    | (refine AWP_skip ?_; simp)
    | (refine AWP_exit ?_; simp)
    | (refine AWP_ret ?_; simp)
    | refine AWP_block ?_
    | refine AWP_seq ?_)
  refine AWP_cond2 rfl (fun hlt => ?_) (fun hge => ?_)
  · have hlt' : j < l.length := by simpa using hlt
    have hw : IntKind.i64.wrap ((j : Int) + 1) = j + 1 := wrap_i64 _ (by omega) (by omega)
    have hnx : isortR (l.take (j + 1)) = insR s l[j] := by rw [List.take_succ_eq_append_getElem hlt', isort_snoc, hs]
    repeat (first
      | (refine AWP_seq (AWP_regS tOk rfl ?_); simp)
      | (refine AWP_regS tOk rfl ?_; simp)
      | (refine AWP_skip ?_; simp)
      | (refine AWP_exit ?_; simp)
      | (refine AWP_ret ?_; simp)
      | refine AWP_block ?_
      | refine AWP_seq ?_)
    obtain ⟨q, hq⟩ : ∃ q, insPos s l[j] s.length = q := ⟨_, rfl⟩
    refine AWP_loop (ALoop_keep (sl' := [(0, LIv l), (3, LIv s), (4, .i j), (5, .i s.length)]) ?_ (by simp))
    refine ALoop_wf (F := fun (u : Nat) => ⟨[(0, LIv l), (3, LIv s), (4, .i j), (5, .i u)], []⟩) (fun u => u ≤ s.length ∧ insPos s l[j] u = q) (fun u => u) ?_ s.length ⟨Nat.le_refl _, hq⟩
    rintro u ⟨hu, hI⟩ ih2
    repeat (first
      | (refine AWP_seq (AWP_regS tOk rfl ?_); simp)
      | (refine AWP_regS tOk rfl ?_; simp)
      | (refine AWP_skip ?_; simp)
      | (refine AWP_exit ?_; simp)
      | (refine AWP_ret ?_; simp)
      | refine AWP_block ?_
      | refine AWP_seq ?_)
    rcases u with _ | u
    · have hwm : IntKind.i64.wrap (-1) = -1 := by decide
      refine AWP_drawT tOk mixed [] (.val 0 (.val 1 (.val 2 (.val 3 (.val 4 (.val 5 (.val 6 (.val 7 (.val 8 (.val 9 (.val 10 (.val 11 (.val 12 (.val 13 (.val 14 (.val 15 (.done))))))))))))))))) rfl (by kernel_rfl) ?_
      simp [hwm, hlt']
      refine AWP_cond rfl ?_
      repeat (first
        | (refine AWP_seq (AWP_regS tOk rfl ?_); simp)
        | (refine AWP_regS tOk rfl ?_; simp)
        | (refine AWP_skip ?_; simp)
        | (refine AWP_exit ?_; simp)
        | (refine AWP_ret ?_; simp)
        | refine AWP_block ?_
        | refine AWP_seq ?_)
      have hq0 : q = 0 := hI.symm
      subst hq0
      refine AStep_appendS tOk rfl rfl T22 rfl T59 rfl (by decide) (by decide) rfl rfl rfl ?_
      simp [hlt']
      refine ⟨by simp [appOk, hlt'] <;> omega, ?_⟩
      repeat (first
        | (refine AWP_seq (AWP_regS tOk rfl ?_); simp [hlt', hlt'])
        | (refine AWP_regS tOk rfl ?_; simp [hlt', hlt'])
        | (refine AWP_skip ?_; simp [hlt', hlt'])
        | (refine AWP_exit ?_; simp [hlt', hlt'])
        | (refine AWP_ret ?_; simp [hlt', hlt'])
        | refine AWP_block ?_
        | refine AWP_seq ?_)
      refine AStep_appendS tOk rfl rfl T22 rfl T59 rfl (by decide) (by decide) rfl rfl rfl ?_
      simp [hlt']
      refine ⟨by simp [appOk, hlt'] <;> omega, ?_⟩
      repeat (first
        | (refine AWP_seq (AWP_regS tOk rfl ?_); simp [hlt', hlt'])
        | (refine AWP_regS tOk rfl ?_; simp [hlt', hlt'])
        | (refine AWP_skip ?_; simp [hlt', hlt'])
        | (refine AWP_exit ?_; simp [hlt', hlt'])
        | (refine AWP_ret ?_; simp [hlt', hlt'])
        | refine AWP_block ?_
        | refine AWP_seq ?_)
      refine AStep_appendS tOk rfl rfl T22 rfl T59 rfl (by decide) (by decide) rfl rfl rfl ?_
      simp [hlt']
      refine ⟨by simp [appOk, hlt'] <;> omega, ?_⟩
      repeat (first
        | (refine AWP_seq (AWP_regS tOk rfl ?_); simp [hlt', hw])
        | (refine AWP_regS tOk rfl ?_; simp [hlt', hw])
        | (refine AWP_skip ?_; simp [hlt', hw])
        | (refine AWP_exit ?_; simp [hlt', hw])
        | (refine AWP_ret ?_; simp [hlt', hw])
        | refine AWP_block ?_
        | refine AWP_seq ?_)
      refine ALoop_freeze 4 rfl ?_
      simp [hlt']
      refine ALoop_end _ (ih hlt' trivial) rfl (by simp) ?_ (by simp) (by simp)
      rw [hnx]
      simp
      rw [List.take_of_length_le (by simp; omega)]
      rw [if_pos (by omega)]
      subst_vars
      simp [insR, *]
    · have hu' : u < s.length := by omega
      have hwu : IntKind.i64.wrap (u : Int) = u := wrap_i64 _ (by omega) (by omega)
      have hu2 : (u : Int) < s.length := by omega
      have hgt : gtAt s u l[j] = decide (l[j].lo < s[u].lo) := by simp [gtAt, hu']
      rw [insPos, hgt] at hI
      refine AWP_drawT tOk mixed [] (.val 0 (.val 1 (.val 2 (.val 3 (.val 4 (.val 5 (.val 6 (.val 7 (.val 8 (.val 9 (.val 10 (.val 11 (.val 12 (.val 13 (.val 14 (.val 15 (.done))))))))))))))))) rfl (by kernel_rfl) ?_
      simp [hu', hlt', hwu, hu2]
      refine AWP_cond2 rfl (fun h1 => ?_) (fun h1 => ?_)
      · rw [if_pos h1] at hI
        repeat (first
          | (refine AWP_seq (AWP_regS tOk rfl ?_); simp [hwu])
          | (refine AWP_regS tOk rfl ?_; simp [hwu])
          | (refine AWP_skip ?_; simp [hwu])
          | (refine AWP_exit ?_; simp [hwu])
          | (refine AWP_ret ?_; simp [hwu])
          | refine AWP_block ?_
          | refine AWP_seq ?_)
        exact ALoop_keep (sl' := [(0, LIv l), (3, LIv s), (4, .i j), (5, .i u)]) (ih2 u ⟨by omega, hI⟩ (by omega)) (by simp)
      · rw [if_neg (by simpa using h1)] at hI
        have hu3 : (u : Int) + 1 ≤ s.length := by omega
        have hu4 : (0 : Int) ≤ (u : Int) + 1 := by omega
        repeat (first
          | (refine AWP_seq (AWP_regS tOk rfl ?_); simp [hu3, hu4])
          | (refine AWP_regS tOk rfl ?_; simp [hu3, hu4])
          | (refine AWP_skip ?_; simp [hu3, hu4])
          | (refine AWP_exit ?_; simp [hu3, hu4])
          | (refine AWP_ret ?_; simp [hu3, hu4])
          | refine AWP_block ?_
          | refine AWP_seq ?_)
        refine AStep_appendS tOk rfl rfl T22 rfl T59 rfl (by decide) (by decide) rfl rfl rfl ?_
        simp [hu3, hu4, -List.map_take, ← List.map_take, -List.map_drop, ← List.map_drop]
        refine ⟨by simp [appOk, hu3, hu4, -List.map_take, ← List.map_take, -List.map_drop, ← List.map_drop] <;> omega, ?_⟩
        repeat (first
          | (refine AWP_seq (AWP_regS tOk rfl ?_); simp [hlt', hu3, hu4, -List.map_take, ← List.map_take, -List.map_drop, ← List.map_drop])
          | (refine AWP_regS tOk rfl ?_; simp [hlt', hu3, hu4, -List.map_take, ← List.map_take, -List.map_drop, ← List.map_drop])
          | (refine AWP_skip ?_; simp [hlt', hu3, hu4, -List.map_take, ← List.map_take, -List.map_drop, ← List.map_drop])
          | (refine AWP_exit ?_; simp [hlt', hu3, hu4, -List.map_take, ← List.map_take, -List.map_drop, ← List.map_drop])
          | (refine AWP_ret ?_; simp [hlt', hu3, hu4, -List.map_take, ← List.map_take, -List.map_drop, ← List.map_drop])
          | refine AWP_block ?_
          | refine AWP_seq ?_)
        refine AStep_appendS tOk rfl rfl T22 rfl T59 rfl (by decide) (by decide) rfl rfl rfl ?_
        simp [hu3, hu4, -List.map_take, ← List.map_take, -List.map_drop, ← List.map_drop]
        refine ⟨by simp [appOk, hu3, hu4, -List.map_take, ← List.map_take, -List.map_drop, ← List.map_drop] <;> omega, ?_⟩
        repeat (first
          | (refine AWP_seq (AWP_regS tOk rfl ?_); simp [hlt', hu3, hu4, -List.map_take, ← List.map_take, -List.map_drop, ← List.map_drop])
          | (refine AWP_regS tOk rfl ?_; simp [hlt', hu3, hu4, -List.map_take, ← List.map_take, -List.map_drop, ← List.map_drop])
          | (refine AWP_skip ?_; simp [hlt', hu3, hu4, -List.map_take, ← List.map_take, -List.map_drop, ← List.map_drop])
          | (refine AWP_exit ?_; simp [hlt', hu3, hu4, -List.map_take, ← List.map_take, -List.map_drop, ← List.map_drop])
          | (refine AWP_ret ?_; simp [hlt', hu3, hu4, -List.map_take, ← List.map_take, -List.map_drop, ← List.map_drop])
          | refine AWP_block ?_
          | refine AWP_seq ?_)
        refine AStep_appendS tOk rfl rfl T22 rfl T59 rfl (by decide) (by decide) rfl rfl rfl ?_
        simp [hu3, hu4, -List.map_take, ← List.map_take, -List.map_drop, ← List.map_drop]
        refine ⟨by simp [appOk, hu3, hu4, -List.map_take, ← List.map_take, -List.map_drop, ← List.map_drop] <;> omega, ?_⟩
        repeat (first
          | (refine AWP_seq (AWP_regS tOk rfl ?_); simp [hu3, hu4, -List.map_take, ← List.map_take, -List.map_drop, ← List.map_drop, hw])
          | (refine AWP_regS tOk rfl ?_; simp [hu3, hu4, -List.map_take, ← List.map_take, -List.map_drop, ← List.map_drop, hw])
          | (refine AWP_skip ?_; simp [hu3, hu4, -List.map_take, ← List.map_take, -List.map_drop, ← List.map_drop, hw])
          | (refine AWP_exit ?_; simp [hu3, hu4, -List.map_take, ← List.map_take, -List.map_drop, ← List.map_drop, hw])
          | (refine AWP_ret ?_; simp [hu3, hu4, -List.map_take, ← List.map_take, -List.map_drop, ← List.map_drop, hw])
          | refine AWP_block ?_
          | refine AWP_seq ?_)
        refine ALoop_freeze 4 rfl ?_
        simp [hu3, hu4, -List.map_take, ← List.map_take, -List.map_drop, ← List.map_drop]
        refine ALoop_end _ (ih hlt' trivial) rfl (by simp) ?_ (by simp) (by simp)
        rw [hnx]
        simp
        rw [List.take_of_length_le (by simp; omega)]
        rw [if_pos (by omega)]
        subst_vars
        simp [insR, *]
  · have hge' : j = l.length := by simp at hge; omega
    subst hge'
    repeat (first
      | (refine AWP_seq (AWP_regS tOk rfl ?_); simp)
      | (refine AWP_regS tOk rfl ?_; simp)
      | (refine AWP_skip ?_; simp)
      | (refine AWP_exit ?_; simp)
      | (refine AWP_ret ?_; simp)
      | refine AWP_block ?_
      | refine AWP_seq ?_)
    rw [← hs, List.take_length]
end Go.Abs
set_option maxRecDepth 100000
namespace Go.Abs
open Go Go.Proofs
set_option linter.unusedSimpArgs false
def normR (l : List Iv) : List Iv := pushes [] (isortR l)
theorem pushR_concat (ini : List Iv) (y x : Iv) : pushR (ini ++ [y]) x = if x.lo ≤ y.hi + 1 then ini ++ [⟨y.lo, if y.hi < x.hi then x.hi else y.hi⟩] else ini ++ [y] ++ [x] := by
  simp [pushR]
theorem insR_mem (s : List Iv) (x y : Iv) : y ∈ insR s x ↔ y = x ∨ y ∈ s := by
  have : (s.take (insPos s x s.length) ++ s.drop (insPos s x s.length)) = s := List.take_append_drop _ _
  rw [insR, List.mem_append, List.mem_cons]
  conv => rhs; rw [← this, List.mem_append]
  constructor <;> rintro (h | h | h) <;> simp [h]
theorem isort_mem0 : ∀ (l acc : List Iv) (y : Iv), y ∈ l.foldl insR acc ↔ y ∈ acc ∨ y ∈ l
  | [], acc, y => by simp
  | x :: r, acc, y => by
    rw [List.foldl_cons, isort_mem0 r, insR_mem, List.mem_cons]
    constructor
    · rintro ((h | h) | h) <;> simp [h]
    · rintro (h | h | h) <;> simp [h]
theorem isort_mem (l : List Iv) (y : Iv) : y ∈ isortR l ↔ y ∈ l := by rw [isortR, isort_mem0]; simp
attribute [local irreducible] isortR
set_option maxHeartbeats 2000000 in
theorem pc_Normal (l : List Iv) (hl : l.length ≤ 1000) (hin : ∀ y ∈ l, ivIn y) : PC Tryz.prog 39 [LIv l] (fun r => r = LIv (normR l)) := by
  refine PC_body tOk Tryz.func39 rfl Tryz.results39 rfl (by simp [Tryz.ntmps39]) ?_
  rw [Tryz.ntmps39]
  simp only [argSlots]
  repeat (first
    | (refine AWP_seq (AWP_regS tOk rfl ?_); simp)
    | (refine AWP_regS tOk rfl ?_; simp)
    | (refine AWP_skip ?_; simp)
    | (refine AWP_exit ?_; simp)
    | (refine AWP_ret ?_; simp)
    | refine AWP_block ?_
    | refine AWP_seq ?_)
  refine AStep_PC rfl rfl (by simp) (pc_sorted l hl) rfl ?_
  rintro _ rfl
  simp
  repeat (first
    | (refine AWP_seq (AWP_regS tOk rfl ?_); simp)
    | (refine AWP_regS tOk rfl ?_; simp)
    | (refine AWP_skip ?_; simp)
    | (refine AWP_exit ?_; simp)
    | (refine AWP_ret ?_; simp)
    | refine AWP_block ?_
    | refine AWP_seq ?_)
  have hl' : (isortR l).length ≤ 1000 := by rw [isort_len]; exact hl
  have hin' : ∀ y ∈ isortR l, ivIn y := fun y hy => hin y ((isort_mem l y).1 hy)
  unfold normR
  generalize isortR l = s at hl' hin' ⊢
  refine AWP_nilSlot 4 59 2 rfl ?_
  simp
  refine AWP_loop (ALoop_keep (sl' := [(3, LIv s), (4, .sl 0 2 0 0), (5, .i 0)]) ?_ (by simp))
  refine ALoop_wf (F := fun (u : Nat × Nat × List AObj) => ⟨[(3, LIv s), (4, .sl u.2.1 2 0 (pushes [] (s.take u.1)).length), (5, .i u.1)], u.2.2⟩)
    (fun u => u.1 ≤ s.length ∧ u.2.2[u.2.1]? = some (.arr 59 2 ((pushes [] (s.take u.1)).map encIv))) (fun u => s.length - u.1) ?_ (0, 0, [.arr 59 2 []]) ⟨by simp, rfl⟩
  rintro ⟨j, q, H2⟩ ⟨hj, g1⟩ ih
  simp only at hj g1 ih ⊢
  repeat (first
    | (refine AWP_seq (AWP_regS tOk rfl ?_); simp)
    | (refine AWP_regS tOk rfl ?_; simp)
    | (refine AWP_skip ?_; simp)
    | (refine AWP_exit ?_; simp)
    | (refine AWP_ret ?_; simp)
    | refine AWP_block ?_
    | refine AWP_seq ?_)
  refine AWP_cond2 rfl (fun hlt => ?_) (fun hge => ?_)
  · have hlt' : j < s.length := by simpa using hlt
    have hw : IntKind.i64.wrap ((j : Int) + 1) = j + 1 := wrap_i64 _ (by omega) (by omega)
    have hpl : (pushes [] (s.take j)).length ≤ 1000 := Nat.le_trans (pushes_len _ _) (by simp; omega)
    have hpi : ∀ y ∈ pushes [] (s.take j), ivIn y := pushes_in _ _ (by simp) (fun y hy => hin' y (List.mem_of_mem_take hy))
    have hnx : pushes [] (s.take (j + 1)) = pushR (pushes [] (s.take j)) s[j] := by rw [List.take_succ_eq_append_getElem hlt', pushes_snoc]
    have ih' : ∀ (q' : Nat) (H' : List AObj), H'[q']? = some (.arr 59 2 ((pushR (pushes [] (s.take j)) s[j]).map encIv)) → _ := fun q' H' h => ih (j + 1, q', H') ⟨by simp; omega, by rw [hnx]; exact h⟩ (by simp; omega)
    clear ih
    simp only [hnx] at ih'
    generalize pushes [] (s.take j) = acc at g1 hpl hpi ih' ⊢
    repeat (first
      | (refine AWP_seq (AWP_regS tOk rfl ?_); simp)
      | (refine AWP_regS tOk rfl ?_; simp)
      | (refine AWP_skip ?_; simp)
      | (refine AWP_exit ?_; simp)
      | (refine AWP_ret ?_; simp)
      | refine AWP_block ?_
      | refine AWP_seq ?_)
    rcases List.eq_nil_or_concat acc with rfl | ⟨ini, y, rfl⟩
    · have hwm : IntKind.i64.wrap (-1) = -1 := by decide
      repeat (first
        | (refine AWP_seq (AWP_regS tOk rfl ?_); simp [hwm])
        | (refine AWP_regS tOk rfl ?_; simp [hwm])
        | (refine AWP_skip ?_; simp [hwm])
        | (refine AWP_exit ?_; simp [hwm])
        | (refine AWP_ret ?_; simp [hwm])
        | refine AWP_block ?_
        | refine AWP_seq ?_)
      refine AWP_drawT tOk mixed [] (.val 0 (.val 1 (.val 2 (.val 3 (.val 4 (.val 5 (.val 6 (.val 7 (.val 8 (.val 9 (.val 10 (.val 11 (.val 12 (.val 13 (.val 14 (.val 15 (.done))))))))))))))))) rfl (by kernel_rfl) ?_
      simp [hwm, hlt', g1]
      refine AWP_cond rfl ?_
      simp
      repeat (first
        | (refine AWP_seq (AWP_regS tOk rfl ?_); simp [hlt', g1])
        | (refine AWP_regS tOk rfl ?_; simp [hlt', g1])
        | (refine AWP_skip ?_; simp [hlt', g1])
        | (refine AWP_exit ?_; simp [hlt', g1])
        | (refine AWP_ret ?_; simp [hlt', g1])
        | refine AWP_block ?_
        | refine AWP_seq ?_)
      refine AStep_appendS tOk rfl rfl T22 rfl T59 rfl (by decide) (by decide) rfl rfl rfl ?_
      simp [get_app g1, set_app g1]
      refine ⟨by simp [appOk, get_app g1, set_app g1] <;> omega, ?_⟩
      repeat (first
        | (refine AWP_seq (AWP_regS tOk rfl ?_); simp [hw])
        | (refine AWP_regS tOk rfl ?_; simp [hw])
        | (refine AWP_skip ?_; simp [hw])
        | (refine AWP_exit ?_; simp [hw])
        | (refine AWP_ret ?_; simp [hw])
        | refine AWP_block ?_
        | refine AWP_seq ?_)
      exact ALoop_keep (sl' := [(3, LIv s), (4, .sl (H2.length + 1) 2 0 1), (5, .i (j + 1 : Nat))]) (ih' (H2.length + 1) _ (by rw [List.getElem?_append_right (by simp)]; simp [pushR])) (by simp)
    · have hy := hpi y (by simp)
      have hy1 := (inB_iff _).1 hy.2
      have hw2 : IntKind.i64.wrap (y.hi + 1) = y.hi + 1 := wrap_i64 _ (by omega) (by omega)
      rw [List.concat_eq_append] at g1 hpl hpi ih' ⊢
      have hlen : (ini ++ [y]).length = ini.length + 1 := by simp
      rw [hlen] at hpl ⊢
      have hwn : IntKind.i64.wrap (ini.length : Int) = ini.length := wrap_i64 _ (by omega) (by omega)
      have hg : ((ini ++ [y]).map encIv)[ini.length]? = some (encIv y) := by simp
      have hlt2 : (ini.length : Int) < ini.length + 1 := by omega
      repeat (first
        | (refine AWP_seq (AWP_regS tOk rfl ?_); simp [hwn])
        | (refine AWP_regS tOk rfl ?_; simp [hwn])
        | (refine AWP_skip ?_; simp [hwn])
        | (refine AWP_exit ?_; simp [hwn])
        | (refine AWP_ret ?_; simp [hwn])
        | refine AWP_block ?_
        | refine AWP_seq ?_)
      have hneg : ¬ ((ini.length : Int) < 0) := by omega
      refine AWP_drawT tOk mixed [] (.val 0 (.val 1 (.val 2 (.val 3 (.val 4 (.val 5 (.val 6 (.val 7 (.val 8 (.val 9 (.val 10 (.val 11 (.val 12 (.val 13 (.val 14 (.val 15 (.done))))))))))))))))) rfl (by kernel_rfl) ?_
      simp [hlt', g1, hwn, hg, hw2, hlt2, hneg]
      rw [pushR_concat] at ih'
      refine AWP_cond2 rfl (fun h1 => ?_) (fun h1 => ?_)
      · have h1' : ¬ (s[j].lo ≤ y.hi + 1) := by simp at h1; omega
        rw [if_neg h1'] at ih'
        repeat (first
          | (refine AWP_seq (AWP_regS tOk rfl ?_); simp [hlt', g1])
          | (refine AWP_regS tOk rfl ?_; simp [hlt', g1])
          | (refine AWP_skip ?_; simp [hlt', g1])
          | (refine AWP_exit ?_; simp [hlt', g1])
          | (refine AWP_ret ?_; simp [hlt', g1])
          | refine AWP_block ?_
          | refine AWP_seq ?_)
        refine AStep_appendS tOk rfl rfl T22 rfl T59 rfl (by decide) (by decide) rfl rfl rfl ?_
        simp [get_app g1, set_app g1]
        refine ⟨by simp [appOk, get_app g1, set_app g1] <;> omega, ?_⟩
        repeat (first
          | (refine AWP_seq (AWP_regS tOk rfl ?_); simp [hw])
          | (refine AWP_regS tOk rfl ?_; simp [hw])
          | (refine AWP_skip ?_; simp [hw])
          | (refine AWP_exit ?_; simp [hw])
          | (refine AWP_ret ?_; simp [hw])
          | refine AWP_block ?_
          | refine AWP_seq ?_)
        exact ALoop_keep (sl' := [(3, LIv s), (4, .sl (H2.length + 1) 2 0 (ini.length + 1 + 1)), (5, .i (j + 1 : Nat))]) (by
          have := ih' (H2.length + 1) (H2.set q .dead ++ [.arr 59 2 [encIv s[j]], .arr 59 2 ((ini ++ [y] ++ [s[j]]).map encIv)]) (by rw [List.getElem?_append_right (by simp)]; simp)
          simpa using this) (by simp)
      · have h1' : s[j].lo ≤ y.hi + 1 := by simp at h1; omega
        rw [if_pos h1'] at ih'
        repeat (first
          | (refine AWP_seq (AWP_regS tOk rfl ?_); simp)
          | (refine AWP_regS tOk rfl ?_; simp)
          | (refine AWP_skip ?_; simp)
          | (refine AWP_exit ?_; simp)
          | (refine AWP_ret ?_; simp)
          | refine AWP_block ?_
          | refine AWP_seq ?_)
        refine AWP_drawT tOk mixed [] (.val 0 (.val 1 (.val 2 (.val 3 (.val 4 (.val 5 (.val 6 (.val 7 (.val 8 (.val 9 (.val 10 (.done)))))))))))) rfl (by kernel_rfl) ?_
        simp [hlt', g1, hwn, hg, hw2, hlt2, hneg]
        refine AWP_cond2 rfl (fun h2 => ?_) (fun h2 => ?_)
        · have h2' : y.hi < s[j].hi := by simpa using h2
          rw [if_pos h2'] at ih'
          repeat (first
            | (refine AWP_seq (AWP_regS tOk rfl ?_); simp [hlt', g1, hg, hwn, hlt2, hw])
            | (refine AWP_regS tOk rfl ?_; simp [hlt', g1, hg, hwn, hlt2, hw])
            | (refine AWP_skip ?_; simp [hlt', g1, hg, hwn, hlt2, hw])
            | (refine AWP_exit ?_; simp [hlt', g1, hg, hwn, hlt2, hw])
            | (refine AWP_ret ?_; simp [hlt', g1, hg, hwn, hlt2, hw])
            | refine AWP_block ?_
            | refine AWP_seq ?_)
          exact ALoop_keep (sl' := [(3, LIv s), (4, .sl q 2 0 (ini.length + 1)), (5, .i (j + 1 : Nat))]) (by
            have := ih' q (H2.set q (.arr 59 2 ((ini ++ [(⟨y.lo, s[j].hi⟩ : Iv)]).map encIv))) (get_self g1 _)
            simpa using this) (by simp)
        · have h2' : ¬ (y.hi < s[j].hi) := by simpa using h2
          rw [if_neg h2'] at ih'
          repeat (first
            | (refine AWP_seq (AWP_regS tOk rfl ?_); simp [hw])
            | (refine AWP_regS tOk rfl ?_; simp [hw])
            | (refine AWP_skip ?_; simp [hw])
            | (refine AWP_exit ?_; simp [hw])
            | (refine AWP_ret ?_; simp [hw])
            | refine AWP_block ?_
            | refine AWP_seq ?_)
          exact ALoop_keep (sl' := [(3, LIv s), (4, .sl q 2 0 (ini.length + 1)), (5, .i (j + 1 : Nat))]) (by
            have := ih' q H2 g1
            simpa using this) (by simp)
  · have hge' : j = s.length := by simp at hge; omega
    subst hge'
    rw [List.take_length] at g1
    repeat (first
      | (refine AWP_seq (AWP_regS tOk rfl ?_); simp [g1])
      | (refine AWP_regS tOk rfl ?_; simp [g1])
      | (refine AWP_skip ?_; simp [g1])
      | (refine AWP_exit ?_; simp [g1])
      | (refine AWP_ret ?_; simp [g1])
      | refine AWP_block ?_
      | refine AWP_seq ?_)
    rw [List.take_of_length_le (by simp)]
end Go.Abs
set_option maxRecDepth 100000
namespace Go.Abs
open Go Go.Proofs
set_option linter.unusedSimpArgs false
attribute [local irreducible] normR
def rMakeR (l : List Iv) : AV := if makeE l = 0 then .tup [LIv (normR l), .i 0] else .tup [.list [], .i (makeE l)]
attribute [local irreducible] oneR
theorem eqA_iv (a b c d : Int) : eqA T 9 59 (.agg [.int .i64 a, .int .i64 b]) (.agg [.int .i64 c, .int .i64 d]) = some (a == c && b == d) := by
  simp [eqA, eqFieldsA, outOf, TI.agg]
theorem pc_Same (a b : List Iv) : PC Tryz.prog 17 [LIv a, LIv b] (fun r => r = .bool (decide (a = b))) := by
  refine PC_body tOk Tryz.func17 rfl Tryz.results17 rfl (by simp [Tryz.ntmps17]) ?_
  rw [Tryz.ntmps17]
  simp only [argSlots]
  refine AWP_len 0 rfl (fun hlen => ?_)
  rw [List.length_map] at hlen
  repeat (first
    | (refine AWP_seq (AWP_regS tOk rfl ?_); simp)
    | (refine AWP_regS tOk rfl ?_; simp)
    | (refine AWP_skip ?_; simp)
    | (refine AWP_exit ?_; simp)
    | (refine AWP_ret ?_; simp)
    | refine AWP_block ?_
    | refine AWP_seq ?_)
  refine AWP_cond2 rfl (fun h => ?_) (fun h => ?_)
  · repeat (first
      | (refine AWP_seq (AWP_regS tOk rfl ?_); simp)
      | (refine AWP_regS tOk rfl ?_; simp)
      | (refine AWP_skip ?_; simp)
      | (refine AWP_exit ?_; simp)
      | (refine AWP_ret ?_; simp)
      | refine AWP_block ?_
      | refine AWP_seq ?_)
    have : a ≠ b := fun e => by subst e; simp at h
    simp [this]
  have hab : a.length = b.length := by simp at h; omega
  repeat (first
    | (refine AWP_seq (AWP_regS tOk rfl ?_); simp)
    | (refine AWP_regS tOk rfl ?_; simp)
    | (refine AWP_skip ?_; simp)
    | (refine AWP_exit ?_; simp)
    | (refine AWP_ret ?_; simp)
    | refine AWP_block ?_
    | refine AWP_seq ?_)
  refine AWP_countI a.length (fun j => decide (a = b) = decide (a.drop j = b.drop j)) (fun j => [(0, LIv a), (1, LIv b), (5, .i j)]) (fun _ => []) rfl (by simp) (by simp) (by simp) (by simp) (by simp) ?_
  intro j hj hI ih
  repeat (first
    | (refine AWP_seq (AWP_regS tOk rfl ?_); simp)
    | (refine AWP_regS tOk rfl ?_; simp)
    | (refine AWP_skip ?_; simp)
    | (refine AWP_exit ?_; simp)
    | (refine AWP_ret ?_; simp)
    | refine AWP_block ?_
    | refine AWP_seq ?_)
  refine AWP_cond2 rfl (fun hlt => ?_) (fun hge => ?_)
  · have hlt' : j < a.length := by simpa using hlt
    have hlt2 : j < b.length := by omega
    have hlt3 : (j : Int) < b.length := by omega
    have hw : IntKind.i64.wrap ((j : Int) + 1) = j + 1 := wrap_i64 _ (by omega) (by omega)
    rw [drop_get hlt', drop_get hlt2] at hI
    repeat (first
      | (refine AWP_seq (AWP_regS tOk rfl ?_); simp)
      | (refine AWP_regS tOk rfl ?_; simp)
      | (refine AWP_skip ?_; simp)
      | (refine AWP_exit ?_; simp)
      | (refine AWP_ret ?_; simp)
      | refine AWP_block ?_
      | refine AWP_seq ?_)
    refine AWP_drawT tOk mixed [] (.val 0 (.val 1 (.val 2 (.val 3 (.val 4 (.val 5 (.val 6 (.val 7 (.val 8 (.done)))))))))) rfl (by kernel_rfl) ?_
    simp [hlt', hlt2, hlt3, eqA_iv]
    refine AWP_cond2 rfl (fun h2 => ?_) (fun h2 => ?_)
    · repeat (first
        | (refine AWP_seq (AWP_regS tOk rfl ?_); simp)
        | (refine AWP_regS tOk rfl ?_; simp)
        | (refine AWP_skip ?_; simp)
        | (refine AWP_exit ?_; simp)
        | (refine AWP_ret ?_; simp)
        | refine AWP_block ?_
        | refine AWP_seq ?_)
      have : a ≠ b := fun e => by subst e; simp at h2
      simp [this]
    · repeat (first
        | (refine AWP_seq (AWP_regS tOk rfl ?_); simp [hw])
        | (refine AWP_regS tOk rfl ?_; simp [hw])
        | (refine AWP_skip ?_; simp [hw])
        | (refine AWP_exit ?_; simp [hw])
        | (refine AWP_ret ?_; simp [hw])
        | refine AWP_block ?_
        | refine AWP_seq ?_)
      have he : a[j] = b[j] := by
        cases hx : a[j]; cases hy : b[j]; rw [hx, hy] at h2; simpa using h2
      refine ALoop_end _ (ih hlt' ?_) rfl (by simp) ?_ (by simp) (by simp)
      · rw [hI, he]; simp only [List.cons.injEq, true_and]
      · simp
  · have hge' : j = a.length := by simp at hge; omega
    subst hge'
    rw [List.drop_length, List.drop_of_length_le (by omega)] at hI
    repeat (first
      | (refine AWP_seq (AWP_regS tOk rfl ?_); simp)
      | (refine AWP_regS tOk rfl ?_; simp)
      | (refine AWP_skip ?_; simp)
      | (refine AWP_exit ?_; simp)
      | (refine AWP_ret ?_; simp)
      | refine AWP_block ?_
      | refine AWP_seq ?_)
    simpa using hI
theorem pc_Few (l : List Iv) : PC Tryz.prog 50 [LIv l] (fun r => r = .bool (decide ((l.length : Int) ≤ 12))) := by
  refine PC_body tOk Tryz.func50 rfl Tryz.results50 rfl (by simp [Tryz.ntmps50]) ?_
  rw [Tryz.ntmps50]
  simp only [argSlots]
  repeat (first
    | (refine AWP_seq (AWP_regS tOk rfl ?_); simp)
    | (refine AWP_regS tOk rfl ?_; simp)
    | (refine AWP_skip ?_; simp)
    | (refine AWP_exit ?_; simp)
    | (refine AWP_ret ?_; simp)
    | refine AWP_block ?_
    | refine AWP_seq ?_)
end Go.Abs
set_option maxRecDepth 100000
namespace Go.Abs
open Go Go.Proofs
set_option linter.unusedSimpArgs false
attribute [simp] T57
@[simp] def encL (l : List Iv) : AV := .list (l.map encIv)
def fitR1 (l : List Iv) : Bool := !((decide ((12 : Int) < l.length) && decide ((l.length : Int) ≤ 254)) || decide ((258 : Int) < l.length))
def fitR (ls : List (List Iv)) : Bool := ls.all fitR1
def goodR1 (l : List Iv) : Bool := decide ((l.length : Int) ≤ 12) && decide (ckR l = 0)
def goodR (ls : List (List Iv)) : Bool := ls.all goodR1
theorem all_drop {α : Type} {p : α → Bool} {l : List α} {j : Nat} (h : j < l.length) : (l.drop j).all p = (p l[j] && (l.drop (j + 1)).all p) := by rw [drop_get h, List.all_cons]
set_option maxHeartbeats 1000000 in
theorem pc_fit (ls : List (List Iv)) : PC Tryz.prog 7 [.list (ls.map encL)] (fun r => r = .bool (fitR ls)) := by
  refine PC_body tOk Tryz.func7 rfl Tryz.results7 rfl (by simp [Tryz.ntmps7]) ?_
  rw [Tryz.ntmps7]
  simp only [argSlots]
  refine AWP_len 0 rfl (fun hlen => ?_)
  rw [List.length_map] at hlen
  repeat (first
    | (refine AWP_seq (AWP_regS tOk rfl ?_); simp)
    | (refine AWP_regS tOk rfl ?_; simp)
    | (refine AWP_skip ?_; simp)
    | (refine AWP_exit ?_; simp)
    | (refine AWP_ret ?_; simp)
    | refine AWP_block ?_
    | refine AWP_seq ?_)
  refine AWP_countI ls.length (fun j => fitR ls = (ls.drop j).all fitR1) (fun j => [(0, .list (ls.map encL)), (5, .list (ls.map encL)), (6, .i ls.length), (7, .i j)]) (fun _ => []) rfl (by simp) (by simp) (by simp) (by simp) rfl ?_
  intro j hj hI ih
  repeat (first
    | (refine AWP_seq (AWP_regS tOk rfl ?_); simp)
    | (refine AWP_regS tOk rfl ?_; simp)
    | (refine AWP_skip ?_; simp)
    | (refine AWP_exit ?_; simp)
    | (refine AWP_ret ?_; simp)
    | refine AWP_block ?_
    | refine AWP_seq ?_)
  refine AWP_cond2 rfl (fun hlt => ?_) (fun hge => ?_)
  · have hlt' : j < ls.length := by simpa using hlt
    have hw : IntKind.i64.wrap ((j : Int) + 1) = j + 1 := wrap_i64 _ (by omega) (by omega)
    rw [all_drop hlt'] at hI
    repeat (first
      | (refine AWP_seq (AWP_regS tOk rfl ?_); simp [hlt'])
      | (refine AWP_regS tOk rfl ?_; simp [hlt'])
      | (refine AWP_skip ?_; simp [hlt'])
      | (refine AWP_exit ?_; simp [hlt'])
      | (refine AWP_ret ?_; simp [hlt'])
      | refine AWP_block ?_
      | refine AWP_seq ?_)
    refine AWP_cond2 rfl (fun h2 => ?_) (fun h2 => ?_)
    · repeat (first
        | (refine AWP_seq (AWP_regS tOk rfl ?_); simp)
        | (refine AWP_regS tOk rfl ?_; simp)
        | (refine AWP_skip ?_; simp)
        | (refine AWP_exit ?_; simp)
        | (refine AWP_ret ?_; simp)
        | refine AWP_block ?_
        | refine AWP_seq ?_)
      rw [hI, show fitR1 ls[j] = false by rw [fitR1, h2]; rfl]; rfl
    · repeat (first
        | (refine AWP_seq (AWP_regS tOk rfl ?_); simp [hw])
        | (refine AWP_regS tOk rfl ?_; simp [hw])
        | (refine AWP_skip ?_; simp [hw])
        | (refine AWP_exit ?_; simp [hw])
        | (refine AWP_ret ?_; simp [hw])
        | refine AWP_block ?_
        | refine AWP_seq ?_)
      refine ALoop_end _ (ih hlt' ?_) rfl (by simp) ?_ (by simp) (by simp)
      · rw [hI, show fitR1 ls[j] = true by rw [fitR1, h2]; rfl]; rfl
      · simp
  · have hge' : j = ls.length := by simp at hge; omega
    subst hge'
    repeat (first
      | (refine AWP_seq (AWP_regS tOk rfl ?_); simp)
      | (refine AWP_regS tOk rfl ?_; simp)
      | (refine AWP_skip ?_; simp)
      | (refine AWP_exit ?_; simp)
      | (refine AWP_ret ?_; simp)
      | refine AWP_block ?_
      | refine AWP_seq ?_)
    rw [hI, List.drop_length]; rfl
attribute [local irreducible] ckR
set_option maxHeartbeats 1000000 in
theorem pc_good (ls : List (List Iv)) : PC Tryz.prog 26 [.list (ls.map encL)] (fun r => r = .bool (goodR ls)) := by
  refine PC_body tOk Tryz.func26 rfl Tryz.results26 rfl (by simp [Tryz.ntmps26]) ?_
  rw [Tryz.ntmps26]
  simp only [argSlots]
  refine AWP_len 0 rfl (fun hlen => ?_)
  rw [List.length_map] at hlen
  repeat (first
    | (refine AWP_seq (AWP_regS tOk rfl ?_); simp)
    | (refine AWP_regS tOk rfl ?_; simp)
    | (refine AWP_skip ?_; simp)
    | (refine AWP_exit ?_; simp)
    | (refine AWP_ret ?_; simp)
    | refine AWP_block ?_
    | refine AWP_seq ?_)
  refine AWP_countI ls.length (fun j => goodR ls = (ls.drop j).all goodR1) (fun j => [(0, .list (ls.map encL)), (5, .list (ls.map encL)), (6, .i ls.length), (7, .i j)]) (fun _ => []) rfl (by simp) (by simp) (by simp) (by simp) rfl ?_
  intro j hj hI ih
  repeat (first
    | (refine AWP_seq (AWP_regS tOk rfl ?_); simp)
    | (refine AWP_regS tOk rfl ?_; simp)
    | (refine AWP_skip ?_; simp)
    | (refine AWP_exit ?_; simp)
    | (refine AWP_ret ?_; simp)
    | refine AWP_block ?_
    | refine AWP_seq ?_)
  refine AWP_cond2 rfl (fun hlt => ?_) (fun hge => ?_)
  · have hlt' : j < ls.length := by simpa using hlt
    have hw : IntKind.i64.wrap ((j : Int) + 1) = j + 1 := wrap_i64 _ (by omega) (by omega)
    rw [all_drop hlt'] at hI
    repeat (first
      | (refine AWP_seq (AWP_regS tOk rfl ?_); simp [hlt'])
      | (refine AWP_regS tOk rfl ?_; simp [hlt'])
      | (refine AWP_skip ?_; simp [hlt'])
      | (refine AWP_exit ?_; simp [hlt'])
      | (refine AWP_ret ?_; simp [hlt'])
      | refine AWP_block ?_
      | refine AWP_seq ?_)
    cases hf : decide ((ls[j].length : Int) ≤ 12) with
    | false =>
      refine AStep_PC rfl rfl (by simp) (pc_Few ls[j]) rfl ?_
      rintro _ rfl
      simp [hf]
      refine AStep_skip rfl rfl ?_
      simp
      refine AWP_cond rfl ?_
      simp
      repeat (first
        | (refine AWP_seq (AWP_regS tOk rfl ?_); simp)
        | (refine AWP_regS tOk rfl ?_; simp)
        | (refine AWP_skip ?_; simp)
        | (refine AWP_exit ?_; simp)
        | (refine AWP_ret ?_; simp)
        | refine AWP_block ?_
        | refine AWP_seq ?_)
      rw [hI, goodR1, hf]; rfl
    | true =>
      refine AStep_PC rfl rfl (by simp) (pc_Few ls[j]) rfl ?_
      rintro _ rfl
      simp [hf]
      refine AStep_PC rfl rfl (by simp) (pc_rCheck ls[j]) rfl ?_
      rintro _ rfl
      simp
      refine AWP_cond2 rfl (fun h2 => ?_) (fun h2 => ?_)
      · repeat (first
          | (refine AWP_seq (AWP_regS tOk rfl ?_); simp)
          | (refine AWP_regS tOk rfl ?_; simp)
          | (refine AWP_skip ?_; simp)
          | (refine AWP_exit ?_; simp)
          | (refine AWP_ret ?_; simp)
          | refine AWP_block ?_
          | refine AWP_seq ?_)
        have : goodR1 ls[j] = false := by rw [goodR1, hf]; simpa using h2
        rw [hI, this]; rfl
      · repeat (first
          | (refine AWP_seq (AWP_regS tOk rfl ?_); simp [hw])
          | (refine AWP_regS tOk rfl ?_; simp [hw])
          | (refine AWP_skip ?_; simp [hw])
          | (refine AWP_exit ?_; simp [hw])
          | (refine AWP_ret ?_; simp [hw])
          | refine AWP_block ?_
          | refine AWP_seq ?_)
        have : goodR1 ls[j] = true := by rw [goodR1, hf]; simpa using h2
        refine ALoop_end _ (ih hlt' ?_) rfl (by simp) ?_ (by simp) (by simp)
        · rw [hI, this]; rfl
        · simp
  · have hge' : j = ls.length := by simp at hge; omega
    subst hge'
    repeat (first
      | (refine AWP_seq (AWP_regS tOk rfl ?_); simp)
      | (refine AWP_regS tOk rfl ?_; simp)
      | (refine AWP_skip ?_; simp)
      | (refine AWP_exit ?_; simp)
      | (refine AWP_ret ?_; simp)
      | refine AWP_block ?_
      | refine AWP_seq ?_)
    rw [hI, List.drop_length]; rfl
end Go.Abs
set_option maxRecDepth 100000
namespace Go.Abs
open Go Go.Proofs
set_option linter.unusedSimpArgs false
/-- Lists in order. -/
structure CanonL (l : List Iv) : Prop where
  len : l.length ≤ 256
  one : ∀ y ∈ l, oneR y = 0
  gap : ∀ j, ∀ h : j + 1 < l.length, l[j].hi + 2 ≤ l[j + 1].lo
theorem gapB_succ {l : List Iv} {j : Nat} {x : Iv} (h : j < l.length) (hi : ivIn l[j]) : gapB l (j + 1) x = decide (x.lo < l[j].hi + 2) := by
  have h1 := (inB_iff _).1 hi.2
  have : W (l[j].hi + 2) = l[j].hi + 2 := wrap_i64 _ (by omega) (by omega)
  simp [gapB, h, this]
theorem ckFrom_zero (l : List Iv) (hl : l.length ≤ 256) : ∀ (n j : Nat), l.length - j = n → j ≤ l.length → (∀ h : 0 < j, ∀ h' : j - 1 < l.length, oneR l[j - 1] = 0) → (ckFrom l j (l.drop j) = 0 ↔ (∀ i, j ≤ i → ∀ h : i < l.length, oneR l[i] = 0) ∧ ∀ i, j ≤ i + 1 → ∀ h : i + 1 < l.length, l[i].hi + 2 ≤ l[i + 1].lo)
  | 0, j, hn, hj, _ => by
    have : j = l.length := by omega
    subst this
    rw [List.drop_length, ckFrom]
    exact ⟨fun _ => ⟨fun i h1 h2 => by omega, fun i h1 h2 => by omega⟩, fun _ => rfl⟩
  | n + 1, j, hn, hj, hp => by
    have hlt : j < l.length := by omega
    rw [drop_get hlt, ckFrom]
    by_cases h1 : (oneR l[j] != 0) = true
    · rw [if_pos h1]
      have h1' : oneR l[j] ≠ 0 := by simpa using h1
      exact ⟨fun h => absurd h h1', fun h => absurd (h.1 j (Nat.le_refl _) hlt) h1'⟩
    · rw [if_neg h1]
      have h1' : oneR l[j] = 0 := by simpa using h1
      have ih := ckFrom_zero l hl n (j + 1) (by omega) (by omega) (fun _ _ => h1')
      by_cases h2 : gapB l j l[j] = true
      · rw [if_pos h2]
        refine ⟨fun h => (by cases h), fun h => ?_⟩
        rcases j with _ | j
        · simp [gapB] at h2
        · have hq : oneR l[j] = 0 := hp (by omega) (by simp; omega)
          rw [gapB_succ (by omega) (one_in hq).1] at h2
          have := h.2 j (Nat.le_refl _) hlt
          simp at h2
          omega
      · rw [if_neg h2, ih]
        constructor
        · rintro ⟨a, b⟩
          refine ⟨fun i hi h => ?_, fun i hi h => ?_⟩
          · by_cases e : i = j
            · subst e; exact h1'
            · exact a i (by omega) h
          · by_cases e : j = i + 1
            · subst e
              have hq : oneR l[i] = 0 := hp (by omega) (by simp; omega)
              rw [gapB_succ (by omega) (one_in hq).1] at h2
              simp at h2
              exact h2
            · exact b i (by omega) h
        · rintro ⟨a, b⟩
          exact ⟨fun i hi h => a i (by omega) h, fun i hi h => b i (by omega) h⟩
theorem ck_iff (l : List Iv) : ckR l = 0 ↔ CanonL l := by
  rw [ckR]
  by_cases h : decide ((256 : Int) < l.length) = true
  · rw [if_pos h]
    simp at h
    exact ⟨fun e => (by cases e), fun e => (by have := e.len; omega)⟩
  · rw [if_neg h]
    simp at h
    have hl : l.length ≤ 256 := by omega
    have := ckFrom_zero l hl l.length 0 rfl (Nat.zero_le _) (fun h => by omega)
    rw [List.drop_zero] at this
    rw [this]
    constructor
    · rintro ⟨a, b⟩
      refine ⟨hl, fun y hy => ?_, fun j h => b j (by omega) h⟩
      obtain ⟨i, hi, rfl⟩ := List.getElem_of_mem hy
      exact a i (by omega) hi
    · rintro ⟨_, a, b⟩
      exact ⟨fun i _ h => a _ (List.getElem_mem h), fun i _ h => b i h⟩
theorem CanonL.iv {l : List Iv} (h : CanonL l) {j : Nat} (hj : j < l.length) : -1099511627776 ≤ l[j].lo ∧ l[j].lo ≤ l[j].hi ∧ l[j].hi ≤ 1099511627776 := by
  obtain ⟨⟨h1, h2⟩, h3⟩ := one_in (h.one _ (List.getElem_mem hj))
  have := (inB_iff _).1 h1
  have := (inB_iff _).1 h2
  omega
def sizeS : List Iv → Int
  | [] => 0
  | x :: r => (x.hi - x.lo + 1) + sizeS r
theorem sizeS_snoc : ∀ (a : List Iv) (x : Iv), sizeS (a ++ [x]) = sizeS a + (x.hi - x.lo + 1)
  | [], x => by simp [sizeS]
  | y :: r, x => by rw [List.cons_append, sizeS, sizeS_snoc r, sizeS]; omega
attribute [local irreducible] ckR
set_option maxHeartbeats 1000000 in
theorem pc_Size (l : List Iv) : PC Tryz.prog 20 [LIv l] (fun r => r = .tup [.i (if ckR l = 0 then sizeS l else 0), .i (ckR l)]) := by
  refine PC_body tOk Tryz.func20 rfl Tryz.results20 rfl (by simp [Tryz.ntmps20]) ?_
  rw [Tryz.ntmps20]
  simp only [argSlots]
  repeat (first
    | (refine AWP_seq (AWP_regS tOk rfl ?_); simp)
    | (refine AWP_regS tOk rfl ?_; simp)
    | (refine AWP_skip ?_; simp)
    | (refine AWP_exit ?_; simp)
    | (refine AWP_ret ?_; simp)
    | refine AWP_block ?_
    | refine AWP_seq ?_)
  refine AStep_PC rfl rfl (by simp) (pc_Check l) rfl ?_
  rintro _ rfl
  simp
  repeat (first
    | (refine AWP_seq (AWP_regS tOk rfl ?_); simp)
    | (refine AWP_regS tOk rfl ?_; simp)
    | (refine AWP_skip ?_; simp)
    | (refine AWP_exit ?_; simp)
    | (refine AWP_ret ?_; simp)
    | refine AWP_block ?_
    | refine AWP_seq ?_)
  refine AWP_cond2 rfl (fun h => ?_) (fun h => ?_)
  · repeat (first
      | (refine AWP_seq (AWP_regS tOk rfl ?_); simp)
      | (refine AWP_regS tOk rfl ?_; simp)
      | (refine AWP_skip ?_; simp)
      | (refine AWP_exit ?_; simp)
      | (refine AWP_ret ?_; simp)
      | refine AWP_block ?_
      | refine AWP_seq ?_)
    have : ckR l ≠ 0 := by simpa using h
    intro h0; exact absurd h0 this
  have h0 : ckR l = 0 := by simpa using h
  have hc := (ck_iff l).1 h0
  have hlen := hc.len
  rw [if_pos h0, h0]
  repeat (first
    | (refine AWP_seq (AWP_regS tOk rfl ?_); simp)
    | (refine AWP_regS tOk rfl ?_; simp)
    | (refine AWP_skip ?_; simp)
    | (refine AWP_exit ?_; simp)
    | (refine AWP_ret ?_; simp)
    | refine AWP_block ?_
    | refine AWP_seq ?_)
  refine AWP_countI l.length (fun j => 0 ≤ sizeS (l.take j) ∧ sizeS (l.take j) ≤ (j : Int) * 4398046511104) (fun j => [(0, LIv l), (5, .i (sizeS (l.take j))), (13, LIv l), (14, .i l.length), (15, .i j)]) (fun _ => []) rfl (by simp) (by simp [sizeS]) (by simp) (by simp) (by simp [sizeS]) ?_
  intro j hj hI ih
  repeat (first
    | (refine AWP_seq (AWP_regS tOk rfl ?_); simp)
    | (refine AWP_regS tOk rfl ?_; simp)
    | (refine AWP_skip ?_; simp)
    | (refine AWP_exit ?_; simp)
    | (refine AWP_ret ?_; simp)
    | refine AWP_block ?_
    | refine AWP_seq ?_)
  refine AWP_cond2 rfl (fun hlt => ?_) (fun hge => ?_)
  · have hlt' : j < l.length := by simpa using hlt
    have hv := hc.iv hlt'
    have hw : IntKind.i64.wrap ((j : Int) + 1) = j + 1 := wrap_i64 _ (by omega) (by omega)
    have hw1 : IntKind.i64.wrap (l[j].hi - l[j].lo) = l[j].hi - l[j].lo := wrap_i64 _ (by omega) (by omega)
    have hw2 : IntKind.i64.wrap (l[j].hi - l[j].lo + 1) = l[j].hi - l[j].lo + 1 := wrap_i64 _ (by omega) (by omega)
    have hs : sizeS (l.take (j + 1)) = sizeS (l.take j) + (l[j].hi - l[j].lo + 1) := by rw [List.take_succ_eq_append_getElem hlt', sizeS_snoc]
    have hw3 : IntKind.i64.wrap (sizeS (l.take j) + (l[j].hi - l[j].lo + 1)) = sizeS (l.take j) + (l[j].hi - l[j].lo + 1) := wrap_i64 _ (by omega) (by omega)
    repeat (first
      | (refine AWP_seq (AWP_regS tOk rfl ?_); simp [hlt', hw, hw1, hw2, hw3])
      | (refine AWP_regS tOk rfl ?_; simp [hlt', hw, hw1, hw2, hw3])
      | (refine AWP_skip ?_; simp [hlt', hw, hw1, hw2, hw3])
      | (refine AWP_exit ?_; simp [hlt', hw, hw1, hw2, hw3])
      | (refine AWP_ret ?_; simp [hlt', hw, hw1, hw2, hw3])
      | refine AWP_block ?_
      | refine AWP_seq ?_)
    refine ALoop_end _ (ih hlt' (by rw [hs]; omega)) rfl (by simp) ?_ (by simp) (by simp)
    simp [hs]
  · have hge' : j = l.length := by simp at hge; omega
    subst hge'
    repeat (first
      | (refine AWP_seq (AWP_regS tOk rfl ?_); simp)
      | (refine AWP_regS tOk rfl ?_; simp)
      | (refine AWP_skip ?_; simp)
      | (refine AWP_exit ?_; simp)
      | (refine AWP_ret ?_; simp)
      | refine AWP_block ?_
      | refine AWP_seq ?_)
end Go.Abs
set_option maxRecDepth 100000
namespace Go.Abs
open Go Go.Proofs
set_option linter.unusedSimpArgs false
attribute [local irreducible] ckR
def bothR (a b : List Iv) : Int := if ckR a = 0 then ckR b else ckR a
theorem pc_both (a b : List Iv) : PC Tryz.prog 56 [LIv a, LIv b] (fun r => r = .i (bothR a b)) := by
  refine PC_body tOk Tryz.func56 rfl Tryz.results56 rfl (by simp [Tryz.ntmps56]) ?_
  rw [Tryz.ntmps56]
  simp only [argSlots]
  repeat (first
    | (refine AWP_seq (AWP_regS tOk rfl ?_); simp)
    | (refine AWP_regS tOk rfl ?_; simp)
    | (refine AWP_skip ?_; simp)
    | (refine AWP_exit ?_; simp)
    | (refine AWP_ret ?_; simp)
    | refine AWP_block ?_
    | refine AWP_seq ?_)
  refine AStep_PC rfl rfl (by simp) (pc_Check a) rfl ?_
  rintro _ rfl
  simp
  repeat (first
    | (refine AWP_seq (AWP_regS tOk rfl ?_); simp)
    | (refine AWP_regS tOk rfl ?_; simp)
    | (refine AWP_skip ?_; simp)
    | (refine AWP_exit ?_; simp)
    | (refine AWP_ret ?_; simp)
    | refine AWP_block ?_
    | refine AWP_seq ?_)
  refine AWP_cond2 rfl (fun h => ?_) (fun h => ?_)
  · repeat (first
      | (refine AWP_seq (AWP_regS tOk rfl ?_); simp)
      | (refine AWP_regS tOk rfl ?_; simp)
      | (refine AWP_skip ?_; simp)
      | (refine AWP_exit ?_; simp)
      | (refine AWP_ret ?_; simp)
      | refine AWP_block ?_
      | refine AWP_seq ?_)
    rw [bothR, if_neg (by simpa using h)]
  repeat (first
    | (refine AWP_seq (AWP_regS tOk rfl ?_); simp)
    | (refine AWP_regS tOk rfl ?_; simp)
    | (refine AWP_skip ?_; simp)
    | (refine AWP_exit ?_; simp)
    | (refine AWP_ret ?_; simp)
    | refine AWP_block ?_
    | refine AWP_seq ?_)
  refine AStep_PC rfl rfl (by simp) (pc_Check b) rfl ?_
  rintro _ rfl
  simp
  repeat (first
    | (refine AWP_seq (AWP_regS tOk rfl ?_); simp)
    | (refine AWP_regS tOk rfl ?_; simp)
    | (refine AWP_skip ?_; simp)
    | (refine AWP_exit ?_; simp)
    | (refine AWP_ret ?_; simp)
    | refine AWP_block ?_
    | refine AWP_seq ?_)
  rw [bothR, if_pos (by simpa using h)]
def limR (l : List Iv) : AV := if l.length ≤ 256 then .tup [LIv l, .i 0] else .tup [.list [], .i 5]
theorem pc_limited (l : List Iv) : PC Tryz.prog 45 [LIv l] (fun r => r = limR l) := by
  refine PC_body tOk Tryz.func45 rfl Tryz.results45 rfl (by simp [Tryz.ntmps45]) ?_
  rw [Tryz.ntmps45]
  simp only [argSlots]
  repeat (first
    | (refine AWP_seq (AWP_regS tOk rfl ?_); simp)
    | (refine AWP_regS tOk rfl ?_; simp)
    | (refine AWP_skip ?_; simp)
    | (refine AWP_exit ?_; simp)
    | (refine AWP_ret ?_; simp)
    | refine AWP_block ?_
    | refine AWP_seq ?_)
  refine AWP_cond2 rfl (fun h => ?_) (fun h => ?_)
  · repeat (first
      | (refine AWP_seq (AWP_regS tOk rfl ?_); simp)
      | (refine AWP_regS tOk rfl ?_; simp)
      | (refine AWP_skip ?_; simp)
      | (refine AWP_exit ?_; simp)
      | (refine AWP_ret ?_; simp)
      | refine AWP_block ?_
      | refine AWP_seq ?_)
    rw [limR, if_neg (by simp at h; omega)]
  · repeat (first
      | (refine AWP_seq (AWP_regS tOk rfl ?_); simp)
      | (refine AWP_regS tOk rfl ?_; simp)
      | (refine AWP_skip ?_; simp)
      | (refine AWP_exit ?_; simp)
      | (refine AWP_ret ?_; simp)
      | refine AWP_block ?_
      | refine AWP_seq ?_)
    rw [limR, if_pos (by simp at h; omega)]
def atFrom : List Iv → Int → Int × Int
  | [], _ => (0, 2)
  | x :: r, i => if i < x.hi - x.lo + 1 then (x.lo + i, 0) else atFrom r (i - (x.hi - x.lo + 1))
def atR (l : List Iv) (i : Int) : Int × Int := if ckR l = 0 then (if i < 0 then (0, 2) else atFrom l i) else (0, ckR l)
set_option maxHeartbeats 1000000 in
theorem pc_At (l : List Iv) (i : Int) (hi1 : i ≤ 9223372036854775807) : PC Tryz.prog 22 [LIv l, .i i] (fun r => r = .tup [.i (atR l i).1, .i (atR l i).2]) := by
  refine PC_body tOk Tryz.func22 rfl Tryz.results22 rfl (by simp [Tryz.ntmps22]) ?_
  rw [Tryz.ntmps22]
  simp only [argSlots]
  repeat (first
    | (refine AWP_seq (AWP_regS tOk rfl ?_); simp)
    | (refine AWP_regS tOk rfl ?_; simp)
    | (refine AWP_skip ?_; simp)
    | (refine AWP_exit ?_; simp)
    | (refine AWP_ret ?_; simp)
    | refine AWP_block ?_
    | refine AWP_seq ?_)
  refine AStep_PC rfl rfl (by simp) (pc_Check l) rfl ?_
  rintro _ rfl
  simp
  repeat (first
    | (refine AWP_seq (AWP_regS tOk rfl ?_); simp)
    | (refine AWP_regS tOk rfl ?_; simp)
    | (refine AWP_skip ?_; simp)
    | (refine AWP_exit ?_; simp)
    | (refine AWP_ret ?_; simp)
    | refine AWP_block ?_
    | refine AWP_seq ?_)
  refine AWP_cond2 rfl (fun h => ?_) (fun h => ?_)
  · repeat (first
      | (refine AWP_seq (AWP_regS tOk rfl ?_); simp)
      | (refine AWP_regS tOk rfl ?_; simp)
      | (refine AWP_skip ?_; simp)
      | (refine AWP_exit ?_; simp)
      | (refine AWP_ret ?_; simp)
      | refine AWP_block ?_
      | refine AWP_seq ?_)
    rw [atR, if_neg (by simpa using h)]; exact ⟨rfl, rfl⟩
  have h0 : ckR l = 0 := by simpa using h
  have hc := (ck_iff l).1 h0
  have hlen := hc.len
  repeat (first
    | (refine AWP_seq (AWP_regS tOk rfl ?_); simp)
    | (refine AWP_regS tOk rfl ?_; simp)
    | (refine AWP_skip ?_; simp)
    | (refine AWP_exit ?_; simp)
    | (refine AWP_ret ?_; simp)
    | refine AWP_block ?_
    | refine AWP_seq ?_)
  refine AWP_cond2 rfl (fun h2 => ?_) (fun h2 => ?_)
  · repeat (first
      | (refine AWP_seq (AWP_regS tOk rfl ?_); simp)
      | (refine AWP_regS tOk rfl ?_; simp)
      | (refine AWP_skip ?_; simp)
      | (refine AWP_exit ?_; simp)
      | (refine AWP_ret ?_; simp)
      | refine AWP_block ?_
      | refine AWP_seq ?_)
    rw [atR, if_pos h0, if_pos (by simpa using h2)]; exact ⟨rfl, rfl⟩
  have h2' : ¬ i < 0 := by simpa using h2
  obtain ⟨R, hR⟩ : ∃ R, atR l i = R := ⟨_, rfl⟩
  have hA : atFrom l i = R := by rw [← hR, atR, if_pos h0, if_neg h2']
  rw [hR]
  repeat (first
    | (refine AWP_seq (AWP_regS tOk rfl ?_); simp)
    | (refine AWP_regS tOk rfl ?_; simp)
    | (refine AWP_skip ?_; simp)
    | (refine AWP_exit ?_; simp)
    | (refine AWP_ret ?_; simp)
    | refine AWP_block ?_
    | refine AWP_seq ?_)
  refine AWP_loop (ALoop_keep (sl' := [(0, LIv l), (1, .i i), (17, LIv l), (18, .i l.length), (19, .i 0)]) ?_ (by simp))
  refine ALoop_wf (F := fun (u : Nat × Int) => ⟨[(0, LIv l), (1, .i u.2), (17, LIv l), (18, .i l.length), (19, .i u.1)], []⟩) (fun u => u.1 ≤ l.length ∧ 0 ≤ u.2 ∧ u.2 ≤ 9223372036854775807 ∧ atFrom (l.drop u.1) u.2 = R) (fun u => l.length - u.1) ?_ (0, i) ⟨by simp, by simp only; omega, hi1, hA⟩
  rintro ⟨j, v⟩ ⟨hj, hv0, hv1, hI⟩ ih
  simp only at hj hv0 hv1 hI ih ⊢
  repeat (first
    | (refine AWP_seq (AWP_regS tOk rfl ?_); simp)
    | (refine AWP_regS tOk rfl ?_; simp)
    | (refine AWP_skip ?_; simp)
    | (refine AWP_exit ?_; simp)
    | (refine AWP_ret ?_; simp)
    | refine AWP_block ?_
    | refine AWP_seq ?_)
  refine AWP_cond2 rfl (fun hlt => ?_) (fun hge => ?_)
  · have hlt' : j < l.length := by simpa using hlt
    have hv := hc.iv hlt'
    have hw : IntKind.i64.wrap ((j : Int) + 1) = j + 1 := wrap_i64 _ (by omega) (by omega)
    have hw1 : IntKind.i64.wrap (l[j].hi - l[j].lo) = l[j].hi - l[j].lo := wrap_i64 _ (by omega) (by omega)
    have hw2 : IntKind.i64.wrap (l[j].hi - l[j].lo + 1) = l[j].hi - l[j].lo + 1 := wrap_i64 _ (by omega) (by omega)
    rw [drop_get hlt', atFrom] at hI
    repeat (first
      | (refine AWP_seq (AWP_regS tOk rfl ?_); simp [hlt', hw, hw1, hw2])
      | (refine AWP_regS tOk rfl ?_; simp [hlt', hw, hw1, hw2])
      | (refine AWP_skip ?_; simp [hlt', hw, hw1, hw2])
      | (refine AWP_exit ?_; simp [hlt', hw, hw1, hw2])
      | (refine AWP_ret ?_; simp [hlt', hw, hw1, hw2])
      | refine AWP_block ?_
      | refine AWP_seq ?_)
    refine AWP_cond2 rfl (fun h3 => ?_) (fun h3 => ?_)
    · have h3' : v < l[j].hi - l[j].lo + 1 := by simpa using h3
      have hw3 : IntKind.i64.wrap (l[j].lo + v) = l[j].lo + v := wrap_i64 _ (by omega) (by omega)
      repeat (first
        | (refine AWP_seq (AWP_regS tOk rfl ?_); simp [hw3])
        | (refine AWP_regS tOk rfl ?_; simp [hw3])
        | (refine AWP_skip ?_; simp [hw3])
        | (refine AWP_exit ?_; simp [hw3])
        | (refine AWP_ret ?_; simp [hw3])
        | refine AWP_block ?_
        | refine AWP_seq ?_)
      rw [← hI, if_pos h3']; exact ⟨rfl, rfl⟩
    · have h3' : ¬ v < l[j].hi - l[j].lo + 1 := by simpa using h3
      have hw3 : IntKind.i64.wrap (v - (l[j].hi - l[j].lo + 1)) = v - (l[j].hi - l[j].lo + 1) := wrap_i64 _ (by omega) (by omega)
      rw [if_neg h3'] at hI
      repeat (first
        | (refine AWP_seq (AWP_regS tOk rfl ?_); simp [hw3, hw])
        | (refine AWP_regS tOk rfl ?_; simp [hw3, hw])
        | (refine AWP_skip ?_; simp [hw3, hw])
        | (refine AWP_exit ?_; simp [hw3, hw])
        | (refine AWP_ret ?_; simp [hw3, hw])
        | refine AWP_block ?_
        | refine AWP_seq ?_)
      exact ALoop_end _ (ih (j + 1, v - (l[j].hi - l[j].lo + 1)) ⟨by simp only; omega, by simp only; omega, by simp only; omega, hI⟩ (by simp only; omega)) rfl (by simp) (by simp) (by simp) (by simp)
  · have hge' : j = l.length := by simp at hge; omega
    subst hge'
    rw [List.drop_length, atFrom] at hI
    repeat (first
      | (refine AWP_seq (AWP_regS tOk rfl ?_); simp)
      | (refine AWP_regS tOk rfl ?_; simp)
      | (refine AWP_skip ?_; simp)
      | (refine AWP_exit ?_; simp)
      | (refine AWP_ret ?_; simp)
      | refine AWP_block ?_
      | refine AWP_seq ?_)
    rw [← hI]; exact ⟨rfl, rfl⟩
def cmpI (x : Iv) (n : Int) : Int := if x.hi < n then -1 else if n < x.lo then 1 else 0
theorem pc_has1 (x : Iv) (n : Int) : PC Tryz.prog 71 [encIv x, .i n] (fun r => r = .i (cmpI x n)) := by
  refine PC_body tOk Tryz.func71 rfl Tryz.results71 rfl (by simp [Tryz.ntmps71]) ?_
  rw [Tryz.ntmps71]
  simp only [argSlots]
  simp only [encIv]
  repeat (first
    | (refine AWP_seq (AWP_regS tOk rfl ?_); simp)
    | (refine AWP_regS tOk rfl ?_; simp)
    | (refine AWP_skip ?_; simp)
    | (refine AWP_exit ?_; simp)
    | (refine AWP_ret ?_; simp)
    | refine AWP_block ?_
    | refine AWP_seq ?_)
  refine AWP_cond2 rfl (fun h => ?_) (fun h => ?_)
  · repeat (first
      | (refine AWP_seq (AWP_regS tOk rfl ?_); simp)
      | (refine AWP_regS tOk rfl ?_; simp)
      | (refine AWP_skip ?_; simp)
      | (refine AWP_exit ?_; simp)
      | (refine AWP_ret ?_; simp)
      | refine AWP_block ?_
      | refine AWP_seq ?_)
    rw [cmpI, if_pos (by simpa using h)]
  repeat (first
    | (refine AWP_seq (AWP_regS tOk rfl ?_); simp)
    | (refine AWP_regS tOk rfl ?_; simp)
    | (refine AWP_skip ?_; simp)
    | (refine AWP_exit ?_; simp)
    | (refine AWP_ret ?_; simp)
    | refine AWP_block ?_
    | refine AWP_seq ?_)
  refine AWP_cond2 rfl (fun h2 => ?_) (fun h2 => ?_)
  · repeat (first
      | (refine AWP_seq (AWP_regS tOk rfl ?_); simp)
      | (refine AWP_regS tOk rfl ?_; simp)
      | (refine AWP_skip ?_; simp)
      | (refine AWP_exit ?_; simp)
      | (refine AWP_ret ?_; simp)
      | refine AWP_block ?_
      | refine AWP_seq ?_)
    rw [cmpI, if_neg (by simpa using h), if_pos (by simpa using h2)]
  repeat (first
    | (refine AWP_seq (AWP_regS tOk rfl ?_); simp)
    | (refine AWP_regS tOk rfl ?_; simp)
    | (refine AWP_skip ?_; simp)
    | (refine AWP_exit ?_; simp)
    | (refine AWP_ret ?_; simp)
    | refine AWP_block ?_
    | refine AWP_seq ?_)
  rw [cmpI, if_neg (by simpa using h), if_neg (by simpa using h2)]
def hasR (l : List Iv) (n : Int) : Bool := l.any fun x => decide (x.lo ≤ n) && decide (n ≤ x.hi)
theorem canon_mono {l : List Iv} (hc : CanonL l) : ∀ {i j : Nat}, i < j → ∀ (hj : j < l.length), ∀ (hi : i < l.length), l[i].hi + 2 ≤ l[j].lo := by
  intro i j hij hj hi
  obtain ⟨d, rfl⟩ : ∃ d, j = i + 1 + d := ⟨j - (i + 1), by omega⟩
  induction d with
  | zero => exact hc.gap i hj
  | succ d ih =>
    have h1 := ih (by omega) (by omega)
    have h2 := hc.gap (i + 1 + d) (by omega)
    have h3 := hc.iv (show i + 1 + d < l.length by omega)
    have h4 : i + 1 + (d + 1) = i + 1 + d + 1 := by omega
    simp only [h4]
    omega
theorem cmp_neg (x : Iv) (n : Int) : cmpI x n < 0 ↔ x.hi < n := by
  unfold cmpI
  by_cases h : x.hi < n
  · rw [if_pos h]; simp [h]
  · rw [if_neg h]
    by_cases h2 : n < x.lo
    · rw [if_pos h2]; simp [h]
    · rw [if_neg h2]; simp [h]
theorem cmp_zero (x : Iv) (n : Int) : cmpI x n = 0 ↔ x.lo ≤ n ∧ n ≤ x.hi := by
  unfold cmpI
  by_cases h : x.hi < n
  · rw [if_pos h]; constructor <;> intro h' <;> omega
  · rw [if_neg h]
    by_cases h2 : n < x.lo
    · rw [if_pos h2]; constructor <;> intro h' <;> omega
    · rw [if_neg h2]; constructor <;> intro h' <;> omega
theorem mid_eq {i j m : Nat} (hm : (i + j) / 2 = m) (h : i + j ≤ 1000000000) : IntKind.i64.wrap ((IntKind.u64.wrap ((i : Int) + j)).fdiv (2 ^ min 1 IntKind.u64.bits)) = m := by
  have h1 : IntKind.u64.wrap ((i : Int) + j) = i + j := by simp [IntKind.wrap, IntKind.bits, IntKind.signed]; omega
  have h2 : min 1 IntKind.u64.bits = 1 := by decide
  rw [h1, h2, Int.fdiv_eq_ediv_of_nonneg _ (by decide), wrap_i64 _ (by omega) (by omega)]
  omega
attribute [local irreducible] cmpI
set_option maxHeartbeats 2000000 in
theorem pc_BinSearch (l : List Iv) (n : Int) (hc : CanonL l) : PC Tryz.prog 70 [LIv l, .i n, .fn (.func 71) [] []] (fun r => ∃ k : Int, r = .tup [.i k, .bool (hasR l n)]) := by
  refine PC_body tOk Tryz.func70 rfl Tryz.results70 rfl (by simp [Tryz.ntmps70]) ?_
  rw [Tryz.ntmps70]
  simp only [argSlots]
  have hlen := hc.len
  repeat (first
    | (refine AWP_seq (AWP_regS tOk rfl ?_); simp)
    | (refine AWP_regS tOk rfl ?_; simp)
    | (refine AWP_skip ?_; simp)
    | (refine AWP_exit ?_; simp)
    | (refine AWP_ret ?_; simp)
    | refine AWP_block ?_
    | refine AWP_seq ?_)
  refine AWP_loop (ALoop_keep (sl' := [(0, LIv l), (1, .i n), (2, .fn (.func 71) [] []), (8, .i l.length), (9, .i 0), (10, .i l.length)]) ?_ (by simp))
  refine ALoop_wf (F := fun (u : Nat × Nat) => ⟨[(0, LIv l), (1, .i n), (2, .fn (.func 71) [] []), (8, .i l.length), (9, .i u.1), (10, .i u.2)], []⟩) (fun u => u.1 ≤ u.2 ∧ u.2 ≤ l.length ∧ (∀ k, k < u.1 → ∀ hk : k < l.length, cmpI l[k] n < 0) ∧ (∀ k, u.2 ≤ k → ∀ hk : k < l.length, ¬ cmpI l[k] n < 0)) (fun u => u.2 - u.1) ?_ (0, l.length) ⟨by simp, by simp, fun k hk => by simp at hk, fun k hk hk' => by simp only at hk; omega⟩
  rintro ⟨i, j⟩ ⟨h1, h2, h3, h4⟩ ih
  simp only at h1 h2 h3 h4 ih ⊢
  repeat (first
    | (refine AWP_seq (AWP_regS tOk rfl ?_); simp)
    | (refine AWP_regS tOk rfl ?_; simp)
    | (refine AWP_skip ?_; simp)
    | (refine AWP_exit ?_; simp)
    | (refine AWP_ret ?_; simp)
    | refine AWP_block ?_
    | refine AWP_seq ?_)
  refine AWP_cond2 rfl (fun hlt => ?_) (fun hge => ?_)
  · have hlt' : i < j := by simpa using hlt
    have hw : IntKind.i64.wrap ((i : Int) + j) = i + j := wrap_i64 _ (by omega) (by omega)
    obtain ⟨m, hm⟩ : ∃ m, (i + j) / 2 = m := ⟨_, rfl⟩
    have hmid : IntKind.i64.wrap ((IntKind.u64.wrap ((i : Int) + j)).fdiv (2 ^ min 1 IntKind.u64.bits)) = m := mid_eq hm (by omega)
    have hml : m < l.length := by omega
    have hml' : (m : Int) < l.length := by omega
    have hw1 : IntKind.i64.wrap ((m : Int) + 1) = m + 1 := wrap_i64 _ (by omega) (by omega)
    repeat (first
      | (refine AWP_seq (AWP_regS tOk rfl ?_); simp [hw, hmid, hml, hml'])
      | (refine AWP_regS tOk rfl ?_; simp [hw, hmid, hml, hml'])
      | (refine AWP_skip ?_; simp [hw, hmid, hml, hml'])
      | (refine AWP_exit ?_; simp [hw, hmid, hml, hml'])
      | (refine AWP_ret ?_; simp [hw, hmid, hml, hml'])
      | refine AWP_block ?_
      | refine AWP_seq ?_)
    refine AStep_PC rfl rfl (by simp) (pc_has1 l[m] n) rfl ?_
    rintro _ rfl
    simp
    refine AWP_cond2 rfl (fun h5 => ?_) (fun h5 => ?_)
    · repeat (first
        | (refine AWP_seq (AWP_regS tOk rfl ?_); simp [hw1])
        | (refine AWP_regS tOk rfl ?_; simp [hw1])
        | (refine AWP_skip ?_; simp [hw1])
        | (refine AWP_exit ?_; simp [hw1])
        | (refine AWP_ret ?_; simp [hw1])
        | refine AWP_block ?_
        | refine AWP_seq ?_)
      refine ALoop_keep (sl' := [(0, LIv l), (1, .i n), (2, .fn (.func 71) [] []), (8, .i l.length), (9, .i (m + 1 : Nat)), (10, .i j)]) (ih (m + 1, j) ⟨by simp only; omega, h2, fun k hk hk' => ?_, h4⟩ (by simp only; omega)) (by simp)
      have hkm := hc.iv hk'
      have hmm := hc.iv hml
      have h5' : cmpI l[m] n < 0 := by simpa using h5
      by_cases e : k = m
      · subst e; exact h5'
      · have := canon_mono hc (show k < m by omega) hml hk'
        rw [cmp_neg] at h5' ⊢
        omega
    · repeat (first
        | (refine AWP_seq (AWP_regS tOk rfl ?_); simp)
        | (refine AWP_regS tOk rfl ?_; simp)
        | (refine AWP_skip ?_; simp)
        | (refine AWP_exit ?_; simp)
        | (refine AWP_ret ?_; simp)
        | refine AWP_block ?_
        | refine AWP_seq ?_)
      refine ALoop_keep (sl' := [(0, LIv l), (1, .i n), (2, .fn (.func 71) [] []), (8, .i l.length), (9, .i i), (10, .i m)]) (ih (i, m) ⟨by simp only; omega, by simp only; omega, h3, fun k hk hk' => ?_⟩ (by simp only; omega)) (by simp)
      have hkm := hc.iv hk'
      have hmm := hc.iv hml
      have h5' : ¬ cmpI l[m] n < 0 := by simpa using h5
      by_cases e : k = m
      · subst e; exact h5'
      · have := canon_mono hc (show m < k by omega) hk' hml
        rw [cmp_neg] at h5' ⊢
        omega
  · have hge' : i = j := by simp at hge; omega
    subst hge'
    by_cases hil : i < l.length
    · repeat (first
        | (refine AWP_seq (AWP_regS tOk rfl ?_); simp [hil])
        | (refine AWP_regS tOk rfl ?_; simp [hil])
        | (refine AWP_skip ?_; simp [hil])
        | (refine AWP_exit ?_; simp [hil])
        | (refine AWP_ret ?_; simp [hil])
        | refine AWP_block ?_
        | refine AWP_seq ?_)
      refine AStep_PC rfl rfl (by simp) (pc_has1 l[i] n) rfl ?_
      rintro _ rfl
      simp
      repeat (first
        | (refine AWP_seq (AWP_regS tOk rfl ?_); simp)
        | (refine AWP_regS tOk rfl ?_; simp)
        | (refine AWP_skip ?_; simp)
        | (refine AWP_exit ?_; simp)
        | (refine AWP_ret ?_; simp)
        | refine AWP_block ?_
        | refine AWP_seq ?_)
      have hh : hasR l n = (cmpI l[i] n == 0) := by
        rw [Bool.eq_iff_iff, beq_iff_eq, cmp_zero, hasR, List.any_eq_true]
        constructor
        · rintro ⟨x, hx, hx2⟩
          obtain ⟨k, hk, rfl⟩ := List.getElem_of_mem hx
          simp at hx2
          have e : k = i := by
            by_cases e1 : k < i
            · have := (cmp_neg _ _).1 (h3 k e1 hk)
              omega
            · by_cases e2 : i < k
              · have := canon_mono hc e2 hk hil
                have : ¬ l[i].hi < n := fun e => h4 i (Nat.le_refl _) hil ((cmp_neg l[i] n).2 e)
                omega
              · omega
          subst e
          exact hx2
        · intro h
          exact ⟨l[i], List.getElem_mem hil, by simpa using h⟩
      rw [hh]
    · repeat (first
        | (refine AWP_seq (AWP_regS tOk rfl ?_); simp [hil])
        | (refine AWP_regS tOk rfl ?_; simp [hil])
        | (refine AWP_skip ?_; simp [hil])
        | (refine AWP_exit ?_; simp [hil])
        | (refine AWP_ret ?_; simp [hil])
        | refine AWP_block ?_
        | refine AWP_seq ?_)
      refine AStep_skip rfl rfl ?_
      simp
      repeat (first
        | (refine AWP_seq (AWP_regS tOk rfl ?_); simp)
        | (refine AWP_regS tOk rfl ?_; simp)
        | (refine AWP_skip ?_; simp)
        | (refine AWP_exit ?_; simp)
        | (refine AWP_ret ?_; simp)
        | refine AWP_block ?_
        | refine AWP_seq ?_)
      have hh : hasR l n = false := by
        rw [hasR, List.any_eq_false]
        intro x hx
        obtain ⟨k, hk, rfl⟩ := List.getElem_of_mem hx
        have := (cmp_neg _ _).1 (h3 k (by omega) hk)
        simp
        intro _
        omega
      rw [hh]
theorem pc_has (l : List Iv) (n : Int) (hc : CanonL l) : PC Tryz.prog 47 [LIv l, .i n] (fun r => r = .bool (hasR l n)) := by
  refine PC_body tOk Tryz.func47 rfl Tryz.results47 rfl (by simp [Tryz.ntmps47]) ?_
  rw [Tryz.ntmps47]
  simp only [argSlots]
  repeat (first
    | (refine AWP_seq (AWP_regS tOk rfl ?_); simp)
    | (refine AWP_regS tOk rfl ?_; simp)
    | (refine AWP_skip ?_; simp)
    | (refine AWP_exit ?_; simp)
    | (refine AWP_ret ?_; simp)
    | refine AWP_block ?_
    | refine AWP_seq ?_)
  refine AStep_PC rfl rfl (by simp) (pc_BinSearch l n hc) rfl ?_
  rintro _ ⟨k, rfl⟩
  simp
  repeat (first
    | (refine AWP_seq (AWP_regS tOk rfl ?_); simp)
    | (refine AWP_regS tOk rfl ?_; simp)
    | (refine AWP_skip ?_; simp)
    | (refine AWP_exit ?_; simp)
    | (refine AWP_ret ?_; simp)
    | refine AWP_block ?_
    | refine AWP_seq ?_)
attribute [local irreducible] hasR
def conR (l : List Iv) (n : Int) : Bool × Int := if ckR l = 0 then (hasR l n, 0) else (false, ckR l)
theorem pc_Contains (l : List Iv) (n : Int) : PC Tryz.prog 18 [LIv l, .i n] (fun r => r = .tup [.bool (conR l n).1, .i (conR l n).2]) := by
  refine PC_body tOk Tryz.func18 rfl Tryz.results18 rfl (by simp [Tryz.ntmps18]) ?_
  rw [Tryz.ntmps18]
  simp only [argSlots]
  repeat (first
    | (refine AWP_seq (AWP_regS tOk rfl ?_); simp)
    | (refine AWP_regS tOk rfl ?_; simp)
    | (refine AWP_skip ?_; simp)
    | (refine AWP_exit ?_; simp)
    | (refine AWP_ret ?_; simp)
    | refine AWP_block ?_
    | refine AWP_seq ?_)
  refine AStep_PC rfl rfl (by simp) (pc_Check l) rfl ?_
  rintro _ rfl
  simp
  repeat (first
    | (refine AWP_seq (AWP_regS tOk rfl ?_); simp)
    | (refine AWP_regS tOk rfl ?_; simp)
    | (refine AWP_skip ?_; simp)
    | (refine AWP_exit ?_; simp)
    | (refine AWP_ret ?_; simp)
    | refine AWP_block ?_
    | refine AWP_seq ?_)
  refine AWP_cond2 rfl (fun h => ?_) (fun h => ?_)
  · repeat (first
      | (refine AWP_seq (AWP_regS tOk rfl ?_); simp)
      | (refine AWP_regS tOk rfl ?_; simp)
      | (refine AWP_skip ?_; simp)
      | (refine AWP_exit ?_; simp)
      | (refine AWP_ret ?_; simp)
      | refine AWP_block ?_
      | refine AWP_seq ?_)
    rw [conR, if_neg (by simpa using h)]; exact ⟨rfl, rfl⟩
  have h0 : ckR l = 0 := by simpa using h
  repeat (first
    | (refine AWP_seq (AWP_regS tOk rfl ?_); simp)
    | (refine AWP_regS tOk rfl ?_; simp)
    | (refine AWP_skip ?_; simp)
    | (refine AWP_exit ?_; simp)
    | (refine AWP_ret ?_; simp)
    | refine AWP_block ?_
    | refine AWP_seq ?_)
  refine AStep_PC rfl rfl (by simp) (pc_has l n ((ck_iff l).1 h0)) rfl ?_
  rintro _ rfl
  simp
  repeat (first
    | (refine AWP_seq (AWP_regS tOk rfl ?_); simp)
    | (refine AWP_regS tOk rfl ?_; simp)
    | (refine AWP_skip ?_; simp)
    | (refine AWP_exit ?_; simp)
    | (refine AWP_ret ?_; simp)
    | refine AWP_block ?_
    | refine AWP_seq ?_)
  rw [conR, if_pos h0]; exact ⟨rfl, rfl⟩
end Go.Abs
set_option maxRecDepth 100000
namespace Go.Abs
open Go Go.Proofs
set_option linter.unusedSimpArgs false
attribute [local irreducible] ckR
def clipR (d : Int) (x : Iv) : Option Iv :=
  let a := if x.lo + d < -1099511627776 then -1099511627776 else x.lo + d
  let b := if 1099511627776 < x.hi + d then 1099511627776 else x.hi + d
  if a ≤ b then some ⟨a, b⟩ else none
def shiftR (l : List Iv) (d : Int) : List Iv × Int := if ckR l = 0 then (if d < -2199023255552 ∨ 2199023255552 < d then ([], 0) else (l.filterMap (clipR d), 0)) else ([], ckR l)
theorem fm_snoc {α β : Type} (f : α → Option β) (l : List α) (x : α) : (l ++ [x]).filterMap f = l.filterMap f ++ (f x).toList := by
  rw [List.filterMap_append]
  cases h : f x <;> simp [h]
theorem fm_len {α β : Type} (f : α → Option β) (l : List α) : (l.filterMap f).length ≤ l.length := List.length_filterMap_le f l
set_option maxHeartbeats 2000000 in
theorem pc_Shift (l : List Iv) (d : Int) : PC Tryz.prog 24 [LIv l, .i d] (fun r => r = .tup [LIv (shiftR l d).1, .i (shiftR l d).2]) := by
  refine PC_body tOk Tryz.func24 rfl Tryz.results24 rfl (by simp [Tryz.ntmps24]) ?_
  rw [Tryz.ntmps24]
  simp only [argSlots]
  repeat (first
    | (refine AWP_seq (AWP_regS tOk rfl ?_); simp)
    | (refine AWP_regS tOk rfl ?_; simp)
    | (refine AWP_skip ?_; simp)
    | (refine AWP_exit ?_; simp)
    | (refine AWP_ret ?_; simp)
    | refine AWP_block ?_
    | refine AWP_seq ?_)
  refine AStep_PC rfl rfl (by simp) (pc_Check l) rfl ?_
  rintro _ rfl
  simp
  repeat (first
    | (refine AWP_seq (AWP_regS tOk rfl ?_); simp)
    | (refine AWP_regS tOk rfl ?_; simp)
    | (refine AWP_skip ?_; simp)
    | (refine AWP_exit ?_; simp)
    | (refine AWP_ret ?_; simp)
    | refine AWP_block ?_
    | refine AWP_seq ?_)
  refine AWP_cond2 rfl (fun h => ?_) (fun h => ?_)
  · repeat (first
      | (refine AWP_seq (AWP_regS tOk rfl ?_); simp)
      | (refine AWP_regS tOk rfl ?_; simp)
      | (refine AWP_skip ?_; simp)
      | (refine AWP_exit ?_; simp)
      | (refine AWP_ret ?_; simp)
      | refine AWP_block ?_
      | refine AWP_seq ?_)
    rw [shiftR, if_neg (by simpa using h)]; exact ⟨rfl, rfl⟩
  have h0 : ckR l = 0 := by simpa using h
  have hc := (ck_iff l).1 h0
  have hlen := hc.len
  repeat (first
    | (refine AWP_seq (AWP_regS tOk rfl ?_); simp)
    | (refine AWP_regS tOk rfl ?_; simp)
    | (refine AWP_skip ?_; simp)
    | (refine AWP_exit ?_; simp)
    | (refine AWP_ret ?_; simp)
    | refine AWP_block ?_
    | refine AWP_seq ?_)
  refine AWP_cond2 rfl (fun h2 => ?_) (fun h2 => ?_)
  · repeat (first
      | (refine AWP_seq (AWP_regS tOk rfl ?_); simp)
      | (refine AWP_regS tOk rfl ?_; simp)
      | (refine AWP_skip ?_; simp)
      | (refine AWP_exit ?_; simp)
      | (refine AWP_ret ?_; simp)
      | refine AWP_block ?_
      | refine AWP_seq ?_)
    rw [shiftR, if_pos h0, if_pos (by simpa using h2)]; exact ⟨rfl, rfl⟩
  have h2' : -2199023255552 ≤ d ∧ d ≤ 2199023255552 := by simpa using h2
  have hR : shiftR l d = (l.filterMap (clipR d), 0) := by rw [shiftR, if_pos h0, if_neg (by omega)]
  rw [hR]
  repeat (first
    | (refine AWP_seq (AWP_regS tOk rfl ?_); simp)
    | (refine AWP_regS tOk rfl ?_; simp)
    | (refine AWP_skip ?_; simp)
    | (refine AWP_exit ?_; simp)
    | (refine AWP_ret ?_; simp)
    | refine AWP_block ?_
    | refine AWP_seq ?_)
  refine AWP_nilSlot 7 59 2 rfl ?_
  simp
  refine AWP_loop (ALoop_keep (sl' := [(1, .i d), (7, .sl 0 2 0 0), (23, LIv l), (24, .i l.length), (25, .i 0)]) ?_ (by simp))
  refine ALoop_wf (F := fun (u : Nat × Nat × List AObj) => ⟨[(1, .i d), (7, .sl u.2.1 2 0 ((l.take u.1).filterMap (clipR d)).length), (23, LIv l), (24, .i l.length), (25, .i u.1)], u.2.2⟩)
    (fun u => u.1 ≤ l.length ∧ u.2.2[u.2.1]? = some (.arr 59 2 (((l.take u.1).filterMap (clipR d)).map encIv))) (fun u => l.length - u.1) ?_ (0, 0, [.arr 59 2 []]) ⟨by simp, rfl⟩
  rintro ⟨j, q, H2⟩ ⟨hj, g1⟩ ih
  simp only at hj g1 ih ⊢
  repeat (first
    | (refine AWP_seq (AWP_regS tOk rfl ?_); simp)
    | (refine AWP_regS tOk rfl ?_; simp)
    | (refine AWP_skip ?_; simp)
    | (refine AWP_exit ?_; simp)
    | (refine AWP_ret ?_; simp)
    | refine AWP_block ?_
    | refine AWP_seq ?_)
  refine AWP_cond2 rfl (fun hlt => ?_) (fun hge => ?_)
  · have hlt' : j < l.length := by simpa using hlt
    have hv := hc.iv hlt'
    have hw : IntKind.i64.wrap ((j : Int) + 1) = j + 1 := wrap_i64 _ (by omega) (by omega)
    have hw1 : IntKind.i64.wrap (l[j].lo + d) = l[j].lo + d := wrap_i64 _ (by omega) (by omega)
    have hw2 : IntKind.i64.wrap (l[j].hi + d) = l[j].hi + d := wrap_i64 _ (by omega) (by omega)
    have hpl : ((l.take j).filterMap (clipR d)).length ≤ 256 := Nat.le_trans (fm_len _ _) (by simp; omega)
    have hnx : (l.take (j + 1)).filterMap (clipR d) = (l.take j).filterMap (clipR d) ++ (clipR d l[j]).toList := by rw [List.take_succ_eq_append_getElem hlt', fm_snoc]
    have ih' : ∀ (q' : Nat) (H' : List AObj), H'[q']? = some (.arr 59 2 (((l.take j).filterMap (clipR d) ++ (clipR d l[j]).toList).map encIv)) → _ := fun q' H' h => ih (j + 1, q', H') ⟨by simp; omega, by rw [hnx]; exact h⟩ (by simp; omega)
    clear ih
    simp only [hnx] at ih'
    generalize (l.take j).filterMap (clipR d) = acc at g1 hpl ih' ⊢
    repeat (first
      | (refine AWP_seq (AWP_regS tOk rfl ?_); simp [hlt'])
      | (refine AWP_regS tOk rfl ?_; simp [hlt'])
      | (refine AWP_skip ?_; simp [hlt'])
      | (refine AWP_exit ?_; simp [hlt'])
      | (refine AWP_ret ?_; simp [hlt'])
      | refine AWP_block ?_
      | refine AWP_seq ?_)
    obtain ⟨a, ha⟩ : ∃ a, (if l[j].lo + d < -1099511627776 then -1099511627776 else l[j].lo + d) = a := ⟨_, rfl⟩
    obtain ⟨b, hb⟩ : ∃ b, (if 1099511627776 < l[j].hi + d then 1099511627776 else l[j].hi + d) = b := ⟨_, rfl⟩
    have hcl : clipR d l[j] = if a ≤ b then some ⟨a, b⟩ else none := by simp only [clipR, ha, hb]
    rw [hcl] at ih'
    refine AWP_drawT tOk mixed [] (.val 0 (.val 1 (.val 2 (.val 3 (.val 4 (.val 5 (.val 6 (.val 7 (.val 8 (.val 9 (.val 10 (.val 11 (.done))))))))))))) rfl (by kernel_rfl) ?_
    simp [hlt', hw1, hw2, ha, hb]
    repeat (first
      | (refine AWP_seq (AWP_regS tOk rfl ?_); simp)
      | (refine AWP_regS tOk rfl ?_; simp)
      | (refine AWP_skip ?_; simp)
      | (refine AWP_exit ?_; simp)
      | (refine AWP_ret ?_; simp)
      | refine AWP_block ?_
      | refine AWP_seq ?_)
    refine AWP_cond2 rfl (fun h3 => ?_) (fun h3 => ?_)
    · rw [if_pos (by simpa using h3)] at ih'
      repeat (first
        | (refine AWP_seq (AWP_regS tOk rfl ?_); simp)
        | (refine AWP_regS tOk rfl ?_; simp)
        | (refine AWP_skip ?_; simp)
        | (refine AWP_exit ?_; simp)
        | (refine AWP_ret ?_; simp)
        | refine AWP_block ?_
        | refine AWP_seq ?_)
      refine AStep_appendS tOk rfl rfl T22 rfl T59 rfl (by decide) (by decide) rfl rfl rfl ?_
      simp [get_app g1, set_app g1]
      refine ⟨by simp [appOk, get_app g1, set_app g1] <;> omega, ?_⟩
      repeat (first
        | (refine AWP_seq (AWP_regS tOk rfl ?_); simp [hw])
        | (refine AWP_regS tOk rfl ?_; simp [hw])
        | (refine AWP_skip ?_; simp [hw])
        | (refine AWP_exit ?_; simp [hw])
        | (refine AWP_ret ?_; simp [hw])
        | refine AWP_block ?_
        | refine AWP_seq ?_)
      exact ALoop_keep (sl' := [(1, .i d), (7, .sl (H2.length + 2) 2 0 (acc.length + 1)), (23, LIv l), (24, .i l.length), (25, .i (j + 1 : Nat))]) (by
        have := ih' (H2.length + 2) (H2.set q .dead ++ [.vars [.int .i64 l[j].lo, .int .i64 l[j].hi], .arr 59 2 [encIv (⟨a, b⟩ : Iv)], .arr 59 2 ((acc ++ [(⟨a, b⟩ : Iv)]).map encIv)]) (by rw [List.getElem?_append_right (by simp)]; simp)
        simpa using this) (by simp)
    · rw [if_neg (by simpa using h3)] at ih'
      repeat (first
        | (refine AWP_seq (AWP_regS tOk rfl ?_); simp [hw])
        | (refine AWP_regS tOk rfl ?_; simp [hw])
        | (refine AWP_skip ?_; simp [hw])
        | (refine AWP_exit ?_; simp [hw])
        | (refine AWP_ret ?_; simp [hw])
        | refine AWP_block ?_
        | refine AWP_seq ?_)
      exact ALoop_keep (sl' := [(1, .i d), (7, .sl q 2 0 acc.length), (23, LIv l), (24, .i l.length), (25, .i (j + 1 : Nat))]) (by
        have := ih' q (H2 ++ [.vars [.int .i64 l[j].lo, .int .i64 l[j].hi]]) (by rw [Option.toList_none, List.append_nil]; exact get_app g1 _)
        simpa using this) (by simp)
  · have hge' : j = l.length := by simp at hge; omega
    subst hge'
    rw [List.take_length] at g1
    repeat (first
      | (refine AWP_seq (AWP_regS tOk rfl ?_); simp [g1])
      | (refine AWP_regS tOk rfl ?_; simp [g1])
      | (refine AWP_skip ?_; simp [g1])
      | (refine AWP_exit ?_; simp [g1])
      | (refine AWP_ret ?_; simp [g1])
      | refine AWP_block ?_
      | refine AWP_seq ?_)
    rw [List.take_of_length_le (by simp)]
end Go.Abs
