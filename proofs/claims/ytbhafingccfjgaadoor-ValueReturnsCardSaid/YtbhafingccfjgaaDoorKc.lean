/- The types of the program, as the abstract machine is told of them. -/
import Derived.Test.YtbhafingccfjgaaDoorKb
import Derived.Test.YtbhafingccfjgaaDoorChecked
import Derived.KernelRfl
import Derived.Lib.LaidTab
import Derived.Lib.ItoaNum
import Derived.Shelf.Small.Strs
import Derived.Shelf.LaysM
import Derived.Shelf.Strconv.Itoa3
import Derived.Test.YtbhafingccfjgaaDoorProg
import Derived.Lib.AppendIntMem
set_option linter.all false
set_option maxRecDepth 100000
namespace Go.Abs
open Go Go.Proofs

def T : TT := [
  (2, { desc := .int .i64, zero := (.int .i64 0), size := 1, bytes := 8 }),
  (3, { desc := .int .i64, zero := (.int .i64 0), size := 1, bytes := 8 }),
  (4, { desc := .bool, zero := (.bool false), size := 1, bytes := 1 }),
  (5, { desc := .int .u8, zero := (.int .u8 0), size := 1, bytes := 1 }),
  (9, { desc := .string, zero := (.string ⟨#[]⟩), size := 1, bytes := 16 }),
  (21, { desc := .int .i32, zero := (.int .i32 0), size := 1, bytes := 4 }),
  (23, { desc := .struct #[{ name := "Kind", type := 3, offset := 0, embedded := false, tag := "", pkgPath := "", byteOffset := 0 }, { name := "Num", type := 3, offset := 1, embedded := false, tag := "", pkgPath := "", byteOffset := 8 }, { name := "Text", type := 9, offset := 2, embedded := false, tag := "", pkgPath := "", byteOffset := 16 }], zero := (.agg #[(.int .i64 0), (.int .i64 0), (.string ⟨#[]⟩)]), size := 3, bytes := 32, eqv := true }),
  (24, { desc := .int .i64, zero := (.int .i64 0), size := 1, bytes := 8 }),
  (39, { desc := .func #[23, 23] #[3] false, zero := .nilFunc, size := 1, bytes := 8 }),
  (42, { desc := .slice 5, zero := (.slice none 0 0), size := 1, bytes := 24 }),
  (44, { desc := .slice 23, zero := (.slice none 0 0), size := 1, bytes := 24 }),
  (53, { desc := .func #[5] #[4] false, zero := .nilFunc, size := 1, bytes := 8 }),
  (57, { desc := .int .u32, zero := (.int .u32 0), size := 1, bytes := 4 }),
  (60, { desc := .slice 39, zero := (.slice none 0 0), size := 1, bytes := 24 }),
  (74, { desc := .struct #[{ name := "rest", type := 9, offset := 0, embedded := false, tag := "", pkgPath := "tidegate/value", byteOffset := 0 }, { name := "out", type := 42, offset := 1, embedded := false, tag := "", pkgPath := "tidegate/value", byteOffset := 16 }], zero := (.agg #[(.string ⟨#[]⟩), (.slice none 0 0)]), size := 2, bytes := 40 }),
  (77, { desc := .interface #[("Error", 85)], zero := .nilIface, size := 1, bytes := 16 }),
  (80, { desc := .pointer 82, zero := (.pointer none), size := 1, bytes := 8 }),
  (82, { desc := .struct #[{ name := "addr", type := 80, offset := 0, embedded := false, tag := "", pkgPath := "strings", byteOffset := 0 }, { name := "buf", type := 42, offset := 1, embedded := false, tag := "", pkgPath := "strings", byteOffset := 8 }], zero := (.agg #[(.pointer none), (.slice none 0 0)]), size := 2, bytes := 32 }),
  (84, { desc := .int .u64, zero := (.int .u64 0), size := 1, bytes := 8 }),
  (89, { desc := .array 256 4, zero := (.agg #[(.bool false), (.bool false), (.bool false), (.bool false), (.bool false), (.bool false), (.bool false), (.bool false), (.bool false), (.bool false), (.bool false), (.bool false), (.bool false), (.bool false), (.bool false), (.bool false), (.bool false), (.bool false), (.bool false), (.bool false), (.bool false), (.bool false), (.bool false), (.bool false), (.bool false), (.bool false), (.bool false), (.bool false), (.bool false), (.bool false), (.bool false), (.bool false), (.bool false), (.bool false), (.bool false), (.bool false), (.bool false), (.bool false), (.bool false), (.bool false), (.bool false), (.bool false), (.bool false), (.bool false), (.bool false), (.bool false), (.bool false), (.bool false), (.bool false), (.bool false), (.bool false), (.bool false), (.bool false), (.bool false), (.bool false), (.bool false), (.bool false), (.bool false), (.bool false), (.bool false), (.bool false), (.bool false), (.bool false), (.bool false), (.bool false), (.bool false), (.bool false), (.bool false), (.bool false), (.bool false), (.bool false), (.bool false), (.bool false), (.bool false), (.bool false), (.bool false), (.bool false), (.bool false), (.bool false), (.bool false), (.bool false), (.bool false), (.bool false), (.bool false), (.bool false), (.bool false), (.bool false), (.bool false), (.bool false), (.bool false), (.bool false), (.bool false), (.bool false), (.bool false), (.bool false), (.bool false), (.bool false), (.bool false), (.bool false), (.bool false), (.bool false), (.bool false), (.bool false), (.bool false), (.bool false), (.bool false), (.bool false), (.bool false), (.bool false), (.bool false), (.bool false), (.bool false), (.bool false), (.bool false), (.bool false), (.bool false), (.bool false), (.bool false), (.bool false), (.bool false), (.bool false), (.bool false), (.bool false), (.bool false), (.bool false), (.bool false), (.bool false), (.bool false), (.bool false), (.bool false), (.bool false), (.bool false), (.bool false), (.bool false), (.bool false), (.bool false), (.bool false), (.bool false), (.bool false), (.bool false), (.bool false), (.bool false), (.bool false), (.bool false), (.bool false), (.bool false), (.bool false), (.bool false), (.bool false), (.bool false), (.bool false), (.bool false), (.bool false), (.bool false), (.bool false), (.bool false), (.bool false), (.bool false), (.bool false), (.bool false), (.bool false), (.bool false), (.bool false), (.bool false), (.bool false), (.bool false), (.bool false), (.bool false), (.bool false), (.bool false), (.bool false), (.bool false), (.bool false), (.bool false), (.bool false), (.bool false), (.bool false), (.bool false), (.bool false), (.bool false), (.bool false), (.bool false), (.bool false), (.bool false), (.bool false), (.bool false), (.bool false), (.bool false), (.bool false), (.bool false), (.bool false), (.bool false), (.bool false), (.bool false), (.bool false), (.bool false), (.bool false), (.bool false), (.bool false), (.bool false), (.bool false), (.bool false), (.bool false), (.bool false), (.bool false), (.bool false), (.bool false), (.bool false), (.bool false), (.bool false), (.bool false), (.bool false), (.bool false), (.bool false), (.bool false), (.bool false), (.bool false), (.bool false), (.bool false), (.bool false), (.bool false), (.bool false), (.bool false), (.bool false), (.bool false), (.bool false), (.bool false), (.bool false), (.bool false), (.bool false), (.bool false), (.bool false), (.bool false), (.bool false), (.bool false), (.bool false), (.bool false), (.bool false), (.bool false), (.bool false), (.bool false), (.bool false), (.bool false), (.bool false), (.bool false), (.bool false), (.bool false), (.bool false), (.bool false), (.bool false), (.bool false), (.bool false), (.bool false), (.bool false), (.bool false), (.bool false)]), size := 256, bytes := 256 }),
  (93, { desc := .pointer 89, zero := (.pointer none), size := 1, bytes := 8 }),
  (96, { desc := .pointer 5, zero := (.pointer none), size := 1, bytes := 8 }),
  (103, { desc := .pointer 118, zero := (.pointer none), size := 1, bytes := 8 }),
  (106, { desc := .array 24 5, zero := (.agg #[(.int .u8 0), (.int .u8 0), (.int .u8 0), (.int .u8 0), (.int .u8 0), (.int .u8 0), (.int .u8 0), (.int .u8 0), (.int .u8 0), (.int .u8 0), (.int .u8 0), (.int .u8 0), (.int .u8 0), (.int .u8 0), (.int .u8 0), (.int .u8 0), (.int .u8 0), (.int .u8 0), (.int .u8 0), (.int .u8 0), (.int .u8 0), (.int .u8 0), (.int .u8 0), (.int .u8 0)]), size := 24, bytes := 24 }),
  (107, { desc := .int .u64, zero := (.int .u64 0), size := 1, bytes := 8 }),
  (112, { desc := .unsafePointer, zero := (.pointer none), size := 1, bytes := 8 }),
  (118, { desc := .struct #[{ name := "Func", type := 9, offset := 0, embedded := false, tag := "", pkgPath := "", byteOffset := 0 }, { name := "Num", type := 9, offset := 1, embedded := false, tag := "", pkgPath := "", byteOffset := 16 }, { name := "Err", type := 77, offset := 2, embedded := false, tag := "", pkgPath := "", byteOffset := 32 }], zero := (.agg #[(.string ⟨#[]⟩), (.string ⟨#[]⟩), .nilIface]), size := 3, bytes := 48 }),
  (122, { desc := .array 20 107, zero := (.agg #[(.int .u64 0), (.int .u64 0), (.int .u64 0), (.int .u64 0), (.int .u64 0), (.int .u64 0), (.int .u64 0), (.int .u64 0), (.int .u64 0), (.int .u64 0), (.int .u64 0), (.int .u64 0), (.int .u64 0), (.int .u64 0), (.int .u64 0), (.int .u64 0), (.int .u64 0), (.int .u64 0), (.int .u64 0), (.int .u64 0)]), size := 20, bytes := 160 }),
  (123, { desc := .array 65 5, zero := (.agg #[(.int .u8 0), (.int .u8 0), (.int .u8 0), (.int .u8 0), (.int .u8 0), (.int .u8 0), (.int .u8 0), (.int .u8 0), (.int .u8 0), (.int .u8 0), (.int .u8 0), (.int .u8 0), (.int .u8 0), (.int .u8 0), (.int .u8 0), (.int .u8 0), (.int .u8 0), (.int .u8 0), (.int .u8 0), (.int .u8 0), (.int .u8 0), (.int .u8 0), (.int .u8 0), (.int .u8 0), (.int .u8 0), (.int .u8 0), (.int .u8 0), (.int .u8 0), (.int .u8 0), (.int .u8 0), (.int .u8 0), (.int .u8 0), (.int .u8 0), (.int .u8 0), (.int .u8 0), (.int .u8 0), (.int .u8 0), (.int .u8 0), (.int .u8 0), (.int .u8 0), (.int .u8 0), (.int .u8 0), (.int .u8 0), (.int .u8 0), (.int .u8 0), (.int .u8 0), (.int .u8 0), (.int .u8 0), (.int .u8 0), (.int .u8 0), (.int .u8 0), (.int .u8 0), (.int .u8 0), (.int .u8 0), (.int .u8 0), (.int .u8 0), (.int .u8 0), (.int .u8 0), (.int .u8 0), (.int .u8 0), (.int .u8 0), (.int .u8 0), (.int .u8 0), (.int .u8 0), (.int .u8 0)]), size := 65, bytes := 65 }),
  (125, { desc := .array 256 5, zero := (.agg #[(.int .u8 0), (.int .u8 0), (.int .u8 0), (.int .u8 0), (.int .u8 0), (.int .u8 0), (.int .u8 0), (.int .u8 0), (.int .u8 0), (.int .u8 0), (.int .u8 0), (.int .u8 0), (.int .u8 0), (.int .u8 0), (.int .u8 0), (.int .u8 0), (.int .u8 0), (.int .u8 0), (.int .u8 0), (.int .u8 0), (.int .u8 0), (.int .u8 0), (.int .u8 0), (.int .u8 0), (.int .u8 0), (.int .u8 0), (.int .u8 0), (.int .u8 0), (.int .u8 0), (.int .u8 0), (.int .u8 0), (.int .u8 0), (.int .u8 0), (.int .u8 0), (.int .u8 0), (.int .u8 0), (.int .u8 0), (.int .u8 0), (.int .u8 0), (.int .u8 0), (.int .u8 0), (.int .u8 0), (.int .u8 0), (.int .u8 0), (.int .u8 0), (.int .u8 0), (.int .u8 0), (.int .u8 0), (.int .u8 0), (.int .u8 0), (.int .u8 0), (.int .u8 0), (.int .u8 0), (.int .u8 0), (.int .u8 0), (.int .u8 0), (.int .u8 0), (.int .u8 0), (.int .u8 0), (.int .u8 0), (.int .u8 0), (.int .u8 0), (.int .u8 0), (.int .u8 0), (.int .u8 0), (.int .u8 0), (.int .u8 0), (.int .u8 0), (.int .u8 0), (.int .u8 0), (.int .u8 0), (.int .u8 0), (.int .u8 0), (.int .u8 0), (.int .u8 0), (.int .u8 0), (.int .u8 0), (.int .u8 0), (.int .u8 0), (.int .u8 0), (.int .u8 0), (.int .u8 0), (.int .u8 0), (.int .u8 0), (.int .u8 0), (.int .u8 0), (.int .u8 0), (.int .u8 0), (.int .u8 0), (.int .u8 0), (.int .u8 0), (.int .u8 0), (.int .u8 0), (.int .u8 0), (.int .u8 0), (.int .u8 0), (.int .u8 0), (.int .u8 0), (.int .u8 0), (.int .u8 0), (.int .u8 0), (.int .u8 0), (.int .u8 0), (.int .u8 0), (.int .u8 0), (.int .u8 0), (.int .u8 0), (.int .u8 0), (.int .u8 0), (.int .u8 0), (.int .u8 0), (.int .u8 0), (.int .u8 0), (.int .u8 0), (.int .u8 0), (.int .u8 0), (.int .u8 0), (.int .u8 0), (.int .u8 0), (.int .u8 0), (.int .u8 0), (.int .u8 0), (.int .u8 0), (.int .u8 0), (.int .u8 0), (.int .u8 0), (.int .u8 0), (.int .u8 0), (.int .u8 0), (.int .u8 0), (.int .u8 0), (.int .u8 0), (.int .u8 0), (.int .u8 0), (.int .u8 0), (.int .u8 0), (.int .u8 0), (.int .u8 0), (.int .u8 0), (.int .u8 0), (.int .u8 0), (.int .u8 0), (.int .u8 0), (.int .u8 0), (.int .u8 0), (.int .u8 0), (.int .u8 0), (.int .u8 0), (.int .u8 0), (.int .u8 0), (.int .u8 0), (.int .u8 0), (.int .u8 0), (.int .u8 0), (.int .u8 0), (.int .u8 0), (.int .u8 0), (.int .u8 0), (.int .u8 0), (.int .u8 0), (.int .u8 0), (.int .u8 0), (.int .u8 0), (.int .u8 0), (.int .u8 0), (.int .u8 0), (.int .u8 0), (.int .u8 0), (.int .u8 0), (.int .u8 0), (.int .u8 0), (.int .u8 0), (.int .u8 0), (.int .u8 0), (.int .u8 0), (.int .u8 0), (.int .u8 0), (.int .u8 0), (.int .u8 0), (.int .u8 0), (.int .u8 0), (.int .u8 0), (.int .u8 0), (.int .u8 0), (.int .u8 0), (.int .u8 0), (.int .u8 0), (.int .u8 0), (.int .u8 0), (.int .u8 0), (.int .u8 0), (.int .u8 0), (.int .u8 0), (.int .u8 0), (.int .u8 0), (.int .u8 0), (.int .u8 0), (.int .u8 0), (.int .u8 0), (.int .u8 0), (.int .u8 0), (.int .u8 0), (.int .u8 0), (.int .u8 0), (.int .u8 0), (.int .u8 0), (.int .u8 0), (.int .u8 0), (.int .u8 0), (.int .u8 0), (.int .u8 0), (.int .u8 0), (.int .u8 0), (.int .u8 0), (.int .u8 0), (.int .u8 0), (.int .u8 0), (.int .u8 0), (.int .u8 0), (.int .u8 0), (.int .u8 0), (.int .u8 0), (.int .u8 0), (.int .u8 0), (.int .u8 0), (.int .u8 0), (.int .u8 0), (.int .u8 0), (.int .u8 0), (.int .u8 0), (.int .u8 0), (.int .u8 0), (.int .u8 0), (.int .u8 0), (.int .u8 0), (.int .u8 0), (.int .u8 0), (.int .u8 0), (.int .u8 0), (.int .u8 0), (.int .u8 0), (.int .u8 0), (.int .u8 0), (.int .u8 0), (.int .u8 0), (.int .u8 0), (.int .u8 0), (.int .u8 0), (.int .u8 0), (.int .u8 0), (.int .u8 0), (.int .u8 0), (.int .u8 0), (.int .u8 0), (.int .u8 0), (.int .u8 0)]), size := 256, bytes := 256 }),
  (127, { desc := .struct #[{ name := "lo", type := 5, offset := 0, embedded := false, tag := "", pkgPath := "unicode/utf8", byteOffset := 0 }, { name := "hi", type := 5, offset := 1, embedded := false, tag := "", pkgPath := "unicode/utf8", byteOffset := 1 }], zero := (.agg #[(.int .u8 0), (.int .u8 0)]), size := 2, bytes := 2, eqv := true }),
  (128, { desc := .array 16 127, zero := (.agg #[(.int .u8 0), (.int .u8 0), (.int .u8 0), (.int .u8 0), (.int .u8 0), (.int .u8 0), (.int .u8 0), (.int .u8 0), (.int .u8 0), (.int .u8 0), (.int .u8 0), (.int .u8 0), (.int .u8 0), (.int .u8 0), (.int .u8 0), (.int .u8 0), (.int .u8 0), (.int .u8 0), (.int .u8 0), (.int .u8 0), (.int .u8 0), (.int .u8 0), (.int .u8 0), (.int .u8 0), (.int .u8 0), (.int .u8 0), (.int .u8 0), (.int .u8 0), (.int .u8 0), (.int .u8 0), (.int .u8 0), (.int .u8 0)]), size := 32, bytes := 32 }),
  (133, { desc := .struct #[{ name := "s", type := 9, offset := 0, embedded := false, tag := "", pkgPath := "errors", byteOffset := 0 }], zero := (.agg #[(.string ⟨#[]⟩)]), size := 1, bytes := 16, eqv := true }),
  (135, { desc := .array 32 5, zero := (.agg #[(.int .u8 0), (.int .u8 0), (.int .u8 0), (.int .u8 0), (.int .u8 0), (.int .u8 0), (.int .u8 0), (.int .u8 0), (.int .u8 0), (.int .u8 0), (.int .u8 0), (.int .u8 0), (.int .u8 0), (.int .u8 0), (.int .u8 0), (.int .u8 0), (.int .u8 0), (.int .u8 0), (.int .u8 0), (.int .u8 0), (.int .u8 0), (.int .u8 0), (.int .u8 0), (.int .u8 0), (.int .u8 0), (.int .u8 0), (.int .u8 0), (.int .u8 0), (.int .u8 0), (.int .u8 0), (.int .u8 0), (.int .u8 0)]), size := 32, bytes := 32 }),
  (136, { desc := .array 64 5, zero := (.agg #[(.int .u8 0), (.int .u8 0), (.int .u8 0), (.int .u8 0), (.int .u8 0), (.int .u8 0), (.int .u8 0), (.int .u8 0), (.int .u8 0), (.int .u8 0), (.int .u8 0), (.int .u8 0), (.int .u8 0), (.int .u8 0), (.int .u8 0), (.int .u8 0), (.int .u8 0), (.int .u8 0), (.int .u8 0), (.int .u8 0), (.int .u8 0), (.int .u8 0), (.int .u8 0), (.int .u8 0), (.int .u8 0), (.int .u8 0), (.int .u8 0), (.int .u8 0), (.int .u8 0), (.int .u8 0), (.int .u8 0), (.int .u8 0), (.int .u8 0), (.int .u8 0), (.int .u8 0), (.int .u8 0), (.int .u8 0), (.int .u8 0), (.int .u8 0), (.int .u8 0), (.int .u8 0), (.int .u8 0), (.int .u8 0), (.int .u8 0), (.int .u8 0), (.int .u8 0), (.int .u8 0), (.int .u8 0), (.int .u8 0), (.int .u8 0), (.int .u8 0), (.int .u8 0), (.int .u8 0), (.int .u8 0), (.int .u8 0), (.int .u8 0), (.int .u8 0), (.int .u8 0), (.int .u8 0), (.int .u8 0), (.int .u8 0), (.int .u8 0), (.int .u8 0), (.int .u8 0)]), size := 64, bytes := 64 })]

def OkRow (P : Program) (T : TT) (t : Nat) (i : TI) : Prop := P.underlying t = some i.desc ∧ (P.info? t).map (fun j => (j.zero, j.size, j.bytes)) = some (some i.zero, i.size, i.bytes) ∧
  (i.eqv = true → P.stoodInHeld t = false ∧ P.eqGuardType P.depth t = false) ∧ (∀ fs, i.desc = .struct fs → fieldsKnown T fs = true)

theorem row2 : OkRow Tryd.prog T 2 { desc := .int .i64, zero := (.int .i64 0), size := 1, bytes := 8 } :=
  ⟨by kernel_rfl, by kernel_rfl, fun h => (by cases h), fun fs h => (by cases h)⟩
theorem row3 : OkRow Tryd.prog T 3 { desc := .int .i64, zero := (.int .i64 0), size := 1, bytes := 8 } :=
  ⟨by kernel_rfl, by kernel_rfl, fun h => (by cases h), fun fs h => (by cases h)⟩
theorem row4 : OkRow Tryd.prog T 4 { desc := .bool, zero := (.bool false), size := 1, bytes := 1 } :=
  ⟨by kernel_rfl, by kernel_rfl, fun h => (by cases h), fun fs h => (by cases h)⟩
theorem row5 : OkRow Tryd.prog T 5 { desc := .int .u8, zero := (.int .u8 0), size := 1, bytes := 1 } :=
  ⟨by kernel_rfl, by kernel_rfl, fun h => (by cases h), fun fs h => (by cases h)⟩
theorem row9 : OkRow Tryd.prog T 9 { desc := .string, zero := (.string ⟨#[]⟩), size := 1, bytes := 16 } :=
  ⟨by kernel_rfl, by kernel_rfl, fun h => (by cases h), fun fs h => (by cases h)⟩
theorem row21 : OkRow Tryd.prog T 21 { desc := .int .i32, zero := (.int .i32 0), size := 1, bytes := 4 } :=
  ⟨by kernel_rfl, by kernel_rfl, fun h => (by cases h), fun fs h => (by cases h)⟩
theorem row23 : OkRow Tryd.prog T 23 { desc := .struct #[{ name := "Kind", type := 3, offset := 0, embedded := false, tag := "", pkgPath := "", byteOffset := 0 }, { name := "Num", type := 3, offset := 1, embedded := false, tag := "", pkgPath := "", byteOffset := 8 }, { name := "Text", type := 9, offset := 2, embedded := false, tag := "", pkgPath := "", byteOffset := 16 }], zero := (.agg #[(.int .i64 0), (.int .i64 0), (.string ⟨#[]⟩)]), size := 3, bytes := 32, eqv := true } :=
  ⟨by kernel_rfl, by kernel_rfl, fun _ => ⟨by kernel_rfl, by kernel_rfl⟩, fun fs h => (by cases h; kernel_rfl)⟩
theorem row24 : OkRow Tryd.prog T 24 { desc := .int .i64, zero := (.int .i64 0), size := 1, bytes := 8 } :=
  ⟨by kernel_rfl, by kernel_rfl, fun h => (by cases h), fun fs h => (by cases h)⟩
theorem row39 : OkRow Tryd.prog T 39 { desc := .func #[23, 23] #[3] false, zero := .nilFunc, size := 1, bytes := 8 } :=
  ⟨by kernel_rfl, by kernel_rfl, fun h => (by cases h), fun fs h => (by cases h)⟩
theorem row42 : OkRow Tryd.prog T 42 { desc := .slice 5, zero := (.slice none 0 0), size := 1, bytes := 24 } :=
  ⟨by kernel_rfl, by kernel_rfl, fun h => (by cases h), fun fs h => (by cases h)⟩
theorem row44 : OkRow Tryd.prog T 44 { desc := .slice 23, zero := (.slice none 0 0), size := 1, bytes := 24 } :=
  ⟨by kernel_rfl, by kernel_rfl, fun h => (by cases h), fun fs h => (by cases h)⟩
theorem row53 : OkRow Tryd.prog T 53 { desc := .func #[5] #[4] false, zero := .nilFunc, size := 1, bytes := 8 } :=
  ⟨by kernel_rfl, by kernel_rfl, fun h => (by cases h), fun fs h => (by cases h)⟩
theorem row57 : OkRow Tryd.prog T 57 { desc := .int .u32, zero := (.int .u32 0), size := 1, bytes := 4 } :=
  ⟨by kernel_rfl, by kernel_rfl, fun h => (by cases h), fun fs h => (by cases h)⟩
theorem row60 : OkRow Tryd.prog T 60 { desc := .slice 39, zero := (.slice none 0 0), size := 1, bytes := 24 } :=
  ⟨by kernel_rfl, by kernel_rfl, fun h => (by cases h), fun fs h => (by cases h)⟩
theorem row74 : OkRow Tryd.prog T 74 { desc := .struct #[{ name := "rest", type := 9, offset := 0, embedded := false, tag := "", pkgPath := "tidegate/value", byteOffset := 0 }, { name := "out", type := 42, offset := 1, embedded := false, tag := "", pkgPath := "tidegate/value", byteOffset := 16 }], zero := (.agg #[(.string ⟨#[]⟩), (.slice none 0 0)]), size := 2, bytes := 40 } :=
  ⟨by kernel_rfl, by kernel_rfl, fun h => (by cases h), fun fs h => (by cases h; kernel_rfl)⟩
theorem row77 : OkRow Tryd.prog T 77 { desc := .interface #[("Error", 85)], zero := .nilIface, size := 1, bytes := 16 } :=
  ⟨by kernel_rfl, by kernel_rfl, fun h => (by cases h), fun fs h => (by cases h)⟩
theorem row80 : OkRow Tryd.prog T 80 { desc := .pointer 82, zero := (.pointer none), size := 1, bytes := 8 } :=
  ⟨by kernel_rfl, by kernel_rfl, fun h => (by cases h), fun fs h => (by cases h)⟩
theorem row82 : OkRow Tryd.prog T 82 { desc := .struct #[{ name := "addr", type := 80, offset := 0, embedded := false, tag := "", pkgPath := "strings", byteOffset := 0 }, { name := "buf", type := 42, offset := 1, embedded := false, tag := "", pkgPath := "strings", byteOffset := 8 }], zero := (.agg #[(.pointer none), (.slice none 0 0)]), size := 2, bytes := 32 } :=
  ⟨by kernel_rfl, by kernel_rfl, fun h => (by cases h), fun fs h => (by cases h; kernel_rfl)⟩
theorem row84 : OkRow Tryd.prog T 84 { desc := .int .u64, zero := (.int .u64 0), size := 1, bytes := 8 } :=
  ⟨by kernel_rfl, by kernel_rfl, fun h => (by cases h), fun fs h => (by cases h)⟩
theorem row89 : OkRow Tryd.prog T 89 { desc := .array 256 4, zero := (.agg #[(.bool false), (.bool false), (.bool false), (.bool false), (.bool false), (.bool false), (.bool false), (.bool false), (.bool false), (.bool false), (.bool false), (.bool false), (.bool false), (.bool false), (.bool false), (.bool false), (.bool false), (.bool false), (.bool false), (.bool false), (.bool false), (.bool false), (.bool false), (.bool false), (.bool false), (.bool false), (.bool false), (.bool false), (.bool false), (.bool false), (.bool false), (.bool false), (.bool false), (.bool false), (.bool false), (.bool false), (.bool false), (.bool false), (.bool false), (.bool false), (.bool false), (.bool false), (.bool false), (.bool false), (.bool false), (.bool false), (.bool false), (.bool false), (.bool false), (.bool false), (.bool false), (.bool false), (.bool false), (.bool false), (.bool false), (.bool false), (.bool false), (.bool false), (.bool false), (.bool false), (.bool false), (.bool false), (.bool false), (.bool false), (.bool false), (.bool false), (.bool false), (.bool false), (.bool false), (.bool false), (.bool false), (.bool false), (.bool false), (.bool false), (.bool false), (.bool false), (.bool false), (.bool false), (.bool false), (.bool false), (.bool false), (.bool false), (.bool false), (.bool false), (.bool false), (.bool false), (.bool false), (.bool false), (.bool false), (.bool false), (.bool false), (.bool false), (.bool false), (.bool false), (.bool false), (.bool false), (.bool false), (.bool false), (.bool false), (.bool false), (.bool false), (.bool false), (.bool false), (.bool false), (.bool false), (.bool false), (.bool false), (.bool false), (.bool false), (.bool false), (.bool false), (.bool false), (.bool false), (.bool false), (.bool false), (.bool false), (.bool false), (.bool false), (.bool false), (.bool false), (.bool false), (.bool false), (.bool false), (.bool false), (.bool false), (.bool false), (.bool false), (.bool false), (.bool false), (.bool false), (.bool false), (.bool false), (.bool false), (.bool false), (.bool false), (.bool false), (.bool false), (.bool false), (.bool false), (.bool false), (.bool false), (.bool false), (.bool false), (.bool false), (.bool false), (.bool false), (.bool false), (.bool false), (.bool false), (.bool false), (.bool false), (.bool false), (.bool false), (.bool false), (.bool false), (.bool false), (.bool false), (.bool false), (.bool false), (.bool false), (.bool false), (.bool false), (.bool false), (.bool false), (.bool false), (.bool false), (.bool false), (.bool false), (.bool false), (.bool false), (.bool false), (.bool false), (.bool false), (.bool false), (.bool false), (.bool false), (.bool false), (.bool false), (.bool false), (.bool false), (.bool false), (.bool false), (.bool false), (.bool false), (.bool false), (.bool false), (.bool false), (.bool false), (.bool false), (.bool false), (.bool false), (.bool false), (.bool false), (.bool false), (.bool false), (.bool false), (.bool false), (.bool false), (.bool false), (.bool false), (.bool false), (.bool false), (.bool false), (.bool false), (.bool false), (.bool false), (.bool false), (.bool false), (.bool false), (.bool false), (.bool false), (.bool false), (.bool false), (.bool false), (.bool false), (.bool false), (.bool false), (.bool false), (.bool false), (.bool false), (.bool false), (.bool false), (.bool false), (.bool false), (.bool false), (.bool false), (.bool false), (.bool false), (.bool false), (.bool false), (.bool false), (.bool false), (.bool false), (.bool false), (.bool false), (.bool false), (.bool false), (.bool false), (.bool false), (.bool false), (.bool false), (.bool false), (.bool false), (.bool false), (.bool false), (.bool false), (.bool false), (.bool false), (.bool false), (.bool false), (.bool false), (.bool false), (.bool false), (.bool false), (.bool false), (.bool false)]), size := 256, bytes := 256 } :=
  ⟨by kernel_rfl, by kernel_rfl, fun h => (by cases h), fun fs h => (by cases h)⟩
theorem row93 : OkRow Tryd.prog T 93 { desc := .pointer 89, zero := (.pointer none), size := 1, bytes := 8 } :=
  ⟨by kernel_rfl, by kernel_rfl, fun h => (by cases h), fun fs h => (by cases h)⟩
theorem row96 : OkRow Tryd.prog T 96 { desc := .pointer 5, zero := (.pointer none), size := 1, bytes := 8 } :=
  ⟨by kernel_rfl, by kernel_rfl, fun h => (by cases h), fun fs h => (by cases h)⟩
theorem row103 : OkRow Tryd.prog T 103 { desc := .pointer 118, zero := (.pointer none), size := 1, bytes := 8 } :=
  ⟨by kernel_rfl, by kernel_rfl, fun h => (by cases h), fun fs h => (by cases h)⟩
theorem row106 : OkRow Tryd.prog T 106 { desc := .array 24 5, zero := (.agg #[(.int .u8 0), (.int .u8 0), (.int .u8 0), (.int .u8 0), (.int .u8 0), (.int .u8 0), (.int .u8 0), (.int .u8 0), (.int .u8 0), (.int .u8 0), (.int .u8 0), (.int .u8 0), (.int .u8 0), (.int .u8 0), (.int .u8 0), (.int .u8 0), (.int .u8 0), (.int .u8 0), (.int .u8 0), (.int .u8 0), (.int .u8 0), (.int .u8 0), (.int .u8 0), (.int .u8 0)]), size := 24, bytes := 24 } :=
  ⟨by kernel_rfl, by kernel_rfl, fun h => (by cases h), fun fs h => (by cases h)⟩
theorem row107 : OkRow Tryd.prog T 107 { desc := .int .u64, zero := (.int .u64 0), size := 1, bytes := 8 } :=
  ⟨by kernel_rfl, by kernel_rfl, fun h => (by cases h), fun fs h => (by cases h)⟩
theorem row112 : OkRow Tryd.prog T 112 { desc := .unsafePointer, zero := (.pointer none), size := 1, bytes := 8 } :=
  ⟨by kernel_rfl, by kernel_rfl, fun h => (by cases h), fun fs h => (by cases h)⟩
theorem row118 : OkRow Tryd.prog T 118 { desc := .struct #[{ name := "Func", type := 9, offset := 0, embedded := false, tag := "", pkgPath := "", byteOffset := 0 }, { name := "Num", type := 9, offset := 1, embedded := false, tag := "", pkgPath := "", byteOffset := 16 }, { name := "Err", type := 77, offset := 2, embedded := false, tag := "", pkgPath := "", byteOffset := 32 }], zero := (.agg #[(.string ⟨#[]⟩), (.string ⟨#[]⟩), .nilIface]), size := 3, bytes := 48 } :=
  ⟨by kernel_rfl, by kernel_rfl, fun h => (by cases h), fun fs h => (by cases h; kernel_rfl)⟩
theorem row122 : OkRow Tryd.prog T 122 { desc := .array 20 107, zero := (.agg #[(.int .u64 0), (.int .u64 0), (.int .u64 0), (.int .u64 0), (.int .u64 0), (.int .u64 0), (.int .u64 0), (.int .u64 0), (.int .u64 0), (.int .u64 0), (.int .u64 0), (.int .u64 0), (.int .u64 0), (.int .u64 0), (.int .u64 0), (.int .u64 0), (.int .u64 0), (.int .u64 0), (.int .u64 0), (.int .u64 0)]), size := 20, bytes := 160 } :=
  ⟨by kernel_rfl, by kernel_rfl, fun h => (by cases h), fun fs h => (by cases h)⟩
theorem row123 : OkRow Tryd.prog T 123 { desc := .array 65 5, zero := (.agg #[(.int .u8 0), (.int .u8 0), (.int .u8 0), (.int .u8 0), (.int .u8 0), (.int .u8 0), (.int .u8 0), (.int .u8 0), (.int .u8 0), (.int .u8 0), (.int .u8 0), (.int .u8 0), (.int .u8 0), (.int .u8 0), (.int .u8 0), (.int .u8 0), (.int .u8 0), (.int .u8 0), (.int .u8 0), (.int .u8 0), (.int .u8 0), (.int .u8 0), (.int .u8 0), (.int .u8 0), (.int .u8 0), (.int .u8 0), (.int .u8 0), (.int .u8 0), (.int .u8 0), (.int .u8 0), (.int .u8 0), (.int .u8 0), (.int .u8 0), (.int .u8 0), (.int .u8 0), (.int .u8 0), (.int .u8 0), (.int .u8 0), (.int .u8 0), (.int .u8 0), (.int .u8 0), (.int .u8 0), (.int .u8 0), (.int .u8 0), (.int .u8 0), (.int .u8 0), (.int .u8 0), (.int .u8 0), (.int .u8 0), (.int .u8 0), (.int .u8 0), (.int .u8 0), (.int .u8 0), (.int .u8 0), (.int .u8 0), (.int .u8 0), (.int .u8 0), (.int .u8 0), (.int .u8 0), (.int .u8 0), (.int .u8 0), (.int .u8 0), (.int .u8 0), (.int .u8 0), (.int .u8 0)]), size := 65, bytes := 65 } :=
  ⟨by kernel_rfl, by kernel_rfl, fun h => (by cases h), fun fs h => (by cases h)⟩
theorem row125 : OkRow Tryd.prog T 125 { desc := .array 256 5, zero := (.agg #[(.int .u8 0), (.int .u8 0), (.int .u8 0), (.int .u8 0), (.int .u8 0), (.int .u8 0), (.int .u8 0), (.int .u8 0), (.int .u8 0), (.int .u8 0), (.int .u8 0), (.int .u8 0), (.int .u8 0), (.int .u8 0), (.int .u8 0), (.int .u8 0), (.int .u8 0), (.int .u8 0), (.int .u8 0), (.int .u8 0), (.int .u8 0), (.int .u8 0), (.int .u8 0), (.int .u8 0), (.int .u8 0), (.int .u8 0), (.int .u8 0), (.int .u8 0), (.int .u8 0), (.int .u8 0), (.int .u8 0), (.int .u8 0), (.int .u8 0), (.int .u8 0), (.int .u8 0), (.int .u8 0), (.int .u8 0), (.int .u8 0), (.int .u8 0), (.int .u8 0), (.int .u8 0), (.int .u8 0), (.int .u8 0), (.int .u8 0), (.int .u8 0), (.int .u8 0), (.int .u8 0), (.int .u8 0), (.int .u8 0), (.int .u8 0), (.int .u8 0), (.int .u8 0), (.int .u8 0), (.int .u8 0), (.int .u8 0), (.int .u8 0), (.int .u8 0), (.int .u8 0), (.int .u8 0), (.int .u8 0), (.int .u8 0), (.int .u8 0), (.int .u8 0), (.int .u8 0), (.int .u8 0), (.int .u8 0), (.int .u8 0), (.int .u8 0), (.int .u8 0), (.int .u8 0), (.int .u8 0), (.int .u8 0), (.int .u8 0), (.int .u8 0), (.int .u8 0), (.int .u8 0), (.int .u8 0), (.int .u8 0), (.int .u8 0), (.int .u8 0), (.int .u8 0), (.int .u8 0), (.int .u8 0), (.int .u8 0), (.int .u8 0), (.int .u8 0), (.int .u8 0), (.int .u8 0), (.int .u8 0), (.int .u8 0), (.int .u8 0), (.int .u8 0), (.int .u8 0), (.int .u8 0), (.int .u8 0), (.int .u8 0), (.int .u8 0), (.int .u8 0), (.int .u8 0), (.int .u8 0), (.int .u8 0), (.int .u8 0), (.int .u8 0), (.int .u8 0), (.int .u8 0), (.int .u8 0), (.int .u8 0), (.int .u8 0), (.int .u8 0), (.int .u8 0), (.int .u8 0), (.int .u8 0), (.int .u8 0), (.int .u8 0), (.int .u8 0), (.int .u8 0), (.int .u8 0), (.int .u8 0), (.int .u8 0), (.int .u8 0), (.int .u8 0), (.int .u8 0), (.int .u8 0), (.int .u8 0), (.int .u8 0), (.int .u8 0), (.int .u8 0), (.int .u8 0), (.int .u8 0), (.int .u8 0), (.int .u8 0), (.int .u8 0), (.int .u8 0), (.int .u8 0), (.int .u8 0), (.int .u8 0), (.int .u8 0), (.int .u8 0), (.int .u8 0), (.int .u8 0), (.int .u8 0), (.int .u8 0), (.int .u8 0), (.int .u8 0), (.int .u8 0), (.int .u8 0), (.int .u8 0), (.int .u8 0), (.int .u8 0), (.int .u8 0), (.int .u8 0), (.int .u8 0), (.int .u8 0), (.int .u8 0), (.int .u8 0), (.int .u8 0), (.int .u8 0), (.int .u8 0), (.int .u8 0), (.int .u8 0), (.int .u8 0), (.int .u8 0), (.int .u8 0), (.int .u8 0), (.int .u8 0), (.int .u8 0), (.int .u8 0), (.int .u8 0), (.int .u8 0), (.int .u8 0), (.int .u8 0), (.int .u8 0), (.int .u8 0), (.int .u8 0), (.int .u8 0), (.int .u8 0), (.int .u8 0), (.int .u8 0), (.int .u8 0), (.int .u8 0), (.int .u8 0), (.int .u8 0), (.int .u8 0), (.int .u8 0), (.int .u8 0), (.int .u8 0), (.int .u8 0), (.int .u8 0), (.int .u8 0), (.int .u8 0), (.int .u8 0), (.int .u8 0), (.int .u8 0), (.int .u8 0), (.int .u8 0), (.int .u8 0), (.int .u8 0), (.int .u8 0), (.int .u8 0), (.int .u8 0), (.int .u8 0), (.int .u8 0), (.int .u8 0), (.int .u8 0), (.int .u8 0), (.int .u8 0), (.int .u8 0), (.int .u8 0), (.int .u8 0), (.int .u8 0), (.int .u8 0), (.int .u8 0), (.int .u8 0), (.int .u8 0), (.int .u8 0), (.int .u8 0), (.int .u8 0), (.int .u8 0), (.int .u8 0), (.int .u8 0), (.int .u8 0), (.int .u8 0), (.int .u8 0), (.int .u8 0), (.int .u8 0), (.int .u8 0), (.int .u8 0), (.int .u8 0), (.int .u8 0), (.int .u8 0), (.int .u8 0), (.int .u8 0), (.int .u8 0), (.int .u8 0), (.int .u8 0), (.int .u8 0), (.int .u8 0), (.int .u8 0), (.int .u8 0), (.int .u8 0), (.int .u8 0), (.int .u8 0), (.int .u8 0), (.int .u8 0), (.int .u8 0), (.int .u8 0), (.int .u8 0), (.int .u8 0), (.int .u8 0), (.int .u8 0), (.int .u8 0), (.int .u8 0), (.int .u8 0), (.int .u8 0), (.int .u8 0), (.int .u8 0)]), size := 256, bytes := 256 } :=
  ⟨by kernel_rfl, by kernel_rfl, fun h => (by cases h), fun fs h => (by cases h)⟩
theorem row127 : OkRow Tryd.prog T 127 { desc := .struct #[{ name := "lo", type := 5, offset := 0, embedded := false, tag := "", pkgPath := "unicode/utf8", byteOffset := 0 }, { name := "hi", type := 5, offset := 1, embedded := false, tag := "", pkgPath := "unicode/utf8", byteOffset := 1 }], zero := (.agg #[(.int .u8 0), (.int .u8 0)]), size := 2, bytes := 2, eqv := true } :=
  ⟨by kernel_rfl, by kernel_rfl, fun _ => ⟨by kernel_rfl, by kernel_rfl⟩, fun fs h => (by cases h; kernel_rfl)⟩
theorem row128 : OkRow Tryd.prog T 128 { desc := .array 16 127, zero := (.agg #[(.int .u8 0), (.int .u8 0), (.int .u8 0), (.int .u8 0), (.int .u8 0), (.int .u8 0), (.int .u8 0), (.int .u8 0), (.int .u8 0), (.int .u8 0), (.int .u8 0), (.int .u8 0), (.int .u8 0), (.int .u8 0), (.int .u8 0), (.int .u8 0), (.int .u8 0), (.int .u8 0), (.int .u8 0), (.int .u8 0), (.int .u8 0), (.int .u8 0), (.int .u8 0), (.int .u8 0), (.int .u8 0), (.int .u8 0), (.int .u8 0), (.int .u8 0), (.int .u8 0), (.int .u8 0), (.int .u8 0), (.int .u8 0)]), size := 32, bytes := 32 } :=
  ⟨by kernel_rfl, by kernel_rfl, fun h => (by cases h), fun fs h => (by cases h)⟩
theorem row133 : OkRow Tryd.prog T 133 { desc := .struct #[{ name := "s", type := 9, offset := 0, embedded := false, tag := "", pkgPath := "errors", byteOffset := 0 }], zero := (.agg #[(.string ⟨#[]⟩)]), size := 1, bytes := 16, eqv := true } :=
  ⟨by kernel_rfl, by kernel_rfl, fun _ => ⟨by kernel_rfl, by kernel_rfl⟩, fun fs h => (by cases h; kernel_rfl)⟩
theorem row135 : OkRow Tryd.prog T 135 { desc := .array 32 5, zero := (.agg #[(.int .u8 0), (.int .u8 0), (.int .u8 0), (.int .u8 0), (.int .u8 0), (.int .u8 0), (.int .u8 0), (.int .u8 0), (.int .u8 0), (.int .u8 0), (.int .u8 0), (.int .u8 0), (.int .u8 0), (.int .u8 0), (.int .u8 0), (.int .u8 0), (.int .u8 0), (.int .u8 0), (.int .u8 0), (.int .u8 0), (.int .u8 0), (.int .u8 0), (.int .u8 0), (.int .u8 0), (.int .u8 0), (.int .u8 0), (.int .u8 0), (.int .u8 0), (.int .u8 0), (.int .u8 0), (.int .u8 0), (.int .u8 0)]), size := 32, bytes := 32 } :=
  ⟨by kernel_rfl, by kernel_rfl, fun h => (by cases h), fun fs h => (by cases h)⟩
theorem row136 : OkRow Tryd.prog T 136 { desc := .array 64 5, zero := (.agg #[(.int .u8 0), (.int .u8 0), (.int .u8 0), (.int .u8 0), (.int .u8 0), (.int .u8 0), (.int .u8 0), (.int .u8 0), (.int .u8 0), (.int .u8 0), (.int .u8 0), (.int .u8 0), (.int .u8 0), (.int .u8 0), (.int .u8 0), (.int .u8 0), (.int .u8 0), (.int .u8 0), (.int .u8 0), (.int .u8 0), (.int .u8 0), (.int .u8 0), (.int .u8 0), (.int .u8 0), (.int .u8 0), (.int .u8 0), (.int .u8 0), (.int .u8 0), (.int .u8 0), (.int .u8 0), (.int .u8 0), (.int .u8 0), (.int .u8 0), (.int .u8 0), (.int .u8 0), (.int .u8 0), (.int .u8 0), (.int .u8 0), (.int .u8 0), (.int .u8 0), (.int .u8 0), (.int .u8 0), (.int .u8 0), (.int .u8 0), (.int .u8 0), (.int .u8 0), (.int .u8 0), (.int .u8 0), (.int .u8 0), (.int .u8 0), (.int .u8 0), (.int .u8 0), (.int .u8 0), (.int .u8 0), (.int .u8 0), (.int .u8 0), (.int .u8 0), (.int .u8 0), (.int .u8 0), (.int .u8 0), (.int .u8 0), (.int .u8 0), (.int .u8 0), (.int .u8 0)]), size := 64, bytes := 64 } :=
  ⟨by kernel_rfl, by kernel_rfl, fun h => (by cases h), fun fs h => (by cases h)⟩
theorem tOk : TOk Tryd.prog T := fun t i h => by
  have hm := look_mem h
  simp only [T, List.mem_cons, List.not_mem_nil, or_false, Prod.mk.injEq] at hm
  rcases hm with ⟨rfl, rfl⟩ | ⟨rfl, rfl⟩ | ⟨rfl, rfl⟩ | ⟨rfl, rfl⟩ | ⟨rfl, rfl⟩ | ⟨rfl, rfl⟩ | ⟨rfl, rfl⟩ | ⟨rfl, rfl⟩ | ⟨rfl, rfl⟩ | ⟨rfl, rfl⟩ | ⟨rfl, rfl⟩ | ⟨rfl, rfl⟩ | ⟨rfl, rfl⟩ | ⟨rfl, rfl⟩ | ⟨rfl, rfl⟩ | ⟨rfl, rfl⟩ | ⟨rfl, rfl⟩ | ⟨rfl, rfl⟩ | ⟨rfl, rfl⟩ | ⟨rfl, rfl⟩ | ⟨rfl, rfl⟩ | ⟨rfl, rfl⟩ | ⟨rfl, rfl⟩ | ⟨rfl, rfl⟩ | ⟨rfl, rfl⟩ | ⟨rfl, rfl⟩ | ⟨rfl, rfl⟩ | ⟨rfl, rfl⟩ | ⟨rfl, rfl⟩ | ⟨rfl, rfl⟩ | ⟨rfl, rfl⟩ | ⟨rfl, rfl⟩ | ⟨rfl, rfl⟩ | ⟨rfl, rfl⟩ | ⟨rfl, rfl⟩
  · exact row2
  · exact row3
  · exact row4
  · exact row5
  · exact row9
  · exact row21
  · exact row23
  · exact row24
  · exact row39
  · exact row42
  · exact row44
  · exact row53
  · exact row57
  · exact row60
  · exact row74
  · exact row77
  · exact row80
  · exact row82
  · exact row84
  · exact row89
  · exact row93
  · exact row96
  · exact row103
  · exact row106
  · exact row107
  · exact row112
  · exact row118
  · exact row122
  · exact row123
  · exact row125
  · exact row127
  · exact row128
  · exact row133
  · exact row135
  · exact row136
theorem T2 : look T 2 = some { desc := .int .i64, zero := (.int .i64 0), size := 1, bytes := 8 } := rfl
theorem T3 : look T 3 = some { desc := .int .i64, zero := (.int .i64 0), size := 1, bytes := 8 } := rfl
theorem T4 : look T 4 = some { desc := .bool, zero := (.bool false), size := 1, bytes := 1 } := rfl
theorem T5 : look T 5 = some { desc := .int .u8, zero := (.int .u8 0), size := 1, bytes := 1 } := rfl
theorem T9 : look T 9 = some { desc := .string, zero := (.string ⟨#[]⟩), size := 1, bytes := 16 } := rfl
theorem T21 : look T 21 = some { desc := .int .i32, zero := (.int .i32 0), size := 1, bytes := 4 } := rfl
theorem T23 : look T 23 = some { desc := .struct #[{ name := "Kind", type := 3, offset := 0, embedded := false, tag := "", pkgPath := "", byteOffset := 0 }, { name := "Num", type := 3, offset := 1, embedded := false, tag := "", pkgPath := "", byteOffset := 8 }, { name := "Text", type := 9, offset := 2, embedded := false, tag := "", pkgPath := "", byteOffset := 16 }], zero := (.agg #[(.int .i64 0), (.int .i64 0), (.string ⟨#[]⟩)]), size := 3, bytes := 32, eqv := true } := rfl
theorem T24 : look T 24 = some { desc := .int .i64, zero := (.int .i64 0), size := 1, bytes := 8 } := rfl
theorem T39 : look T 39 = some { desc := .func #[23, 23] #[3] false, zero := .nilFunc, size := 1, bytes := 8 } := rfl
theorem T42 : look T 42 = some { desc := .slice 5, zero := (.slice none 0 0), size := 1, bytes := 24 } := rfl
theorem T44 : look T 44 = some { desc := .slice 23, zero := (.slice none 0 0), size := 1, bytes := 24 } := rfl
theorem T53 : look T 53 = some { desc := .func #[5] #[4] false, zero := .nilFunc, size := 1, bytes := 8 } := rfl
theorem T57 : look T 57 = some { desc := .int .u32, zero := (.int .u32 0), size := 1, bytes := 4 } := rfl
theorem T60 : look T 60 = some { desc := .slice 39, zero := (.slice none 0 0), size := 1, bytes := 24 } := rfl
theorem T74 : look T 74 = some { desc := .struct #[{ name := "rest", type := 9, offset := 0, embedded := false, tag := "", pkgPath := "tidegate/value", byteOffset := 0 }, { name := "out", type := 42, offset := 1, embedded := false, tag := "", pkgPath := "tidegate/value", byteOffset := 16 }], zero := (.agg #[(.string ⟨#[]⟩), (.slice none 0 0)]), size := 2, bytes := 40 } := rfl
theorem T77 : look T 77 = some { desc := .interface #[("Error", 85)], zero := .nilIface, size := 1, bytes := 16 } := rfl
theorem T80 : look T 80 = some { desc := .pointer 82, zero := (.pointer none), size := 1, bytes := 8 } := rfl
theorem T82 : look T 82 = some { desc := .struct #[{ name := "addr", type := 80, offset := 0, embedded := false, tag := "", pkgPath := "strings", byteOffset := 0 }, { name := "buf", type := 42, offset := 1, embedded := false, tag := "", pkgPath := "strings", byteOffset := 8 }], zero := (.agg #[(.pointer none), (.slice none 0 0)]), size := 2, bytes := 32 } := rfl
theorem T84 : look T 84 = some { desc := .int .u64, zero := (.int .u64 0), size := 1, bytes := 8 } := rfl
theorem T89 : look T 89 = some { desc := .array 256 4, zero := (.agg #[(.bool false), (.bool false), (.bool false), (.bool false), (.bool false), (.bool false), (.bool false), (.bool false), (.bool false), (.bool false), (.bool false), (.bool false), (.bool false), (.bool false), (.bool false), (.bool false), (.bool false), (.bool false), (.bool false), (.bool false), (.bool false), (.bool false), (.bool false), (.bool false), (.bool false), (.bool false), (.bool false), (.bool false), (.bool false), (.bool false), (.bool false), (.bool false), (.bool false), (.bool false), (.bool false), (.bool false), (.bool false), (.bool false), (.bool false), (.bool false), (.bool false), (.bool false), (.bool false), (.bool false), (.bool false), (.bool false), (.bool false), (.bool false), (.bool false), (.bool false), (.bool false), (.bool false), (.bool false), (.bool false), (.bool false), (.bool false), (.bool false), (.bool false), (.bool false), (.bool false), (.bool false), (.bool false), (.bool false), (.bool false), (.bool false), (.bool false), (.bool false), (.bool false), (.bool false), (.bool false), (.bool false), (.bool false), (.bool false), (.bool false), (.bool false), (.bool false), (.bool false), (.bool false), (.bool false), (.bool false), (.bool false), (.bool false), (.bool false), (.bool false), (.bool false), (.bool false), (.bool false), (.bool false), (.bool false), (.bool false), (.bool false), (.bool false), (.bool false), (.bool false), (.bool false), (.bool false), (.bool false), (.bool false), (.bool false), (.bool false), (.bool false), (.bool false), (.bool false), (.bool false), (.bool false), (.bool false), (.bool false), (.bool false), (.bool false), (.bool false), (.bool false), (.bool false), (.bool false), (.bool false), (.bool false), (.bool false), (.bool false), (.bool false), (.bool false), (.bool false), (.bool false), (.bool false), (.bool false), (.bool false), (.bool false), (.bool false), (.bool false), (.bool false), (.bool false), (.bool false), (.bool false), (.bool false), (.bool false), (.bool false), (.bool false), (.bool false), (.bool false), (.bool false), (.bool false), (.bool false), (.bool false), (.bool false), (.bool false), (.bool false), (.bool false), (.bool false), (.bool false), (.bool false), (.bool false), (.bool false), (.bool false), (.bool false), (.bool false), (.bool false), (.bool false), (.bool false), (.bool false), (.bool false), (.bool false), (.bool false), (.bool false), (.bool false), (.bool false), (.bool false), (.bool false), (.bool false), (.bool false), (.bool false), (.bool false), (.bool false), (.bool false), (.bool false), (.bool false), (.bool false), (.bool false), (.bool false), (.bool false), (.bool false), (.bool false), (.bool false), (.bool false), (.bool false), (.bool false), (.bool false), (.bool false), (.bool false), (.bool false), (.bool false), (.bool false), (.bool false), (.bool false), (.bool false), (.bool false), (.bool false), (.bool false), (.bool false), (.bool false), (.bool false), (.bool false), (.bool false), (.bool false), (.bool false), (.bool false), (.bool false), (.bool false), (.bool false), (.bool false), (.bool false), (.bool false), (.bool false), (.bool false), (.bool false), (.bool false), (.bool false), (.bool false), (.bool false), (.bool false), (.bool false), (.bool false), (.bool false), (.bool false), (.bool false), (.bool false), (.bool false), (.bool false), (.bool false), (.bool false), (.bool false), (.bool false), (.bool false), (.bool false), (.bool false), (.bool false), (.bool false), (.bool false), (.bool false), (.bool false), (.bool false), (.bool false), (.bool false), (.bool false), (.bool false), (.bool false), (.bool false), (.bool false), (.bool false), (.bool false), (.bool false), (.bool false), (.bool false), (.bool false), (.bool false), (.bool false), (.bool false), (.bool false), (.bool false)]), size := 256, bytes := 256 } := rfl
theorem T93 : look T 93 = some { desc := .pointer 89, zero := (.pointer none), size := 1, bytes := 8 } := rfl
theorem T96 : look T 96 = some { desc := .pointer 5, zero := (.pointer none), size := 1, bytes := 8 } := rfl
theorem T103 : look T 103 = some { desc := .pointer 118, zero := (.pointer none), size := 1, bytes := 8 } := rfl
theorem T106 : look T 106 = some { desc := .array 24 5, zero := (.agg #[(.int .u8 0), (.int .u8 0), (.int .u8 0), (.int .u8 0), (.int .u8 0), (.int .u8 0), (.int .u8 0), (.int .u8 0), (.int .u8 0), (.int .u8 0), (.int .u8 0), (.int .u8 0), (.int .u8 0), (.int .u8 0), (.int .u8 0), (.int .u8 0), (.int .u8 0), (.int .u8 0), (.int .u8 0), (.int .u8 0), (.int .u8 0), (.int .u8 0), (.int .u8 0), (.int .u8 0)]), size := 24, bytes := 24 } := rfl
theorem T107 : look T 107 = some { desc := .int .u64, zero := (.int .u64 0), size := 1, bytes := 8 } := rfl
theorem T112 : look T 112 = some { desc := .unsafePointer, zero := (.pointer none), size := 1, bytes := 8 } := rfl
theorem T118 : look T 118 = some { desc := .struct #[{ name := "Func", type := 9, offset := 0, embedded := false, tag := "", pkgPath := "", byteOffset := 0 }, { name := "Num", type := 9, offset := 1, embedded := false, tag := "", pkgPath := "", byteOffset := 16 }, { name := "Err", type := 77, offset := 2, embedded := false, tag := "", pkgPath := "", byteOffset := 32 }], zero := (.agg #[(.string ⟨#[]⟩), (.string ⟨#[]⟩), .nilIface]), size := 3, bytes := 48 } := rfl
theorem T122 : look T 122 = some { desc := .array 20 107, zero := (.agg #[(.int .u64 0), (.int .u64 0), (.int .u64 0), (.int .u64 0), (.int .u64 0), (.int .u64 0), (.int .u64 0), (.int .u64 0), (.int .u64 0), (.int .u64 0), (.int .u64 0), (.int .u64 0), (.int .u64 0), (.int .u64 0), (.int .u64 0), (.int .u64 0), (.int .u64 0), (.int .u64 0), (.int .u64 0), (.int .u64 0)]), size := 20, bytes := 160 } := rfl
theorem T123 : look T 123 = some { desc := .array 65 5, zero := (.agg #[(.int .u8 0), (.int .u8 0), (.int .u8 0), (.int .u8 0), (.int .u8 0), (.int .u8 0), (.int .u8 0), (.int .u8 0), (.int .u8 0), (.int .u8 0), (.int .u8 0), (.int .u8 0), (.int .u8 0), (.int .u8 0), (.int .u8 0), (.int .u8 0), (.int .u8 0), (.int .u8 0), (.int .u8 0), (.int .u8 0), (.int .u8 0), (.int .u8 0), (.int .u8 0), (.int .u8 0), (.int .u8 0), (.int .u8 0), (.int .u8 0), (.int .u8 0), (.int .u8 0), (.int .u8 0), (.int .u8 0), (.int .u8 0), (.int .u8 0), (.int .u8 0), (.int .u8 0), (.int .u8 0), (.int .u8 0), (.int .u8 0), (.int .u8 0), (.int .u8 0), (.int .u8 0), (.int .u8 0), (.int .u8 0), (.int .u8 0), (.int .u8 0), (.int .u8 0), (.int .u8 0), (.int .u8 0), (.int .u8 0), (.int .u8 0), (.int .u8 0), (.int .u8 0), (.int .u8 0), (.int .u8 0), (.int .u8 0), (.int .u8 0), (.int .u8 0), (.int .u8 0), (.int .u8 0), (.int .u8 0), (.int .u8 0), (.int .u8 0), (.int .u8 0), (.int .u8 0), (.int .u8 0)]), size := 65, bytes := 65 } := rfl
theorem T125 : look T 125 = some { desc := .array 256 5, zero := (.agg #[(.int .u8 0), (.int .u8 0), (.int .u8 0), (.int .u8 0), (.int .u8 0), (.int .u8 0), (.int .u8 0), (.int .u8 0), (.int .u8 0), (.int .u8 0), (.int .u8 0), (.int .u8 0), (.int .u8 0), (.int .u8 0), (.int .u8 0), (.int .u8 0), (.int .u8 0), (.int .u8 0), (.int .u8 0), (.int .u8 0), (.int .u8 0), (.int .u8 0), (.int .u8 0), (.int .u8 0), (.int .u8 0), (.int .u8 0), (.int .u8 0), (.int .u8 0), (.int .u8 0), (.int .u8 0), (.int .u8 0), (.int .u8 0), (.int .u8 0), (.int .u8 0), (.int .u8 0), (.int .u8 0), (.int .u8 0), (.int .u8 0), (.int .u8 0), (.int .u8 0), (.int .u8 0), (.int .u8 0), (.int .u8 0), (.int .u8 0), (.int .u8 0), (.int .u8 0), (.int .u8 0), (.int .u8 0), (.int .u8 0), (.int .u8 0), (.int .u8 0), (.int .u8 0), (.int .u8 0), (.int .u8 0), (.int .u8 0), (.int .u8 0), (.int .u8 0), (.int .u8 0), (.int .u8 0), (.int .u8 0), (.int .u8 0), (.int .u8 0), (.int .u8 0), (.int .u8 0), (.int .u8 0), (.int .u8 0), (.int .u8 0), (.int .u8 0), (.int .u8 0), (.int .u8 0), (.int .u8 0), (.int .u8 0), (.int .u8 0), (.int .u8 0), (.int .u8 0), (.int .u8 0), (.int .u8 0), (.int .u8 0), (.int .u8 0), (.int .u8 0), (.int .u8 0), (.int .u8 0), (.int .u8 0), (.int .u8 0), (.int .u8 0), (.int .u8 0), (.int .u8 0), (.int .u8 0), (.int .u8 0), (.int .u8 0), (.int .u8 0), (.int .u8 0), (.int .u8 0), (.int .u8 0), (.int .u8 0), (.int .u8 0), (.int .u8 0), (.int .u8 0), (.int .u8 0), (.int .u8 0), (.int .u8 0), (.int .u8 0), (.int .u8 0), (.int .u8 0), (.int .u8 0), (.int .u8 0), (.int .u8 0), (.int .u8 0), (.int .u8 0), (.int .u8 0), (.int .u8 0), (.int .u8 0), (.int .u8 0), (.int .u8 0), (.int .u8 0), (.int .u8 0), (.int .u8 0), (.int .u8 0), (.int .u8 0), (.int .u8 0), (.int .u8 0), (.int .u8 0), (.int .u8 0), (.int .u8 0), (.int .u8 0), (.int .u8 0), (.int .u8 0), (.int .u8 0), (.int .u8 0), (.int .u8 0), (.int .u8 0), (.int .u8 0), (.int .u8 0), (.int .u8 0), (.int .u8 0), (.int .u8 0), (.int .u8 0), (.int .u8 0), (.int .u8 0), (.int .u8 0), (.int .u8 0), (.int .u8 0), (.int .u8 0), (.int .u8 0), (.int .u8 0), (.int .u8 0), (.int .u8 0), (.int .u8 0), (.int .u8 0), (.int .u8 0), (.int .u8 0), (.int .u8 0), (.int .u8 0), (.int .u8 0), (.int .u8 0), (.int .u8 0), (.int .u8 0), (.int .u8 0), (.int .u8 0), (.int .u8 0), (.int .u8 0), (.int .u8 0), (.int .u8 0), (.int .u8 0), (.int .u8 0), (.int .u8 0), (.int .u8 0), (.int .u8 0), (.int .u8 0), (.int .u8 0), (.int .u8 0), (.int .u8 0), (.int .u8 0), (.int .u8 0), (.int .u8 0), (.int .u8 0), (.int .u8 0), (.int .u8 0), (.int .u8 0), (.int .u8 0), (.int .u8 0), (.int .u8 0), (.int .u8 0), (.int .u8 0), (.int .u8 0), (.int .u8 0), (.int .u8 0), (.int .u8 0), (.int .u8 0), (.int .u8 0), (.int .u8 0), (.int .u8 0), (.int .u8 0), (.int .u8 0), (.int .u8 0), (.int .u8 0), (.int .u8 0), (.int .u8 0), (.int .u8 0), (.int .u8 0), (.int .u8 0), (.int .u8 0), (.int .u8 0), (.int .u8 0), (.int .u8 0), (.int .u8 0), (.int .u8 0), (.int .u8 0), (.int .u8 0), (.int .u8 0), (.int .u8 0), (.int .u8 0), (.int .u8 0), (.int .u8 0), (.int .u8 0), (.int .u8 0), (.int .u8 0), (.int .u8 0), (.int .u8 0), (.int .u8 0), (.int .u8 0), (.int .u8 0), (.int .u8 0), (.int .u8 0), (.int .u8 0), (.int .u8 0), (.int .u8 0), (.int .u8 0), (.int .u8 0), (.int .u8 0), (.int .u8 0), (.int .u8 0), (.int .u8 0), (.int .u8 0), (.int .u8 0), (.int .u8 0), (.int .u8 0), (.int .u8 0), (.int .u8 0), (.int .u8 0), (.int .u8 0), (.int .u8 0), (.int .u8 0), (.int .u8 0), (.int .u8 0), (.int .u8 0), (.int .u8 0), (.int .u8 0), (.int .u8 0), (.int .u8 0), (.int .u8 0), (.int .u8 0), (.int .u8 0), (.int .u8 0), (.int .u8 0), (.int .u8 0)]), size := 256, bytes := 256 } := rfl
theorem T127 : look T 127 = some { desc := .struct #[{ name := "lo", type := 5, offset := 0, embedded := false, tag := "", pkgPath := "unicode/utf8", byteOffset := 0 }, { name := "hi", type := 5, offset := 1, embedded := false, tag := "", pkgPath := "unicode/utf8", byteOffset := 1 }], zero := (.agg #[(.int .u8 0), (.int .u8 0)]), size := 2, bytes := 2, eqv := true } := rfl
theorem T128 : look T 128 = some { desc := .array 16 127, zero := (.agg #[(.int .u8 0), (.int .u8 0), (.int .u8 0), (.int .u8 0), (.int .u8 0), (.int .u8 0), (.int .u8 0), (.int .u8 0), (.int .u8 0), (.int .u8 0), (.int .u8 0), (.int .u8 0), (.int .u8 0), (.int .u8 0), (.int .u8 0), (.int .u8 0), (.int .u8 0), (.int .u8 0), (.int .u8 0), (.int .u8 0), (.int .u8 0), (.int .u8 0), (.int .u8 0), (.int .u8 0), (.int .u8 0), (.int .u8 0), (.int .u8 0), (.int .u8 0), (.int .u8 0), (.int .u8 0), (.int .u8 0), (.int .u8 0)]), size := 32, bytes := 32 } := rfl
theorem T133 : look T 133 = some { desc := .struct #[{ name := "s", type := 9, offset := 0, embedded := false, tag := "", pkgPath := "errors", byteOffset := 0 }], zero := (.agg #[(.string ⟨#[]⟩)]), size := 1, bytes := 16, eqv := true } := rfl
theorem T135 : look T 135 = some { desc := .array 32 5, zero := (.agg #[(.int .u8 0), (.int .u8 0), (.int .u8 0), (.int .u8 0), (.int .u8 0), (.int .u8 0), (.int .u8 0), (.int .u8 0), (.int .u8 0), (.int .u8 0), (.int .u8 0), (.int .u8 0), (.int .u8 0), (.int .u8 0), (.int .u8 0), (.int .u8 0), (.int .u8 0), (.int .u8 0), (.int .u8 0), (.int .u8 0), (.int .u8 0), (.int .u8 0), (.int .u8 0), (.int .u8 0), (.int .u8 0), (.int .u8 0), (.int .u8 0), (.int .u8 0), (.int .u8 0), (.int .u8 0), (.int .u8 0), (.int .u8 0)]), size := 32, bytes := 32 } := rfl
theorem T136 : look T 136 = some { desc := .array 64 5, zero := (.agg #[(.int .u8 0), (.int .u8 0), (.int .u8 0), (.int .u8 0), (.int .u8 0), (.int .u8 0), (.int .u8 0), (.int .u8 0), (.int .u8 0), (.int .u8 0), (.int .u8 0), (.int .u8 0), (.int .u8 0), (.int .u8 0), (.int .u8 0), (.int .u8 0), (.int .u8 0), (.int .u8 0), (.int .u8 0), (.int .u8 0), (.int .u8 0), (.int .u8 0), (.int .u8 0), (.int .u8 0), (.int .u8 0), (.int .u8 0), (.int .u8 0), (.int .u8 0), (.int .u8 0), (.int .u8 0), (.int .u8 0), (.int .u8 0), (.int .u8 0), (.int .u8 0), (.int .u8 0), (.int .u8 0), (.int .u8 0), (.int .u8 0), (.int .u8 0), (.int .u8 0), (.int .u8 0), (.int .u8 0), (.int .u8 0), (.int .u8 0), (.int .u8 0), (.int .u8 0), (.int .u8 0), (.int .u8 0), (.int .u8 0), (.int .u8 0), (.int .u8 0), (.int .u8 0), (.int .u8 0), (.int .u8 0), (.int .u8 0), (.int .u8 0), (.int .u8 0), (.int .u8 0), (.int .u8 0), (.int .u8 0), (.int .u8 0), (.int .u8 0), (.int .u8 0), (.int .u8 0)]), size := 64, bytes := 64 } := rfl
theorem mixed : Tryd.prog.follows .mixedOrders = true := by kernel_rfl
end Go.Abs
set_option maxRecDepth 100000
namespace Go.Abs
open Go Go.Proofs
def pow10Cells : List Value := Lib.pow10Tab.map fun z => Value.int .u64 z
noncomputable instance env : Env Tryd.prog := ⟨[(3, pow10Cells)]⟩
theorem pow10_tab {w : World} {I : Nat → Prop} (h : EOK Tryd.prog w I) : Lib.TabIs Tryd.prog w "internal/strconv.uint64pow10" .u64 Lib.pow10Tab := by
  obtain ⟨_, t, fr, hb⟩ := h 3 pow10Cells (List.mem_singleton.2 rfl)
  unfold Lib.TabIs World.var?
  rw [show Tryd.prog.globalNamed "internal/strconv.uint64pow10" = some 3 by kernel_rfl]
  simp only [Option.bind_some, hb]
  rfl
end Go.Abs
set_option maxRecDepth 100000
namespace Go.Abs
open Go Go.Proofs
set_option linter.unusedSimpArgs false
attribute [simp] T3 T4 T5 T9 T42 T23 T24 T44 T57 T60 T2 T107

theorem ite_t {α : Type} {c : Bool} {a b : α} (h : c = true) : (if c = true then a else b) = a := by rw [if_pos h]
theorem ite_f {α : Type} {c : Bool} {a b : α} (h : c = false) : (if c = true then a else b) = b := by rw [if_neg (by rw [h]; decide)]
structure Val where
  kind : Int
  num : Int
  text : List UInt8
deriving Inhabited, DecidableEq
@[simp] def encV (v : Val) : AV := .agg [.int .i64 v.kind, .int .i64 v.num, .str v.text]
@[simp] def encI (n : Int) : AV := .int .i64 n
abbrev AV.i (n : Int) : AV := .int .i64 n
abbrev W (n : Int) : Int := IntKind.i64.wrap n
theorem wrap_i64 (n : Int) (h1 : -9223372036854775808 ≤ n) (h2 : n ≤ 9223372036854775807) : IntKind.i64.wrap n = n := by
  rw [IntKind.wrap_i64]; omega
def zeroV : Val := ⟨0, 0, []⟩

def sizeR (v : Val) : Int := if (v.kind == 0 && (decide (v.num < -1099511627776) || decide (1099511627776 < v.num))) = true then 2 else if (v.kind == 1 && v.num != 0 && v.num != 1) = true then 2 else if decide ((64 : Int) < v.text.length) = true then 13 else 0
theorem pc_size (v : Val) : PC Tryd.prog 41 [encV v] (fun r => r = .i (sizeR v)) := by
  refine PC_body tOk Tryd.func41 rfl Tryd.results41 rfl (by simp [Tryd.ntmps41]) ?_
  rw [Tryd.ntmps41]
  simp only [argSlots]
  simp only [encV]
  repeat (first
    | (refine AWP_seq (AWP_regS tOk rfl ?_); simp)
    | (refine AWP_regS tOk rfl ?_; simp)
    | (refine AWP_skip ?_; simp)
    | (refine AWP_exit ?_; simp)
    | (refine AWP_ret ?_; simp)
    | refine AWP_block ?_
    | refine AWP_seq ?_)
  refine AWP_cond2 rfl (fun h => ?_) (fun h1 => ?_)
  · repeat (first
      | (refine AWP_seq (AWP_regS tOk rfl ?_); simp)
      | (refine AWP_regS tOk rfl ?_; simp)
      | (refine AWP_skip ?_; simp)
      | (refine AWP_exit ?_; simp)
      | (refine AWP_ret ?_; simp)
      | refine AWP_block ?_
      | refine AWP_seq ?_)
    rw [sizeR, ite_t h]
  repeat (first
    | (refine AWP_seq (AWP_regS tOk rfl ?_); simp)
    | (refine AWP_regS tOk rfl ?_; simp)
    | (refine AWP_skip ?_; simp)
    | (refine AWP_exit ?_; simp)
    | (refine AWP_ret ?_; simp)
    | refine AWP_block ?_
    | refine AWP_seq ?_)
  refine AWP_cond2 rfl (fun h => ?_) (fun h2 => ?_)
  · repeat (first
      | (refine AWP_seq (AWP_regS tOk rfl ?_); simp)
      | (refine AWP_regS tOk rfl ?_; simp)
      | (refine AWP_skip ?_; simp)
      | (refine AWP_exit ?_; simp)
      | (refine AWP_ret ?_; simp)
      | refine AWP_block ?_
      | refine AWP_seq ?_)
    rw [sizeR, ite_f h1, ite_t h]
  repeat (first
    | (refine AWP_seq (AWP_regS tOk rfl ?_); simp)
    | (refine AWP_regS tOk rfl ?_; simp)
    | (refine AWP_skip ?_; simp)
    | (refine AWP_exit ?_; simp)
    | (refine AWP_ret ?_; simp)
    | refine AWP_block ?_
    | refine AWP_seq ?_)
  refine AWP_cond2 rfl (fun h => ?_) (fun h3 => ?_)
  · repeat (first
      | (refine AWP_seq (AWP_regS tOk rfl ?_); simp)
      | (refine AWP_regS tOk rfl ?_; simp)
      | (refine AWP_skip ?_; simp)
      | (refine AWP_exit ?_; simp)
      | (refine AWP_ret ?_; simp)
      | refine AWP_block ?_
      | refine AWP_seq ?_)
    rw [sizeR, ite_f h1, ite_f h2, ite_t h]
  repeat (first
    | (refine AWP_seq (AWP_regS tOk rfl ?_); simp)
    | (refine AWP_regS tOk rfl ?_; simp)
    | (refine AWP_skip ?_; simp)
    | (refine AWP_exit ?_; simp)
    | (refine AWP_ret ?_; simp)
    | refine AWP_block ?_
    | refine AWP_seq ?_)
  rw [sizeR, ite_f h1, ite_f h2, ite_f h3]

def checkR (v : Val) : Int := if (v.kind == 0 || v.kind == 1) = true then (if (!v.text.isEmpty) = true then 3 else sizeR v) else if (v.kind == 2) = true then (if (v.num != 0) = true then 3 else sizeR v) else 1
theorem pc_Check (v : Val) : PC Tryd.prog 22 [encV v] (fun r => r = .i (checkR v)) := by
  refine PC_body tOk Tryd.func22 rfl Tryd.results22 rfl (by simp [Tryd.ntmps22]) ?_
  rw [Tryd.ntmps22]
  simp only [argSlots]
  simp only [encV]
  repeat (first
    | (refine AWP_seq (AWP_regS tOk rfl ?_); simp)
    | (refine AWP_regS tOk rfl ?_; simp)
    | (refine AWP_skip ?_; simp)
    | (refine AWP_exit ?_; simp)
    | (refine AWP_ret ?_; simp)
    | refine AWP_block ?_
    | refine AWP_seq ?_)
  refine AWP_cond2 rfl (fun h => ?_) (fun h => ?_)
  · repeat (first
      | (refine AWP_seq (AWP_regS tOk rfl ?_); simp)
      | (refine AWP_regS tOk rfl ?_; simp)
      | (refine AWP_skip ?_; simp)
      | (refine AWP_exit ?_; simp)
      | (refine AWP_ret ?_; simp)
      | refine AWP_block ?_
      | refine AWP_seq ?_)
    refine AWP_cond (b := true) (by simp [h]) ?_
    repeat (first
      | (refine AWP_seq (AWP_regS tOk rfl ?_); simp)
      | (refine AWP_regS tOk rfl ?_; simp)
      | (refine AWP_skip ?_; simp)
      | (refine AWP_exit ?_; simp)
      | (refine AWP_ret ?_; simp)
      | refine AWP_block ?_
      | refine AWP_seq ?_)
    refine AWP_cond2 rfl (fun ht => ?_) (fun ht => ?_)
    · repeat (first
        | (refine AWP_seq (AWP_regS tOk rfl ?_); simp)
        | (refine AWP_regS tOk rfl ?_; simp)
        | (refine AWP_skip ?_; simp)
        | (refine AWP_exit ?_; simp)
        | (refine AWP_ret ?_; simp)
        | refine AWP_block ?_
        | refine AWP_seq ?_)
      rw [checkR, ite_t (by simp [h]), ite_t ht]
    · repeat (first
        | (refine AWP_seq (AWP_regS tOk rfl ?_); simp)
        | (refine AWP_regS tOk rfl ?_; simp)
        | (refine AWP_skip ?_; simp)
        | (refine AWP_exit ?_; simp)
        | (refine AWP_ret ?_; simp)
        | refine AWP_block ?_
        | refine AWP_seq ?_)
      refine AStep_PC rfl rfl (by simp) (pc_size v) rfl ?_
      rintro _ rfl
      simp
      repeat (first
        | (refine AWP_seq (AWP_regS tOk rfl ?_); simp)
        | (refine AWP_regS tOk rfl ?_; simp)
        | (refine AWP_skip ?_; simp)
        | (refine AWP_exit ?_; simp)
        | (refine AWP_ret ?_; simp)
        | refine AWP_block ?_
        | refine AWP_seq ?_)
      rw [checkR, ite_t (by simp [h]), ite_f ht]
  · repeat (first
      | (refine AWP_seq (AWP_regS tOk rfl ?_); simp)
      | (refine AWP_regS tOk rfl ?_; simp)
      | (refine AWP_skip ?_; simp)
      | (refine AWP_exit ?_; simp)
      | (refine AWP_ret ?_; simp)
      | refine AWP_block ?_
      | refine AWP_seq ?_)
    refine AWP_cond2 rfl (fun h1 => ?_) (fun h1 => ?_)
    · repeat (first
        | (refine AWP_seq (AWP_regS tOk rfl ?_); simp)
        | (refine AWP_regS tOk rfl ?_; simp)
        | (refine AWP_skip ?_; simp)
        | (refine AWP_exit ?_; simp)
        | (refine AWP_ret ?_; simp)
        | refine AWP_block ?_
        | refine AWP_seq ?_)
      refine AWP_cond2 rfl (fun ht => ?_) (fun ht => ?_)
      · repeat (first
          | (refine AWP_seq (AWP_regS tOk rfl ?_); simp)
          | (refine AWP_regS tOk rfl ?_; simp)
          | (refine AWP_skip ?_; simp)
          | (refine AWP_exit ?_; simp)
          | (refine AWP_ret ?_; simp)
          | refine AWP_block ?_
          | refine AWP_seq ?_)
        rw [checkR, ite_t (by simp [h1]), ite_t ht]
      · repeat (first
          | (refine AWP_seq (AWP_regS tOk rfl ?_); simp)
          | (refine AWP_regS tOk rfl ?_; simp)
          | (refine AWP_skip ?_; simp)
          | (refine AWP_exit ?_; simp)
          | (refine AWP_ret ?_; simp)
          | refine AWP_block ?_
          | refine AWP_seq ?_)
        refine AStep_PC rfl rfl (by simp) (pc_size v) rfl ?_
        rintro _ rfl
        simp
        repeat (first
          | (refine AWP_seq (AWP_regS tOk rfl ?_); simp)
          | (refine AWP_regS tOk rfl ?_; simp)
          | (refine AWP_skip ?_; simp)
          | (refine AWP_exit ?_; simp)
          | (refine AWP_ret ?_; simp)
          | refine AWP_block ?_
          | refine AWP_seq ?_)
        rw [checkR, ite_t (by simp [h1]), ite_f ht]
    · repeat (first
        | (refine AWP_seq (AWP_regS tOk rfl ?_); simp)
        | (refine AWP_regS tOk rfl ?_; simp)
        | (refine AWP_skip ?_; simp)
        | (refine AWP_exit ?_; simp)
        | (refine AWP_ret ?_; simp)
        | refine AWP_block ?_
        | refine AWP_seq ?_)
      refine AWP_cond2 rfl (fun h2 => ?_) (fun h2 => ?_)
      · repeat (first
          | (refine AWP_seq (AWP_regS tOk rfl ?_); simp)
          | (refine AWP_regS tOk rfl ?_; simp)
          | (refine AWP_skip ?_; simp)
          | (refine AWP_exit ?_; simp)
          | (refine AWP_ret ?_; simp)
          | refine AWP_block ?_
          | refine AWP_seq ?_)
        refine AWP_cond2 rfl (fun hn => ?_) (fun hn => ?_)
        · repeat (first
            | (refine AWP_seq (AWP_regS tOk rfl ?_); simp)
            | (refine AWP_regS tOk rfl ?_; simp)
            | (refine AWP_skip ?_; simp)
            | (refine AWP_exit ?_; simp)
            | (refine AWP_ret ?_; simp)
            | refine AWP_block ?_
            | refine AWP_seq ?_)
          rw [checkR, ite_f (by simp [h, h1]), ite_t h2, ite_t hn]
        · repeat (first
            | (refine AWP_seq (AWP_regS tOk rfl ?_); simp)
            | (refine AWP_regS tOk rfl ?_; simp)
            | (refine AWP_skip ?_; simp)
            | (refine AWP_exit ?_; simp)
            | (refine AWP_ret ?_; simp)
            | refine AWP_block ?_
            | refine AWP_seq ?_)
          refine AStep_PC rfl rfl (by simp) (pc_size v) rfl ?_
          rintro _ rfl
          simp
          repeat (first
            | (refine AWP_seq (AWP_regS tOk rfl ?_); simp)
            | (refine AWP_regS tOk rfl ?_; simp)
            | (refine AWP_skip ?_; simp)
            | (refine AWP_exit ?_; simp)
            | (refine AWP_ret ?_; simp)
            | refine AWP_block ?_
            | refine AWP_seq ?_)
          rw [checkR, ite_f (by simp [h, h1]), ite_t h2, ite_f hn]
      · repeat (first
          | (refine AWP_seq (AWP_regS tOk rfl ?_); simp)
          | (refine AWP_regS tOk rfl ?_; simp)
          | (refine AWP_skip ?_; simp)
          | (refine AWP_exit ?_; simp)
          | (refine AWP_ret ?_; simp)
          | refine AWP_block ?_
          | refine AWP_seq ?_)
        rw [checkR, ite_f (by simp [h, h1]), ite_f h2]

def checkedV (v : Val) : Val × Int := if (checkR v != 0) = true then (zeroV, checkR v) else (v, 0)
theorem pc_checked (v : Val) : PC Tryd.prog 29 [encV v] (fun r => r = .tup [encV (checkedV v).1, .i (checkedV v).2]) := by
  refine PC_body tOk Tryd.func29 rfl Tryd.results29 rfl (by simp [Tryd.ntmps29]) ?_
  rw [Tryd.ntmps29]
  simp only [argSlots]
  simp only [encV]
  repeat (first
    | (refine AWP_seq (AWP_regS tOk rfl ?_); simp)
    | (refine AWP_regS tOk rfl ?_; simp)
    | (refine AWP_skip ?_; simp)
    | (refine AWP_exit ?_; simp)
    | (refine AWP_ret ?_; simp)
    | refine AWP_block ?_
    | refine AWP_seq ?_)
  refine AStep_PC rfl rfl (by simp) (pc_Check v) rfl ?_
  rintro _ rfl
  simp
  repeat (first
    | (refine AWP_seq (AWP_regS tOk rfl ?_); simp)
    | (refine AWP_regS tOk rfl ?_; simp)
    | (refine AWP_skip ?_; simp)
    | (refine AWP_exit ?_; simp)
    | (refine AWP_ret ?_; simp)
    | refine AWP_block ?_
    | refine AWP_seq ?_)
  refine AWP_cond2 rfl (fun h => ?_) (fun h => ?_)
  · repeat (first
      | (refine AWP_seq (AWP_regS tOk rfl ?_); simp)
      | (refine AWP_regS tOk rfl ?_; simp)
      | (refine AWP_skip ?_; simp)
      | (refine AWP_exit ?_; simp)
      | (refine AWP_ret ?_; simp)
      | refine AWP_block ?_
      | refine AWP_seq ?_)
    rw [checkedV, ite_t h]
    simp [zeroV]
  · repeat (first
      | (refine AWP_seq (AWP_regS tOk rfl ?_); simp)
      | (refine AWP_regS tOk rfl ?_; simp)
      | (refine AWP_skip ?_; simp)
      | (refine AWP_exit ?_; simp)
      | (refine AWP_ret ?_; simp)
      | refine AWP_block ?_
      | refine AWP_seq ?_)
    rw [checkedV, ite_f h]
    simp
theorem pc_Int (n : Int) : PC Tryd.prog 10 [.i n] (fun r => r = .tup [encV (checkedV ⟨0, n, []⟩).1, .i (checkedV ⟨0, n, []⟩).2]) := by
  refine PC_body tOk Tryd.func10 rfl Tryd.results10 rfl (by simp [Tryd.ntmps10]) ?_
  rw [Tryd.ntmps10]
  simp only [argSlots]
  repeat (first
    | (refine AWP_seq (AWP_regS tOk rfl ?_); simp)
    | (refine AWP_regS tOk rfl ?_; simp)
    | (refine AWP_skip ?_; simp)
    | (refine AWP_exit ?_; simp)
    | (refine AWP_ret ?_; simp)
    | refine AWP_block ?_
    | refine AWP_seq ?_)
  refine AStep_PC rfl rfl (by simp) (pc_checked ⟨0, n, []⟩) rfl ?_
  rintro _ rfl
  simp
  repeat (first
    | (refine AWP_seq (AWP_regS tOk rfl ?_); simp)
    | (refine AWP_regS tOk rfl ?_; simp)
    | (refine AWP_skip ?_; simp)
    | (refine AWP_exit ?_; simp)
    | (refine AWP_ret ?_; simp)
    | refine AWP_block ?_
    | refine AWP_seq ?_)
theorem pc_String (s : List UInt8) : PC Tryd.prog 12 [.str s] (fun r => r = .tup [encV (checkedV ⟨2, 0, s⟩).1, .i (checkedV ⟨2, 0, s⟩).2]) := by
  refine PC_body tOk Tryd.func12 rfl Tryd.results12 rfl (by simp [Tryd.ntmps12]) ?_
  rw [Tryd.ntmps12]
  simp only [argSlots]
  repeat (first
    | (refine AWP_seq (AWP_regS tOk rfl ?_); simp)
    | (refine AWP_regS tOk rfl ?_; simp)
    | (refine AWP_skip ?_; simp)
    | (refine AWP_exit ?_; simp)
    | (refine AWP_ret ?_; simp)
    | refine AWP_block ?_
    | refine AWP_seq ?_)
  refine AStep_PC rfl rfl (by simp) (pc_checked ⟨2, 0, s⟩) rfl ?_
  rintro _ rfl
  simp
  repeat (first
    | (refine AWP_seq (AWP_regS tOk rfl ?_); simp)
    | (refine AWP_regS tOk rfl ?_; simp)
    | (refine AWP_skip ?_; simp)
    | (refine AWP_exit ?_; simp)
    | (refine AWP_ret ?_; simp)
    | refine AWP_block ?_
    | refine AWP_seq ?_)
def boolV (b : Bool) : Val := ⟨1, if b = true then 1 else 0, []⟩
theorem pc_Bool (b : Bool) : PC Tryd.prog 14 [.bool b] (fun r => r = encV (boolV b)) := by
  refine PC_body tOk Tryd.func14 rfl Tryd.results14 rfl (by simp [Tryd.ntmps14]) ?_
  rw [Tryd.ntmps14]
  simp only [argSlots]
  repeat (first
    | (refine AWP_seq (AWP_regS tOk rfl ?_); simp)
    | (refine AWP_regS tOk rfl ?_; simp)
    | (refine AWP_skip ?_; simp)
    | (refine AWP_exit ?_; simp)
    | (refine AWP_ret ?_; simp)
    | refine AWP_block ?_
    | refine AWP_seq ?_)
  refine AWP_cond2 rfl (fun h => ?_) (fun h => ?_)
  · repeat (first
      | (refine AWP_seq (AWP_regS tOk rfl ?_); simp)
      | (refine AWP_regS tOk rfl ?_; simp)
      | (refine AWP_skip ?_; simp)
      | (refine AWP_exit ?_; simp)
      | (refine AWP_ret ?_; simp)
      | refine AWP_block ?_
      | refine AWP_seq ?_)
    simp [boolV, h]
  · repeat (first
      | (refine AWP_seq (AWP_regS tOk rfl ?_); simp)
      | (refine AWP_regS tOk rfl ?_; simp)
      | (refine AWP_skip ?_; simp)
      | (refine AWP_exit ?_; simp)
      | (refine AWP_ret ?_; simp)
      | refine AWP_block ?_
      | refine AWP_seq ?_)
    simp [boolV, h]
theorem pc_rBool (b : Bool) : PC Tryd.prog 15 [.bool b] (fun r => r = encV (boolV b)) := by
  refine PC_body tOk Tryd.func15 rfl Tryd.results15 rfl (by simp [Tryd.ntmps15]) ?_
  rw [Tryd.ntmps15]
  simp only [argSlots]
  repeat (first
    | (refine AWP_seq (AWP_regS tOk rfl ?_); simp)
    | (refine AWP_regS tOk rfl ?_; simp)
    | (refine AWP_skip ?_; simp)
    | (refine AWP_exit ?_; simp)
    | (refine AWP_ret ?_; simp)
    | refine AWP_block ?_
    | refine AWP_seq ?_)
  refine AWP_cond2 rfl (fun h => ?_) (fun h => ?_)
  · repeat (first
      | (refine AWP_seq (AWP_regS tOk rfl ?_); simp)
      | (refine AWP_regS tOk rfl ?_; simp)
      | (refine AWP_skip ?_; simp)
      | (refine AWP_exit ?_; simp)
      | (refine AWP_ret ?_; simp)
      | refine AWP_block ?_
      | refine AWP_seq ?_)
    simp [boolV, h]
  · repeat (first
      | (refine AWP_seq (AWP_regS tOk rfl ?_); simp)
      | (refine AWP_regS tOk rfl ?_; simp)
      | (refine AWP_skip ?_; simp)
      | (refine AWP_exit ?_; simp)
      | (refine AWP_ret ?_; simp)
      | refine AWP_block ?_
      | refine AWP_seq ?_)
    simp [boolV, h]

def rCheckR (v : Val) : Int := if (decide (v.kind < 0) || decide (2 < v.kind)) = true then 1 else if (v.kind == 2) = true then (if (v.num != 0) = true then 3 else if decide ((64 : Int) < v.text.length) = true then 13 else 0) else
  if (!v.text.isEmpty) = true then 3 else if (v.kind == 1 && (decide (v.num < 0) || decide (1 < v.num)) || decide (v.num < -1099511627776) || decide (1099511627776 < v.num)) = true then 2 else 0
theorem pc_rCheck (v : Val) : PC Tryd.prog 23 [encV v] (fun r => r = .i (rCheckR v)) := by
  refine PC_body tOk Tryd.func23 rfl Tryd.results23 rfl (by simp [Tryd.ntmps23]) ?_
  rw [Tryd.ntmps23]
  simp only [argSlots]
  simp only [encV]
  repeat (first
    | (refine AWP_seq (AWP_regS tOk rfl ?_); simp)
    | (refine AWP_regS tOk rfl ?_; simp)
    | (refine AWP_skip ?_; simp)
    | (refine AWP_exit ?_; simp)
    | (refine AWP_ret ?_; simp)
    | refine AWP_block ?_
    | refine AWP_seq ?_)
  refine AWP_cond2 rfl (fun h => ?_) (fun h => ?_)
  · repeat (first
      | (refine AWP_seq (AWP_regS tOk rfl ?_); simp)
      | (refine AWP_regS tOk rfl ?_; simp)
      | (refine AWP_skip ?_; simp)
      | (refine AWP_exit ?_; simp)
      | (refine AWP_ret ?_; simp)
      | refine AWP_block ?_
      | refine AWP_seq ?_)
    rw [rCheckR, ite_t h]
  repeat (first
    | (refine AWP_seq (AWP_regS tOk rfl ?_); simp)
    | (refine AWP_regS tOk rfl ?_; simp)
    | (refine AWP_skip ?_; simp)
    | (refine AWP_exit ?_; simp)
    | (refine AWP_ret ?_; simp)
    | refine AWP_block ?_
    | refine AWP_seq ?_)
  refine AWP_cond2 rfl (fun h1 => ?_) (fun h1 => ?_)
  · repeat (first
      | (refine AWP_seq (AWP_regS tOk rfl ?_); simp)
      | (refine AWP_regS tOk rfl ?_; simp)
      | (refine AWP_skip ?_; simp)
      | (refine AWP_exit ?_; simp)
      | (refine AWP_ret ?_; simp)
      | refine AWP_block ?_
      | refine AWP_seq ?_)
    refine AWP_cond2 rfl (fun h2 => ?_) (fun h2 => ?_)
    · repeat (first
        | (refine AWP_seq (AWP_regS tOk rfl ?_); simp)
        | (refine AWP_regS tOk rfl ?_; simp)
        | (refine AWP_skip ?_; simp)
        | (refine AWP_exit ?_; simp)
        | (refine AWP_ret ?_; simp)
        | refine AWP_block ?_
        | refine AWP_seq ?_)
      rw [rCheckR, ite_f h, ite_t h1, ite_t h2]
    repeat (first
      | (refine AWP_seq (AWP_regS tOk rfl ?_); simp)
      | (refine AWP_regS tOk rfl ?_; simp)
      | (refine AWP_skip ?_; simp)
      | (refine AWP_exit ?_; simp)
      | (refine AWP_ret ?_; simp)
      | refine AWP_block ?_
      | refine AWP_seq ?_)
    refine AWP_cond2 rfl (fun h3 => ?_) (fun h3 => ?_)
    · repeat (first
        | (refine AWP_seq (AWP_regS tOk rfl ?_); simp)
        | (refine AWP_regS tOk rfl ?_; simp)
        | (refine AWP_skip ?_; simp)
        | (refine AWP_exit ?_; simp)
        | (refine AWP_ret ?_; simp)
        | refine AWP_block ?_
        | refine AWP_seq ?_)
      rw [rCheckR, ite_f h, ite_t h1, ite_f h2, ite_t h3]
    repeat (first
      | (refine AWP_seq (AWP_regS tOk rfl ?_); simp)
      | (refine AWP_regS tOk rfl ?_; simp)
      | (refine AWP_skip ?_; simp)
      | (refine AWP_exit ?_; simp)
      | (refine AWP_ret ?_; simp)
      | refine AWP_block ?_
      | refine AWP_seq ?_)
    rw [rCheckR, ite_f h, ite_t h1, ite_f h2, ite_f h3]
  repeat (first
    | (refine AWP_seq (AWP_regS tOk rfl ?_); simp)
    | (refine AWP_regS tOk rfl ?_; simp)
    | (refine AWP_skip ?_; simp)
    | (refine AWP_exit ?_; simp)
    | (refine AWP_ret ?_; simp)
    | refine AWP_block ?_
    | refine AWP_seq ?_)
  refine AWP_cond2 rfl (fun h2 => ?_) (fun h2 => ?_)
  · repeat (first
      | (refine AWP_seq (AWP_regS tOk rfl ?_); simp)
      | (refine AWP_regS tOk rfl ?_; simp)
      | (refine AWP_skip ?_; simp)
      | (refine AWP_exit ?_; simp)
      | (refine AWP_ret ?_; simp)
      | refine AWP_block ?_
      | refine AWP_seq ?_)
    rw [rCheckR, ite_f h, ite_f h1, ite_t h2]
  repeat (first
    | (refine AWP_seq (AWP_regS tOk rfl ?_); simp)
    | (refine AWP_regS tOk rfl ?_; simp)
    | (refine AWP_skip ?_; simp)
    | (refine AWP_exit ?_; simp)
    | (refine AWP_ret ?_; simp)
    | refine AWP_block ?_
    | refine AWP_seq ?_)
  refine AWP_cond2 rfl (fun h3 => ?_) (fun h3 => ?_)
  · repeat (first
      | (refine AWP_seq (AWP_regS tOk rfl ?_); simp)
      | (refine AWP_regS tOk rfl ?_; simp)
      | (refine AWP_skip ?_; simp)
      | (refine AWP_exit ?_; simp)
      | (refine AWP_ret ?_; simp)
      | refine AWP_block ?_
      | refine AWP_seq ?_)
    rw [rCheckR, ite_f h, ite_f h1, ite_f h2, ite_t h3]
  repeat (first
    | (refine AWP_seq (AWP_regS tOk rfl ?_); simp)
    | (refine AWP_regS tOk rfl ?_; simp)
    | (refine AWP_skip ?_; simp)
    | (refine AWP_exit ?_; simp)
    | (refine AWP_ret ?_; simp)
    | refine AWP_block ?_
    | refine AWP_seq ?_)
  rw [rCheckR, ite_f h, ite_f h1, ite_f h2, ite_f h3]
theorem pc_rNum (n : Int) : PC Tryd.prog 30 [.i n] (fun r => r = encV ⟨0, n, []⟩) := by
  refine PC_body tOk Tryd.func30 rfl Tryd.results30 rfl (by simp [Tryd.ntmps30]) ?_
  rw [Tryd.ntmps30]
  simp only [argSlots]
  repeat (first
    | (refine AWP_seq (AWP_regS tOk rfl ?_); simp)
    | (refine AWP_regS tOk rfl ?_; simp)
    | (refine AWP_skip ?_; simp)
    | (refine AWP_exit ?_; simp)
    | (refine AWP_ret ?_; simp)
    | refine AWP_block ?_
    | refine AWP_seq ?_)
theorem pc_rText (s : List UInt8) : PC Tryd.prog 31 [.str s] (fun r => r = encV ⟨2, 0, s⟩) := by
  refine PC_body tOk Tryd.func31 rfl Tryd.results31 rfl (by simp [Tryd.ntmps31]) ?_
  rw [Tryd.ntmps31]
  simp only [argSlots]
  repeat (first
    | (refine AWP_seq (AWP_regS tOk rfl ?_); simp)
    | (refine AWP_regS tOk rfl ?_; simp)
    | (refine AWP_skip ?_; simp)
    | (refine AWP_exit ?_; simp)
    | (refine AWP_ret ?_; simp)
    | refine AWP_block ?_
    | refine AWP_seq ?_)
def rIntR (n : Int) : Val × Int := if (decide (n < -1099511627776) || decide (1099511627776 < n)) = true then (zeroV, 2) else (⟨0, n, []⟩, 0)
theorem pc_rInt (n : Int) : PC Tryd.prog 11 [.i n] (fun r => r = .tup [encV (rIntR n).1, .i (rIntR n).2]) := by
  refine PC_body tOk Tryd.func11 rfl Tryd.results11 rfl (by simp [Tryd.ntmps11]) ?_
  rw [Tryd.ntmps11]
  simp only [argSlots]
  repeat (first
    | (refine AWP_seq (AWP_regS tOk rfl ?_); simp)
    | (refine AWP_regS tOk rfl ?_; simp)
    | (refine AWP_skip ?_; simp)
    | (refine AWP_exit ?_; simp)
    | (refine AWP_ret ?_; simp)
    | refine AWP_block ?_
    | refine AWP_seq ?_)
  refine AWP_cond2 rfl (fun h => ?_) (fun h => ?_)
  · repeat (first
      | (refine AWP_seq (AWP_regS tOk rfl ?_); simp)
      | (refine AWP_regS tOk rfl ?_; simp)
      | (refine AWP_skip ?_; simp)
      | (refine AWP_exit ?_; simp)
      | (refine AWP_ret ?_; simp)
      | refine AWP_block ?_
      | refine AWP_seq ?_)
    rw [rIntR, ite_t h]
    simp [zeroV]
  repeat (first
    | (refine AWP_seq (AWP_regS tOk rfl ?_); simp)
    | (refine AWP_regS tOk rfl ?_; simp)
    | (refine AWP_skip ?_; simp)
    | (refine AWP_exit ?_; simp)
    | (refine AWP_ret ?_; simp)
    | refine AWP_block ?_
    | refine AWP_seq ?_)
  refine AStep_PC rfl rfl (by simp) (pc_rNum n) rfl ?_
  rintro _ rfl
  simp
  repeat (first
    | (refine AWP_seq (AWP_regS tOk rfl ?_); simp)
    | (refine AWP_regS tOk rfl ?_; simp)
    | (refine AWP_skip ?_; simp)
    | (refine AWP_exit ?_; simp)
    | (refine AWP_ret ?_; simp)
    | refine AWP_block ?_
    | refine AWP_seq ?_)
  rw [rIntR, ite_f h]
  simp
def rStringR (s : List UInt8) : Val × Int := if decide ((64 : Int) < s.length) = true then (zeroV, 13) else (⟨2, 0, s⟩, 0)
theorem pc_rString (s : List UInt8) : PC Tryd.prog 13 [.str s] (fun r => r = .tup [encV (rStringR s).1, .i (rStringR s).2]) := by
  refine PC_body tOk Tryd.func13 rfl Tryd.results13 rfl (by simp [Tryd.ntmps13]) ?_
  rw [Tryd.ntmps13]
  simp only [argSlots]
  repeat (first
    | (refine AWP_seq (AWP_regS tOk rfl ?_); simp)
    | (refine AWP_regS tOk rfl ?_; simp)
    | (refine AWP_skip ?_; simp)
    | (refine AWP_exit ?_; simp)
    | (refine AWP_ret ?_; simp)
    | refine AWP_block ?_
    | refine AWP_seq ?_)
  refine AWP_cond2 rfl (fun h => ?_) (fun h => ?_)
  · repeat (first
      | (refine AWP_seq (AWP_regS tOk rfl ?_); simp)
      | (refine AWP_regS tOk rfl ?_; simp)
      | (refine AWP_skip ?_; simp)
      | (refine AWP_exit ?_; simp)
      | (refine AWP_ret ?_; simp)
      | refine AWP_block ?_
      | refine AWP_seq ?_)
    rw [rStringR, ite_t h]
    simp [zeroV]
  repeat (first
    | (refine AWP_seq (AWP_regS tOk rfl ?_); simp)
    | (refine AWP_regS tOk rfl ?_; simp)
    | (refine AWP_skip ?_; simp)
    | (refine AWP_exit ?_; simp)
    | (refine AWP_ret ?_; simp)
    | refine AWP_block ?_
    | refine AWP_seq ?_)
  refine AStep_PC rfl rfl (by simp) (pc_rText s) rfl ?_
  rintro _ rfl
  simp
  repeat (first
    | (refine AWP_seq (AWP_regS tOk rfl ?_); simp)
    | (refine AWP_regS tOk rfl ?_; simp)
    | (refine AWP_skip ?_; simp)
    | (refine AWP_exit ?_; simp)
    | (refine AWP_ret ?_; simp)
    | refine AWP_block ?_
    | refine AWP_seq ?_)
  rw [rStringR, ite_f h]
  simp
end Go.Abs
set_option maxRecDepth 100000
namespace Go.Abs
open Go Go.Proofs
set_option linter.unusedSimpArgs false

def firstErr (f : Val → Int) : List Val → Int
  | [] => 0
  | v :: r => if (f v != 0) = true then f v else firstErr f r
def checkAllR (f : Val → Int) (l : List Val) : Int := if decide ((256 : Int) < l.length) = true then 5 else firstErr f l
theorem drop_get {α : Type} {l : List α} {j : Nat} (h : j < l.length) : l.drop j = l[j] :: l.drop (j + 1) := List.drop_eq_getElem_cons h
set_option maxHeartbeats 400000 in
theorem pc_CheckAll (l : List Val) : PC Tryd.prog 24 [.list (l.map encV)] (fun r => r = .i (checkAllR checkR l)) := by
  refine PC_body tOk Tryd.func24 rfl Tryd.results24 rfl (by simp [Tryd.ntmps24]) ?_
  rw [Tryd.ntmps24]
  simp only [argSlots]
  refine AWP_len 0 rfl (fun hlen => ?_)
  rw [List.length_map] at hlen
  repeat (first
    | (refine AWP_seq (AWP_regS tOk rfl ?_); simp)
    | (refine AWP_regS tOk rfl ?_; simp)
    | (refine AWP_skip ?_; simp)
    | (refine AWP_exit ?_; simp)
    | (refine AWP_ret ?_; simp)
    | refine AWP_block ?_
    | refine AWP_seq ?_)
  refine AWP_cond2 rfl (fun h => ?_) (fun h => ?_)
  · repeat (first
      | (refine AWP_seq (AWP_regS tOk rfl ?_); simp)
      | (refine AWP_regS tOk rfl ?_; simp)
      | (refine AWP_skip ?_; simp)
      | (refine AWP_exit ?_; simp)
      | (refine AWP_ret ?_; simp)
      | refine AWP_block ?_
      | refine AWP_seq ?_)
    rw [checkAllR, ite_t h]
  repeat (first
    | (refine AWP_seq (AWP_regS tOk rfl ?_); simp)
    | (refine AWP_regS tOk rfl ?_; simp)
    | (refine AWP_skip ?_; simp)
    | (refine AWP_exit ?_; simp)
    | (refine AWP_ret ?_; simp)
    | refine AWP_block ?_
    | refine AWP_seq ?_)
  refine AWP_countI l.length (fun j => firstErr checkR l = firstErr checkR (l.drop j)) (fun j => [(9, .list (l.map encV)), (10, .i l.length), (11, .i j)]) (fun _ => []) rfl (by simp) (by simp) (by simp) (by simp) (by simp) ?_
  intro j hj hI ih
  repeat (first
    | (refine AWP_seq (AWP_regS tOk rfl ?_); simp)
    | (refine AWP_regS tOk rfl ?_; simp)
    | (refine AWP_skip ?_; simp)
    | (refine AWP_exit ?_; simp)
    | (refine AWP_ret ?_; simp)
    | refine AWP_block ?_
    | refine AWP_seq ?_)
  refine AWP_cond2 rfl (fun hlt => ?_) (fun hge => ?_)
  · have hlt' : j < l.length := by simpa using hlt
    rw [drop_get hlt', firstErr] at hI
    repeat (first
      | (refine AWP_seq (AWP_regS tOk rfl ?_); simp [hlt'])
      | (refine AWP_regS tOk rfl ?_; simp [hlt'])
      | (refine AWP_skip ?_; simp [hlt'])
      | (refine AWP_exit ?_; simp [hlt'])
      | (refine AWP_ret ?_; simp [hlt'])
      | refine AWP_block ?_
      | refine AWP_seq ?_)
    refine AStep_PC rfl rfl (by simp) (pc_Check l[j]) rfl ?_
    rintro _ rfl
    simp
    repeat (first
      | (refine AWP_seq (AWP_regS tOk rfl ?_); simp)
      | (refine AWP_regS tOk rfl ?_; simp)
      | (refine AWP_skip ?_; simp)
      | (refine AWP_exit ?_; simp)
      | (refine AWP_ret ?_; simp)
      | refine AWP_block ?_
      | refine AWP_seq ?_)
    refine AWP_cond2 rfl (fun h2 => ?_) (fun h2 => ?_)
    · repeat (first
        | (refine AWP_seq (AWP_regS tOk rfl ?_); simp)
        | (refine AWP_regS tOk rfl ?_; simp)
        | (refine AWP_skip ?_; simp)
        | (refine AWP_exit ?_; simp)
        | (refine AWP_ret ?_; simp)
        | refine AWP_block ?_
        | refine AWP_seq ?_)
      rw [checkAllR, ite_f h, hI, ite_t h2]
    · repeat (first
        | (refine AWP_seq (AWP_regS tOk rfl ?_); simp)
        | (refine AWP_regS tOk rfl ?_; simp)
        | (refine AWP_skip ?_; simp)
        | (refine AWP_exit ?_; simp)
        | (refine AWP_ret ?_; simp)
        | refine AWP_block ?_
        | refine AWP_seq ?_)
      rw [ite_f h2] at hI
      refine ALoop_end _ (ih hlt' hI) rfl (by simp) ?_ (by simp) (by simp)
      simp
      exact wrap_i64 _ (by omega) (by omega)
  · have hge' : j = l.length := by simp at hge; omega
    subst hge'
    repeat (first
      | (refine AWP_seq (AWP_regS tOk rfl ?_); simp)
      | (refine AWP_regS tOk rfl ?_; simp)
      | (refine AWP_skip ?_; simp)
      | (refine AWP_exit ?_; simp)
      | (refine AWP_ret ?_; simp)
      | refine AWP_block ?_
      | refine AWP_seq ?_)
    rw [checkAllR, ite_f h, hI, List.drop_length]; rfl
set_option maxHeartbeats 400000 in
theorem pc_rCheckAll (l : List Val) : PC Tryd.prog 25 [.list (l.map encV)] (fun r => r = .i (checkAllR rCheckR l)) := by
  refine PC_body tOk Tryd.func25 rfl Tryd.results25 rfl (by simp [Tryd.ntmps25]) ?_
  rw [Tryd.ntmps25]
  simp only [argSlots]
  refine AWP_len 0 rfl (fun hlen => ?_)
  rw [List.length_map] at hlen
  repeat (first
    | (refine AWP_seq (AWP_regS tOk rfl ?_); simp)
    | (refine AWP_regS tOk rfl ?_; simp)
    | (refine AWP_skip ?_; simp)
    | (refine AWP_exit ?_; simp)
    | (refine AWP_ret ?_; simp)
    | refine AWP_block ?_
    | refine AWP_seq ?_)
  refine AWP_cond2 rfl (fun h => ?_) (fun h => ?_)
  · repeat (first
      | (refine AWP_seq (AWP_regS tOk rfl ?_); simp)
      | (refine AWP_regS tOk rfl ?_; simp)
      | (refine AWP_skip ?_; simp)
      | (refine AWP_exit ?_; simp)
      | (refine AWP_ret ?_; simp)
      | refine AWP_block ?_
      | refine AWP_seq ?_)
    rw [checkAllR, ite_t h]
  repeat (first
    | (refine AWP_seq (AWP_regS tOk rfl ?_); simp)
    | (refine AWP_regS tOk rfl ?_; simp)
    | (refine AWP_skip ?_; simp)
    | (refine AWP_exit ?_; simp)
    | (refine AWP_ret ?_; simp)
    | refine AWP_block ?_
    | refine AWP_seq ?_)
  refine AWP_countI l.length (fun j => firstErr rCheckR l = firstErr rCheckR (l.drop j)) (fun j => [(0, .list (l.map encV)), (3, .i j)]) (fun _ => []) rfl (by simp) (by simp) (by simp) (by simp) (by simp) ?_
  intro j hj hI ih
  repeat (first
    | (refine AWP_seq (AWP_regS tOk rfl ?_); simp)
    | (refine AWP_regS tOk rfl ?_; simp)
    | (refine AWP_skip ?_; simp)
    | (refine AWP_exit ?_; simp)
    | (refine AWP_ret ?_; simp)
    | refine AWP_block ?_
    | refine AWP_seq ?_)
  refine AWP_cond2 rfl (fun hlt => ?_) (fun hge => ?_)
  · have hlt' : j < l.length := by simpa using hlt
    rw [drop_get hlt', firstErr] at hI
    repeat (first
      | (refine AWP_seq (AWP_regS tOk rfl ?_); simp [hlt'])
      | (refine AWP_regS tOk rfl ?_; simp [hlt'])
      | (refine AWP_skip ?_; simp [hlt'])
      | (refine AWP_exit ?_; simp [hlt'])
      | (refine AWP_ret ?_; simp [hlt'])
      | refine AWP_block ?_
      | refine AWP_seq ?_)
    refine AStep_PC rfl rfl (by simp) (pc_rCheck l[j]) rfl ?_
    rintro _ rfl
    simp
    repeat (first
      | (refine AWP_seq (AWP_regS tOk rfl ?_); simp)
      | (refine AWP_regS tOk rfl ?_; simp)
      | (refine AWP_skip ?_; simp)
      | (refine AWP_exit ?_; simp)
      | (refine AWP_ret ?_; simp)
      | refine AWP_block ?_
      | refine AWP_seq ?_)
    refine AWP_cond2 rfl (fun h2 => ?_) (fun h2 => ?_)
    · repeat (first
        | (refine AWP_seq (AWP_regS tOk rfl ?_); simp)
        | (refine AWP_regS tOk rfl ?_; simp)
        | (refine AWP_skip ?_; simp)
        | (refine AWP_exit ?_; simp)
        | (refine AWP_ret ?_; simp)
        | refine AWP_block ?_
        | refine AWP_seq ?_)
      rw [checkAllR, ite_f h, hI, ite_t h2]
    · repeat (first
        | (refine AWP_seq (AWP_regS tOk rfl ?_); simp)
        | (refine AWP_regS tOk rfl ?_; simp)
        | (refine AWP_skip ?_; simp)
        | (refine AWP_exit ?_; simp)
        | (refine AWP_ret ?_; simp)
        | refine AWP_block ?_
        | refine AWP_seq ?_)
      rw [ite_f h2] at hI
      refine ALoop_end _ (ih hlt' hI) rfl (by simp) ?_ (by simp) (by simp)
      simp
      exact wrap_i64 _ (by omega) (by omega)
  · have hge' : j = l.length := by simp at hge; omega
    subst hge'
    repeat (first
      | (refine AWP_seq (AWP_regS tOk rfl ?_); simp)
      | (refine AWP_regS tOk rfl ?_; simp)
      | (refine AWP_skip ?_; simp)
      | (refine AWP_exit ?_; simp)
      | (refine AWP_ret ?_; simp)
      | refine AWP_block ?_
      | refine AWP_seq ?_)
    rw [checkAllR, ite_f h, hI, List.drop_length]; rfl

def cmpI (a b : Int) : Int := if decide (a < b) = true then -1 else if decide (b < a) = true then 1 else 0
theorem pc_order (a b : Int) : PC Tryd.prog 37 [.i a, .i b] (fun r => r = .i (cmpI a b)) := by
  refine PC_body tOk Tryd.func37 rfl Tryd.results37 rfl (by simp [Tryd.ntmps37]) ?_
  rw [Tryd.ntmps37]
  simp only [argSlots]
  repeat (first
    | (refine AWP_seq (AWP_regS tOk rfl ?_); simp)
    | (refine AWP_regS tOk rfl ?_; simp)
    | (refine AWP_skip ?_; simp)
    | (refine AWP_exit ?_; simp)
    | (refine AWP_ret ?_; simp)
    | refine AWP_block ?_
    | refine AWP_seq ?_)
  refine AWP_cond2 rfl (fun h => ?_) (fun h => ?_)
  · repeat (first
      | (refine AWP_seq (AWP_regS tOk rfl ?_); simp)
      | (refine AWP_regS tOk rfl ?_; simp)
      | (refine AWP_skip ?_; simp)
      | (refine AWP_exit ?_; simp)
      | (refine AWP_ret ?_; simp)
      | refine AWP_block ?_
      | refine AWP_seq ?_)
    rw [cmpI, ite_t h]
  repeat (first
    | (refine AWP_seq (AWP_regS tOk rfl ?_); simp)
    | (refine AWP_regS tOk rfl ?_; simp)
    | (refine AWP_skip ?_; simp)
    | (refine AWP_exit ?_; simp)
    | (refine AWP_ret ?_; simp)
    | refine AWP_block ?_
    | refine AWP_seq ?_)
  refine AWP_cond2 rfl (fun h1 => ?_) (fun h1 => ?_)
  · repeat (first
      | (refine AWP_seq (AWP_regS tOk rfl ?_); simp)
      | (refine AWP_regS tOk rfl ?_; simp)
      | (refine AWP_skip ?_; simp)
      | (refine AWP_exit ?_; simp)
      | (refine AWP_ret ?_; simp)
      | refine AWP_block ?_
      | refine AWP_seq ?_)
    rw [cmpI, ite_f h, ite_t h1]
  · repeat (first
      | (refine AWP_seq (AWP_regS tOk rfl ?_); simp)
      | (refine AWP_regS tOk rfl ?_; simp)
      | (refine AWP_skip ?_; simp)
      | (refine AWP_exit ?_; simp)
      | (refine AWP_ret ?_; simp)
      | refine AWP_block ?_
      | refine AWP_seq ?_)
    rw [cmpI, ite_f h, ite_f h1]
theorem pc_isNaN (a : Int) : PC Tryd.prog 46 [.i a] (fun r => r = .bool false) := by
  refine PC_body tOk Tryd.func46 rfl Tryd.results46 rfl (by simp [Tryd.ntmps46]) ?_
  rw [Tryd.ntmps46]
  simp only [argSlots]
  repeat (first
    | (refine AWP_seq (AWP_regS tOk rfl ?_); simp)
    | (refine AWP_regS tOk rfl ?_; simp)
    | (refine AWP_skip ?_; simp)
    | (refine AWP_exit ?_; simp)
    | (refine AWP_ret ?_; simp)
    | refine AWP_block ?_
    | refine AWP_seq ?_)
theorem pc_cmpInt (a b : Int) : PC Tryd.prog 34 [.i a, .i b] (fun r => r = .i (cmpI a b)) := by
  refine PC_body tOk Tryd.func34 rfl Tryd.results34 rfl (by simp [Tryd.ntmps34]) ?_
  rw [Tryd.ntmps34]
  simp only [argSlots]
  repeat (first
    | (refine AWP_seq (AWP_regS tOk rfl ?_); simp)
    | (refine AWP_regS tOk rfl ?_; simp)
    | (refine AWP_skip ?_; simp)
    | (refine AWP_exit ?_; simp)
    | (refine AWP_ret ?_; simp)
    | refine AWP_block ?_
    | refine AWP_seq ?_)
  refine AStep_PC rfl rfl (by simp) (pc_isNaN a) rfl ?_
  rintro _ rfl
  simp
  repeat (first
    | (refine AWP_seq (AWP_regS tOk rfl ?_); simp)
    | (refine AWP_regS tOk rfl ?_; simp)
    | (refine AWP_skip ?_; simp)
    | (refine AWP_exit ?_; simp)
    | (refine AWP_ret ?_; simp)
    | refine AWP_block ?_
    | refine AWP_seq ?_)
  refine AStep_PC rfl rfl (by simp) (pc_isNaN b) rfl ?_
  rintro _ rfl
  simp
  repeat (first
    | (refine AWP_seq (AWP_regS tOk rfl ?_); simp)
    | (refine AWP_regS tOk rfl ?_; simp)
    | (refine AWP_skip ?_; simp)
    | (refine AWP_exit ?_; simp)
    | (refine AWP_ret ?_; simp)
    | refine AWP_block ?_
    | refine AWP_seq ?_)
  refine AWP_cond rfl ?_
  repeat (first
    | (refine AWP_seq (AWP_regS tOk rfl ?_); simp)
    | (refine AWP_regS tOk rfl ?_; simp)
    | (refine AWP_skip ?_; simp)
    | (refine AWP_exit ?_; simp)
    | (refine AWP_ret ?_; simp)
    | refine AWP_block ?_
    | refine AWP_seq ?_)
  refine AWP_cond rfl ?_
  repeat (first
    | (refine AWP_seq (AWP_regS tOk rfl ?_); simp)
    | (refine AWP_regS tOk rfl ?_; simp)
    | (refine AWP_skip ?_; simp)
    | (refine AWP_exit ?_; simp)
    | (refine AWP_ret ?_; simp)
    | refine AWP_block ?_
    | refine AWP_seq ?_)
  refine AWP_cond2 rfl (fun h => ?_) (fun h => ?_)
  · repeat (first
      | (refine AWP_seq (AWP_regS tOk rfl ?_); simp)
      | (refine AWP_regS tOk rfl ?_; simp)
      | (refine AWP_skip ?_; simp)
      | (refine AWP_exit ?_; simp)
      | (refine AWP_ret ?_; simp)
      | refine AWP_block ?_
      | refine AWP_seq ?_)
    rw [cmpI, ite_t h]
  repeat (first
    | (refine AWP_seq (AWP_regS tOk rfl ?_); simp)
    | (refine AWP_regS tOk rfl ?_; simp)
    | (refine AWP_skip ?_; simp)
    | (refine AWP_exit ?_; simp)
    | (refine AWP_ret ?_; simp)
    | refine AWP_block ?_
    | refine AWP_seq ?_)
  refine AWP_cond2 rfl (fun h1 => ?_) (fun h1 => ?_)
  · repeat (first
      | (refine AWP_seq (AWP_regS tOk rfl ?_); simp)
      | (refine AWP_regS tOk rfl ?_; simp)
      | (refine AWP_skip ?_; simp)
      | (refine AWP_exit ?_; simp)
      | (refine AWP_ret ?_; simp)
      | refine AWP_block ?_
      | refine AWP_seq ?_)
    rw [cmpI, ite_f h, ite_t h1]
  · repeat (first
      | (refine AWP_seq (AWP_regS tOk rfl ?_); simp)
      | (refine AWP_regS tOk rfl ?_; simp)
      | (refine AWP_skip ?_; simp)
      | (refine AWP_exit ?_; simp)
      | (refine AWP_ret ?_; simp)
      | refine AWP_block ?_
      | refine AWP_seq ?_)
    rw [cmpI, ite_f h, ite_f h1]
def cmpS (a b : List UInt8) : Int := if Op.bytesLess a b = true then -1 else if Op.bytesLess b a = true then 1 else 0
theorem pc_cmp1 (a b : Val) : PC Tryd.prog 33 [encV a, encV b] (fun r => r = .i (cmpI a.kind b.kind)) := by
  refine PC_body tOk Tryd.func33 rfl Tryd.results33 rfl (by simp [Tryd.ntmps33]) ?_
  rw [Tryd.ntmps33]
  simp only [argSlots]
  simp only [encV]
  repeat (first
    | (refine AWP_seq (AWP_regS tOk rfl ?_); simp)
    | (refine AWP_regS tOk rfl ?_; simp)
    | (refine AWP_skip ?_; simp)
    | (refine AWP_exit ?_; simp)
    | (refine AWP_ret ?_; simp)
    | refine AWP_block ?_
    | refine AWP_seq ?_)
  refine AStep_PC rfl rfl (by simp) (pc_cmpInt a.kind b.kind) rfl ?_
  rintro _ rfl
  simp
  repeat (first
    | (refine AWP_seq (AWP_regS tOk rfl ?_); simp)
    | (refine AWP_regS tOk rfl ?_; simp)
    | (refine AWP_skip ?_; simp)
    | (refine AWP_exit ?_; simp)
    | (refine AWP_ret ?_; simp)
    | refine AWP_block ?_
    | refine AWP_seq ?_)
theorem pc_cmp2 (a b : Val) : PC Tryd.prog 35 [encV a, encV b] (fun r => r = .i (cmpI a.num b.num)) := by
  refine PC_body tOk Tryd.func35 rfl Tryd.results35 rfl (by simp [Tryd.ntmps35]) ?_
  rw [Tryd.ntmps35]
  simp only [argSlots]
  simp only [encV]
  repeat (first
    | (refine AWP_seq (AWP_regS tOk rfl ?_); simp)
    | (refine AWP_regS tOk rfl ?_; simp)
    | (refine AWP_skip ?_; simp)
    | (refine AWP_exit ?_; simp)
    | (refine AWP_ret ?_; simp)
    | refine AWP_block ?_
    | refine AWP_seq ?_)
  refine AStep_PC rfl rfl (by simp) (pc_cmpInt a.num b.num) rfl ?_
  rintro _ rfl
  simp
  repeat (first
    | (refine AWP_seq (AWP_regS tOk rfl ?_); simp)
    | (refine AWP_regS tOk rfl ?_; simp)
    | (refine AWP_skip ?_; simp)
    | (refine AWP_exit ?_; simp)
    | (refine AWP_ret ?_; simp)
    | refine AWP_block ?_
    | refine AWP_seq ?_)
def rCompR (a b : Val) : Int := if (a.kind != b.kind) = true then cmpI a.kind b.kind else if (a.num != b.num) = true then cmpI a.num b.num else if Op.bytesLess a.text b.text = true then -1 else if (!Op.bytesLess a.text b.text && !a.text == b.text) = true then 1 else 0
theorem pc_rCompare (a b : Val) : PC Tryd.prog 20 [encV a, encV b] (fun r => r = .i (rCompR a b)) := by
  refine PC_body tOk Tryd.func20 rfl Tryd.results20 rfl (by simp [Tryd.ntmps20]) ?_
  rw [Tryd.ntmps20]
  simp only [argSlots]
  simp only [encV]
  repeat (first
    | (refine AWP_seq (AWP_regS tOk rfl ?_); simp)
    | (refine AWP_regS tOk rfl ?_; simp)
    | (refine AWP_skip ?_; simp)
    | (refine AWP_exit ?_; simp)
    | (refine AWP_ret ?_; simp)
    | refine AWP_block ?_
    | refine AWP_seq ?_)
  refine AWP_cond2 rfl (fun h => ?_) (fun h => ?_)
  · repeat (first
      | (refine AWP_seq (AWP_regS tOk rfl ?_); simp)
      | (refine AWP_regS tOk rfl ?_; simp)
      | (refine AWP_skip ?_; simp)
      | (refine AWP_exit ?_; simp)
      | (refine AWP_ret ?_; simp)
      | refine AWP_block ?_
      | refine AWP_seq ?_)
    refine AStep_PC rfl rfl (by simp) (pc_order a.kind b.kind) rfl ?_
    rintro _ rfl
    simp
    repeat (first
      | (refine AWP_seq (AWP_regS tOk rfl ?_); simp)
      | (refine AWP_regS tOk rfl ?_; simp)
      | (refine AWP_skip ?_; simp)
      | (refine AWP_exit ?_; simp)
      | (refine AWP_ret ?_; simp)
      | refine AWP_block ?_
      | refine AWP_seq ?_)
    rw [rCompR, ite_t h]
  repeat (first
    | (refine AWP_seq (AWP_regS tOk rfl ?_); simp)
    | (refine AWP_regS tOk rfl ?_; simp)
    | (refine AWP_skip ?_; simp)
    | (refine AWP_exit ?_; simp)
    | (refine AWP_ret ?_; simp)
    | refine AWP_block ?_
    | refine AWP_seq ?_)
  refine AWP_cond2 rfl (fun h1 => ?_) (fun h1 => ?_)
  · repeat (first
      | (refine AWP_seq (AWP_regS tOk rfl ?_); simp)
      | (refine AWP_regS tOk rfl ?_; simp)
      | (refine AWP_skip ?_; simp)
      | (refine AWP_exit ?_; simp)
      | (refine AWP_ret ?_; simp)
      | refine AWP_block ?_
      | refine AWP_seq ?_)
    refine AStep_PC rfl rfl (by simp) (pc_order a.num b.num) rfl ?_
    rintro _ rfl
    simp
    repeat (first
      | (refine AWP_seq (AWP_regS tOk rfl ?_); simp)
      | (refine AWP_regS tOk rfl ?_; simp)
      | (refine AWP_skip ?_; simp)
      | (refine AWP_exit ?_; simp)
      | (refine AWP_ret ?_; simp)
      | refine AWP_block ?_
      | refine AWP_seq ?_)
    rw [rCompR, ite_f h, ite_t h1]
  repeat (first
    | (refine AWP_seq (AWP_regS tOk rfl ?_); simp)
    | (refine AWP_regS tOk rfl ?_; simp)
    | (refine AWP_skip ?_; simp)
    | (refine AWP_exit ?_; simp)
    | (refine AWP_ret ?_; simp)
    | refine AWP_block ?_
    | refine AWP_seq ?_)
  refine AWP_cond2 rfl (fun h2 => ?_) (fun h2 => ?_)
  · repeat (first
      | (refine AWP_seq (AWP_regS tOk rfl ?_); simp)
      | (refine AWP_regS tOk rfl ?_; simp)
      | (refine AWP_skip ?_; simp)
      | (refine AWP_exit ?_; simp)
      | (refine AWP_ret ?_; simp)
      | refine AWP_block ?_
      | refine AWP_seq ?_)
    rw [rCompR, ite_f h, ite_f h1, ite_t h2]
  repeat (first
    | (refine AWP_seq (AWP_regS tOk rfl ?_); simp)
    | (refine AWP_regS tOk rfl ?_; simp)
    | (refine AWP_skip ?_; simp)
    | (refine AWP_exit ?_; simp)
    | (refine AWP_ret ?_; simp)
    | refine AWP_block ?_
    | refine AWP_seq ?_)
  refine AWP_cond2 rfl (fun h3 => ?_) (fun h3 => ?_)
  · repeat (first
      | (refine AWP_seq (AWP_regS tOk rfl ?_); simp)
      | (refine AWP_regS tOk rfl ?_; simp)
      | (refine AWP_skip ?_; simp)
      | (refine AWP_exit ?_; simp)
      | (refine AWP_ret ?_; simp)
      | refine AWP_block ?_
      | refine AWP_seq ?_)
    rw [rCompR, ite_f h, ite_f h1, ite_f h2, ite_t h3]
  · repeat (first
      | (refine AWP_seq (AWP_regS tOk rfl ?_); simp)
      | (refine AWP_regS tOk rfl ?_; simp)
      | (refine AWP_skip ?_; simp)
      | (refine AWP_exit ?_; simp)
      | (refine AWP_ret ?_; simp)
      | refine AWP_block ?_
      | refine AWP_seq ?_)
    rw [rCompR, ite_f h, ite_f h1, ite_f h2, ite_f h3]
def fmix (h : Int) (c : UInt8) : Int := Int.tmod (W (bits .xor .i64 h (W c.toNat) * 16777619)) 4294967296
theorem pc_rMix (n : Int) (c : UInt8) : PC Tryd.prog 32 [.i n, .int .u8 c.toNat] (fun r => r = .i (fmix n c)) := by
  refine PC_body tOk Tryd.func32 rfl Tryd.results32 rfl (by simp [Tryd.ntmps32]) ?_
  rw [Tryd.ntmps32]
  simp only [argSlots]
  repeat (first
    | (refine AWP_seq (AWP_regS tOk rfl ?_); simp)
    | (refine AWP_regS tOk rfl ?_; simp)
    | (refine AWP_skip ?_; simp)
    | (refine AWP_exit ?_; simp)
    | (refine AWP_ret ?_; simp)
    | refine AWP_block ?_
    | refine AWP_seq ?_)
  rfl
end Go.Abs
/-
  DERIVED: THE SHELF's CONTRACTS AT THIS DUMP, IN PLAIN WORDS (tools/lay-plain.mjs out of 'TrydShelf.lean', which tools/lay-shelf.mjs wrote): THE SAME DECLARATIONS UNDER THE SAME NAMES: 'import', 'namespace', 'open', 'def', 'theorem' AND NOTHING ELSE: no command of the shelf's: FOR A HAND-IN. Each laying: the table of numbers ('.._ren') and one theorem, a field a fact of the dump's own or the kernel's comparison; each contract: ONE APPLICATION.
-/
namespace Go.Proofs
open Go.Shelf
def Tryd.lays106_ren : Go.Shelf.Ren := ⟨fun | 106 => 36 | 213 => 47 | 265 => 59 | n => n, fun | 9 => 9 | 3 => 3 | n => n, fun | n => n⟩
theorem Tryd.lays106 : Go.Proofs.Lays.n106 Tryd.prog Tryd.lays106_ren := {
  mixed := by kernel_rfl
  f106 := Tryd.func36.trans (congrArg some (by kernel_rfl))
  f213 := Tryd.func47.trans (congrArg some (by kernel_rfl))
  f265 := Tryd.func59.trans (congrArg some (by kernel_rfl))
  t3 := Tryd.underlying3
  a3 := Tryd.isAgg3
  z3 := Tryd.sizeOf3
  v3 := Tryd.zeroValue3
  t9 := Tryd.underlying9
  a9 := Tryd.isAgg9
  z9 := Tryd.sizeOf9
  v9 := Tryd.zeroValue9 }
open Go.RowKit in
/-- strings.Compare: "Compare returns an integer comparing two strings lexicographically. The result will be 0 if a == b, -1 if a < b, and +1 if a > b.": IT RETURNS 'Lib.compareBytes a b'; the world is as it was. (LAID: no walk: one application.) -/
theorem Tryd.strings_Compare (a b : ByteArray) (w : World) :
    Calls Tryd.prog 36 #[.string a, .string b] w fun e w' => e = .returned (.int .i64 (Lib.compareBytes a.data.toList b.data.toList)) ∧ w' = w := Any.strings_Compare Tryd.lays106 a b w
def Tryd.lays137_ren : Go.Shelf.Ren := ⟨fun | 137 => 60 | 217 => 73 | 266 => 88 | n => n, fun | 9 => 9 | 5 => 5 | 3 => 3 | n => n, fun | n => n⟩
theorem Tryd.lays137 : Go.Proofs.Lays.n137 Tryd.prog Tryd.lays137_ren := {
  mixed := by kernel_rfl
  f137 := Tryd.func60.trans (congrArg some (by kernel_rfl))
  f217 := Tryd.func73.trans (congrArg some (by kernel_rfl))
  f266 := Tryd.func88.trans (congrArg some (by kernel_rfl))
  t3 := Tryd.underlying3
  a3 := Tryd.isAgg3
  z3 := Tryd.sizeOf3
  v3 := Tryd.zeroValue3
  t5 := Tryd.underlying5
  a5 := Tryd.isAgg5
  z5 := Tryd.sizeOf5
  v5 := Tryd.zeroValue5
  t9 := Tryd.underlying9
  a9 := Tryd.isAgg9
  z9 := Tryd.sizeOf9
  v9 := Tryd.zeroValue9 }
open Go.RowKit in
/-- strings.IndexByte: "IndexByte returns the index of the first instance of c in s, or -1 if c is not present in s.": IT RETURNS 'Lib.indexByte s c'; the world is as it was. (LAID: no walk: one application.) -/
theorem Tryd.strings_IndexByte (s : ByteArray) (c : Int) (w : World) :
    Calls Tryd.prog 60 #[.string s, .int .u8 c] w fun e w' => e = .returned (.int .i64 (Lib.indexByte s.data.toList c.toNat.toUInt8)) ∧ w' = w := Any.strings_IndexByte Tryd.lays137 s c w
def Tryd.laysM171_ren : Go.Shelf.Ren := ⟨fun | 171 => 42 | 243 => 54 | 246 => 71 | 283 => 83 | 284 => 84 | 285 => 85 | 286 => 86 | 129 => 96 | 317 => 95 | 318 => 97 | 319 => 98 | 320 => 99 | 337 => 105 | 338 => 106 | n => n, fun | 3 => 3 | 9 => 9 | 2 => 2 | 4 => 4 | 171 => 106 | 0 => 0 | 53 => 107 | 37 => 42 | 5 => 5 | 173 => 110 | 212 => 122 | 51 => 57 | 20 => 20 | 213 => 123 | 46 => 84 | 232 => 135 | 233 => 136 | n => n, fun | 17 => 3 | 18 => 6 | 19 => 7 | n => n⟩
theorem Tryd.laysM171 : Go.Proofs.LaysM.n171 Tryd.prog Tryd.laysM171_ren := {
  mixed := by kernel_rfl
  f129 := Tryd.func96.trans (congrArg some (by kernel_rfl))
  f171 := Tryd.func42.trans (congrArg some (by kernel_rfl))
  f243 := Tryd.func54.trans (congrArg some (by kernel_rfl))
  f246 := Tryd.func71.trans (congrArg some (by kernel_rfl))
  f283 := Tryd.func83.trans (congrArg some (by kernel_rfl))
  f284 := Tryd.func84.trans (congrArg some (by kernel_rfl))
  f285 := Tryd.func85.trans (congrArg some (by kernel_rfl))
  f286 := Tryd.func86.trans (congrArg some (by kernel_rfl))
  f317 := Tryd.func95.trans (congrArg some (by kernel_rfl))
  f318 := Tryd.func97.trans (congrArg some (by kernel_rfl))
  f319 := Tryd.func98.trans (congrArg some (by kernel_rfl))
  f320 := Tryd.func99.trans (congrArg some (by kernel_rfl))
  f337 := Tryd.func105.trans (congrArg some (by kernel_rfl))
  f338 := Tryd.func106.trans (congrArg some (by kernel_rfl))
  t0 := Tryd.underlying0
  a0 := Tryd.isAgg0
  z0 := Tryd.sizeOf0
  v0 := Tryd.zeroValue0
  t2 := Tryd.underlying2
  a2 := Tryd.isAgg2
  z2 := Tryd.sizeOf2
  v2 := Tryd.zeroValue2
  t3 := Tryd.underlying3
  a3 := Tryd.isAgg3
  z3 := Tryd.sizeOf3
  v3 := Tryd.zeroValue3
  t4 := Tryd.underlying4
  a4 := Tryd.isAgg4
  z4 := Tryd.sizeOf4
  v4 := Tryd.zeroValue4
  t5 := Tryd.underlying5
  a5 := Tryd.isAgg5
  z5 := Tryd.sizeOf5
  v5 := Tryd.zeroValue5
  t9 := Tryd.underlying9
  a9 := Tryd.isAgg9
  z9 := Tryd.sizeOf9
  v9 := Tryd.zeroValue9
  t20 := Tryd.underlying20
  a20 := Tryd.isAgg20
  z20 := Tryd.sizeOf20
  v20 := Tryd.zeroValue20
  t37 := Tryd.underlying42
  a37 := Tryd.isAgg42
  z37 := Tryd.sizeOf42
  v37 := Tryd.zeroValue42
  t46 := Tryd.underlying84
  a46 := Tryd.isAgg84
  z46 := Tryd.sizeOf84
  v46 := Tryd.zeroValue84
  t51 := Tryd.underlying57
  a51 := Tryd.isAgg57
  z51 := Tryd.sizeOf57
  v51 := Tryd.zeroValue57
  t53 := Tryd.underlying107
  a53 := Tryd.isAgg107
  z53 := Tryd.sizeOf107
  v53 := Tryd.zeroValue107
  t171 := Tryd.underlying106
  a171 := Tryd.isAgg106
  z171 := Tryd.sizeOf106
  v171 := Tryd.zeroValue106
  t173 := Tryd.underlying110
  a173 := Tryd.isAgg110
  z173 := Tryd.sizeOf110
  v173 := Tryd.zeroValue110
  t212 := Tryd.underlying122
  a212 := Tryd.isAgg122
  z212 := Tryd.sizeOf122
  v212 := Tryd.zeroValue122
  t213 := Tryd.underlying123
  a213 := Tryd.isAgg123
  z213 := Tryd.sizeOf123
  t232 := Tryd.underlying135
  a232 := Tryd.isAgg135
  z232 := Tryd.sizeOf135
  v232 := Tryd.zeroValue135
  t233 := Tryd.underlying136
  a233 := Tryd.isAgg136
  z233 := Tryd.sizeOf136
  v233 := Tryd.zeroValue136
  g17 := by kernel_rfl
  g18 := by kernel_rfl
  g19 := by kernel_rfl
  i0 := by kernel_rfl
  i2 := by kernel_rfl
  i3 := by kernel_rfl
  i4 := by kernel_rfl
  i5 := by kernel_rfl
  i9 := by kernel_rfl
  i20 := by kernel_rfl
  i37 := by kernel_rfl
  i46 := by kernel_rfl
  i51 := by kernel_rfl
  i53 := by kernel_rfl
  i171 := by kernel_rfl
  i173 := by kernel_rfl
  i212 := by kernel_rfl
  i232 := by kernel_rfl
  i233 := by kernel_rfl
  m17 := by kernel_rfl
  m18 := by kernel_rfl
  m19 := by kernel_rfl }
open Go.RowKit Go.Sort Go.Lib in
/-- strconv.Itoa: "Itoa is equivalent to FormatInt(int64(i), 10).": i's DECIMAL NUMERAL ('Lib.itoa': a '-' where i is negative, then the digits), FOR EVERY int. The world behind the call: the world before it, new blocks behind the heap (the library's 'var a [24]byte'), draws. (LAID: no walk: one application.) -/
theorem Tryd.strconv_Itoa (n : Int) (h0 : -9223372036854775808 ≤ n) (h1 : n ≤ 9223372036854775807) (w : World) (htab : Lib.TabIs Tryd.prog w "internal/strconv.uint64pow10" .u64 Lib.pow10Tab) :
    Calls Tryd.prog 42 #[.int .i64 n] w fun e w' => e = .returned (.string ⟨(Lib.itoa n).toArray⟩) ∧ ∃ k os, w' = grow (w.drewN k) os := Any.strconv_Itoa Tryd.laysM171 n h0 h1 w htab
end Go.Proofs
set_option maxRecDepth 100000
namespace Go.Abs
open Go Go.Proofs
set_option linter.unusedSimpArgs false

theorem callable_Itoa : Callable Tryd.prog 42 := callable Tryd.func42 rfl (by kernel_rfl)
theorem pc_Itoa (n : Int) (h0 : -9223372036854775808 ≤ n) (h1 : n ≤ 9223372036854775807) : PC Tryd.prog 42 [.i n] (fun r => r = .str (Lib.itoa n)) :=
  PC_ext (us := [.int .i64 n]) callable_Itoa rfl fun w I hE => (Tryd.strconv_Itoa n h0 h1 w (pow10_tab hE)).mono fun e w' ⟨h, k, os, hw⟩ => ⟨⟨_, _, rfl, h, .str _⟩, by rw [hw]; exact Lib.below_grow _ w (Nat.le_refl _) k os⟩
theorem callable_Cmp : Callable Tryd.prog 36 := callable Tryd.func36 rfl (by kernel_rfl)
theorem pc_Cmp (a b : List UInt8) : PC Tryd.prog 36 [.str a, .str b] (fun r => r = .i (Lib.compareBytes a b)) :=
  PC_ext (us := [.string ⟨a.toArray⟩, .string ⟨b.toArray⟩]) callable_Cmp rfl fun w I hE => (Tryd.strings_Compare _ _ w).mono fun e w' ⟨h, hw⟩ => ⟨⟨_, _, rfl, h, by simpa using PVR.int .i64 _⟩, by rw [hw]; exact RowKit.Below.refl _ _⟩
theorem callable_Ixb : Callable Tryd.prog 60 := callable Tryd.func60 rfl (by kernel_rfl)
theorem pc_Ixb (s : List UInt8) (c : UInt8) : PC Tryd.prog 60 [.str s, .int .u8 c.toNat] (fun r => r = .i (Lib.indexByte s c)) :=
  PC_ext (us := [.string ⟨s.toArray⟩, .int .u8 c.toNat]) callable_Ixb rfl fun w I hE => (Tryd.strings_IndexByte _ _ w).mono fun e w' ⟨h, hw⟩ => ⟨⟨_, _, rfl, h, by
    have : ((c.toNat : Int).toNat).toUInt8 = c := by simp
    rw [this]
    exact PVR.int .i64 _⟩, by rw [hw]; exact RowKit.Below.refl _ _⟩
end Go.Abs
set_option maxRecDepth 100000
namespace Go.Abs
open Go Go.Proofs
set_option linter.unusedSimpArgs false
attribute [simp] T82 T80 T112 T77 T96
theorem set_same {α : Type} (l : List α) (i : Nat) (x : α) (h : l[i]? = some x) : l.set i x = l := by
  refine List.ext_getElem? fun k => ?_
  rw [List.getElem?_set]
  split
  · rename_i e; subst e; rw [h]; simp [(List.getElem?_eq_some_iff.1 h).1]
  · rfl
set_option maxHeartbeats 400000 in
theorem fc_copyCheck (H : List AObj) (id q : Nat) (p buf : AV) (hp : p = .nilp ∨ p = .vptr id 0) (hid : H[id]? = some (.vars [p, buf])) (hq : H[q]? = some (.tag id 82)) :
    FC Tryd.prog 72 [.vptr id 0] H (fun r H' => r = .tup [] ∧ H' = H.set id (.vars [.vptr id 0, buf])) := by
  refine FC_body tOk Tryd.func72 rfl Tryd.results72 rfl (by simp [Tryd.ntmps72]) ?_
  rw [Tryd.ntmps72]
  simp only [argSlots]
  rcases hp with rfl | rfl
  · repeat (first
      | (refine AWP_seq (AWP_regS tOk rfl ?_); simp [hid])
      | (refine AWP_regS tOk rfl ?_; simp [hid])
      | (refine AWP_skip ?_; simp [hid])
      | (refine AWP_exit ?_; simp [hid])
      | (refine AWP_ret ?_; simp [hid])
      | refine AWP_block ?_
      | refine AWP_seq ?_)
    refine AWP_cond rfl ?_
    repeat (first
      | (refine AWP_seq (AWP_regS tOk rfl ?_); simp [hid])
      | (refine AWP_regS tOk rfl ?_; simp [hid])
      | (refine AWP_skip ?_; simp [hid])
      | (refine AWP_exit ?_; simp [hid])
      | (refine AWP_ret ?_; simp [hid])
      | refine AWP_block ?_
      | refine AWP_seq ?_)
    refine AStep_toUnsafe tOk rfl rfl rfl T80 rfl T82 (by decide) T112 rfl rfl hid (by simp) ?_
    simp
    refine AStep_noEscape rfl rfl rfl Tryd.func87 (by kernel_rfl) (by kernel_rfl) (by kernel_rfl) (by kernel_rfl) ?_
    simp
    refine AStep_fromUnsafe tOk rfl rfl rfl T112 rfl T82 T80 rfl q rfl hid hq (by kernel_rfl) ?_
    simp [hid]
    repeat (first
      | (refine AWP_seq (AWP_regS tOk rfl ?_); simp [hid])
      | (refine AWP_regS tOk rfl ?_; simp [hid])
      | (refine AWP_skip ?_; simp [hid])
      | (refine AWP_exit ?_; simp [hid])
      | (refine AWP_ret ?_; simp [hid])
      | refine AWP_block ?_
      | refine AWP_seq ?_)
  · repeat (first
      | (refine AWP_seq (AWP_regS tOk rfl ?_); simp [hid])
      | (refine AWP_regS tOk rfl ?_; simp [hid])
      | (refine AWP_skip ?_; simp [hid])
      | (refine AWP_exit ?_; simp [hid])
      | (refine AWP_ret ?_; simp [hid])
      | refine AWP_block ?_
      | refine AWP_seq ?_)
    refine AWP_cond rfl ?_
    repeat (first
      | (refine AWP_seq (AWP_regS tOk rfl ?_); simp [hid])
      | (refine AWP_regS tOk rfl ?_; simp [hid])
      | (refine AWP_skip ?_; simp [hid])
      | (refine AWP_exit ?_; simp [hid])
      | (refine AWP_ret ?_; simp [hid])
      | refine AWP_block ?_
      | refine AWP_seq ?_)
    refine AStep_ptrSame tOk rfl rfl rfl T80 rfl T82 rfl rfl ?_
    simp [hid]
    repeat (first
      | (refine AWP_seq (AWP_regS tOk rfl ?_); simp [hid])
      | (refine AWP_regS tOk rfl ?_; simp [hid])
      | (refine AWP_skip ?_; simp [hid])
      | (refine AWP_exit ?_; simp [hid])
      | (refine AWP_ret ?_; simp [hid])
      | refine AWP_block ?_
      | refine AWP_seq ?_)
    refine AWP_cond rfl ?_
    repeat (first
      | (refine AWP_seq (AWP_regS tOk rfl ?_); simp [hid])
      | (refine AWP_regS tOk rfl ?_; simp [hid])
      | (refine AWP_skip ?_; simp [hid])
      | (refine AWP_exit ?_; simp [hid])
      | (refine AWP_ret ?_; simp [hid])
      | refine AWP_block ?_
      | refine AWP_seq ?_)
    rw [set_same _ _ _ hid]
def bytesA (s : List UInt8) : List AV := s.map byteAV
/-- A builder: object 0 its two cells, object 1 its tag, object 2 the bytes. -/
def bld (p : AV) (s : List UInt8) : List AObj := [.vars [p, .sl 2 1 0 s.length], .tag 0 82, .arr 5 1 (s.map byteAV)]
set_option maxHeartbeats 400000 in
theorem fc_WriteByte (p : AV) (hp : p = .nilp ∨ p = .vptr 0 0) (s : List UInt8) (c : UInt8) (hl : s.length ≤ 100000000) :
    FC Tryd.prog 56 [.vptr 0 0, .int .u8 c.toNat] (bld p s) (fun r H' => r = .nili ∧ ∃ G, H' = [.vars [.vptr 0 0, .sl 4 1 0 (s ++ [c]).length], .tag 0 82, .dead, G, .arr 5 1 ((s ++ [c]).map byteAV)]) := by
  refine FC_body tOk Tryd.func56 rfl Tryd.results56 rfl (by simp [Tryd.ntmps56]) ?_
  rw [Tryd.ntmps56]
  simp only [argSlots]
  simp only [bld]
  repeat (first
    | (refine AWP_seq (AWP_regS tOk rfl ?_); simp)
    | (refine AWP_regS tOk rfl ?_; simp)
    | (refine AWP_skip ?_; simp)
    | (refine AWP_exit ?_; simp)
    | (refine AWP_ret ?_; simp)
    | refine AWP_block ?_
    | refine AWP_seq ?_)
  refine AStep_FC rfl rfl (fc_copyCheck _ 0 1 p _ hp rfl rfl) rfl ?_
  rintro _ _ ⟨rfl, rfl⟩
  simp
  repeat (first
    | (refine AWP_seq (AWP_regS tOk rfl ?_); simp)
    | (refine AWP_regS tOk rfl ?_; simp)
    | (refine AWP_skip ?_; simp)
    | (refine AWP_exit ?_; simp)
    | (refine AWP_ret ?_; simp)
    | refine AWP_block ?_
    | refine AWP_seq ?_)
  refine AStep_appendS tOk rfl rfl T42 rfl T5 rfl (by decide) (by decide) rfl rfl rfl ?_
  simp
  refine ⟨by simp [appOk]; omega, ?_⟩
  repeat (first
    | (refine AWP_seq (AWP_regS tOk rfl ?_); simp)
    | (refine AWP_regS tOk rfl ?_; simp)
    | (refine AWP_skip ?_; simp)
    | (refine AWP_exit ?_; simp)
    | (refine AWP_ret ?_; simp)
    | refine AWP_block ?_
    | refine AWP_seq ?_)
set_option maxHeartbeats 400000 in
theorem fc_WriteString (p : AV) (hp : p = .nilp ∨ p = .vptr 0 0) (s t : List UInt8) (hl : s.length ≤ 100000000) (ht : t.length ≤ 100000000) :
    FC Tryd.prog 57 [.vptr 0 0, .str t] (bld p s) (fun r H' => r = .tup [.i t.length, .nili] ∧ H' = [.vars [.vptr 0 0, .sl 3 1 0 (s ++ t).length], .tag 0 82, .dead, .arr 5 1 ((s ++ t).map byteAV)]) := by
  refine FC_body tOk Tryd.func57 rfl Tryd.results57 rfl (by simp [Tryd.ntmps57]) ?_
  rw [Tryd.ntmps57]
  simp only [argSlots]
  simp only [bld]
  repeat (first
    | (refine AWP_seq (AWP_regS tOk rfl ?_); simp)
    | (refine AWP_regS tOk rfl ?_; simp)
    | (refine AWP_skip ?_; simp)
    | (refine AWP_exit ?_; simp)
    | (refine AWP_ret ?_; simp)
    | refine AWP_block ?_
    | refine AWP_seq ?_)
  refine AStep_FC rfl rfl (fc_copyCheck _ 0 1 p _ hp rfl rfl) rfl ?_
  rintro _ _ ⟨rfl, rfl⟩
  simp
  repeat (first
    | (refine AWP_seq (AWP_regS tOk rfl ?_); simp)
    | (refine AWP_regS tOk rfl ?_; simp)
    | (refine AWP_skip ?_; simp)
    | (refine AWP_exit ?_; simp)
    | (refine AWP_ret ?_; simp)
    | refine AWP_block ?_
    | refine AWP_seq ?_)
  refine AStep_appendStrS tOk rfl rfl T9 rfl rfl T42 rfl T5 rfl (by decide) rfl rfl rfl ?_
  simp
  refine ⟨⟨by omega, by omega⟩, ?_⟩
  repeat (first
    | (refine AWP_seq (AWP_regS tOk rfl ?_); simp)
    | (refine AWP_regS tOk rfl ?_; simp)
    | (refine AWP_skip ?_; simp)
    | (refine AWP_exit ?_; simp)
    | (refine AWP_ret ?_; simp)
    | refine AWP_block ?_
    | refine AWP_seq ?_)
theorem FC_bString (s : List UInt8) (h0 : s ≠ []) (hl : s.length ≤ 100000000) :
    FC Tryd.prog 58 [.vptr 0 0] (bld (.vptr 0 0) s) (fun r H' => r = .str s) := by
  refine FC_body tOk Tryd.func58 rfl Tryd.results58 rfl (by simp [Tryd.ntmps58]) ?_
  rw [Tryd.ntmps58]
  simp only [argSlots]
  simp only [bld]
  have hpos : 0 < s.length := List.length_pos_iff.2 h0
  repeat (first
    | (refine AWP_seq (AWP_regS tOk rfl ?_); simp)
    | (refine AWP_regS tOk rfl ?_; simp)
    | (refine AWP_skip ?_; simp)
    | (refine AWP_exit ?_; simp)
    | (refine AWP_ret ?_; simp)
    | refine AWP_block ?_
    | refine AWP_seq ?_)
  refine AWP_draw tOk mixed [10] [0, 1, 2, 3, 5, 6, 7, 8, 9, 4, 10, 11] rfl (by kernel_rfl) ?_
  simp
  refine AStep_sliceData rfl rfl rfl rfl hpos ?_
  simp
  refine AStep_unsafeString tOk rfl rfl rfl T96 rfl T5 rfl rfl rfl rfl rfl h0 ?_
  simp
  repeat (first
    | (refine AWP_seq (AWP_regS tOk rfl ?_); simp)
    | (refine AWP_regS tOk rfl ?_; simp)
    | (refine AWP_skip ?_; simp)
    | (refine AWP_exit ?_; simp)
    | (refine AWP_ret ?_; simp)
    | refine AWP_block ?_
    | refine AWP_seq ?_)
end Go.Abs
set_option maxRecDepth 100000
namespace Go.Abs
open Go Go.Proofs
set_option linter.unusedSimpArgs false
def hexs : List UInt8 := [48, 49, 50, 51, 52, 53, 54, 55, 56, 57, 97, 98, 99, 100, 101, 102]
def hexD (n : Nat) : UInt8 := hexs.getD n 0
def hexq (c : UInt8) : List UInt8 := [92, 120, hexD (c.toNat / 16), hexD (c.toNat % 16)]
def escB (c : UInt8) : List UInt8 :=
  if ((c.toNat : Int) == 34 || (c.toNat : Int) == 92) = true then [92, c] else if ((c.toNat : Int) == 10) = true then [92, 110]
  else if (decide ((c.toNat : Int) < 32) || decide ((126 : Int) < c.toNat)) = true then hexq c else [c]
def quoteTo (s : List UInt8) : List UInt8 := 34 :: s.flatMap escB
def quoteR (s : List UInt8) : List UInt8 := quoteTo s ++ [34]
theorem escB_len (c : UInt8) : (escB c).length ≤ 4 := by
  unfold escB hexq
  repeat' split
  all_goals exact Nat.le_of_ble_eq_true rfl
theorem drop_take_one (s : List UInt8) (j : Nat) (h : j < s.length) : (s.take (j + 1)).drop j = [s[j]] := by
  rw [List.take_succ_eq_append_getElem h, List.drop_append, List.drop_eq_nil_of_le (by rw [List.length_take]; omega), List.length_take, Nat.min_eq_left (Nat.le_of_lt h), Nat.sub_self]
  rfl
theorem quoteTo_len (s : List UInt8) : (quoteTo s).length ≤ 1 + 4 * s.length := by
  unfold quoteTo
  induction s with
  | nil => exact Nat.le_refl _
  | cons c s ih =>
    have := escB_len c
    rw [List.length_cons] at ih
    rw [List.flatMap_cons, List.length_cons, List.length_append, List.length_cons]
    omega
@[simp] theorem bld_len (p : AV) (s : List UInt8) : (bld p s).length = 3 := rfl
theorem quoteTo_succ (s : List UInt8) (j : Nat) (h : j < s.length) : quoteTo (s.take (j + 1)) = quoteTo (s.take j) ++ escB s[j] := by
  rw [quoteTo, quoteTo, List.take_succ_eq_append_getElem h, List.flatMap_append, List.flatMap_cons, List.flatMap_nil, List.append_nil]
  rfl
theorem and15 : (List.range 256).all (fun n => bits .and .u8 n 15 == ((n % 16 : Nat) : Int)) = true := by kernel_rfl
theorem nib_hi (n : Nat) (h : n < 256) : ∃ a : Nat, a = n / 16 ∧ a ≤ 15 ∧ (n : Int).fdiv (2 ^ min 4 IntKind.u8.bits) = a := by
  refine ⟨n / 16, rfl, by omega, ?_⟩
  rw [show min 4 IntKind.u8.bits = 4 from rfl, Int.fdiv_eq_ediv_of_nonneg _ (by decide)]
  omega
theorem nib_lo (n : Nat) (h : n < 256) : ∃ a : Nat, a = n % 16 ∧ a ≤ 15 ∧ bits .and .u8 n 15 = a := by
  refine ⟨n % 16, rfl, by omega, ?_⟩
  have := List.all_eq_true.1 and15 n (List.mem_range.2 h)
  simpa using this
theorem nib_u8 (a : Nat) (h : a ≤ 15) : IntKind.u8.wrap ((a : Int) + 1) = a + 1 ∧ (0 : Int) ≤ (a : Int) + 1 ∧ (a : Int) + 1 ≤ 16 ∧ ((a : Int) + 1).toNat = a + 1 := by
  refine ⟨?_, by omega, by omega, by omega⟩
  rw [IntKind.wrap_u8]; omega
theorem hexD_drop (a : Nat) (h : a ≤ 15) : List.drop a (48 :: List.take a [49, 50, 51, 52, 53, 54, 55, 56, 57, 97, 98, 99, 100, 101, 102]) = [hexD a] := by
  have := drop_take_one hexs a (by show a < 16; omega)
  rw [hexD, List.getD_eq_getElem?_getD, List.getElem?_eq_getElem (by show a < 16; omega)]
  exact this
set_option maxHeartbeats 1000000 in
theorem pc_quoted (s : List UInt8) (hs : s.length ≤ 1000000) : PC Tryd.prog 44 [.str s] (fun r => r = .str (quoteR s)) := by
  refine PC_body tOk Tryd.func44 rfl Tryd.results44 rfl (by simp [Tryd.ntmps44]) ?_
  rw [Tryd.ntmps44]
  simp only [argSlots]
  refine AWP_seq (AWP_regS tOk rfl ?_)
  simp
  refine AWP_seq (AWP_reg1 (AStep_allocT tOk rfl rfl T82 rfl ?_))
  simp
  refine AWP_nilOwn 0 1 5 1 rfl rfl ?_
  simp
  repeat (first
    | (refine AWP_seq (AWP_regS tOk rfl ?_); simp)
    | (refine AWP_regS tOk rfl ?_; simp)
    | (refine AWP_skip ?_; simp)
    | (refine AWP_exit ?_; simp)
    | (refine AWP_ret ?_; simp)
    | refine AWP_block ?_
    | refine AWP_seq ?_)
  refine AStep_FC rfl rfl (fc_WriteByte .nilp (.inl rfl) [] 34 (by simp)) rfl ?_
  rintro _ _ ⟨rfl, G, rfl⟩
  simp
  repeat (first
    | (refine AWP_seq (AWP_regS tOk rfl ?_); simp)
    | (refine AWP_regS tOk rfl ?_; simp)
    | (refine AWP_skip ?_; simp)
    | (refine AWP_exit ?_; simp)
    | (refine AWP_ret ?_; simp)
    | refine AWP_block ?_
    | refine AWP_seq ?_)
  refine AWP_ren [0, 1, 4] (sl' := [(0, .str s), (3, .vptr 0 0), (8, .i s.length), (9, .i 0)]) (H' := bld (.vptr 0 0) [34]) ?_ (by simp [bld]) (by decide) (by simp) rfl (by simp [bld]) (by simp [bld]) (by simp)
  refine AWP_count s.length (fun j => [(0, .str s), (3, .vptr 0 0), (8, .i s.length), (9, .i j)]) (fun j => bld (.vptr 0 0) (quoteTo (s.take j))) (G := []) (by simp [quoteTo]) (by simp) (by simp) (by simp [bld]) (by simp [bld]) ?_
  intro j hj ih
  have hq := quoteTo_len (s.take j)
  rw [List.length_take] at hq
  have hq' : (quoteTo (s.take j)).length ≤ 100000000 := by omega
  repeat (first
    | (refine AWP_seq (AWP_regS tOk rfl ?_); simp)
    | (refine AWP_regS tOk rfl ?_; simp)
    | (refine AWP_skip ?_; simp)
    | (refine AWP_exit ?_; simp)
    | (refine AWP_ret ?_; simp)
    | refine AWP_block ?_
    | refine AWP_seq ?_)
  refine AWP_cond2 rfl (fun hlt => ?_) (fun hge => ?_)
  · have hlt' : j < s.length := by simpa using hlt
    have hesc := quoteTo_succ s j hlt'
    have hw1 : IntKind.i64.wrap ((j : Int) + 1) = j + 1 := wrap_i64 _ (by omega) (by omega)
    have hw2 : (0 : Int) ≤ (j : Int) + 1 := by omega
    have hw3 : (j : Int) + 1 ≤ s.length := by omega
    have hw4 : ((j : Int) + 1).toNat = j + 1 := by omega
    repeat (first
      | (refine AWP_seq (AWP_regS tOk rfl ?_); simp [hlt'])
      | (refine AWP_regS tOk rfl ?_; simp [hlt'])
      | (refine AWP_skip ?_; simp [hlt'])
      | (refine AWP_exit ?_; simp [hlt'])
      | (refine AWP_ret ?_; simp [hlt'])
      | refine AWP_block ?_
      | refine AWP_seq ?_)
    refine AWP_cond2 rfl (fun h1 => ?_) (fun h1 => ?_)
    · repeat (first
        | (refine AWP_seq (AWP_regS tOk rfl ?_); simp [hlt', hw1, hw2, hw3, hw4, drop_take_one s j hlt'])
        | (refine AWP_regS tOk rfl ?_; simp [hlt', hw1, hw2, hw3, hw4, drop_take_one s j hlt'])
        | (refine AWP_skip ?_; simp [hlt', hw1, hw2, hw3, hw4, drop_take_one s j hlt'])
        | (refine AWP_exit ?_; simp [hlt', hw1, hw2, hw3, hw4, drop_take_one s j hlt'])
        | (refine AWP_ret ?_; simp [hlt', hw1, hw2, hw3, hw4, drop_take_one s j hlt'])
        | refine AWP_block ?_
        | refine AWP_seq ?_)
      refine AStep_FC rfl rfl (fc_WriteString (.vptr 0 0) (.inr rfl) _ [92, s[j]] hq' (by simp)) rfl ?_
      rintro _ _ ⟨rfl, rfl⟩
      simp
      repeat (first
        | (refine AWP_seq (AWP_regS tOk rfl ?_); simp [hlt', hw1])
        | (refine AWP_regS tOk rfl ?_; simp [hlt', hw1])
        | (refine AWP_skip ?_; simp [hlt', hw1])
        | (refine AWP_exit ?_; simp [hlt', hw1])
        | (refine AWP_ret ?_; simp [hlt', hw1])
        | refine AWP_block ?_
        | refine AWP_seq ?_)
      rw [escB, ite_t h1] at hesc
      refine ALoop_ren [0, 1, 3] (sl' := [(0, .str s), (3, .vptr 0 0), (8, .i s.length), (9, .i (j + 1 : Nat))]) (H' := bld (.vptr 0 0) (quoteTo (s.take (j + 1)))) (ih hlt') ?_ (by decide) (by simp) rfl (by simp [bld]) (by simp [bld]) ?_
      · rw [hesc]; simp [bld]
      · simp
    · repeat (first
        | (refine AWP_seq (AWP_regS tOk rfl ?_); simp [hlt'])
        | (refine AWP_regS tOk rfl ?_; simp [hlt'])
        | (refine AWP_skip ?_; simp [hlt'])
        | (refine AWP_exit ?_; simp [hlt'])
        | (refine AWP_ret ?_; simp [hlt'])
        | refine AWP_block ?_
        | refine AWP_seq ?_)
      refine AWP_cond2 rfl (fun h2 => ?_) (fun h2 => ?_)
      · repeat (first
          | (refine AWP_seq (AWP_regS tOk rfl ?_); simp [hlt'])
          | (refine AWP_regS tOk rfl ?_; simp [hlt'])
          | (refine AWP_skip ?_; simp [hlt'])
          | (refine AWP_exit ?_; simp [hlt'])
          | (refine AWP_ret ?_; simp [hlt'])
          | refine AWP_block ?_
          | refine AWP_seq ?_)
        refine AStep_FC rfl rfl (fc_WriteString (.vptr 0 0) (.inr rfl) _ [92, 110] hq' (by simp)) rfl ?_
        rintro _ _ ⟨rfl, rfl⟩
        simp
        repeat (first
          | (refine AWP_seq (AWP_regS tOk rfl ?_); simp [hlt', hw1])
          | (refine AWP_regS tOk rfl ?_; simp [hlt', hw1])
          | (refine AWP_skip ?_; simp [hlt', hw1])
          | (refine AWP_exit ?_; simp [hlt', hw1])
          | (refine AWP_ret ?_; simp [hlt', hw1])
          | refine AWP_block ?_
          | refine AWP_seq ?_)
        rw [escB, ite_f h1, ite_t h2] at hesc
        refine ALoop_ren [0, 1, 3] (sl' := [(0, .str s), (3, .vptr 0 0), (8, .i s.length), (9, .i (j + 1 : Nat))]) (H' := bld (.vptr 0 0) (quoteTo (s.take (j + 1)))) (ih hlt') ?_ (by decide) (by simp) rfl (by simp [bld]) (by simp [bld]) ?_
        · rw [hesc]; simp [bld]
        · simp
      · repeat (first
          | (refine AWP_seq (AWP_regS tOk rfl ?_); simp [hlt'])
          | (refine AWP_regS tOk rfl ?_; simp [hlt'])
          | (refine AWP_skip ?_; simp [hlt'])
          | (refine AWP_exit ?_; simp [hlt'])
          | (refine AWP_ret ?_; simp [hlt'])
          | refine AWP_block ?_
          | refine AWP_seq ?_)
        refine AWP_cond2 rfl (fun h3 => ?_) (fun h3 => ?_)
        · have hn := s[j].toNat_lt
          obtain ⟨x, hx, hx1, hx2⟩ := nib_hi s[j].toNat hn
          obtain ⟨y, hy, hy1, hy2⟩ := nib_lo s[j].toNat hn
          obtain ⟨x3, x4, x5, x6⟩ := nib_u8 x hx1
          obtain ⟨y3, y4, y5, y6⟩ := nib_u8 y hy1
          refine AWP_draw tOk mixed [14] [0, 1, 2, 3, 4, 5, 6, 7, 8, 9, 10, 11, 12, 13, 14] rfl (by kernel_rfl) ?_
          simp [hx2, hy2, x3, x4, x5, x6, y3, y4, y5, y6, hexD_drop x hx1, hexD_drop y hy1]
          refine AStep_FC rfl rfl (fc_WriteString (.vptr 0 0) (.inr rfl) _ [92, 120, hexD x, hexD y] hq' (by simp)) rfl ?_
          rintro _ _ ⟨rfl, rfl⟩
          simp
          repeat (first
            | (refine AWP_seq (AWP_regS tOk rfl ?_); simp [hlt', hw1])
            | (refine AWP_regS tOk rfl ?_; simp [hlt', hw1])
            | (refine AWP_skip ?_; simp [hlt', hw1])
            | (refine AWP_exit ?_; simp [hlt', hw1])
            | (refine AWP_ret ?_; simp [hlt', hw1])
            | refine AWP_block ?_
            | refine AWP_seq ?_)
          rw [escB, ite_f h1, ite_f h2, ite_t h3, hexq, ← hx, ← hy] at hesc
          refine ALoop_ren [0, 1, 3] (sl' := [(0, .str s), (3, .vptr 0 0), (8, .i s.length), (9, .i (j + 1 : Nat))]) (H' := bld (.vptr 0 0) (quoteTo (s.take (j + 1)))) (ih hlt') ?_ (by decide) (by simp) rfl (by simp [bld]) (by simp [bld]) ?_
          · rw [hesc]; simp [bld]
          · simp
        · repeat (first
            | (refine AWP_seq (AWP_regS tOk rfl ?_); simp [hlt'])
            | (refine AWP_regS tOk rfl ?_; simp [hlt'])
            | (refine AWP_skip ?_; simp [hlt'])
            | (refine AWP_exit ?_; simp [hlt'])
            | (refine AWP_ret ?_; simp [hlt'])
            | refine AWP_block ?_
            | refine AWP_seq ?_)
          refine AStep_FC rfl rfl (fc_WriteByte (.vptr 0 0) (.inr rfl) _ s[j] hq') rfl ?_
          rintro _ _ ⟨rfl, G, rfl⟩
          simp
          repeat (first
            | (refine AWP_seq (AWP_regS tOk rfl ?_); simp [hlt', hw1])
            | (refine AWP_regS tOk rfl ?_; simp [hlt', hw1])
            | (refine AWP_skip ?_; simp [hlt', hw1])
            | (refine AWP_exit ?_; simp [hlt', hw1])
            | (refine AWP_ret ?_; simp [hlt', hw1])
            | refine AWP_block ?_
            | refine AWP_seq ?_)
          rw [escB, ite_f h1, ite_f h2, ite_f h3] at hesc
          refine ALoop_ren [0, 1, 4] (sl' := [(0, .str s), (3, .vptr 0 0), (8, .i s.length), (9, .i (j + 1 : Nat))]) (H' := bld (.vptr 0 0) (quoteTo (s.take (j + 1)))) (ih hlt') ?_ (by decide) (by simp) rfl (by simp [bld]) (by simp [bld]) ?_
          · rw [hesc]; simp [bld]
          · simp
  · have hge' : j = s.length := by simp at hge; omega
    subst hge'
    rw [List.take_length] at hq' ⊢
    repeat (first
      | (refine AWP_seq (AWP_regS tOk rfl ?_); simp)
      | (refine AWP_regS tOk rfl ?_; simp)
      | (refine AWP_skip ?_; simp)
      | (refine AWP_exit ?_; simp)
      | (refine AWP_ret ?_; simp)
      | refine AWP_block ?_
      | refine AWP_seq ?_)
    refine AStep_FC rfl rfl (fc_WriteByte (.vptr 0 0) (.inr rfl) _ 34 hq') rfl ?_
    rintro _ _ ⟨rfl, G, rfl⟩
    simp
    refine AWP_ren [0, 1, 4] (sl' := [(3, .vptr 0 0)]) (H' := bld (.vptr 0 0) (quoteR s)) ?_ (by simp [bld, quoteR]) (by decide) (by simp) rfl (by simp [bld]) (by simp [bld]) (by simp)
    repeat (first
      | (refine AWP_seq (AWP_regS tOk rfl ?_); simp)
      | (refine AWP_regS tOk rfl ?_; simp)
      | (refine AWP_skip ?_; simp)
      | (refine AWP_exit ?_; simp)
      | (refine AWP_ret ?_; simp)
      | refine AWP_block ?_
      | refine AWP_seq ?_)
    refine AStep_FC rfl rfl (FC_bString (quoteR s) (by simp [quoteR]) (by have := quoteTo_len s; simp [quoteR]; omega)) rfl ?_
    rintro _ H' rfl
    simp
    repeat (first
      | (refine AWP_seq (AWP_regS tOk rfl ?_); simp)
      | (refine AWP_regS tOk rfl ?_; simp)
      | (refine AWP_skip ?_; simp)
      | (refine AWP_exit ?_; simp)
      | (refine AWP_ret ?_; simp)
      | refine AWP_block ?_
      | refine AWP_seq ?_)
end Go.Abs
set_option maxRecDepth 100000
namespace Go.Abs
open Go Go.Proofs
set_option linter.unusedSimpArgs false
def boolS (b : Bool) : List UInt8 := if b = true then [116, 114, 117, 101] else [102, 97, 108, 115, 101]
theorem pc_iFormatBool (b : Bool) : PC Tryd.prog 55 [.bool b] (fun r => r = .str (boolS b)) := by
  refine PC_body tOk Tryd.func55 rfl Tryd.results55 rfl (by simp [Tryd.ntmps55]) ?_
  rw [Tryd.ntmps55]
  simp only [argSlots]
  repeat (first
    | (refine AWP_seq (AWP_regS tOk rfl ?_); simp)
    | (refine AWP_regS tOk rfl ?_; simp)
    | (refine AWP_skip ?_; simp)
    | (refine AWP_exit ?_; simp)
    | (refine AWP_ret ?_; simp)
    | refine AWP_block ?_
    | refine AWP_seq ?_)
  refine AWP_cond2 rfl (fun h => ?_) (fun h => ?_)
  · repeat (first
      | (refine AWP_seq (AWP_regS tOk rfl ?_); simp)
      | (refine AWP_regS tOk rfl ?_; simp)
      | (refine AWP_skip ?_; simp)
      | (refine AWP_exit ?_; simp)
      | (refine AWP_ret ?_; simp)
      | refine AWP_block ?_
      | refine AWP_seq ?_)
    subst h; rfl
  · repeat (first
      | (refine AWP_seq (AWP_regS tOk rfl ?_); simp)
      | (refine AWP_regS tOk rfl ?_; simp)
      | (refine AWP_skip ?_; simp)
      | (refine AWP_exit ?_; simp)
      | (refine AWP_ret ?_; simp)
      | refine AWP_block ?_
      | refine AWP_seq ?_)
    subst h; rfl
theorem pc_FormatBool (b : Bool) : PC Tryd.prog 43 [.bool b] (fun r => r = .str (boolS b)) := by
  refine PC_body tOk Tryd.func43 rfl Tryd.results43 rfl (by simp [Tryd.ntmps43]) ?_
  rw [Tryd.ntmps43]
  simp only [argSlots]
  repeat (first
    | (refine AWP_seq (AWP_regS tOk rfl ?_); simp)
    | (refine AWP_regS tOk rfl ?_; simp)
    | (refine AWP_skip ?_; simp)
    | (refine AWP_exit ?_; simp)
    | (refine AWP_ret ?_; simp)
    | refine AWP_block ?_
    | refine AWP_seq ?_)
  refine AStep_PC rfl rfl (by simp) (pc_iFormatBool b) rfl ?_
  rintro _ rfl
  simp
  repeat (first
    | (refine AWP_seq (AWP_regS tOk rfl ?_); simp)
    | (refine AWP_regS tOk rfl ?_; simp)
    | (refine AWP_skip ?_; simp)
    | (refine AWP_exit ?_; simp)
    | (refine AWP_ret ?_; simp)
    | refine AWP_block ?_
    | refine AWP_seq ?_)
theorem checkR_zero {v : Val} (h : checkR v = 0) : (v.kind = 0 ∧ v.text = [] ∧ -1099511627776 ≤ v.num ∧ v.num ≤ 1099511627776) ∨ (v.kind = 1 ∧ v.text = [] ∧ (v.num = 0 ∨ v.num = 1)) ∨ (v.kind = 2 ∧ v.num = 0 ∧ v.text.length ≤ 64) := by
  unfold checkR sizeR at h
  by_cases h0 : v.kind = 0
  · simp [h0] at h
    by_cases ht : v.text = []
    · simp [ht] at h; left; exact ⟨h0, ht, by omega, by omega⟩
    · simp [ht] at h
  by_cases h1 : v.kind = 1
  · simp [h1] at h
    by_cases ht : v.text = []
    · simp [ht] at h; right; left; exact ⟨h1, ht, by omega⟩
    · simp [ht] at h
  by_cases h2 : v.kind = 2
  · simp [h2] at h
    by_cases ht : v.num = 0
    · simp [ht] at h; right; right; exact ⟨h2, ht, by omega⟩
    · simp [ht] at h
  · simp [h0, h1, h2] at h
def fmtText (v : Val) : List UInt8 := if (v.kind == 0) = true then Lib.itoa v.num else if (v.kind == 1) = true then boolS (v.num == 1) else quoteR v.text
def formatR (v : Val) : List UInt8 × Int := if (checkR v != 0) = true then ([], checkR v) else (fmtText v, 0)
attribute [local irreducible] quoteR Lib.itoa checkR
theorem pc_Format (v : Val) : PC Tryd.prog 26 [encV v] (fun r => r = .tup [.str (formatR v).1, .i (formatR v).2]) := by
  refine PC_body tOk Tryd.func26 rfl Tryd.results26 rfl (by simp [Tryd.ntmps26]) ?_
  rw [Tryd.ntmps26]
  simp only [argSlots]
  simp only [encV]
  repeat (first
    | (refine AWP_seq (AWP_regS tOk rfl ?_); simp)
    | (refine AWP_regS tOk rfl ?_; simp)
    | (refine AWP_skip ?_; simp)
    | (refine AWP_exit ?_; simp)
    | (refine AWP_ret ?_; simp)
    | refine AWP_block ?_
    | refine AWP_seq ?_)
  refine AStep_PC rfl rfl (by simp) (pc_Check v) rfl ?_
  rintro _ rfl
  simp
  repeat (first
    | (refine AWP_seq (AWP_regS tOk rfl ?_); simp)
    | (refine AWP_regS tOk rfl ?_; simp)
    | (refine AWP_skip ?_; simp)
    | (refine AWP_exit ?_; simp)
    | (refine AWP_ret ?_; simp)
    | refine AWP_block ?_
    | refine AWP_seq ?_)
  refine AWP_cond2 rfl (fun h => ?_) (fun h => ?_)
  · repeat (first
      | (refine AWP_seq (AWP_regS tOk rfl ?_); simp)
      | (refine AWP_regS tOk rfl ?_; simp)
      | (refine AWP_skip ?_; simp)
      | (refine AWP_exit ?_; simp)
      | (refine AWP_ret ?_; simp)
      | refine AWP_block ?_
      | refine AWP_seq ?_)
    rw [formatR, ite_t h]
    simp
  have hz := checkR_zero (v := v) (by simpa using h)
  repeat (first
    | (refine AWP_seq (AWP_regS tOk rfl ?_); simp)
    | (refine AWP_regS tOk rfl ?_; simp)
    | (refine AWP_skip ?_; simp)
    | (refine AWP_exit ?_; simp)
    | (refine AWP_ret ?_; simp)
    | refine AWP_block ?_
    | refine AWP_seq ?_)
  refine AWP_cond2 rfl (fun h0 => ?_) (fun h0 => ?_)
  · have hk : v.kind = 0 := by simpa using h0
    repeat (first
      | (refine AWP_seq (AWP_regS tOk rfl ?_); simp)
      | (refine AWP_regS tOk rfl ?_; simp)
      | (refine AWP_skip ?_; simp)
      | (refine AWP_exit ?_; simp)
      | (refine AWP_ret ?_; simp)
      | refine AWP_block ?_
      | refine AWP_seq ?_)
    refine AStep_PC rfl rfl (by simp) (pc_Itoa v.num (by omega) (by omega)) rfl ?_
    rintro _ rfl
    simp
    repeat (first
      | (refine AWP_seq (AWP_regS tOk rfl ?_); simp)
      | (refine AWP_regS tOk rfl ?_; simp)
      | (refine AWP_skip ?_; simp)
      | (refine AWP_exit ?_; simp)
      | (refine AWP_ret ?_; simp)
      | refine AWP_block ?_
      | refine AWP_seq ?_)
    rw [formatR, ite_f h, fmtText, ite_t h0]
    simp
  repeat (first
    | (refine AWP_seq (AWP_regS tOk rfl ?_); simp)
    | (refine AWP_regS tOk rfl ?_; simp)
    | (refine AWP_skip ?_; simp)
    | (refine AWP_exit ?_; simp)
    | (refine AWP_ret ?_; simp)
    | refine AWP_block ?_
    | refine AWP_seq ?_)
  refine AWP_cond2 rfl (fun h1 => ?_) (fun h1 => ?_)
  · repeat (first
      | (refine AWP_seq (AWP_regS tOk rfl ?_); simp)
      | (refine AWP_regS tOk rfl ?_; simp)
      | (refine AWP_skip ?_; simp)
      | (refine AWP_exit ?_; simp)
      | (refine AWP_ret ?_; simp)
      | refine AWP_block ?_
      | refine AWP_seq ?_)
    refine AStep_PC rfl rfl (by simp) (pc_FormatBool (v.num == 1)) rfl ?_
    rintro _ rfl
    simp
    repeat (first
      | (refine AWP_seq (AWP_regS tOk rfl ?_); simp)
      | (refine AWP_regS tOk rfl ?_; simp)
      | (refine AWP_skip ?_; simp)
      | (refine AWP_exit ?_; simp)
      | (refine AWP_ret ?_; simp)
      | refine AWP_block ?_
      | refine AWP_seq ?_)
    rw [formatR, ite_f h, fmtText, ite_f h0, ite_t h1]
    simp
  · have h0' : v.kind ≠ 0 := by simpa using h0
    have h1' : v.kind ≠ 1 := by simpa using h1
    repeat (first
      | (refine AWP_seq (AWP_regS tOk rfl ?_); simp)
      | (refine AWP_regS tOk rfl ?_; simp)
      | (refine AWP_skip ?_; simp)
      | (refine AWP_exit ?_; simp)
      | (refine AWP_ret ?_; simp)
      | refine AWP_block ?_
      | refine AWP_seq ?_)
    refine AStep_PC rfl rfl (by simp) (pc_quoted v.text (by omega)) rfl ?_
    rintro _ rfl
    simp
    repeat (first
      | (refine AWP_seq (AWP_regS tOk rfl ?_); simp)
      | (refine AWP_regS tOk rfl ?_; simp)
      | (refine AWP_skip ?_; simp)
      | (refine AWP_exit ?_; simp)
      | (refine AWP_ret ?_; simp)
      | refine AWP_block ?_
      | refine AWP_seq ?_)
    rw [formatR, ite_f h, fmtText, ite_f h0, ite_f h1]
    simp
attribute [simp] T39
def compR (a b : Val) : Int := if (cmpI a.kind b.kind != 0) = true then cmpI a.kind b.kind else if (cmpI a.num b.num != 0) = true then cmpI a.num b.num else Lib.compareBytes a.text b.text
attribute [local irreducible] cmpI
theorem pc_Compare (a b : Val) : PC Tryd.prog 19 [encV a, encV b] (fun r => r = .i (compR a b)) := by
  refine PC_body tOk Tryd.func19 rfl Tryd.results19 rfl (by simp [Tryd.ntmps19]) ?_
  rw [Tryd.ntmps19]
  simp only [argSlots]
  simp only [encV]
  repeat (first
    | (refine AWP_seq (AWP_regS tOk rfl ?_); simp)
    | (refine AWP_regS tOk rfl ?_; simp)
    | (refine AWP_skip ?_; simp)
    | (refine AWP_exit ?_; simp)
    | (refine AWP_ret ?_; simp)
    | refine AWP_block ?_
    | refine AWP_seq ?_)
  refine AWP_loop (ALoop_round ?_)
  repeat (first
    | (refine AWP_seq (AWP_regS tOk rfl ?_); simp)
    | (refine AWP_regS tOk rfl ?_; simp)
    | (refine AWP_skip ?_; simp)
    | (refine AWP_exit ?_; simp)
    | (refine AWP_ret ?_; simp)
    | refine AWP_block ?_
    | refine AWP_seq ?_)
  refine AWP_cond rfl ?_
  repeat (first
    | (refine AWP_seq (AWP_regS tOk rfl ?_); simp)
    | (refine AWP_regS tOk rfl ?_; simp)
    | (refine AWP_skip ?_; simp)
    | (refine AWP_exit ?_; simp)
    | (refine AWP_ret ?_; simp)
    | refine AWP_block ?_
    | refine AWP_seq ?_)
  refine AStep_PC rfl rfl (by simp) (pc_cmp1 a b) rfl ?_
  rintro _ rfl
  simp
  repeat (first
    | (refine AWP_seq (AWP_regS tOk rfl ?_); simp)
    | (refine AWP_regS tOk rfl ?_; simp)
    | (refine AWP_skip ?_; simp)
    | (refine AWP_exit ?_; simp)
    | (refine AWP_ret ?_; simp)
    | refine AWP_block ?_
    | refine AWP_seq ?_)
  refine AWP_cond2 rfl (fun h0 => ?_) (fun h0 => ?_)
  · repeat (first
      | (refine AWP_seq (AWP_regS tOk rfl ?_); simp)
      | (refine AWP_regS tOk rfl ?_; simp)
      | (refine AWP_skip ?_; simp)
      | (refine AWP_exit ?_; simp)
      | (refine AWP_ret ?_; simp)
      | refine AWP_block ?_
      | refine AWP_seq ?_)
    rw [compR, ite_t h0]
  have hw1 : IntKind.i64.wrap (0 + 1) = 1 := wrap_i64 _ (by omega) (by omega)
  have hw2 : IntKind.i64.wrap (1 + 1) = 2 := wrap_i64 _ (by omega) (by omega)
  have hw1' : IntKind.i64.wrap 1 = 1 := wrap_i64 _ (by omega) (by omega)
  have hw2' : IntKind.i64.wrap 2 = 2 := wrap_i64 _ (by omega) (by omega)
  repeat (first
    | (refine AWP_seq (AWP_regS tOk rfl ?_); simp [hw1, hw2, hw1', hw2'])
    | (refine AWP_regS tOk rfl ?_; simp [hw1, hw2, hw1', hw2'])
    | (refine AWP_skip ?_; simp [hw1, hw2, hw1', hw2'])
    | (refine AWP_exit ?_; simp [hw1, hw2, hw1', hw2'])
    | (refine AWP_ret ?_; simp [hw1, hw2, hw1', hw2'])
    | refine AWP_block ?_
    | refine AWP_seq ?_)
  refine ALoop_round ?_
  repeat (first
    | (refine AWP_seq (AWP_regS tOk rfl ?_); simp)
    | (refine AWP_regS tOk rfl ?_; simp)
    | (refine AWP_skip ?_; simp)
    | (refine AWP_exit ?_; simp)
    | (refine AWP_ret ?_; simp)
    | refine AWP_block ?_
    | refine AWP_seq ?_)
  refine AWP_cond rfl ?_
  repeat (first
    | (refine AWP_seq (AWP_regS tOk rfl ?_); simp)
    | (refine AWP_regS tOk rfl ?_; simp)
    | (refine AWP_skip ?_; simp)
    | (refine AWP_exit ?_; simp)
    | (refine AWP_ret ?_; simp)
    | refine AWP_block ?_
    | refine AWP_seq ?_)
  refine AStep_PC rfl rfl (by simp) (pc_cmp2 a b) rfl ?_
  rintro _ rfl
  simp
  repeat (first
    | (refine AWP_seq (AWP_regS tOk rfl ?_); simp)
    | (refine AWP_regS tOk rfl ?_; simp)
    | (refine AWP_skip ?_; simp)
    | (refine AWP_exit ?_; simp)
    | (refine AWP_ret ?_; simp)
    | refine AWP_block ?_
    | refine AWP_seq ?_)
  refine AWP_cond2 rfl (fun h1 => ?_) (fun h1 => ?_)
  · repeat (first
      | (refine AWP_seq (AWP_regS tOk rfl ?_); simp)
      | (refine AWP_regS tOk rfl ?_; simp)
      | (refine AWP_skip ?_; simp)
      | (refine AWP_exit ?_; simp)
      | (refine AWP_ret ?_; simp)
      | refine AWP_block ?_
      | refine AWP_seq ?_)
    rw [compR, ite_f h0, ite_t h1]
  repeat (first
    | (refine AWP_seq (AWP_regS tOk rfl ?_); simp [hw1, hw2, hw1', hw2'])
    | (refine AWP_regS tOk rfl ?_; simp [hw1, hw2, hw1', hw2'])
    | (refine AWP_skip ?_; simp [hw1, hw2, hw1', hw2'])
    | (refine AWP_exit ?_; simp [hw1, hw2, hw1', hw2'])
    | (refine AWP_ret ?_; simp [hw1, hw2, hw1', hw2'])
    | refine AWP_block ?_
    | refine AWP_seq ?_)
  refine ALoop_round ?_
  repeat (first
    | (refine AWP_seq (AWP_regS tOk rfl ?_); simp)
    | (refine AWP_regS tOk rfl ?_; simp)
    | (refine AWP_skip ?_; simp)
    | (refine AWP_exit ?_; simp)
    | (refine AWP_ret ?_; simp)
    | refine AWP_block ?_
    | refine AWP_seq ?_)
  refine AWP_cond rfl ?_
  repeat (first
    | (refine AWP_seq (AWP_regS tOk rfl ?_); simp)
    | (refine AWP_regS tOk rfl ?_; simp)
    | (refine AWP_skip ?_; simp)
    | (refine AWP_exit ?_; simp)
    | (refine AWP_ret ?_; simp)
    | refine AWP_block ?_
    | refine AWP_seq ?_)
  refine AStep_PC rfl rfl (by simp) (pc_Cmp a.text b.text) rfl ?_
  rintro _ rfl
  simp
  repeat (first
    | (refine AWP_seq (AWP_regS tOk rfl ?_); simp)
    | (refine AWP_regS tOk rfl ?_; simp)
    | (refine AWP_skip ?_; simp)
    | (refine AWP_exit ?_; simp)
    | (refine AWP_ret ?_; simp)
    | refine AWP_block ?_
    | refine AWP_seq ?_)
  rw [compR, ite_f h0, ite_f h1]
end Go.Abs
set_option maxRecDepth 100000
namespace Go.Abs
open Go Go.Proofs
set_option linter.unusedSimpArgs false
@[simp] def u8A (z : Int) : AV := .int .u8 z
def shB (n : Int) (j : Nat) : Int := IntKind.u8.wrap (n.fdiv (2 ^ min (56 - 8 * (j : Int)).toNat IntKind.i64.bits))
def numB (n : Int) (j : Nat) : List Int := (List.range j).map (shB n)
def hashB (v : Val) : List Int := IntKind.u8.wrap v.kind :: (if (v.kind == 2) = true then v.text.map (fun c => (c.toNat : Int)) else numB v.num 8)
def hstep (h z : Int) : Int := IntKind.u32.wrap (bits .xor .u32 h (IntKind.u32.wrap z) * 16777619)
def hashR (v : Val) : Int × Int := if (checkR v != 0) = true then (0, checkR v) else (W ((hashB v).foldl hstep 2166136261), 0)
theorem numB_succ (n : Int) (j : Nat) : numB n (j + 1) = numB n j ++ [shB n j] := by simp [numB, List.range_succ]
@[simp] theorem numB_len (n : Int) (j : Nat) : (numB n j).length = j := by simp [numB]
attribute [local irreducible] checkR
set_option maxHeartbeats 1000000 in
theorem pc_Hash (v : Val) : PC Tryd.prog 17 [encV v] (fun r => r = .tup [.i (hashR v).1, .i (hashR v).2]) := by
  refine PC_body tOk Tryd.func17 rfl Tryd.results17 rfl (by simp [Tryd.ntmps17]) ?_
  rw [Tryd.ntmps17]
  simp only [argSlots]
  simp only [encV]
  repeat (first
    | (refine AWP_seq (AWP_regS tOk rfl ?_); simp)
    | (refine AWP_regS tOk rfl ?_; simp)
    | (refine AWP_skip ?_; simp)
    | (refine AWP_exit ?_; simp)
    | (refine AWP_ret ?_; simp)
    | refine AWP_block ?_
    | refine AWP_seq ?_)
  refine AStep_PC rfl rfl (by simp) (pc_Check v) rfl ?_
  rintro _ rfl
  simp
  repeat (first
    | (refine AWP_seq (AWP_regS tOk rfl ?_); simp)
    | (refine AWP_regS tOk rfl ?_; simp)
    | (refine AWP_skip ?_; simp)
    | (refine AWP_exit ?_; simp)
    | (refine AWP_ret ?_; simp)
    | refine AWP_block ?_
    | refine AWP_seq ?_)
  refine AWP_cond2 rfl (fun h => ?_) (fun h => ?_)
  · repeat (first
      | (refine AWP_seq (AWP_regS tOk rfl ?_); simp)
      | (refine AWP_regS tOk rfl ?_; simp)
      | (refine AWP_skip ?_; simp)
      | (refine AWP_exit ?_; simp)
      | (refine AWP_ret ?_; simp)
      | refine AWP_block ?_
      | refine AWP_seq ?_)
    rw [hashR, ite_t h]
    simp
  have hc := checkR_zero (v := v) (by simpa using h)
  repeat (first
    | (refine AWP_seq (AWP_regS tOk rfl ?_); simp)
    | (refine AWP_regS tOk rfl ?_; simp)
    | (refine AWP_skip ?_; simp)
    | (refine AWP_exit ?_; simp)
    | (refine AWP_ret ?_; simp)
    | refine AWP_block ?_
    | refine AWP_seq ?_)
  refine AWP_cond2 rfl (fun h2 => ?_) (fun h2 => ?_)
  · have hk : v.kind = 2 := by simpa using h2
    have hl : v.text.length ≤ 64 := by omega
    repeat (first
      | (refine AWP_seq (AWP_regS tOk rfl ?_); simp)
      | (refine AWP_regS tOk rfl ?_; simp)
      | (refine AWP_skip ?_; simp)
      | (refine AWP_exit ?_; simp)
      | (refine AWP_ret ?_; simp)
      | refine AWP_block ?_
      | refine AWP_seq ?_)
    refine AStep_appendStrS tOk rfl rfl T9 rfl rfl T42 rfl T5 rfl (by decide) rfl rfl rfl ?_
    simp
    refine ⟨⟨by omega, by omega⟩, ?_⟩
    repeat (first
      | (refine AWP_seq (AWP_regS tOk rfl ?_); simp)
      | (refine AWP_regS tOk rfl ?_; simp)
      | (refine AWP_skip ?_; simp)
      | (refine AWP_exit ?_; simp)
      | (refine AWP_ret ?_; simp)
      | refine AWP_block ?_
      | refine AWP_seq ?_)
    obtain ⟨zs, hz⟩ : ∃ zs, hashB v = zs := ⟨_, rfl⟩
    have hzl : zs.length = v.text.length + 1 := by rw [← hz, hashB, ite_t h2]; simp
    refine AWP_ren [0, 2] (sl' := [(7, .int .u32 2166136261), (38, .sl 1 1 0 zs.length), (39, .i zs.length), (40, .i 0)]) (H' := [.vars [.i v.kind, .i v.num, .str v.text], .arr 5 1 (zs.map u8A)]) ?_ ?_ (by decide) (by simp) rfl (by simp) (by simp) ?_
    · refine AWP_count zs.length (fun j => [(7, .int .u32 ((zs.take j).foldl hstep 2166136261)), (38, .sl 1 1 0 zs.length), (39, .i zs.length), (40, .i j)]) (fun _ => [.vars [.i v.kind, .i v.num, .str v.text], .arr 5 1 (zs.map u8A)]) (G := []) (by first | rfl | simp [← hze]) (by simp) (by simp) (by simp) (by simp) ?_
      intro j hj ih
      repeat (first
        | (refine AWP_seq (AWP_regS tOk rfl ?_); simp)
        | (refine AWP_regS tOk rfl ?_; simp)
        | (refine AWP_skip ?_; simp)
        | (refine AWP_exit ?_; simp)
        | (refine AWP_ret ?_; simp)
        | refine AWP_block ?_
        | refine AWP_seq ?_)
      refine AWP_cond2 rfl (fun hlt => ?_) (fun hge => ?_)
      · have hlt' : j < zs.length := by simpa using hlt
        have hw : IntKind.i64.wrap ((j : Int) + 1) = j + 1 := wrap_i64 _ (by omega) (by omega)
        have hf : (zs.take (j + 1)).foldl hstep 2166136261 = hstep ((zs.take j).foldl hstep 2166136261) zs[j] := by rw [List.take_succ_eq_append_getElem hlt', List.foldl_append]; rfl
        repeat (first
          | (refine AWP_seq (AWP_regS tOk rfl ?_); simp [hlt', hw])
          | (refine AWP_regS tOk rfl ?_; simp [hlt', hw])
          | (refine AWP_skip ?_; simp [hlt', hw])
          | (refine AWP_exit ?_; simp [hlt', hw])
          | (refine AWP_ret ?_; simp [hlt', hw])
          | refine AWP_block ?_
          | refine AWP_seq ?_)
        refine ALoop_end [] (ih hlt') rfl (by simp) ?_ (by simp) (by simp)
        rw [hf]
        simp [hstep]
      · have hge' : j = zs.length := by simp at hge; omega
        subst hge'
        rw [List.take_length]
        repeat (first
          | (refine AWP_seq (AWP_regS tOk rfl ?_); simp)
          | (refine AWP_regS tOk rfl ?_; simp)
          | (refine AWP_skip ?_; simp)
          | (refine AWP_exit ?_; simp)
          | (refine AWP_ret ?_; simp)
          | refine AWP_block ?_
          | refine AWP_seq ?_)
        rw [hashR, ite_f h, hz]
        exact ⟨rfl, rfl⟩
    · rw [← hz, hashB, ite_t h2]; simp
    · rw [hzl]; simp; omega
  · repeat (first
      | (refine AWP_seq (AWP_regS tOk rfl ?_); simp)
      | (refine AWP_regS tOk rfl ?_; simp)
      | (refine AWP_skip ?_; simp)
      | (refine AWP_exit ?_; simp)
      | (refine AWP_ret ?_; simp)
      | refine AWP_block ?_
      | refine AWP_seq ?_)
    refine AWP_count 8 (fun j => [(1, .vptr 0 0), (5, .sl 1 1 0 (j + 1)), (6, .i (56 - 8 * (j : Int)))]) (fun j => [.vars [.i v.kind, .i v.num, .str v.text], .arr 5 1 (u8A (IntKind.u8.wrap v.kind) :: (numB v.num j).map u8A)]) (G := []) (by simp [numB]) (by simp) (by simp) (by simp) (by simp) ?_
    intro j hj ih
    repeat (first
      | (refine AWP_seq (AWP_regS tOk rfl ?_); simp)
      | (refine AWP_regS tOk rfl ?_; simp)
      | (refine AWP_skip ?_; simp)
      | (refine AWP_exit ?_; simp)
      | (refine AWP_ret ?_; simp)
      | refine AWP_block ?_
      | refine AWP_seq ?_)
    refine AWP_cond2 rfl (fun hlt => ?_) (fun hge => ?_)
    · have hlt' : j < 8 := by simp at hlt; omega
      have hp : 8 * (j : Int) ≤ 56 := by omega
      repeat (first
        | (refine AWP_seq (AWP_regS tOk rfl ?_); simp [hp])
        | (refine AWP_regS tOk rfl ?_; simp [hp])
        | (refine AWP_skip ?_; simp [hp])
        | (refine AWP_exit ?_; simp [hp])
        | (refine AWP_ret ?_; simp [hp])
        | refine AWP_block ?_
        | refine AWP_seq ?_)
      refine AStep_appendS tOk rfl rfl T42 rfl T5 rfl (by decide) (by decide) rfl rfl rfl ?_
      simp
      refine ⟨by simp [appOk]; omega, ?_⟩
      repeat (first
        | (refine AWP_seq (AWP_regS tOk rfl ?_); simp)
        | (refine AWP_regS tOk rfl ?_; simp)
        | (refine AWP_skip ?_; simp)
        | (refine AWP_exit ?_; simp)
        | (refine AWP_ret ?_; simp)
        | refine AWP_block ?_
        | refine AWP_seq ?_)
      refine ALoop_ren [0, 3] (sl' := [(1, .vptr 0 0), (5, .sl 1 1 0 (j + 1 + 1)), (6, .i (56 - 8 * ((j + 1 : Nat) : Int)))]) (H' := [.vars [.i v.kind, .i v.num, .str v.text], .arr 5 1 (u8A (IntKind.u8.wrap v.kind) :: (numB v.num (j + 1)).map u8A)]) (ih hlt') ?_ (by decide) (by simp) rfl (by simp) (by simp) ?_
      · rw [numB_succ]; simp [shB]
      · simp
        rw [wrap_i64 _ (by omega) (by omega)]
        omega
    · have hge' : j = 8 := by simp at hge; omega
      subst hge'
      repeat (first
        | (refine AWP_seq (AWP_regS tOk rfl ?_); simp)
        | (refine AWP_regS tOk rfl ?_; simp)
        | (refine AWP_skip ?_; simp)
        | (refine AWP_exit ?_; simp)
        | (refine AWP_ret ?_; simp)
        | refine AWP_block ?_
        | refine AWP_seq ?_)
      obtain ⟨zs, hz⟩ : ∃ zs, hashB v = zs := ⟨_, rfl⟩
      have hzl : zs.length = 9 := by rw [← hz, hashB, ite_f h2]; simp
      have hze : u8A (IntKind.u8.wrap v.kind) :: (numB v.num 8).map u8A = zs.map u8A := by rw [← hz, hashB, ite_f h2]; rfl
      refine AWP_keep (sl' := [(7, .int .u32 2166136261), (38, .sl 1 1 0 zs.length), (39, .i zs.length), (40, .i 0)]) ?_ (by simp [hzl])
      refine AWP_count zs.length (fun j => [(7, .int .u32 ((zs.take j).foldl hstep 2166136261)), (38, .sl 1 1 0 zs.length), (39, .i zs.length), (40, .i j)]) (fun _ => [.vars [.i v.kind, .i v.num, .str v.text], .arr 5 1 (zs.map u8A)]) (G := []) (by first | rfl | simp [← hze]) (by simp) (by simp) (by simp) (by simp) ?_
      intro j hj ih
      repeat (first
        | (refine AWP_seq (AWP_regS tOk rfl ?_); simp)
        | (refine AWP_regS tOk rfl ?_; simp)
        | (refine AWP_skip ?_; simp)
        | (refine AWP_exit ?_; simp)
        | (refine AWP_ret ?_; simp)
        | refine AWP_block ?_
        | refine AWP_seq ?_)
      refine AWP_cond2 rfl (fun hlt => ?_) (fun hge => ?_)
      · have hlt' : j < zs.length := by simpa using hlt
        have hw : IntKind.i64.wrap ((j : Int) + 1) = j + 1 := wrap_i64 _ (by omega) (by omega)
        have hf : (zs.take (j + 1)).foldl hstep 2166136261 = hstep ((zs.take j).foldl hstep 2166136261) zs[j] := by rw [List.take_succ_eq_append_getElem hlt', List.foldl_append]; rfl
        repeat (first
          | (refine AWP_seq (AWP_regS tOk rfl ?_); simp [hlt', hw])
          | (refine AWP_regS tOk rfl ?_; simp [hlt', hw])
          | (refine AWP_skip ?_; simp [hlt', hw])
          | (refine AWP_exit ?_; simp [hlt', hw])
          | (refine AWP_ret ?_; simp [hlt', hw])
          | refine AWP_block ?_
          | refine AWP_seq ?_)
        refine ALoop_end [] (ih hlt') rfl (by simp) ?_ (by simp) (by simp)
        rw [hf]
        simp [hstep]
      · have hge' : j = zs.length := by simp at hge; omega
        subst hge'
        rw [List.take_length]
        repeat (first
          | (refine AWP_seq (AWP_regS tOk rfl ?_); simp)
          | (refine AWP_regS tOk rfl ?_; simp)
          | (refine AWP_skip ?_; simp)
          | (refine AWP_exit ?_; simp)
          | (refine AWP_ret ?_; simp)
          | refine AWP_block ?_
          | refine AWP_seq ?_)
        rw [hashR, ite_f h, hz]
        exact ⟨rfl, rfl⟩
def rmix (h z : Int) : Int := Int.tmod (W (bits .xor .i64 h (W z) * 16777619)) 4294967296
theorem pc_rMixZ (n z : Int) : PC Tryd.prog 32 [.i n, .int .u8 z] (fun r => r = .i (rmix n z)) := by
  refine PC_body tOk Tryd.func32 rfl Tryd.results32 rfl (by simp [Tryd.ntmps32]) ?_
  rw [Tryd.ntmps32]
  simp only [argSlots]
  repeat (first
    | (refine AWP_seq (AWP_regS tOk rfl ?_); simp)
    | (refine AWP_regS tOk rfl ?_; simp)
    | (refine AWP_skip ?_; simp)
    | (refine AWP_exit ?_; simp)
    | (refine AWP_ret ?_; simp)
    | refine AWP_block ?_
    | refine AWP_seq ?_)
  rfl
def rsh (n : Int) (j : Nat) : Int := IntKind.u8.wrap (n.fdiv (2 ^ min (8 * (7 - (j : Int))).toNat IntKind.i64.bits))
def rnumB (n : Int) (j : Nat) : List Int := (List.range j).map (rsh n)
theorem rnumB_succ (n : Int) (j : Nat) : rnumB n (j + 1) = rnumB n j ++ [rsh n j] := by simp [rnumB, List.range_succ]
def rHashR (v : Val) : Int × Int := if (rCheckR v != 0) = true then (0, rCheckR v) else if (v.kind == 2) = true then ((v.text.map (fun c => (c.toNat : Int))).foldl rmix (rmix 2166136261 (IntKind.u8.wrap v.kind)), 0) else ((rnumB v.num 8).foldl rmix (rmix 2166136261 (IntKind.u8.wrap v.kind)), 0)
attribute [local irreducible] rmix
theorem rCheckR_len {v : Val} (h : (rCheckR v != 0) = false) (hk : v.kind = 2) : v.text.length ≤ 64 := by
  have h' : rCheckR v = 0 := by simpa using h
  unfold rCheckR at h'
  rw [if_neg (by simp [hk]), if_pos (by simp [hk])] at h'
  by_cases hn : (v.num != 0) = true
  · rw [if_pos hn] at h'; omega
  · rw [if_neg hn] at h'
    by_cases hl : (64 : Int) < v.text.length
    · rw [if_pos (by simpa using hl)] at h'; omega
    · omega
attribute [local irreducible] rCheckR
set_option maxHeartbeats 1000000 in
theorem pc_rHash (v : Val) : PC Tryd.prog 18 [encV v] (fun r => r = .tup [.i (rHashR v).1, .i (rHashR v).2]) := by
  refine PC_body tOk Tryd.func18 rfl Tryd.results18 rfl (by simp [Tryd.ntmps18]) ?_
  rw [Tryd.ntmps18]
  simp only [argSlots]
  simp only [encV]
  repeat (first
    | (refine AWP_seq (AWP_regS tOk rfl ?_); simp)
    | (refine AWP_regS tOk rfl ?_; simp)
    | (refine AWP_skip ?_; simp)
    | (refine AWP_exit ?_; simp)
    | (refine AWP_ret ?_; simp)
    | refine AWP_block ?_
    | refine AWP_seq ?_)
  refine AStep_PC rfl rfl (by simp) (pc_rCheck v) rfl ?_
  rintro _ rfl
  simp
  repeat (first
    | (refine AWP_seq (AWP_regS tOk rfl ?_); simp)
    | (refine AWP_regS tOk rfl ?_; simp)
    | (refine AWP_skip ?_; simp)
    | (refine AWP_exit ?_; simp)
    | (refine AWP_ret ?_; simp)
    | refine AWP_block ?_
    | refine AWP_seq ?_)
  refine AWP_cond2 rfl (fun h => ?_) (fun h => ?_)
  · repeat (first
      | (refine AWP_seq (AWP_regS tOk rfl ?_); simp)
      | (refine AWP_regS tOk rfl ?_; simp)
      | (refine AWP_skip ?_; simp)
      | (refine AWP_exit ?_; simp)
      | (refine AWP_ret ?_; simp)
      | refine AWP_block ?_
      | refine AWP_seq ?_)
    rw [rHashR, ite_t h]
    exact ⟨rfl, rfl⟩
  repeat (first
    | (refine AWP_seq (AWP_regS tOk rfl ?_); simp)
    | (refine AWP_regS tOk rfl ?_; simp)
    | (refine AWP_skip ?_; simp)
    | (refine AWP_exit ?_; simp)
    | (refine AWP_ret ?_; simp)
    | refine AWP_block ?_
    | refine AWP_seq ?_)
  refine AStep_PC rfl rfl (by simp) (pc_rMixZ 2166136261 (IntKind.u8.wrap v.kind)) rfl ?_
  rintro _ rfl
  simp
  repeat (first
    | (refine AWP_seq (AWP_regS tOk rfl ?_); simp)
    | (refine AWP_regS tOk rfl ?_; simp)
    | (refine AWP_skip ?_; simp)
    | (refine AWP_exit ?_; simp)
    | (refine AWP_ret ?_; simp)
    | refine AWP_block ?_
    | refine AWP_seq ?_)
  refine AWP_cond2 rfl (fun h2 => ?_) (fun h2 => ?_)
  · have hl := rCheckR_len h (by simpa using h2)
    repeat (first
      | (refine AWP_seq (AWP_regS tOk rfl ?_); simp)
      | (refine AWP_regS tOk rfl ?_; simp)
      | (refine AWP_skip ?_; simp)
      | (refine AWP_exit ?_; simp)
      | (refine AWP_ret ?_; simp)
      | refine AWP_block ?_
      | refine AWP_seq ?_)
    obtain ⟨zs, hz⟩ : ∃ zs, v.text.map (fun c => (c.toNat : Int)) = zs := ⟨_, rfl⟩
    obtain ⟨h0, hh⟩ : ∃ h0, rmix 2166136261 (IntKind.u8.wrap v.kind) = h0 := ⟨_, rfl⟩
    rw [hh]
    have hzl : v.text.length = zs.length := by rw [← hz]; simp
    refine AWP_count zs.length (fun j => [(1, .vptr 0 0), (5, .i ((zs.take j).foldl rmix h0)), (6, .i j)]) (fun _ => [.vars [.i v.kind, .i v.num, .str v.text]]) (G := []) rfl (by simp) (by simp) (by simp) (by simp) ?_
    intro j hj ih
    repeat (first
      | (refine AWP_seq (AWP_regS tOk rfl ?_); simp)
      | (refine AWP_regS tOk rfl ?_; simp)
      | (refine AWP_skip ?_; simp)
      | (refine AWP_exit ?_; simp)
      | (refine AWP_ret ?_; simp)
      | refine AWP_block ?_
      | refine AWP_seq ?_)
    refine AWP_cond2 rfl (fun hlt => ?_) (fun hge => ?_)
    · have hlt' : j < v.text.length := by simpa using hlt
      have hlt2 : j < zs.length := by omega
      have hw : IntKind.i64.wrap ((j : Int) + 1) = j + 1 := wrap_i64 _ (by omega) (by omega)
      have he : zs[j] = ((v.text[j]).toNat : Int) := by simp [← hz]
      have hf : (zs.take (j + 1)).foldl rmix h0 = rmix ((zs.take j).foldl rmix h0) (v.text[j]).toNat := by rw [List.take_succ_eq_append_getElem hlt2, List.foldl_append, ← he]; rfl
      repeat (first
        | (refine AWP_seq (AWP_regS tOk rfl ?_); simp [hlt', hw])
        | (refine AWP_regS tOk rfl ?_; simp [hlt', hw])
        | (refine AWP_skip ?_; simp [hlt', hw])
        | (refine AWP_exit ?_; simp [hlt', hw])
        | (refine AWP_ret ?_; simp [hlt', hw])
        | refine AWP_block ?_
        | refine AWP_seq ?_)
      refine AStep_PC rfl rfl (by simp) (pc_rMixZ ((zs.take j).foldl rmix h0) ((v.text[j]).toNat : Int)) rfl ?_
      rintro _ rfl
      simp
      repeat (first
        | (refine AWP_seq (AWP_regS tOk rfl ?_); simp [hlt', hw])
        | (refine AWP_regS tOk rfl ?_; simp [hlt', hw])
        | (refine AWP_skip ?_; simp [hlt', hw])
        | (refine AWP_exit ?_; simp [hlt', hw])
        | (refine AWP_ret ?_; simp [hlt', hw])
        | refine AWP_block ?_
        | refine AWP_seq ?_)
      refine ALoop_end [] (ih hlt2) rfl (by simp) ?_ (by simp) (by simp)
      rw [hf]
      simp
    · have hge' : j = zs.length := by simp at hge; omega
      subst hge'
      rw [List.take_length]
      repeat (first
        | (refine AWP_seq (AWP_regS tOk rfl ?_); simp)
        | (refine AWP_regS tOk rfl ?_; simp)
        | (refine AWP_skip ?_; simp)
        | (refine AWP_exit ?_; simp)
        | (refine AWP_ret ?_; simp)
        | refine AWP_block ?_
        | refine AWP_seq ?_)
      rw [rHashR, ite_f h, ite_t h2, hz, hh]
      exact ⟨rfl, rfl⟩
  · repeat (first
      | (refine AWP_seq (AWP_regS tOk rfl ?_); simp)
      | (refine AWP_regS tOk rfl ?_; simp)
      | (refine AWP_skip ?_; simp)
      | (refine AWP_exit ?_; simp)
      | (refine AWP_ret ?_; simp)
      | refine AWP_block ?_
      | refine AWP_seq ?_)
    obtain ⟨h0, hh⟩ : ∃ h0, rmix 2166136261 (IntKind.u8.wrap v.kind) = h0 := ⟨_, rfl⟩
    rw [hh]
    refine AWP_count 8 (fun j => [(1, .vptr 0 0), (5, .i ((rnumB v.num j).foldl rmix h0)), (7, .i (7 - (j : Int)))]) (fun _ => [.vars [.i v.kind, .i v.num, .str v.text]]) (G := []) (by simp) (by simp) (by simp [rnumB]) (by simp) (by simp) ?_
    intro j hj ih
    repeat (first
      | (refine AWP_seq (AWP_regS tOk rfl ?_); simp)
      | (refine AWP_regS tOk rfl ?_; simp)
      | (refine AWP_skip ?_; simp)
      | (refine AWP_exit ?_; simp)
      | (refine AWP_ret ?_; simp)
      | refine AWP_block ?_
      | refine AWP_seq ?_)
    refine AWP_cond2 rfl (fun hlt => ?_) (fun hge => ?_)
    · have hlt' : j < 8 := by simp at hlt; omega
      have hp : (j : Int) ≤ 7 := by omega
      have hw : IntKind.i64.wrap (8 * (7 - (j : Int))) = 8 * (7 - (j : Int)) := wrap_i64 _ (by omega) (by omega)
      have hw2 : IntKind.i64.wrap (7 - (j : Int) - 1) = 7 - (j : Int) - 1 := wrap_i64 _ (by omega) (by omega)
      have hw3 : (0 : Int) ≤ 8 * (7 - (j : Int)) := by omega
      repeat (first
        | (refine AWP_seq (AWP_regS tOk rfl ?_); simp [hp, hw, hw2, hw3])
        | (refine AWP_regS tOk rfl ?_; simp [hp, hw, hw2, hw3])
        | (refine AWP_skip ?_; simp [hp, hw, hw2, hw3])
        | (refine AWP_exit ?_; simp [hp, hw, hw2, hw3])
        | (refine AWP_ret ?_; simp [hp, hw, hw2, hw3])
        | refine AWP_block ?_
        | refine AWP_seq ?_)
      refine AStep_PC rfl rfl (by simp) (pc_rMixZ ((rnumB v.num j).foldl rmix h0) (rsh v.num j)) rfl ?_
      rintro _ rfl
      simp
      repeat (first
        | (refine AWP_seq (AWP_regS tOk rfl ?_); simp [hp, hw, hw2])
        | (refine AWP_regS tOk rfl ?_; simp [hp, hw, hw2])
        | (refine AWP_skip ?_; simp [hp, hw, hw2])
        | (refine AWP_exit ?_; simp [hp, hw, hw2])
        | (refine AWP_ret ?_; simp [hp, hw, hw2])
        | refine AWP_block ?_
        | refine AWP_seq ?_)
      refine ALoop_end [] (ih hlt') rfl (by simp) ?_ (by simp) (by simp)
      rw [rnumB_succ, List.foldl_append]
      simp
      omega
    · have hge' : j = 8 := by simp at hge; omega
      subst hge'
      repeat (first
        | (refine AWP_seq (AWP_regS tOk rfl ?_); simp)
        | (refine AWP_regS tOk rfl ?_; simp)
        | (refine AWP_skip ?_; simp)
        | (refine AWP_exit ?_; simp)
        | (refine AWP_ret ?_; simp)
        | refine AWP_block ?_
        | refine AWP_seq ?_)
      rw [rHashR, ite_f h, ite_f h2, hh]
      exact ⟨rfl, rfl⟩
end Go.Abs
set_option maxRecDepth 100000
namespace Go.Abs
open Go Go.Proofs
set_option linter.unusedSimpArgs false
attribute [simp] T74
/-- A reader: object 0 its two cells, object 1 the bytes. -/
def rdr (rest s : List UInt8) : List AObj := [.vars [.str rest, .sl 1 1 0 s.length], .arr 5 1 (s.map byteAV)]
@[simp] theorem rdr_len (r s : List UInt8) : (rdr r s).length = 2 := rfl
def rdr' (rest s : List UInt8) (H : List AObj) : Prop := ∃ G, H = [.vars [.str rest, .sl 3 1 0 s.length], .dead, G, .arr 5 1 (s.map byteAV)]
def printB (c : UInt8) : Bool := decide ((32 : Int) ≤ c.toNat) && decide ((c.toNat : Int) ≤ 126)
set_option maxHeartbeats 1000000 in
theorem fc_plain (c : UInt8) (rest s : List UInt8) (hl : s.length ≤ 100000000) :
    FC Tryd.prog 49 [.vptr 0 0] (rdr (c :: rest) s) (fun r H' => r = .bool (printB c) ∧ rdr' rest (s ++ [c]) H') := by
  refine FC_body tOk Tryd.func49 rfl Tryd.results49 rfl (by simp [Tryd.ntmps49]) ?_
  rw [Tryd.ntmps49]
  simp only [argSlots]
  simp only [rdr]
  repeat (first
    | (refine AWP_seq (AWP_regS tOk rfl ?_); simp)
    | (refine AWP_regS tOk rfl ?_; simp)
    | (refine AWP_skip ?_; simp)
    | (refine AWP_exit ?_; simp)
    | (refine AWP_ret ?_; simp)
    | refine AWP_block ?_
    | refine AWP_seq ?_)
  have hr0 : (1 : Int) ≤ (rest.length : Int) + 1 := by omega
  refine AWP_drawT tOk mixed [8, 16, 19] (.val 0 (.val 1 (.val 2 (.val 3 (.val 4 (.val 5 (.val 6 (.val 9 (.val 10 (.val 11 (.two 7 (.two 8 (.val 12 (.val 13 (.val 14 (.val 15 (.one 16 (.val 17 (.val 18 (.one 19 (.done))))))))) 12 (.val 13 (.one 8 (.val 14 (.val 15 (.one 16 (.val 17 (.val 18 (.one 19 (.done)))))))))) 12 (.val 13 (.one 7 (.one 8 (.val 14 (.val 15 (.one 16 (.val 17 (.val 18 (.one 19 (.done))))))))))))))))))))) rfl (by kernel_rfl) ?_
  simp [hr0]
  refine ⟨?_, ?_⟩
  · refine AStep_appendS tOk rfl rfl T42 rfl T5 rfl (by decide) (by decide) rfl rfl rfl ?_
    simp [hr0]
    refine ⟨by simp [appOk]; omega, ?_⟩
    repeat (first
      | (refine AWP_seq (AWP_regS tOk rfl ?_); simp)
      | (refine AWP_regS tOk rfl ?_; simp)
      | (refine AWP_skip ?_; simp)
      | (refine AWP_exit ?_; simp)
      | (refine AWP_ret ?_; simp)
      | refine AWP_block ?_
      | refine AWP_seq ?_)
    exact ⟨rfl, _, by simp; rfl⟩
  · refine AStep_appendS tOk rfl rfl T42 rfl T5 rfl (by decide) (by decide) rfl rfl rfl ?_
    simp [hr0]
    refine ⟨by simp [appOk]; omega, ?_⟩
    repeat (first
      | (refine AWP_seq (AWP_regS tOk rfl ?_); simp)
      | (refine AWP_regS tOk rfl ?_; simp)
      | (refine AWP_skip ?_; simp)
      | (refine AWP_exit ?_; simp)
      | (refine AWP_ret ?_; simp)
      | refine AWP_block ?_
      | refine AWP_seq ?_)
    exact ⟨rfl, _, by simp; rfl⟩
def hexI (c : UInt8) : Int := Lib.indexByte hexs c
theorem indexByte_bound (l : List UInt8) (c : UInt8) : -1 ≤ Lib.indexByte l c ∧ Lib.indexByte l c < l.length := by
  induction l with
  | nil => simp [Lib.indexByte]
  | cons x l ih =>
    unfold Lib.indexByte
    simp only [List.length_cons]
    split
    · omega
    · split <;> omega
theorem hexI_bound (c : UInt8) : -1 ≤ hexI c ∧ hexI c < 16 := indexByte_bound hexs c
def hexV (a b : UInt8) : UInt8 := UInt8.ofNat (16 * hexI a + hexI b).toNat
theorem hexV_int (a b : UInt8) (ha : 0 ≤ hexI a) (hb : 0 ≤ hexI b) : ((hexV a b).toNat : Int) = 16 * hexI a + hexI b := by
  have h1 := hexI_bound a
  have h2 := hexI_bound b
  have : (hexV a b).toNat = (16 * hexI a + hexI b).toNat % 256 := by simp [hexV]
  rw [this]
  omega
def escX : List UInt8 → Option (UInt8 × List UInt8)
  | a :: b :: r => if (decide (hexI a < 0) || decide (hexI b < 0)) = true then none else some (hexV a b, r)
  | _ => none
def escR : List UInt8 → Option (UInt8 × List UInt8)
  | [] => none
  | c :: r => if ((c.toNat : Int) == 34 || (c.toNat : Int) == 92) = true then some (c, r) else if ((c.toNat : Int) == 110) = true then some (10, r) else if ((c.toNat : Int) == 120) = true then escX r else none
def escQ (e : Option (UInt8 × List UInt8)) (s : List UInt8) (r : AV) (H' : List AObj) : Prop := match e with
  | none => r = .bool false
  | some (b, r') => r = .bool true ∧ rdr' r' (s ++ [b]) H'
theorem hexI_def (c : UInt8) : hexI c = Lib.indexByte hexs c := rfl
attribute [local irreducible] hexI hexV
set_option maxHeartbeats 1000000 in
theorem fc_escaped (rest s : List UInt8) (hl : s.length ≤ 100000000) :
    FC Tryd.prog 50 [.vptr 0 0] (rdr rest s) (escQ (escR rest) s) := by
  refine FC_body tOk Tryd.func50 rfl Tryd.results50 rfl (by simp [Tryd.ntmps50]) ?_
  rw [Tryd.ntmps50]
  simp only [argSlots]
  simp only [rdr]
  rcases rest with _ | ⟨c, rest⟩
  · repeat (first
      | (refine AWP_seq (AWP_regS tOk rfl ?_); simp)
      | (refine AWP_regS tOk rfl ?_; simp)
      | (refine AWP_skip ?_; simp)
      | (refine AWP_exit ?_; simp)
      | (refine AWP_ret ?_; simp)
      | refine AWP_block ?_
      | refine AWP_seq ?_)
    refine AWP_cond rfl ?_
    repeat (first
      | (refine AWP_seq (AWP_regS tOk rfl ?_); simp)
      | (refine AWP_regS tOk rfl ?_; simp)
      | (refine AWP_skip ?_; simp)
      | (refine AWP_exit ?_; simp)
      | (refine AWP_ret ?_; simp)
      | refine AWP_block ?_
      | refine AWP_seq ?_)
    rfl
  have hr0 : (1 : Int) ≤ (rest.length : Int) + 1 := by omega
  repeat (first
    | (refine AWP_seq (AWP_regS tOk rfl ?_); simp)
    | (refine AWP_regS tOk rfl ?_; simp)
    | (refine AWP_skip ?_; simp)
    | (refine AWP_exit ?_; simp)
    | (refine AWP_ret ?_; simp)
    | refine AWP_block ?_
    | refine AWP_seq ?_)
  refine AWP_cond rfl ?_
  repeat (first
    | (refine AWP_seq (AWP_regS tOk rfl ?_); simp)
    | (refine AWP_regS tOk rfl ?_; simp)
    | (refine AWP_skip ?_; simp)
    | (refine AWP_exit ?_; simp)
    | (refine AWP_ret ?_; simp)
    | refine AWP_block ?_
    | refine AWP_seq ?_)
  refine AWP_cond2 rfl (fun h1 => ?_) (fun h1 => ?_)
  · repeat (first
      | (refine AWP_seq (AWP_regS tOk rfl ?_); simp)
      | (refine AWP_regS tOk rfl ?_; simp)
      | (refine AWP_skip ?_; simp)
      | (refine AWP_exit ?_; simp)
      | (refine AWP_ret ?_; simp)
      | refine AWP_block ?_
      | refine AWP_seq ?_)
    refine AWP_cond (b := true) (by rw [← h1]; rfl) ?_
    repeat (first
      | (refine AWP_seq (AWP_regS tOk rfl ?_); simp)
      | (refine AWP_regS tOk rfl ?_; simp)
      | (refine AWP_skip ?_; simp)
      | (refine AWP_exit ?_; simp)
      | (refine AWP_ret ?_; simp)
      | refine AWP_block ?_
      | refine AWP_seq ?_)
    refine AStep_appendS tOk rfl rfl T42 rfl T5 rfl (by decide) (by decide) rfl rfl rfl ?_
    simp [hr0]
    refine ⟨by simp [appOk]; omega, ?_⟩
    repeat (first
      | (refine AWP_seq (AWP_regS tOk rfl ?_); simp [hr0])
      | (refine AWP_regS tOk rfl ?_; simp [hr0])
      | (refine AWP_skip ?_; simp [hr0])
      | (refine AWP_exit ?_; simp [hr0])
      | (refine AWP_ret ?_; simp [hr0])
      | refine AWP_block ?_
      | refine AWP_seq ?_)
    rw [escR, ite_t (by rw [h1]; rfl)]
    exact ⟨rfl, _, by simp; rfl⟩
  · repeat (first
      | (refine AWP_seq (AWP_regS tOk rfl ?_); simp)
      | (refine AWP_regS tOk rfl ?_; simp)
      | (refine AWP_skip ?_; simp)
      | (refine AWP_exit ?_; simp)
      | (refine AWP_ret ?_; simp)
      | refine AWP_block ?_
      | refine AWP_seq ?_)
    refine AWP_cond2 rfl (fun h2 => ?_) (fun h2 => ?_)
    · repeat (first
        | (refine AWP_seq (AWP_regS tOk rfl ?_); simp)
        | (refine AWP_regS tOk rfl ?_; simp)
        | (refine AWP_skip ?_; simp)
        | (refine AWP_exit ?_; simp)
        | (refine AWP_ret ?_; simp)
        | refine AWP_block ?_
        | refine AWP_seq ?_)
      refine AStep_appendS tOk rfl rfl T42 rfl T5 rfl (by decide) (by decide) rfl rfl rfl ?_
      simp [hr0]
      refine ⟨by simp [appOk]; omega, ?_⟩
      repeat (first
        | (refine AWP_seq (AWP_regS tOk rfl ?_); simp [hr0])
        | (refine AWP_regS tOk rfl ?_; simp [hr0])
        | (refine AWP_skip ?_; simp [hr0])
        | (refine AWP_exit ?_; simp [hr0])
        | (refine AWP_ret ?_; simp [hr0])
        | refine AWP_block ?_
        | refine AWP_seq ?_)
      rw [escR, ite_t (by rw [h2]; simp)]
      exact ⟨rfl, _, by simp; rfl⟩
    have h12 : ((c.toNat : Int) == 34 || (c.toNat : Int) == 92) = false := by rw [h1, h2]; rfl
    repeat (first
      | (refine AWP_seq (AWP_regS tOk rfl ?_); simp)
      | (refine AWP_regS tOk rfl ?_; simp)
      | (refine AWP_skip ?_; simp)
      | (refine AWP_exit ?_; simp)
      | (refine AWP_ret ?_; simp)
      | refine AWP_block ?_
      | refine AWP_seq ?_)
    refine AWP_cond2 rfl (fun h3 => ?_) (fun h3 => ?_)
    · repeat (first
        | (refine AWP_seq (AWP_regS tOk rfl ?_); simp)
        | (refine AWP_regS tOk rfl ?_; simp)
        | (refine AWP_skip ?_; simp)
        | (refine AWP_exit ?_; simp)
        | (refine AWP_ret ?_; simp)
        | refine AWP_block ?_
        | refine AWP_seq ?_)
      refine AStep_appendS tOk rfl rfl T42 rfl T5 rfl (by decide) (by decide) rfl rfl rfl ?_
      simp [hr0]
      refine ⟨by simp [appOk]; omega, ?_⟩
      repeat (first
        | (refine AWP_seq (AWP_regS tOk rfl ?_); simp [hr0])
        | (refine AWP_regS tOk rfl ?_; simp [hr0])
        | (refine AWP_skip ?_; simp [hr0])
        | (refine AWP_exit ?_; simp [hr0])
        | (refine AWP_ret ?_; simp [hr0])
        | refine AWP_block ?_
        | refine AWP_seq ?_)
      rw [escR, ite_f h12, ite_t h3]
      exact ⟨rfl, _, by simp; rfl⟩
    repeat (first
      | (refine AWP_seq (AWP_regS tOk rfl ?_); simp)
      | (refine AWP_regS tOk rfl ?_; simp)
      | (refine AWP_skip ?_; simp)
      | (refine AWP_exit ?_; simp)
      | (refine AWP_ret ?_; simp)
      | refine AWP_block ?_
      | refine AWP_seq ?_)
    refine AWP_cond2 rfl (fun h4 => ?_) (fun h4 => ?_)
    · repeat (first
        | (refine AWP_seq (AWP_regS tOk rfl ?_); simp)
        | (refine AWP_regS tOk rfl ?_; simp)
        | (refine AWP_skip ?_; simp)
        | (refine AWP_exit ?_; simp)
        | (refine AWP_ret ?_; simp)
        | refine AWP_block ?_
        | refine AWP_seq ?_)
      rcases rest with _ | ⟨a, _ | ⟨b, rest⟩⟩
      · refine AWP_cond rfl ?_
        repeat (first
          | (refine AWP_seq (AWP_regS tOk rfl ?_); simp)
          | (refine AWP_regS tOk rfl ?_; simp)
          | (refine AWP_skip ?_; simp)
          | (refine AWP_exit ?_; simp)
          | (refine AWP_ret ?_; simp)
          | refine AWP_block ?_
          | refine AWP_seq ?_)
        rw [escR, ite_f h12, ite_f h3, ite_t h4]
        rfl
      · refine AWP_cond rfl ?_
        repeat (first
          | (refine AWP_seq (AWP_regS tOk rfl ?_); simp)
          | (refine AWP_regS tOk rfl ?_; simp)
          | (refine AWP_skip ?_; simp)
          | (refine AWP_exit ?_; simp)
          | (refine AWP_ret ?_; simp)
          | refine AWP_block ?_
          | refine AWP_seq ?_)
        rw [escR, ite_f h12, ite_f h3, ite_t h4]
        rfl
      · refine AWP_cond (b := false) ?_ ?_
        · simp; omega
        have hr1 : (2 : Int) ≤ (rest.length : Int) + 1 + 1 + 1 := by omega
        have hr2 : (1 : Int) ≤ (rest.length : Int) + 1 := by omega
        have hr3 : (1 : Int) ≤ (rest.length : Int) + 1 + 1 + 1 := by omega
        have hr4 : (2 : Int) < (rest.length : Int) + 1 + 1 + 1 := by omega
        repeat (first
          | (refine AWP_seq (AWP_regS tOk rfl ?_); simp)
          | (refine AWP_regS tOk rfl ?_; simp)
          | (refine AWP_skip ?_; simp)
          | (refine AWP_exit ?_; simp)
          | (refine AWP_ret ?_; simp)
          | refine AWP_block ?_
          | refine AWP_seq ?_)
        refine AWP_drawT tOk mixed [] (.val 0 (.val 1 (.val 2 (.val 3 (.val 4 (.val 6 (.val 7 (.val 8 (.val 9 (.val 10 (.one 5 (.one 11 (.val 12 (.val 13 (.done))))))))))))))) rfl (by kernel_rfl) ?_
        simp [hr1, hr3, hr4]
        refine AStep_PC rfl rfl (by simp) (pc_Ixb hexs a) rfl ?_
        rintro _ rfl
        simp
        refine AStep_PC rfl rfl (by simp) (pc_Ixb hexs b) rfl ?_
        rintro _ rfl
        simp
        have bx := hexI_bound a
        have byy := hexI_bound b
        rw [← hexI_def a, ← hexI_def b]
        repeat (first
          | (refine AWP_seq (AWP_regS tOk rfl ?_); simp)
          | (refine AWP_regS tOk rfl ?_; simp)
          | (refine AWP_skip ?_; simp)
          | (refine AWP_exit ?_; simp)
          | (refine AWP_ret ?_; simp)
          | refine AWP_block ?_
          | refine AWP_seq ?_)
        refine AWP_cond2 rfl (fun h5 => ?_) (fun h5 => ?_)
        · repeat (first
            | (refine AWP_seq (AWP_regS tOk rfl ?_); simp)
            | (refine AWP_regS tOk rfl ?_; simp)
            | (refine AWP_skip ?_; simp)
            | (refine AWP_exit ?_; simp)
            | (refine AWP_ret ?_; simp)
            | refine AWP_block ?_
            | refine AWP_seq ?_)
          rw [escR, ite_f h12, ite_f h3, ite_t h4, escX, ite_t h5]
          rfl
        · have h5' : 0 ≤ hexI a ∧ 0 ≤ hexI b := by simpa using h5
          have e1 : IntKind.i64.wrap (hexI a * 2 ^ min 4 IntKind.i64.bits) = hexI a * 16 := by rw [show min 4 IntKind.i64.bits = 4 from rfl]; exact wrap_i64 _ (by omega) (by omega)
          have e2 : IntKind.i64.wrap (hexI a * 16 + hexI b) = hexI a * 16 + hexI b := wrap_i64 _ (by omega) (by omega)
          have e3 : IntKind.u8.wrap (hexI a * 16 + hexI b) = (hexV a b).toNat := by rw [hexV_int a b h5'.1 h5'.2, IntKind.wrap_u8]; omega
          repeat (first
            | (refine AWP_seq (AWP_regS tOk rfl ?_); simp [e1, e2, e3])
            | (refine AWP_regS tOk rfl ?_; simp [e1, e2, e3])
            | (refine AWP_skip ?_; simp [e1, e2, e3])
            | (refine AWP_exit ?_; simp [e1, e2, e3])
            | (refine AWP_ret ?_; simp [e1, e2, e3])
            | refine AWP_block ?_
            | refine AWP_seq ?_)
          refine AStep_appendS tOk rfl rfl T42 rfl T5 rfl (by decide) (by decide) rfl rfl rfl ?_
          simp [hr1, hr2]
          refine ⟨by simp [appOk]; omega, ?_⟩
          repeat (first
            | (refine AWP_seq (AWP_regS tOk rfl ?_); simp [hr1, hr2])
            | (refine AWP_regS tOk rfl ?_; simp [hr1, hr2])
            | (refine AWP_skip ?_; simp [hr1, hr2])
            | (refine AWP_exit ?_; simp [hr1, hr2])
            | (refine AWP_ret ?_; simp [hr1, hr2])
            | refine AWP_block ?_
            | refine AWP_seq ?_)
          rw [escR, ite_f h12, ite_f h3, ite_t h4, escX, ite_f h5]
          exact ⟨rfl, _, by simp; rfl⟩
    · repeat (first
        | (refine AWP_seq (AWP_regS tOk rfl ?_); simp)
        | (refine AWP_regS tOk rfl ?_; simp)
        | (refine AWP_skip ?_; simp)
        | (refine AWP_exit ?_; simp)
        | (refine AWP_ret ?_; simp)
        | refine AWP_block ?_
        | refine AWP_seq ?_)
      rw [escR, ite_f h12, ite_f h3, ite_f h4]
      rfl
end Go.Abs
set_option maxRecDepth 100000
namespace Go.Abs
open Go Go.Proofs
set_option linter.unusedSimpArgs false
def unqF : Nat → List UInt8 → List UInt8 → List UInt8 × Bool
  | 0, _, _ => ([], false)
  | _ + 1, [], _ => ([], false)
  | n + 1, c :: r, out => if ((c.toNat : Int) == 34) = true then (out, (c :: r) == [34]) else if ((c.toNat : Int) == 92) = true then (match escR r with
      | none => ([], false)
      | some (b, r') => unqF n r' (out ++ [b])) else if printB c = true then unqF n r (out ++ [c]) else ([], false)
theorem escR_len {r r' : List UInt8} {b : UInt8} (h : escR r = some (b, r')) : r'.length < r.length := by
  rcases r with _ | ⟨c, r⟩
  · cases h
  · rw [escR] at h
    split at h
    · cases h; simp
    · split at h
      · cases h; simp
      · split at h
        · rcases r with _ | ⟨x, _ | ⟨y, r⟩⟩
          · cases h
          · cases h
          · rw [escX] at h
            split at h
            · cases h
            · cases h; simp; omega
        · cases h
theorem unqF_nil (n : Nat) (out : List UInt8) : unqF n [] out = ([], false) := by cases n <;> rfl
attribute [local irreducible] printB escR
set_option maxHeartbeats 2000000 in
theorem pc_unquoted (c0 : UInt8) (s : List UInt8) (hs : s.length ≤ 1000000) : PC Tryd.prog 39 [.str (c0 :: s)] (fun r => r = .tup [.str (unqF s.length s []).1, .bool (unqF s.length s []).2]) := by
  refine PC_body tOk Tryd.func39 rfl Tryd.results39 rfl (by simp [Tryd.ntmps39]) ?_
  rw [Tryd.ntmps39]
  simp only [argSlots]
  have hr0 : (1 : Int) ≤ (s.length : Int) + 1 := by omega
  refine AWP_seq (AWP_regS tOk rfl ?_)
  simp [hr0]
  refine AWP_seq (AWP_regS tOk rfl ?_)
  simp [hr0]
  refine AWP_nilOwn 0 1 5 1 rfl rfl ?_
  simp
  repeat (first
    | (refine AWP_seq (AWP_regS tOk rfl ?_); simp)
    | (refine AWP_regS tOk rfl ?_; simp)
    | (refine AWP_skip ?_; simp)
    | (refine AWP_exit ?_; simp)
    | (refine AWP_ret ?_; simp)
    | refine AWP_block ?_
    | refine AWP_seq ?_)
  obtain ⟨RES, hres⟩ : ∃ RES, unqF s.length s [] = RES := ⟨_, rfl⟩
  rw [hres]
  refine AWP_loop (ALoop_keep (sl' := [(4, .vptr 0 0)]) ?_ (by simp))
  refine ALoop_wf (F := fun (u : List UInt8 × List UInt8) => ⟨[(4, .vptr 0 0)], rdr u.1 u.2⟩) (fun u => u.1.length + u.2.length ≤ s.length ∧ ∃ n, u.1.length ≤ n ∧ unqF n u.1 u.2 = RES) (fun u => u.1.length) ?_ (s, []) ⟨by simp, _, Nat.le_refl _, hres⟩
  rintro ⟨rest, out⟩ ⟨hb, n, hn, hI⟩ ih
  simp only at hb hn hI ih ⊢
  rcases rest with _ | ⟨c, rest⟩
  · rw [unqF_nil] at hI
    subst hI
    simp only [rdr]
    repeat (first
      | (refine AWP_seq (AWP_regS tOk rfl ?_); simp)
      | (refine AWP_regS tOk rfl ?_; simp)
      | (refine AWP_skip ?_; simp)
      | (refine AWP_exit ?_; simp)
      | (refine AWP_ret ?_; simp)
      | refine AWP_block ?_
      | refine AWP_seq ?_)
    refine AWP_cond rfl ?_
    repeat (first
      | (refine AWP_seq (AWP_regS tOk rfl ?_); simp)
      | (refine AWP_regS tOk rfl ?_; simp)
      | (refine AWP_skip ?_; simp)
      | (refine AWP_exit ?_; simp)
      | (refine AWP_ret ?_; simp)
      | refine AWP_block ?_
      | refine AWP_seq ?_)
  · obtain ⟨n, rfl⟩ : ∃ k, n = k + 1 := ⟨n - 1, by simp at hn; omega⟩
    simp at hn hb
    rw [unqF] at hI
    have hr1 : (1 : Int) ≤ (rest.length : Int) + 1 := by omega
    simp only [rdr]
    repeat (first
      | (refine AWP_seq (AWP_regS tOk rfl ?_); simp)
      | (refine AWP_regS tOk rfl ?_; simp)
      | (refine AWP_skip ?_; simp)
      | (refine AWP_exit ?_; simp)
      | (refine AWP_ret ?_; simp)
      | refine AWP_block ?_
      | refine AWP_seq ?_)
    refine AWP_cond rfl ?_
    repeat (first
      | (refine AWP_seq (AWP_regS tOk rfl ?_); simp)
      | (refine AWP_regS tOk rfl ?_; simp)
      | (refine AWP_skip ?_; simp)
      | (refine AWP_exit ?_; simp)
      | (refine AWP_ret ?_; simp)
      | refine AWP_block ?_
      | refine AWP_seq ?_)
    refine AWP_cond2 rfl (fun h1 => ?_) (fun h1 => ?_)
    · rw [ite_t h1] at hI
      repeat (first
        | (refine AWP_seq (AWP_regS tOk rfl ?_); simp)
        | (refine AWP_regS tOk rfl ?_; simp)
        | (refine AWP_skip ?_; simp)
        | (refine AWP_exit ?_; simp)
        | (refine AWP_ret ?_; simp)
        | refine AWP_block ?_
        | refine AWP_seq ?_)
      refine AWP_drawT tOk mixed [] (.val 0 (.val 1 (.val 2 (.val 3 (.val 5 (.val 6 (.val 7 (.val 8 (.val 9 (.one 4 (.val 10 (.val 11 (.done))))))))))))) rfl (by kernel_rfl) ?_
      simp
      refine AStep_toStr tOk rfl rfl T42 rfl T5 rfl T9 rfl rfl (s := out) (by simp [List.take_of_length_le]) rfl ?_
      simp
      repeat (first
        | (refine AWP_seq (AWP_regS tOk rfl ?_); simp)
        | (refine AWP_regS tOk rfl ?_; simp)
        | (refine AWP_skip ?_; simp)
        | (refine AWP_exit ?_; simp)
        | (refine AWP_ret ?_; simp)
        | refine AWP_block ?_
        | refine AWP_seq ?_)
      rw [← hI]
      simp
    rw [ite_f h1] at hI
    repeat (first
      | (refine AWP_seq (AWP_regS tOk rfl ?_); simp)
      | (refine AWP_regS tOk rfl ?_; simp)
      | (refine AWP_skip ?_; simp)
      | (refine AWP_exit ?_; simp)
      | (refine AWP_ret ?_; simp)
      | refine AWP_block ?_
      | refine AWP_seq ?_)
    refine AWP_cond2 rfl (fun h2 => ?_) (fun h2 => ?_)
    · rw [ite_t h2] at hI
      repeat (first
        | (refine AWP_seq (AWP_regS tOk rfl ?_); simp [hr1])
        | (refine AWP_regS tOk rfl ?_; simp [hr1])
        | (refine AWP_skip ?_; simp [hr1])
        | (refine AWP_exit ?_; simp [hr1])
        | (refine AWP_ret ?_; simp [hr1])
        | refine AWP_block ?_
        | refine AWP_seq ?_)
      refine AStep_FC rfl rfl (fc_escaped rest out (by omega)) rfl ?_
      intro r H' hq
      unfold escQ at hq
      cases he : escR rest with
      | none =>
        rw [he] at hq hI
        simp only at hq hI
        subst hq
        subst hI
        simp
        repeat (first
          | (refine AWP_seq (AWP_regS tOk rfl ?_); simp)
          | (refine AWP_regS tOk rfl ?_; simp)
          | (refine AWP_skip ?_; simp)
          | (refine AWP_exit ?_; simp)
          | (refine AWP_ret ?_; simp)
          | refine AWP_block ?_
          | refine AWP_seq ?_)
        refine AWP_cond rfl ?_
        repeat (first
          | (refine AWP_seq (AWP_regS tOk rfl ?_); simp)
          | (refine AWP_regS tOk rfl ?_; simp)
          | (refine AWP_skip ?_; simp)
          | (refine AWP_exit ?_; simp)
          | (refine AWP_ret ?_; simp)
          | refine AWP_block ?_
          | refine AWP_seq ?_)
      | some p =>
        obtain ⟨b, r'⟩ := p
        rw [he] at hq hI
        simp only at hq hI
        obtain ⟨rfl, G, rfl⟩ := hq
        have hlt := escR_len he
        simp
        repeat (first
          | (refine AWP_seq (AWP_regS tOk rfl ?_); simp)
          | (refine AWP_regS tOk rfl ?_; simp)
          | (refine AWP_skip ?_; simp)
          | (refine AWP_exit ?_; simp)
          | (refine AWP_ret ?_; simp)
          | refine AWP_block ?_
          | refine AWP_seq ?_)
        refine AWP_cond rfl ?_
        repeat (first
          | (refine AWP_seq (AWP_regS tOk rfl ?_); simp)
          | (refine AWP_regS tOk rfl ?_; simp)
          | (refine AWP_skip ?_; simp)
          | (refine AWP_exit ?_; simp)
          | (refine AWP_ret ?_; simp)
          | refine AWP_block ?_
          | refine AWP_seq ?_)
        refine ALoop_ren [0, 3] (sl' := [(4, .vptr 0 0)]) (H' := rdr r' (out ++ [b])) (ih (r', out ++ [b]) ⟨by simp; omega, n, by simp; omega, hI⟩ (by simp; omega)) (by simp [rdr]) (by decide) (by simp) rfl (by simp [rdr]) (by simp [rdr]) (by simp)
    · rw [ite_f h2] at hI
      repeat (first
        | (refine AWP_seq (AWP_regS tOk rfl ?_); simp)
        | (refine AWP_regS tOk rfl ?_; simp)
        | (refine AWP_skip ?_; simp)
        | (refine AWP_exit ?_; simp)
        | (refine AWP_ret ?_; simp)
        | refine AWP_block ?_
        | refine AWP_seq ?_)
      refine AStep_FC rfl rfl (fc_plain c rest out (by omega)) rfl ?_
      rintro r H' ⟨rfl, G, rfl⟩
      simp
      repeat (first
        | (refine AWP_seq (AWP_regS tOk rfl ?_); simp)
        | (refine AWP_regS tOk rfl ?_; simp)
        | (refine AWP_skip ?_; simp)
        | (refine AWP_exit ?_; simp)
        | (refine AWP_ret ?_; simp)
        | refine AWP_block ?_
        | refine AWP_seq ?_)
      refine AWP_cond2 rfl (fun h3 => ?_) (fun h3 => ?_)
      · rw [ite_f (by simpa using h3)] at hI
        subst hI
        repeat (first
          | (refine AWP_seq (AWP_regS tOk rfl ?_); simp)
          | (refine AWP_regS tOk rfl ?_; simp)
          | (refine AWP_skip ?_; simp)
          | (refine AWP_exit ?_; simp)
          | (refine AWP_ret ?_; simp)
          | refine AWP_block ?_
          | refine AWP_seq ?_)
      · rw [ite_t (by simpa using h3)] at hI
        repeat (first
          | (refine AWP_seq (AWP_regS tOk rfl ?_); simp)
          | (refine AWP_regS tOk rfl ?_; simp)
          | (refine AWP_skip ?_; simp)
          | (refine AWP_exit ?_; simp)
          | (refine AWP_ret ?_; simp)
          | refine AWP_block ?_
          | refine AWP_seq ?_)
        refine ALoop_ren [0, 3] (sl' := [(4, .vptr 0 0)]) (H' := rdr rest (out ++ [c])) (ih (rest, out ++ [c]) ⟨by simp; omega, n, by simp; omega, hI⟩ (by simp)) (by simp [rdr]) (by decide) (by simp) rfl (by simp [rdr]) (by simp [rdr]) (by simp)
end Go.Abs
