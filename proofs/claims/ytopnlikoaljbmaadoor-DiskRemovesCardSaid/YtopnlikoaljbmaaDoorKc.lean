/- The types of the program, as the abstract machine is told of them. -/
import Derived.Test.YtopnlikoaljbmaaDoorKb
import Derived.Test.YtopnlikoaljbmaaDoorChecked
import Derived.KernelRfl
set_option linter.all false
set_option maxRecDepth 100000
namespace Go.Abs
open Go Go.Proofs

def T : TT := [
  (3, { desc := .int .i64, zero := (.int .i64 0), size := 1, bytes := 8 }),
  (4, { desc := .bool, zero := (.bool false), size := 1, bytes := 1 }),
  (5, { desc := .int .u8, zero := (.int .u8 0), size := 1, bytes := 1 }),
  (9, { desc := .string, zero := (.string ⟨#[]⟩), size := 1, bytes := 16 }),
  (21, { desc := .int .i32, zero := (.int .i32 0), size := 1, bytes := 4 }),
  (22, { desc := .slice 52, zero := (.slice none 0 0), size := 1, bytes := 24 }),
  (24, { desc := .struct #[{ name := "Files", type := 22, offset := 0, embedded := false, tag := "", pkgPath := "", byteOffset := 0 }, { name := "Space", type := 3, offset := 1, embedded := false, tag := "", pkgPath := "", byteOffset := 24 }], zero := (.agg #[(.slice none 0 0), (.int .i64 0)]), size := 2, bytes := 32 }),
  (27, { desc := .int .i64, zero := (.int .i64 0), size := 1, bytes := 8 }),
  (34, { desc := .slice 3, zero := (.slice none 0 0), size := 1, bytes := 24 }),
  (50, { desc := .array 2 9, zero := (.agg #[(.string ⟨#[]⟩), (.string ⟨#[]⟩)]), size := 2, bytes := 32 }),
  (52, { desc := .struct #[{ name := "Name", type := 9, offset := 0, embedded := false, tag := "", pkgPath := "", byteOffset := 0 }, { name := "Durable", type := 9, offset := 1, embedded := false, tag := "", pkgPath := "", byteOffset := 16 }, { name := "Volatile", type := 9, offset := 2, embedded := false, tag := "", pkgPath := "", byteOffset := 32 }], zero := (.agg #[(.string ⟨#[]⟩), (.string ⟨#[]⟩), (.string ⟨#[]⟩)]), size := 3, bytes := 48, eqv := true }),
  (55, { desc := .struct #[{ name := "d", type := 24, offset := 0, embedded := false, tag := "", pkgPath := "tidegate/tidegatelaw44", byteOffset := 0 }, { name := "want", type := 9, offset := 2, embedded := false, tag := "", pkgPath := "tidegate/tidegatelaw44", byteOffset := 32 }], zero := (.agg #[(.slice none 0 0), (.int .i64 0), (.string ⟨#[]⟩)]), size := 3, bytes := 48 }),
  (56, { desc := .slice 55, zero := (.slice none 0 0), size := 1, bytes := 24 }),
  (65, { desc := .struct #[{ name := "choices", type := 34, offset := 0, embedded := false, tag := "", pkgPath := "tidegate/tidegatelaw44", byteOffset := 0 }, { name := "content", type := 9, offset := 1, embedded := false, tag := "", pkgPath := "tidegate/tidegatelaw44", byteOffset := 24 }], zero := (.agg #[(.slice none 0 0), (.string ⟨#[]⟩)]), size := 2, bytes := 40 }),
  (66, { desc := .slice 65, zero := (.slice none 0 0), size := 1, bytes := 24 }),
  (68, { desc := .func #[9] #[9] false, zero := .nilFunc, size := 1, bytes := 8 }),
  (75, { desc := .struct #[{ name := "left", type := 34, offset := 0, embedded := false, tag := "", pkgPath := "tidegate/disk", byteOffset := 0 }], zero := (.agg #[(.slice none 0 0)]), size := 1, bytes := 24 }),
  (77, { desc := .func #[3] #[3] false, zero := .nilFunc, size := 1, bytes := 8 }),
  (83, { desc := .func #[52] #[4] false, zero := .nilFunc, size := 1, bytes := 8 }),
  (91, { desc := .slice 9, zero := (.slice none 0 0), size := 1, bytes := 24 }),
  (94, { desc := .func #[52, 9] #[3] false, zero := .nilFunc, size := 1, bytes := 8 }),
  (99, { desc := .int .u64, zero := (.int .u64 0), size := 1, bytes := 8 }),
  (102, { desc := .array 256 4, zero := (.agg #[(.bool false), (.bool false), (.bool false), (.bool false), (.bool false), (.bool false), (.bool false), (.bool false), (.bool false), (.bool false), (.bool false), (.bool false), (.bool false), (.bool false), (.bool false), (.bool false), (.bool false), (.bool false), (.bool false), (.bool false), (.bool false), (.bool false), (.bool false), (.bool false), (.bool false), (.bool false), (.bool false), (.bool false), (.bool false), (.bool false), (.bool false), (.bool false), (.bool false), (.bool false), (.bool false), (.bool false), (.bool false), (.bool false), (.bool false), (.bool false), (.bool false), (.bool false), (.bool false), (.bool false), (.bool false), (.bool false), (.bool false), (.bool false), (.bool false), (.bool false), (.bool false), (.bool false), (.bool false), (.bool false), (.bool false), (.bool false), (.bool false), (.bool false), (.bool false), (.bool false), (.bool false), (.bool false), (.bool false), (.bool false), (.bool false), (.bool false), (.bool false), (.bool false), (.bool false), (.bool false), (.bool false), (.bool false), (.bool false), (.bool false), (.bool false), (.bool false), (.bool false), (.bool false), (.bool false), (.bool false), (.bool false), (.bool false), (.bool false), (.bool false), (.bool false), (.bool false), (.bool false), (.bool false), (.bool false), (.bool false), (.bool false), (.bool false), (.bool false), (.bool false), (.bool false), (.bool false), (.bool false), (.bool false), (.bool false), (.bool false), (.bool false), (.bool false), (.bool false), (.bool false), (.bool false), (.bool false), (.bool false), (.bool false), (.bool false), (.bool false), (.bool false), (.bool false), (.bool false), (.bool false), (.bool false), (.bool false), (.bool false), (.bool false), (.bool false), (.bool false), (.bool false), (.bool false), (.bool false), (.bool false), (.bool false), (.bool false), (.bool false), (.bool false), (.bool false), (.bool false), (.bool false), (.bool false), (.bool false), (.bool false), (.bool false), (.bool false), (.bool false), (.bool false), (.bool false), (.bool false), (.bool false), (.bool false), (.bool false), (.bool false), (.bool false), (.bool false), (.bool false), (.bool false), (.bool false), (.bool false), (.bool false), (.bool false), (.bool false), (.bool false), (.bool false), (.bool false), (.bool false), (.bool false), (.bool false), (.bool false), (.bool false), (.bool false), (.bool false), (.bool false), (.bool false), (.bool false), (.bool false), (.bool false), (.bool false), (.bool false), (.bool false), (.bool false), (.bool false), (.bool false), (.bool false), (.bool false), (.bool false), (.bool false), (.bool false), (.bool false), (.bool false), (.bool false), (.bool false), (.bool false), (.bool false), (.bool false), (.bool false), (.bool false), (.bool false), (.bool false), (.bool false), (.bool false), (.bool false), (.bool false), (.bool false), (.bool false), (.bool false), (.bool false), (.bool false), (.bool false), (.bool false), (.bool false), (.bool false), (.bool false), (.bool false), (.bool false), (.bool false), (.bool false), (.bool false), (.bool false), (.bool false), (.bool false), (.bool false), (.bool false), (.bool false), (.bool false), (.bool false), (.bool false), (.bool false), (.bool false), (.bool false), (.bool false), (.bool false), (.bool false), (.bool false), (.bool false), (.bool false), (.bool false), (.bool false), (.bool false), (.bool false), (.bool false), (.bool false), (.bool false), (.bool false), (.bool false), (.bool false), (.bool false), (.bool false), (.bool false), (.bool false), (.bool false), (.bool false), (.bool false), (.bool false), (.bool false), (.bool false), (.bool false), (.bool false), (.bool false), (.bool false), (.bool false), (.bool false), (.bool false), (.bool false), (.bool false)]), size := 256, bytes := 256 }),
  (106, { desc := .pointer 102, zero := (.pointer none), size := 1, bytes := 8 }),
  (112, { desc := .array 256 5, zero := (.agg #[(.int .u8 0), (.int .u8 0), (.int .u8 0), (.int .u8 0), (.int .u8 0), (.int .u8 0), (.int .u8 0), (.int .u8 0), (.int .u8 0), (.int .u8 0), (.int .u8 0), (.int .u8 0), (.int .u8 0), (.int .u8 0), (.int .u8 0), (.int .u8 0), (.int .u8 0), (.int .u8 0), (.int .u8 0), (.int .u8 0), (.int .u8 0), (.int .u8 0), (.int .u8 0), (.int .u8 0), (.int .u8 0), (.int .u8 0), (.int .u8 0), (.int .u8 0), (.int .u8 0), (.int .u8 0), (.int .u8 0), (.int .u8 0), (.int .u8 0), (.int .u8 0), (.int .u8 0), (.int .u8 0), (.int .u8 0), (.int .u8 0), (.int .u8 0), (.int .u8 0), (.int .u8 0), (.int .u8 0), (.int .u8 0), (.int .u8 0), (.int .u8 0), (.int .u8 0), (.int .u8 0), (.int .u8 0), (.int .u8 0), (.int .u8 0), (.int .u8 0), (.int .u8 0), (.int .u8 0), (.int .u8 0), (.int .u8 0), (.int .u8 0), (.int .u8 0), (.int .u8 0), (.int .u8 0), (.int .u8 0), (.int .u8 0), (.int .u8 0), (.int .u8 0), (.int .u8 0), (.int .u8 0), (.int .u8 0), (.int .u8 0), (.int .u8 0), (.int .u8 0), (.int .u8 0), (.int .u8 0), (.int .u8 0), (.int .u8 0), (.int .u8 0), (.int .u8 0), (.int .u8 0), (.int .u8 0), (.int .u8 0), (.int .u8 0), (.int .u8 0), (.int .u8 0), (.int .u8 0), (.int .u8 0), (.int .u8 0), (.int .u8 0), (.int .u8 0), (.int .u8 0), (.int .u8 0), (.int .u8 0), (.int .u8 0), (.int .u8 0), (.int .u8 0), (.int .u8 0), (.int .u8 0), (.int .u8 0), (.int .u8 0), (.int .u8 0), (.int .u8 0), (.int .u8 0), (.int .u8 0), (.int .u8 0), (.int .u8 0), (.int .u8 0), (.int .u8 0), (.int .u8 0), (.int .u8 0), (.int .u8 0), (.int .u8 0), (.int .u8 0), (.int .u8 0), (.int .u8 0), (.int .u8 0), (.int .u8 0), (.int .u8 0), (.int .u8 0), (.int .u8 0), (.int .u8 0), (.int .u8 0), (.int .u8 0), (.int .u8 0), (.int .u8 0), (.int .u8 0), (.int .u8 0), (.int .u8 0), (.int .u8 0), (.int .u8 0), (.int .u8 0), (.int .u8 0), (.int .u8 0), (.int .u8 0), (.int .u8 0), (.int .u8 0), (.int .u8 0), (.int .u8 0), (.int .u8 0), (.int .u8 0), (.int .u8 0), (.int .u8 0), (.int .u8 0), (.int .u8 0), (.int .u8 0), (.int .u8 0), (.int .u8 0), (.int .u8 0), (.int .u8 0), (.int .u8 0), (.int .u8 0), (.int .u8 0), (.int .u8 0), (.int .u8 0), (.int .u8 0), (.int .u8 0), (.int .u8 0), (.int .u8 0), (.int .u8 0), (.int .u8 0), (.int .u8 0), (.int .u8 0), (.int .u8 0), (.int .u8 0), (.int .u8 0), (.int .u8 0), (.int .u8 0), (.int .u8 0), (.int .u8 0), (.int .u8 0), (.int .u8 0), (.int .u8 0), (.int .u8 0), (.int .u8 0), (.int .u8 0), (.int .u8 0), (.int .u8 0), (.int .u8 0), (.int .u8 0), (.int .u8 0), (.int .u8 0), (.int .u8 0), (.int .u8 0), (.int .u8 0), (.int .u8 0), (.int .u8 0), (.int .u8 0), (.int .u8 0), (.int .u8 0), (.int .u8 0), (.int .u8 0), (.int .u8 0), (.int .u8 0), (.int .u8 0), (.int .u8 0), (.int .u8 0), (.int .u8 0), (.int .u8 0), (.int .u8 0), (.int .u8 0), (.int .u8 0), (.int .u8 0), (.int .u8 0), (.int .u8 0), (.int .u8 0), (.int .u8 0), (.int .u8 0), (.int .u8 0), (.int .u8 0), (.int .u8 0), (.int .u8 0), (.int .u8 0), (.int .u8 0), (.int .u8 0), (.int .u8 0), (.int .u8 0), (.int .u8 0), (.int .u8 0), (.int .u8 0), (.int .u8 0), (.int .u8 0), (.int .u8 0), (.int .u8 0), (.int .u8 0), (.int .u8 0), (.int .u8 0), (.int .u8 0), (.int .u8 0), (.int .u8 0), (.int .u8 0), (.int .u8 0), (.int .u8 0), (.int .u8 0), (.int .u8 0), (.int .u8 0), (.int .u8 0), (.int .u8 0), (.int .u8 0), (.int .u8 0), (.int .u8 0), (.int .u8 0), (.int .u8 0), (.int .u8 0), (.int .u8 0), (.int .u8 0), (.int .u8 0), (.int .u8 0), (.int .u8 0), (.int .u8 0), (.int .u8 0), (.int .u8 0), (.int .u8 0), (.int .u8 0), (.int .u8 0), (.int .u8 0), (.int .u8 0), (.int .u8 0), (.int .u8 0), (.int .u8 0), (.int .u8 0)]), size := 256, bytes := 256 }),
  (114, { desc := .struct #[{ name := "lo", type := 5, offset := 0, embedded := false, tag := "", pkgPath := "unicode/utf8", byteOffset := 0 }, { name := "hi", type := 5, offset := 1, embedded := false, tag := "", pkgPath := "unicode/utf8", byteOffset := 1 }], zero := (.agg #[(.int .u8 0), (.int .u8 0)]), size := 2, bytes := 2, eqv := true }),
  (115, { desc := .array 16 114, zero := (.agg #[(.int .u8 0), (.int .u8 0), (.int .u8 0), (.int .u8 0), (.int .u8 0), (.int .u8 0), (.int .u8 0), (.int .u8 0), (.int .u8 0), (.int .u8 0), (.int .u8 0), (.int .u8 0), (.int .u8 0), (.int .u8 0), (.int .u8 0), (.int .u8 0), (.int .u8 0), (.int .u8 0), (.int .u8 0), (.int .u8 0), (.int .u8 0), (.int .u8 0), (.int .u8 0), (.int .u8 0), (.int .u8 0), (.int .u8 0), (.int .u8 0), (.int .u8 0), (.int .u8 0), (.int .u8 0), (.int .u8 0), (.int .u8 0)]), size := 32, bytes := 32 })]

def OkRow (P : Program) (T : TT) (t : Nat) (i : TI) : Prop := P.underlying t = some i.desc ∧ (P.info? t).map (fun j => (j.zero, j.size, j.bytes)) = some (some i.zero, i.size, i.bytes) ∧
  (i.eqv = true → P.stoodInHeld t = false ∧ P.eqGuardType P.depth t = false) ∧ (∀ fs, i.desc = .struct fs → fieldsKnown T fs = true)

theorem row3 : OkRow Tryd.prog T 3 { desc := .int .i64, zero := (.int .i64 0), size := 1, bytes := 8 } :=
  ⟨by kernel_rfl, by kernel_rfl, fun h => (by cases h), fun fs h => (by cases h)⟩
theorem row4 : OkRow Tryd.prog T 4 { desc := .bool, zero := (.bool false), size := 1, bytes := 1 } :=
  ⟨by kernel_rfl, by kernel_rfl, fun h => (by cases h), fun fs h => (by cases h)⟩
theorem row5 : OkRow Tryd.prog T 5 { desc := .int .u8, zero := (.int .u8 0), size := 1, bytes := 1 } :=
  ⟨by kernel_rfl, by kernel_rfl, fun h => (by cases h), fun fs h => (by cases h)⟩
theorem row9 : OkRow Tryd.prog T 9 { desc := .string, zero := (.string ⟨#[]⟩), size := 1, bytes := 16 } :=
  ⟨by kernel_rfl, by kernel_rfl, fun h => (by cases h), fun fs h => (by cases h)⟩
theorem row21 : OkRow Tryd.prog T 21 { desc := .int .i32, zero := (.int .i32 0), size := 1, bytes := 4 } :=
  ⟨by kernel_rfl, by kernel_rfl, fun h => (by cases h), fun fs h => (by cases h)⟩
theorem row22 : OkRow Tryd.prog T 22 { desc := .slice 52, zero := (.slice none 0 0), size := 1, bytes := 24 } :=
  ⟨by kernel_rfl, by kernel_rfl, fun h => (by cases h), fun fs h => (by cases h)⟩
theorem row24 : OkRow Tryd.prog T 24 { desc := .struct #[{ name := "Files", type := 22, offset := 0, embedded := false, tag := "", pkgPath := "", byteOffset := 0 }, { name := "Space", type := 3, offset := 1, embedded := false, tag := "", pkgPath := "", byteOffset := 24 }], zero := (.agg #[(.slice none 0 0), (.int .i64 0)]), size := 2, bytes := 32 } :=
  ⟨by kernel_rfl, by kernel_rfl, fun h => (by cases h), fun fs h => (by cases h; kernel_rfl)⟩
theorem row27 : OkRow Tryd.prog T 27 { desc := .int .i64, zero := (.int .i64 0), size := 1, bytes := 8 } :=
  ⟨by kernel_rfl, by kernel_rfl, fun h => (by cases h), fun fs h => (by cases h)⟩
theorem row34 : OkRow Tryd.prog T 34 { desc := .slice 3, zero := (.slice none 0 0), size := 1, bytes := 24 } :=
  ⟨by kernel_rfl, by kernel_rfl, fun h => (by cases h), fun fs h => (by cases h)⟩
theorem row50 : OkRow Tryd.prog T 50 { desc := .array 2 9, zero := (.agg #[(.string ⟨#[]⟩), (.string ⟨#[]⟩)]), size := 2, bytes := 32 } :=
  ⟨by kernel_rfl, by kernel_rfl, fun h => (by cases h), fun fs h => (by cases h)⟩
theorem row52 : OkRow Tryd.prog T 52 { desc := .struct #[{ name := "Name", type := 9, offset := 0, embedded := false, tag := "", pkgPath := "", byteOffset := 0 }, { name := "Durable", type := 9, offset := 1, embedded := false, tag := "", pkgPath := "", byteOffset := 16 }, { name := "Volatile", type := 9, offset := 2, embedded := false, tag := "", pkgPath := "", byteOffset := 32 }], zero := (.agg #[(.string ⟨#[]⟩), (.string ⟨#[]⟩), (.string ⟨#[]⟩)]), size := 3, bytes := 48, eqv := true } :=
  ⟨by kernel_rfl, by kernel_rfl, fun _ => ⟨by kernel_rfl, by kernel_rfl⟩, fun fs h => (by cases h; kernel_rfl)⟩
theorem row55 : OkRow Tryd.prog T 55 { desc := .struct #[{ name := "d", type := 24, offset := 0, embedded := false, tag := "", pkgPath := "tidegate/tidegatelaw44", byteOffset := 0 }, { name := "want", type := 9, offset := 2, embedded := false, tag := "", pkgPath := "tidegate/tidegatelaw44", byteOffset := 32 }], zero := (.agg #[(.slice none 0 0), (.int .i64 0), (.string ⟨#[]⟩)]), size := 3, bytes := 48 } :=
  ⟨by kernel_rfl, by kernel_rfl, fun h => (by cases h), fun fs h => (by cases h; kernel_rfl)⟩
theorem row56 : OkRow Tryd.prog T 56 { desc := .slice 55, zero := (.slice none 0 0), size := 1, bytes := 24 } :=
  ⟨by kernel_rfl, by kernel_rfl, fun h => (by cases h), fun fs h => (by cases h)⟩
theorem row65 : OkRow Tryd.prog T 65 { desc := .struct #[{ name := "choices", type := 34, offset := 0, embedded := false, tag := "", pkgPath := "tidegate/tidegatelaw44", byteOffset := 0 }, { name := "content", type := 9, offset := 1, embedded := false, tag := "", pkgPath := "tidegate/tidegatelaw44", byteOffset := 24 }], zero := (.agg #[(.slice none 0 0), (.string ⟨#[]⟩)]), size := 2, bytes := 40 } :=
  ⟨by kernel_rfl, by kernel_rfl, fun h => (by cases h), fun fs h => (by cases h; kernel_rfl)⟩
theorem row66 : OkRow Tryd.prog T 66 { desc := .slice 65, zero := (.slice none 0 0), size := 1, bytes := 24 } :=
  ⟨by kernel_rfl, by kernel_rfl, fun h => (by cases h), fun fs h => (by cases h)⟩
theorem row68 : OkRow Tryd.prog T 68 { desc := .func #[9] #[9] false, zero := .nilFunc, size := 1, bytes := 8 } :=
  ⟨by kernel_rfl, by kernel_rfl, fun h => (by cases h), fun fs h => (by cases h)⟩
theorem row75 : OkRow Tryd.prog T 75 { desc := .struct #[{ name := "left", type := 34, offset := 0, embedded := false, tag := "", pkgPath := "tidegate/disk", byteOffset := 0 }], zero := (.agg #[(.slice none 0 0)]), size := 1, bytes := 24 } :=
  ⟨by kernel_rfl, by kernel_rfl, fun h => (by cases h), fun fs h => (by cases h; kernel_rfl)⟩
theorem row77 : OkRow Tryd.prog T 77 { desc := .func #[3] #[3] false, zero := .nilFunc, size := 1, bytes := 8 } :=
  ⟨by kernel_rfl, by kernel_rfl, fun h => (by cases h), fun fs h => (by cases h)⟩
theorem row83 : OkRow Tryd.prog T 83 { desc := .func #[52] #[4] false, zero := .nilFunc, size := 1, bytes := 8 } :=
  ⟨by kernel_rfl, by kernel_rfl, fun h => (by cases h), fun fs h => (by cases h)⟩
theorem row91 : OkRow Tryd.prog T 91 { desc := .slice 9, zero := (.slice none 0 0), size := 1, bytes := 24 } :=
  ⟨by kernel_rfl, by kernel_rfl, fun h => (by cases h), fun fs h => (by cases h)⟩
theorem row94 : OkRow Tryd.prog T 94 { desc := .func #[52, 9] #[3] false, zero := .nilFunc, size := 1, bytes := 8 } :=
  ⟨by kernel_rfl, by kernel_rfl, fun h => (by cases h), fun fs h => (by cases h)⟩
theorem row99 : OkRow Tryd.prog T 99 { desc := .int .u64, zero := (.int .u64 0), size := 1, bytes := 8 } :=
  ⟨by kernel_rfl, by kernel_rfl, fun h => (by cases h), fun fs h => (by cases h)⟩
theorem row102 : OkRow Tryd.prog T 102 { desc := .array 256 4, zero := (.agg #[(.bool false), (.bool false), (.bool false), (.bool false), (.bool false), (.bool false), (.bool false), (.bool false), (.bool false), (.bool false), (.bool false), (.bool false), (.bool false), (.bool false), (.bool false), (.bool false), (.bool false), (.bool false), (.bool false), (.bool false), (.bool false), (.bool false), (.bool false), (.bool false), (.bool false), (.bool false), (.bool false), (.bool false), (.bool false), (.bool false), (.bool false), (.bool false), (.bool false), (.bool false), (.bool false), (.bool false), (.bool false), (.bool false), (.bool false), (.bool false), (.bool false), (.bool false), (.bool false), (.bool false), (.bool false), (.bool false), (.bool false), (.bool false), (.bool false), (.bool false), (.bool false), (.bool false), (.bool false), (.bool false), (.bool false), (.bool false), (.bool false), (.bool false), (.bool false), (.bool false), (.bool false), (.bool false), (.bool false), (.bool false), (.bool false), (.bool false), (.bool false), (.bool false), (.bool false), (.bool false), (.bool false), (.bool false), (.bool false), (.bool false), (.bool false), (.bool false), (.bool false), (.bool false), (.bool false), (.bool false), (.bool false), (.bool false), (.bool false), (.bool false), (.bool false), (.bool false), (.bool false), (.bool false), (.bool false), (.bool false), (.bool false), (.bool false), (.bool false), (.bool false), (.bool false), (.bool false), (.bool false), (.bool false), (.bool false), (.bool false), (.bool false), (.bool false), (.bool false), (.bool false), (.bool false), (.bool false), (.bool false), (.bool false), (.bool false), (.bool false), (.bool false), (.bool false), (.bool false), (.bool false), (.bool false), (.bool false), (.bool false), (.bool false), (.bool false), (.bool false), (.bool false), (.bool false), (.bool false), (.bool false), (.bool false), (.bool false), (.bool false), (.bool false), (.bool false), (.bool false), (.bool false), (.bool false), (.bool false), (.bool false), (.bool false), (.bool false), (.bool false), (.bool false), (.bool false), (.bool false), (.bool false), (.bool false), (.bool false), (.bool false), (.bool false), (.bool false), (.bool false), (.bool false), (.bool false), (.bool false), (.bool false), (.bool false), (.bool false), (.bool false), (.bool false), (.bool false), (.bool false), (.bool false), (.bool false), (.bool false), (.bool false), (.bool false), (.bool false), (.bool false), (.bool false), (.bool false), (.bool false), (.bool false), (.bool false), (.bool false), (.bool false), (.bool false), (.bool false), (.bool false), (.bool false), (.bool false), (.bool false), (.bool false), (.bool false), (.bool false), (.bool false), (.bool false), (.bool false), (.bool false), (.bool false), (.bool false), (.bool false), (.bool false), (.bool false), (.bool false), (.bool false), (.bool false), (.bool false), (.bool false), (.bool false), (.bool false), (.bool false), (.bool false), (.bool false), (.bool false), (.bool false), (.bool false), (.bool false), (.bool false), (.bool false), (.bool false), (.bool false), (.bool false), (.bool false), (.bool false), (.bool false), (.bool false), (.bool false), (.bool false), (.bool false), (.bool false), (.bool false), (.bool false), (.bool false), (.bool false), (.bool false), (.bool false), (.bool false), (.bool false), (.bool false), (.bool false), (.bool false), (.bool false), (.bool false), (.bool false), (.bool false), (.bool false), (.bool false), (.bool false), (.bool false), (.bool false), (.bool false), (.bool false), (.bool false), (.bool false), (.bool false), (.bool false), (.bool false), (.bool false), (.bool false), (.bool false), (.bool false), (.bool false), (.bool false), (.bool false), (.bool false), (.bool false), (.bool false), (.bool false), (.bool false), (.bool false)]), size := 256, bytes := 256 } :=
  ⟨by kernel_rfl, by kernel_rfl, fun h => (by cases h), fun fs h => (by cases h)⟩
theorem row106 : OkRow Tryd.prog T 106 { desc := .pointer 102, zero := (.pointer none), size := 1, bytes := 8 } :=
  ⟨by kernel_rfl, by kernel_rfl, fun h => (by cases h), fun fs h => (by cases h)⟩
theorem row112 : OkRow Tryd.prog T 112 { desc := .array 256 5, zero := (.agg #[(.int .u8 0), (.int .u8 0), (.int .u8 0), (.int .u8 0), (.int .u8 0), (.int .u8 0), (.int .u8 0), (.int .u8 0), (.int .u8 0), (.int .u8 0), (.int .u8 0), (.int .u8 0), (.int .u8 0), (.int .u8 0), (.int .u8 0), (.int .u8 0), (.int .u8 0), (.int .u8 0), (.int .u8 0), (.int .u8 0), (.int .u8 0), (.int .u8 0), (.int .u8 0), (.int .u8 0), (.int .u8 0), (.int .u8 0), (.int .u8 0), (.int .u8 0), (.int .u8 0), (.int .u8 0), (.int .u8 0), (.int .u8 0), (.int .u8 0), (.int .u8 0), (.int .u8 0), (.int .u8 0), (.int .u8 0), (.int .u8 0), (.int .u8 0), (.int .u8 0), (.int .u8 0), (.int .u8 0), (.int .u8 0), (.int .u8 0), (.int .u8 0), (.int .u8 0), (.int .u8 0), (.int .u8 0), (.int .u8 0), (.int .u8 0), (.int .u8 0), (.int .u8 0), (.int .u8 0), (.int .u8 0), (.int .u8 0), (.int .u8 0), (.int .u8 0), (.int .u8 0), (.int .u8 0), (.int .u8 0), (.int .u8 0), (.int .u8 0), (.int .u8 0), (.int .u8 0), (.int .u8 0), (.int .u8 0), (.int .u8 0), (.int .u8 0), (.int .u8 0), (.int .u8 0), (.int .u8 0), (.int .u8 0), (.int .u8 0), (.int .u8 0), (.int .u8 0), (.int .u8 0), (.int .u8 0), (.int .u8 0), (.int .u8 0), (.int .u8 0), (.int .u8 0), (.int .u8 0), (.int .u8 0), (.int .u8 0), (.int .u8 0), (.int .u8 0), (.int .u8 0), (.int .u8 0), (.int .u8 0), (.int .u8 0), (.int .u8 0), (.int .u8 0), (.int .u8 0), (.int .u8 0), (.int .u8 0), (.int .u8 0), (.int .u8 0), (.int .u8 0), (.int .u8 0), (.int .u8 0), (.int .u8 0), (.int .u8 0), (.int .u8 0), (.int .u8 0), (.int .u8 0), (.int .u8 0), (.int .u8 0), (.int .u8 0), (.int .u8 0), (.int .u8 0), (.int .u8 0), (.int .u8 0), (.int .u8 0), (.int .u8 0), (.int .u8 0), (.int .u8 0), (.int .u8 0), (.int .u8 0), (.int .u8 0), (.int .u8 0), (.int .u8 0), (.int .u8 0), (.int .u8 0), (.int .u8 0), (.int .u8 0), (.int .u8 0), (.int .u8 0), (.int .u8 0), (.int .u8 0), (.int .u8 0), (.int .u8 0), (.int .u8 0), (.int .u8 0), (.int .u8 0), (.int .u8 0), (.int .u8 0), (.int .u8 0), (.int .u8 0), (.int .u8 0), (.int .u8 0), (.int .u8 0), (.int .u8 0), (.int .u8 0), (.int .u8 0), (.int .u8 0), (.int .u8 0), (.int .u8 0), (.int .u8 0), (.int .u8 0), (.int .u8 0), (.int .u8 0), (.int .u8 0), (.int .u8 0), (.int .u8 0), (.int .u8 0), (.int .u8 0), (.int .u8 0), (.int .u8 0), (.int .u8 0), (.int .u8 0), (.int .u8 0), (.int .u8 0), (.int .u8 0), (.int .u8 0), (.int .u8 0), (.int .u8 0), (.int .u8 0), (.int .u8 0), (.int .u8 0), (.int .u8 0), (.int .u8 0), (.int .u8 0), (.int .u8 0), (.int .u8 0), (.int .u8 0), (.int .u8 0), (.int .u8 0), (.int .u8 0), (.int .u8 0), (.int .u8 0), (.int .u8 0), (.int .u8 0), (.int .u8 0), (.int .u8 0), (.int .u8 0), (.int .u8 0), (.int .u8 0), (.int .u8 0), (.int .u8 0), (.int .u8 0), (.int .u8 0), (.int .u8 0), (.int .u8 0), (.int .u8 0), (.int .u8 0), (.int .u8 0), (.int .u8 0), (.int .u8 0), (.int .u8 0), (.int .u8 0), (.int .u8 0), (.int .u8 0), (.int .u8 0), (.int .u8 0), (.int .u8 0), (.int .u8 0), (.int .u8 0), (.int .u8 0), (.int .u8 0), (.int .u8 0), (.int .u8 0), (.int .u8 0), (.int .u8 0), (.int .u8 0), (.int .u8 0), (.int .u8 0), (.int .u8 0), (.int .u8 0), (.int .u8 0), (.int .u8 0), (.int .u8 0), (.int .u8 0), (.int .u8 0), (.int .u8 0), (.int .u8 0), (.int .u8 0), (.int .u8 0), (.int .u8 0), (.int .u8 0), (.int .u8 0), (.int .u8 0), (.int .u8 0), (.int .u8 0), (.int .u8 0), (.int .u8 0), (.int .u8 0), (.int .u8 0), (.int .u8 0), (.int .u8 0), (.int .u8 0), (.int .u8 0), (.int .u8 0), (.int .u8 0), (.int .u8 0), (.int .u8 0), (.int .u8 0), (.int .u8 0), (.int .u8 0), (.int .u8 0), (.int .u8 0), (.int .u8 0), (.int .u8 0), (.int .u8 0), (.int .u8 0), (.int .u8 0), (.int .u8 0)]), size := 256, bytes := 256 } :=
  ⟨by kernel_rfl, by kernel_rfl, fun h => (by cases h), fun fs h => (by cases h)⟩
theorem row114 : OkRow Tryd.prog T 114 { desc := .struct #[{ name := "lo", type := 5, offset := 0, embedded := false, tag := "", pkgPath := "unicode/utf8", byteOffset := 0 }, { name := "hi", type := 5, offset := 1, embedded := false, tag := "", pkgPath := "unicode/utf8", byteOffset := 1 }], zero := (.agg #[(.int .u8 0), (.int .u8 0)]), size := 2, bytes := 2, eqv := true } :=
  ⟨by kernel_rfl, by kernel_rfl, fun _ => ⟨by kernel_rfl, by kernel_rfl⟩, fun fs h => (by cases h; kernel_rfl)⟩
theorem row115 : OkRow Tryd.prog T 115 { desc := .array 16 114, zero := (.agg #[(.int .u8 0), (.int .u8 0), (.int .u8 0), (.int .u8 0), (.int .u8 0), (.int .u8 0), (.int .u8 0), (.int .u8 0), (.int .u8 0), (.int .u8 0), (.int .u8 0), (.int .u8 0), (.int .u8 0), (.int .u8 0), (.int .u8 0), (.int .u8 0), (.int .u8 0), (.int .u8 0), (.int .u8 0), (.int .u8 0), (.int .u8 0), (.int .u8 0), (.int .u8 0), (.int .u8 0), (.int .u8 0), (.int .u8 0), (.int .u8 0), (.int .u8 0), (.int .u8 0), (.int .u8 0), (.int .u8 0), (.int .u8 0)]), size := 32, bytes := 32 } :=
  ⟨by kernel_rfl, by kernel_rfl, fun h => (by cases h), fun fs h => (by cases h)⟩
theorem tOk : TOk Tryd.prog T := fun t i h => by
  have hm := look_mem h
  simp only [T, List.mem_cons, List.not_mem_nil, or_false, Prod.mk.injEq] at hm
  rcases hm with ⟨rfl, rfl⟩ | ⟨rfl, rfl⟩ | ⟨rfl, rfl⟩ | ⟨rfl, rfl⟩ | ⟨rfl, rfl⟩ | ⟨rfl, rfl⟩ | ⟨rfl, rfl⟩ | ⟨rfl, rfl⟩ | ⟨rfl, rfl⟩ | ⟨rfl, rfl⟩ | ⟨rfl, rfl⟩ | ⟨rfl, rfl⟩ | ⟨rfl, rfl⟩ | ⟨rfl, rfl⟩ | ⟨rfl, rfl⟩ | ⟨rfl, rfl⟩ | ⟨rfl, rfl⟩ | ⟨rfl, rfl⟩ | ⟨rfl, rfl⟩ | ⟨rfl, rfl⟩ | ⟨rfl, rfl⟩ | ⟨rfl, rfl⟩ | ⟨rfl, rfl⟩ | ⟨rfl, rfl⟩ | ⟨rfl, rfl⟩ | ⟨rfl, rfl⟩ | ⟨rfl, rfl⟩
  · exact row3
  · exact row4
  · exact row5
  · exact row9
  · exact row21
  · exact row22
  · exact row24
  · exact row27
  · exact row34
  · exact row50
  · exact row52
  · exact row55
  · exact row56
  · exact row65
  · exact row66
  · exact row68
  · exact row75
  · exact row77
  · exact row83
  · exact row91
  · exact row94
  · exact row99
  · exact row102
  · exact row106
  · exact row112
  · exact row114
  · exact row115
theorem T3 : look T 3 = some { desc := .int .i64, zero := (.int .i64 0), size := 1, bytes := 8 } := rfl
theorem T4 : look T 4 = some { desc := .bool, zero := (.bool false), size := 1, bytes := 1 } := rfl
theorem T5 : look T 5 = some { desc := .int .u8, zero := (.int .u8 0), size := 1, bytes := 1 } := rfl
theorem T9 : look T 9 = some { desc := .string, zero := (.string ⟨#[]⟩), size := 1, bytes := 16 } := rfl
theorem T21 : look T 21 = some { desc := .int .i32, zero := (.int .i32 0), size := 1, bytes := 4 } := rfl
theorem T22 : look T 22 = some { desc := .slice 52, zero := (.slice none 0 0), size := 1, bytes := 24 } := rfl
theorem T24 : look T 24 = some { desc := .struct #[{ name := "Files", type := 22, offset := 0, embedded := false, tag := "", pkgPath := "", byteOffset := 0 }, { name := "Space", type := 3, offset := 1, embedded := false, tag := "", pkgPath := "", byteOffset := 24 }], zero := (.agg #[(.slice none 0 0), (.int .i64 0)]), size := 2, bytes := 32 } := rfl
theorem T27 : look T 27 = some { desc := .int .i64, zero := (.int .i64 0), size := 1, bytes := 8 } := rfl
theorem T34 : look T 34 = some { desc := .slice 3, zero := (.slice none 0 0), size := 1, bytes := 24 } := rfl
theorem T50 : look T 50 = some { desc := .array 2 9, zero := (.agg #[(.string ⟨#[]⟩), (.string ⟨#[]⟩)]), size := 2, bytes := 32 } := rfl
theorem T52 : look T 52 = some { desc := .struct #[{ name := "Name", type := 9, offset := 0, embedded := false, tag := "", pkgPath := "", byteOffset := 0 }, { name := "Durable", type := 9, offset := 1, embedded := false, tag := "", pkgPath := "", byteOffset := 16 }, { name := "Volatile", type := 9, offset := 2, embedded := false, tag := "", pkgPath := "", byteOffset := 32 }], zero := (.agg #[(.string ⟨#[]⟩), (.string ⟨#[]⟩), (.string ⟨#[]⟩)]), size := 3, bytes := 48, eqv := true } := rfl
theorem T55 : look T 55 = some { desc := .struct #[{ name := "d", type := 24, offset := 0, embedded := false, tag := "", pkgPath := "tidegate/tidegatelaw44", byteOffset := 0 }, { name := "want", type := 9, offset := 2, embedded := false, tag := "", pkgPath := "tidegate/tidegatelaw44", byteOffset := 32 }], zero := (.agg #[(.slice none 0 0), (.int .i64 0), (.string ⟨#[]⟩)]), size := 3, bytes := 48 } := rfl
theorem T56 : look T 56 = some { desc := .slice 55, zero := (.slice none 0 0), size := 1, bytes := 24 } := rfl
theorem T65 : look T 65 = some { desc := .struct #[{ name := "choices", type := 34, offset := 0, embedded := false, tag := "", pkgPath := "tidegate/tidegatelaw44", byteOffset := 0 }, { name := "content", type := 9, offset := 1, embedded := false, tag := "", pkgPath := "tidegate/tidegatelaw44", byteOffset := 24 }], zero := (.agg #[(.slice none 0 0), (.string ⟨#[]⟩)]), size := 2, bytes := 40 } := rfl
theorem T66 : look T 66 = some { desc := .slice 65, zero := (.slice none 0 0), size := 1, bytes := 24 } := rfl
theorem T68 : look T 68 = some { desc := .func #[9] #[9] false, zero := .nilFunc, size := 1, bytes := 8 } := rfl
theorem T75 : look T 75 = some { desc := .struct #[{ name := "left", type := 34, offset := 0, embedded := false, tag := "", pkgPath := "tidegate/disk", byteOffset := 0 }], zero := (.agg #[(.slice none 0 0)]), size := 1, bytes := 24 } := rfl
theorem T77 : look T 77 = some { desc := .func #[3] #[3] false, zero := .nilFunc, size := 1, bytes := 8 } := rfl
theorem T83 : look T 83 = some { desc := .func #[52] #[4] false, zero := .nilFunc, size := 1, bytes := 8 } := rfl
theorem T91 : look T 91 = some { desc := .slice 9, zero := (.slice none 0 0), size := 1, bytes := 24 } := rfl
theorem T94 : look T 94 = some { desc := .func #[52, 9] #[3] false, zero := .nilFunc, size := 1, bytes := 8 } := rfl
theorem T99 : look T 99 = some { desc := .int .u64, zero := (.int .u64 0), size := 1, bytes := 8 } := rfl
theorem T102 : look T 102 = some { desc := .array 256 4, zero := (.agg #[(.bool false), (.bool false), (.bool false), (.bool false), (.bool false), (.bool false), (.bool false), (.bool false), (.bool false), (.bool false), (.bool false), (.bool false), (.bool false), (.bool false), (.bool false), (.bool false), (.bool false), (.bool false), (.bool false), (.bool false), (.bool false), (.bool false), (.bool false), (.bool false), (.bool false), (.bool false), (.bool false), (.bool false), (.bool false), (.bool false), (.bool false), (.bool false), (.bool false), (.bool false), (.bool false), (.bool false), (.bool false), (.bool false), (.bool false), (.bool false), (.bool false), (.bool false), (.bool false), (.bool false), (.bool false), (.bool false), (.bool false), (.bool false), (.bool false), (.bool false), (.bool false), (.bool false), (.bool false), (.bool false), (.bool false), (.bool false), (.bool false), (.bool false), (.bool false), (.bool false), (.bool false), (.bool false), (.bool false), (.bool false), (.bool false), (.bool false), (.bool false), (.bool false), (.bool false), (.bool false), (.bool false), (.bool false), (.bool false), (.bool false), (.bool false), (.bool false), (.bool false), (.bool false), (.bool false), (.bool false), (.bool false), (.bool false), (.bool false), (.bool false), (.bool false), (.bool false), (.bool false), (.bool false), (.bool false), (.bool false), (.bool false), (.bool false), (.bool false), (.bool false), (.bool false), (.bool false), (.bool false), (.bool false), (.bool false), (.bool false), (.bool false), (.bool false), (.bool false), (.bool false), (.bool false), (.bool false), (.bool false), (.bool false), (.bool false), (.bool false), (.bool false), (.bool false), (.bool false), (.bool false), (.bool false), (.bool false), (.bool false), (.bool false), (.bool false), (.bool false), (.bool false), (.bool false), (.bool false), (.bool false), (.bool false), (.bool false), (.bool false), (.bool false), (.bool false), (.bool false), (.bool false), (.bool false), (.bool false), (.bool false), (.bool false), (.bool false), (.bool false), (.bool false), (.bool false), (.bool false), (.bool false), (.bool false), (.bool false), (.bool false), (.bool false), (.bool false), (.bool false), (.bool false), (.bool false), (.bool false), (.bool false), (.bool false), (.bool false), (.bool false), (.bool false), (.bool false), (.bool false), (.bool false), (.bool false), (.bool false), (.bool false), (.bool false), (.bool false), (.bool false), (.bool false), (.bool false), (.bool false), (.bool false), (.bool false), (.bool false), (.bool false), (.bool false), (.bool false), (.bool false), (.bool false), (.bool false), (.bool false), (.bool false), (.bool false), (.bool false), (.bool false), (.bool false), (.bool false), (.bool false), (.bool false), (.bool false), (.bool false), (.bool false), (.bool false), (.bool false), (.bool false), (.bool false), (.bool false), (.bool false), (.bool false), (.bool false), (.bool false), (.bool false), (.bool false), (.bool false), (.bool false), (.bool false), (.bool false), (.bool false), (.bool false), (.bool false), (.bool false), (.bool false), (.bool false), (.bool false), (.bool false), (.bool false), (.bool false), (.bool false), (.bool false), (.bool false), (.bool false), (.bool false), (.bool false), (.bool false), (.bool false), (.bool false), (.bool false), (.bool false), (.bool false), (.bool false), (.bool false), (.bool false), (.bool false), (.bool false), (.bool false), (.bool false), (.bool false), (.bool false), (.bool false), (.bool false), (.bool false), (.bool false), (.bool false), (.bool false), (.bool false), (.bool false), (.bool false), (.bool false), (.bool false), (.bool false), (.bool false), (.bool false), (.bool false), (.bool false), (.bool false), (.bool false), (.bool false), (.bool false), (.bool false), (.bool false)]), size := 256, bytes := 256 } := rfl
theorem T106 : look T 106 = some { desc := .pointer 102, zero := (.pointer none), size := 1, bytes := 8 } := rfl
theorem T112 : look T 112 = some { desc := .array 256 5, zero := (.agg #[(.int .u8 0), (.int .u8 0), (.int .u8 0), (.int .u8 0), (.int .u8 0), (.int .u8 0), (.int .u8 0), (.int .u8 0), (.int .u8 0), (.int .u8 0), (.int .u8 0), (.int .u8 0), (.int .u8 0), (.int .u8 0), (.int .u8 0), (.int .u8 0), (.int .u8 0), (.int .u8 0), (.int .u8 0), (.int .u8 0), (.int .u8 0), (.int .u8 0), (.int .u8 0), (.int .u8 0), (.int .u8 0), (.int .u8 0), (.int .u8 0), (.int .u8 0), (.int .u8 0), (.int .u8 0), (.int .u8 0), (.int .u8 0), (.int .u8 0), (.int .u8 0), (.int .u8 0), (.int .u8 0), (.int .u8 0), (.int .u8 0), (.int .u8 0), (.int .u8 0), (.int .u8 0), (.int .u8 0), (.int .u8 0), (.int .u8 0), (.int .u8 0), (.int .u8 0), (.int .u8 0), (.int .u8 0), (.int .u8 0), (.int .u8 0), (.int .u8 0), (.int .u8 0), (.int .u8 0), (.int .u8 0), (.int .u8 0), (.int .u8 0), (.int .u8 0), (.int .u8 0), (.int .u8 0), (.int .u8 0), (.int .u8 0), (.int .u8 0), (.int .u8 0), (.int .u8 0), (.int .u8 0), (.int .u8 0), (.int .u8 0), (.int .u8 0), (.int .u8 0), (.int .u8 0), (.int .u8 0), (.int .u8 0), (.int .u8 0), (.int .u8 0), (.int .u8 0), (.int .u8 0), (.int .u8 0), (.int .u8 0), (.int .u8 0), (.int .u8 0), (.int .u8 0), (.int .u8 0), (.int .u8 0), (.int .u8 0), (.int .u8 0), (.int .u8 0), (.int .u8 0), (.int .u8 0), (.int .u8 0), (.int .u8 0), (.int .u8 0), (.int .u8 0), (.int .u8 0), (.int .u8 0), (.int .u8 0), (.int .u8 0), (.int .u8 0), (.int .u8 0), (.int .u8 0), (.int .u8 0), (.int .u8 0), (.int .u8 0), (.int .u8 0), (.int .u8 0), (.int .u8 0), (.int .u8 0), (.int .u8 0), (.int .u8 0), (.int .u8 0), (.int .u8 0), (.int .u8 0), (.int .u8 0), (.int .u8 0), (.int .u8 0), (.int .u8 0), (.int .u8 0), (.int .u8 0), (.int .u8 0), (.int .u8 0), (.int .u8 0), (.int .u8 0), (.int .u8 0), (.int .u8 0), (.int .u8 0), (.int .u8 0), (.int .u8 0), (.int .u8 0), (.int .u8 0), (.int .u8 0), (.int .u8 0), (.int .u8 0), (.int .u8 0), (.int .u8 0), (.int .u8 0), (.int .u8 0), (.int .u8 0), (.int .u8 0), (.int .u8 0), (.int .u8 0), (.int .u8 0), (.int .u8 0), (.int .u8 0), (.int .u8 0), (.int .u8 0), (.int .u8 0), (.int .u8 0), (.int .u8 0), (.int .u8 0), (.int .u8 0), (.int .u8 0), (.int .u8 0), (.int .u8 0), (.int .u8 0), (.int .u8 0), (.int .u8 0), (.int .u8 0), (.int .u8 0), (.int .u8 0), (.int .u8 0), (.int .u8 0), (.int .u8 0), (.int .u8 0), (.int .u8 0), (.int .u8 0), (.int .u8 0), (.int .u8 0), (.int .u8 0), (.int .u8 0), (.int .u8 0), (.int .u8 0), (.int .u8 0), (.int .u8 0), (.int .u8 0), (.int .u8 0), (.int .u8 0), (.int .u8 0), (.int .u8 0), (.int .u8 0), (.int .u8 0), (.int .u8 0), (.int .u8 0), (.int .u8 0), (.int .u8 0), (.int .u8 0), (.int .u8 0), (.int .u8 0), (.int .u8 0), (.int .u8 0), (.int .u8 0), (.int .u8 0), (.int .u8 0), (.int .u8 0), (.int .u8 0), (.int .u8 0), (.int .u8 0), (.int .u8 0), (.int .u8 0), (.int .u8 0), (.int .u8 0), (.int .u8 0), (.int .u8 0), (.int .u8 0), (.int .u8 0), (.int .u8 0), (.int .u8 0), (.int .u8 0), (.int .u8 0), (.int .u8 0), (.int .u8 0), (.int .u8 0), (.int .u8 0), (.int .u8 0), (.int .u8 0), (.int .u8 0), (.int .u8 0), (.int .u8 0), (.int .u8 0), (.int .u8 0), (.int .u8 0), (.int .u8 0), (.int .u8 0), (.int .u8 0), (.int .u8 0), (.int .u8 0), (.int .u8 0), (.int .u8 0), (.int .u8 0), (.int .u8 0), (.int .u8 0), (.int .u8 0), (.int .u8 0), (.int .u8 0), (.int .u8 0), (.int .u8 0), (.int .u8 0), (.int .u8 0), (.int .u8 0), (.int .u8 0), (.int .u8 0), (.int .u8 0), (.int .u8 0), (.int .u8 0), (.int .u8 0), (.int .u8 0), (.int .u8 0), (.int .u8 0), (.int .u8 0), (.int .u8 0), (.int .u8 0), (.int .u8 0), (.int .u8 0), (.int .u8 0), (.int .u8 0), (.int .u8 0), (.int .u8 0), (.int .u8 0)]), size := 256, bytes := 256 } := rfl
theorem T114 : look T 114 = some { desc := .struct #[{ name := "lo", type := 5, offset := 0, embedded := false, tag := "", pkgPath := "unicode/utf8", byteOffset := 0 }, { name := "hi", type := 5, offset := 1, embedded := false, tag := "", pkgPath := "unicode/utf8", byteOffset := 1 }], zero := (.agg #[(.int .u8 0), (.int .u8 0)]), size := 2, bytes := 2, eqv := true } := rfl
theorem T115 : look T 115 = some { desc := .array 16 114, zero := (.agg #[(.int .u8 0), (.int .u8 0), (.int .u8 0), (.int .u8 0), (.int .u8 0), (.int .u8 0), (.int .u8 0), (.int .u8 0), (.int .u8 0), (.int .u8 0), (.int .u8 0), (.int .u8 0), (.int .u8 0), (.int .u8 0), (.int .u8 0), (.int .u8 0), (.int .u8 0), (.int .u8 0), (.int .u8 0), (.int .u8 0), (.int .u8 0), (.int .u8 0), (.int .u8 0), (.int .u8 0), (.int .u8 0), (.int .u8 0), (.int .u8 0), (.int .u8 0), (.int .u8 0), (.int .u8 0), (.int .u8 0), (.int .u8 0)]), size := 32, bytes := 32 } := rfl
theorem mixed : Tryd.prog.follows .mixedOrders = true := by kernel_rfl
end Go.Abs
set_option maxRecDepth 100000
namespace Go.Abs
open Go Go.Proofs
attribute [simp] T3 T4 T5 T9 T21 T22 T24 T27 T34 T50 T52

structure File where
  name : List UInt8
  dur : List UInt8
  vol : List UInt8
deriving Inhabited, DecidableEq
structure Disk where
  files : List File
  space : Int
deriving Inhabited, DecidableEq
@[simp] def encF (f : File) : AV := .agg [.str f.name, .str f.dur, .str f.vol]
abbrev AV.i (n : Int) : AV := .int .i64 n
@[simp] def encD (d : Disk) : AV := .agg [.list (d.files.map encF), .int .i64 d.space]
def sumV (fs : List File) : Nat := (fs.map (·.vol.length)).sum
def sumD (fs : List File) : Nat := (fs.map (·.dur.length)).sum
abbrev W (n : Int) : Int := IntKind.i64.wrap n

theorem wrap_i64 (n : Int) (h1 : -9223372036854775808 ≤ n) (h2 : n ≤ 9223372036854775807) : IntKind.i64.wrap n = n := by
  rw [IntKind.wrap_i64]; omega
theorem wrap_wrap_add (a b : Int) : IntKind.i64.wrap (IntKind.i64.wrap a + b) = IntKind.i64.wrap (a + b) := by
  rw [IntKind.wrap_i64, IntKind.wrap_i64, IntKind.wrap_i64]; omega
theorem wrap_zero : IntKind.i64.wrap 0 = 0 := by rw [IntKind.wrap_i64]; omega
theorem take_succ_sum (fs : List File) (g : File → Nat) (j : Nat) (h : j < fs.length) : ((fs.take (j + 1)).map g).sum = ((fs.take j).map g).sum + g fs[j] := by
  rw [List.take_succ_eq_append_getElem h, List.map_append, List.sum_append]; simp only [List.map_cons, List.map_nil, List.sum_cons, List.sum_nil, Nat.add_zero]
theorem sumV_succ (fs : List File) (j : Nat) (h : j < fs.length) : sumV (fs.take (j + 1)) = sumV (fs.take j) + fs[j].vol.length := take_succ_sum fs _ j h
theorem sumD_succ (fs : List File) (j : Nat) (h : j < fs.length) : sumD (fs.take (j + 1)) = sumD (fs.take j) + fs[j].dur.length := take_succ_sum fs _ j h

set_option maxHeartbeats 400000 in
theorem pc46 (fs : List File) : PC Tryd.prog 46 [.list (fs.map encF)] (fun r => r = .tup [.i (W (sumV fs)), .i (W (sumD fs))]) := by
  refine PC_body tOk Tryd.func46 rfl Tryd.results46 rfl (by simp [Tryd.ntmps46]) ?_
  rw [Tryd.ntmps46]
  simp only [argSlots]
  refine AWP_len 0 rfl (fun hlen => ?_)
  rw [List.length_map] at hlen
  repeat (first
    | (refine AWP_seq (AWP_regS tOk rfl ?_); simp)
    | (refine AWP_regS tOk rfl ?_; simp)
    | (refine AWP_skip ?_; simp)
    | (refine AWP_exit ?_; simp)
    | (refine AWP_ret ?_; simp)
    | refine AWP_block ?_
    | refine AWP_seq ?_)
  refine AWP_count fs.length (fun j => [(0, .list (fs.map encF)), (4, .i (W (sumV (fs.take j)))), (5, .i (W (sumD (fs.take j)))), (8, .list (fs.map encF)), (9, .i fs.length), (10, .i j)]) (fun _ => []) rfl (by simp) (by simp [sumV, sumD, wrap_zero]) (by simp) (by simp) ?_
  intro j hj ih
  repeat (first
    | (refine AWP_seq (AWP_regS tOk rfl ?_); simp)
    | (refine AWP_regS tOk rfl ?_; simp)
    | (refine AWP_skip ?_; simp)
    | (refine AWP_exit ?_; simp)
    | (refine AWP_ret ?_; simp)
    | refine AWP_block ?_
    | refine AWP_seq ?_)
  refine AWP_cond2 rfl (fun hlt => ?_) (fun hge => ?_)
  · have hlt' : j < fs.length := by simpa using hlt
    repeat (first
      | (refine AWP_seq (AWP_regS tOk rfl ?_); simp [hlt'])
      | (refine AWP_regS tOk rfl ?_; simp [hlt'])
      | (refine AWP_skip ?_; simp [hlt'])
      | (refine AWP_exit ?_; simp [hlt'])
      | (refine AWP_ret ?_; simp [hlt'])
      | refine AWP_block ?_
      | refine AWP_seq ?_)
    refine ALoop_end _ (ih hlt') rfl (by simp) ?_ (by simp) (by simp)
    simp [wrap_wrap_add, sumV_succ fs j hlt', sumD_succ fs j hlt']
    exact wrap_i64 _ (by omega) (by omega)
  · have hge' : j = fs.length := by simp at hge; omega
    subst hge'
    repeat (first
      | (refine AWP_seq (AWP_regS tOk rfl ?_); simp)
      | (refine AWP_regS tOk rfl ?_; simp)
      | (refine AWP_skip ?_; simp)
      | (refine AWP_exit ?_; simp)
      | (refine AWP_ret ?_; simp)
      | refine AWP_block ?_
      | refine AWP_seq ?_)

set_option maxHeartbeats 400000 in
theorem pc35 (fs : List File) : PC Tryd.prog 35 [.list (fs.map encF)] (fun r => r = .tup [.i (W (sumV fs)), .i (W (sumD fs))]) := by
  refine PC_body tOk Tryd.func35 rfl Tryd.results35 rfl (by simp [Tryd.ntmps35]) ?_
  rw [Tryd.ntmps35]
  simp only [argSlots]
  refine AWP_len 0 rfl (fun hlen => ?_)
  rw [List.length_map] at hlen
  repeat (first
    | (refine AWP_seq (AWP_regS tOk rfl ?_); simp)
    | (refine AWP_regS tOk rfl ?_; simp)
    | (refine AWP_skip ?_; simp)
    | (refine AWP_exit ?_; simp)
    | (refine AWP_ret ?_; simp)
    | refine AWP_block ?_
    | refine AWP_seq ?_)
  refine AWP_count fs.length (fun j => [(0, .list (fs.map encF)), (4, .i (W (sumV (fs.take j)))), (5, .i (W (sumD (fs.take j)))), (6, .i j)]) (fun _ => []) rfl (by simp) (by simp [sumV, sumD, wrap_zero]) (by simp) (by simp) ?_
  intro j hj ih
  repeat (first
    | (refine AWP_seq (AWP_regS tOk rfl ?_); simp)
    | (refine AWP_regS tOk rfl ?_; simp)
    | (refine AWP_skip ?_; simp)
    | (refine AWP_exit ?_; simp)
    | (refine AWP_ret ?_; simp)
    | refine AWP_block ?_
    | refine AWP_seq ?_)
  refine AWP_cond2 rfl (fun hlt => ?_) (fun hge => ?_)
  · have hlt' : j < fs.length := by simpa using hlt
    repeat (first
      | (refine AWP_seq (AWP_regS tOk rfl ?_); simp)
      | (refine AWP_regS tOk rfl ?_; simp)
      | (refine AWP_skip ?_; simp)
      | (refine AWP_exit ?_; simp)
      | (refine AWP_ret ?_; simp)
      | refine AWP_block ?_
      | refine AWP_seq ?_)
    refine AWP_draw tOk mixed [] [0, 1, 2, 3, 4, 5, 6, 7, 8, 9, 10, 11, 12, 13, 14, 15, 16, 17] rfl (by kernel_rfl) ?_
    simp [hlt']
    repeat (first
      | (refine AWP_seq (AWP_regS tOk rfl ?_); simp)
      | (refine AWP_regS tOk rfl ?_; simp)
      | (refine AWP_skip ?_; simp)
      | (refine AWP_exit ?_; simp)
      | (refine AWP_ret ?_; simp)
      | refine AWP_block ?_
      | refine AWP_seq ?_)
    refine ALoop_end _ (ih hlt') rfl (by simp) ?_ (by simp) (by simp)
    simp [wrap_wrap_add, sumV_succ fs j hlt', sumD_succ fs j hlt']
    exact wrap_i64 _ (by omega) (by omega)
  · have hge' : j = fs.length := by simp at hge; omega
    subst hge'
    repeat (first
      | (refine AWP_seq (AWP_regS tOk rfl ?_); simp)
      | (refine AWP_regS tOk rfl ?_; simp)
      | (refine AWP_skip ?_; simp)
      | (refine AWP_exit ?_; simp)
      | (refine AWP_ret ?_; simp)
      | refine AWP_block ?_
      | refine AWP_seq ?_)
end Go.Abs
set_option maxRecDepth 100000
namespace Go.Abs
open Go Go.Proofs
def allowedN (n : Int) : Bool := decide (97 ≤ n) && decide (n ≤ 122) || decide (65 ≤ n) && decide (n ≤ 90) || decide (48 ≤ n) && decide (n ≤ 57) || n == 95 || n == 46 || n == 45

set_option maxHeartbeats 400000 in
theorem pc65 (n : Int) : PC Tryd.prog 65 [.int .u8 n] (fun r => r = .bool (allowedN n)) := by
  refine PC_body tOk Tryd.func65 rfl Tryd.results65 rfl (by simp [Tryd.ntmps65]) ?_
  rw [Tryd.ntmps65]
  simp only [argSlots]
  repeat (first
    | (refine AWP_seq (AWP_regS tOk rfl ?_); simp)
    | (refine AWP_regS tOk rfl ?_; simp)
    | (refine AWP_skip ?_; simp)
    | (refine AWP_exit ?_; simp)
    | (refine AWP_ret ?_; simp)
    | refine AWP_block ?_
    | refine AWP_seq ?_)
  rfl

def nameOk (s : List UInt8) : Bool := s.all (fun c => allowedN c.toNat) && (decide (1 ≤ (s.length : Int)) && decide ((s.length : Int) ≤ 48))
theorem all_take_succ {α : Type} (s : List α) (p : α → Bool) (j : Nat) (h : j < s.length) : (s.take (j + 1)).all p = ((s.take j).all p && p s[j]) := by
  rw [List.take_succ_eq_append_getElem h]; simp only [List.all_append, List.all_cons, List.all_nil, Bool.and_true]
theorem all_false_of {α : Type} (s : List α) (p : α → Bool) (j : Nat) (h : j < s.length) (hp : p s[j] = false) : s.all p = false := by
  rw [List.all_eq_false]; exact ⟨s[j], List.getElem_mem h, by simp [hp]⟩

set_option maxHeartbeats 400000 in
theorem pc54 (s : List UInt8) (hlen : s.length ≤ 9223372036854775807) : PC Tryd.prog 54 [.str s] (fun r => r = .bool (nameOk s)) := by
  refine PC_body tOk Tryd.func54 rfl Tryd.results54 rfl (by simp [Tryd.ntmps54]) ?_
  rw [Tryd.ntmps54]
  simp only [argSlots]
  repeat (first
    | (refine AWP_seq (AWP_regS tOk rfl ?_); simp)
    | (refine AWP_regS tOk rfl ?_; simp)
    | (refine AWP_skip ?_; simp)
    | (refine AWP_exit ?_; simp)
    | (refine AWP_ret ?_; simp)
    | refine AWP_block ?_
    | refine AWP_seq ?_)
  refine AWP_countI s.length (fun j => (s.take j).all (fun c => allowedN c.toNat) = true) (fun j => [(0, .str s), (3, .i j)]) (fun _ => []) rfl (by simp) (by simp) (by simp) (by simp) (by simp) ?_
  intro j hj hI ih
  repeat (first
    | (refine AWP_seq (AWP_regS tOk rfl ?_); simp)
    | (refine AWP_regS tOk rfl ?_; simp)
    | (refine AWP_skip ?_; simp)
    | (refine AWP_exit ?_; simp)
    | (refine AWP_ret ?_; simp)
    | refine AWP_block ?_
    | refine AWP_seq ?_)
  refine AWP_cond2 rfl (fun hlt => ?_) (fun hge => ?_)
  · have hlt' : j < s.length := by simpa using hlt
    repeat (first
      | (refine AWP_seq (AWP_regS tOk rfl ?_); simp [hlt'])
      | (refine AWP_regS tOk rfl ?_; simp [hlt'])
      | (refine AWP_skip ?_; simp [hlt'])
      | (refine AWP_exit ?_; simp [hlt'])
      | (refine AWP_ret ?_; simp [hlt'])
      | refine AWP_block ?_
      | refine AWP_seq ?_)
    refine AStep_PC rfl rfl (by simp) (pc65 _) rfl ?_
    rintro _ rfl
    simp
    refine AWP_cond2 rfl (fun hno => ?_) (fun hok => ?_)
    · repeat (first
        | (refine AWP_seq (AWP_regS tOk rfl ?_); simp)
        | (refine AWP_regS tOk rfl ?_; simp)
        | (refine AWP_skip ?_; simp)
        | (refine AWP_exit ?_; simp)
        | (refine AWP_ret ?_; simp)
        | refine AWP_block ?_
        | refine AWP_seq ?_)
      have := all_false_of s (fun c => allowedN c.toNat) j hlt' (by simpa using hno)
      simp [nameOk, this]
    · repeat (first
        | (refine AWP_seq (AWP_regS tOk rfl ?_); simp)
        | (refine AWP_regS tOk rfl ?_; simp)
        | (refine AWP_skip ?_; simp)
        | (refine AWP_exit ?_; simp)
        | (refine AWP_ret ?_; simp)
        | refine AWP_block ?_
        | refine AWP_seq ?_)
      refine ALoop_end _ (ih hlt' ?_) rfl (by simp) ?_ (by simp) (by simp)
      · rw [all_take_succ s _ j hlt', hI]; simpa using hok
      · simp
        exact wrap_i64 _ (by omega) (by omega)
  · have hge' : j = s.length := by simp at hge; omega
    subst hge'
    repeat (first
      | (refine AWP_seq (AWP_regS tOk rfl ?_); simp)
      | (refine AWP_regS tOk rfl ?_; simp)
      | (refine AWP_skip ?_; simp)
      | (refine AWP_exit ?_; simp)
      | (refine AWP_ret ?_; simp)
      | refine AWP_block ?_
      | refine AWP_seq ?_)
    rw [List.take_length] at hI
    simp only [nameOk, hI, Bool.true_and]
end Go.Abs
set_option maxRecDepth 100000
namespace Go.Abs
open Go Go.Proofs
def few (d : Disk) : Bool := decide ((d.files.length : Int) ≤ 300) && decide (W (sumV d.files) ≤ 2000) && decide (W (sumD d.files) ≤ 2000)

set_option maxHeartbeats 400000 in
theorem pc11 (d : Disk) : PC Tryd.prog 11 [encD d] (fun r => r = .bool (few d)) := by
  refine PC_body tOk Tryd.func11 rfl Tryd.results11 rfl (by simp [Tryd.ntmps11]) ?_
  rw [Tryd.ntmps11]
  simp only [argSlots]
  simp only [encD]
  repeat (first
    | (refine AWP_seq (AWP_regS tOk rfl ?_); simp)
    | (refine AWP_regS tOk rfl ?_; simp)
    | (refine AWP_skip ?_; simp)
    | (refine AWP_exit ?_; simp)
    | (refine AWP_ret ?_; simp)
    | refine AWP_block ?_
    | refine AWP_seq ?_)
  refine AStep_PC rfl rfl (by simp) (pc35 _) rfl ?_
  rintro _ rfl
  simp
  repeat (first
    | (refine AWP_seq (AWP_regS tOk rfl ?_); simp)
    | (refine AWP_regS tOk rfl ?_; simp)
    | (refine AWP_skip ?_; simp)
    | (refine AWP_exit ?_; simp)
    | (refine AWP_ret ?_; simp)
    | refine AWP_block ?_
    | refine AWP_seq ?_)
  rfl

def NB (fs : List File) : Prop := ∀ f ∈ fs, f.name.length ≤ 9223372036854775807
theorem NB.get {fs : List File} (h : NB fs) (j : Nat) (hj : j < fs.length) : fs[j].name.length ≤ 9223372036854775807 := h _ (List.getElem_mem hj)
def strLe (a b : List UInt8) : Bool := Op.bytesLess a b || a == b
def badPrev (p : Option (List UInt8)) (n : List UInt8) : Bool := match p with
  | none => false
  | some q => strLe n q
def chkL : Option (List UInt8) → List File → Int
  | _, [] => 0
  | p, f :: r => if nameOk f.name = false then 8 else if badPrev p f.name = true then 14 else chkL (some f.name) r
def prevN (fs : List File) : Nat → Option (List UInt8)
  | 0 => none
  | j + 1 => fs[j]?.map (·.name)
theorem drop_get {fs : List File} {j : Nat} (h : j < fs.length) : fs.drop j = fs[j] :: fs.drop (j + 1) := List.drop_eq_getElem_cons h
theorem prevN_succ {fs : List File} {j : Nat} (h : j < fs.length) : prevN fs (j + 1) = some fs[j].name := by simp [prevN, h]
def overB (d : Disk) : Bool := decide (d.space < W (sumV d.files)) || decide (d.space < W (sumD d.files))
def badSp (n : Int) : Bool := decide (n < 0) || decide (65536 < n)
def checkR (d : Disk) : Int := if badSp d.space = true then 2 else if (256 : Int) < d.files.length then 5 else
  if chkL none d.files = 0 then (if overB d = true then 27 else 0) else chkL none d.files

set_option maxHeartbeats 1000000 in
theorem pc26 (d : Disk) (hnb : NB d.files) : PC Tryd.prog 26 [encD d] (fun r => r = .i (checkR d)) := by
  refine PC_body tOk Tryd.func26 rfl Tryd.results26 rfl (by simp [Tryd.ntmps26]) ?_
  rw [Tryd.ntmps26]
  simp only [argSlots]
  simp only [encD]
  refine AWP_lenAgg 0 0 rfl rfl (fun hlen => ?_)
  rw [List.length_map] at hlen
  repeat (first
    | (refine AWP_seq (AWP_regS tOk rfl ?_); simp)
    | (refine AWP_regS tOk rfl ?_; simp)
    | (refine AWP_skip ?_; simp)
    | (refine AWP_exit ?_; simp)
    | (refine AWP_ret ?_; simp)
    | refine AWP_block ?_
    | refine AWP_seq ?_)
  refine AWP_cond2 rfl (fun h => ?_) (fun h1 => ?_)
  · repeat (first
      | (refine AWP_seq (AWP_regS tOk rfl ?_); simp)
      | (refine AWP_regS tOk rfl ?_; simp)
      | (refine AWP_skip ?_; simp)
      | (refine AWP_exit ?_; simp)
      | (refine AWP_ret ?_; simp)
      | refine AWP_block ?_
      | refine AWP_seq ?_)
    simp [checkR, badSp, h]
  repeat (first
    | (refine AWP_seq (AWP_regS tOk rfl ?_); simp)
    | (refine AWP_regS tOk rfl ?_; simp)
    | (refine AWP_skip ?_; simp)
    | (refine AWP_exit ?_; simp)
    | (refine AWP_ret ?_; simp)
    | refine AWP_block ?_
    | refine AWP_seq ?_)
  refine AWP_cond2 rfl (fun h => ?_) (fun h2 => ?_)
  · repeat (first
      | (refine AWP_seq (AWP_regS tOk rfl ?_); simp)
      | (refine AWP_regS tOk rfl ?_; simp)
      | (refine AWP_skip ?_; simp)
      | (refine AWP_exit ?_; simp)
      | (refine AWP_ret ?_; simp)
      | refine AWP_block ?_
      | refine AWP_seq ?_)
    simp only [checkR, badSp, h1]
    simp at h
    simp [h]
  repeat (first
    | (refine AWP_seq (AWP_regS tOk rfl ?_); simp)
    | (refine AWP_regS tOk rfl ?_; simp)
    | (refine AWP_skip ?_; simp)
    | (refine AWP_exit ?_; simp)
    | (refine AWP_ret ?_; simp)
    | refine AWP_block ?_
    | refine AWP_seq ?_)
  refine AWP_countI d.files.length (fun j => chkL none d.files = chkL (prevN d.files j) (d.files.drop j)) (fun j => [(1, .vptr 0 0), (3, .i j)]) (fun _ => [.vars [.list (d.files.map encF), .i d.space]]) rfl (by simp) (by simp) (by simp) (by simp) (by simp [prevN]) ?_
  intro j hj hI ih
  repeat (first
    | (refine AWP_seq (AWP_regS tOk rfl ?_); simp)
    | (refine AWP_regS tOk rfl ?_; simp)
    | (refine AWP_skip ?_; simp)
    | (refine AWP_exit ?_; simp)
    | (refine AWP_ret ?_; simp)
    | refine AWP_block ?_
    | refine AWP_seq ?_)
  refine AWP_cond2 rfl (fun hlt => ?_) (fun hge => ?_)
  · have hlt' : j < d.files.length := by simpa using hlt
    have hjb := hnb.get j hlt'
    rw [drop_get hlt', chkL] at hI
    repeat (first
      | (refine AWP_seq (AWP_regS tOk rfl ?_); simp [hlt'])
      | (refine AWP_regS tOk rfl ?_; simp [hlt'])
      | (refine AWP_skip ?_; simp [hlt'])
      | (refine AWP_exit ?_; simp [hlt'])
      | (refine AWP_ret ?_; simp [hlt'])
      | refine AWP_block ?_
      | refine AWP_seq ?_)
    refine AStep_PC rfl rfl (by simp) (pc54 _ (by simpa using hjb)) rfl ?_
    rintro _ rfl
    simp [hlt']
    refine AWP_cond2 rfl (fun hno => ?_) (fun hok => ?_)
    · repeat (first
        | (refine AWP_seq (AWP_regS tOk rfl ?_); simp)
        | (refine AWP_regS tOk rfl ?_; simp)
        | (refine AWP_skip ?_; simp)
        | (refine AWP_exit ?_; simp)
        | (refine AWP_ret ?_; simp)
        | refine AWP_block ?_
        | refine AWP_seq ?_)
      simp at hno
      rw [if_pos hno] at hI
      simp at h2
      rw [checkR, if_neg (by simp [badSp, h1]), if_neg (by omega), hI]
      simp
    · simp at hok
      rw [if_neg (by simp [hok])] at hI
      have hbp : ∀ b, badPrev (prevN d.files j) d.files[j].name = b → b = true → (8 : Int) + 6 = checkR d := fun b e1 e2 => by
        rw [e1, if_pos e2] at hI
        simp at h2
        rw [checkR, if_neg (by simp [badSp, h1]), if_neg (by omega), hI]
        simp
      have hbn : badPrev (prevN d.files j) d.files[j].name = false → chkL none d.files = chkL (prevN d.files (j + 1)) (d.files.drop (j + 1)) := fun e => by
        rw [e, if_neg (by simp)] at hI
        rw [prevN_succ hlt', hI]
      rcases j with _ | j
      · repeat (first
          | (refine AWP_seq (AWP_regS tOk rfl ?_); simp)
          | (refine AWP_regS tOk rfl ?_; simp)
          | (refine AWP_skip ?_; simp)
          | (refine AWP_exit ?_; simp)
          | (refine AWP_ret ?_; simp)
          | refine AWP_block ?_
          | refine AWP_seq ?_)
        refine AWP_draw tOk mixed [] [0, 1, 2, 3, 4, 5, 6, 7, 8, 9, 10, 11, 12, 13, 14, 15, 16, 17] rfl (by kernel_rfl) ?_
        simp [hlt']
        refine AWP_cond rfl ?_
        repeat (first
          | (refine AWP_seq (AWP_regS tOk rfl ?_); simp)
          | (refine AWP_regS tOk rfl ?_; simp)
          | (refine AWP_skip ?_; simp)
          | (refine AWP_exit ?_; simp)
          | (refine AWP_ret ?_; simp)
          | refine AWP_block ?_
          | refine AWP_seq ?_)
        refine ALoop_end _ (ih hlt' (hbn rfl)) rfl (by simp) ?_ (by simp) (by simp)
        simp
        exact wrap_i64 _ (by omega) (by omega)
      · have hj1 : j < d.files.length := by omega
        have hw : IntKind.i64.wrap (j : Int) = j := wrap_i64 _ (by omega) (by omega)
        have g1 : (0 : Int) ≤ (j : Int) + 1 := by omega
        have g2 : (j : Int) + 1 < d.files.length := by omega
        repeat (first
          | (refine AWP_seq (AWP_regS tOk rfl ?_); simp)
          | (refine AWP_regS tOk rfl ?_; simp)
          | (refine AWP_skip ?_; simp)
          | (refine AWP_exit ?_; simp)
          | (refine AWP_ret ?_; simp)
          | refine AWP_block ?_
          | refine AWP_seq ?_)
        refine AWP_draw tOk mixed [] [0, 1, 2, 3, 4, 5, 6, 7, 8, 9, 10, 11, 12, 13, 14, 15, 16, 17] rfl (by kernel_rfl) ?_
        simp [hlt', hj1, hw, g1, g2]
        refine AWP_cond2 rfl (fun hb => ?_) (fun hb => ?_)
        · repeat (first
            | (refine AWP_seq (AWP_regS tOk rfl ?_); simp)
            | (refine AWP_regS tOk rfl ?_; simp)
            | (refine AWP_skip ?_; simp)
            | (refine AWP_exit ?_; simp)
            | (refine AWP_ret ?_; simp)
            | refine AWP_block ?_
            | refine AWP_seq ?_)
          exact hbp _ rfl (by rw [prevN_succ hj1]; exact hb)
        · repeat (first
            | (refine AWP_seq (AWP_regS tOk rfl ?_); simp)
            | (refine AWP_regS tOk rfl ?_; simp)
            | (refine AWP_skip ?_; simp)
            | (refine AWP_exit ?_; simp)
            | (refine AWP_ret ?_; simp)
            | refine AWP_block ?_
            | refine AWP_seq ?_)
          refine ALoop_end _ (ih hlt' (hbn (by rw [prevN_succ hj1]; exact hb))) rfl (by simp) ?_ (by simp) (by simp)
          simp
          exact wrap_i64 _ (by omega) (by omega)
  · have hge' : j = d.files.length := by simp at hge; omega
    subst hge'
    repeat (first
      | (refine AWP_seq (AWP_regS tOk rfl ?_); simp)
      | (refine AWP_regS tOk rfl ?_; simp)
      | (refine AWP_skip ?_; simp)
      | (refine AWP_exit ?_; simp)
      | (refine AWP_ret ?_; simp)
      | refine AWP_block ?_
      | refine AWP_seq ?_)
    refine AStep_PC rfl rfl (by simp) (pc35 _) rfl ?_
    rintro _ rfl
    simp
    repeat (first
      | (refine AWP_seq (AWP_regS tOk rfl ?_); simp)
      | (refine AWP_regS tOk rfl ?_; simp)
      | (refine AWP_skip ?_; simp)
      | (refine AWP_exit ?_; simp)
      | (refine AWP_ret ?_; simp)
      | refine AWP_block ?_
      | refine AWP_seq ?_)
    rw [List.drop_length, chkL] at hI
    simp at h2
    rw [checkR, if_neg (by simp [badSp, h1]), if_neg (by omega), if_pos hI]
    refine AWP_cond2 rfl (fun hb => ?_) (fun hb => ?_)
    · repeat (first
        | (refine AWP_seq (AWP_regS tOk rfl ?_); simp)
        | (refine AWP_regS tOk rfl ?_; simp)
        | (refine AWP_skip ?_; simp)
        | (refine AWP_exit ?_; simp)
        | (refine AWP_ret ?_; simp)
        | refine AWP_block ?_
        | refine AWP_seq ?_)
      rw [overB, hb]
    · repeat (first
        | (refine AWP_seq (AWP_regS tOk rfl ?_); simp)
        | (refine AWP_regS tOk rfl ?_; simp)
        | (refine AWP_skip ?_; simp)
        | (refine AWP_exit ?_; simp)
        | (refine AWP_ret ?_; simp)
        | refine AWP_block ?_
        | refine AWP_seq ?_)
      rw [overB, hb]
end Go.Abs
set_option maxRecDepth 100000
namespace Go.Abs
open Go Go.Proofs

def namedR (d : Disk) (s : List UInt8) : Int := if checkR d = 0 then (if nameOk s = true then 0 else 8) else checkR d
set_option maxHeartbeats 400000 in
theorem pc39 (d : Disk) (hnb : NB d.files) (s : List UInt8) (hs : s.length ≤ 9223372036854775807) : PC Tryd.prog 39 [encD d, .str s] (fun r => r = .i (namedR d s)) := by
  refine PC_body tOk Tryd.func39 rfl Tryd.results39 rfl (by simp [Tryd.ntmps39]) ?_
  rw [Tryd.ntmps39]
  simp only [argSlots]
  simp only [encD]
  repeat (first
    | (refine AWP_seq (AWP_regS tOk rfl ?_); simp)
    | (refine AWP_regS tOk rfl ?_; simp)
    | (refine AWP_skip ?_; simp)
    | (refine AWP_exit ?_; simp)
    | (refine AWP_ret ?_; simp)
    | refine AWP_block ?_
    | refine AWP_seq ?_)
  refine AStep_PC rfl rfl (by simp) (pc26 d hnb) rfl ?_
  rintro _ rfl
  simp
  repeat (first
    | (refine AWP_seq (AWP_regS tOk rfl ?_); simp)
    | (refine AWP_regS tOk rfl ?_; simp)
    | (refine AWP_skip ?_; simp)
    | (refine AWP_exit ?_; simp)
    | (refine AWP_ret ?_; simp)
    | refine AWP_block ?_
    | refine AWP_seq ?_)
  refine AWP_cond2 rfl (fun h => ?_) (fun h1 => ?_)
  · repeat (first
      | (refine AWP_seq (AWP_regS tOk rfl ?_); simp)
      | (refine AWP_regS tOk rfl ?_; simp)
      | (refine AWP_skip ?_; simp)
      | (refine AWP_exit ?_; simp)
      | (refine AWP_ret ?_; simp)
      | refine AWP_block ?_
      | refine AWP_seq ?_)
    simp at h
    simp [namedR, h]
  repeat (first
    | (refine AWP_seq (AWP_regS tOk rfl ?_); simp)
    | (refine AWP_regS tOk rfl ?_; simp)
    | (refine AWP_skip ?_; simp)
    | (refine AWP_exit ?_; simp)
    | (refine AWP_ret ?_; simp)
    | refine AWP_block ?_
    | refine AWP_seq ?_)
  refine AStep_PC rfl rfl (by simp) (pc54 _ hs) rfl ?_
  rintro _ rfl
  simp
  simp at h1
  refine AWP_cond2 rfl (fun h => ?_) (fun h2 => ?_)
  · repeat (first
      | (refine AWP_seq (AWP_regS tOk rfl ?_); simp)
      | (refine AWP_regS tOk rfl ?_; simp)
      | (refine AWP_skip ?_; simp)
      | (refine AWP_exit ?_; simp)
      | (refine AWP_ret ?_; simp)
      | refine AWP_block ?_
      | refine AWP_seq ?_)
    simp at h
    simp [namedR, h, h1]
  · repeat (first
      | (refine AWP_seq (AWP_regS tOk rfl ?_); simp)
      | (refine AWP_regS tOk rfl ?_; simp)
      | (refine AWP_skip ?_; simp)
      | (refine AWP_exit ?_; simp)
      | (refine AWP_ret ?_; simp)
      | refine AWP_block ?_
      | refine AWP_seq ?_)
    simp at h2
    simp [namedR, h1, h2]

def findR : List File → List UInt8 → Nat → Option Nat
  | [], _, _ => none
  | f :: r, s, i => if f.name = s then some i else findR r s (i + 1)
theorem findR_drop (fs : List File) (s : List UInt8) (i : Nat) : ∀ r, findR fs s i = some r → i ≤ r ∧ r < i + fs.length := by
  induction fs generalizing i with
  | nil => intro r h; cases h
  | cons f fs ih =>
    intro r h
    rw [findR] at h
    split at h
    · cases h; simp
    · have := ih _ _ h; simp; omega
def findAV : Option Nat → AV
  | none => .tup [.i 0, .bool false]
  | some i => .tup [.i i, .bool true]
set_option maxHeartbeats 1000000 in
theorem pc24 (d : Disk) (s : List UInt8) : PC Tryd.prog 24 [encD d, .str s] (fun r => r = findAV (findR d.files s 0)) := by
  refine PC_body tOk Tryd.func24 rfl Tryd.results24 rfl (by simp [Tryd.ntmps24]) ?_
  rw [Tryd.ntmps24]
  simp only [argSlots]
  simp only [encD]
  refine AWP_lenAgg 0 0 rfl rfl (fun hlen => ?_)
  rw [List.length_map] at hlen
  repeat (first
    | (refine AWP_seq (AWP_regS tOk rfl ?_); simp)
    | (refine AWP_regS tOk rfl ?_; simp)
    | (refine AWP_skip ?_; simp)
    | (refine AWP_exit ?_; simp)
    | (refine AWP_ret ?_; simp)
    | refine AWP_block ?_
    | refine AWP_seq ?_)
  refine AWP_countI d.files.length (fun j => findR d.files s 0 = findR (d.files.drop j) s j) (fun j => [(1, .str s), (2, .vptr 0 0), (6, .i j)]) (fun _ => [.vars [.list (d.files.map encF), .i d.space]]) rfl (by simp) (by simp) (by simp) (by simp) (by simp) ?_
  intro j hj hI ih
  repeat (first
    | (refine AWP_seq (AWP_regS tOk rfl ?_); simp)
    | (refine AWP_regS tOk rfl ?_; simp)
    | (refine AWP_skip ?_; simp)
    | (refine AWP_exit ?_; simp)
    | (refine AWP_ret ?_; simp)
    | refine AWP_block ?_
    | refine AWP_seq ?_)
  refine AWP_cond2 rfl (fun hlt => ?_) (fun hge => ?_)
  · have hlt' : j < d.files.length := by simpa using hlt
    rw [drop_get hlt', findR] at hI
    repeat (first
      | (refine AWP_seq (AWP_regS tOk rfl ?_); simp [hlt'])
      | (refine AWP_regS tOk rfl ?_; simp [hlt'])
      | (refine AWP_skip ?_; simp [hlt'])
      | (refine AWP_exit ?_; simp [hlt'])
      | (refine AWP_ret ?_; simp [hlt'])
      | refine AWP_block ?_
      | refine AWP_seq ?_)
    refine AWP_cond2 rfl (fun h => ?_) (fun h => ?_)
    · repeat (first
        | (refine AWP_seq (AWP_regS tOk rfl ?_); simp)
        | (refine AWP_regS tOk rfl ?_; simp)
        | (refine AWP_skip ?_; simp)
        | (refine AWP_exit ?_; simp)
        | (refine AWP_ret ?_; simp)
        | refine AWP_block ?_
        | refine AWP_seq ?_)
      simp at h
      rw [hI, if_pos h]; rfl
    · repeat (first
        | (refine AWP_seq (AWP_regS tOk rfl ?_); simp)
        | (refine AWP_regS tOk rfl ?_; simp)
        | (refine AWP_skip ?_; simp)
        | (refine AWP_exit ?_; simp)
        | (refine AWP_ret ?_; simp)
        | refine AWP_block ?_
        | refine AWP_seq ?_)
      simp at h
      rw [if_neg h] at hI
      refine ALoop_end _ (ih hlt' hI) rfl (by simp) ?_ (by simp) (by simp)
      simp
      exact wrap_i64 _ (by omega) (by omega)
  · have hge' : j = d.files.length := by simp at hge; omega
    subst hge'
    repeat (first
      | (refine AWP_seq (AWP_regS tOk rfl ?_); simp)
      | (refine AWP_regS tOk rfl ?_; simp)
      | (refine AWP_skip ?_; simp)
      | (refine AWP_exit ?_; simp)
      | (refine AWP_ret ?_; simp)
      | refine AWP_block ?_
      | refine AWP_seq ?_)
    rw [hI, List.drop_length]; rfl

def readR (d : Disk) (s : List UInt8) : List UInt8 × Int := if namedR d s = 0 then (match findR d.files s 0 with
  | none => ([], 6)
  | some i => ((d.files[i]?.map (·.vol)).getD [], 0)) else ([], namedR d s)
set_option maxHeartbeats 1000000 in
theorem pc22 (d : Disk) (hnb : NB d.files) (s : List UInt8) (hs : s.length ≤ 9223372036854775807) : PC Tryd.prog 22 [encD d, .str s] (fun r => r = .tup [.str (readR d s).1, .i (readR d s).2]) := by
  refine PC_body tOk Tryd.func22 rfl Tryd.results22 rfl (by simp [Tryd.ntmps22]) ?_
  rw [Tryd.ntmps22]
  simp only [argSlots]
  simp only [encD]
  repeat (first
    | (refine AWP_seq (AWP_regS tOk rfl ?_); simp)
    | (refine AWP_regS tOk rfl ?_; simp)
    | (refine AWP_skip ?_; simp)
    | (refine AWP_exit ?_; simp)
    | (refine AWP_ret ?_; simp)
    | refine AWP_block ?_
    | refine AWP_seq ?_)
  refine AStep_PC rfl rfl (by simp) (pc39 d hnb s hs) rfl ?_
  rintro _ rfl
  simp
  repeat (first
    | (refine AWP_seq (AWP_regS tOk rfl ?_); simp)
    | (refine AWP_regS tOk rfl ?_; simp)
    | (refine AWP_skip ?_; simp)
    | (refine AWP_exit ?_; simp)
    | (refine AWP_ret ?_; simp)
    | refine AWP_block ?_
    | refine AWP_seq ?_)
  refine AWP_cond2 rfl (fun h => ?_) (fun h1 => ?_)
  · repeat (first
      | (refine AWP_seq (AWP_regS tOk rfl ?_); simp)
      | (refine AWP_regS tOk rfl ?_; simp)
      | (refine AWP_skip ?_; simp)
      | (refine AWP_exit ?_; simp)
      | (refine AWP_ret ?_; simp)
      | refine AWP_block ?_
      | refine AWP_seq ?_)
    simp at h
    simp [readR, h]
  repeat (first
    | (refine AWP_seq (AWP_regS tOk rfl ?_); simp)
    | (refine AWP_regS tOk rfl ?_; simp)
    | (refine AWP_skip ?_; simp)
    | (refine AWP_exit ?_; simp)
    | (refine AWP_ret ?_; simp)
    | refine AWP_block ?_
    | refine AWP_seq ?_)
  refine AStep_PC rfl rfl (by simp) (pc24 d s) rfl ?_
  rintro _ rfl
  simp
  simp at h1
  have hf := findR_drop d.files s 0
  generalize hfd : findR d.files s 0 = fr at hf
  rcases fr with _ | i
  · simp only [findAV]
    repeat (first
      | (refine AWP_seq (AWP_regS tOk rfl ?_); simp)
      | (refine AWP_regS tOk rfl ?_; simp)
      | (refine AWP_skip ?_; simp)
      | (refine AWP_exit ?_; simp)
      | (refine AWP_ret ?_; simp)
      | refine AWP_block ?_
      | refine AWP_seq ?_)
    refine AWP_cond rfl ?_
    repeat (first
      | (refine AWP_seq (AWP_regS tOk rfl ?_); simp)
      | (refine AWP_regS tOk rfl ?_; simp)
      | (refine AWP_skip ?_; simp)
      | (refine AWP_exit ?_; simp)
      | (refine AWP_ret ?_; simp)
      | refine AWP_block ?_
      | refine AWP_seq ?_)
    simp [readR, h1, hfd]
  · have hi : i < d.files.length := by have := (hf i rfl).2; omega
    simp only [findAV]
    repeat (first
      | (refine AWP_seq (AWP_regS tOk rfl ?_); simp)
      | (refine AWP_regS tOk rfl ?_; simp)
      | (refine AWP_skip ?_; simp)
      | (refine AWP_exit ?_; simp)
      | (refine AWP_ret ?_; simp)
      | refine AWP_block ?_
      | refine AWP_seq ?_)
    refine AWP_cond rfl ?_
    repeat (first
      | (refine AWP_seq (AWP_regS tOk rfl ?_); simp [hi])
      | (refine AWP_regS tOk rfl ?_; simp [hi])
      | (refine AWP_skip ?_; simp [hi])
      | (refine AWP_exit ?_; simp [hi])
      | (refine AWP_ret ?_; simp [hi])
      | refine AWP_block ?_
      | refine AWP_seq ?_)
    simp [readR, h1, hfd, hi]

def oldR (d : Disk) (s : List UInt8) : File := match findR d.files s 0 with
  | none => ⟨s, [], []⟩
  | some i => d.files[i]?.getD ⟨s, [], []⟩
set_option maxHeartbeats 1000000 in
theorem pc40 (d : Disk) (s : List UInt8) : PC Tryd.prog 40 [encD d, .str s] (fun r => r = encF (oldR d s)) := by
  refine PC_body tOk Tryd.func40 rfl Tryd.results40 rfl (by simp [Tryd.ntmps40]) ?_
  rw [Tryd.ntmps40]
  simp only [argSlots]
  simp only [encD]
  repeat (first
    | (refine AWP_seq (AWP_regS tOk rfl ?_); simp)
    | (refine AWP_regS tOk rfl ?_; simp)
    | (refine AWP_skip ?_; simp)
    | (refine AWP_exit ?_; simp)
    | (refine AWP_ret ?_; simp)
    | refine AWP_block ?_
    | refine AWP_seq ?_)
  refine AStep_PC rfl rfl (by simp) (pc24 d s) rfl ?_
  rintro _ rfl
  simp
  have hf := findR_drop d.files s 0
  generalize hfd : findR d.files s 0 = fr at hf
  rcases fr with _ | i
  · simp only [findAV]
    repeat (first
      | (refine AWP_seq (AWP_regS tOk rfl ?_); simp)
      | (refine AWP_regS tOk rfl ?_; simp)
      | (refine AWP_skip ?_; simp)
      | (refine AWP_exit ?_; simp)
      | (refine AWP_ret ?_; simp)
      | refine AWP_block ?_
      | refine AWP_seq ?_)
    refine AWP_cond rfl ?_
    repeat (first
      | (refine AWP_seq (AWP_regS tOk rfl ?_); simp)
      | (refine AWP_regS tOk rfl ?_; simp)
      | (refine AWP_skip ?_; simp)
      | (refine AWP_exit ?_; simp)
      | (refine AWP_ret ?_; simp)
      | refine AWP_block ?_
      | refine AWP_seq ?_)
    simp [oldR, hfd]
  · have hi : i < d.files.length := by have := (hf i rfl).2; omega
    simp only [findAV]
    repeat (first
      | (refine AWP_seq (AWP_regS tOk rfl ?_); simp)
      | (refine AWP_regS tOk rfl ?_; simp)
      | (refine AWP_skip ?_; simp)
      | (refine AWP_exit ?_; simp)
      | (refine AWP_ret ?_; simp)
      | refine AWP_block ?_
      | refine AWP_seq ?_)
    refine AWP_cond rfl ?_
    repeat (first
      | (refine AWP_seq (AWP_regS tOk rfl ?_); simp [hi])
      | (refine AWP_regS tOk rfl ?_; simp [hi])
      | (refine AWP_skip ?_; simp [hi])
      | (refine AWP_exit ?_; simp [hi])
      | (refine AWP_ret ?_; simp [hi])
      | refine AWP_block ?_
      | refine AWP_seq ?_)
    simp [oldR, hfd, hi]

def zeroD : Disk := ⟨[], 0⟩
def fitR (d : Disk) : Disk × Int := if (256 : Int) < d.files.length then (zeroD, 5) else if overB d = true then (zeroD, 27) else (d, 0)
set_option maxHeartbeats 1000000 in
theorem pc41 (d : Disk) : PC Tryd.prog 41 [encD d] (fun r => r = .tup [encD (fitR d).1, .i (fitR d).2]) := by
  refine PC_body tOk Tryd.func41 rfl Tryd.results41 rfl (by simp [Tryd.ntmps41]) ?_
  rw [Tryd.ntmps41]
  simp only [argSlots]
  simp only [encD]
  repeat (first
    | (refine AWP_seq (AWP_regS tOk rfl ?_); simp)
    | (refine AWP_regS tOk rfl ?_; simp)
    | (refine AWP_skip ?_; simp)
    | (refine AWP_exit ?_; simp)
    | (refine AWP_ret ?_; simp)
    | refine AWP_block ?_
    | refine AWP_seq ?_)
  refine AWP_cond2 rfl (fun h => ?_) (fun h1 => ?_)
  · repeat (first
      | (refine AWP_seq (AWP_regS tOk rfl ?_); simp)
      | (refine AWP_regS tOk rfl ?_; simp)
      | (refine AWP_skip ?_; simp)
      | (refine AWP_exit ?_; simp)
      | (refine AWP_ret ?_; simp)
      | refine AWP_block ?_
      | refine AWP_seq ?_)
    simp at h
    simp [fitR, h, zeroD]
  simp at h1
  repeat (first
    | (refine AWP_seq (AWP_regS tOk rfl ?_); simp)
    | (refine AWP_regS tOk rfl ?_; simp)
    | (refine AWP_skip ?_; simp)
    | (refine AWP_exit ?_; simp)
    | (refine AWP_ret ?_; simp)
    | refine AWP_block ?_
    | refine AWP_seq ?_)
  refine AStep_PC rfl rfl (by simp) (pc35 _) rfl ?_
  rintro _ rfl
  simp
  repeat (first
    | (refine AWP_seq (AWP_regS tOk rfl ?_); simp)
    | (refine AWP_regS tOk rfl ?_; simp)
    | (refine AWP_skip ?_; simp)
    | (refine AWP_exit ?_; simp)
    | (refine AWP_ret ?_; simp)
    | refine AWP_block ?_
    | refine AWP_seq ?_)
  refine AWP_cond2 rfl (fun h => ?_) (fun h2 => ?_)
  · repeat (first
      | (refine AWP_seq (AWP_regS tOk rfl ?_); simp)
      | (refine AWP_regS tOk rfl ?_; simp)
      | (refine AWP_skip ?_; simp)
      | (refine AWP_exit ?_; simp)
      | (refine AWP_ret ?_; simp)
      | refine AWP_block ?_
      | refine AWP_seq ?_)
    rw [fitR, if_neg (by omega), if_pos (show overB d = true from h)]
    simp [zeroD]
  · repeat (first
      | (refine AWP_seq (AWP_regS tOk rfl ?_); simp)
      | (refine AWP_regS tOk rfl ?_; simp)
      | (refine AWP_skip ?_; simp)
      | (refine AWP_exit ?_; simp)
      | (refine AWP_ret ?_; simp)
      | refine AWP_block ?_
      | refine AWP_seq ?_)
    rw [fitR, if_neg (by omega), if_neg (show ¬ overB d = true by rw [overB, h2]; simp)]
    simp
end Go.Abs
set_option maxRecDepth 100000
namespace Go.Abs
open Go Go.Proofs
set_option linter.unusedSimpArgs false

/-- ref.without -/
def withoutR (d : Disk) (s : List UInt8) : Disk := ⟨d.files.filter (fun f => f.name != s), d.space⟩
theorem filter_take_succ {α : Type} (l : List α) (p : α → Bool) (j : Nat) (h : j < l.length) : (l.take (j + 1)).filter p = (l.take j).filter p ++ (if p l[j] = true then [l[j]] else []) := by
  rw [List.take_succ_eq_append_getElem h, List.filter_append]; simp [List.filter_cons]
set_option maxHeartbeats 1000000 in
theorem pc58 (d : Disk) (s : List UInt8) (hb : d.files.length ≤ 1000000) : PC Tryd.prog 58 [encD d, .str s] (fun r => r = encD (withoutR d s)) := by
  refine PC_body tOk Tryd.func58 rfl Tryd.results58 rfl (by simp [Tryd.ntmps58]) ?_
  rw [Tryd.ntmps58]
  simp only [argSlots]
  simp only [encD]
  repeat (first
    | (refine AWP_seq (AWP_regS tOk rfl ?_); simp)
    | (refine AWP_regS tOk rfl ?_; simp)
    | (refine AWP_skip ?_; simp)
    | (refine AWP_exit ?_; simp)
    | (refine AWP_ret ?_; simp)
    | refine AWP_block ?_
    | refine AWP_seq ?_)
  refine AWP_nilOwn 2 0 52 3 rfl rfl ?_
  simp
  refine AWP_count d.files.length (fun j => [(1, .str s), (2, .vptr 0 0), (4, .vptr 1 0), (5, .vptr 2 0), (6, .i j)]) (fun j => [.vars [.list (d.files.map encF), .i d.space], .vars [.nils, .i 0], .vars [.sl 3 3 0 ((d.files.take j).filter (fun f => f.name != s)).length, .i d.space], .arr 52 3 (((d.files.take j).filter (fun f => f.name != s)).map encF)]) rfl (by simp) (by simp) (by simp) (by simp) ?_
  intro j hj ih
  have hfl : ((d.files.take j).filter (fun f => f.name != s)).length ≤ j := by
    have := List.length_filter_le (fun f : File => f.name != s) (d.files.take j)
    rw [List.length_take] at this; omega
  repeat (first
    | (refine AWP_seq (AWP_regS tOk rfl ?_); simp)
    | (refine AWP_regS tOk rfl ?_; simp)
    | (refine AWP_skip ?_; simp)
    | (refine AWP_exit ?_; simp)
    | (refine AWP_ret ?_; simp)
    | refine AWP_block ?_
    | refine AWP_seq ?_)
  refine AWP_cond2 rfl (fun hlt => ?_) (fun hge => ?_)
  · have hlt' : j < d.files.length := by simpa using hlt
    have hfs := filter_take_succ d.files (fun f => f.name != s) j hlt'
    repeat (first
      | (refine AWP_seq (AWP_regS tOk rfl ?_); simp [hlt'])
      | (refine AWP_regS tOk rfl ?_; simp [hlt'])
      | (refine AWP_skip ?_; simp [hlt'])
      | (refine AWP_exit ?_; simp [hlt'])
      | (refine AWP_ret ?_; simp [hlt'])
      | refine AWP_block ?_
      | refine AWP_seq ?_)
    refine AWP_cond2 rfl (fun h => ?_) (fun h => ?_)
    · refine AWP_draw tOk mixed [8, 10] [0, 1, 2, 3, 4, 5, 6, 7, 8, 9, 10] rfl (by kernel_rfl) ?_
      simp [hlt']
      refine AStep_appendS tOk rfl rfl T22 rfl T52 rfl (by decide) (by decide) rfl rfl rfl ?_
      simp
      refine ⟨by simp [appOk]; omega, ?_⟩
      repeat (first
        | (refine AWP_seq (AWP_regS tOk rfl ?_); simp)
        | (refine AWP_regS tOk rfl ?_; simp)
        | (refine AWP_skip ?_; simp)
        | (refine AWP_exit ?_; simp)
        | (refine AWP_ret ?_; simp)
        | refine AWP_block ?_
        | refine AWP_seq ?_)
      have h' : (d.files[j].name != s) = true := h
      rw [if_pos h'] at hfs
      refine ALoop_ren [0, 1, 2, 5] (ih hlt') (by rw [hfs]; simp) (by decide) (by simp) (by simp) (by simp) (by simp) ?_
      simp
      exact wrap_i64 _ (by omega) (by omega)
    · repeat (first
        | (refine AWP_seq (AWP_regS tOk rfl ?_); simp)
        | (refine AWP_regS tOk rfl ?_; simp)
        | (refine AWP_skip ?_; simp)
        | (refine AWP_exit ?_; simp)
        | (refine AWP_ret ?_; simp)
        | refine AWP_block ?_
        | refine AWP_seq ?_)
      have h' : (d.files[j].name != s) = false := h
      rw [if_neg (by rw [h']; simp), List.append_nil] at hfs
      refine ALoop_end [] (ih hlt') (by rw [hfs]; simp) (by simp) ?_ (by simp) (by simp)
      simp
      exact wrap_i64 _ (by omega) (by omega)
  · have hge' : j = d.files.length := by simp at hge; omega
    subst hge'
    repeat (first
      | (refine AWP_seq (AWP_regS tOk rfl ?_); simp)
      | (refine AWP_regS tOk rfl ?_; simp)
      | (refine AWP_skip ?_; simp)
      | (refine AWP_exit ?_; simp)
      | (refine AWP_ret ?_; simp)
      | refine AWP_block ?_
      | refine AWP_seq ?_)
    rw [List.take_of_length_le (by simp)]
    simp [withoutR]

def le2 (a b : List UInt8) : Bool := strLe a b
/-- ref.Put: the rounds -/
def putStep (f : File) (st : Bool × List File) (g : File) : Bool × List File :=
  let st1 := if (!st.1 && strLe f.name g.name) = true then (true, st.2 ++ [f]) else st
  if (g.name != f.name) = true then (st1.1, st1.2 ++ [g]) else st1
def putFold (f : File) (fs : List File) : Bool × List File := fs.foldl (putStep f) (false, [])
def putR (d : Disk) (f : File) : Disk := ⟨if (putFold f d.files).1 = true then (putFold f d.files).2 else (putFold f d.files).2 ++ [f], d.space⟩
theorem putFold_len (f : File) (fs : List File) : (putFold f fs).2.length ≤ 2 * fs.length := by
  have key : ∀ (l : List File) (st : Bool × List File), (l.foldl (putStep f) st).2.length ≤ st.2.length + 2 * l.length := by
    intro l
    induction l with
    | nil => intro st; simp
    | cons g l ih =>
      intro st
      rw [List.foldl_cons]
      have h1 := ih (putStep f st g)
      have h2 : (putStep f st g).2.length ≤ st.2.length + 2 := by
        unfold putStep
        split <;> split <;> simp
      simp; omega
  have := key fs (false, [])
  simpa [putFold] using this
theorem putFold_succ (f : File) (fs : List File) (j : Nat) (h : j < fs.length) : putFold f (fs.take (j + 1)) = putStep f (putFold f (fs.take j)) fs[j] := by
  rw [putFold, List.take_succ_eq_append_getElem h, List.foldl_append]; rfl
set_option maxHeartbeats 1000000 in
theorem pc42 (d : Disk) (f : File) (hb : d.files.length ≤ 1000000) : PC Tryd.prog 42 [encD d, encF f] (fun r => r = encD (putR d f)) := by
  refine PC_body tOk Tryd.func42 rfl Tryd.results42 rfl (by simp [Tryd.ntmps42]) ?_
  rw [Tryd.ntmps42]
  simp only [argSlots]
  simp only [encD, encF]
  repeat (first
    | (refine AWP_seq (AWP_regS tOk rfl ?_); simp)
    | (refine AWP_regS tOk rfl ?_; simp)
    | (refine AWP_skip ?_; simp)
    | (refine AWP_exit ?_; simp)
    | (refine AWP_ret ?_; simp)
    | refine AWP_block ?_
    | refine AWP_seq ?_)
  refine AWP_nilOwn 3 0 52 3 rfl rfl ?_
  simp
  refine AWP_count d.files.length (fun j => [(2, .vptr 0 0), (3, .vptr 1 0), (4, .vptr 2 0), (5, .vptr 3 0), (6, .bool (putFold f (d.files.take j)).1), (7, .i j)]) (fun j => [.vars [.list (d.files.map encF), .i d.space], .vars [.str f.name, .str f.dur, .str f.vol], .vars [.nils, .i 0], .vars [.sl 4 3 0 (putFold f (d.files.take j)).2.length, .i d.space], .arr 52 3 ((putFold f (d.files.take j)).2.map encF)]) rfl (by simp) (by simp [putFold]) (by simp) (by simp) ?_
  intro j hj ih
  have hfl := putFold_len f (d.files.take j)
  rw [List.length_take] at hfl
  repeat (first
    | (refine AWP_seq (AWP_regS tOk rfl ?_); simp)
    | (refine AWP_regS tOk rfl ?_; simp)
    | (refine AWP_skip ?_; simp)
    | (refine AWP_exit ?_; simp)
    | (refine AWP_ret ?_; simp)
    | refine AWP_block ?_
    | refine AWP_seq ?_)
  refine AWP_cond2 rfl (fun hlt => ?_) (fun hge => ?_)
  · have hlt' : j < d.files.length := by simpa using hlt
    have hfs := putFold_succ f d.files j hlt'
    generalize hst : putFold f (d.files.take j) = st at hfs hfl
    obtain ⟨done, out⟩ := st
    simp only at hfl
    repeat (first
      | (refine AWP_seq (AWP_regS tOk rfl ?_); simp [hlt'])
      | (refine AWP_regS tOk rfl ?_; simp [hlt'])
      | (refine AWP_skip ?_; simp [hlt'])
      | (refine AWP_exit ?_; simp [hlt'])
      | (refine AWP_ret ?_; simp [hlt'])
      | refine AWP_block ?_
      | refine AWP_seq ?_)
    refine AWP_draw tOk mixed [] [0, 1, 2, 3, 4, 5, 6, 7, 8, 9, 10, 11, 12] rfl (by kernel_rfl) ?_
    simp [hlt']
    refine AWP_cond2 rfl (fun h => ?_) (fun h => ?_)
    · repeat (first
        | (refine AWP_seq (AWP_regS tOk rfl ?_); simp)
        | (refine AWP_regS tOk rfl ?_; simp)
        | (refine AWP_skip ?_; simp)
        | (refine AWP_exit ?_; simp)
        | (refine AWP_ret ?_; simp)
        | refine AWP_block ?_
        | refine AWP_seq ?_)
      refine AStep_appendS tOk rfl rfl T22 rfl T52 rfl (by decide) (by decide) rfl rfl rfl ?_
      simp
      refine ⟨by simp [appOk]; omega, ?_⟩
      repeat (first
        | (refine AWP_seq (AWP_regS tOk rfl ?_); simp)
        | (refine AWP_regS tOk rfl ?_; simp)
        | (refine AWP_skip ?_; simp)
        | (refine AWP_exit ?_; simp)
        | (refine AWP_ret ?_; simp)
        | refine AWP_block ?_
        | refine AWP_seq ?_)
      refine AWP_draw tOk mixed [] [0, 1, 2, 3, 4, 5, 6, 7, 8] rfl (by kernel_rfl) ?_
      simp [hlt']
      refine AWP_cond2 rfl (fun h2 => ?_) (fun h2 => ?_)
      · have hn : putFold f (List.take (j + 1) d.files) = (true, out ++ [f] ++ [d.files[j]]) := by
          rw [hfs]; simp only [putStep]; rw [if_pos (show (!done && strLe f.name d.files[j].name) = true from h), if_pos (show (d.files[j].name != f.name) = true from h2)]
        refine AWP_draw tOk mixed [8, 10] [0, 1, 2, 3, 4, 5, 6, 7, 8, 9, 10] rfl (by kernel_rfl) ?_
        simp [hlt']
        refine AStep_appendS tOk rfl rfl T22 rfl T52 rfl (by decide) (by decide) rfl rfl rfl ?_
        simp
        refine ⟨by simp [appOk]; omega, ?_⟩
        repeat (first
          | (refine AWP_seq (AWP_regS tOk rfl ?_); simp)
          | (refine AWP_regS tOk rfl ?_; simp)
          | (refine AWP_skip ?_; simp)
          | (refine AWP_exit ?_; simp)
          | (refine AWP_ret ?_; simp)
          | refine AWP_block ?_
          | refine AWP_seq ?_)
        refine ALoop_ren [0, 1, 2, 3, 8] (ih hlt') (by rw [hn]; simp) (by decide) (by simp) (by simp) (by simp) (by simp) ?_
        simp [hn]
        exact wrap_i64 _ (by omega) (by omega)
      · have hn : putFold f (List.take (j + 1) d.files) = (true, out ++ [f]) := by
          rw [hfs]; simp only [putStep]; rw [if_pos (show (!done && strLe f.name d.files[j].name) = true from h), if_neg (show ¬ (d.files[j].name != f.name) = true from by rw [show (d.files[j].name != f.name) = false from h2]; simp)]
        repeat (first
          | (refine AWP_seq (AWP_regS tOk rfl ?_); simp)
          | (refine AWP_regS tOk rfl ?_; simp)
          | (refine AWP_skip ?_; simp)
          | (refine AWP_exit ?_; simp)
          | (refine AWP_ret ?_; simp)
          | refine AWP_block ?_
          | refine AWP_seq ?_)
        refine ALoop_ren [0, 1, 2, 3, 6] (ih hlt') (by rw [hn]; simp) (by decide) (by simp) (by simp) (by simp) (by simp) ?_
        simp [hn]
        exact wrap_i64 _ (by omega) (by omega)
    · repeat (first
        | (refine AWP_seq (AWP_regS tOk rfl ?_); simp)
        | (refine AWP_regS tOk rfl ?_; simp)
        | (refine AWP_skip ?_; simp)
        | (refine AWP_exit ?_; simp)
        | (refine AWP_ret ?_; simp)
        | refine AWP_block ?_
        | refine AWP_seq ?_)
      replace h : ¬ (!done && strLe f.name d.files[j].name) = true := by rw [show (!done && strLe f.name d.files[j].name) = false from h]; simp
      refine AWP_draw tOk mixed [] [0, 1, 2, 3, 4, 5, 6, 7, 8] rfl (by kernel_rfl) ?_
      simp [hlt']
      refine AWP_cond2 rfl (fun h2 => ?_) (fun h2 => ?_)
      · have hn : putFold f (List.take (j + 1) d.files) = (done, out ++ [d.files[j]]) := by
          rw [hfs]; simp only [putStep]; rw [if_neg h, if_pos (show (d.files[j].name != f.name) = true from h2)]
        refine AWP_draw tOk mixed [8, 10] [0, 1, 2, 3, 4, 5, 6, 7, 8, 9, 10] rfl (by kernel_rfl) ?_
        simp [hlt']
        refine AStep_appendS tOk rfl rfl T22 rfl T52 rfl (by decide) (by decide) rfl rfl rfl ?_
        simp
        refine ⟨by simp [appOk]; omega, ?_⟩
        repeat (first
          | (refine AWP_seq (AWP_regS tOk rfl ?_); simp)
          | (refine AWP_regS tOk rfl ?_; simp)
          | (refine AWP_skip ?_; simp)
          | (refine AWP_exit ?_; simp)
          | (refine AWP_ret ?_; simp)
          | refine AWP_block ?_
          | refine AWP_seq ?_)
        refine ALoop_ren [0, 1, 2, 3, 6] (ih hlt') (by rw [hn]; simp) (by decide) (by simp) (by simp) (by simp) (by simp) ?_
        simp [hn]
        exact wrap_i64 _ (by omega) (by omega)
      · have hn : putFold f (List.take (j + 1) d.files) = (done, out) := by
          rw [hfs]; simp only [putStep]; rw [if_neg h, if_neg (show ¬ (d.files[j].name != f.name) = true from by rw [show (d.files[j].name != f.name) = false from h2]; simp)]
        repeat (first
          | (refine AWP_seq (AWP_regS tOk rfl ?_); simp)
          | (refine AWP_regS tOk rfl ?_; simp)
          | (refine AWP_skip ?_; simp)
          | (refine AWP_exit ?_; simp)
          | (refine AWP_ret ?_; simp)
          | refine AWP_block ?_
          | refine AWP_seq ?_)
        refine ALoop_ren [0, 1, 2, 3, 4] (ih hlt') (by rw [hn]; simp) (by decide) (by simp) (by simp) (by simp) (by simp) ?_
        simp [hn]
        exact wrap_i64 _ (by omega) (by omega)
  · have hge' : j = d.files.length := by simp at hge; omega
    subst hge'
    rw [List.take_length] at hfl ⊢
    repeat (first
      | (refine AWP_seq (AWP_regS tOk rfl ?_); simp)
      | (refine AWP_regS tOk rfl ?_; simp)
      | (refine AWP_skip ?_; simp)
      | (refine AWP_exit ?_; simp)
      | (refine AWP_ret ?_; simp)
      | refine AWP_block ?_
      | refine AWP_seq ?_)
    refine AWP_cond2 rfl (fun h => ?_) (fun h => ?_)
    · repeat (first
        | (refine AWP_seq (AWP_regS tOk rfl ?_); simp)
        | (refine AWP_regS tOk rfl ?_; simp)
        | (refine AWP_skip ?_; simp)
        | (refine AWP_exit ?_; simp)
        | (refine AWP_ret ?_; simp)
        | refine AWP_block ?_
        | refine AWP_seq ?_)
      refine AStep_appendS tOk rfl rfl T22 rfl T52 rfl (by decide) (by decide) rfl rfl rfl ?_
      simp
      refine ⟨by simp [appOk]; omega, ?_⟩
      repeat (first
        | (refine AWP_seq (AWP_regS tOk rfl ?_); simp)
        | (refine AWP_regS tOk rfl ?_; simp)
        | (refine AWP_skip ?_; simp)
        | (refine AWP_exit ?_; simp)
        | (refine AWP_ret ?_; simp)
        | refine AWP_block ?_
        | refine AWP_seq ?_)
      simp at h
      rw [List.take_of_length_le (by simp)]
      simp [putR, h]
    · repeat (first
        | (refine AWP_seq (AWP_regS tOk rfl ?_); simp)
        | (refine AWP_regS tOk rfl ?_; simp)
        | (refine AWP_skip ?_; simp)
        | (refine AWP_exit ?_; simp)
        | (refine AWP_ret ?_; simp)
        | refine AWP_block ?_
        | refine AWP_seq ?_)
      simp at h
      rw [List.take_of_length_le (by simp)]
      simp [putR, h]
end Go.Abs
set_option maxRecDepth 100000
namespace Go.Abs
open Go Go.Proofs
set_option linter.unusedSimpArgs false

theorem checkR_len {d : Disk} (h : checkR d = 0) : d.files.length ≤ 256 := by
  unfold checkR at h
  split at h
  · cases h
  · split at h
    · cases h
    · omega
theorem namedR_check {d : Disk} {s : List UInt8} (h : namedR d s = 0) : checkR d = 0 := by
  unfold namedR at h
  split at h
  · assumption
  · exact h
theorem findR_lt {fs : List File} {s : List UInt8} {i : Nat} (h : findR fs s 0 = some i) : i < fs.length := by have := (findR_drop fs s 0 i h).2; omega

def writeR (d : Disk) (s b : List UInt8) : Disk × Int := if namedR d s = 0 then fitR (putR d { oldR d s with vol := b }) else (zeroD, namedR d s)
set_option maxHeartbeats 1000000 in
theorem pc14 (d : Disk) (hnb : NB d.files) (s b : List UInt8) (hs : s.length ≤ 9223372036854775807) : PC Tryd.prog 14 [encD d, .str s, .str b] (fun r => r = .tup [encD (writeR d s b).1, .i (writeR d s b).2]) := by
  refine PC_body tOk Tryd.func14 rfl Tryd.results14 rfl (by simp [Tryd.ntmps14]) ?_
  rw [Tryd.ntmps14]
  simp only [argSlots]
  simp only [encD]
  repeat (first
    | (refine AWP_seq (AWP_regS tOk rfl ?_); simp)
    | (refine AWP_regS tOk rfl ?_; simp)
    | (refine AWP_skip ?_; simp)
    | (refine AWP_exit ?_; simp)
    | (refine AWP_ret ?_; simp)
    | refine AWP_block ?_
    | refine AWP_seq ?_)
  refine AStep_PC rfl rfl (by simp) (pc39 d hnb s hs) rfl ?_
  rintro _ rfl
  simp
  repeat (first
    | (refine AWP_seq (AWP_regS tOk rfl ?_); simp)
    | (refine AWP_regS tOk rfl ?_; simp)
    | (refine AWP_skip ?_; simp)
    | (refine AWP_exit ?_; simp)
    | (refine AWP_ret ?_; simp)
    | refine AWP_block ?_
    | refine AWP_seq ?_)
  refine AWP_cond2 rfl (fun h => ?_) (fun h1 => ?_)
  · repeat (first
      | (refine AWP_seq (AWP_regS tOk rfl ?_); simp)
      | (refine AWP_regS tOk rfl ?_; simp)
      | (refine AWP_skip ?_; simp)
      | (refine AWP_exit ?_; simp)
      | (refine AWP_ret ?_; simp)
      | refine AWP_block ?_
      | refine AWP_seq ?_)
    simp at h
    simp [writeR, h, zeroD]
  simp at h1
  have hl := checkR_len (namedR_check h1)
  repeat (first
    | (refine AWP_seq (AWP_regS tOk rfl ?_); simp)
    | (refine AWP_regS tOk rfl ?_; simp)
    | (refine AWP_skip ?_; simp)
    | (refine AWP_exit ?_; simp)
    | (refine AWP_ret ?_; simp)
    | refine AWP_block ?_
    | refine AWP_seq ?_)
  refine AStep_PC rfl rfl (by simp) (pc40 d s) rfl ?_
  rintro _ rfl
  simp
  repeat (first
    | (refine AWP_seq (AWP_regS tOk rfl ?_); simp)
    | (refine AWP_regS tOk rfl ?_; simp)
    | (refine AWP_skip ?_; simp)
    | (refine AWP_exit ?_; simp)
    | (refine AWP_ret ?_; simp)
    | refine AWP_block ?_
    | refine AWP_seq ?_)
  refine AStep_PC rfl rfl (by simp) (pc42 d { oldR d s with vol := b } (by omega)) rfl ?_
  rintro _ rfl
  simp
  refine AStep_PC rfl rfl (by simp) (pc41 (putR d { oldR d s with vol := b })) rfl ?_
  rintro _ rfl
  simp
  repeat (first
    | (refine AWP_seq (AWP_regS tOk rfl ?_); simp)
    | (refine AWP_regS tOk rfl ?_; simp)
    | (refine AWP_skip ?_; simp)
    | (refine AWP_exit ?_; simp)
    | (refine AWP_ret ?_; simp)
    | refine AWP_block ?_
    | refine AWP_seq ?_)
  simp [writeR, h1]

def appendR (d : Disk) (s b : List UInt8) : Disk × Int := if namedR d s = 0 then fitR (putR d { oldR d s with vol := (oldR d s).vol ++ b }) else (zeroD, namedR d s)
set_option maxHeartbeats 1000000 in
theorem pc16 (d : Disk) (hnb : NB d.files) (s b : List UInt8) (hs : s.length ≤ 9223372036854775807) (hv : (oldR d s).vol.length + b.length ≤ 9223372036854775807) : PC Tryd.prog 16 [encD d, .str s, .str b] (fun r => r = .tup [encD (appendR d s b).1, .i (appendR d s b).2]) := by
  refine PC_body tOk Tryd.func16 rfl Tryd.results16 rfl (by simp [Tryd.ntmps16]) ?_
  rw [Tryd.ntmps16]
  simp only [argSlots]
  simp only [encD]
  repeat (first
    | (refine AWP_seq (AWP_regS tOk rfl ?_); simp)
    | (refine AWP_regS tOk rfl ?_; simp)
    | (refine AWP_skip ?_; simp)
    | (refine AWP_exit ?_; simp)
    | (refine AWP_ret ?_; simp)
    | refine AWP_block ?_
    | refine AWP_seq ?_)
  refine AStep_PC rfl rfl (by simp) (pc39 d hnb s hs) rfl ?_
  rintro _ rfl
  simp
  repeat (first
    | (refine AWP_seq (AWP_regS tOk rfl ?_); simp)
    | (refine AWP_regS tOk rfl ?_; simp)
    | (refine AWP_skip ?_; simp)
    | (refine AWP_exit ?_; simp)
    | (refine AWP_ret ?_; simp)
    | refine AWP_block ?_
    | refine AWP_seq ?_)
  refine AWP_cond2 rfl (fun h => ?_) (fun h1 => ?_)
  · repeat (first
      | (refine AWP_seq (AWP_regS tOk rfl ?_); simp)
      | (refine AWP_regS tOk rfl ?_; simp)
      | (refine AWP_skip ?_; simp)
      | (refine AWP_exit ?_; simp)
      | (refine AWP_ret ?_; simp)
      | refine AWP_block ?_
      | refine AWP_seq ?_)
    simp at h
    simp [appendR, h, zeroD]
  simp at h1
  have hl := checkR_len (namedR_check h1)
  repeat (first
    | (refine AWP_seq (AWP_regS tOk rfl ?_); simp)
    | (refine AWP_regS tOk rfl ?_; simp)
    | (refine AWP_skip ?_; simp)
    | (refine AWP_exit ?_; simp)
    | (refine AWP_ret ?_; simp)
    | refine AWP_block ?_
    | refine AWP_seq ?_)
  refine AStep_PC rfl rfl (by simp) (pc40 d s) rfl ?_
  rintro _ rfl
  simp
  repeat (first
    | (refine AWP_seq (AWP_regS tOk rfl ?_); simp [hv])
    | (refine AWP_regS tOk rfl ?_; simp [hv])
    | (refine AWP_skip ?_; simp [hv])
    | (refine AWP_exit ?_; simp [hv])
    | (refine AWP_ret ?_; simp [hv])
    | refine AWP_block ?_
    | refine AWP_seq ?_)
  refine AStep_PC rfl rfl (by simp) (pc42 d { oldR d s with vol := (oldR d s).vol ++ b } (by omega)) rfl ?_
  rintro _ rfl
  simp
  refine AStep_PC rfl rfl (by simp) (pc41 (putR d { oldR d s with vol := (oldR d s).vol ++ b })) rfl ?_
  rintro _ rfl
  simp
  repeat (first
    | (refine AWP_seq (AWP_regS tOk rfl ?_); simp)
    | (refine AWP_regS tOk rfl ?_; simp)
    | (refine AWP_skip ?_; simp)
    | (refine AWP_exit ?_; simp)
    | (refine AWP_ret ?_; simp)
    | refine AWP_block ?_
    | refine AWP_seq ?_)
  simp [appendR, h1]

def syncR (d : Disk) (s : List UInt8) : Disk × Int := if namedR d s = 0 then (match findR d.files s 0 with
  | none => (zeroD, 6)
  | some i => fitR (putR d { d.files[i]! with dur := d.files[i]!.vol })) else (zeroD, namedR d s)
set_option maxHeartbeats 1000000 in
theorem pc31 (d : Disk) (hnb : NB d.files) (s : List UInt8) (hs : s.length ≤ 9223372036854775807) : PC Tryd.prog 31 [encD d, .str s] (fun r => r = .tup [encD (syncR d s).1, .i (syncR d s).2]) := by
  refine PC_body tOk Tryd.func31 rfl Tryd.results31 rfl (by simp [Tryd.ntmps31]) ?_
  rw [Tryd.ntmps31]
  simp only [argSlots]
  simp only [encD]
  repeat (first
    | (refine AWP_seq (AWP_regS tOk rfl ?_); simp)
    | (refine AWP_regS tOk rfl ?_; simp)
    | (refine AWP_skip ?_; simp)
    | (refine AWP_exit ?_; simp)
    | (refine AWP_ret ?_; simp)
    | refine AWP_block ?_
    | refine AWP_seq ?_)
  refine AStep_PC rfl rfl (by simp) (pc39 d hnb s hs) rfl ?_
  rintro _ rfl
  simp
  repeat (first
    | (refine AWP_seq (AWP_regS tOk rfl ?_); simp)
    | (refine AWP_regS tOk rfl ?_; simp)
    | (refine AWP_skip ?_; simp)
    | (refine AWP_exit ?_; simp)
    | (refine AWP_ret ?_; simp)
    | refine AWP_block ?_
    | refine AWP_seq ?_)
  refine AWP_cond2 rfl (fun h => ?_) (fun h1 => ?_)
  · repeat (first
      | (refine AWP_seq (AWP_regS tOk rfl ?_); simp)
      | (refine AWP_regS tOk rfl ?_; simp)
      | (refine AWP_skip ?_; simp)
      | (refine AWP_exit ?_; simp)
      | (refine AWP_ret ?_; simp)
      | refine AWP_block ?_
      | refine AWP_seq ?_)
    simp at h
    simp [syncR, h, zeroD]
  simp at h1
  have hl := checkR_len (namedR_check h1)
  repeat (first
    | (refine AWP_seq (AWP_regS tOk rfl ?_); simp)
    | (refine AWP_regS tOk rfl ?_; simp)
    | (refine AWP_skip ?_; simp)
    | (refine AWP_exit ?_; simp)
    | (refine AWP_ret ?_; simp)
    | refine AWP_block ?_
    | refine AWP_seq ?_)
  refine AStep_PC rfl rfl (by simp) (pc24 d s) rfl ?_
  rintro _ rfl
  simp
  rcases hfd : findR d.files s 0 with _ | i
  · simp only [findAV]
    repeat (first
      | (refine AWP_seq (AWP_regS tOk rfl ?_); simp)
      | (refine AWP_regS tOk rfl ?_; simp)
      | (refine AWP_skip ?_; simp)
      | (refine AWP_exit ?_; simp)
      | (refine AWP_ret ?_; simp)
      | refine AWP_block ?_
      | refine AWP_seq ?_)
    refine AWP_cond rfl ?_
    repeat (first
      | (refine AWP_seq (AWP_regS tOk rfl ?_); simp)
      | (refine AWP_regS tOk rfl ?_; simp)
      | (refine AWP_skip ?_; simp)
      | (refine AWP_exit ?_; simp)
      | (refine AWP_ret ?_; simp)
      | refine AWP_block ?_
      | refine AWP_seq ?_)
    simp [syncR, h1, hfd, zeroD]
  · have hi := findR_lt hfd
    simp only [findAV]
    repeat (first
      | (refine AWP_seq (AWP_regS tOk rfl ?_); simp)
      | (refine AWP_regS tOk rfl ?_; simp)
      | (refine AWP_skip ?_; simp)
      | (refine AWP_exit ?_; simp)
      | (refine AWP_ret ?_; simp)
      | refine AWP_block ?_
      | refine AWP_seq ?_)
    refine AWP_cond rfl ?_
    repeat (first
      | (refine AWP_seq (AWP_regS tOk rfl ?_); simp [hi])
      | (refine AWP_regS tOk rfl ?_; simp [hi])
      | (refine AWP_skip ?_; simp [hi])
      | (refine AWP_exit ?_; simp [hi])
      | (refine AWP_ret ?_; simp [hi])
      | refine AWP_block ?_
      | refine AWP_seq ?_)
    refine AStep_PC rfl rfl (by simp) (pc42 d { d.files[i] with dur := d.files[i].vol } (by omega)) rfl ?_
    rintro _ rfl
    simp
    refine AStep_PC rfl rfl (by simp) (pc41 (putR d { d.files[i] with dur := d.files[i].vol })) rfl ?_
    rintro _ rfl
    simp
    repeat (first
      | (refine AWP_seq (AWP_regS tOk rfl ?_); simp)
      | (refine AWP_regS tOk rfl ?_; simp)
      | (refine AWP_skip ?_; simp)
      | (refine AWP_exit ?_; simp)
      | (refine AWP_ret ?_; simp)
      | refine AWP_block ?_
      | refine AWP_seq ?_)
    simp [syncR, h1, hfd, hi]

theorem withoutR_len (d : Disk) (s : List UInt8) : (withoutR d s).files.length ≤ d.files.length := List.length_filter_le _ _
def renameR (d : Disk) (s t : List UInt8) : Disk × Int := if namedR d s = 0 then (if nameOk t = true then (match findR d.files s 0 with
  | none => (zeroD, 6)
  | some i => (putR (withoutR d s) { d.files[i]! with name := t }, 0)) else (zeroD, 8)) else (zeroD, namedR d s)
set_option maxHeartbeats 1000000 in
theorem pc32 (d : Disk) (hnb : NB d.files) (s t : List UInt8) (hs : s.length ≤ 9223372036854775807) (ht : t.length ≤ 9223372036854775807) : PC Tryd.prog 32 [encD d, .str s, .str t] (fun r => r = .tup [encD (renameR d s t).1, .i (renameR d s t).2]) := by
  refine PC_body tOk Tryd.func32 rfl Tryd.results32 rfl (by simp [Tryd.ntmps32]) ?_
  rw [Tryd.ntmps32]
  simp only [argSlots]
  simp only [encD]
  repeat (first
    | (refine AWP_seq (AWP_regS tOk rfl ?_); simp)
    | (refine AWP_regS tOk rfl ?_; simp)
    | (refine AWP_skip ?_; simp)
    | (refine AWP_exit ?_; simp)
    | (refine AWP_ret ?_; simp)
    | refine AWP_block ?_
    | refine AWP_seq ?_)
  refine AStep_PC rfl rfl (by simp) (pc39 d hnb s hs) rfl ?_
  rintro _ rfl
  simp
  repeat (first
    | (refine AWP_seq (AWP_regS tOk rfl ?_); simp)
    | (refine AWP_regS tOk rfl ?_; simp)
    | (refine AWP_skip ?_; simp)
    | (refine AWP_exit ?_; simp)
    | (refine AWP_ret ?_; simp)
    | refine AWP_block ?_
    | refine AWP_seq ?_)
  refine AWP_cond2 rfl (fun h => ?_) (fun h1 => ?_)
  · repeat (first
      | (refine AWP_seq (AWP_regS tOk rfl ?_); simp)
      | (refine AWP_regS tOk rfl ?_; simp)
      | (refine AWP_skip ?_; simp)
      | (refine AWP_exit ?_; simp)
      | (refine AWP_ret ?_; simp)
      | refine AWP_block ?_
      | refine AWP_seq ?_)
    simp at h
    simp [renameR, h, zeroD]
  simp at h1
  have hl := checkR_len (namedR_check h1)
  repeat (first
    | (refine AWP_seq (AWP_regS tOk rfl ?_); simp)
    | (refine AWP_regS tOk rfl ?_; simp)
    | (refine AWP_skip ?_; simp)
    | (refine AWP_exit ?_; simp)
    | (refine AWP_ret ?_; simp)
    | refine AWP_block ?_
    | refine AWP_seq ?_)
  refine AStep_PC rfl rfl (by simp) (pc54 t ht) rfl ?_
  rintro _ rfl
  simp
  refine AWP_cond2 rfl (fun h => ?_) (fun h2 => ?_)
  · repeat (first
      | (refine AWP_seq (AWP_regS tOk rfl ?_); simp)
      | (refine AWP_regS tOk rfl ?_; simp)
      | (refine AWP_skip ?_; simp)
      | (refine AWP_exit ?_; simp)
      | (refine AWP_ret ?_; simp)
      | refine AWP_block ?_
      | refine AWP_seq ?_)
    simp at h
    simp [renameR, h1, h, zeroD]
  simp at h2
  repeat (first
    | (refine AWP_seq (AWP_regS tOk rfl ?_); simp)
    | (refine AWP_regS tOk rfl ?_; simp)
    | (refine AWP_skip ?_; simp)
    | (refine AWP_exit ?_; simp)
    | (refine AWP_ret ?_; simp)
    | refine AWP_block ?_
    | refine AWP_seq ?_)
  refine AStep_PC rfl rfl (by simp) (pc24 d s) rfl ?_
  rintro _ rfl
  simp
  rcases hfd : findR d.files s 0 with _ | i
  · simp only [findAV]
    repeat (first
      | (refine AWP_seq (AWP_regS tOk rfl ?_); simp)
      | (refine AWP_regS tOk rfl ?_; simp)
      | (refine AWP_skip ?_; simp)
      | (refine AWP_exit ?_; simp)
      | (refine AWP_ret ?_; simp)
      | refine AWP_block ?_
      | refine AWP_seq ?_)
    refine AWP_cond rfl ?_
    repeat (first
      | (refine AWP_seq (AWP_regS tOk rfl ?_); simp)
      | (refine AWP_regS tOk rfl ?_; simp)
      | (refine AWP_skip ?_; simp)
      | (refine AWP_exit ?_; simp)
      | (refine AWP_ret ?_; simp)
      | refine AWP_block ?_
      | refine AWP_seq ?_)
    simp [renameR, h1, h2, hfd, zeroD]
  · have hi := findR_lt hfd
    have hw := withoutR_len d s
    simp only [findAV]
    repeat (first
      | (refine AWP_seq (AWP_regS tOk rfl ?_); simp)
      | (refine AWP_regS tOk rfl ?_; simp)
      | (refine AWP_skip ?_; simp)
      | (refine AWP_exit ?_; simp)
      | (refine AWP_ret ?_; simp)
      | refine AWP_block ?_
      | refine AWP_seq ?_)
    refine AWP_cond rfl ?_
    repeat (first
      | (refine AWP_seq (AWP_regS tOk rfl ?_); simp [hi])
      | (refine AWP_regS tOk rfl ?_; simp [hi])
      | (refine AWP_skip ?_; simp [hi])
      | (refine AWP_exit ?_; simp [hi])
      | (refine AWP_ret ?_; simp [hi])
      | refine AWP_block ?_
      | refine AWP_seq ?_)
    refine AWP_draw tOk mixed [5] [0, 1, 3, 2, 4, 5, 6] rfl (by kernel_rfl) ?_
    simp [hi]
    refine AStep_PC rfl rfl (by simp) (pc58 d s (by omega)) rfl ?_
    rintro _ rfl
    simp
    refine AStep_PC rfl rfl (by simp) (pc42 (withoutR d s) { d.files[i] with name := t } (by omega)) rfl ?_
    rintro _ rfl
    simp
    repeat (first
      | (refine AWP_seq (AWP_regS tOk rfl ?_); simp)
      | (refine AWP_regS tOk rfl ?_; simp)
      | (refine AWP_skip ?_; simp)
      | (refine AWP_exit ?_; simp)
      | (refine AWP_ret ?_; simp)
      | refine AWP_block ?_
      | refine AWP_seq ?_)
    simp [renameR, h1, h2, hfd, hi]

def removeR (d : Disk) (s : List UInt8) : Disk × Int := if namedR d s = 0 then (match findR d.files s 0 with
  | none => (zeroD, 6)
  | some _ => (withoutR d s, 0)) else (zeroD, namedR d s)
set_option maxHeartbeats 1000000 in
theorem pc34 (d : Disk) (hnb : NB d.files) (s : List UInt8) (hs : s.length ≤ 9223372036854775807) : PC Tryd.prog 34 [encD d, .str s] (fun r => r = .tup [encD (removeR d s).1, .i (removeR d s).2]) := by
  refine PC_body tOk Tryd.func34 rfl Tryd.results34 rfl (by simp [Tryd.ntmps34]) ?_
  rw [Tryd.ntmps34]
  simp only [argSlots]
  simp only [encD]
  repeat (first
    | (refine AWP_seq (AWP_regS tOk rfl ?_); simp)
    | (refine AWP_regS tOk rfl ?_; simp)
    | (refine AWP_skip ?_; simp)
    | (refine AWP_exit ?_; simp)
    | (refine AWP_ret ?_; simp)
    | refine AWP_block ?_
    | refine AWP_seq ?_)
  refine AStep_PC rfl rfl (by simp) (pc39 d hnb s hs) rfl ?_
  rintro _ rfl
  simp
  repeat (first
    | (refine AWP_seq (AWP_regS tOk rfl ?_); simp)
    | (refine AWP_regS tOk rfl ?_; simp)
    | (refine AWP_skip ?_; simp)
    | (refine AWP_exit ?_; simp)
    | (refine AWP_ret ?_; simp)
    | refine AWP_block ?_
    | refine AWP_seq ?_)
  refine AWP_cond2 rfl (fun h => ?_) (fun h1 => ?_)
  · repeat (first
      | (refine AWP_seq (AWP_regS tOk rfl ?_); simp)
      | (refine AWP_regS tOk rfl ?_; simp)
      | (refine AWP_skip ?_; simp)
      | (refine AWP_exit ?_; simp)
      | (refine AWP_ret ?_; simp)
      | refine AWP_block ?_
      | refine AWP_seq ?_)
    simp at h
    simp [removeR, h, zeroD]
  simp at h1
  have hl := checkR_len (namedR_check h1)
  repeat (first
    | (refine AWP_seq (AWP_regS tOk rfl ?_); simp)
    | (refine AWP_regS tOk rfl ?_; simp)
    | (refine AWP_skip ?_; simp)
    | (refine AWP_exit ?_; simp)
    | (refine AWP_ret ?_; simp)
    | refine AWP_block ?_
    | refine AWP_seq ?_)
  refine AStep_PC rfl rfl (by simp) (pc24 d s) rfl ?_
  rintro _ rfl
  simp
  rcases hfd : findR d.files s 0 with _ | i
  · simp only [findAV]
    repeat (first
      | (refine AWP_seq (AWP_regS tOk rfl ?_); simp)
      | (refine AWP_regS tOk rfl ?_; simp)
      | (refine AWP_skip ?_; simp)
      | (refine AWP_exit ?_; simp)
      | (refine AWP_ret ?_; simp)
      | refine AWP_block ?_
      | refine AWP_seq ?_)
    refine AWP_cond rfl ?_
    repeat (first
      | (refine AWP_seq (AWP_regS tOk rfl ?_); simp)
      | (refine AWP_regS tOk rfl ?_; simp)
      | (refine AWP_skip ?_; simp)
      | (refine AWP_exit ?_; simp)
      | (refine AWP_ret ?_; simp)
      | refine AWP_block ?_
      | refine AWP_seq ?_)
    simp [removeR, h1, hfd, zeroD]
  · have hi := findR_lt hfd
    simp only [findAV]
    repeat (first
      | (refine AWP_seq (AWP_regS tOk rfl ?_); simp)
      | (refine AWP_regS tOk rfl ?_; simp)
      | (refine AWP_skip ?_; simp)
      | (refine AWP_exit ?_; simp)
      | (refine AWP_ret ?_; simp)
      | refine AWP_block ?_
      | refine AWP_seq ?_)
    refine AWP_cond rfl ?_
    repeat (first
      | (refine AWP_seq (AWP_regS tOk rfl ?_); simp [hi])
      | (refine AWP_regS tOk rfl ?_; simp [hi])
      | (refine AWP_skip ?_; simp [hi])
      | (refine AWP_exit ?_; simp [hi])
      | (refine AWP_ret ?_; simp [hi])
      | refine AWP_block ?_
      | refine AWP_seq ?_)
    refine AStep_PC rfl rfl (by simp) (pc58 d s (by omega)) rfl ?_
    rintro _ rfl
    simp
    repeat (first
      | (refine AWP_seq (AWP_regS tOk rfl ?_); simp)
      | (refine AWP_regS tOk rfl ?_; simp)
      | (refine AWP_skip ?_; simp)
      | (refine AWP_exit ?_; simp)
      | (refine AWP_ret ?_; simp)
      | refine AWP_block ?_
      | refine AWP_seq ?_)
    simp [removeR, h1, hfd]
end Go.Abs
set_option maxRecDepth 100000
namespace Go.Abs
open Go Go.Proofs
set_option linter.unusedSimpArgs false
@[simp] def encI (n : Int) : AV := .int .i64 n

theorem take_succ_eq {α : Type} {a b : List α} {j : Nat} (ha : j < a.length) (hb : j < b.length) (h : a.take j = b.take j) (he : a[j] = b[j]) : a.take (j + 1) = b.take (j + 1) := by
  rw [List.take_succ_eq_append_getElem ha, List.take_succ_eq_append_getElem hb, h, he]
theorem file_eq (f g : File) (h : (f.name == g.name && (f.dur == g.dur && f.vol == g.vol)) = true) : f = g := by
  cases f; cases g; simp at h; simp [h]
set_option maxHeartbeats 1000000 in
theorem pc17 (a b : Disk) : PC Tryd.prog 17 [encD a, encD b] (fun r => r = .bool (decide (a = b))) := by
  refine PC_body tOk Tryd.func17 rfl Tryd.results17 rfl (by simp [Tryd.ntmps17]) ?_
  rw [Tryd.ntmps17]
  simp only [argSlots]
  simp only [encD]
  refine AWP_lenAgg 0 0 rfl rfl (fun hlen => ?_)
  rw [List.length_map] at hlen
  repeat (first
    | (refine AWP_seq (AWP_regS tOk rfl ?_); simp)
    | (refine AWP_regS tOk rfl ?_; simp)
    | (refine AWP_skip ?_; simp)
    | (refine AWP_exit ?_; simp)
    | (refine AWP_ret ?_; simp)
    | refine AWP_block ?_
    | refine AWP_seq ?_)
  refine AWP_cond2 rfl (fun h => ?_) (fun h1 => ?_)
  · repeat (first
      | (refine AWP_seq (AWP_regS tOk rfl ?_); simp)
      | (refine AWP_regS tOk rfl ?_; simp)
      | (refine AWP_skip ?_; simp)
      | (refine AWP_exit ?_; simp)
      | (refine AWP_ret ?_; simp)
      | refine AWP_block ?_
      | refine AWP_seq ?_)
    rintro rfl
    simp at h
  simp at h1
  have h1s : a.space = b.space := by grind
  have h1l : a.files.length = b.files.length := by grind
  repeat (first
    | (refine AWP_seq (AWP_regS tOk rfl ?_); simp)
    | (refine AWP_regS tOk rfl ?_; simp)
    | (refine AWP_skip ?_; simp)
    | (refine AWP_exit ?_; simp)
    | (refine AWP_ret ?_; simp)
    | refine AWP_block ?_
    | refine AWP_seq ?_)
  refine AWP_countI a.files.length (fun j => a.files.take j = b.files.take j) (fun j => [(2, .vptr 0 0), (3, .vptr 1 0), (5, .i j)]) (fun _ => [.vars [.list (a.files.map encF), .i a.space], .vars [.list (b.files.map encF), .i b.space]]) rfl (by simp) (by simp) (by simp) (by simp) (by simp) ?_
  intro j hj hI ih
  repeat (first
    | (refine AWP_seq (AWP_regS tOk rfl ?_); simp)
    | (refine AWP_regS tOk rfl ?_; simp)
    | (refine AWP_skip ?_; simp)
    | (refine AWP_exit ?_; simp)
    | (refine AWP_ret ?_; simp)
    | refine AWP_block ?_
    | refine AWP_seq ?_)
  refine AWP_cond2 rfl (fun hlt => ?_) (fun hge => ?_)
  · have hlt' : j < a.files.length := by simpa using hlt
    have hltb : j < b.files.length := by omega
    repeat (first
      | (refine AWP_seq (AWP_regS tOk rfl ?_); simp)
      | (refine AWP_regS tOk rfl ?_; simp)
      | (refine AWP_skip ?_; simp)
      | (refine AWP_exit ?_; simp)
      | (refine AWP_ret ?_; simp)
      | refine AWP_block ?_
      | refine AWP_seq ?_)
    refine AWP_draw tOk mixed [] [0, 1, 2, 3, 4, 5, 6, 7, 8, 9, 10] rfl (by kernel_rfl) ?_
    simp [hlt', hltb]
    refine AWP_cond2 rfl (fun h => ?_) (fun h => ?_)
    · repeat (first
        | (refine AWP_seq (AWP_regS tOk rfl ?_); simp)
        | (refine AWP_regS tOk rfl ?_; simp)
        | (refine AWP_skip ?_; simp)
        | (refine AWP_exit ?_; simp)
        | (refine AWP_ret ?_; simp)
        | refine AWP_block ?_
        | refine AWP_seq ?_)
      rintro rfl
      simp at h
    · repeat (first
        | (refine AWP_seq (AWP_regS tOk rfl ?_); simp)
        | (refine AWP_regS tOk rfl ?_; simp)
        | (refine AWP_skip ?_; simp)
        | (refine AWP_exit ?_; simp)
        | (refine AWP_ret ?_; simp)
        | refine AWP_block ?_
        | refine AWP_seq ?_)
      have he : a.files[j] = b.files[j] := by
        simp only [Bool.not_eq_false', Bool.and_true] at h
        exact file_eq _ _ h
      refine ALoop_end _ (ih hlt' (take_succ_eq hlt' hltb hI he)) rfl (by simp) ?_ (by simp) (by simp)
      simp
      exact wrap_i64 _ (by omega) (by omega)
  · have hge' : j = a.files.length := by simp at hge; omega
    subst hge'
    repeat (first
      | (refine AWP_seq (AWP_regS tOk rfl ?_); simp)
      | (refine AWP_regS tOk rfl ?_; simp)
      | (refine AWP_skip ?_; simp)
      | (refine AWP_exit ?_; simp)
      | (refine AWP_ret ?_; simp)
      | refine AWP_block ?_
      | refine AWP_seq ?_)
    rw [List.take_length, h1l, List.take_length] at hI
    cases a; cases b; simp at h1s hI ⊢; exact ⟨hI, h1s⟩

theorem take_map_len {α β : Type} (l : List α) (f : α → β) : List.take l.length (l.map f) = l.map f := List.take_of_length_le (by simp)
def modI (c n : Int) : Int := if c.tmod n < 0 then W (c.tmod n + n) else c.tmod n
def decideR (cs : List Int) (n : Int) : Int × List Int := match cs with
  | [] => (0, [])
  | c :: r => (modI c n, r)
set_option maxHeartbeats 1000000 in
theorem pc60 (cs : List Int) (n : Int) (hn : 0 < n) : PC Tryd.prog 60 [.list (cs.map encI), .i n] (fun r => r = .tup [.i (decideR cs n).1, .list ((decideR cs n).2.map encI)]) := by
  refine PC_body tOk Tryd.func60 rfl Tryd.results60 rfl (by simp [Tryd.ntmps60]) ?_
  rw [Tryd.ntmps60]
  simp only [argSlots]
  repeat (first
    | (refine AWP_seq (AWP_regS tOk rfl ?_); simp)
    | (refine AWP_regS tOk rfl ?_; simp)
    | (refine AWP_skip ?_; simp)
    | (refine AWP_exit ?_; simp)
    | (refine AWP_ret ?_; simp)
    | refine AWP_block ?_
    | refine AWP_seq ?_)
  rcases cs with _ | ⟨c, cs⟩
  · refine AWP_cond rfl ?_
    repeat (first
      | (refine AWP_seq (AWP_regS tOk rfl ?_); simp)
      | (refine AWP_regS tOk rfl ?_; simp)
      | (refine AWP_skip ?_; simp)
      | (refine AWP_exit ?_; simp)
      | (refine AWP_ret ?_; simp)
      | refine AWP_block ?_
      | refine AWP_seq ?_)
    simp [decideR]
  have hn0 : ¬ n = 0 := by omega
  refine AWP_cond (b := false) ?_ ?_
  · simp; omega
  have g : (1 : Int) ≤ (cs.length : Int) + 1 := by omega
  repeat (first
    | (refine AWP_seq (AWP_regS tOk rfl ?_); simp [hn0])
    | (refine AWP_regS tOk rfl ?_; simp [hn0])
    | (refine AWP_skip ?_; simp [hn0])
    | (refine AWP_exit ?_; simp [hn0])
    | (refine AWP_ret ?_; simp [hn0])
    | refine AWP_block ?_
    | refine AWP_seq ?_)
  refine AWP_cond2 rfl (fun h => ?_) (fun h => ?_)
  · repeat (first
      | (refine AWP_seq (AWP_regS tOk rfl ?_); simp)
      | (refine AWP_regS tOk rfl ?_; simp)
      | (refine AWP_skip ?_; simp)
      | (refine AWP_exit ?_; simp)
      | (refine AWP_ret ?_; simp)
      | refine AWP_block ?_
      | refine AWP_seq ?_)
    refine AWP_draw tOk mixed [] [0, 1, 2, 3, 4] rfl (by kernel_rfl) ?_
    simp [g]
    repeat (first
      | (refine AWP_seq (AWP_regS tOk rfl ?_); simp)
      | (refine AWP_regS tOk rfl ?_; simp)
      | (refine AWP_skip ?_; simp)
      | (refine AWP_exit ?_; simp)
      | (refine AWP_ret ?_; simp)
      | refine AWP_block ?_
      | refine AWP_seq ?_)
    simp at h
    simp [decideR, modI, h]
  · repeat (first
      | (refine AWP_seq (AWP_regS tOk rfl ?_); simp)
      | (refine AWP_regS tOk rfl ?_; simp)
      | (refine AWP_skip ?_; simp)
      | (refine AWP_exit ?_; simp)
      | (refine AWP_ret ?_; simp)
      | refine AWP_block ?_
      | refine AWP_seq ?_)
    refine AWP_draw tOk mixed [] [0, 1, 2, 3, 4] rfl (by kernel_rfl) ?_
    simp [g]
    repeat (first
      | (refine AWP_seq (AWP_regS tOk rfl ?_); simp)
      | (refine AWP_regS tOk rfl ?_; simp)
      | (refine AWP_skip ?_; simp)
      | (refine AWP_exit ?_; simp)
      | (refine AWP_ret ?_; simp)
      | refine AWP_block ?_
      | refine AWP_seq ?_)
    simp at h
    simp only [decideR, modI]
    rw [if_neg (by omega)]
    simp

theorem modI_lt (c n : Int) (hn : 0 < n) (hb : n ≤ 9223372036854775807) : 0 ≤ modI c n ∧ modI c n < n := by
  unfold modI
  have h1 := Int.tmod_lt_of_pos c hn
  have h2 : - n < c.tmod n := by
    exact Int.lt_tmod_of_pos c hn
  split
  · rw [W, wrap_i64 _ (by omega) (by omega)]; omega
  · omega

def afterR (f : File) (cs : List Int) : List UInt8 × List Int :=
  if f.dur = f.vol then (f.dur, cs) else
  let p := decideR cs 3
  if p.1 = 0 then (f.dur, p.2) else if p.1 = 1 then (f.vol, p.2) else if f.vol = [] then ([], p.2) else
  let q := decideR p.2 f.vol.length
  (f.vol.take q.1.toNat, q.2)
set_option maxHeartbeats 1000000 in
theorem pc48 (f : File) (cs : List Int) (hb : f.vol.length ≤ 9223372036854775807) : PC Tryd.prog 48 [encF f, .list (cs.map encI)] (fun r => r = .tup [.str (afterR f cs).1, .list ((afterR f cs).2.map encI)]) := by
  refine PC_body tOk Tryd.func48 rfl Tryd.results48 rfl (by simp [Tryd.ntmps48]) ?_
  rw [Tryd.ntmps48]
  simp only [argSlots]
  simp only [encF]
  repeat (first
    | (refine AWP_seq (AWP_regS tOk rfl ?_); simp)
    | (refine AWP_regS tOk rfl ?_; simp)
    | (refine AWP_skip ?_; simp)
    | (refine AWP_exit ?_; simp)
    | (refine AWP_ret ?_; simp)
    | refine AWP_block ?_
    | refine AWP_seq ?_)
  refine AWP_cond2 rfl (fun h => ?_) (fun h0 => ?_)
  · repeat (first
      | (refine AWP_seq (AWP_regS tOk rfl ?_); simp)
      | (refine AWP_regS tOk rfl ?_; simp)
      | (refine AWP_skip ?_; simp)
      | (refine AWP_exit ?_; simp)
      | (refine AWP_ret ?_; simp)
      | refine AWP_block ?_
      | refine AWP_seq ?_)
    simp at h
    simp [afterR, h]
  simp at h0
  repeat (first
    | (refine AWP_seq (AWP_regS tOk rfl ?_); simp)
    | (refine AWP_regS tOk rfl ?_; simp)
    | (refine AWP_skip ?_; simp)
    | (refine AWP_exit ?_; simp)
    | (refine AWP_ret ?_; simp)
    | refine AWP_block ?_
    | refine AWP_seq ?_)
  refine AStep_PC rfl rfl (by simp) (pc60 cs 3 (by omega)) rfl ?_
  rintro _ rfl
  simp
  repeat (first
    | (refine AWP_seq (AWP_regS tOk rfl ?_); simp)
    | (refine AWP_regS tOk rfl ?_; simp)
    | (refine AWP_skip ?_; simp)
    | (refine AWP_exit ?_; simp)
    | (refine AWP_ret ?_; simp)
    | refine AWP_block ?_
    | refine AWP_seq ?_)
  refine AWP_cond2 rfl (fun h => ?_) (fun h1 => ?_)
  · repeat (first
      | (refine AWP_seq (AWP_regS tOk rfl ?_); simp)
      | (refine AWP_regS tOk rfl ?_; simp)
      | (refine AWP_skip ?_; simp)
      | (refine AWP_exit ?_; simp)
      | (refine AWP_ret ?_; simp)
      | refine AWP_block ?_
      | refine AWP_seq ?_)
    simp at h
    simp [afterR, h0, h]
  simp at h1
  repeat (first
    | (refine AWP_seq (AWP_regS tOk rfl ?_); simp)
    | (refine AWP_regS tOk rfl ?_; simp)
    | (refine AWP_skip ?_; simp)
    | (refine AWP_exit ?_; simp)
    | (refine AWP_ret ?_; simp)
    | refine AWP_block ?_
    | refine AWP_seq ?_)
  refine AWP_cond2 rfl (fun h => ?_) (fun h2 => ?_)
  · repeat (first
      | (refine AWP_seq (AWP_regS tOk rfl ?_); simp)
      | (refine AWP_regS tOk rfl ?_; simp)
      | (refine AWP_skip ?_; simp)
      | (refine AWP_exit ?_; simp)
      | (refine AWP_ret ?_; simp)
      | refine AWP_block ?_
      | refine AWP_seq ?_)
    simp at h
    simp [afterR, h0, h]
  simp at h2
  repeat (first
    | (refine AWP_seq (AWP_regS tOk rfl ?_); simp)
    | (refine AWP_regS tOk rfl ?_; simp)
    | (refine AWP_skip ?_; simp)
    | (refine AWP_exit ?_; simp)
    | (refine AWP_ret ?_; simp)
    | refine AWP_block ?_
    | refine AWP_seq ?_)
  refine AWP_cond2 rfl (fun h => ?_) (fun h3 => ?_)
  · repeat (first
      | (refine AWP_seq (AWP_regS tOk rfl ?_); simp)
      | (refine AWP_regS tOk rfl ?_; simp)
      | (refine AWP_skip ?_; simp)
      | (refine AWP_exit ?_; simp)
      | (refine AWP_ret ?_; simp)
      | refine AWP_block ?_
      | refine AWP_seq ?_)
    simp at h
    rw [h] at h0
    simp [afterR, h0, h1, h2, h]
  simp at h3
  have hpos : (0 : Int) < f.vol.length := by have := List.length_pos_iff.2 h3; omega
  repeat (first
    | (refine AWP_seq (AWP_regS tOk rfl ?_); simp)
    | (refine AWP_regS tOk rfl ?_; simp)
    | (refine AWP_skip ?_; simp)
    | (refine AWP_exit ?_; simp)
    | (refine AWP_ret ?_; simp)
    | refine AWP_block ?_
    | refine AWP_seq ?_)
  have hq : 0 ≤ (decideR (decideR cs 3).2 f.vol.length).1 ∧ (decideR (decideR cs 3).2 f.vol.length).1 ≤ f.vol.length := by
    unfold decideR
    split
    · simp
    · have := modI_lt ‹Int› f.vol.length hpos (by omega)
      simp only
      omega
  refine AStep_PC rfl rfl (by simp) (pc60 _ _ hpos) rfl ?_
  rintro _ rfl
  simp
  repeat (first
    | (refine AWP_seq (AWP_regS tOk rfl ?_); simp [hq])
    | (refine AWP_regS tOk rfl ?_; simp [hq])
    | (refine AWP_skip ?_; simp [hq])
    | (refine AWP_exit ?_; simp [hq])
    | (refine AWP_ret ?_; simp [hq])
    | refine AWP_block ?_
    | refine AWP_seq ?_)
  simp [afterR, h0, h1, h2, h3]

def crashStep (st : List File × List Int) (f : File) : List File × List Int := (st.1 ++ [⟨f.name, (afterR f st.2).1, (afterR f st.2).1⟩], (afterR f st.2).2)
def crashF (fs : List File) (cs : List Int) : List File × List Int := fs.foldl crashStep ([], cs)
theorem crashF_succ (fs : List File) (cs : List Int) (j : Nat) (h : j < fs.length) : crashF (fs.take (j + 1)) cs = crashStep (crashF (fs.take j) cs) fs[j] := by
  rw [crashF, List.take_succ_eq_append_getElem h, List.foldl_append]; rfl
theorem crashF_len (fs : List File) (cs : List Int) : (crashF fs cs).1.length = fs.length := by
  have key : ∀ (l : List File) (st : List File × List Int), (l.foldl crashStep st).1.length = st.1.length + l.length := by
    intro l
    induction l with
    | nil => intro st; simp
    | cons g l ih => intro st; rw [List.foldl_cons, ih]; simp [crashStep]; omega
  have := key fs ([], cs)
  simpa [crashF] using this
def VB (fs : List File) : Prop := ∀ f ∈ fs, f.vol.length ≤ 9223372036854775807
def crashR (d : Disk) (cs : List Int) : Disk × List Int × Int := if checkR d = 0 then
  let p := crashF d.files cs
  let q := fitR ⟨p.1, d.space⟩
  if q.2 = 0 then (q.1, p.2, 0) else (zeroD, [], q.2)
  else (zeroD, [], checkR d)
set_option maxHeartbeats 1000000 in
theorem pc19 (d : Disk) (hnb : NB d.files) (hvb : VB d.files) (cs : List Int) : PC Tryd.prog 19 [encD d, .list (cs.map encI)] (fun r => r = .tup [encD (crashR d cs).1, .list ((crashR d cs).2.1.map encI), .i (crashR d cs).2.2]) := by
  refine PC_body tOk Tryd.func19 rfl Tryd.results19 rfl (by simp [Tryd.ntmps19]) ?_
  rw [Tryd.ntmps19]
  simp only [argSlots]
  simp only [encD]
  repeat (first
    | (refine AWP_seq (AWP_regS tOk rfl ?_); simp)
    | (refine AWP_regS tOk rfl ?_; simp)
    | (refine AWP_skip ?_; simp)
    | (refine AWP_exit ?_; simp)
    | (refine AWP_ret ?_; simp)
    | refine AWP_block ?_
    | refine AWP_seq ?_)
  refine AStep_PC rfl rfl (by simp) (pc26 d hnb) rfl ?_
  rintro _ rfl
  simp
  repeat (first
    | (refine AWP_seq (AWP_regS tOk rfl ?_); simp)
    | (refine AWP_regS tOk rfl ?_; simp)
    | (refine AWP_skip ?_; simp)
    | (refine AWP_exit ?_; simp)
    | (refine AWP_ret ?_; simp)
    | refine AWP_block ?_
    | refine AWP_seq ?_)
  refine AWP_cond2 rfl (fun h => ?_) (fun h1 => ?_)
  · repeat (first
      | (refine AWP_seq (AWP_regS tOk rfl ?_); simp)
      | (refine AWP_regS tOk rfl ?_; simp)
      | (refine AWP_skip ?_; simp)
      | (refine AWP_exit ?_; simp)
      | (refine AWP_ret ?_; simp)
      | refine AWP_block ?_
      | refine AWP_seq ?_)
    simp at h
    simp [crashR, h, zeroD]
  simp at h1
  have hl := checkR_len h1
  repeat (first
    | (refine AWP_seq (AWP_regS tOk rfl ?_); simp)
    | (refine AWP_regS tOk rfl ?_; simp)
    | (refine AWP_skip ?_; simp)
    | (refine AWP_exit ?_; simp)
    | (refine AWP_ret ?_; simp)
    | refine AWP_block ?_
    | refine AWP_seq ?_)
  refine AWP_nilOwn 2 0 52 3 rfl rfl ?_
  simp
  refine AWP_count d.files.length (fun j => [(1, .list ((crashF (d.files.take j) cs).2.map encI)), (2, .vptr 0 0), (4, .vptr 1 0), (8, .vptr 2 0), (9, .i j)]) (fun j => [.vars [.list (d.files.map encF), .i d.space], .vars [.nils, .i 0], .vars [.sl 3 3 0 (crashF (d.files.take j) cs).1.length, .i d.space], .arr 52 3 ((crashF (d.files.take j) cs).1.map encF)]) rfl (by simp) (by simp [crashF]) (by simp) (by simp) ?_
  intro j hj ih
  have hfl := crashF_len (d.files.take j) cs
  rw [List.length_take] at hfl
  repeat (first
    | (refine AWP_seq (AWP_regS tOk rfl ?_); simp)
    | (refine AWP_regS tOk rfl ?_; simp)
    | (refine AWP_skip ?_; simp)
    | (refine AWP_exit ?_; simp)
    | (refine AWP_ret ?_; simp)
    | refine AWP_block ?_
    | refine AWP_seq ?_)
  refine AWP_cond2 rfl (fun hlt => ?_) (fun hge => ?_)
  · have hlt' : j < d.files.length := by simpa using hlt
    have hfs := crashF_succ d.files cs j hlt'
    generalize hst : crashF (d.files.take j) cs = st at hfs hfl
    obtain ⟨out, ch⟩ := st
    simp only at hfl
    repeat (first
      | (refine AWP_seq (AWP_regS tOk rfl ?_); simp [hlt'])
      | (refine AWP_regS tOk rfl ?_; simp [hlt'])
      | (refine AWP_skip ?_; simp [hlt'])
      | (refine AWP_exit ?_; simp [hlt'])
      | (refine AWP_ret ?_; simp [hlt'])
      | refine AWP_block ?_
      | refine AWP_seq ?_)
    refine AStep_PC rfl rfl (by simp) (pc48 d.files[j] ch (hvb _ (List.getElem_mem hlt'))) rfl ?_
    rintro _ rfl
    simp
    repeat (first
      | (refine AWP_seq (AWP_regS tOk rfl ?_); simp)
      | (refine AWP_regS tOk rfl ?_; simp)
      | (refine AWP_skip ?_; simp)
      | (refine AWP_exit ?_; simp)
      | (refine AWP_ret ?_; simp)
      | refine AWP_block ?_
      | refine AWP_seq ?_)
    refine AWP_draw tOk mixed [12, 14] [0, 1, 2, 3, 4, 5, 6, 7, 8, 9, 10, 11, 12, 13, 14] rfl (by kernel_rfl) ?_
    simp [hlt']
    refine AStep_appendS tOk rfl rfl T22 rfl T52 rfl (by decide) (by decide) rfl rfl rfl ?_
    simp
    refine ⟨by simp [appOk]; omega, ?_⟩
    repeat (first
      | (refine AWP_seq (AWP_regS tOk rfl ?_); simp)
      | (refine AWP_regS tOk rfl ?_; simp)
      | (refine AWP_skip ?_; simp)
      | (refine AWP_exit ?_; simp)
      | (refine AWP_ret ?_; simp)
      | refine AWP_block ?_
      | refine AWP_seq ?_)
    simp only [crashStep] at hfs
    refine ALoop_ren [0, 1, 2, 5] (ih hlt') (by rw [hfs]; simp) (by decide) (by simp) (by simp) (by simp) (by simp) ?_
    simp [hfs]
    exact wrap_i64 _ (by omega) (by omega)
  · have hge' : j = d.files.length := by simp at hge; omega
    subst hge'
    rw [List.take_length] at hfl ⊢
    repeat (first
      | (refine AWP_seq (AWP_regS tOk rfl ?_); simp)
      | (refine AWP_regS tOk rfl ?_; simp)
      | (refine AWP_skip ?_; simp)
      | (refine AWP_exit ?_; simp)
      | (refine AWP_ret ?_; simp)
      | refine AWP_block ?_
      | refine AWP_seq ?_)
    refine AStep_freeze 3 rfl ?_
    simp [take_map_len]
    refine AStep_PC rfl rfl (by simp) (pc41 ⟨(crashF d.files cs).1, d.space⟩) rfl ?_
    rintro _ rfl
    simp
    repeat (first
      | (refine AWP_seq (AWP_regS tOk rfl ?_); simp)
      | (refine AWP_regS tOk rfl ?_; simp)
      | (refine AWP_skip ?_; simp)
      | (refine AWP_exit ?_; simp)
      | (refine AWP_ret ?_; simp)
      | refine AWP_block ?_
      | refine AWP_seq ?_)
    refine AWP_cond2 rfl (fun h => ?_) (fun h2 => ?_)
    · repeat (first
        | (refine AWP_seq (AWP_regS tOk rfl ?_); simp)
        | (refine AWP_regS tOk rfl ?_; simp)
        | (refine AWP_skip ?_; simp)
        | (refine AWP_exit ?_; simp)
        | (refine AWP_ret ?_; simp)
        | refine AWP_block ?_
        | refine AWP_seq ?_)
      simp at h
      simp [crashR, h1, h, zeroD]
    · repeat (first
        | (refine AWP_seq (AWP_regS tOk rfl ?_); simp)
        | (refine AWP_regS tOk rfl ?_; simp)
        | (refine AWP_skip ?_; simp)
        | (refine AWP_exit ?_; simp)
        | (refine AWP_ret ?_; simp)
        | refine AWP_block ?_
        | refine AWP_seq ?_)
      simp at h2
      simp [crashR, h1, h2]
end Go.Abs
set_option maxRecDepth 100000
namespace Go.Abs
open Go Go.Proofs
set_option linter.unusedSimpArgs false

def boolTab (p : Nat → Bool) : List AV := (List.range 256).map (fun i => .bool (p i))
def z102 : Value := match look T 102 with
  | some i => i.zero
  | none => .bool false
theorem T102z : look T 102 = some { desc := .array 256 4, zero := z102, size := 256, bytes := 256 } := rfl
theorem z102_cells : z102.cells.toList.map zeroCell = boolTab (fun _ => false) := by kernel_rfl
theorem z102_cells' : List.map zeroCell (match z102 with | Value.agg cs => cs | v => #[v]).toList = boolTab (fun _ => false) := z102_cells
@[simp] theorem boolTab_len (p : Nat → Bool) : (boolTab p).length = 256 := by simp [boolTab]
@[simp] theorem boolTab_take (p : Nat → Bool) : (boolTab p).take 256 = boolTab p := List.take_of_length_le (by simp)
theorem boolTab_get (p : Nat → Bool) (i : Nat) (h : i < 256) : (boolTab p)[i]? = some (.bool (p i)) := by simp [boolTab, h]
theorem boolTab_drop (p : Nat → Bool) (i : Nat) (h : i < 256) : (boolTab p).drop i = .bool (p i) :: (boolTab p).drop (i + 1) := by
  rw [List.drop_eq_getElem_cons (by simpa using h)]
  congr 1
  simp [boolTab]
theorem boolTab_set (p : Nat → Bool) (i : Nat) (h : i < 256) : (boolTab p).set i (.bool true) = boolTab (fun j => j == i || p j) := by
  refine List.ext_getElem? fun k => ?_
  by_cases hk : k < 256
  · rw [boolTab_get _ _ hk]
    by_cases hki : i = k
    · subst hki; rw [List.getElem?_set_self (by simpa using h)]; simp
    · rw [List.getElem?_set_ne hki, boolTab_get _ _ hk]; simp [show k ≠ i from fun e => hki e.symm]
  · rw [List.getElem?_eq_none (by simp; omega), List.getElem?_eq_none (by simp; omega)]
@[simp] theorem boolTab_leaf (p : Nat → Bool) : (boolTab p).all AV.leaf = true := by simp [boolTab, AV.leaf]
@[simp] theorem boolTab_leaf' (p : Nat → Bool) : (∀ x, x ∈ boolTab p → x.leaf = true) ↔ True := by have := boolTab_leaf p; rw [List.all_eq_true] at this; simp only [iff_true]; exact this
@[simp] theorem boolTab_pure (p : Nat → Bool) : (boolTab p).all AV.pure = true := by simp [boolTab, AV.pure]
@[simp] theorem boolTab_flat (p : Nat → Bool) : (boolTab p).all AV.flat = true := by simp [boolTab, AV.flat]
@[simp] theorem boolTab_under (p : Nat → Bool) (n : Nat) : (boolTab p).all (AV.under n) = true := by simp [boolTab, AV.under]
theorem setCells_app (ds xs ys zs : List AV) (h : ys.length = xs.length) : setCells (ds ++ ys ++ zs) ds.length xs = ds ++ xs ++ zs := by
  induction xs generalizing ds ys with
  | nil => simp at h; subst h; simp [setCells]
  | cons x xs ih =>
    rcases ys with _ | ⟨y, ys⟩
    · simp at h
    · rw [setCells]
      have := ih (ds ++ [x]) ys (by simpa using h)
      simp at this ⊢
      exact this
@[simp] theorem boolTab_setCells (p q : Nat → Bool) : setCells (boolTab p) 0 (boolTab q) = boolTab q := by
  have := setCells_app [] (boolTab q) (boolTab p) [] (by simp)
  simpa using this
theorem allSome_map {α β : Type} (f : α → Option β) (g : α → β) (l : List α) (h : ∀ x ∈ l, f x = some (g x)) : allSome (l.map f) = some (l.map g) := by
  induction l with
  | nil => rfl
  | cons x l ih => rw [List.map_cons, h x (by simp), allSome, ih (fun y hy => h y (by simp [hy]))]; rfl
@[simp] theorem boolTab_snap0 (H : List AObj) (p : Nat → Bool) : allSome ((boolTab p).map (snap0 H)) = some (boolTab p) := by
  rw [allSome_map (snap0 H) id _ (fun x hx => ?_)]
  · simp
  · obtain ⟨i, _, rfl⟩ := List.mem_map.1 hx; simp
@[simp] theorem boolTab_snap1 (H : List AObj) (p : Nat → Bool) : allSome ((boolTab p).map (snap1 H)) = some (boolTab p) := by
  rw [allSome_map (snap1 H) id _ (fun x hx => ?_)]
  · simp
  · obtain ⟨i, _, rfl⟩ := List.mem_map.1 hx; simp
attribute [simp] T102z z102_cells z102_cells'
attribute [irreducible] z102 boolTab

set_option maxHeartbeats 400000 in
theorem pc77 (p : Nat → Bool) (c : Nat) (hc : c < 256) : PC Tryd.prog 77 [.iptr (boolTab p), .int .u8 c] (fun r => r = .bool (p c)) := by
  refine PC_body tOk Tryd.func77 rfl Tryd.results77 rfl (by simp [Tryd.ntmps77]) ?_
  rw [Tryd.ntmps77]
  simp only [argSlots]
  have hc' : (c : Int) < 256 := by omega
  repeat (first
    | (refine AWP_seq (AWP_regS tOk rfl ?_); simp [hc', boolTab_drop p c hc])
    | (refine AWP_regS tOk rfl ?_; simp [hc', boolTab_drop p c hc])
    | (refine AWP_skip ?_; simp [hc', boolTab_drop p c hc])
    | (refine AWP_exit ?_; simp [hc', boolTab_drop p c hc])
    | (refine AWP_ret ?_; simp [hc', boolTab_drop p c hc])
    | refine AWP_block ?_
    | refine AWP_seq ?_)

def setOf (cs : List UInt8) (i : Nat) : Bool := cs.any (fun c => c.toNat == i)
theorem setOf_succ (cs : List UInt8) (j : Nat) (h : j < cs.length) : setOf (cs.take (j + 1)) = fun i => (i == cs[j].toNat || setOf (cs.take j) i) := by
  funext i
  rw [setOf, List.take_succ_eq_append_getElem h, List.any_append, setOf]
  simp only [List.any_cons, List.any_nil, Bool.or_false]
  rw [Bool.or_comm]
  congr 1
  rw [Bool.beq_comm]
set_option maxHeartbeats 1000000 in
theorem pc71 (cs : List UInt8) (hcs : ∀ c ∈ cs, c.toNat < 128) (hlen : cs.length ≤ 1000000) : PC Tryd.prog 71 [.str cs] (fun r => r = .tup [.agg (boolTab (setOf cs)), .bool true]) := by
  refine PC_body tOk Tryd.func71 rfl Tryd.results71 rfl (by simp [Tryd.ntmps71]) ?_
  rw [Tryd.ntmps71]
  simp only [argSlots]
  repeat (first
    | (refine AWP_seq (AWP_regS tOk rfl ?_); simp [-Value.cells])
    | (refine AWP_regS tOk rfl ?_; simp [-Value.cells])
    | (refine AWP_skip ?_; simp [-Value.cells])
    | (refine AWP_exit ?_; simp [-Value.cells])
    | (refine AWP_ret ?_; simp [-Value.cells])
    | refine AWP_block ?_
    | refine AWP_seq ?_)
  refine AWP_count cs.length (fun j => [(0, .str cs), (2, .vptr 0 0), (4, .i j)]) (fun j => [.vars (boolTab (setOf (cs.take j)))]) rfl (by simp) (by simp [setOf]) (by simp) (by simp) ?_
  intro j hj ih
  repeat (first
    | (refine AWP_seq (AWP_regS tOk rfl ?_); simp)
    | (refine AWP_regS tOk rfl ?_; simp)
    | (refine AWP_skip ?_; simp)
    | (refine AWP_exit ?_; simp)
    | (refine AWP_ret ?_; simp)
    | refine AWP_block ?_
    | refine AWP_seq ?_)
  refine AWP_cond2 rfl (fun hlt => ?_) (fun hge => ?_)
  · have hlt' : j < cs.length := by simpa using hlt
    have hcj := hcs cs[j] (List.getElem_mem hlt')
    repeat (first
      | (refine AWP_seq (AWP_regS tOk rfl ?_); simp [hlt'])
      | (refine AWP_regS tOk rfl ?_; simp [hlt'])
      | (refine AWP_skip ?_; simp [hlt'])
      | (refine AWP_exit ?_; simp [hlt'])
      | (refine AWP_ret ?_; simp [hlt'])
      | refine AWP_block ?_
      | refine AWP_seq ?_)
    refine AWP_cond (b := false) ?_ ?_
    · simp; omega
    have h1 : (cs[j].toNat : Int) < 256 := by omega
    have h2 : cs[j].toNat ≤ 255 := by omega
    repeat (first
      | (refine AWP_seq (AWP_regS tOk rfl ?_); simp [hlt', h1, h2, boolTab_set (setOf (cs.take j)) cs[j].toNat (by omega)])
      | (refine AWP_regS tOk rfl ?_; simp [hlt', h1, h2, boolTab_set (setOf (cs.take j)) cs[j].toNat (by omega)])
      | (refine AWP_skip ?_; simp [hlt', h1, h2, boolTab_set (setOf (cs.take j)) cs[j].toNat (by omega)])
      | (refine AWP_exit ?_; simp [hlt', h1, h2, boolTab_set (setOf (cs.take j)) cs[j].toNat (by omega)])
      | (refine AWP_ret ?_; simp [hlt', h1, h2, boolTab_set (setOf (cs.take j)) cs[j].toNat (by omega)])
      | refine AWP_block ?_
      | refine AWP_seq ?_)
    refine ALoop_end [] (ih hlt') ?_ (by simp) ?_ (by simp) (by simp)
    · rw [setOf_succ cs j hlt']; simp
    · simp
      exact wrap_i64 _ (by omega) (by omega)
  · have hge' : j = cs.length := by simp at hge; omega
    subst hge'
    repeat (first
      | (refine AWP_seq (AWP_regS tOk rfl ?_); simp)
      | (refine AWP_regS tOk rfl ?_; simp)
      | (refine AWP_skip ?_; simp)
      | (refine AWP_exit ?_; simp)
      | (refine AWP_ret ?_; simp)
      | refine AWP_block ?_
      | refine AWP_seq ?_)

def rtrim (p : UInt8 → Bool) (s : List UInt8) : List UInt8 := (s.reverse.dropWhile p).reverse
theorem rtrim_nil (p : UInt8 → Bool) : rtrim p [] = [] := rfl
theorem rtrim_app (p : UInt8 → Bool) (s : List UInt8) (c : UInt8) : rtrim p (s ++ [c]) = if p c = true then rtrim p s else s ++ [c] := by
  simp only [rtrim, List.reverse_append, List.reverse_cons, List.reverse_nil, List.nil_append, List.cons_append, List.dropWhile_cons]
  split <;> simp
set_option maxHeartbeats 1000000 in
theorem pc73 (p : Nat → Bool) (s : List UInt8) (hlen : s.length ≤ 1000000) : PC Tryd.prog 73 [.str s, .iptr (boolTab p)] (fun r => r = .str (rtrim (fun c => p c.toNat) s)) := by
  refine PC_body tOk Tryd.func73 rfl Tryd.results73 rfl (by simp [Tryd.ntmps73]) ?_
  rw [Tryd.ntmps73]
  simp only [argSlots]
  repeat (first
    | (refine AWP_seq (AWP_regS tOk rfl ?_); simp)
    | (refine AWP_regS tOk rfl ?_; simp)
    | (refine AWP_skip ?_; simp)
    | (refine AWP_exit ?_; simp)
    | (refine AWP_ret ?_; simp)
    | refine AWP_block ?_
    | refine AWP_seq ?_)
  refine AWP_loop (ALoop_keep (sl' := [(0, .str s), (1, .iptr (boolTab p))]) ?_ (by simp))
  refine ALoop_wf (F := fun u => ⟨[(0, .str u), (1, .iptr (boolTab p))], []⟩) (fun u => u.length ≤ s.length ∧ rtrim (fun c => p c.toNat) u = rtrim (fun c => p c.toNat) s) (fun u => u.length) ?_ s ⟨Nat.le_refl _, rfl⟩
  rintro u ⟨hu, hr⟩ ih
  rcases List.eq_nil_or_concat u with rfl | ⟨v, c, rfl⟩
  · repeat (first
      | (refine AWP_seq (AWP_regS tOk rfl ?_); simp)
      | (refine AWP_regS tOk rfl ?_; simp)
      | (refine AWP_skip ?_; simp)
      | (refine AWP_exit ?_; simp)
      | (refine AWP_ret ?_; simp)
      | refine AWP_block ?_
      | refine AWP_seq ?_)
    refine AWP_cond rfl ?_
    repeat (first
      | (refine AWP_seq (AWP_regS tOk rfl ?_); simp)
      | (refine AWP_regS tOk rfl ?_; simp)
      | (refine AWP_skip ?_; simp)
      | (refine AWP_exit ?_; simp)
      | (refine AWP_ret ?_; simp)
      | refine AWP_block ?_
      | refine AWP_seq ?_)
    rw [← hr]; rfl
  · rw [List.concat_eq_append] at *
    simp at hu
    have hw : IntKind.i64.wrap (v.length : Int) = v.length := wrap_i64 _ (by omega) (by omega)
    rw [rtrim_app] at hr
    repeat (first
      | (refine AWP_seq (AWP_regS tOk rfl ?_); simp)
      | (refine AWP_regS tOk rfl ?_; simp)
      | (refine AWP_skip ?_; simp)
      | (refine AWP_exit ?_; simp)
      | (refine AWP_ret ?_; simp)
      | refine AWP_block ?_
      | refine AWP_seq ?_)
    refine AWP_cond (b := true) ?_ ?_
    · simp
    repeat (first
      | (refine AWP_seq (AWP_regS tOk rfl ?_); simp [hw])
      | (refine AWP_regS tOk rfl ?_; simp [hw])
      | (refine AWP_skip ?_; simp [hw])
      | (refine AWP_exit ?_; simp [hw])
      | (refine AWP_ret ?_; simp [hw])
      | refine AWP_block ?_
      | refine AWP_seq ?_)
    refine AStep_PC rfl rfl (by simp) (pc77 p c.toNat (by have := c.toNat_lt; omega)) rfl ?_
    rintro _ rfl
    simp
    refine AWP_cond2 rfl (fun h => ?_) (fun h => ?_)
    · repeat (first
        | (refine AWP_seq (AWP_regS tOk rfl ?_); simp)
        | (refine AWP_regS tOk rfl ?_; simp)
        | (refine AWP_skip ?_; simp)
        | (refine AWP_exit ?_; simp)
        | (refine AWP_ret ?_; simp)
        | refine AWP_block ?_
        | refine AWP_seq ?_)
      simp at h
      rw [h] at hr
      simpa using hr
    · have h0 : (v.length : Int) ≤ v.length + 1 := by omega
      repeat (first
        | (refine AWP_seq (AWP_regS tOk rfl ?_); simp [hw, h0])
        | (refine AWP_regS tOk rfl ?_; simp [hw, h0])
        | (refine AWP_skip ?_; simp [hw, h0])
        | (refine AWP_exit ?_; simp [hw, h0])
        | (refine AWP_ret ?_; simp [hw, h0])
        | refine AWP_block ?_
        | refine AWP_seq ?_)
      simp at h
      rw [if_pos h] at hr
      refine ALoop_end [] (ih v ⟨by omega, hr⟩ (by simp)) rfl (by simp) ?_ (by simp) (by simp)
      simp

set_option maxHeartbeats 1000000 in
theorem pc72 (p : Nat → Bool) (s : List UInt8) (hlen : s.length ≤ 1000000) : PC Tryd.prog 72 [.str s, .iptr (boolTab p)] (fun r => r = .str (s.dropWhile (fun c => p c.toNat))) := by
  refine PC_body tOk Tryd.func72 rfl Tryd.results72 rfl (by simp [Tryd.ntmps72]) ?_
  rw [Tryd.ntmps72]
  simp only [argSlots]
  repeat (first
    | (refine AWP_seq (AWP_regS tOk rfl ?_); simp)
    | (refine AWP_regS tOk rfl ?_; simp)
    | (refine AWP_skip ?_; simp)
    | (refine AWP_exit ?_; simp)
    | (refine AWP_ret ?_; simp)
    | refine AWP_block ?_
    | refine AWP_seq ?_)
  refine AWP_loop (ALoop_keep (sl' := [(0, .str s), (1, .iptr (boolTab p))]) ?_ (by simp))
  refine ALoop_wf (F := fun u => ⟨[(0, .str u), (1, .iptr (boolTab p))], []⟩) (fun u => u.length ≤ s.length ∧ u.dropWhile (fun c => p c.toNat) = s.dropWhile (fun c => p c.toNat)) (fun u => u.length) ?_ s ⟨Nat.le_refl _, rfl⟩
  rintro u ⟨hu, hr⟩ ih
  rcases u with _ | ⟨c, v⟩
  · repeat (first
      | (refine AWP_seq (AWP_regS tOk rfl ?_); simp)
      | (refine AWP_regS tOk rfl ?_; simp)
      | (refine AWP_skip ?_; simp)
      | (refine AWP_exit ?_; simp)
      | (refine AWP_ret ?_; simp)
      | refine AWP_block ?_
      | refine AWP_seq ?_)
    refine AWP_cond rfl ?_
    repeat (first
      | (refine AWP_seq (AWP_regS tOk rfl ?_); simp)
      | (refine AWP_regS tOk rfl ?_; simp)
      | (refine AWP_skip ?_; simp)
      | (refine AWP_exit ?_; simp)
      | (refine AWP_ret ?_; simp)
      | refine AWP_block ?_
      | refine AWP_seq ?_)
    rw [← hr]; rfl
  · simp at hu
    rw [List.dropWhile_cons] at hr
    repeat (first
      | (refine AWP_seq (AWP_regS tOk rfl ?_); simp)
      | (refine AWP_regS tOk rfl ?_; simp)
      | (refine AWP_skip ?_; simp)
      | (refine AWP_exit ?_; simp)
      | (refine AWP_ret ?_; simp)
      | refine AWP_block ?_
      | refine AWP_seq ?_)
    refine AWP_cond (b := true) ?_ ?_
    · simp
    repeat (first
      | (refine AWP_seq (AWP_regS tOk rfl ?_); simp)
      | (refine AWP_regS tOk rfl ?_; simp)
      | (refine AWP_skip ?_; simp)
      | (refine AWP_exit ?_; simp)
      | (refine AWP_ret ?_; simp)
      | refine AWP_block ?_
      | refine AWP_seq ?_)
    refine AStep_PC rfl rfl (by simp) (pc77 p c.toNat (by have := c.toNat_lt; omega)) rfl ?_
    rintro _ rfl
    simp
    refine AWP_cond2 rfl (fun h => ?_) (fun h => ?_)
    · repeat (first
        | (refine AWP_seq (AWP_regS tOk rfl ?_); simp)
        | (refine AWP_regS tOk rfl ?_; simp)
        | (refine AWP_skip ?_; simp)
        | (refine AWP_exit ?_; simp)
        | (refine AWP_ret ?_; simp)
        | refine AWP_block ?_
        | refine AWP_seq ?_)
      simp at h
      rw [h] at hr
      simpa using hr
    · have h0 : (1 : Int) ≤ v.length + 1 := by omega
      repeat (first
        | (refine AWP_seq (AWP_regS tOk rfl ?_); simp [h0])
        | (refine AWP_regS tOk rfl ?_; simp [h0])
        | (refine AWP_skip ?_; simp [h0])
        | (refine AWP_exit ?_; simp [h0])
        | (refine AWP_ret ?_; simp [h0])
        | refine AWP_block ?_
        | refine AWP_seq ?_)
      simp at h
      rw [if_pos h] at hr
      refine ALoop_end [] (ih v ⟨by omega, hr⟩ (by simp)) rfl (by simp) ?_ (by simp) (by simp)
      simp

def trimS (cs s : List UInt8) : List UInt8 := (rtrim (fun c => setOf cs c.toNat) s).dropWhile (fun c => setOf cs c.toNat)
theorem rtrim_len (p : UInt8 → Bool) (s : List UInt8) : (rtrim p s).length ≤ s.length := by
  simp only [rtrim, List.length_reverse]
  have := (List.dropWhile_sublist p (l := s.reverse)).length_le
  simpa using this
set_option maxHeartbeats 1000000 in
theorem pc64 (cs s : List UInt8) (hcs : ∀ c ∈ cs, c.toNat < 128) (hlen : cs.length ≤ 1000000) (h2 : 2 ≤ cs.length) (hs : s.length ≤ 1000000) (hs0 : s ≠ []) : PC Tryd.prog 64 [.str s, .str cs] (fun r => r = .str (trimS cs s)) := by
  refine PC_body tOk Tryd.func64 rfl Tryd.results64 rfl (by simp [Tryd.ntmps64]) ?_
  rw [Tryd.ntmps64]
  simp only [argSlots]
  repeat (first
    | (refine AWP_seq (AWP_regS tOk rfl ?_); simp)
    | (refine AWP_regS tOk rfl ?_; simp)
    | (refine AWP_skip ?_; simp)
    | (refine AWP_exit ?_; simp)
    | (refine AWP_ret ?_; simp)
    | refine AWP_block ?_
    | refine AWP_seq ?_)
  rcases cs with _ | ⟨a, _ | ⟨b, r⟩⟩
  · simp at h2
  · simp at h2
  generalize hcc : a :: b :: r = cs at *
  have hc0 : cs ≠ [] := by rw [← hcc]; simp
  refine AWP_cond (b := false) (by simp [hs0, hc0]) ?_
  have hne : ((cs.length : Int) == 1) = false := by simp; omega
  have hg : cs[0]? = some a := by rw [← hcc]; rfl
  repeat (first
    | (refine AWP_seq (AWP_regS tOk rfl ?_); simp [hne, hg])
    | (refine AWP_regS tOk rfl ?_; simp [hne, hg])
    | (refine AWP_skip ?_; simp [hne, hg])
    | (refine AWP_exit ?_; simp [hne, hg])
    | (refine AWP_ret ?_; simp [hne, hg])
    | refine AWP_block ?_
    | refine AWP_seq ?_)
  refine AWP_cond rfl ?_
  repeat (first
    | (refine AWP_seq (AWP_regS tOk rfl ?_); simp [-Value.cells, -AV.leaf])
    | (refine AWP_regS tOk rfl ?_; simp [-Value.cells, -AV.leaf])
    | (refine AWP_skip ?_; simp [-Value.cells, -AV.leaf])
    | (refine AWP_exit ?_; simp [-Value.cells, -AV.leaf])
    | (refine AWP_ret ?_; simp [-Value.cells, -AV.leaf])
    | refine AWP_block ?_
    | refine AWP_seq ?_)
  refine AStep_PC rfl rfl (by simp) (pc71 cs hcs hlen) rfl ?_
  rintro _ rfl
  simp [-Value.cells, -AV.leaf]
  repeat (first
    | (refine AWP_seq (AWP_regS tOk rfl ?_); simp [-Value.cells, -AV.leaf])
    | (refine AWP_regS tOk rfl ?_; simp [-Value.cells, -AV.leaf])
    | (refine AWP_skip ?_; simp [-Value.cells, -AV.leaf])
    | (refine AWP_exit ?_; simp [-Value.cells, -AV.leaf])
    | (refine AWP_ret ?_; simp [-Value.cells, -AV.leaf])
    | refine AWP_block ?_
    | refine AWP_seq ?_)
  refine AWP_cond rfl ?_
  repeat (first
    | (refine AWP_seq (AWP_regS tOk rfl ?_); simp)
    | (refine AWP_regS tOk rfl ?_; simp)
    | (refine AWP_skip ?_; simp)
    | (refine AWP_exit ?_; simp)
    | (refine AWP_ret ?_; simp)
    | refine AWP_block ?_
    | refine AWP_seq ?_)
  refine AStep_PCflat rfl rfl (by first | (simp; done) | (simp; rfl)) (pc73 (setOf cs) s hs) rfl ?_
  rintro _ rfl
  refine ⟨by simp, ?_⟩
  simp
  refine AStep_PCflat rfl rfl (by first | (simp; done) | (simp; rfl)) (pc72 (setOf cs) _ (Nat.le_trans (rtrim_len _ s) hs)) rfl ?_
  rintro _ rfl
  refine ⟨by simp, ?_⟩
  simp
  repeat (first
    | (refine AWP_seq (AWP_regS tOk rfl ?_); simp)
    | (refine AWP_regS tOk rfl ?_; simp)
    | (refine AWP_skip ?_; simp)
    | (refine AWP_exit ?_; simp)
    | (refine AWP_ret ?_; simp)
    | refine AWP_block ?_
    | refine AWP_seq ?_)
  rfl

theorem dw_nil {α : Type} (p : α → Bool) (l : List α) : l.dropWhile p = [] ↔ ∀ x ∈ l, p x = true := by
  induction l with
  | nil => simp
  | cons a l ih =>
    rw [List.dropWhile_cons]
    split
    · rename_i h; rw [ih]; simp [h]
    · rename_i h; simp [h]
theorem dw_mem {α : Type} (p : α → Bool) (l : List α) (x : α) (h : x ∈ l) : p x = true ∨ x ∈ l.dropWhile p := by
  induction l with
  | nil => cases h
  | cons a l ih =>
    rw [List.dropWhile_cons]
    split
    · rename_i ha
      rcases List.mem_cons.1 h with rfl | h
      · exact .inl ha
      · exact ih h
    · exact .inr h
theorem trimS_nil (cs s : List UInt8) : (trimS cs s == []) = s.all (fun c => setOf cs c.toNat) := by
  rw [Bool.eq_iff_iff]
  simp only [beq_iff_eq, trimS, List.all_eq_true]
  rw [dw_nil]
  constructor
  · intro h x hx
    rcases dw_mem (fun c => setOf cs c.toNat) s.reverse x (by simpa using hx) with h1 | h1
    · exact h1
    · exact h x (by simpa [rtrim] using h1)
  · intro h x hx
    refine h x ?_
    have := (List.dropWhile_sublist (fun c : UInt8 => setOf cs c.toNat) (l := s.reverse)).subset (by simpa [rtrim] using hx)
    simpa using this

def charset : List UInt8 := [97, 98, 99, 100, 101, 102, 103, 104, 105, 106, 107, 108, 109, 110, 111, 112, 113, 114, 115, 116, 117, 118, 119, 120, 121, 122, 65, 66, 67, 68, 69, 70, 71, 72, 73, 74, 75, 76, 77, 78, 79, 80, 81, 82, 83, 84, 85, 86, 87, 88, 89, 90, 48, 49, 50, 51, 52, 53, 54, 55, 56, 57, 95, 46, 45]
theorem charset_ok : ∀ n : Fin 256, setOf charset n.val = allowedN n.val := by decide +kernel
theorem charset_set (c : UInt8) : setOf charset c.toNat = allowedN c.toNat := charset_ok ⟨c.toNat, c.toNat_lt⟩
theorem charset_lt : ∀ c ∈ charset, c.toNat < 128 := by decide +kernel

set_option maxHeartbeats 1000000 in
theorem pc53 (s : List UInt8) : PC Tryd.prog 53 [.str s] (fun r => r = .bool (nameOk s)) := by
  refine PC_body tOk Tryd.func53 rfl Tryd.results53 rfl (by simp [Tryd.ntmps53]) ?_
  rw [Tryd.ntmps53]
  simp only [argSlots]
  rcases s with _ | ⟨c, r⟩
  · repeat (first
      | (refine AWP_seq (AWP_regS tOk rfl ?_); simp)
      | (refine AWP_regS tOk rfl ?_; simp)
      | (refine AWP_skip ?_; simp)
      | (refine AWP_exit ?_; simp)
      | (refine AWP_ret ?_; simp)
      | refine AWP_block ?_
      | refine AWP_seq ?_)
    refine AStep_skip rfl rfl ?_
    simp
    repeat (first
      | (refine AWP_seq (AWP_regS tOk rfl ?_); simp)
      | (refine AWP_regS tOk rfl ?_; simp)
      | (refine AWP_skip ?_; simp)
      | (refine AWP_exit ?_; simp)
      | (refine AWP_ret ?_; simp)
      | refine AWP_block ?_
      | refine AWP_seq ?_)
    rfl
  generalize hs : c :: r = s
  have hs0 : s ≠ [] := by rw [← hs]; simp
  have hem : s.isEmpty = false := by rw [← hs]; rfl
  have hpos : 0 < s.length := List.length_pos_iff.2 hs0
  by_cases hl : s.length ≤ 48
  · have hl' : (s.length : Int) ≤ 48 := by omega
    repeat (first
      | (refine AWP_seq (AWP_regS tOk rfl ?_); simp [hem, hl'])
      | (refine AWP_regS tOk rfl ?_; simp [hem, hl'])
      | (refine AWP_skip ?_; simp [hem, hl'])
      | (refine AWP_exit ?_; simp [hem, hl'])
      | (refine AWP_ret ?_; simp [hem, hl'])
      | refine AWP_block ?_
      | refine AWP_seq ?_)
    refine AStep_PC rfl rfl (by simp) (pc64 charset s charset_lt (by decide) (by decide) (by omega) hs0) rfl ?_
    rintro _ rfl
    simp
    repeat (first
      | (refine AWP_seq (AWP_regS tOk rfl ?_); simp)
      | (refine AWP_regS tOk rfl ?_; simp)
      | (refine AWP_skip ?_; simp)
      | (refine AWP_exit ?_; simp)
      | (refine AWP_ret ?_; simp)
      | refine AWP_block ?_
      | refine AWP_seq ?_)
    rw [show (trimS charset s).isEmpty = (trimS charset s == []) by cases trimS charset s <;> rfl, trimS_nil]
    simp only [charset_set, nameOk]
    rw [decide_eq_true hl', decide_eq_true (show (1 : Int) ≤ s.length by omega)]
    simp
  · have hl' : ¬ (s.length : Int) ≤ 48 := by omega
    have hl2 : (48 : Int) < s.length := by omega
    repeat (first
      | (refine AWP_seq (AWP_regS tOk rfl ?_); simp [hem, hl'])
      | (refine AWP_regS tOk rfl ?_; simp [hem, hl'])
      | (refine AWP_skip ?_; simp [hem, hl'])
      | (refine AWP_exit ?_; simp [hem, hl'])
      | (refine AWP_ret ?_; simp [hem, hl'])
      | refine AWP_block ?_
      | refine AWP_seq ?_)
    refine AStep_skip (by simp [hem, hl2]) rfl ?_
    simp [hem, hl2]
    repeat (first
      | (refine AWP_seq (AWP_regS tOk rfl ?_); simp)
      | (refine AWP_regS tOk rfl ?_; simp)
      | (refine AWP_skip ?_; simp)
      | (refine AWP_exit ?_; simp)
      | (refine AWP_ret ?_; simp)
      | refine AWP_block ?_
      | refine AWP_seq ?_)
    simp [nameOk, hl']
end Go.Abs
set_option maxRecDepth 100000
namespace Go.Abs
open Go Go.Proofs
set_option linter.unusedSimpArgs false

set_option maxHeartbeats 2000000 in
theorem pc25 (d : Disk) : PC Tryd.prog 25 [encD d] (fun r => r = .i (checkR d)) := by
  refine PC_body tOk Tryd.func25 rfl Tryd.results25 rfl (by simp [Tryd.ntmps25]) ?_
  rw [Tryd.ntmps25]
  simp only [argSlots]
  simp only [encD]
  refine AWP_lenAgg 0 0 rfl rfl (fun hlen => ?_)
  rw [List.length_map] at hlen
  repeat (first
    | (refine AWP_seq (AWP_regS tOk rfl ?_); simp)
    | (refine AWP_regS tOk rfl ?_; simp)
    | (refine AWP_skip ?_; simp)
    | (refine AWP_exit ?_; simp)
    | (refine AWP_ret ?_; simp)
    | refine AWP_block ?_
    | refine AWP_seq ?_)
  refine AWP_cond2 rfl (fun h => ?_) (fun h1 => ?_)
  · repeat (first
      | (refine AWP_seq (AWP_regS tOk rfl ?_); simp)
      | (refine AWP_regS tOk rfl ?_; simp)
      | (refine AWP_skip ?_; simp)
      | (refine AWP_exit ?_; simp)
      | (refine AWP_ret ?_; simp)
      | refine AWP_block ?_
      | refine AWP_seq ?_)
    simp [checkR, badSp, h]
  repeat (first
    | (refine AWP_seq (AWP_regS tOk rfl ?_); simp)
    | (refine AWP_regS tOk rfl ?_; simp)
    | (refine AWP_skip ?_; simp)
    | (refine AWP_exit ?_; simp)
    | (refine AWP_ret ?_; simp)
    | refine AWP_block ?_
    | refine AWP_seq ?_)
  refine AWP_cond2 rfl (fun h => ?_) (fun h2 => ?_)
  · repeat (first
      | (refine AWP_seq (AWP_regS tOk rfl ?_); simp)
      | (refine AWP_regS tOk rfl ?_; simp)
      | (refine AWP_skip ?_; simp)
      | (refine AWP_exit ?_; simp)
      | (refine AWP_ret ?_; simp)
      | refine AWP_block ?_
      | refine AWP_seq ?_)
    simp only [checkR, badSp, h1]
    simp at h
    simp [h]
  repeat (first
    | (refine AWP_seq (AWP_regS tOk rfl ?_); simp)
    | (refine AWP_regS tOk rfl ?_; simp)
    | (refine AWP_skip ?_; simp)
    | (refine AWP_exit ?_; simp)
    | (refine AWP_ret ?_; simp)
    | refine AWP_block ?_
    | refine AWP_seq ?_)
  refine AWP_countI d.files.length (fun j => chkL none d.files = chkL (prevN d.files j) (d.files.drop j)) (fun j => [(1, .vptr 0 0), (22, .list (d.files.map encF)), (23, .i d.files.length), (24, .i j)]) (fun _ => [.vars [.list (d.files.map encF), .i d.space]]) rfl (by simp) (by simp) (by simp) (by simp) (by simp [prevN]) ?_
  intro j hj hI ih
  repeat (first
    | (refine AWP_seq (AWP_regS tOk rfl ?_); simp)
    | (refine AWP_regS tOk rfl ?_; simp)
    | (refine AWP_skip ?_; simp)
    | (refine AWP_exit ?_; simp)
    | (refine AWP_ret ?_; simp)
    | refine AWP_block ?_
    | refine AWP_seq ?_)
  refine AWP_cond2 rfl (fun hlt => ?_) (fun hge => ?_)
  · have hlt' : j < d.files.length := by simpa using hlt
    rw [drop_get hlt', chkL] at hI
    repeat (first
      | (refine AWP_seq (AWP_regS tOk rfl ?_); simp [hlt'])
      | (refine AWP_regS tOk rfl ?_; simp [hlt'])
      | (refine AWP_skip ?_; simp [hlt'])
      | (refine AWP_exit ?_; simp [hlt'])
      | (refine AWP_ret ?_; simp [hlt'])
      | refine AWP_block ?_
      | refine AWP_seq ?_)
    refine AStep_PC rfl rfl (by simp) (pc53 _) rfl ?_
    rintro _ rfl
    simp [hlt']
    refine AWP_cond2 rfl (fun hno => ?_) (fun hok => ?_)
    · repeat (first
        | (refine AWP_seq (AWP_regS tOk rfl ?_); simp)
        | (refine AWP_regS tOk rfl ?_; simp)
        | (refine AWP_skip ?_; simp)
        | (refine AWP_exit ?_; simp)
        | (refine AWP_ret ?_; simp)
        | refine AWP_block ?_
        | refine AWP_seq ?_)
      simp at hno
      rw [if_pos hno] at hI
      simp at h2
      rw [checkR, if_neg (by simp [badSp, h1]), if_neg (by omega), hI]
      simp
    · simp at hok
      rw [if_neg (by simp [hok])] at hI
      have hbp : ∀ b, badPrev (prevN d.files j) d.files[j].name = b → b = true → (8 : Int) + 6 = checkR d := fun b e1 e2 => by
        rw [e1, if_pos e2] at hI
        simp at h2
        rw [checkR, if_neg (by simp [badSp, h1]), if_neg (by omega), hI]
        simp
      have hbn : badPrev (prevN d.files j) d.files[j].name = false → chkL none d.files = chkL (prevN d.files (j + 1)) (d.files.drop (j + 1)) := fun e => by
        rw [e, if_neg (by simp)] at hI
        rw [prevN_succ hlt', hI]
      rcases j with _ | j
      · repeat (first
          | (refine AWP_seq (AWP_regS tOk rfl ?_); simp)
          | (refine AWP_regS tOk rfl ?_; simp)
          | (refine AWP_skip ?_; simp)
          | (refine AWP_exit ?_; simp)
          | (refine AWP_ret ?_; simp)
          | refine AWP_block ?_
          | refine AWP_seq ?_)
        refine AWP_draw tOk mixed [] [0, 1, 2, 3, 4, 5, 6, 7, 8, 9, 10, 11, 12, 13, 14] rfl (by kernel_rfl) ?_
        simp [hlt']
        refine AWP_cond rfl ?_
        repeat (first
          | (refine AWP_seq (AWP_regS tOk rfl ?_); simp)
          | (refine AWP_regS tOk rfl ?_; simp)
          | (refine AWP_skip ?_; simp)
          | (refine AWP_exit ?_; simp)
          | (refine AWP_ret ?_; simp)
          | refine AWP_block ?_
          | refine AWP_seq ?_)
        refine ALoop_end _ (ih hlt' (hbn rfl)) rfl (by simp) ?_ (by simp) (by simp)
        simp
        exact wrap_i64 _ (by omega) (by omega)
      · have hj1 : j < d.files.length := by omega
        have hw : IntKind.i64.wrap (j : Int) = j := wrap_i64 _ (by omega) (by omega)
        have g1 : (0 : Int) ≤ (j : Int) + 1 := by omega
        have g2 : (j : Int) + 1 < d.files.length := by omega
        repeat (first
          | (refine AWP_seq (AWP_regS tOk rfl ?_); simp)
          | (refine AWP_regS tOk rfl ?_; simp)
          | (refine AWP_skip ?_; simp)
          | (refine AWP_exit ?_; simp)
          | (refine AWP_ret ?_; simp)
          | refine AWP_block ?_
          | refine AWP_seq ?_)
        refine AWP_draw tOk mixed [] [0, 1, 2, 3, 4, 5, 6, 7, 8, 9, 10, 11, 12, 13, 14] rfl (by kernel_rfl) ?_
        simp [hlt', hj1, hw, g1, g2]
        refine AWP_cond2 rfl (fun hb => ?_) (fun hb => ?_)
        · repeat (first
            | (refine AWP_seq (AWP_regS tOk rfl ?_); simp)
            | (refine AWP_regS tOk rfl ?_; simp)
            | (refine AWP_skip ?_; simp)
            | (refine AWP_exit ?_; simp)
            | (refine AWP_ret ?_; simp)
            | refine AWP_block ?_
            | refine AWP_seq ?_)
          exact hbp _ rfl (by rw [prevN_succ hj1]; exact hb)
        · repeat (first
            | (refine AWP_seq (AWP_regS tOk rfl ?_); simp)
            | (refine AWP_regS tOk rfl ?_; simp)
            | (refine AWP_skip ?_; simp)
            | (refine AWP_exit ?_; simp)
            | (refine AWP_ret ?_; simp)
            | refine AWP_block ?_
            | refine AWP_seq ?_)
          refine ALoop_end _ (ih hlt' (hbn (by rw [prevN_succ hj1]; exact hb))) rfl (by simp) ?_ (by simp) (by simp)
          simp
          exact wrap_i64 _ (by omega) (by omega)
  · have hge' : j = d.files.length := by simp at hge; omega
    subst hge'
    repeat (first
      | (refine AWP_seq (AWP_regS tOk rfl ?_); simp)
      | (refine AWP_regS tOk rfl ?_; simp)
      | (refine AWP_skip ?_; simp)
      | (refine AWP_exit ?_; simp)
      | (refine AWP_ret ?_; simp)
      | refine AWP_block ?_
      | refine AWP_seq ?_)
    refine AStep_PC rfl rfl (by simp) (pc46 _) rfl ?_
    rintro _ rfl
    simp
    repeat (first
      | (refine AWP_seq (AWP_regS tOk rfl ?_); simp)
      | (refine AWP_regS tOk rfl ?_; simp)
      | (refine AWP_skip ?_; simp)
      | (refine AWP_exit ?_; simp)
      | (refine AWP_ret ?_; simp)
      | refine AWP_block ?_
      | refine AWP_seq ?_)
    rw [List.drop_length, chkL] at hI
    simp at h2
    rw [checkR, if_neg (by simp [badSp, h1]), if_neg (by omega), if_pos hI]
    refine AWP_cond2 rfl (fun hb => ?_) (fun hb => ?_)
    · repeat (first
        | (refine AWP_seq (AWP_regS tOk rfl ?_); simp)
        | (refine AWP_regS tOk rfl ?_; simp)
        | (refine AWP_skip ?_; simp)
        | (refine AWP_exit ?_; simp)
        | (refine AWP_ret ?_; simp)
        | refine AWP_block ?_
        | refine AWP_seq ?_)
      rw [overB, hb]
    · repeat (first
        | (refine AWP_seq (AWP_regS tOk rfl ?_); simp)
        | (refine AWP_regS tOk rfl ?_; simp)
        | (refine AWP_skip ?_; simp)
        | (refine AWP_exit ?_; simp)
        | (refine AWP_ret ?_; simp)
        | refine AWP_block ?_
        | refine AWP_seq ?_)
      rw [overB, hb]

@[simp] def encS (s : List UInt8) : AV := .str s
def checkedR (d : Disk) (ns : List (List UInt8)) : Int := if checkR d = 0 then (if ns.all nameOk = true then 0 else 8) else checkR d
set_option maxHeartbeats 1000000 in
theorem pc49 (d : Disk) (ns : List (List UInt8)) : PC Tryd.prog 49 [encD d, .list (ns.map encS)] (fun r => r = .i (checkedR d ns)) := by
  refine PC_body tOk Tryd.func49 rfl Tryd.results49 rfl (by simp [Tryd.ntmps49]) ?_
  rw [Tryd.ntmps49]
  simp only [argSlots]
  simp only [encD]
  refine AWP_len 1 rfl (fun hlen => ?_)
  rw [List.length_map] at hlen
  repeat (first
    | (refine AWP_seq (AWP_regS tOk rfl ?_); simp)
    | (refine AWP_regS tOk rfl ?_; simp)
    | (refine AWP_skip ?_; simp)
    | (refine AWP_exit ?_; simp)
    | (refine AWP_ret ?_; simp)
    | refine AWP_block ?_
    | refine AWP_seq ?_)
  refine AStep_PC rfl rfl (by simp) (pc25 d) rfl ?_
  rintro _ rfl
  simp
  repeat (first
    | (refine AWP_seq (AWP_regS tOk rfl ?_); simp)
    | (refine AWP_regS tOk rfl ?_; simp)
    | (refine AWP_skip ?_; simp)
    | (refine AWP_exit ?_; simp)
    | (refine AWP_ret ?_; simp)
    | refine AWP_block ?_
    | refine AWP_seq ?_)
  refine AWP_cond2 rfl (fun h => ?_) (fun h1 => ?_)
  · repeat (first
      | (refine AWP_seq (AWP_regS tOk rfl ?_); simp)
      | (refine AWP_regS tOk rfl ?_; simp)
      | (refine AWP_skip ?_; simp)
      | (refine AWP_exit ?_; simp)
      | (refine AWP_ret ?_; simp)
      | refine AWP_block ?_
      | refine AWP_seq ?_)
    simp at h
    simp [checkedR, h]
  simp at h1
  repeat (first
    | (refine AWP_seq (AWP_regS tOk rfl ?_); simp)
    | (refine AWP_regS tOk rfl ?_; simp)
    | (refine AWP_skip ?_; simp)
    | (refine AWP_exit ?_; simp)
    | (refine AWP_ret ?_; simp)
    | refine AWP_block ?_
    | refine AWP_seq ?_)
  refine AWP_countI ns.length (fun j => (ns.take j).all nameOk = true) (fun j => [(13, .list (ns.map encS)), (14, .i ns.length), (15, .i j)]) (fun _ => []) rfl (by simp) (by simp) (by simp) (by simp) (by simp) ?_
  intro j hj hI ih
  repeat (first
    | (refine AWP_seq (AWP_regS tOk rfl ?_); simp)
    | (refine AWP_regS tOk rfl ?_; simp)
    | (refine AWP_skip ?_; simp)
    | (refine AWP_exit ?_; simp)
    | (refine AWP_ret ?_; simp)
    | refine AWP_block ?_
    | refine AWP_seq ?_)
  refine AWP_cond2 rfl (fun hlt => ?_) (fun hge => ?_)
  · have hlt' : j < ns.length := by simpa using hlt
    repeat (first
      | (refine AWP_seq (AWP_regS tOk rfl ?_); simp [hlt'])
      | (refine AWP_regS tOk rfl ?_; simp [hlt'])
      | (refine AWP_skip ?_; simp [hlt'])
      | (refine AWP_exit ?_; simp [hlt'])
      | (refine AWP_ret ?_; simp [hlt'])
      | refine AWP_block ?_
      | refine AWP_seq ?_)
    refine AStep_PC rfl rfl (by simp) (pc53 _) rfl ?_
    rintro _ rfl
    simp
    refine AWP_cond2 rfl (fun hno => ?_) (fun hok => ?_)
    · repeat (first
        | (refine AWP_seq (AWP_regS tOk rfl ?_); simp)
        | (refine AWP_regS tOk rfl ?_; simp)
        | (refine AWP_skip ?_; simp)
        | (refine AWP_exit ?_; simp)
        | (refine AWP_ret ?_; simp)
        | refine AWP_block ?_
        | refine AWP_seq ?_)
      have := all_false_of ns nameOk j hlt' (by simpa using hno)
      simp [checkedR, h1, this]
    · repeat (first
        | (refine AWP_seq (AWP_regS tOk rfl ?_); simp)
        | (refine AWP_regS tOk rfl ?_; simp)
        | (refine AWP_skip ?_; simp)
        | (refine AWP_exit ?_; simp)
        | (refine AWP_ret ?_; simp)
        | refine AWP_block ?_
        | refine AWP_seq ?_)
      refine ALoop_end _ (ih hlt' ?_) rfl (by simp) ?_ (by simp) (by simp)
      · rw [all_take_succ ns _ j hlt', hI]; simpa using hok
      · simp
        exact wrap_i64 _ (by omega) (by omega)
  · have hge' : j = ns.length := by simp at hge; omega
    subst hge'
    repeat (first
      | (refine AWP_seq (AWP_regS tOk rfl ?_); simp)
      | (refine AWP_regS tOk rfl ?_; simp)
      | (refine AWP_skip ?_; simp)
      | (refine AWP_exit ?_; simp)
      | (refine AWP_ret ?_; simp)
      | refine AWP_block ?_
      | refine AWP_seq ?_)
    rw [List.take_length] at hI
    simp [checkedR, h1, hI]
end Go.Abs
set_option maxRecDepth 100000
namespace Go.Abs
open Go Go.Proofs
set_option linter.unusedSimpArgs false

theorem pc68 (s : List UInt8) : PC Tryd.prog 68 [.str s] (fun r => r = .bool false) := by
  refine PC_body tOk Tryd.func68 rfl Tryd.results68 rfl (by simp [Tryd.ntmps68]) ?_
  rw [Tryd.ntmps68]
  simp only [argSlots]
  repeat (first
    | (refine AWP_seq (AWP_regS tOk rfl ?_); simp)
    | (refine AWP_regS tOk rfl ?_; simp)
    | (refine AWP_skip ?_; simp)
    | (refine AWP_exit ?_; simp)
    | (refine AWP_ret ?_; simp)
    | refine AWP_block ?_
    | refine AWP_seq ?_)
def cmpS (a b : List UInt8) : Int := if Op.bytesLess a b = true then -1 else if strLe a b = false then 1 else 0
theorem pc63 (a b : List UInt8) : PC Tryd.prog 63 [.str a, .str b] (fun r => r = .i (cmpS a b)) := by
  refine PC_body tOk Tryd.func63 rfl Tryd.results63 rfl (by simp [Tryd.ntmps63]) ?_
  rw [Tryd.ntmps63]
  simp only [argSlots]
  repeat (first
    | (refine AWP_seq (AWP_regS tOk rfl ?_); simp)
    | (refine AWP_regS tOk rfl ?_; simp)
    | (refine AWP_skip ?_; simp)
    | (refine AWP_exit ?_; simp)
    | (refine AWP_ret ?_; simp)
    | refine AWP_block ?_
    | refine AWP_seq ?_)
  refine AStep_PC rfl rfl (by simp) (pc68 a) rfl ?_
  rintro _ rfl
  simp
  repeat (first
    | (refine AWP_seq (AWP_regS tOk rfl ?_); simp)
    | (refine AWP_regS tOk rfl ?_; simp)
    | (refine AWP_skip ?_; simp)
    | (refine AWP_exit ?_; simp)
    | (refine AWP_ret ?_; simp)
    | refine AWP_block ?_
    | refine AWP_seq ?_)
  refine AStep_PC rfl rfl (by simp) (pc68 b) rfl ?_
  rintro _ rfl
  simp
  repeat (first
    | (refine AWP_seq (AWP_regS tOk rfl ?_); simp)
    | (refine AWP_regS tOk rfl ?_; simp)
    | (refine AWP_skip ?_; simp)
    | (refine AWP_exit ?_; simp)
    | (refine AWP_ret ?_; simp)
    | refine AWP_block ?_
    | refine AWP_seq ?_)
  refine AWP_cond rfl ?_
  repeat (first
    | (refine AWP_seq (AWP_regS tOk rfl ?_); simp)
    | (refine AWP_regS tOk rfl ?_; simp)
    | (refine AWP_skip ?_; simp)
    | (refine AWP_exit ?_; simp)
    | (refine AWP_ret ?_; simp)
    | refine AWP_block ?_
    | refine AWP_seq ?_)
  refine AWP_cond rfl ?_
  repeat (first
    | (refine AWP_seq (AWP_regS tOk rfl ?_); simp)
    | (refine AWP_regS tOk rfl ?_; simp)
    | (refine AWP_skip ?_; simp)
    | (refine AWP_exit ?_; simp)
    | (refine AWP_ret ?_; simp)
    | refine AWP_block ?_
    | refine AWP_seq ?_)
  refine AWP_cond2 rfl (fun h => ?_) (fun h => ?_)
  · repeat (first
      | (refine AWP_seq (AWP_regS tOk rfl ?_); simp)
      | (refine AWP_regS tOk rfl ?_; simp)
      | (refine AWP_skip ?_; simp)
      | (refine AWP_exit ?_; simp)
      | (refine AWP_ret ?_; simp)
      | refine AWP_block ?_
      | refine AWP_seq ?_)
    simp [cmpS, h]
  repeat (first
    | (refine AWP_seq (AWP_regS tOk rfl ?_); simp)
    | (refine AWP_regS tOk rfl ?_; simp)
    | (refine AWP_skip ?_; simp)
    | (refine AWP_exit ?_; simp)
    | (refine AWP_ret ?_; simp)
    | refine AWP_block ?_
    | refine AWP_seq ?_)
  refine AWP_cond2 rfl (fun h2 => ?_) (fun h2 => ?_)
  · repeat (first
      | (refine AWP_seq (AWP_regS tOk rfl ?_); simp)
      | (refine AWP_regS tOk rfl ?_; simp)
      | (refine AWP_skip ?_; simp)
      | (refine AWP_exit ?_; simp)
      | (refine AWP_ret ?_; simp)
      | refine AWP_block ?_
      | refine AWP_seq ?_)
    have h3 : strLe a b = false := by unfold strLe; revert h2; cases Op.bytesLess a b <;> cases (a == b) <;> simp
    simp [cmpS, h, h3]
  · repeat (first
      | (refine AWP_seq (AWP_regS tOk rfl ?_); simp)
      | (refine AWP_regS tOk rfl ?_; simp)
      | (refine AWP_skip ?_; simp)
      | (refine AWP_exit ?_; simp)
      | (refine AWP_ret ?_; simp)
      | refine AWP_block ?_
      | refine AWP_seq ?_)
    have h3 : strLe a b = true := by unfold strLe; revert h2; cases Op.bytesLess a b <;> cases (a == b) <;> simp
    simp [cmpS, h, h3]
theorem pc62 (f : File) (s : List UInt8) : PC Tryd.prog 62 [encF f, .str s] (fun r => r = .i (cmpS f.name s)) := by
  refine PC_body tOk Tryd.func62 rfl Tryd.results62 rfl (by simp [Tryd.ntmps62]) ?_
  rw [Tryd.ntmps62]
  simp only [argSlots]
  simp only [encF]
  repeat (first
    | (refine AWP_seq (AWP_regS tOk rfl ?_); simp)
    | (refine AWP_regS tOk rfl ?_; simp)
    | (refine AWP_skip ?_; simp)
    | (refine AWP_exit ?_; simp)
    | (refine AWP_ret ?_; simp)
    | refine AWP_block ?_
    | refine AWP_seq ?_)
  refine AStep_PC rfl rfl (by simp) (pc63 f.name s) rfl ?_
  rintro _ rfl
  simp
  repeat (first
    | (refine AWP_seq (AWP_regS tOk rfl ?_); simp)
    | (refine AWP_regS tOk rfl ?_; simp)
    | (refine AWP_skip ?_; simp)
    | (refine AWP_exit ?_; simp)
    | (refine AWP_ret ?_; simp)
    | refine AWP_block ?_
    | refine AWP_seq ?_)

def lessF (f : File) (s : List UInt8) : Bool := Op.bytesLess f.name s
theorem cmpS_neg (a b : List UInt8) : decide (cmpS a b < 0) = Op.bytesLess a b := by
  unfold cmpS
  cases h : Op.bytesLess a b
  · simp; split <;> simp
  · simp
def lb (fs : List File) (s : List UInt8) : Nat := (fs.takeWhile (lessF · s)).length
def foundAt (fs : List File) (s : List UInt8) (i : Nat) : Bool := match fs[i]? with
  | some f => cmpS f.name s == 0
  | none => false
theorem lb_uniq (fs : List File) (s : List UInt8) (i : Nat) (hi : i ≤ fs.length) (h1 : ∀ k, (h : k < fs.length) → k < i → lessF fs[k] s = true) (h2 : ∀ k, (h : k < fs.length) → i ≤ k → lessF fs[k] s = false) : i = lb fs s := by
  induction fs generalizing i with
  | nil => simp at hi; subst hi; rfl
  | cons f fs ih =>
    unfold lb
    rw [List.takeWhile_cons]
    rcases i with _ | i
    · have := h2 0 (by simp) (Nat.le_refl _)
      simp at this
      simp [this]
    · have := h1 0 (by simp) (by omega)
      simp at this
      simp only [this, if_true, List.length_cons]
      have := ih i (by simpa using hi) (fun k h hk => by have := h1 (k + 1) (by simpa using h) (by omega); simpa using this) (fun k h hk => by have := h2 (k + 1) (by simpa using h) (by omega); simpa using this)
      rw [this]; rfl

set_option maxHeartbeats 2000000 in
theorem pc61 (fs : List File) (s : List UInt8) (hn : fs.length ≤ 1000000) (hmono : ∀ a b, (ha : a ≤ b) → (hb : b < fs.length) → lessF fs[b] s = true → lessF (fs[a]'(by omega)) s = true) :
    PC Tryd.prog 61 [.list (fs.map encF), .str s, .fn (.func 62) [] []] (fun r => r = .tup [.i (lb fs s), .bool (foundAt fs s (lb fs s))]) := by
  refine PC_body tOk Tryd.func61 rfl Tryd.results61 rfl (by simp [Tryd.ntmps61]) ?_
  rw [Tryd.ntmps61]
  simp only [argSlots]
  repeat (first
    | (refine AWP_seq (AWP_regS tOk rfl ?_); simp)
    | (refine AWP_regS tOk rfl ?_; simp)
    | (refine AWP_skip ?_; simp)
    | (refine AWP_exit ?_; simp)
    | (refine AWP_ret ?_; simp)
    | refine AWP_block ?_
    | refine AWP_seq ?_)
  refine AWP_loop (ALoop_keep (sl' := [(0, .list (fs.map encF)), (1, .str s), (2, .fn (.func 62) [] []), (8, .i fs.length), (9, .i 0), (10, .i fs.length)]) ?_ (by simp))
  refine ALoop_wf (F := fun (p : Nat × Nat) => ⟨[(0, .list (fs.map encF)), (1, .str s), (2, .fn (.func 62) [] []), (8, .i fs.length), (9, .i p.1), (10, .i p.2)], []⟩)
    (fun p => p.1 ≤ p.2 ∧ p.2 ≤ fs.length ∧ (∀ k, (h : k < fs.length) → k < p.1 → lessF fs[k] s = true) ∧ (∀ k, (h : k < fs.length) → p.2 ≤ k → lessF fs[k] s = false)) (fun p => p.2 - p.1) ?_ (0, fs.length) ⟨Nat.zero_le _, Nat.le_refl _, fun k _ hk => by omega, fun k h hk => by omega⟩
  rintro ⟨i, j⟩ ⟨hij, hj, h1, h2⟩ ih
  simp only at hij hj h1 h2
  repeat (first
    | (refine AWP_seq (AWP_regS tOk rfl ?_); simp)
    | (refine AWP_regS tOk rfl ?_; simp)
    | (refine AWP_skip ?_; simp)
    | (refine AWP_exit ?_; simp)
    | (refine AWP_ret ?_; simp)
    | refine AWP_block ?_
    | refine AWP_seq ?_)
  refine AWP_cond2 rfl (fun h => ?_) (fun h => ?_)
  · have hlt : i < j := by simpa using h
    obtain ⟨m, hm, hm1, hm2⟩ : ∃ m : Nat, IntKind.i64.wrap ((IntKind.u64.wrap (IntKind.i64.wrap (↑i + ↑j))).fdiv (2 ^ min 1 IntKind.u64.bits)) = (m : Int) ∧ i ≤ m ∧ m < j := by
      refine ⟨(i + j) / 2, ?_, by omega, by omega⟩
      rw [wrap_i64 ((i : Int) + j) (by omega) (by omega)]
      rw [show IntKind.u64.wrap ((i : Int) + j) = (i : Int) + j by rw [IntKind.wrap_u64]; omega]
      rw [show (2 : Int) ^ min 1 IntKind.u64.bits = 2 by rfl, Int.fdiv_eq_ediv_of_nonneg _ (by omega)]
      rw [wrap_i64 _ (by omega) (by omega)]
      omega
    have hml : m < fs.length := by omega
    repeat (first
      | (refine AWP_seq (AWP_regS tOk rfl ?_); simp [hm, hml])
      | (refine AWP_regS tOk rfl ?_; simp [hm, hml])
      | (refine AWP_skip ?_; simp [hm, hml])
      | (refine AWP_exit ?_; simp [hm, hml])
      | (refine AWP_ret ?_; simp [hm, hml])
      | refine AWP_block ?_
      | refine AWP_seq ?_)
    refine AStep_PC rfl rfl (by simp) (pc62 fs[m] s) rfl ?_
    rintro _ rfl
    simp
    refine AWP_cond2 rfl (fun h => ?_) (fun h => ?_)
    · rw [cmpS_neg] at h
      repeat (first
        | (refine AWP_seq (AWP_regS tOk rfl ?_); simp)
        | (refine AWP_regS tOk rfl ?_; simp)
        | (refine AWP_skip ?_; simp)
        | (refine AWP_exit ?_; simp)
        | (refine AWP_ret ?_; simp)
        | refine AWP_block ?_
        | refine AWP_seq ?_)
      refine ALoop_end [] (ih (m + 1, j) ⟨by simp only; omega, hj, fun k hk hkm => ?_, h2⟩ (by simp only; omega)) rfl (by simp) ?_ (by simp) (by simp)
      · exact hmono k m (by simp only at hkm; omega) hml h
      · simp
        exact wrap_i64 _ (by omega) (by omega)
    · rw [cmpS_neg] at h
      repeat (first
        | (refine AWP_seq (AWP_regS tOk rfl ?_); simp)
        | (refine AWP_regS tOk rfl ?_; simp)
        | (refine AWP_skip ?_; simp)
        | (refine AWP_exit ?_; simp)
        | (refine AWP_ret ?_; simp)
        | refine AWP_block ?_
        | refine AWP_seq ?_)
      refine ALoop_end [] (ih (i, m) ⟨hm1, by simp only; omega, h1, fun k hk hkm => ?_⟩ (by simp only; omega)) rfl (by simp) ?_ (by simp) (by simp)
      · cases hl : lessF fs[k] s
        · rfl
        · have := hmono m k hkm hk hl
          rw [lessF, h] at this
          cases this
      · simp
  · have hge : i = j := by simp at h; omega
    subst hge
    have hlb := lb_uniq fs s i hj h1 h2
    by_cases hi : i < fs.length
    · repeat (first
        | (refine AWP_seq (AWP_regS tOk rfl ?_); simp [hi])
        | (refine AWP_regS tOk rfl ?_; simp [hi])
        | (refine AWP_skip ?_; simp [hi])
        | (refine AWP_exit ?_; simp [hi])
        | (refine AWP_ret ?_; simp [hi])
        | refine AWP_block ?_
        | refine AWP_seq ?_)
      refine AStep_PC rfl rfl (by simp) (pc62 fs[i] s) rfl ?_
      rintro _ rfl
      simp
      repeat (first
        | (refine AWP_seq (AWP_regS tOk rfl ?_); simp)
        | (refine AWP_regS tOk rfl ?_; simp)
        | (refine AWP_skip ?_; simp)
        | (refine AWP_exit ?_; simp)
        | (refine AWP_ret ?_; simp)
        | refine AWP_block ?_
        | refine AWP_seq ?_)
      rw [← hlb]
      simp [foundAt, hi]
    · repeat (first
        | (refine AWP_seq (AWP_regS tOk rfl ?_); simp [hi])
        | (refine AWP_regS tOk rfl ?_; simp [hi])
        | (refine AWP_skip ?_; simp [hi])
        | (refine AWP_exit ?_; simp [hi])
        | (refine AWP_ret ?_; simp [hi])
        | refine AWP_block ?_
        | refine AWP_seq ?_)
      have hi2 : fs.length ≤ i := by omega
      refine AStep_skip (by simp [hi2]) rfl ?_
      simp [hi2]
      repeat (first
        | (refine AWP_seq (AWP_regS tOk rfl ?_); simp)
        | (refine AWP_regS tOk rfl ?_; simp)
        | (refine AWP_skip ?_; simp)
        | (refine AWP_exit ?_; simp)
        | (refine AWP_ret ?_; simp)
        | refine AWP_block ?_
        | refine AWP_seq ?_)
      rw [← hlb]
      simp [foundAt, hi]

end Go.Abs
set_option maxRecDepth 100000
namespace Go.Abs
open Go Go.Proofs
set_option linter.unusedSimpArgs false

theorem bl_irrefl : ∀ a : List UInt8, Op.bytesLess a a = false
  | [] => rfl
  | x :: a => by
    rw [Op.bytesLess, bl_irrefl a]
    simp
theorem bl_trans : ∀ a b c : List UInt8, Op.bytesLess a b = true → Op.bytesLess b c = true → Op.bytesLess a c = true
  | _, _, [], _, h => by cases ‹List UInt8› <;> simp [Op.bytesLess] at h
  | [], _, _ :: _, _, _ => rfl
  | x :: a, [], _ :: _, h, _ => by simp [Op.bytesLess] at h
  | x :: a, y :: b, z :: c, h1, h2 => by
    have ih := bl_trans a b c
    simp only [Op.bytesLess, Bool.or_eq_true, Bool.and_eq_true, decide_eq_true_eq, beq_iff_eq] at h1 h2 ⊢
    rcases h1 with h1 | ⟨rfl, h1⟩ <;> rcases h2 with h2 | ⟨rfl, h2⟩
    · exact .inl (UInt8.lt_trans h1 h2)
    · exact .inl h1
    · exact .inl h2
    · exact .inr ⟨rfl, ih h1 h2⟩
theorem bl_total : ∀ a b : List UInt8, Op.bytesLess a b = false → a ≠ b → Op.bytesLess b a = true
  | [], [], _, h => absurd rfl h
  | _ :: _, [], _, _ => rfl
  | [], _ :: _, h, _ => by simp [Op.bytesLess] at h
  | x :: a, y :: b, h, hne => by
    have ih := bl_total a b
    simp only [Op.bytesLess, Bool.or_eq_false_iff, Bool.and_eq_false_iff, decide_eq_false_iff_not] at h
    simp only [Op.bytesLess, Bool.or_eq_true, Bool.and_eq_true, decide_eq_true_eq, beq_iff_eq]
    rcases UInt8.lt_or_lt_of_ne (a := x) (b := y) |> fun f => (if hxy : x = y then .inr hxy else .inl (f hxy) : (x < y ∨ y < x) ∨ x = y) with (h1 | h1) | rfl
    · exact absurd h1 h.1
    · exact .inl h1
    · refine .inr ⟨rfl, ih ?_ (fun e => hne (by rw [e]))⟩
      rcases h.2 with h2 | h2
      · simp at h2
      · exact h2
theorem strLe_false {a b : List UInt8} (h : strLe a b = false) : Op.bytesLess b a = true := by
  unfold strLe at h
  simp only [Bool.or_eq_false_iff, beq_eq_false_iff_ne] at h
  exact bl_total a b h.1 h.2

/-- The names stand in order. -/
def Sorted (fs : List File) : Prop := fs.Pairwise (fun f g => Op.bytesLess f.name g.name = true)
theorem chkL_sorted : ∀ (fs : List File) (p : Option (List UInt8)), chkL p fs = 0 → Sorted fs ∧ (∀ f ∈ fs, nameOk f.name = true) ∧ ∀ q, p = some q → ∀ f ∈ fs, Op.bytesLess q f.name = true
  | [], _, _ => ⟨List.Pairwise.nil, by simp, by simp⟩
  | f :: fs, p, h => by
    rw [chkL] at h
    split at h
    · cases h
    · rename_i hn
      split at h
      · cases h
      · rename_i hb
        obtain ⟨h1, h2, h3⟩ := chkL_sorted fs (some f.name) h
        refine ⟨List.Pairwise.cons (h3 f.name rfl) h1, fun g hg => ?_, fun q hq g hg => ?_⟩
        · rcases List.mem_cons.1 hg with rfl | hg
          · simpa using hn
          · exact h2 g hg
        · subst hq
          have hq : Op.bytesLess q f.name = true := strLe_false (by simpa [badPrev] using hb)
          rcases List.mem_cons.1 hg with rfl | hg
          · exact hq
          · exact bl_trans _ _ _ hq (h3 f.name rfl g hg)
theorem checkR_chkL {d : Disk} (h : checkR d = 0) : chkL none d.files = 0 := by
  unfold checkR at h
  split at h
  · cases h
  · split at h
    · cases h
    · split at h
      · assumption
      · exact h
theorem checkR_sorted {d : Disk} (h : checkR d = 0) : Sorted d.files := (chkL_sorted _ _ (checkR_chkL h)).1
theorem Sorted.mono {fs : List File} (h : Sorted fs) (s : List UInt8) : ∀ a b, (ha : a ≤ b) → (hb : b < fs.length) → lessF fs[b] s = true → lessF (fs[a]'(by omega)) s = true := fun a b ha hb hl => by
  rcases Nat.lt_or_eq_of_le ha with h1 | rfl
  · have := List.pairwise_iff_getElem.1 h a b (by omega) hb h1
    exact bl_trans _ _ _ this hl
  · exact hl

set_option maxHeartbeats 1000000 in
theorem pc50 (d : Disk) (s : List UInt8) (hn : d.files.length ≤ 1000000) (hs : Sorted d.files) : PC Tryd.prog 50 [encD d, .str s] (fun r => r = .tup [.i (lb d.files s), .bool (foundAt d.files s (lb d.files s))]) := by
  refine PC_body tOk Tryd.func50 rfl Tryd.results50 rfl (by simp [Tryd.ntmps50]) ?_
  rw [Tryd.ntmps50]
  simp only [argSlots]
  simp only [encD]
  repeat (first
    | (refine AWP_seq (AWP_regS tOk rfl ?_); simp)
    | (refine AWP_regS tOk rfl ?_; simp)
    | (refine AWP_skip ?_; simp)
    | (refine AWP_exit ?_; simp)
    | (refine AWP_ret ?_; simp)
    | refine AWP_block ?_
    | refine AWP_seq ?_)
  refine AStep_PC rfl rfl (by simp) (pc61 d.files s hn (hs.mono s)) rfl ?_
  rintro _ rfl
  simp
  repeat (first
    | (refine AWP_seq (AWP_regS tOk rfl ?_); simp)
    | (refine AWP_regS tOk rfl ?_; simp)
    | (refine AWP_skip ?_; simp)
    | (refine AWP_exit ?_; simp)
    | (refine AWP_ret ?_; simp)
    | refine AWP_block ?_
    | refine AWP_seq ?_)

/-- In order, the binary search finds what the plain search finds. -/
theorem foundAt_iff (fs : List File) (s : List UInt8) (i : Nat) (hi : i < fs.length) : foundAt fs s i = (fs[i].name == s) := by
  by_cases h : fs[i].name = s
  · simp [foundAt, hi, cmpS, h, bl_irrefl, strLe]
  · have h2 : (fs[i].name == s) = false := by simp [h]
    by_cases hb : Op.bytesLess fs[i].name s = true
    · simp [foundAt, hi, cmpS, strLe, hb, h2]
    · simp [foundAt, hi, cmpS, strLe, hb, h2]

theorem findR_lb (fs : List File) (s : List UInt8) (k : Nat) (hs : Sorted fs) : findR fs s k = if foundAt fs s (lb fs s) = true then some (k + lb fs s) else none := by
  induction fs generalizing k with
  | nil => rfl
  | cons f fs ih =>
    have hs' : Sorted fs := (List.pairwise_cons.1 hs).2
    have hlb : lb (f :: fs) s = if lessF f s = true then lb fs s + 1 else 0 := by
      simp only [lb, List.takeWhile_cons]; split <;> simp
    rw [findR, hlb]
    by_cases hf : f.name = s
    · have h1 : lessF f s = false := by rw [lessF, hf, bl_irrefl]
      simp only [h1, Bool.false_eq_true, if_false]
      rw [if_pos hf, foundAt_iff _ _ _ (by simp)]
      simp [hf]
    · rw [if_neg hf, ih _ hs']
      cases h1 : lessF f s
      · -- all behind are greater still
        have hgt : Op.bytesLess s f.name = true := bl_total _ _ h1 hf
        have hz : lb fs s = 0 := by
          cases fs with
          | nil => rfl
          | cons g fs =>
            have hfg := (List.pairwise_cons.1 hs).1 g (by simp)
            have : lessF g s = false := by
              cases hg : lessF g s
              · rfl
              · have := bl_trans _ _ _ (bl_trans _ _ _ hgt hfg) hg
                rw [bl_irrefl] at this; cases this
            simp [lb, this]
        have hfa : foundAt fs s 0 = false := by
          cases fs with
          | nil => rfl
          | cons g fs =>
            rw [foundAt_iff _ _ _ (by simp)]
            have hfg := (List.pairwise_cons.1 hs).1 g (by simp)
            have := bl_trans _ _ _ hgt hfg
            simp only [List.getElem_cons_zero, beq_eq_false_iff_ne]
            rintro e
            rw [e, bl_irrefl] at this; cases this
        rw [hz, hfa]
        simp only [Bool.false_eq_true, if_false]
        rw [foundAt_iff _ _ _ (by simp)]
        simp [hf]
      · simp only [if_true]
        have : foundAt (f :: fs) s (lb fs s + 1) = foundAt fs s (lb fs s) := by simp [foundAt]
        rw [this]
        split
        · congr 1; omega
        · rfl
end Go.Abs
set_option maxRecDepth 100000
namespace Go.Abs
open Go Go.Proofs
set_option linter.unusedSimpArgs false

theorem pc52 (f : File) (s : List UInt8) : PC Tryd.prog 52 [encF f, .iptr [.str s]] (fun r => r = .bool (f.name == s)) := by
  refine PC_body tOk Tryd.func52 rfl Tryd.results52 rfl (by simp [Tryd.ntmps52]) ?_
  rw [Tryd.ntmps52]
  simp only [argSlots]
  simp only [encF]
  repeat (first
    | (refine AWP_seq (AWP_regS tOk rfl ?_); simp)
    | (refine AWP_regS tOk rfl ?_; simp)
    | (refine AWP_skip ?_; simp)
    | (refine AWP_exit ?_; simp)
    | (refine AWP_ret ?_; simp)
    | refine AWP_block ?_
    | refine AWP_seq ?_)

def indexR (fs : List File) (s : List UInt8) : Int := match findR fs s 0 with
  | none => -1
  | some i => i
set_option maxHeartbeats 1000000 in
theorem pc51 (fs : List File) (s : List UInt8) : PC Tryd.prog 51 [.list (fs.map encF), .fn (.func 52) [] [.iptr [.str s]]] (fun r => r = .i (indexR fs s)) := by
  refine PC_body tOk Tryd.func51 rfl Tryd.results51 rfl (by simp [Tryd.ntmps51]) ?_
  rw [Tryd.ntmps51]
  simp only [argSlots]
  refine AWP_len 0 rfl (fun hlen => ?_)
  rw [List.length_map] at hlen
  repeat (first
    | (refine AWP_seq (AWP_regS tOk rfl ?_); simp)
    | (refine AWP_regS tOk rfl ?_; simp)
    | (refine AWP_skip ?_; simp)
    | (refine AWP_exit ?_; simp)
    | (refine AWP_ret ?_; simp)
    | refine AWP_block ?_
    | refine AWP_seq ?_)
  refine AWP_countI fs.length (fun j => findR fs s 0 = findR (fs.drop j) s j) (fun j => [(0, .list (fs.map encF)), (1, .fn (.func 52) [] [.iptr [.str s]]), (7, .i fs.length), (8, .i j)]) (fun _ => []) rfl (by simp) (by simp) (by simp) (by simp) (by simp) ?_
  intro j hj hI ih
  repeat (first
    | (refine AWP_seq (AWP_regS tOk rfl ?_); simp)
    | (refine AWP_regS tOk rfl ?_; simp)
    | (refine AWP_skip ?_; simp)
    | (refine AWP_exit ?_; simp)
    | (refine AWP_ret ?_; simp)
    | refine AWP_block ?_
    | refine AWP_seq ?_)
  refine AWP_cond2 rfl (fun hlt => ?_) (fun hge => ?_)
  · have hlt' : j < fs.length := by simpa using hlt
    rw [drop_get hlt', findR] at hI
    repeat (first
      | (refine AWP_seq (AWP_regS tOk rfl ?_); simp [hlt'])
      | (refine AWP_regS tOk rfl ?_; simp [hlt'])
      | (refine AWP_skip ?_; simp [hlt'])
      | (refine AWP_exit ?_; simp [hlt'])
      | (refine AWP_ret ?_; simp [hlt'])
      | refine AWP_block ?_
      | refine AWP_seq ?_)
    refine AStep_PC rfl rfl (by simp) (pc52 fs[j] s) rfl ?_
    rintro _ rfl
    simp
    refine AWP_cond2 rfl (fun h => ?_) (fun h => ?_)
    · repeat (first
        | (refine AWP_seq (AWP_regS tOk rfl ?_); simp)
        | (refine AWP_regS tOk rfl ?_; simp)
        | (refine AWP_skip ?_; simp)
        | (refine AWP_exit ?_; simp)
        | (refine AWP_ret ?_; simp)
        | refine AWP_block ?_
        | refine AWP_seq ?_)
      simp at h
      rw [if_pos h] at hI
      simp [indexR, hI]
    · repeat (first
        | (refine AWP_seq (AWP_regS tOk rfl ?_); simp)
        | (refine AWP_regS tOk rfl ?_; simp)
        | (refine AWP_skip ?_; simp)
        | (refine AWP_exit ?_; simp)
        | (refine AWP_ret ?_; simp)
        | refine AWP_block ?_
        | refine AWP_seq ?_)
      simp at h
      rw [if_neg h] at hI
      refine ALoop_end _ (ih hlt' hI) rfl (by simp) ?_ (by simp) (by simp)
      simp
      exact wrap_i64 _ (by omega) (by omega)
  · have hge' : j = fs.length := by simp at hge; omega
    subst hge'
    repeat (first
      | (refine AWP_seq (AWP_regS tOk rfl ?_); simp)
      | (refine AWP_regS tOk rfl ?_; simp)
      | (refine AWP_skip ?_; simp)
      | (refine AWP_exit ?_; simp)
      | (refine AWP_ret ?_; simp)
      | refine AWP_block ?_
      | refine AWP_seq ?_)
    rw [List.drop_length] at hI
    simp [indexR, hI, findR]

set_option maxHeartbeats 1000000 in
theorem pc23 (d : Disk) (s : List UInt8) : PC Tryd.prog 23 [encD d, .str s] (fun r => r = findAV (findR d.files s 0)) := by
  refine PC_body tOk Tryd.func23 rfl Tryd.results23 rfl (by simp [Tryd.ntmps23]) ?_
  rw [Tryd.ntmps23]
  simp only [argSlots]
  simp only [encD]
  repeat (first
    | (refine AWP_seq (AWP_regS tOk rfl ?_); simp)
    | (refine AWP_regS tOk rfl ?_; simp)
    | (refine AWP_skip ?_; simp)
    | (refine AWP_exit ?_; simp)
    | (refine AWP_ret ?_; simp)
    | refine AWP_block ?_
    | refine AWP_seq ?_)
  refine AStep_PCflat rfl rfl (by first | (simp; done) | (simp; rfl)) (pc51 d.files s) rfl ?_
  rintro _ rfl
  refine ⟨by simp, ?_⟩
  simp
  repeat (first
    | (refine AWP_seq (AWP_regS tOk rfl ?_); simp)
    | (refine AWP_regS tOk rfl ?_; simp)
    | (refine AWP_skip ?_; simp)
    | (refine AWP_exit ?_; simp)
    | (refine AWP_ret ?_; simp)
    | refine AWP_block ?_
    | refine AWP_seq ?_)
  rcases hfd : findR d.files s 0 with _ | i
  · simp [indexR, hfd, findAV]
  · simp [indexR, hfd, findAV]
    intro h; omega

theorem checkedR_one (d : Disk) (s : List UInt8) : checkedR d [s] = namedR d s := by simp [checkedR, namedR]
theorem placeAV (d : Disk) (s : List UInt8) (hs : Sorted d.files) : findR d.files s 0 = if foundAt d.files s (lb d.files s) = true then some (lb d.files s) else none := by
  rw [findR_lb d.files s 0 hs]; simp
set_option maxHeartbeats 1000000 in
theorem pc21 (d : Disk) (s : List UInt8) : PC Tryd.prog 21 [encD d, .str s] (fun r => r = .tup [.str (readR d s).1, .i (readR d s).2]) := by
  refine PC_body tOk Tryd.func21 rfl Tryd.results21 rfl (by simp [Tryd.ntmps21]) ?_
  rw [Tryd.ntmps21]
  simp only [argSlots]
  simp only [encD]
  repeat (first
    | (refine AWP_seq (AWP_regS tOk rfl ?_); simp)
    | (refine AWP_regS tOk rfl ?_; simp)
    | (refine AWP_skip ?_; simp)
    | (refine AWP_exit ?_; simp)
    | (refine AWP_ret ?_; simp)
    | refine AWP_block ?_
    | refine AWP_seq ?_)
  refine AStep_PCflat rfl rfl (by first | (simp; done) | (simp; rfl)) (pc49 d [s]) rfl ?_
  rintro _ rfl
  refine ⟨by simp, ?_⟩
  simp
  repeat (first
    | (refine AWP_seq (AWP_regS tOk rfl ?_); simp)
    | (refine AWP_regS tOk rfl ?_; simp)
    | (refine AWP_skip ?_; simp)
    | (refine AWP_exit ?_; simp)
    | (refine AWP_ret ?_; simp)
    | refine AWP_block ?_
    | refine AWP_seq ?_)
  rw [checkedR_one]
  refine AWP_cond2 rfl (fun h => ?_) (fun h1 => ?_)
  · repeat (first
      | (refine AWP_seq (AWP_regS tOk rfl ?_); simp)
      | (refine AWP_regS tOk rfl ?_; simp)
      | (refine AWP_skip ?_; simp)
      | (refine AWP_exit ?_; simp)
      | (refine AWP_ret ?_; simp)
      | refine AWP_block ?_
      | refine AWP_seq ?_)
    simp at h
    simp [readR, h]
  simp at h1
  have hc := namedR_check h1
  have hl := checkR_len hc
  have hso := checkR_sorted hc
  repeat (first
    | (refine AWP_seq (AWP_regS tOk rfl ?_); simp)
    | (refine AWP_regS tOk rfl ?_; simp)
    | (refine AWP_skip ?_; simp)
    | (refine AWP_exit ?_; simp)
    | (refine AWP_ret ?_; simp)
    | refine AWP_block ?_
    | refine AWP_seq ?_)
  refine AStep_PC rfl rfl (by simp) (pc50 d s (by omega) hso) rfl ?_
  rintro _ rfl
  simp
  repeat (first
    | (refine AWP_seq (AWP_regS tOk rfl ?_); simp)
    | (refine AWP_regS tOk rfl ?_; simp)
    | (refine AWP_skip ?_; simp)
    | (refine AWP_exit ?_; simp)
    | (refine AWP_ret ?_; simp)
    | refine AWP_block ?_
    | refine AWP_seq ?_)
  have hp := placeAV d s hso
  cases hf : foundAt d.files s (lb d.files s)
  · rw [hf] at hp
    refine AWP_cond rfl ?_
    repeat (first
      | (refine AWP_seq (AWP_regS tOk rfl ?_); simp)
      | (refine AWP_regS tOk rfl ?_; simp)
      | (refine AWP_skip ?_; simp)
      | (refine AWP_exit ?_; simp)
      | (refine AWP_ret ?_; simp)
      | refine AWP_block ?_
      | refine AWP_seq ?_)
    simp at hp
    simp [readR, h1, hp]
  · rw [hf] at hp
    simp at hp
    have hi := findR_lt hp
    refine AWP_cond rfl ?_
    repeat (first
      | (refine AWP_seq (AWP_regS tOk rfl ?_); simp [hi])
      | (refine AWP_regS tOk rfl ?_; simp [hi])
      | (refine AWP_skip ?_; simp [hi])
      | (refine AWP_exit ?_; simp [hi])
      | (refine AWP_ret ?_; simp [hi])
      | refine AWP_block ?_
      | refine AWP_seq ?_)
    simp [readR, h1, hp, hi]
end Go.Abs
