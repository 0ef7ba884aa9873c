/- The types of the program, as the abstract machine is told of them. -/
import Derived.Test.YtmfoegilknpcnaaGreatDoorKb
import Derived.Test.YtmfoegilknpcnaaGreatDoorChecked
import Derived.KernelRfl
import Derived.Lib.LaidTab
import Derived.Lib.ItoaNum
import Derived.Lib.MakeNoZero
import Derived.Carry
import Derived.Maps.Keyed
import Derived.Laws.MakeOwn
import Derived.Shelf.Small.Strs
import Derived.Shelf.LaysM
import Derived.Shelf.Strconv.Itoa3
import Derived.Shelf.LaysC
import Derived.Shelf.Strconv.AtoiInnerAll
import Derived.Shelf.Strconv.AtoiAll
import Derived.Test.YtmfoegilknpcnaaGreatDoorProg
import Derived.Lib.ItoaLen
import Derived.Lib.ItoaMem
import Derived.Lib.AppendIntMem
import Derived.Lib.AtoiAll
set_option linter.all false
set_option maxRecDepth 100000
namespace Go.Abs
open Go Go.Proofs

def T : TT := [
  (2, { desc := .int .i64, zero := (.int .i64 0), size := 1, bytes := 8 }),
  (3, { desc := .int .i64, zero := (.int .i64 0), size := 1, bytes := 8 }),
  (4, { desc := .bool, zero := (.bool false), size := 1, bytes := 1 }),
  (5, { desc := .int .u8, zero := (.int .u8 0), size := 1, bytes := 1 }),
  (9, { desc := .string, zero := (.string ⟨#[]⟩), size := 1, bytes := 16 }),
  (21, { desc := .int .i32, zero := (.int .i32 0), size := 1, bytes := 4 }),
  (22, { desc := .slice 66, zero := (.slice none 0 0), size := 1, bytes := 24 }),
  (24, { desc := .struct #[{ name := "Files", type := 22, offset := 0, embedded := false, tag := "", pkgPath := "", byteOffset := 0 }, { name := "Space", type := 3, offset := 1, embedded := false, tag := "", pkgPath := "", byteOffset := 24 }], zero := (.agg #[(.slice none 0 0), (.int .i64 0)]), size := 2, bytes := 32 }),
  (27, { desc := .slice 3, zero := (.slice none 0 0), size := 1, bytes := 24 }),
  (28, { desc := .int .i64, zero := (.int .i64 0), size := 1, bytes := 8 }),
  (33, { desc := .slice 88, zero := (.slice none 0 0), size := 1, bytes := 24 }),
  (34, { desc := .slice 92, zero := (.slice none 0 0), size := 1, bytes := 24 }),
  (36, { desc := .struct #[{ name := "Number", type := 3, offset := 0, embedded := false, tag := "", pkgPath := "", byteOffset := 0 }, { name := "Readers", type := 33, offset := 1, embedded := false, tag := "", pkgPath := "", byteOffset := 8 }, { name := "Operators", type := 34, offset := 2, embedded := false, tag := "", pkgPath := "", byteOffset := 32 }], zero := (.agg #[(.int .i64 0), (.slice none 0 0), (.slice none 0 0)]), size := 3, bytes := 56 }),
  (56, { desc := .func #[3, 9] #[4] false, zero := .nilFunc, size := 1, bytes := 8 }),
  (66, { desc := .struct #[{ name := "Name", type := 9, offset := 0, embedded := false, tag := "", pkgPath := "", byteOffset := 0 }, { name := "Durable", type := 9, offset := 1, embedded := false, tag := "", pkgPath := "", byteOffset := 16 }, { name := "Volatile", type := 9, offset := 2, embedded := false, tag := "", pkgPath := "", byteOffset := 32 }], zero := (.agg #[(.string ⟨#[]⟩), (.string ⟨#[]⟩), (.string ⟨#[]⟩)]), size := 3, bytes := 48, eqv := true }),
  (74, { desc := .slice 9, zero := (.slice none 0 0), size := 1, bytes := 24 }),
  (78, { desc := .func #[56] #[] false, zero := .nilFunc, size := 1, bytes := 8 }),
  (84, { desc := .slice 143, zero := (.slice none 0 0), size := 1, bytes := 24 }),
  (86, { desc := .struct #[{ name := "Next", type := 3, offset := 0, embedded := false, tag := "", pkgPath := "", byteOffset := 0 }, { name := "Beyond", type := 27, offset := 1, embedded := false, tag := "", pkgPath := "", byteOffset := 8 }, { name := "Points", type := 84, offset := 2, embedded := false, tag := "", pkgPath := "", byteOffset := 32 }, { name := "Mark", type := 3, offset := 3, embedded := false, tag := "", pkgPath := "", byteOffset := 56 }], zero := (.agg #[(.int .i64 0), (.slice none 0 0), (.slice none 0 0), (.int .i64 0)]), size := 4, bytes := 64 }),
  (88, { desc := .struct #[{ name := "Source", type := 3, offset := 0, embedded := false, tag := "", pkgPath := "", byteOffset := 0 }, { name := "Offset", type := 3, offset := 1, embedded := false, tag := "", pkgPath := "", byteOffset := 8 }, { name := "Tracker", type := 86, offset := 2, embedded := false, tag := "", pkgPath := "", byteOffset := 16 }], zero := (.agg #[(.int .i64 0), (.int .i64 0), (.int .i64 0), (.slice none 0 0), (.slice none 0 0), (.int .i64 0)]), size := 6, bytes := 80 }),
  (90, { desc := .slice 100, zero := (.slice none 0 0), size := 1, bytes := 24 }),
  (92, { desc := .struct #[{ name := "Marks", type := 27, offset := 0, embedded := false, tag := "", pkgPath := "", byteOffset := 0 }, { name := "Engines", type := 90, offset := 1, embedded := false, tag := "", pkgPath := "", byteOffset := 24 }], zero := (.agg #[(.slice none 0 0), (.slice none 0 0)]), size := 2, bytes := 48 }),
  (94, { desc := .struct #[{ name := "Kind", type := 3, offset := 0, embedded := false, tag := "", pkgPath := "", byteOffset := 0 }, { name := "Num", type := 3, offset := 1, embedded := false, tag := "", pkgPath := "", byteOffset := 8 }, { name := "Text", type := 9, offset := 2, embedded := false, tag := "", pkgPath := "", byteOffset := 16 }], zero := (.agg #[(.int .i64 0), (.int .i64 0), (.string ⟨#[]⟩)]), size := 3, bytes := 32, eqv := true }),
  (95, { desc := .slice 195, zero := (.slice none 0 0), size := 1, bytes := 24 }),
  (96, { desc := .slice 148, zero := (.slice none 0 0), size := 1, bytes := 24 }),
  (98, { desc := .struct #[{ name := "Mark", type := 3, offset := 0, embedded := false, tag := "", pkgPath := "", byteOffset := 0 }, { name := "Waiting", type := 95, offset := 1, embedded := false, tag := "", pkgPath := "", byteOffset := 8 }, { name := "Runs", type := 96, offset := 2, embedded := false, tag := "", pkgPath := "", byteOffset := 32 }, { name := "Held", type := 95, offset := 3, embedded := false, tag := "", pkgPath := "", byteOffset := 56 }], zero := (.agg #[(.int .i64 0), (.slice none 0 0), (.slice none 0 0), (.slice none 0 0)]), size := 4, bytes := 80 }),
  (100, { desc := .struct #[{ name := "Query", type := 3, offset := 0, embedded := false, tag := "", pkgPath := "", byteOffset := 0 }, { name := "Key", type := 94, offset := 1, embedded := false, tag := "", pkgPath := "", byteOffset := 8 }, { name := "Engine", type := 98, offset := 4, embedded := false, tag := "", pkgPath := "", byteOffset := 40 }], zero := (.agg #[(.int .i64 0), (.int .i64 0), (.int .i64 0), (.string ⟨#[]⟩), (.int .i64 0), (.slice none 0 0), (.slice none 0 0), (.slice none 0 0)]), size := 8, bytes := 120 }),
  (104, { desc := .func #[24] #[24, 28] false, zero := .nilFunc, size := 1, bytes := 8 }),
  (110, { desc := .slice 104, zero := (.slice none 0 0), size := 1, bytes := 24 }),
  (117, { desc := .slice 5, zero := (.slice none 0 0), size := 1, bytes := 24 }),
  (120, { desc := .func #[66] #[4] false, zero := .nilFunc, size := 1, bytes := 8 }),
  (124, { desc := .struct #[{ name := "left", type := 27, offset := 0, embedded := false, tag := "", pkgPath := "tidegate/disk", byteOffset := 0 }], zero := (.agg #[(.slice none 0 0)]), size := 1, bytes := 24 }),
  (126, { desc := .func #[3] #[3] false, zero := .nilFunc, size := 1, bytes := 8 }),
  (131, { desc := .func #[175] #[] false, zero := .nilFunc, size := 1, bytes := 8 }),
  (134, { desc := .func #[136] #[36] false, zero := .nilFunc, size := 1, bytes := 8 }),
  (136, { desc := .pointer 178, zero := (.pointer none), size := 1, bytes := 8 }),
  (138, { desc := .pointer 186, zero := (.pointer none), size := 1, bytes := 8 }),
  (143, { desc := .struct #[{ name := "Seq", type := 3, offset := 0, embedded := false, tag := "", pkgPath := "", byteOffset := 0 }, { name := "Time", type := 3, offset := 1, embedded := false, tag := "", pkgPath := "", byteOffset := 8 }], zero := (.agg #[(.int .i64 0), (.int .i64 0)]), size := 2, bytes := 16, eqv := true }),
  (145, { desc := .slice 243, zero := (.slice none 0 0), size := 1, bytes := 24 }),
  (146, { desc := .slice 245, zero := (.slice none 0 0), size := 1, bytes := 24 }),
  (148, { desc := .struct #[{ name := "State", type := 3, offset := 0, embedded := false, tag := "", pkgPath := "", byteOffset := 0 }, { name := "Bindings", type := 145, offset := 1, embedded := false, tag := "", pkgPath := "", byteOffset := 8 }, { name := "Starts", type := 146, offset := 2, embedded := false, tag := "", pkgPath := "", byteOffset := 32 }], zero := (.agg #[(.int .i64 0), (.slice none 0 0), (.slice none 0 0)]), size := 3, bytes := 56 }),
  (151, { desc := .pointer 153, zero := (.pointer none), size := 1, bytes := 8 }),
  (153, { desc := .struct #[{ name := "out", type := 9, offset := 0, embedded := false, tag := "", pkgPath := "tidegate/tidegateref43", byteOffset := 0 }, { name := "bad", type := 3, offset := 1, embedded := false, tag := "", pkgPath := "tidegate/tidegateref43", byteOffset := 16 }], zero := (.agg #[(.string ⟨#[]⟩), (.int .i64 0)]), size := 2, bytes := 24, eqv := true }),
  (163, { desc := .interface #[("Error", 302)], zero := .nilIface, size := 1, bytes := 16 }),
  (169, { desc := .func #[9] #[9] false, zero := .nilFunc, size := 1, bytes := 8 }),
  (173, { desc := .int .u64, zero := (.int .u64 0), size := 1, bytes := 8 }),
  (178, { desc := .struct #[{ name := "s", type := 9, offset := 0, embedded := false, tag := "", pkgPath := "tidegate/codec", byteOffset := 0 }, { name := "e", type := 28, offset := 1, embedded := false, tag := "", pkgPath := "tidegate/codec", byteOffset := 16 }], zero := (.agg #[(.string ⟨#[]⟩), (.int .i64 0)]), size := 2, bytes := 24, eqv := true }),
  (180, { desc := .func #[] #[3] false, zero := .nilFunc, size := 1, bytes := 8 }),
  (182, { desc := .func #[] #[88] false, zero := .nilFunc, size := 1, bytes := 8 }),
  (184, { desc := .func #[] #[92] false, zero := .nilFunc, size := 1, bytes := 8 }),
  (186, { desc := .struct #[{ name := "s", type := 9, offset := 0, embedded := false, tag := "", pkgPath := "tidegate/tidegateref43", byteOffset := 0 }, { name := "bad", type := 3, offset := 1, embedded := false, tag := "", pkgPath := "tidegate/tidegateref43", byteOffset := 16 }], zero := (.agg #[(.string ⟨#[]⟩), (.int .i64 0)]), size := 2, bytes := 24, eqv := true }),
  (193, { desc := .slice 94, zero := (.slice none 0 0), size := 1, bytes := 24 }),
  (195, { desc := .struct #[{ name := "Source", type := 3, offset := 0, embedded := false, tag := "", pkgPath := "", byteOffset := 0 }, { name := "Seq", type := 3, offset := 1, embedded := false, tag := "", pkgPath := "", byteOffset := 8 }, { name := "Type", type := 3, offset := 2, embedded := false, tag := "", pkgPath := "", byteOffset := 16 }, { name := "Time", type := 3, offset := 3, embedded := false, tag := "", pkgPath := "", byteOffset := 24 }, { name := "Values", type := 193, offset := 4, embedded := false, tag := "", pkgPath := "", byteOffset := 32 }], zero := (.agg #[(.int .i64 0), (.int .i64 0), (.int .i64 0), (.int .i64 0), (.slice none 0 0)]), size := 5, bytes := 56 }),
  (198, { desc := .pointer 248, zero := (.pointer none), size := 1, bytes := 8 }),
  (200, { desc := .func #[198] #[] false, zero := .nilFunc, size := 1, bytes := 8 }),
  (212, { desc := .func #[66, 9] #[3] false, zero := .nilFunc, size := 1, bytes := 8 }),
  (215, { desc := .array 256 4, zero := (.agg #[(.bool false), (.bool false), (.bool false), (.bool false), (.bool false), (.bool false), (.bool false), (.bool false), (.bool false), (.bool false), (.bool false), (.bool false), (.bool false), (.bool false), (.bool false), (.bool false), (.bool false), (.bool false), (.bool false), (.bool false), (.bool false), (.bool false), (.bool false), (.bool false), (.bool false), (.bool false), (.bool false), (.bool false), (.bool false), (.bool false), (.bool false), (.bool false), (.bool false), (.bool false), (.bool false), (.bool false), (.bool false), (.bool false), (.bool false), (.bool false), (.bool false), (.bool false), (.bool false), (.bool false), (.bool false), (.bool false), (.bool false), (.bool false), (.bool false), (.bool false), (.bool false), (.bool false), (.bool false), (.bool false), (.bool false), (.bool false), (.bool false), (.bool false), (.bool false), (.bool false), (.bool false), (.bool false), (.bool false), (.bool false), (.bool false), (.bool false), (.bool false), (.bool false), (.bool false), (.bool false), (.bool false), (.bool false), (.bool false), (.bool false), (.bool false), (.bool false), (.bool false), (.bool false), (.bool false), (.bool false), (.bool false), (.bool false), (.bool false), (.bool false), (.bool false), (.bool false), (.bool false), (.bool false), (.bool false), (.bool false), (.bool false), (.bool false), (.bool false), (.bool false), (.bool false), (.bool false), (.bool false), (.bool false), (.bool false), (.bool false), (.bool false), (.bool false), (.bool false), (.bool false), (.bool false), (.bool false), (.bool false), (.bool false), (.bool false), (.bool false), (.bool false), (.bool false), (.bool false), (.bool false), (.bool false), (.bool false), (.bool false), (.bool false), (.bool false), (.bool false), (.bool false), (.bool false), (.bool false), (.bool false), (.bool false), (.bool false), (.bool false), (.bool false), (.bool false), (.bool false), (.bool false), (.bool false), (.bool false), (.bool false), (.bool false), (.bool false), (.bool false), (.bool false), (.bool false), (.bool false), (.bool false), (.bool false), (.bool false), (.bool false), (.bool false), (.bool false), (.bool false), (.bool false), (.bool false), (.bool false), (.bool false), (.bool false), (.bool false), (.bool false), (.bool false), (.bool false), (.bool false), (.bool false), (.bool false), (.bool false), (.bool false), (.bool false), (.bool false), (.bool false), (.bool false), (.bool false), (.bool false), (.bool false), (.bool false), (.bool false), (.bool false), (.bool false), (.bool false), (.bool false), (.bool false), (.bool false), (.bool false), (.bool false), (.bool false), (.bool false), (.bool false), (.bool false), (.bool false), (.bool false), (.bool false), (.bool false), (.bool false), (.bool false), (.bool false), (.bool false), (.bool false), (.bool false), (.bool false), (.bool false), (.bool false), (.bool false), (.bool false), (.bool false), (.bool false), (.bool false), (.bool false), (.bool false), (.bool false), (.bool false), (.bool false), (.bool false), (.bool false), (.bool false), (.bool false), (.bool false), (.bool false), (.bool false), (.bool false), (.bool false), (.bool false), (.bool false), (.bool false), (.bool false), (.bool false), (.bool false), (.bool false), (.bool false), (.bool false), (.bool false), (.bool false), (.bool false), (.bool false), (.bool false), (.bool false), (.bool false), (.bool false), (.bool false), (.bool false), (.bool false), (.bool false), (.bool false), (.bool false), (.bool false), (.bool false), (.bool false), (.bool false), (.bool false), (.bool false), (.bool false), (.bool false), (.bool false), (.bool false), (.bool false), (.bool false), (.bool false), (.bool false), (.bool false), (.bool false), (.bool false), (.bool false), (.bool false)]), size := 256, bytes := 256 }),
  (219, { desc := .pointer 215, zero := (.pointer none), size := 1, bytes := 8 }),
  (221, { desc := .int .i64, zero := (.int .i64 0), size := 1, bytes := 8 }),
  (228, { desc := .int .u32, zero := (.int .u32 0), size := 1, bytes := 4 }),
  (230, { desc := .int .u64, zero := (.int .u64 0), size := 1, bytes := 8 }),
  (233, { desc := .func #[] #[143] false, zero := .nilFunc, size := 1, bytes := 8 }),
  (235, { desc := .func #[] #[100] false, zero := .nilFunc, size := 1, bytes := 8 }),
  (241, { desc := .struct #[{ name := "Time", type := 3, offset := 0, embedded := false, tag := "", pkgPath := "", byteOffset := 0 }, { name := "Source", type := 3, offset := 1, embedded := false, tag := "", pkgPath := "", byteOffset := 8 }, { name := "Seq", type := 3, offset := 2, embedded := false, tag := "", pkgPath := "", byteOffset := 16 }], zero := (.agg #[(.int .i64 0), (.int .i64 0), (.int .i64 0)]), size := 3, bytes := 24, eqv := true }),
  (243, { desc := .struct #[{ name := "Var", type := 3, offset := 0, embedded := false, tag := "", pkgPath := "", byteOffset := 0 }, { name := "Ref", type := 241, offset := 1, embedded := false, tag := "", pkgPath := "", byteOffset := 8 }], zero := (.agg #[(.int .i64 0), (.int .i64 0), (.int .i64 0), (.int .i64 0)]), size := 4, bytes := 32, eqv := true }),
  (245, { desc := .struct #[{ name := "Scope", type := 3, offset := 0, embedded := false, tag := "", pkgPath := "", byteOffset := 0 }, { name := "Time", type := 3, offset := 1, embedded := false, tag := "", pkgPath := "", byteOffset := 8 }], zero := (.agg #[(.int .i64 0), (.int .i64 0)]), size := 2, bytes := 16, eqv := true }),
  (248, { desc := .struct #[{ name := "out", type := 117, offset := 0, embedded := false, tag := "", pkgPath := "tidegate/codec", byteOffset := 0 }, { name := "e", type := 28, offset := 1, embedded := false, tag := "", pkgPath := "tidegate/codec", byteOffset := 24 }], zero := (.agg #[(.slice none 0 0), (.int .i64 0)]), size := 2, bytes := 32 }),
  (249, { desc := .func #[3] #[] false, zero := .nilFunc, size := 1, bytes := 8 }),
  (251, { desc := .func #[88] #[] false, zero := .nilFunc, size := 1, bytes := 8 }),
  (253, { desc := .func #[92] #[] false, zero := .nilFunc, size := 1, bytes := 8 }),
  (258, { desc := .array 24 5, zero := (.agg #[(.int .u8 0), (.int .u8 0), (.int .u8 0), (.int .u8 0), (.int .u8 0), (.int .u8 0), (.int .u8 0), (.int .u8 0), (.int .u8 0), (.int .u8 0), (.int .u8 0), (.int .u8 0), (.int .u8 0), (.int .u8 0), (.int .u8 0), (.int .u8 0), (.int .u8 0), (.int .u8 0), (.int .u8 0), (.int .u8 0), (.int .u8 0), (.int .u8 0), (.int .u8 0), (.int .u8 0)]), size := 24, bytes := 24 }),
  (266, { desc := .pointer 297, zero := (.pointer none), size := 1, bytes := 8 }),
  (272, { desc := .int .u64, zero := (.int .u64 0), size := 1, bytes := 8 }),
  (276, { desc := .pointer 3, zero := (.pointer none), size := 1, bytes := 8 }),
  (278, { desc := .func #[] #[94] false, zero := .nilFunc, size := 1, bytes := 8 }),
  (286, { desc := .func #[143] #[] false, zero := .nilFunc, size := 1, bytes := 8 }),
  (288, { desc := .func #[94] #[] false, zero := .nilFunc, size := 1, bytes := 8 }),
  (290, { desc := .func #[100] #[] false, zero := .nilFunc, size := 1, bytes := 8 }),
  (292, { desc := .array 20 230, zero := (.agg #[(.int .u64 0), (.int .u64 0), (.int .u64 0), (.int .u64 0), (.int .u64 0), (.int .u64 0), (.int .u64 0), (.int .u64 0), (.int .u64 0), (.int .u64 0), (.int .u64 0), (.int .u64 0), (.int .u64 0), (.int .u64 0), (.int .u64 0), (.int .u64 0), (.int .u64 0), (.int .u64 0), (.int .u64 0), (.int .u64 0)]), size := 20, bytes := 160 }),
  (293, { desc := .array 65 5, zero := (.agg #[(.int .u8 0), (.int .u8 0), (.int .u8 0), (.int .u8 0), (.int .u8 0), (.int .u8 0), (.int .u8 0), (.int .u8 0), (.int .u8 0), (.int .u8 0), (.int .u8 0), (.int .u8 0), (.int .u8 0), (.int .u8 0), (.int .u8 0), (.int .u8 0), (.int .u8 0), (.int .u8 0), (.int .u8 0), (.int .u8 0), (.int .u8 0), (.int .u8 0), (.int .u8 0), (.int .u8 0), (.int .u8 0), (.int .u8 0), (.int .u8 0), (.int .u8 0), (.int .u8 0), (.int .u8 0), (.int .u8 0), (.int .u8 0), (.int .u8 0), (.int .u8 0), (.int .u8 0), (.int .u8 0), (.int .u8 0), (.int .u8 0), (.int .u8 0), (.int .u8 0), (.int .u8 0), (.int .u8 0), (.int .u8 0), (.int .u8 0), (.int .u8 0), (.int .u8 0), (.int .u8 0), (.int .u8 0), (.int .u8 0), (.int .u8 0), (.int .u8 0), (.int .u8 0), (.int .u8 0), (.int .u8 0), (.int .u8 0), (.int .u8 0), (.int .u8 0), (.int .u8 0), (.int .u8 0), (.int .u8 0), (.int .u8 0), (.int .u8 0), (.int .u8 0), (.int .u8 0), (.int .u8 0)]), size := 65, bytes := 65 }),
  (297, { desc := .struct #[{ name := "Func", type := 9, offset := 0, embedded := false, tag := "", pkgPath := "", byteOffset := 0 }, { name := "Num", type := 9, offset := 1, embedded := false, tag := "", pkgPath := "", byteOffset := 16 }, { name := "Err", type := 163, offset := 2, embedded := false, tag := "", pkgPath := "", byteOffset := 32 }], zero := (.agg #[(.string ⟨#[]⟩), (.string ⟨#[]⟩), .nilIface]), size := 3, bytes := 48 }),
  (305, { desc := .func #[] #[195] false, zero := .nilFunc, size := 1, bytes := 8 }),
  (307, { desc := .func #[] #[148] false, zero := .nilFunc, size := 1, bytes := 8 }),
  (309, { desc := .func #[195] #[] false, zero := .nilFunc, size := 1, bytes := 8 }),
  (311, { desc := .func #[148] #[] false, zero := .nilFunc, size := 1, bytes := 8 }),
  (314, { desc := .pointer 5, zero := (.pointer none), size := 1, bytes := 8 }),
  (317, { desc := .struct #[{ name := "s", type := 9, offset := 0, embedded := false, tag := "", pkgPath := "errors", byteOffset := 0 }], zero := (.agg #[(.string ⟨#[]⟩)]), size := 1, bytes := 16, eqv := true }),
  (318, { desc := .array 256 5, zero := (.agg #[(.int .u8 0), (.int .u8 0), (.int .u8 0), (.int .u8 0), (.int .u8 0), (.int .u8 0), (.int .u8 0), (.int .u8 0), (.int .u8 0), (.int .u8 0), (.int .u8 0), (.int .u8 0), (.int .u8 0), (.int .u8 0), (.int .u8 0), (.int .u8 0), (.int .u8 0), (.int .u8 0), (.int .u8 0), (.int .u8 0), (.int .u8 0), (.int .u8 0), (.int .u8 0), (.int .u8 0), (.int .u8 0), (.int .u8 0), (.int .u8 0), (.int .u8 0), (.int .u8 0), (.int .u8 0), (.int .u8 0), (.int .u8 0), (.int .u8 0), (.int .u8 0), (.int .u8 0), (.int .u8 0), (.int .u8 0), (.int .u8 0), (.int .u8 0), (.int .u8 0), (.int .u8 0), (.int .u8 0), (.int .u8 0), (.int .u8 0), (.int .u8 0), (.int .u8 0), (.int .u8 0), (.int .u8 0), (.int .u8 0), (.int .u8 0), (.int .u8 0), (.int .u8 0), (.int .u8 0), (.int .u8 0), (.int .u8 0), (.int .u8 0), (.int .u8 0), (.int .u8 0), (.int .u8 0), (.int .u8 0), (.int .u8 0), (.int .u8 0), (.int .u8 0), (.int .u8 0), (.int .u8 0), (.int .u8 0), (.int .u8 0), (.int .u8 0), (.int .u8 0), (.int .u8 0), (.int .u8 0), (.int .u8 0), (.int .u8 0), (.int .u8 0), (.int .u8 0), (.int .u8 0), (.int .u8 0), (.int .u8 0), (.int .u8 0), (.int .u8 0), (.int .u8 0), (.int .u8 0), (.int .u8 0), (.int .u8 0), (.int .u8 0), (.int .u8 0), (.int .u8 0), (.int .u8 0), (.int .u8 0), (.int .u8 0), (.int .u8 0), (.int .u8 0), (.int .u8 0), (.int .u8 0), (.int .u8 0), (.int .u8 0), (.int .u8 0), (.int .u8 0), (.int .u8 0), (.int .u8 0), (.int .u8 0), (.int .u8 0), (.int .u8 0), (.int .u8 0), (.int .u8 0), (.int .u8 0), (.int .u8 0), (.int .u8 0), (.int .u8 0), (.int .u8 0), (.int .u8 0), (.int .u8 0), (.int .u8 0), (.int .u8 0), (.int .u8 0), (.int .u8 0), (.int .u8 0), (.int .u8 0), (.int .u8 0), (.int .u8 0), (.int .u8 0), (.int .u8 0), (.int .u8 0), (.int .u8 0), (.int .u8 0), (.int .u8 0), (.int .u8 0), (.int .u8 0), (.int .u8 0), (.int .u8 0), (.int .u8 0), (.int .u8 0), (.int .u8 0), (.int .u8 0), (.int .u8 0), (.int .u8 0), (.int .u8 0), (.int .u8 0), (.int .u8 0), (.int .u8 0), (.int .u8 0), (.int .u8 0), (.int .u8 0), (.int .u8 0), (.int .u8 0), (.int .u8 0), (.int .u8 0), (.int .u8 0), (.int .u8 0), (.int .u8 0), (.int .u8 0), (.int .u8 0), (.int .u8 0), (.int .u8 0), (.int .u8 0), (.int .u8 0), (.int .u8 0), (.int .u8 0), (.int .u8 0), (.int .u8 0), (.int .u8 0), (.int .u8 0), (.int .u8 0), (.int .u8 0), (.int .u8 0), (.int .u8 0), (.int .u8 0), (.int .u8 0), (.int .u8 0), (.int .u8 0), (.int .u8 0), (.int .u8 0), (.int .u8 0), (.int .u8 0), (.int .u8 0), (.int .u8 0), (.int .u8 0), (.int .u8 0), (.int .u8 0), (.int .u8 0), (.int .u8 0), (.int .u8 0), (.int .u8 0), (.int .u8 0), (.int .u8 0), (.int .u8 0), (.int .u8 0), (.int .u8 0), (.int .u8 0), (.int .u8 0), (.int .u8 0), (.int .u8 0), (.int .u8 0), (.int .u8 0), (.int .u8 0), (.int .u8 0), (.int .u8 0), (.int .u8 0), (.int .u8 0), (.int .u8 0), (.int .u8 0), (.int .u8 0), (.int .u8 0), (.int .u8 0), (.int .u8 0), (.int .u8 0), (.int .u8 0), (.int .u8 0), (.int .u8 0), (.int .u8 0), (.int .u8 0), (.int .u8 0), (.int .u8 0), (.int .u8 0), (.int .u8 0), (.int .u8 0), (.int .u8 0), (.int .u8 0), (.int .u8 0), (.int .u8 0), (.int .u8 0), (.int .u8 0), (.int .u8 0), (.int .u8 0), (.int .u8 0), (.int .u8 0), (.int .u8 0), (.int .u8 0), (.int .u8 0), (.int .u8 0), (.int .u8 0), (.int .u8 0), (.int .u8 0), (.int .u8 0), (.int .u8 0), (.int .u8 0), (.int .u8 0), (.int .u8 0), (.int .u8 0), (.int .u8 0), (.int .u8 0), (.int .u8 0), (.int .u8 0), (.int .u8 0), (.int .u8 0), (.int .u8 0), (.int .u8 0), (.int .u8 0), (.int .u8 0), (.int .u8 0), (.int .u8 0), (.int .u8 0), (.int .u8 0), (.int .u8 0), (.int .u8 0), (.int .u8 0)]), size := 256, bytes := 256 }),
  (320, { desc := .struct #[{ name := "lo", type := 5, offset := 0, embedded := false, tag := "", pkgPath := "unicode/utf8", byteOffset := 0 }, { name := "hi", type := 5, offset := 1, embedded := false, tag := "", pkgPath := "unicode/utf8", byteOffset := 1 }], zero := (.agg #[(.int .u8 0), (.int .u8 0)]), size := 2, bytes := 2, eqv := true }),
  (321, { desc := .array 16 320, zero := (.agg #[(.int .u8 0), (.int .u8 0), (.int .u8 0), (.int .u8 0), (.int .u8 0), (.int .u8 0), (.int .u8 0), (.int .u8 0), (.int .u8 0), (.int .u8 0), (.int .u8 0), (.int .u8 0), (.int .u8 0), (.int .u8 0), (.int .u8 0), (.int .u8 0), (.int .u8 0), (.int .u8 0), (.int .u8 0), (.int .u8 0), (.int .u8 0), (.int .u8 0), (.int .u8 0), (.int .u8 0), (.int .u8 0), (.int .u8 0), (.int .u8 0), (.int .u8 0), (.int .u8 0), (.int .u8 0), (.int .u8 0), (.int .u8 0)]), size := 32, bytes := 32 }),
  (326, { desc := .func #[] #[243] false, zero := .nilFunc, size := 1, bytes := 8 }),
  (328, { desc := .func #[] #[245] false, zero := .nilFunc, size := 1, bytes := 8 }),
  (331, { desc := .func #[243] #[] false, zero := .nilFunc, size := 1, bytes := 8 }),
  (333, { desc := .func #[245] #[] false, zero := .nilFunc, size := 1, bytes := 8 }),
  (334, { desc := .array 32 5, zero := (.agg #[(.int .u8 0), (.int .u8 0), (.int .u8 0), (.int .u8 0), (.int .u8 0), (.int .u8 0), (.int .u8 0), (.int .u8 0), (.int .u8 0), (.int .u8 0), (.int .u8 0), (.int .u8 0), (.int .u8 0), (.int .u8 0), (.int .u8 0), (.int .u8 0), (.int .u8 0), (.int .u8 0), (.int .u8 0), (.int .u8 0), (.int .u8 0), (.int .u8 0), (.int .u8 0), (.int .u8 0), (.int .u8 0), (.int .u8 0), (.int .u8 0), (.int .u8 0), (.int .u8 0), (.int .u8 0), (.int .u8 0), (.int .u8 0)]), size := 32, bytes := 32 }),
  (335, { desc := .array 64 5, zero := (.agg #[(.int .u8 0), (.int .u8 0), (.int .u8 0), (.int .u8 0), (.int .u8 0), (.int .u8 0), (.int .u8 0), (.int .u8 0), (.int .u8 0), (.int .u8 0), (.int .u8 0), (.int .u8 0), (.int .u8 0), (.int .u8 0), (.int .u8 0), (.int .u8 0), (.int .u8 0), (.int .u8 0), (.int .u8 0), (.int .u8 0), (.int .u8 0), (.int .u8 0), (.int .u8 0), (.int .u8 0), (.int .u8 0), (.int .u8 0), (.int .u8 0), (.int .u8 0), (.int .u8 0), (.int .u8 0), (.int .u8 0), (.int .u8 0), (.int .u8 0), (.int .u8 0), (.int .u8 0), (.int .u8 0), (.int .u8 0), (.int .u8 0), (.int .u8 0), (.int .u8 0), (.int .u8 0), (.int .u8 0), (.int .u8 0), (.int .u8 0), (.int .u8 0), (.int .u8 0), (.int .u8 0), (.int .u8 0), (.int .u8 0), (.int .u8 0), (.int .u8 0), (.int .u8 0), (.int .u8 0), (.int .u8 0), (.int .u8 0), (.int .u8 0), (.int .u8 0), (.int .u8 0), (.int .u8 0), (.int .u8 0), (.int .u8 0), (.int .u8 0), (.int .u8 0), (.int .u8 0)]), size := 64, bytes := 64 })]

def OkRow (P : Program) (T : TT) (t : Nat) (i : TI) : Prop := P.underlying t = some i.desc ∧ (P.info? t).map (fun j => (j.zero, j.size, j.bytes)) = some (some i.zero, i.size, i.bytes) ∧
  (i.eqv = true → P.stoodInHeld t = false ∧ P.eqGuardType P.depth t = false) ∧ (∀ fs, i.desc = .struct fs → fieldsKnown T fs = true)

theorem row2 : OkRow Tryz.prog T 2 { desc := .int .i64, zero := (.int .i64 0), size := 1, bytes := 8 } :=
  ⟨by kernel_rfl, by kernel_rfl, fun h => (by cases h), fun fs h => (by cases h)⟩
theorem row3 : OkRow Tryz.prog T 3 { desc := .int .i64, zero := (.int .i64 0), size := 1, bytes := 8 } :=
  ⟨by kernel_rfl, by kernel_rfl, fun h => (by cases h), fun fs h => (by cases h)⟩
theorem row4 : OkRow Tryz.prog T 4 { desc := .bool, zero := (.bool false), size := 1, bytes := 1 } :=
  ⟨by kernel_rfl, by kernel_rfl, fun h => (by cases h), fun fs h => (by cases h)⟩
theorem row5 : OkRow Tryz.prog T 5 { desc := .int .u8, zero := (.int .u8 0), size := 1, bytes := 1 } :=
  ⟨by kernel_rfl, by kernel_rfl, fun h => (by cases h), fun fs h => (by cases h)⟩
theorem row9 : OkRow Tryz.prog T 9 { desc := .string, zero := (.string ⟨#[]⟩), size := 1, bytes := 16 } :=
  ⟨by kernel_rfl, by kernel_rfl, fun h => (by cases h), fun fs h => (by cases h)⟩
theorem row21 : OkRow Tryz.prog T 21 { desc := .int .i32, zero := (.int .i32 0), size := 1, bytes := 4 } :=
  ⟨by kernel_rfl, by kernel_rfl, fun h => (by cases h), fun fs h => (by cases h)⟩
theorem row22 : OkRow Tryz.prog T 22 { desc := .slice 66, zero := (.slice none 0 0), size := 1, bytes := 24 } :=
  ⟨by kernel_rfl, by kernel_rfl, fun h => (by cases h), fun fs h => (by cases h)⟩
theorem row24 : OkRow Tryz.prog T 24 { desc := .struct #[{ name := "Files", type := 22, offset := 0, embedded := false, tag := "", pkgPath := "", byteOffset := 0 }, { name := "Space", type := 3, offset := 1, embedded := false, tag := "", pkgPath := "", byteOffset := 24 }], zero := (.agg #[(.slice none 0 0), (.int .i64 0)]), size := 2, bytes := 32 } :=
  ⟨by kernel_rfl, by kernel_rfl, fun h => (by cases h), fun fs h => (by cases h; kernel_rfl)⟩
theorem row27 : OkRow Tryz.prog T 27 { desc := .slice 3, zero := (.slice none 0 0), size := 1, bytes := 24 } :=
  ⟨by kernel_rfl, by kernel_rfl, fun h => (by cases h), fun fs h => (by cases h)⟩
theorem row28 : OkRow Tryz.prog T 28 { desc := .int .i64, zero := (.int .i64 0), size := 1, bytes := 8 } :=
  ⟨by kernel_rfl, by kernel_rfl, fun h => (by cases h), fun fs h => (by cases h)⟩
theorem row33 : OkRow Tryz.prog T 33 { desc := .slice 88, zero := (.slice none 0 0), size := 1, bytes := 24 } :=
  ⟨by kernel_rfl, by kernel_rfl, fun h => (by cases h), fun fs h => (by cases h)⟩
theorem row34 : OkRow Tryz.prog T 34 { desc := .slice 92, zero := (.slice none 0 0), size := 1, bytes := 24 } :=
  ⟨by kernel_rfl, by kernel_rfl, fun h => (by cases h), fun fs h => (by cases h)⟩
theorem row36 : OkRow Tryz.prog T 36 { desc := .struct #[{ name := "Number", type := 3, offset := 0, embedded := false, tag := "", pkgPath := "", byteOffset := 0 }, { name := "Readers", type := 33, offset := 1, embedded := false, tag := "", pkgPath := "", byteOffset := 8 }, { name := "Operators", type := 34, offset := 2, embedded := false, tag := "", pkgPath := "", byteOffset := 32 }], zero := (.agg #[(.int .i64 0), (.slice none 0 0), (.slice none 0 0)]), size := 3, bytes := 56 } :=
  ⟨by kernel_rfl, by kernel_rfl, fun h => (by cases h), fun fs h => (by cases h; kernel_rfl)⟩
theorem row56 : OkRow Tryz.prog T 56 { desc := .func #[3, 9] #[4] false, zero := .nilFunc, size := 1, bytes := 8 } :=
  ⟨by kernel_rfl, by kernel_rfl, fun h => (by cases h), fun fs h => (by cases h)⟩
theorem row66 : OkRow Tryz.prog T 66 { desc := .struct #[{ name := "Name", type := 9, offset := 0, embedded := false, tag := "", pkgPath := "", byteOffset := 0 }, { name := "Durable", type := 9, offset := 1, embedded := false, tag := "", pkgPath := "", byteOffset := 16 }, { name := "Volatile", type := 9, offset := 2, embedded := false, tag := "", pkgPath := "", byteOffset := 32 }], zero := (.agg #[(.string ⟨#[]⟩), (.string ⟨#[]⟩), (.string ⟨#[]⟩)]), size := 3, bytes := 48, eqv := true } :=
  ⟨by kernel_rfl, by kernel_rfl, fun _ => ⟨by kernel_rfl, by kernel_rfl⟩, fun fs h => (by cases h; kernel_rfl)⟩
theorem row74 : OkRow Tryz.prog T 74 { desc := .slice 9, zero := (.slice none 0 0), size := 1, bytes := 24 } :=
  ⟨by kernel_rfl, by kernel_rfl, fun h => (by cases h), fun fs h => (by cases h)⟩
theorem row78 : OkRow Tryz.prog T 78 { desc := .func #[56] #[] false, zero := .nilFunc, size := 1, bytes := 8 } :=
  ⟨by kernel_rfl, by kernel_rfl, fun h => (by cases h), fun fs h => (by cases h)⟩
theorem row84 : OkRow Tryz.prog T 84 { desc := .slice 143, zero := (.slice none 0 0), size := 1, bytes := 24 } :=
  ⟨by kernel_rfl, by kernel_rfl, fun h => (by cases h), fun fs h => (by cases h)⟩
theorem row86 : OkRow Tryz.prog T 86 { desc := .struct #[{ name := "Next", type := 3, offset := 0, embedded := false, tag := "", pkgPath := "", byteOffset := 0 }, { name := "Beyond", type := 27, offset := 1, embedded := false, tag := "", pkgPath := "", byteOffset := 8 }, { name := "Points", type := 84, offset := 2, embedded := false, tag := "", pkgPath := "", byteOffset := 32 }, { name := "Mark", type := 3, offset := 3, embedded := false, tag := "", pkgPath := "", byteOffset := 56 }], zero := (.agg #[(.int .i64 0), (.slice none 0 0), (.slice none 0 0), (.int .i64 0)]), size := 4, bytes := 64 } :=
  ⟨by kernel_rfl, by kernel_rfl, fun h => (by cases h), fun fs h => (by cases h; kernel_rfl)⟩
theorem row88 : OkRow Tryz.prog T 88 { desc := .struct #[{ name := "Source", type := 3, offset := 0, embedded := false, tag := "", pkgPath := "", byteOffset := 0 }, { name := "Offset", type := 3, offset := 1, embedded := false, tag := "", pkgPath := "", byteOffset := 8 }, { name := "Tracker", type := 86, offset := 2, embedded := false, tag := "", pkgPath := "", byteOffset := 16 }], zero := (.agg #[(.int .i64 0), (.int .i64 0), (.int .i64 0), (.slice none 0 0), (.slice none 0 0), (.int .i64 0)]), size := 6, bytes := 80 } :=
  ⟨by kernel_rfl, by kernel_rfl, fun h => (by cases h), fun fs h => (by cases h; kernel_rfl)⟩
theorem row90 : OkRow Tryz.prog T 90 { desc := .slice 100, zero := (.slice none 0 0), size := 1, bytes := 24 } :=
  ⟨by kernel_rfl, by kernel_rfl, fun h => (by cases h), fun fs h => (by cases h)⟩
theorem row92 : OkRow Tryz.prog T 92 { desc := .struct #[{ name := "Marks", type := 27, offset := 0, embedded := false, tag := "", pkgPath := "", byteOffset := 0 }, { name := "Engines", type := 90, offset := 1, embedded := false, tag := "", pkgPath := "", byteOffset := 24 }], zero := (.agg #[(.slice none 0 0), (.slice none 0 0)]), size := 2, bytes := 48 } :=
  ⟨by kernel_rfl, by kernel_rfl, fun h => (by cases h), fun fs h => (by cases h; kernel_rfl)⟩
theorem row94 : OkRow Tryz.prog T 94 { desc := .struct #[{ name := "Kind", type := 3, offset := 0, embedded := false, tag := "", pkgPath := "", byteOffset := 0 }, { name := "Num", type := 3, offset := 1, embedded := false, tag := "", pkgPath := "", byteOffset := 8 }, { name := "Text", type := 9, offset := 2, embedded := false, tag := "", pkgPath := "", byteOffset := 16 }], zero := (.agg #[(.int .i64 0), (.int .i64 0), (.string ⟨#[]⟩)]), size := 3, bytes := 32, eqv := true } :=
  ⟨by kernel_rfl, by kernel_rfl, fun _ => ⟨by kernel_rfl, by kernel_rfl⟩, fun fs h => (by cases h; kernel_rfl)⟩
theorem row95 : OkRow Tryz.prog T 95 { desc := .slice 195, zero := (.slice none 0 0), size := 1, bytes := 24 } :=
  ⟨by kernel_rfl, by kernel_rfl, fun h => (by cases h), fun fs h => (by cases h)⟩
theorem row96 : OkRow Tryz.prog T 96 { desc := .slice 148, zero := (.slice none 0 0), size := 1, bytes := 24 } :=
  ⟨by kernel_rfl, by kernel_rfl, fun h => (by cases h), fun fs h => (by cases h)⟩
theorem row98 : OkRow Tryz.prog T 98 { desc := .struct #[{ name := "Mark", type := 3, offset := 0, embedded := false, tag := "", pkgPath := "", byteOffset := 0 }, { name := "Waiting", type := 95, offset := 1, embedded := false, tag := "", pkgPath := "", byteOffset := 8 }, { name := "Runs", type := 96, offset := 2, embedded := false, tag := "", pkgPath := "", byteOffset := 32 }, { name := "Held", type := 95, offset := 3, embedded := false, tag := "", pkgPath := "", byteOffset := 56 }], zero := (.agg #[(.int .i64 0), (.slice none 0 0), (.slice none 0 0), (.slice none 0 0)]), size := 4, bytes := 80 } :=
  ⟨by kernel_rfl, by kernel_rfl, fun h => (by cases h), fun fs h => (by cases h; kernel_rfl)⟩
theorem row100 : OkRow Tryz.prog T 100 { desc := .struct #[{ name := "Query", type := 3, offset := 0, embedded := false, tag := "", pkgPath := "", byteOffset := 0 }, { name := "Key", type := 94, offset := 1, embedded := false, tag := "", pkgPath := "", byteOffset := 8 }, { name := "Engine", type := 98, offset := 4, embedded := false, tag := "", pkgPath := "", byteOffset := 40 }], zero := (.agg #[(.int .i64 0), (.int .i64 0), (.int .i64 0), (.string ⟨#[]⟩), (.int .i64 0), (.slice none 0 0), (.slice none 0 0), (.slice none 0 0)]), size := 8, bytes := 120 } :=
  ⟨by kernel_rfl, by kernel_rfl, fun h => (by cases h), fun fs h => (by cases h; kernel_rfl)⟩
theorem row104 : OkRow Tryz.prog T 104 { desc := .func #[24] #[24, 28] false, zero := .nilFunc, size := 1, bytes := 8 } :=
  ⟨by kernel_rfl, by kernel_rfl, fun h => (by cases h), fun fs h => (by cases h)⟩
theorem row110 : OkRow Tryz.prog T 110 { desc := .slice 104, zero := (.slice none 0 0), size := 1, bytes := 24 } :=
  ⟨by kernel_rfl, by kernel_rfl, fun h => (by cases h), fun fs h => (by cases h)⟩
theorem row117 : OkRow Tryz.prog T 117 { desc := .slice 5, zero := (.slice none 0 0), size := 1, bytes := 24 } :=
  ⟨by kernel_rfl, by kernel_rfl, fun h => (by cases h), fun fs h => (by cases h)⟩
theorem row120 : OkRow Tryz.prog T 120 { desc := .func #[66] #[4] false, zero := .nilFunc, size := 1, bytes := 8 } :=
  ⟨by kernel_rfl, by kernel_rfl, fun h => (by cases h), fun fs h => (by cases h)⟩
theorem row124 : OkRow Tryz.prog T 124 { desc := .struct #[{ name := "left", type := 27, offset := 0, embedded := false, tag := "", pkgPath := "tidegate/disk", byteOffset := 0 }], zero := (.agg #[(.slice none 0 0)]), size := 1, bytes := 24 } :=
  ⟨by kernel_rfl, by kernel_rfl, fun h => (by cases h), fun fs h => (by cases h; kernel_rfl)⟩
theorem row126 : OkRow Tryz.prog T 126 { desc := .func #[3] #[3] false, zero := .nilFunc, size := 1, bytes := 8 } :=
  ⟨by kernel_rfl, by kernel_rfl, fun h => (by cases h), fun fs h => (by cases h)⟩
theorem row131 : OkRow Tryz.prog T 131 { desc := .func #[175] #[] false, zero := .nilFunc, size := 1, bytes := 8 } :=
  ⟨by kernel_rfl, by kernel_rfl, fun h => (by cases h), fun fs h => (by cases h)⟩
theorem row134 : OkRow Tryz.prog T 134 { desc := .func #[136] #[36] false, zero := .nilFunc, size := 1, bytes := 8 } :=
  ⟨by kernel_rfl, by kernel_rfl, fun h => (by cases h), fun fs h => (by cases h)⟩
theorem row136 : OkRow Tryz.prog T 136 { desc := .pointer 178, zero := (.pointer none), size := 1, bytes := 8 } :=
  ⟨by kernel_rfl, by kernel_rfl, fun h => (by cases h), fun fs h => (by cases h)⟩
theorem row138 : OkRow Tryz.prog T 138 { desc := .pointer 186, zero := (.pointer none), size := 1, bytes := 8 } :=
  ⟨by kernel_rfl, by kernel_rfl, fun h => (by cases h), fun fs h => (by cases h)⟩
theorem row143 : OkRow Tryz.prog T 143 { desc := .struct #[{ name := "Seq", type := 3, offset := 0, embedded := false, tag := "", pkgPath := "", byteOffset := 0 }, { name := "Time", type := 3, offset := 1, embedded := false, tag := "", pkgPath := "", byteOffset := 8 }], zero := (.agg #[(.int .i64 0), (.int .i64 0)]), size := 2, bytes := 16, eqv := true } :=
  ⟨by kernel_rfl, by kernel_rfl, fun _ => ⟨by kernel_rfl, by kernel_rfl⟩, fun fs h => (by cases h; kernel_rfl)⟩
theorem row145 : OkRow Tryz.prog T 145 { desc := .slice 243, zero := (.slice none 0 0), size := 1, bytes := 24 } :=
  ⟨by kernel_rfl, by kernel_rfl, fun h => (by cases h), fun fs h => (by cases h)⟩
theorem row146 : OkRow Tryz.prog T 146 { desc := .slice 245, zero := (.slice none 0 0), size := 1, bytes := 24 } :=
  ⟨by kernel_rfl, by kernel_rfl, fun h => (by cases h), fun fs h => (by cases h)⟩
theorem row148 : OkRow Tryz.prog T 148 { desc := .struct #[{ name := "State", type := 3, offset := 0, embedded := false, tag := "", pkgPath := "", byteOffset := 0 }, { name := "Bindings", type := 145, offset := 1, embedded := false, tag := "", pkgPath := "", byteOffset := 8 }, { name := "Starts", type := 146, offset := 2, embedded := false, tag := "", pkgPath := "", byteOffset := 32 }], zero := (.agg #[(.int .i64 0), (.slice none 0 0), (.slice none 0 0)]), size := 3, bytes := 56 } :=
  ⟨by kernel_rfl, by kernel_rfl, fun h => (by cases h), fun fs h => (by cases h; kernel_rfl)⟩
theorem row151 : OkRow Tryz.prog T 151 { desc := .pointer 153, zero := (.pointer none), size := 1, bytes := 8 } :=
  ⟨by kernel_rfl, by kernel_rfl, fun h => (by cases h), fun fs h => (by cases h)⟩
theorem row153 : OkRow Tryz.prog T 153 { desc := .struct #[{ name := "out", type := 9, offset := 0, embedded := false, tag := "", pkgPath := "tidegate/tidegateref43", byteOffset := 0 }, { name := "bad", type := 3, offset := 1, embedded := false, tag := "", pkgPath := "tidegate/tidegateref43", byteOffset := 16 }], zero := (.agg #[(.string ⟨#[]⟩), (.int .i64 0)]), size := 2, bytes := 24, eqv := true } :=
  ⟨by kernel_rfl, by kernel_rfl, fun _ => ⟨by kernel_rfl, by kernel_rfl⟩, fun fs h => (by cases h; kernel_rfl)⟩
theorem row163 : OkRow Tryz.prog T 163 { desc := .interface #[("Error", 302)], zero := .nilIface, size := 1, bytes := 16 } :=
  ⟨by kernel_rfl, by kernel_rfl, fun h => (by cases h), fun fs h => (by cases h)⟩
theorem row169 : OkRow Tryz.prog T 169 { desc := .func #[9] #[9] false, zero := .nilFunc, size := 1, bytes := 8 } :=
  ⟨by kernel_rfl, by kernel_rfl, fun h => (by cases h), fun fs h => (by cases h)⟩
theorem row173 : OkRow Tryz.prog T 173 { desc := .int .u64, zero := (.int .u64 0), size := 1, bytes := 8 } :=
  ⟨by kernel_rfl, by kernel_rfl, fun h => (by cases h), fun fs h => (by cases h)⟩
theorem row178 : OkRow Tryz.prog T 178 { desc := .struct #[{ name := "s", type := 9, offset := 0, embedded := false, tag := "", pkgPath := "tidegate/codec", byteOffset := 0 }, { name := "e", type := 28, offset := 1, embedded := false, tag := "", pkgPath := "tidegate/codec", byteOffset := 16 }], zero := (.agg #[(.string ⟨#[]⟩), (.int .i64 0)]), size := 2, bytes := 24, eqv := true } :=
  ⟨by kernel_rfl, by kernel_rfl, fun _ => ⟨by kernel_rfl, by kernel_rfl⟩, fun fs h => (by cases h; kernel_rfl)⟩
theorem row180 : OkRow Tryz.prog T 180 { desc := .func #[] #[3] false, zero := .nilFunc, size := 1, bytes := 8 } :=
  ⟨by kernel_rfl, by kernel_rfl, fun h => (by cases h), fun fs h => (by cases h)⟩
theorem row182 : OkRow Tryz.prog T 182 { desc := .func #[] #[88] false, zero := .nilFunc, size := 1, bytes := 8 } :=
  ⟨by kernel_rfl, by kernel_rfl, fun h => (by cases h), fun fs h => (by cases h)⟩
theorem row184 : OkRow Tryz.prog T 184 { desc := .func #[] #[92] false, zero := .nilFunc, size := 1, bytes := 8 } :=
  ⟨by kernel_rfl, by kernel_rfl, fun h => (by cases h), fun fs h => (by cases h)⟩
theorem row186 : OkRow Tryz.prog T 186 { desc := .struct #[{ name := "s", type := 9, offset := 0, embedded := false, tag := "", pkgPath := "tidegate/tidegateref43", byteOffset := 0 }, { name := "bad", type := 3, offset := 1, embedded := false, tag := "", pkgPath := "tidegate/tidegateref43", byteOffset := 16 }], zero := (.agg #[(.string ⟨#[]⟩), (.int .i64 0)]), size := 2, bytes := 24, eqv := true } :=
  ⟨by kernel_rfl, by kernel_rfl, fun _ => ⟨by kernel_rfl, by kernel_rfl⟩, fun fs h => (by cases h; kernel_rfl)⟩
theorem row193 : OkRow Tryz.prog T 193 { desc := .slice 94, zero := (.slice none 0 0), size := 1, bytes := 24 } :=
  ⟨by kernel_rfl, by kernel_rfl, fun h => (by cases h), fun fs h => (by cases h)⟩
theorem row195 : OkRow Tryz.prog T 195 { desc := .struct #[{ name := "Source", type := 3, offset := 0, embedded := false, tag := "", pkgPath := "", byteOffset := 0 }, { name := "Seq", type := 3, offset := 1, embedded := false, tag := "", pkgPath := "", byteOffset := 8 }, { name := "Type", type := 3, offset := 2, embedded := false, tag := "", pkgPath := "", byteOffset := 16 }, { name := "Time", type := 3, offset := 3, embedded := false, tag := "", pkgPath := "", byteOffset := 24 }, { name := "Values", type := 193, offset := 4, embedded := false, tag := "", pkgPath := "", byteOffset := 32 }], zero := (.agg #[(.int .i64 0), (.int .i64 0), (.int .i64 0), (.int .i64 0), (.slice none 0 0)]), size := 5, bytes := 56 } :=
  ⟨by kernel_rfl, by kernel_rfl, fun h => (by cases h), fun fs h => (by cases h; kernel_rfl)⟩
theorem row198 : OkRow Tryz.prog T 198 { desc := .pointer 248, zero := (.pointer none), size := 1, bytes := 8 } :=
  ⟨by kernel_rfl, by kernel_rfl, fun h => (by cases h), fun fs h => (by cases h)⟩
theorem row200 : OkRow Tryz.prog T 200 { desc := .func #[198] #[] false, zero := .nilFunc, size := 1, bytes := 8 } :=
  ⟨by kernel_rfl, by kernel_rfl, fun h => (by cases h), fun fs h => (by cases h)⟩
theorem row212 : OkRow Tryz.prog T 212 { desc := .func #[66, 9] #[3] false, zero := .nilFunc, size := 1, bytes := 8 } :=
  ⟨by kernel_rfl, by kernel_rfl, fun h => (by cases h), fun fs h => (by cases h)⟩
theorem row215 : OkRow Tryz.prog T 215 { desc := .array 256 4, zero := (.agg #[(.bool false), (.bool false), (.bool false), (.bool false), (.bool false), (.bool false), (.bool false), (.bool false), (.bool false), (.bool false), (.bool false), (.bool false), (.bool false), (.bool false), (.bool false), (.bool false), (.bool false), (.bool false), (.bool false), (.bool false), (.bool false), (.bool false), (.bool false), (.bool false), (.bool false), (.bool false), (.bool false), (.bool false), (.bool false), (.bool false), (.bool false), (.bool false), (.bool false), (.bool false), (.bool false), (.bool false), (.bool false), (.bool false), (.bool false), (.bool false), (.bool false), (.bool false), (.bool false), (.bool false), (.bool false), (.bool false), (.bool false), (.bool false), (.bool false), (.bool false), (.bool false), (.bool false), (.bool false), (.bool false), (.bool false), (.bool false), (.bool false), (.bool false), (.bool false), (.bool false), (.bool false), (.bool false), (.bool false), (.bool false), (.bool false), (.bool false), (.bool false), (.bool false), (.bool false), (.bool false), (.bool false), (.bool false), (.bool false), (.bool false), (.bool false), (.bool false), (.bool false), (.bool false), (.bool false), (.bool false), (.bool false), (.bool false), (.bool false), (.bool false), (.bool false), (.bool false), (.bool false), (.bool false), (.bool false), (.bool false), (.bool false), (.bool false), (.bool false), (.bool false), (.bool false), (.bool false), (.bool false), (.bool false), (.bool false), (.bool false), (.bool false), (.bool false), (.bool false), (.bool false), (.bool false), (.bool false), (.bool false), (.bool false), (.bool false), (.bool false), (.bool false), (.bool false), (.bool false), (.bool false), (.bool false), (.bool false), (.bool false), (.bool false), (.bool false), (.bool false), (.bool false), (.bool false), (.bool false), (.bool false), (.bool false), (.bool false), (.bool false), (.bool false), (.bool false), (.bool false), (.bool false), (.bool false), (.bool false), (.bool false), (.bool false), (.bool false), (.bool false), (.bool false), (.bool false), (.bool false), (.bool false), (.bool false), (.bool false), (.bool false), (.bool false), (.bool false), (.bool false), (.bool false), (.bool false), (.bool false), (.bool false), (.bool false), (.bool false), (.bool false), (.bool false), (.bool false), (.bool false), (.bool false), (.bool false), (.bool false), (.bool false), (.bool false), (.bool false), (.bool false), (.bool false), (.bool false), (.bool false), (.bool false), (.bool false), (.bool false), (.bool false), (.bool false), (.bool false), (.bool false), (.bool false), (.bool false), (.bool false), (.bool false), (.bool false), (.bool false), (.bool false), (.bool false), (.bool false), (.bool false), (.bool false), (.bool false), (.bool false), (.bool false), (.bool false), (.bool false), (.bool false), (.bool false), (.bool false), (.bool false), (.bool false), (.bool false), (.bool false), (.bool false), (.bool false), (.bool false), (.bool false), (.bool false), (.bool false), (.bool false), (.bool false), (.bool false), (.bool false), (.bool false), (.bool false), (.bool false), (.bool false), (.bool false), (.bool false), (.bool false), (.bool false), (.bool false), (.bool false), (.bool false), (.bool false), (.bool false), (.bool false), (.bool false), (.bool false), (.bool false), (.bool false), (.bool false), (.bool false), (.bool false), (.bool false), (.bool false), (.bool false), (.bool false), (.bool false), (.bool false), (.bool false), (.bool false), (.bool false), (.bool false), (.bool false), (.bool false), (.bool false), (.bool false), (.bool false), (.bool false), (.bool false), (.bool false), (.bool false), (.bool false), (.bool false), (.bool false), (.bool false), (.bool false), (.bool false), (.bool false), (.bool false), (.bool false)]), size := 256, bytes := 256 } :=
  ⟨by kernel_rfl, by kernel_rfl, fun h => (by cases h), fun fs h => (by cases h)⟩
theorem row219 : OkRow Tryz.prog T 219 { desc := .pointer 215, zero := (.pointer none), size := 1, bytes := 8 } :=
  ⟨by kernel_rfl, by kernel_rfl, fun h => (by cases h), fun fs h => (by cases h)⟩
theorem row221 : OkRow Tryz.prog T 221 { desc := .int .i64, zero := (.int .i64 0), size := 1, bytes := 8 } :=
  ⟨by kernel_rfl, by kernel_rfl, fun h => (by cases h), fun fs h => (by cases h)⟩
theorem row228 : OkRow Tryz.prog T 228 { desc := .int .u32, zero := (.int .u32 0), size := 1, bytes := 4 } :=
  ⟨by kernel_rfl, by kernel_rfl, fun h => (by cases h), fun fs h => (by cases h)⟩
theorem row230 : OkRow Tryz.prog T 230 { desc := .int .u64, zero := (.int .u64 0), size := 1, bytes := 8 } :=
  ⟨by kernel_rfl, by kernel_rfl, fun h => (by cases h), fun fs h => (by cases h)⟩
theorem row233 : OkRow Tryz.prog T 233 { desc := .func #[] #[143] false, zero := .nilFunc, size := 1, bytes := 8 } :=
  ⟨by kernel_rfl, by kernel_rfl, fun h => (by cases h), fun fs h => (by cases h)⟩
theorem row235 : OkRow Tryz.prog T 235 { desc := .func #[] #[100] false, zero := .nilFunc, size := 1, bytes := 8 } :=
  ⟨by kernel_rfl, by kernel_rfl, fun h => (by cases h), fun fs h => (by cases h)⟩
theorem row241 : OkRow Tryz.prog T 241 { desc := .struct #[{ name := "Time", type := 3, offset := 0, embedded := false, tag := "", pkgPath := "", byteOffset := 0 }, { name := "Source", type := 3, offset := 1, embedded := false, tag := "", pkgPath := "", byteOffset := 8 }, { name := "Seq", type := 3, offset := 2, embedded := false, tag := "", pkgPath := "", byteOffset := 16 }], zero := (.agg #[(.int .i64 0), (.int .i64 0), (.int .i64 0)]), size := 3, bytes := 24, eqv := true } :=
  ⟨by kernel_rfl, by kernel_rfl, fun _ => ⟨by kernel_rfl, by kernel_rfl⟩, fun fs h => (by cases h; kernel_rfl)⟩
theorem row243 : OkRow Tryz.prog T 243 { desc := .struct #[{ name := "Var", type := 3, offset := 0, embedded := false, tag := "", pkgPath := "", byteOffset := 0 }, { name := "Ref", type := 241, offset := 1, embedded := false, tag := "", pkgPath := "", byteOffset := 8 }], zero := (.agg #[(.int .i64 0), (.int .i64 0), (.int .i64 0), (.int .i64 0)]), size := 4, bytes := 32, eqv := true } :=
  ⟨by kernel_rfl, by kernel_rfl, fun _ => ⟨by kernel_rfl, by kernel_rfl⟩, fun fs h => (by cases h; kernel_rfl)⟩
theorem row245 : OkRow Tryz.prog T 245 { desc := .struct #[{ name := "Scope", type := 3, offset := 0, embedded := false, tag := "", pkgPath := "", byteOffset := 0 }, { name := "Time", type := 3, offset := 1, embedded := false, tag := "", pkgPath := "", byteOffset := 8 }], zero := (.agg #[(.int .i64 0), (.int .i64 0)]), size := 2, bytes := 16, eqv := true } :=
  ⟨by kernel_rfl, by kernel_rfl, fun _ => ⟨by kernel_rfl, by kernel_rfl⟩, fun fs h => (by cases h; kernel_rfl)⟩
theorem row248 : OkRow Tryz.prog T 248 { desc := .struct #[{ name := "out", type := 117, offset := 0, embedded := false, tag := "", pkgPath := "tidegate/codec", byteOffset := 0 }, { name := "e", type := 28, offset := 1, embedded := false, tag := "", pkgPath := "tidegate/codec", byteOffset := 24 }], zero := (.agg #[(.slice none 0 0), (.int .i64 0)]), size := 2, bytes := 32 } :=
  ⟨by kernel_rfl, by kernel_rfl, fun h => (by cases h), fun fs h => (by cases h; kernel_rfl)⟩
theorem row249 : OkRow Tryz.prog T 249 { desc := .func #[3] #[] false, zero := .nilFunc, size := 1, bytes := 8 } :=
  ⟨by kernel_rfl, by kernel_rfl, fun h => (by cases h), fun fs h => (by cases h)⟩
theorem row251 : OkRow Tryz.prog T 251 { desc := .func #[88] #[] false, zero := .nilFunc, size := 1, bytes := 8 } :=
  ⟨by kernel_rfl, by kernel_rfl, fun h => (by cases h), fun fs h => (by cases h)⟩
theorem row253 : OkRow Tryz.prog T 253 { desc := .func #[92] #[] false, zero := .nilFunc, size := 1, bytes := 8 } :=
  ⟨by kernel_rfl, by kernel_rfl, fun h => (by cases h), fun fs h => (by cases h)⟩
theorem row258 : OkRow Tryz.prog T 258 { desc := .array 24 5, zero := (.agg #[(.int .u8 0), (.int .u8 0), (.int .u8 0), (.int .u8 0), (.int .u8 0), (.int .u8 0), (.int .u8 0), (.int .u8 0), (.int .u8 0), (.int .u8 0), (.int .u8 0), (.int .u8 0), (.int .u8 0), (.int .u8 0), (.int .u8 0), (.int .u8 0), (.int .u8 0), (.int .u8 0), (.int .u8 0), (.int .u8 0), (.int .u8 0), (.int .u8 0), (.int .u8 0), (.int .u8 0)]), size := 24, bytes := 24 } :=
  ⟨by kernel_rfl, by kernel_rfl, fun h => (by cases h), fun fs h => (by cases h)⟩
theorem row266 : OkRow Tryz.prog T 266 { desc := .pointer 297, zero := (.pointer none), size := 1, bytes := 8 } :=
  ⟨by kernel_rfl, by kernel_rfl, fun h => (by cases h), fun fs h => (by cases h)⟩
theorem row272 : OkRow Tryz.prog T 272 { desc := .int .u64, zero := (.int .u64 0), size := 1, bytes := 8 } :=
  ⟨by kernel_rfl, by kernel_rfl, fun h => (by cases h), fun fs h => (by cases h)⟩
theorem row276 : OkRow Tryz.prog T 276 { desc := .pointer 3, zero := (.pointer none), size := 1, bytes := 8 } :=
  ⟨by kernel_rfl, by kernel_rfl, fun h => (by cases h), fun fs h => (by cases h)⟩
theorem row278 : OkRow Tryz.prog T 278 { desc := .func #[] #[94] false, zero := .nilFunc, size := 1, bytes := 8 } :=
  ⟨by kernel_rfl, by kernel_rfl, fun h => (by cases h), fun fs h => (by cases h)⟩
theorem row286 : OkRow Tryz.prog T 286 { desc := .func #[143] #[] false, zero := .nilFunc, size := 1, bytes := 8 } :=
  ⟨by kernel_rfl, by kernel_rfl, fun h => (by cases h), fun fs h => (by cases h)⟩
theorem row288 : OkRow Tryz.prog T 288 { desc := .func #[94] #[] false, zero := .nilFunc, size := 1, bytes := 8 } :=
  ⟨by kernel_rfl, by kernel_rfl, fun h => (by cases h), fun fs h => (by cases h)⟩
theorem row290 : OkRow Tryz.prog T 290 { desc := .func #[100] #[] false, zero := .nilFunc, size := 1, bytes := 8 } :=
  ⟨by kernel_rfl, by kernel_rfl, fun h => (by cases h), fun fs h => (by cases h)⟩
theorem row292 : OkRow Tryz.prog T 292 { desc := .array 20 230, zero := (.agg #[(.int .u64 0), (.int .u64 0), (.int .u64 0), (.int .u64 0), (.int .u64 0), (.int .u64 0), (.int .u64 0), (.int .u64 0), (.int .u64 0), (.int .u64 0), (.int .u64 0), (.int .u64 0), (.int .u64 0), (.int .u64 0), (.int .u64 0), (.int .u64 0), (.int .u64 0), (.int .u64 0), (.int .u64 0), (.int .u64 0)]), size := 20, bytes := 160 } :=
  ⟨by kernel_rfl, by kernel_rfl, fun h => (by cases h), fun fs h => (by cases h)⟩
theorem row293 : OkRow Tryz.prog T 293 { desc := .array 65 5, zero := (.agg #[(.int .u8 0), (.int .u8 0), (.int .u8 0), (.int .u8 0), (.int .u8 0), (.int .u8 0), (.int .u8 0), (.int .u8 0), (.int .u8 0), (.int .u8 0), (.int .u8 0), (.int .u8 0), (.int .u8 0), (.int .u8 0), (.int .u8 0), (.int .u8 0), (.int .u8 0), (.int .u8 0), (.int .u8 0), (.int .u8 0), (.int .u8 0), (.int .u8 0), (.int .u8 0), (.int .u8 0), (.int .u8 0), (.int .u8 0), (.int .u8 0), (.int .u8 0), (.int .u8 0), (.int .u8 0), (.int .u8 0), (.int .u8 0), (.int .u8 0), (.int .u8 0), (.int .u8 0), (.int .u8 0), (.int .u8 0), (.int .u8 0), (.int .u8 0), (.int .u8 0), (.int .u8 0), (.int .u8 0), (.int .u8 0), (.int .u8 0), (.int .u8 0), (.int .u8 0), (.int .u8 0), (.int .u8 0), (.int .u8 0), (.int .u8 0), (.int .u8 0), (.int .u8 0), (.int .u8 0), (.int .u8 0), (.int .u8 0), (.int .u8 0), (.int .u8 0), (.int .u8 0), (.int .u8 0), (.int .u8 0), (.int .u8 0), (.int .u8 0), (.int .u8 0), (.int .u8 0), (.int .u8 0)]), size := 65, bytes := 65 } :=
  ⟨by kernel_rfl, by kernel_rfl, fun h => (by cases h), fun fs h => (by cases h)⟩
theorem row297 : OkRow Tryz.prog T 297 { desc := .struct #[{ name := "Func", type := 9, offset := 0, embedded := false, tag := "", pkgPath := "", byteOffset := 0 }, { name := "Num", type := 9, offset := 1, embedded := false, tag := "", pkgPath := "", byteOffset := 16 }, { name := "Err", type := 163, offset := 2, embedded := false, tag := "", pkgPath := "", byteOffset := 32 }], zero := (.agg #[(.string ⟨#[]⟩), (.string ⟨#[]⟩), .nilIface]), size := 3, bytes := 48 } :=
  ⟨by kernel_rfl, by kernel_rfl, fun h => (by cases h), fun fs h => (by cases h; kernel_rfl)⟩
theorem row305 : OkRow Tryz.prog T 305 { desc := .func #[] #[195] false, zero := .nilFunc, size := 1, bytes := 8 } :=
  ⟨by kernel_rfl, by kernel_rfl, fun h => (by cases h), fun fs h => (by cases h)⟩
theorem row307 : OkRow Tryz.prog T 307 { desc := .func #[] #[148] false, zero := .nilFunc, size := 1, bytes := 8 } :=
  ⟨by kernel_rfl, by kernel_rfl, fun h => (by cases h), fun fs h => (by cases h)⟩
theorem row309 : OkRow Tryz.prog T 309 { desc := .func #[195] #[] false, zero := .nilFunc, size := 1, bytes := 8 } :=
  ⟨by kernel_rfl, by kernel_rfl, fun h => (by cases h), fun fs h => (by cases h)⟩
theorem row311 : OkRow Tryz.prog T 311 { desc := .func #[148] #[] false, zero := .nilFunc, size := 1, bytes := 8 } :=
  ⟨by kernel_rfl, by kernel_rfl, fun h => (by cases h), fun fs h => (by cases h)⟩
theorem row314 : OkRow Tryz.prog T 314 { desc := .pointer 5, zero := (.pointer none), size := 1, bytes := 8 } :=
  ⟨by kernel_rfl, by kernel_rfl, fun h => (by cases h), fun fs h => (by cases h)⟩
theorem row317 : OkRow Tryz.prog T 317 { desc := .struct #[{ name := "s", type := 9, offset := 0, embedded := false, tag := "", pkgPath := "errors", byteOffset := 0 }], zero := (.agg #[(.string ⟨#[]⟩)]), size := 1, bytes := 16, eqv := true } :=
  ⟨by kernel_rfl, by kernel_rfl, fun _ => ⟨by kernel_rfl, by kernel_rfl⟩, fun fs h => (by cases h; kernel_rfl)⟩
theorem row318 : OkRow Tryz.prog T 318 { desc := .array 256 5, zero := (.agg #[(.int .u8 0), (.int .u8 0), (.int .u8 0), (.int .u8 0), (.int .u8 0), (.int .u8 0), (.int .u8 0), (.int .u8 0), (.int .u8 0), (.int .u8 0), (.int .u8 0), (.int .u8 0), (.int .u8 0), (.int .u8 0), (.int .u8 0), (.int .u8 0), (.int .u8 0), (.int .u8 0), (.int .u8 0), (.int .u8 0), (.int .u8 0), (.int .u8 0), (.int .u8 0), (.int .u8 0), (.int .u8 0), (.int .u8 0), (.int .u8 0), (.int .u8 0), (.int .u8 0), (.int .u8 0), (.int .u8 0), (.int .u8 0), (.int .u8 0), (.int .u8 0), (.int .u8 0), (.int .u8 0), (.int .u8 0), (.int .u8 0), (.int .u8 0), (.int .u8 0), (.int .u8 0), (.int .u8 0), (.int .u8 0), (.int .u8 0), (.int .u8 0), (.int .u8 0), (.int .u8 0), (.int .u8 0), (.int .u8 0), (.int .u8 0), (.int .u8 0), (.int .u8 0), (.int .u8 0), (.int .u8 0), (.int .u8 0), (.int .u8 0), (.int .u8 0), (.int .u8 0), (.int .u8 0), (.int .u8 0), (.int .u8 0), (.int .u8 0), (.int .u8 0), (.int .u8 0), (.int .u8 0), (.int .u8 0), (.int .u8 0), (.int .u8 0), (.int .u8 0), (.int .u8 0), (.int .u8 0), (.int .u8 0), (.int .u8 0), (.int .u8 0), (.int .u8 0), (.int .u8 0), (.int .u8 0), (.int .u8 0), (.int .u8 0), (.int .u8 0), (.int .u8 0), (.int .u8 0), (.int .u8 0), (.int .u8 0), (.int .u8 0), (.int .u8 0), (.int .u8 0), (.int .u8 0), (.int .u8 0), (.int .u8 0), (.int .u8 0), (.int .u8 0), (.int .u8 0), (.int .u8 0), (.int .u8 0), (.int .u8 0), (.int .u8 0), (.int .u8 0), (.int .u8 0), (.int .u8 0), (.int .u8 0), (.int .u8 0), (.int .u8 0), (.int .u8 0), (.int .u8 0), (.int .u8 0), (.int .u8 0), (.int .u8 0), (.int .u8 0), (.int .u8 0), (.int .u8 0), (.int .u8 0), (.int .u8 0), (.int .u8 0), (.int .u8 0), (.int .u8 0), (.int .u8 0), (.int .u8 0), (.int .u8 0), (.int .u8 0), (.int .u8 0), (.int .u8 0), (.int .u8 0), (.int .u8 0), (.int .u8 0), (.int .u8 0), (.int .u8 0), (.int .u8 0), (.int .u8 0), (.int .u8 0), (.int .u8 0), (.int .u8 0), (.int .u8 0), (.int .u8 0), (.int .u8 0), (.int .u8 0), (.int .u8 0), (.int .u8 0), (.int .u8 0), (.int .u8 0), (.int .u8 0), (.int .u8 0), (.int .u8 0), (.int .u8 0), (.int .u8 0), (.int .u8 0), (.int .u8 0), (.int .u8 0), (.int .u8 0), (.int .u8 0), (.int .u8 0), (.int .u8 0), (.int .u8 0), (.int .u8 0), (.int .u8 0), (.int .u8 0), (.int .u8 0), (.int .u8 0), (.int .u8 0), (.int .u8 0), (.int .u8 0), (.int .u8 0), (.int .u8 0), (.int .u8 0), (.int .u8 0), (.int .u8 0), (.int .u8 0), (.int .u8 0), (.int .u8 0), (.int .u8 0), (.int .u8 0), (.int .u8 0), (.int .u8 0), (.int .u8 0), (.int .u8 0), (.int .u8 0), (.int .u8 0), (.int .u8 0), (.int .u8 0), (.int .u8 0), (.int .u8 0), (.int .u8 0), (.int .u8 0), (.int .u8 0), (.int .u8 0), (.int .u8 0), (.int .u8 0), (.int .u8 0), (.int .u8 0), (.int .u8 0), (.int .u8 0), (.int .u8 0), (.int .u8 0), (.int .u8 0), (.int .u8 0), (.int .u8 0), (.int .u8 0), (.int .u8 0), (.int .u8 0), (.int .u8 0), (.int .u8 0), (.int .u8 0), (.int .u8 0), (.int .u8 0), (.int .u8 0), (.int .u8 0), (.int .u8 0), (.int .u8 0), (.int .u8 0), (.int .u8 0), (.int .u8 0), (.int .u8 0), (.int .u8 0), (.int .u8 0), (.int .u8 0), (.int .u8 0), (.int .u8 0), (.int .u8 0), (.int .u8 0), (.int .u8 0), (.int .u8 0), (.int .u8 0), (.int .u8 0), (.int .u8 0), (.int .u8 0), (.int .u8 0), (.int .u8 0), (.int .u8 0), (.int .u8 0), (.int .u8 0), (.int .u8 0), (.int .u8 0), (.int .u8 0), (.int .u8 0), (.int .u8 0), (.int .u8 0), (.int .u8 0), (.int .u8 0), (.int .u8 0), (.int .u8 0), (.int .u8 0), (.int .u8 0), (.int .u8 0), (.int .u8 0), (.int .u8 0), (.int .u8 0), (.int .u8 0), (.int .u8 0), (.int .u8 0), (.int .u8 0), (.int .u8 0), (.int .u8 0), (.int .u8 0), (.int .u8 0), (.int .u8 0), (.int .u8 0)]), size := 256, bytes := 256 } :=
  ⟨by kernel_rfl, by kernel_rfl, fun h => (by cases h), fun fs h => (by cases h)⟩
theorem row320 : OkRow Tryz.prog T 320 { desc := .struct #[{ name := "lo", type := 5, offset := 0, embedded := false, tag := "", pkgPath := "unicode/utf8", byteOffset := 0 }, { name := "hi", type := 5, offset := 1, embedded := false, tag := "", pkgPath := "unicode/utf8", byteOffset := 1 }], zero := (.agg #[(.int .u8 0), (.int .u8 0)]), size := 2, bytes := 2, eqv := true } :=
  ⟨by kernel_rfl, by kernel_rfl, fun _ => ⟨by kernel_rfl, by kernel_rfl⟩, fun fs h => (by cases h; kernel_rfl)⟩
theorem row321 : OkRow Tryz.prog T 321 { desc := .array 16 320, zero := (.agg #[(.int .u8 0), (.int .u8 0), (.int .u8 0), (.int .u8 0), (.int .u8 0), (.int .u8 0), (.int .u8 0), (.int .u8 0), (.int .u8 0), (.int .u8 0), (.int .u8 0), (.int .u8 0), (.int .u8 0), (.int .u8 0), (.int .u8 0), (.int .u8 0), (.int .u8 0), (.int .u8 0), (.int .u8 0), (.int .u8 0), (.int .u8 0), (.int .u8 0), (.int .u8 0), (.int .u8 0), (.int .u8 0), (.int .u8 0), (.int .u8 0), (.int .u8 0), (.int .u8 0), (.int .u8 0), (.int .u8 0), (.int .u8 0)]), size := 32, bytes := 32 } :=
  ⟨by kernel_rfl, by kernel_rfl, fun h => (by cases h), fun fs h => (by cases h)⟩
theorem row326 : OkRow Tryz.prog T 326 { desc := .func #[] #[243] false, zero := .nilFunc, size := 1, bytes := 8 } :=
  ⟨by kernel_rfl, by kernel_rfl, fun h => (by cases h), fun fs h => (by cases h)⟩
theorem row328 : OkRow Tryz.prog T 328 { desc := .func #[] #[245] false, zero := .nilFunc, size := 1, bytes := 8 } :=
  ⟨by kernel_rfl, by kernel_rfl, fun h => (by cases h), fun fs h => (by cases h)⟩
theorem row331 : OkRow Tryz.prog T 331 { desc := .func #[243] #[] false, zero := .nilFunc, size := 1, bytes := 8 } :=
  ⟨by kernel_rfl, by kernel_rfl, fun h => (by cases h), fun fs h => (by cases h)⟩
theorem row333 : OkRow Tryz.prog T 333 { desc := .func #[245] #[] false, zero := .nilFunc, size := 1, bytes := 8 } :=
  ⟨by kernel_rfl, by kernel_rfl, fun h => (by cases h), fun fs h => (by cases h)⟩
theorem row334 : OkRow Tryz.prog T 334 { desc := .array 32 5, zero := (.agg #[(.int .u8 0), (.int .u8 0), (.int .u8 0), (.int .u8 0), (.int .u8 0), (.int .u8 0), (.int .u8 0), (.int .u8 0), (.int .u8 0), (.int .u8 0), (.int .u8 0), (.int .u8 0), (.int .u8 0), (.int .u8 0), (.int .u8 0), (.int .u8 0), (.int .u8 0), (.int .u8 0), (.int .u8 0), (.int .u8 0), (.int .u8 0), (.int .u8 0), (.int .u8 0), (.int .u8 0), (.int .u8 0), (.int .u8 0), (.int .u8 0), (.int .u8 0), (.int .u8 0), (.int .u8 0), (.int .u8 0), (.int .u8 0)]), size := 32, bytes := 32 } :=
  ⟨by kernel_rfl, by kernel_rfl, fun h => (by cases h), fun fs h => (by cases h)⟩
theorem row335 : OkRow Tryz.prog T 335 { desc := .array 64 5, zero := (.agg #[(.int .u8 0), (.int .u8 0), (.int .u8 0), (.int .u8 0), (.int .u8 0), (.int .u8 0), (.int .u8 0), (.int .u8 0), (.int .u8 0), (.int .u8 0), (.int .u8 0), (.int .u8 0), (.int .u8 0), (.int .u8 0), (.int .u8 0), (.int .u8 0), (.int .u8 0), (.int .u8 0), (.int .u8 0), (.int .u8 0), (.int .u8 0), (.int .u8 0), (.int .u8 0), (.int .u8 0), (.int .u8 0), (.int .u8 0), (.int .u8 0), (.int .u8 0), (.int .u8 0), (.int .u8 0), (.int .u8 0), (.int .u8 0), (.int .u8 0), (.int .u8 0), (.int .u8 0), (.int .u8 0), (.int .u8 0), (.int .u8 0), (.int .u8 0), (.int .u8 0), (.int .u8 0), (.int .u8 0), (.int .u8 0), (.int .u8 0), (.int .u8 0), (.int .u8 0), (.int .u8 0), (.int .u8 0), (.int .u8 0), (.int .u8 0), (.int .u8 0), (.int .u8 0), (.int .u8 0), (.int .u8 0), (.int .u8 0), (.int .u8 0), (.int .u8 0), (.int .u8 0), (.int .u8 0), (.int .u8 0), (.int .u8 0), (.int .u8 0), (.int .u8 0), (.int .u8 0)]), size := 64, bytes := 64 } :=
  ⟨by kernel_rfl, by kernel_rfl, fun h => (by cases h), fun fs h => (by cases h)⟩
theorem tOk : TOk Tryz.prog T := fun t i h => by
  have hm := look_mem h
  simp only [T, List.mem_cons, List.not_mem_nil, or_false, Prod.mk.injEq] at hm
  rcases hm with ⟨rfl, rfl⟩ | ⟨rfl, rfl⟩ | ⟨rfl, rfl⟩ | ⟨rfl, rfl⟩ | ⟨rfl, rfl⟩ | ⟨rfl, rfl⟩ | ⟨rfl, rfl⟩ | ⟨rfl, rfl⟩ | ⟨rfl, rfl⟩ | ⟨rfl, rfl⟩ | ⟨rfl, rfl⟩ | ⟨rfl, rfl⟩ | ⟨rfl, rfl⟩ | ⟨rfl, rfl⟩ | ⟨rfl, rfl⟩ | ⟨rfl, rfl⟩ | ⟨rfl, rfl⟩ | ⟨rfl, rfl⟩ | ⟨rfl, rfl⟩ | ⟨rfl, rfl⟩ | ⟨rfl, rfl⟩ | ⟨rfl, rfl⟩ | ⟨rfl, rfl⟩ | ⟨rfl, rfl⟩ | ⟨rfl, rfl⟩ | ⟨rfl, rfl⟩ | ⟨rfl, rfl⟩ | ⟨rfl, rfl⟩ | ⟨rfl, rfl⟩ | ⟨rfl, rfl⟩ | ⟨rfl, rfl⟩ | ⟨rfl, rfl⟩ | ⟨rfl, rfl⟩ | ⟨rfl, rfl⟩ | ⟨rfl, rfl⟩ | ⟨rfl, rfl⟩ | ⟨rfl, rfl⟩ | ⟨rfl, rfl⟩ | ⟨rfl, rfl⟩ | ⟨rfl, rfl⟩ | ⟨rfl, rfl⟩ | ⟨rfl, rfl⟩ | ⟨rfl, rfl⟩ | ⟨rfl, rfl⟩ | ⟨rfl, rfl⟩ | ⟨rfl, rfl⟩ | ⟨rfl, rfl⟩ | ⟨rfl, rfl⟩ | ⟨rfl, rfl⟩ | ⟨rfl, rfl⟩ | ⟨rfl, rfl⟩ | ⟨rfl, rfl⟩ | ⟨rfl, rfl⟩ | ⟨rfl, rfl⟩ | ⟨rfl, rfl⟩ | ⟨rfl, rfl⟩ | ⟨rfl, rfl⟩ | ⟨rfl, rfl⟩ | ⟨rfl, rfl⟩ | ⟨rfl, rfl⟩ | ⟨rfl, rfl⟩ | ⟨rfl, rfl⟩ | ⟨rfl, rfl⟩ | ⟨rfl, rfl⟩ | ⟨rfl, rfl⟩ | ⟨rfl, rfl⟩ | ⟨rfl, rfl⟩ | ⟨rfl, rfl⟩ | ⟨rfl, rfl⟩ | ⟨rfl, rfl⟩ | ⟨rfl, rfl⟩ | ⟨rfl, rfl⟩ | ⟨rfl, rfl⟩ | ⟨rfl, rfl⟩ | ⟨rfl, rfl⟩ | ⟨rfl, rfl⟩ | ⟨rfl, rfl⟩ | ⟨rfl, rfl⟩ | ⟨rfl, rfl⟩ | ⟨rfl, rfl⟩ | ⟨rfl, rfl⟩ | ⟨rfl, rfl⟩ | ⟨rfl, rfl⟩ | ⟨rfl, rfl⟩ | ⟨rfl, rfl⟩ | ⟨rfl, rfl⟩ | ⟨rfl, rfl⟩ | ⟨rfl, rfl⟩ | ⟨rfl, rfl⟩ | ⟨rfl, rfl⟩ | ⟨rfl, rfl⟩ | ⟨rfl, rfl⟩ | ⟨rfl, rfl⟩ | ⟨rfl, rfl⟩ | ⟨rfl, rfl⟩ | ⟨rfl, rfl⟩
  · exact row2
  · exact row3
  · exact row4
  · exact row5
  · exact row9
  · exact row21
  · exact row22
  · exact row24
  · exact row27
  · exact row28
  · exact row33
  · exact row34
  · exact row36
  · exact row56
  · exact row66
  · exact row74
  · exact row78
  · exact row84
  · exact row86
  · exact row88
  · exact row90
  · exact row92
  · exact row94
  · exact row95
  · exact row96
  · exact row98
  · exact row100
  · exact row104
  · exact row110
  · exact row117
  · exact row120
  · exact row124
  · exact row126
  · exact row131
  · exact row134
  · exact row136
  · exact row138
  · exact row143
  · exact row145
  · exact row146
  · exact row148
  · exact row151
  · exact row153
  · exact row163
  · exact row169
  · exact row173
  · exact row178
  · exact row180
  · exact row182
  · exact row184
  · exact row186
  · exact row193
  · exact row195
  · exact row198
  · exact row200
  · exact row212
  · exact row215
  · exact row219
  · exact row221
  · exact row228
  · exact row230
  · exact row233
  · exact row235
  · exact row241
  · exact row243
  · exact row245
  · exact row248
  · exact row249
  · exact row251
  · exact row253
  · exact row258
  · exact row266
  · exact row272
  · exact row276
  · exact row278
  · exact row286
  · exact row288
  · exact row290
  · exact row292
  · exact row293
  · exact row297
  · exact row305
  · exact row307
  · exact row309
  · exact row311
  · exact row314
  · exact row317
  · exact row318
  · exact row320
  · exact row321
  · exact row326
  · exact row328
  · exact row331
  · exact row333
  · exact row334
  · exact row335
theorem T2 : look T 2 = some { desc := .int .i64, zero := (.int .i64 0), size := 1, bytes := 8 } := rfl
theorem T3 : look T 3 = some { desc := .int .i64, zero := (.int .i64 0), size := 1, bytes := 8 } := rfl
theorem T4 : look T 4 = some { desc := .bool, zero := (.bool false), size := 1, bytes := 1 } := rfl
theorem T5 : look T 5 = some { desc := .int .u8, zero := (.int .u8 0), size := 1, bytes := 1 } := rfl
theorem T9 : look T 9 = some { desc := .string, zero := (.string ⟨#[]⟩), size := 1, bytes := 16 } := rfl
theorem T22 : look T 22 = some { desc := .slice 66, zero := (.slice none 0 0), size := 1, bytes := 24 } := rfl
theorem T24 : look T 24 = some { desc := .struct #[{ name := "Files", type := 22, offset := 0, embedded := false, tag := "", pkgPath := "", byteOffset := 0 }, { name := "Space", type := 3, offset := 1, embedded := false, tag := "", pkgPath := "", byteOffset := 24 }], zero := (.agg #[(.slice none 0 0), (.int .i64 0)]), size := 2, bytes := 32 } := rfl
theorem T27 : look T 27 = some { desc := .slice 3, zero := (.slice none 0 0), size := 1, bytes := 24 } := rfl
theorem T28 : look T 28 = some { desc := .int .i64, zero := (.int .i64 0), size := 1, bytes := 8 } := rfl
theorem T33 : look T 33 = some { desc := .slice 88, zero := (.slice none 0 0), size := 1, bytes := 24 } := rfl
theorem T34 : look T 34 = some { desc := .slice 92, zero := (.slice none 0 0), size := 1, bytes := 24 } := rfl
theorem T36 : look T 36 = some { desc := .struct #[{ name := "Number", type := 3, offset := 0, embedded := false, tag := "", pkgPath := "", byteOffset := 0 }, { name := "Readers", type := 33, offset := 1, embedded := false, tag := "", pkgPath := "", byteOffset := 8 }, { name := "Operators", type := 34, offset := 2, embedded := false, tag := "", pkgPath := "", byteOffset := 32 }], zero := (.agg #[(.int .i64 0), (.slice none 0 0), (.slice none 0 0)]), size := 3, bytes := 56 } := rfl
theorem T56 : look T 56 = some { desc := .func #[3, 9] #[4] false, zero := .nilFunc, size := 1, bytes := 8 } := rfl
theorem T66 : look T 66 = some { desc := .struct #[{ name := "Name", type := 9, offset := 0, embedded := false, tag := "", pkgPath := "", byteOffset := 0 }, { name := "Durable", type := 9, offset := 1, embedded := false, tag := "", pkgPath := "", byteOffset := 16 }, { name := "Volatile", type := 9, offset := 2, embedded := false, tag := "", pkgPath := "", byteOffset := 32 }], zero := (.agg #[(.string ⟨#[]⟩), (.string ⟨#[]⟩), (.string ⟨#[]⟩)]), size := 3, bytes := 48, eqv := true } := rfl
theorem T84 : look T 84 = some { desc := .slice 143, zero := (.slice none 0 0), size := 1, bytes := 24 } := rfl
theorem T86 : look T 86 = some { desc := .struct #[{ name := "Next", type := 3, offset := 0, embedded := false, tag := "", pkgPath := "", byteOffset := 0 }, { name := "Beyond", type := 27, offset := 1, embedded := false, tag := "", pkgPath := "", byteOffset := 8 }, { name := "Points", type := 84, offset := 2, embedded := false, tag := "", pkgPath := "", byteOffset := 32 }, { name := "Mark", type := 3, offset := 3, embedded := false, tag := "", pkgPath := "", byteOffset := 56 }], zero := (.agg #[(.int .i64 0), (.slice none 0 0), (.slice none 0 0), (.int .i64 0)]), size := 4, bytes := 64 } := rfl
theorem T88 : look T 88 = some { desc := .struct #[{ name := "Source", type := 3, offset := 0, embedded := false, tag := "", pkgPath := "", byteOffset := 0 }, { name := "Offset", type := 3, offset := 1, embedded := false, tag := "", pkgPath := "", byteOffset := 8 }, { name := "Tracker", type := 86, offset := 2, embedded := false, tag := "", pkgPath := "", byteOffset := 16 }], zero := (.agg #[(.int .i64 0), (.int .i64 0), (.int .i64 0), (.slice none 0 0), (.slice none 0 0), (.int .i64 0)]), size := 6, bytes := 80 } := rfl
theorem T90 : look T 90 = some { desc := .slice 100, zero := (.slice none 0 0), size := 1, bytes := 24 } := rfl
theorem T92 : look T 92 = some { desc := .struct #[{ name := "Marks", type := 27, offset := 0, embedded := false, tag := "", pkgPath := "", byteOffset := 0 }, { name := "Engines", type := 90, offset := 1, embedded := false, tag := "", pkgPath := "", byteOffset := 24 }], zero := (.agg #[(.slice none 0 0), (.slice none 0 0)]), size := 2, bytes := 48 } := rfl
theorem T94 : look T 94 = some { desc := .struct #[{ name := "Kind", type := 3, offset := 0, embedded := false, tag := "", pkgPath := "", byteOffset := 0 }, { name := "Num", type := 3, offset := 1, embedded := false, tag := "", pkgPath := "", byteOffset := 8 }, { name := "Text", type := 9, offset := 2, embedded := false, tag := "", pkgPath := "", byteOffset := 16 }], zero := (.agg #[(.int .i64 0), (.int .i64 0), (.string ⟨#[]⟩)]), size := 3, bytes := 32, eqv := true } := rfl
theorem T95 : look T 95 = some { desc := .slice 195, zero := (.slice none 0 0), size := 1, bytes := 24 } := rfl
theorem T96 : look T 96 = some { desc := .slice 148, zero := (.slice none 0 0), size := 1, bytes := 24 } := rfl
theorem T98 : look T 98 = some { desc := .struct #[{ name := "Mark", type := 3, offset := 0, embedded := false, tag := "", pkgPath := "", byteOffset := 0 }, { name := "Waiting", type := 95, offset := 1, embedded := false, tag := "", pkgPath := "", byteOffset := 8 }, { name := "Runs", type := 96, offset := 2, embedded := false, tag := "", pkgPath := "", byteOffset := 32 }, { name := "Held", type := 95, offset := 3, embedded := false, tag := "", pkgPath := "", byteOffset := 56 }], zero := (.agg #[(.int .i64 0), (.slice none 0 0), (.slice none 0 0), (.slice none 0 0)]), size := 4, bytes := 80 } := rfl
theorem T100 : look T 100 = some { desc := .struct #[{ name := "Query", type := 3, offset := 0, embedded := false, tag := "", pkgPath := "", byteOffset := 0 }, { name := "Key", type := 94, offset := 1, embedded := false, tag := "", pkgPath := "", byteOffset := 8 }, { name := "Engine", type := 98, offset := 4, embedded := false, tag := "", pkgPath := "", byteOffset := 40 }], zero := (.agg #[(.int .i64 0), (.int .i64 0), (.int .i64 0), (.string ⟨#[]⟩), (.int .i64 0), (.slice none 0 0), (.slice none 0 0), (.slice none 0 0)]), size := 8, bytes := 120 } := rfl
theorem T104 : look T 104 = some { desc := .func #[24] #[24, 28] false, zero := .nilFunc, size := 1, bytes := 8 } := rfl
theorem T110 : look T 110 = some { desc := .slice 104, zero := (.slice none 0 0), size := 1, bytes := 24 } := rfl
theorem T117 : look T 117 = some { desc := .slice 5, zero := (.slice none 0 0), size := 1, bytes := 24 } := rfl
theorem T124 : look T 124 = some { desc := .struct #[{ name := "left", type := 27, offset := 0, embedded := false, tag := "", pkgPath := "tidegate/disk", byteOffset := 0 }], zero := (.agg #[(.slice none 0 0)]), size := 1, bytes := 24 } := rfl
theorem T136 : look T 136 = some { desc := .pointer 178, zero := (.pointer none), size := 1, bytes := 8 } := rfl
theorem T138 : look T 138 = some { desc := .pointer 186, zero := (.pointer none), size := 1, bytes := 8 } := rfl
theorem T143 : look T 143 = some { desc := .struct #[{ name := "Seq", type := 3, offset := 0, embedded := false, tag := "", pkgPath := "", byteOffset := 0 }, { name := "Time", type := 3, offset := 1, embedded := false, tag := "", pkgPath := "", byteOffset := 8 }], zero := (.agg #[(.int .i64 0), (.int .i64 0)]), size := 2, bytes := 16, eqv := true } := rfl
theorem T145 : look T 145 = some { desc := .slice 243, zero := (.slice none 0 0), size := 1, bytes := 24 } := rfl
theorem T146 : look T 146 = some { desc := .slice 245, zero := (.slice none 0 0), size := 1, bytes := 24 } := rfl
theorem T148 : look T 148 = some { desc := .struct #[{ name := "State", type := 3, offset := 0, embedded := false, tag := "", pkgPath := "", byteOffset := 0 }, { name := "Bindings", type := 145, offset := 1, embedded := false, tag := "", pkgPath := "", byteOffset := 8 }, { name := "Starts", type := 146, offset := 2, embedded := false, tag := "", pkgPath := "", byteOffset := 32 }], zero := (.agg #[(.int .i64 0), (.slice none 0 0), (.slice none 0 0)]), size := 3, bytes := 56 } := rfl
theorem T151 : look T 151 = some { desc := .pointer 153, zero := (.pointer none), size := 1, bytes := 8 } := rfl
theorem T153 : look T 153 = some { desc := .struct #[{ name := "out", type := 9, offset := 0, embedded := false, tag := "", pkgPath := "tidegate/tidegateref43", byteOffset := 0 }, { name := "bad", type := 3, offset := 1, embedded := false, tag := "", pkgPath := "tidegate/tidegateref43", byteOffset := 16 }], zero := (.agg #[(.string ⟨#[]⟩), (.int .i64 0)]), size := 2, bytes := 24, eqv := true } := rfl
theorem T163 : look T 163 = some { desc := .interface #[("Error", 302)], zero := .nilIface, size := 1, bytes := 16 } := rfl
theorem T178 : look T 178 = some { desc := .struct #[{ name := "s", type := 9, offset := 0, embedded := false, tag := "", pkgPath := "tidegate/codec", byteOffset := 0 }, { name := "e", type := 28, offset := 1, embedded := false, tag := "", pkgPath := "tidegate/codec", byteOffset := 16 }], zero := (.agg #[(.string ⟨#[]⟩), (.int .i64 0)]), size := 2, bytes := 24, eqv := true } := rfl
theorem T186 : look T 186 = some { desc := .struct #[{ name := "s", type := 9, offset := 0, embedded := false, tag := "", pkgPath := "tidegate/tidegateref43", byteOffset := 0 }, { name := "bad", type := 3, offset := 1, embedded := false, tag := "", pkgPath := "tidegate/tidegateref43", byteOffset := 16 }], zero := (.agg #[(.string ⟨#[]⟩), (.int .i64 0)]), size := 2, bytes := 24, eqv := true } := rfl
theorem T193 : look T 193 = some { desc := .slice 94, zero := (.slice none 0 0), size := 1, bytes := 24 } := rfl
theorem T195 : look T 195 = some { desc := .struct #[{ name := "Source", type := 3, offset := 0, embedded := false, tag := "", pkgPath := "", byteOffset := 0 }, { name := "Seq", type := 3, offset := 1, embedded := false, tag := "", pkgPath := "", byteOffset := 8 }, { name := "Type", type := 3, offset := 2, embedded := false, tag := "", pkgPath := "", byteOffset := 16 }, { name := "Time", type := 3, offset := 3, embedded := false, tag := "", pkgPath := "", byteOffset := 24 }, { name := "Values", type := 193, offset := 4, embedded := false, tag := "", pkgPath := "", byteOffset := 32 }], zero := (.agg #[(.int .i64 0), (.int .i64 0), (.int .i64 0), (.int .i64 0), (.slice none 0 0)]), size := 5, bytes := 56 } := rfl
theorem T198 : look T 198 = some { desc := .pointer 248, zero := (.pointer none), size := 1, bytes := 8 } := rfl
theorem T228 : look T 228 = some { desc := .int .u32, zero := (.int .u32 0), size := 1, bytes := 4 } := rfl
theorem T230 : look T 230 = some { desc := .int .u64, zero := (.int .u64 0), size := 1, bytes := 8 } := rfl
theorem T241 : look T 241 = some { desc := .struct #[{ name := "Time", type := 3, offset := 0, embedded := false, tag := "", pkgPath := "", byteOffset := 0 }, { name := "Source", type := 3, offset := 1, embedded := false, tag := "", pkgPath := "", byteOffset := 8 }, { name := "Seq", type := 3, offset := 2, embedded := false, tag := "", pkgPath := "", byteOffset := 16 }], zero := (.agg #[(.int .i64 0), (.int .i64 0), (.int .i64 0)]), size := 3, bytes := 24, eqv := true } := rfl
theorem T243 : look T 243 = some { desc := .struct #[{ name := "Var", type := 3, offset := 0, embedded := false, tag := "", pkgPath := "", byteOffset := 0 }, { name := "Ref", type := 241, offset := 1, embedded := false, tag := "", pkgPath := "", byteOffset := 8 }], zero := (.agg #[(.int .i64 0), (.int .i64 0), (.int .i64 0), (.int .i64 0)]), size := 4, bytes := 32, eqv := true } := rfl
theorem T245 : look T 245 = some { desc := .struct #[{ name := "Scope", type := 3, offset := 0, embedded := false, tag := "", pkgPath := "", byteOffset := 0 }, { name := "Time", type := 3, offset := 1, embedded := false, tag := "", pkgPath := "", byteOffset := 8 }], zero := (.agg #[(.int .i64 0), (.int .i64 0)]), size := 2, bytes := 16, eqv := true } := rfl
theorem T248 : look T 248 = some { desc := .struct #[{ name := "out", type := 117, offset := 0, embedded := false, tag := "", pkgPath := "tidegate/codec", byteOffset := 0 }, { name := "e", type := 28, offset := 1, embedded := false, tag := "", pkgPath := "tidegate/codec", byteOffset := 24 }], zero := (.agg #[(.slice none 0 0), (.int .i64 0)]), size := 2, bytes := 32 } := rfl
theorem T266 : look T 266 = some { desc := .pointer 297, zero := (.pointer none), size := 1, bytes := 8 } := rfl
theorem mixed : Tryz.prog.follows .mixedOrders = true := by kernel_rfl
end Go.Abs
set_option maxRecDepth 100000
namespace Go.Abs
open Go Go.Proofs
def pow10Cells : List Value := Lib.pow10Tab.map fun z => Value.int .u64 z
/-- The cells of a variable that holds some int. -/
def someInt (cs : List Value) : Prop := ∃ m, cs = [.int .i64 m]
/-- The cells of a variable that holds some error, or none. -/
def someErr (cs : List Value) : Prop := ∃ ev, cs = [ev] ∧ (ev = .nilIface ∨ ∃ te pe, ev = .iface te pe)
noncomputable instance env : Env Tryz.prog := ⟨[(0, (· = pow10Cells)), (7, someInt), (1, someErr), (2, someErr)]⟩
theorem pow10_tab {w : World} {I : Nat → Prop} (h : EOK Tryz.prog w I) : Lib.TabIs Tryz.prog w "internal/strconv.uint64pow10" .u64 Lib.pow10Tab := by
  obtain ⟨_, _, t, fr, rfl, hb⟩ := h 0 (· = pow10Cells) (by first | exact List.mem_singleton.2 rfl | exact List.mem_cons_self)
  unfold Lib.TabIs World.var?
  rw [show Tryz.prog.globalNamed "internal/strconv.uint64pow10" = some 0 by kernel_rfl]
  simp only [Option.bind_some, hb]
  rfl
theorem errSyntax_cell {w : World} {I : Nat → Prop} (h : EOK Tryz.prog w I) : ∃ ev, w.cell? ⟨1, 0, none⟩ = some ev ∧ (ev = .nilIface ∨ ∃ te pe, ev = .iface te pe) := by
  obtain ⟨_, _, t, fr, ⟨m, rfl, hm⟩, hb⟩ := h 1 someErr (List.mem_cons_of_mem _ (List.mem_cons_of_mem _ List.mem_cons_self))
  exact ⟨m, by rw [Lib.cell_of_heap hb]; rfl, hm⟩
theorem errRange_cell {w : World} {I : Nat → Prop} (h : EOK Tryz.prog w I) : ∃ ev, w.cell? ⟨2, 0, none⟩ = some ev ∧ (ev = .nilIface ∨ ∃ te pe, ev = .iface te pe) := by
  obtain ⟨_, _, t, fr, ⟨m, rfl, hm⟩, hb⟩ := h 2 someErr (List.mem_cons_of_mem _ (List.mem_cons_of_mem _ (List.mem_cons_of_mem _ List.mem_cons_self)))
  exact ⟨m, by rw [Lib.cell_of_heap hb]; rfl, hm⟩
end Go.Abs
set_option maxRecDepth 100000
namespace Go.Abs
open Go Go.Proofs
set_option linter.unusedSimpArgs false
attribute [simp] T3 T4 T5 T9 T117 T94 T28 T193 T228 T2 T230
theorem ite_t {α : Type} {c : Bool} {a b : α} (h : c = true) : (if c = true then a else b) = a := by rw [if_pos h]
theorem ite_f {α : Type} {c : Bool} {a b : α} (h : c = false) : (if c = true then a else b) = b := by rw [if_neg (by rw [h]; decide)]
@[simp] def encI (n : Int) : AV := .int .i64 n
abbrev AV.i (n : Int) : AV := .int .i64 n
abbrev W (n : Int) : Int := IntKind.i64.wrap n
theorem wrap_i64 (n : Int) (h1 : -9223372036854775808 ≤ n) (h2 : n ≤ 9223372036854775807) : IntKind.i64.wrap n = n := by
  rw [IntKind.wrap_i64]; omega
end Go.Abs
set_option maxRecDepth 100000
namespace Go.Abs
open Go Go.Proofs
set_option linter.unusedSimpArgs false
structure Val where
  kind : Int
  num : Int
  text : List UInt8
deriving Inhabited, DecidableEq
@[simp] def encV (v : Val) : AV := .agg [.int .i64 v.kind, .int .i64 v.num, .str v.text]
def zeroV : Val := ⟨0, 0, []⟩

def sizeR (v : Val) : Int := if (v.kind == 0 && (decide (v.num < -1099511627776) || decide (1099511627776 < v.num))) = true then 2 else if (v.kind == 1 && v.num != 0 && v.num != 1) = true then 2 else if decide ((64 : Int) < v.text.length) = true then 13 else 0
theorem pc_size (v : Val) : PC Tryz.prog 253 [encV v] (fun r => r = .i (sizeR v)) := by
  refine PC_body tOk Tryz.func253 rfl Tryz.results253 rfl (by simp [Tryz.ntmps253]) ?_
  rw [Tryz.ntmps253]
  simp only [argSlots]
  simp only [encV]
  repeat first|((first|refine qa tOk rfl ?_|refine qb tOk rfl ?_|refine qc ?_|refine qd ?_|refine qe ?_);simp)|refine AWP_block ?_|refine AWP_seq ?_
  refine AWP_cond2 rfl (fun h => ?_) (fun h1 => ?_)
  · repeat first|((first|refine qa tOk rfl ?_|refine qb tOk rfl ?_|refine qc ?_|refine qd ?_|refine qe ?_);simp)|refine AWP_block ?_|refine AWP_seq ?_
    rw [sizeR, ite_t h]
  repeat first|((first|refine qa tOk rfl ?_|refine qb tOk rfl ?_|refine qc ?_|refine qd ?_|refine qe ?_);simp)|refine AWP_block ?_|refine AWP_seq ?_
  refine AWP_cond2 rfl (fun h => ?_) (fun h2 => ?_)
  · repeat first|((first|refine qa tOk rfl ?_|refine qb tOk rfl ?_|refine qc ?_|refine qd ?_|refine qe ?_);simp)|refine AWP_block ?_|refine AWP_seq ?_
    rw [sizeR, ite_f h1, ite_t h]
  repeat first|((first|refine qa tOk rfl ?_|refine qb tOk rfl ?_|refine qc ?_|refine qd ?_|refine qe ?_);simp)|refine AWP_block ?_|refine AWP_seq ?_
  refine AWP_cond2 rfl (fun h => ?_) (fun h3 => ?_)
  · repeat first|((first|refine qa tOk rfl ?_|refine qb tOk rfl ?_|refine qc ?_|refine qd ?_|refine qe ?_);simp)|refine AWP_block ?_|refine AWP_seq ?_
    rw [sizeR, ite_f h1, ite_f h2, ite_t h]
  repeat first|((first|refine qa tOk rfl ?_|refine qb tOk rfl ?_|refine qc ?_|refine qd ?_|refine qe ?_);simp)|refine AWP_block ?_|refine AWP_seq ?_
  rw [sizeR, ite_f h1, ite_f h2, ite_f h3]

def checkR (v : Val) : Int := if (v.kind == 0 || v.kind == 1) = true then (if (!v.text.isEmpty) = true then 3 else sizeR v) else if (v.kind == 2) = true then (if (v.num != 0) = true then 3 else sizeR v) else 1
theorem pc_Check (v : Val) : PC Tryz.prog 235 [encV v] (fun r => r = .i (checkR v)) := by
  refine PC_body tOk Tryz.func235 rfl Tryz.results235 rfl (by simp [Tryz.ntmps235]) ?_
  rw [Tryz.ntmps235]
  simp only [argSlots]
  simp only [encV]
  repeat first|((first|refine qa tOk rfl ?_|refine qb tOk rfl ?_|refine qc ?_|refine qd ?_|refine qe ?_);simp)|refine AWP_block ?_|refine AWP_seq ?_
  refine AWP_cond2 rfl (fun h => ?_) (fun h => ?_)
  · repeat first|((first|refine qa tOk rfl ?_|refine qb tOk rfl ?_|refine qc ?_|refine qd ?_|refine qe ?_);simp)|refine AWP_block ?_|refine AWP_seq ?_
    refine AWP_cond (b := true) (by simp [h]) ?_
    repeat first|((first|refine qa tOk rfl ?_|refine qb tOk rfl ?_|refine qc ?_|refine qd ?_|refine qe ?_);simp)|refine AWP_block ?_|refine AWP_seq ?_
    refine AWP_cond2 rfl (fun ht => ?_) (fun ht => ?_)
    · repeat first|((first|refine qa tOk rfl ?_|refine qb tOk rfl ?_|refine qc ?_|refine qd ?_|refine qe ?_);simp)|refine AWP_block ?_|refine AWP_seq ?_
      rw [checkR, ite_t (by simp [h]), ite_t ht]
    · repeat first|((first|refine qa tOk rfl ?_|refine qb tOk rfl ?_|refine qc ?_|refine qd ?_|refine qe ?_);simp)|refine AWP_block ?_|refine AWP_seq ?_
      refine AStep_PC rfl rfl (by simp) (pc_size v) rfl ?_
      rintro _ rfl
      simp
      repeat first|((first|refine qa tOk rfl ?_|refine qb tOk rfl ?_|refine qc ?_|refine qd ?_|refine qe ?_);simp)|refine AWP_block ?_|refine AWP_seq ?_
      rw [checkR, ite_t (by simp [h]), ite_f ht]
  · repeat first|((first|refine qa tOk rfl ?_|refine qb tOk rfl ?_|refine qc ?_|refine qd ?_|refine qe ?_);simp)|refine AWP_block ?_|refine AWP_seq ?_
    refine AWP_cond2 rfl (fun h1 => ?_) (fun h1 => ?_)
    · repeat first|((first|refine qa tOk rfl ?_|refine qb tOk rfl ?_|refine qc ?_|refine qd ?_|refine qe ?_);simp)|refine AWP_block ?_|refine AWP_seq ?_
      refine AWP_cond2 rfl (fun ht => ?_) (fun ht => ?_)
      · repeat first|((first|refine qa tOk rfl ?_|refine qb tOk rfl ?_|refine qc ?_|refine qd ?_|refine qe ?_);simp)|refine AWP_block ?_|refine AWP_seq ?_
        rw [checkR, ite_t (by simp [h1]), ite_t ht]
      · repeat first|((first|refine qa tOk rfl ?_|refine qb tOk rfl ?_|refine qc ?_|refine qd ?_|refine qe ?_);simp)|refine AWP_block ?_|refine AWP_seq ?_
        refine AStep_PC rfl rfl (by simp) (pc_size v) rfl ?_
        rintro _ rfl
        simp
        repeat first|((first|refine qa tOk rfl ?_|refine qb tOk rfl ?_|refine qc ?_|refine qd ?_|refine qe ?_);simp)|refine AWP_block ?_|refine AWP_seq ?_
        rw [checkR, ite_t (by simp [h1]), ite_f ht]
    · repeat first|((first|refine qa tOk rfl ?_|refine qb tOk rfl ?_|refine qc ?_|refine qd ?_|refine qe ?_);simp)|refine AWP_block ?_|refine AWP_seq ?_
      refine AWP_cond2 rfl (fun h2 => ?_) (fun h2 => ?_)
      · repeat first|((first|refine qa tOk rfl ?_|refine qb tOk rfl ?_|refine qc ?_|refine qd ?_|refine qe ?_);simp)|refine AWP_block ?_|refine AWP_seq ?_
        refine AWP_cond2 rfl (fun hn => ?_) (fun hn => ?_)
        · repeat first|((first|refine qa tOk rfl ?_|refine qb tOk rfl ?_|refine qc ?_|refine qd ?_|refine qe ?_);simp)|refine AWP_block ?_|refine AWP_seq ?_
          rw [checkR, ite_f (by simp [h, h1]), ite_t h2, ite_t hn]
        · repeat first|((first|refine qa tOk rfl ?_|refine qb tOk rfl ?_|refine qc ?_|refine qd ?_|refine qe ?_);simp)|refine AWP_block ?_|refine AWP_seq ?_
          refine AStep_PC rfl rfl (by simp) (pc_size v) rfl ?_
          rintro _ rfl
          simp
          repeat first|((first|refine qa tOk rfl ?_|refine qb tOk rfl ?_|refine qc ?_|refine qd ?_|refine qe ?_);simp)|refine AWP_block ?_|refine AWP_seq ?_
          rw [checkR, ite_f (by simp [h, h1]), ite_t h2, ite_f hn]
      · repeat first|((first|refine qa tOk rfl ?_|refine qb tOk rfl ?_|refine qc ?_|refine qd ?_|refine qe ?_);simp)|refine AWP_block ?_|refine AWP_seq ?_
        rw [checkR, ite_f (by simp [h, h1]), ite_f h2]

def checkedV (v : Val) : Val × Int := if (checkR v != 0) = true then (zeroV, checkR v) else (v, 0)
def boolV (b : Bool) : Val := ⟨1, if b = true then 1 else 0, []⟩
def rCheckR (v : Val) : Int := if (decide (v.kind < 0) || decide (2 < v.kind)) = true then 1 else if (v.kind == 2) = true then (if (v.num != 0) = true then 3 else if decide ((64 : Int) < v.text.length) = true then 13 else 0) else
  if (!v.text.isEmpty) = true then 3 else if (v.kind == 1 && (decide (v.num < 0) || decide (1 < v.num)) || decide (v.num < -1099511627776) || decide (1099511627776 < v.num)) = true then 2 else 0
theorem pc_rCheck (v : Val) : PC Tryz.prog 172 [encV v] (fun r => r = .i (rCheckR v)) := by
  refine PC_body tOk Tryz.func172 rfl Tryz.results172 rfl (by simp [Tryz.ntmps172]) ?_
  rw [Tryz.ntmps172]
  simp only [argSlots]
  simp only [encV]
  repeat first|((first|refine qa tOk rfl ?_|refine qb tOk rfl ?_|refine qc ?_|refine qd ?_|refine qe ?_);simp)|refine AWP_block ?_|refine AWP_seq ?_
  refine AWP_cond2 rfl (fun h => ?_) (fun h => ?_)
  · repeat first|((first|refine qa tOk rfl ?_|refine qb tOk rfl ?_|refine qc ?_|refine qd ?_|refine qe ?_);simp)|refine AWP_block ?_|refine AWP_seq ?_
    rw [rCheckR, ite_t h]
  repeat first|((first|refine qa tOk rfl ?_|refine qb tOk rfl ?_|refine qc ?_|refine qd ?_|refine qe ?_);simp)|refine AWP_block ?_|refine AWP_seq ?_
  refine AWP_cond2 rfl (fun h1 => ?_) (fun h1 => ?_)
  · repeat first|((first|refine qa tOk rfl ?_|refine qb tOk rfl ?_|refine qc ?_|refine qd ?_|refine qe ?_);simp)|refine AWP_block ?_|refine AWP_seq ?_
    refine AWP_cond2 rfl (fun h2 => ?_) (fun h2 => ?_)
    · repeat first|((first|refine qa tOk rfl ?_|refine qb tOk rfl ?_|refine qc ?_|refine qd ?_|refine qe ?_);simp)|refine AWP_block ?_|refine AWP_seq ?_
      rw [rCheckR, ite_f h, ite_t h1, ite_t h2]
    repeat first|((first|refine qa tOk rfl ?_|refine qb tOk rfl ?_|refine qc ?_|refine qd ?_|refine qe ?_);simp)|refine AWP_block ?_|refine AWP_seq ?_
    refine AWP_cond2 rfl (fun h3 => ?_) (fun h3 => ?_)
    · repeat first|((first|refine qa tOk rfl ?_|refine qb tOk rfl ?_|refine qc ?_|refine qd ?_|refine qe ?_);simp)|refine AWP_block ?_|refine AWP_seq ?_
      rw [rCheckR, ite_f h, ite_t h1, ite_f h2, ite_t h3]
    repeat first|((first|refine qa tOk rfl ?_|refine qb tOk rfl ?_|refine qc ?_|refine qd ?_|refine qe ?_);simp)|refine AWP_block ?_|refine AWP_seq ?_
    rw [rCheckR, ite_f h, ite_t h1, ite_f h2, ite_f h3]
  repeat first|((first|refine qa tOk rfl ?_|refine qb tOk rfl ?_|refine qc ?_|refine qd ?_|refine qe ?_);simp)|refine AWP_block ?_|refine AWP_seq ?_
  refine AWP_cond2 rfl (fun h2 => ?_) (fun h2 => ?_)
  · repeat first|((first|refine qa tOk rfl ?_|refine qb tOk rfl ?_|refine qc ?_|refine qd ?_|refine qe ?_);simp)|refine AWP_block ?_|refine AWP_seq ?_
    rw [rCheckR, ite_f h, ite_f h1, ite_t h2]
  repeat first|((first|refine qa tOk rfl ?_|refine qb tOk rfl ?_|refine qc ?_|refine qd ?_|refine qe ?_);simp)|refine AWP_block ?_|refine AWP_seq ?_
  refine AWP_cond2 rfl (fun h3 => ?_) (fun h3 => ?_)
  · repeat first|((first|refine qa tOk rfl ?_|refine qb tOk rfl ?_|refine qc ?_|refine qd ?_|refine qe ?_);simp)|refine AWP_block ?_|refine AWP_seq ?_
    rw [rCheckR, ite_f h, ite_f h1, ite_f h2, ite_t h3]
  repeat first|((first|refine qa tOk rfl ?_|refine qb tOk rfl ?_|refine qc ?_|refine qd ?_|refine qe ?_);simp)|refine AWP_block ?_|refine AWP_seq ?_
  rw [rCheckR, ite_f h, ite_f h1, ite_f h2, ite_f h3]
def rIntR (n : Int) : Val × Int := if (decide (n < -1099511627776) || decide (1099511627776 < n)) = true then (zeroV, 2) else (⟨0, n, []⟩, 0)
def rStringR (s : List UInt8) : Val × Int := if decide ((64 : Int) < s.length) = true then (zeroV, 13) else (⟨2, 0, s⟩, 0)
end Go.Abs
set_option maxRecDepth 100000
namespace Go.Abs
open Go Go.Proofs
structure Ev where
  source : Int
  seq : Int
  type : Int
  time : Int
  values : List Val
deriving Inhabited, DecidableEq
@[simp] def encE (e : Ev) : AV := .agg [.int .i64 e.source, .int .i64 e.seq, .int .i64 e.type, .int .i64 e.time, .list (e.values.map encV)]
end Go.Abs
set_option maxRecDepth 100000
namespace Go.Abs
open Go
/-- Zigzag. -/
def zig (n : Int) : Nat := if 0 ≤ n then (2 * n).toNat else (-2 * n - 1).toNat
def zag (u : Nat) : Int := if u % 2 = 0 then ((u / 2 : Nat) : Int) else -((u / 2 : Nat) : Int) - 1
theorem zag_zig (n : Int) : zag (zig n) = n := by
  unfold zag zig
  split <;> split <;> omega
/-- A natural number in groups of seven bits. -/
def varF : Nat → Nat → List UInt8
  | 0, _ => []
  | k + 1, u => if u < 128 then [UInt8.ofNat u] else UInt8.ofNat (u % 128 + 128) :: varF k (u / 128)
def varB (u : Nat) : List UInt8 := varF 10 u
def encN (n : Int) : List UInt8 := varB (zig n)
/-- What the first bytes say: the index, the number so far; none: damaged. -/
def unvF : Nat → Nat → Nat → List UInt8 → Option (Nat × List UInt8)
  | 0, _, _, _ => none
  | _ + 1, _, _, [] => none
  | k + 1, i, u, c :: r => if (0 < i ∧ c.toNat = 0) ∨ (i = 9 ∧ 1 < c.toNat) then none
      else if c.toNat < 128 then some (u + c.toNat % 128 * 2 ^ (7 * i), r) else unvF k (i + 1) (u + c.toNat % 128 * 2 ^ (7 * i)) r
def decN (s : List UInt8) : Option (Int × List UInt8) := (unvF 10 0 0 s).map fun p => (zag p.1, p.2)
theorem unv_var : ∀ (k i u v : Nat) (r : List UInt8), i + k = 10 → (0 < i → 0 < u) → u < 2 ^ (64 - 7 * i) → unvF k i v (varF k u ++ r) = some (v + u * 2 ^ (7 * i), r)
  | 0, i, u, v, r, hi, _, hu => by
    have : i = 10 := by omega
    subst this
    simp at hu
    rename_i h
    have := h (by omega)
    omega
  | k + 1, i, u, v, r, hi, h0, hu => by
    rw [varF]
    by_cases h : u < 128
    · rw [if_pos h, List.cons_append, List.nil_append, unvF]
      have hn : (UInt8.ofNat u).toNat = u := by simp; omega
      rw [hn]
      have h9 : ¬ ((0 < i ∧ u = 0) ∨ (i = 9 ∧ 1 < u)) := by
        rintro (⟨h1, h2⟩ | ⟨h1, h2⟩)
        · have := h0 h1; omega
        · subst h1; simp at hu; omega
      rw [if_neg h9, if_pos h, Nat.mod_eq_of_lt h]
    · rw [if_neg h, List.cons_append, unvF]
      have hn : (UInt8.ofNat (u % 128 + 128)).toNat = u % 128 + 128 := by simp; omega
      rw [hn]
      have hi9 : i ≠ 9 := by
        intro e; subst e
        simp at hu; omega
      have h9 : ¬ ((0 < i ∧ u % 128 + 128 = 0) ∨ (i = 9 ∧ 1 < u % 128 + 128)) := by
        rintro (⟨_, h2⟩ | ⟨h1, _⟩)
        · omega
        · exact hi9 h1
      rw [if_neg h9, if_neg (by omega), Nat.add_mod_right, Nat.mod_mod]
      have hp : 2 ^ (64 - 7 * i) = 128 * 2 ^ (64 - 7 * (i + 1)) := by
        rw [show 64 - 7 * i = 7 + (64 - 7 * (i + 1)) by omega, Nat.pow_add]
      have hlt : u / 128 < 2 ^ (64 - 7 * (i + 1)) := by
        rw [Nat.div_lt_iff_lt_mul (by omega), Nat.mul_comm]; omega
      rw [unv_var k (i + 1) (u / 128) _ r (by omega) (fun _ => by omega) hlt]
      congr 2
      rw [show 7 * (i + 1) = 7 * i + 7 by omega, Nat.pow_add, Nat.add_assoc]
      congr 1
      have h2 : u / 128 * (2 ^ (7 * i) * 2 ^ 7) = (128 * (u / 128)) * 2 ^ (7 * i) := by
        rw [show (2 : Nat) ^ 7 = 128 from rfl, Nat.mul_comm (2 ^ (7 * i)) 128, ← Nat.mul_assoc, Nat.mul_comm (u / 128) 128]
      rw [h2, ← Nat.add_mul]
      congr 1
      omega
theorem dec_enc (n : Int) (h1 : -9223372036854775808 ≤ n) (h2 : n ≤ 9223372036854775807) (r : List UInt8) : decN (encN n ++ r) = some (n, r) := by
  unfold decN encN varB
  have hz : zig n < 2 ^ 64 := by unfold zig; split <;> simp <;> omega
  rw [unv_var 10 0 (zig n) 0 r rfl (fun h => absurd h (by omega)) (by simpa using hz)]
  simp [zag_zig]
theorem varF_len : ∀ (k u : Nat), (varF k u).length ≤ k
  | 0, _ => by simp [varF]
  | k + 1, u => by
    rw [varF]
    split
    · simp
    · have := varF_len k (u / 128); simp; omega
theorem encN_len (n : Int) : (encN n).length ≤ 10 := varF_len _ _
theorem encN_pos (n : Int) : 0 < (encN n).length := by
  unfold encN varB
  rw [varF]; split <;> simp
end Go.Abs
set_option maxRecDepth 100000
namespace Go.Abs
open Go
/-- A decoder: what is left, and the first error. -/
structure Dc where
  s : List UInt8
  e : Int
deriving Inhabited, DecidableEq
def Dc.fail (d : Dc) (x : Int) : Dc := if d.e = 0 then ⟨d.s, x⟩ else d
def bd {α β : Type} (F : Dc → α × Dc) (G : α → Dc → β × Dc) (d : Dc) : β × Dc := G (F d).1 (F d).2
def rtn {α : Type} (x : α) (d : Dc) : α × Dc := (x, d)
def Stk {α : Type} (F : Dc → α × Dc) : Prop := ∀ d, d.e ≠ 0 → (F d).2.e = d.e
def Sim {α : Type} (F G : Dc → α × Dc) : Prop := Stk F ∧ Stk G ∧ ∀ d, (F d).2.e = (G d).2.e ∧ ((F d).2.e = 0 → F d = G d)
theorem Stk.bd {α β : Type} {F : Dc → α × Dc} {G : α → Dc → β × Dc} (hF : Stk F) (hG : ∀ x, Stk (G x)) : Stk (bd F G) := fun d hd => by
  have h := hF d hd
  show (G (F d).1 (F d).2).2.e = d.e
  rw [hG _ _ (by rw [h]; exact hd), h]
theorem Stk.rtn {α : Type} (x : α) : Stk (rtn x) := fun _ _ => rfl
theorem Sim.refl {α : Type} {F : Dc → α × Dc} (h : Stk F) : Sim F F := ⟨h, h, fun _ => ⟨rfl, fun _ => rfl⟩⟩
theorem Sim.bd {α β : Type} {F F' : Dc → α × Dc} {G G' : α → Dc → β × Dc} (h : Sim F F') (hG : ∀ x, Sim (G x) (G' x)) : Sim (bd F G) (bd F' G') := by
  refine ⟨h.1.bd fun x => (hG x).1, h.2.1.bd fun x => (hG x).2.1, fun d => ?_⟩
  obtain ⟨h1, h2⟩ := h.2.2 d
  show (G (F d).1 (F d).2).2.e = (G' (F' d).1 (F' d).2).2.e ∧ ((G (F d).1 (F d).2).2.e = 0 → G (F d).1 (F d).2 = G' (F' d).1 (F' d).2)
  by_cases h0 : (F d).2.e = 0
  · rw [← h2 h0]
    exact (hG _).2.2 _
  · have e1 := (hG (F d).1).1 (F d).2 h0
    have e2 := (hG (F' d).1).2.1 (F' d).2 (by rw [← h1]; exact h0)
    rw [e1, e2]
    exact ⟨h1, fun h => absurd h h0⟩
/-- A sequence of one kind. -/
def loopD {α : Type} (F : Dc → α × Dc) : Nat → Dc → List α × Dc
  | 0, d => ([], d)
  | n + 1, d => if d.e ≠ 0 then ([], d) else ((F d).1 :: (loopD F n (F d).2).1, (loopD F n (F d).2).2)
theorem Stk.loop {α : Type} (F : Dc → α × Dc) : ∀ n, Stk (loopD F n)
  | 0 => fun _ _ => rfl
  | n + 1 => fun d hd => by rw [loopD, if_pos hd]
theorem Sim.loop {α : Type} {F G : Dc → α × Dc} (h : Sim F G) : ∀ n, Sim (loopD F n) (loopD G n)
  | 0 => ⟨Stk.loop _ _, Stk.loop _ _, fun _ => ⟨rfl, fun _ => rfl⟩⟩
  | n + 1 => by
    have ih := Sim.loop h n
    refine ⟨Stk.loop _ _, Stk.loop _ _, fun d => ?_⟩
    rw [loopD, loopD]
    by_cases hd : d.e ≠ 0
    · rw [if_pos hd, if_pos hd]; exact ⟨rfl, fun _ => rfl⟩
    rw [if_neg hd, if_neg hd]
    obtain ⟨h1, h2⟩ := h.2.2 d
    by_cases h0 : (F d).2.e = 0
    · rw [← h2 h0]
      obtain ⟨h3, h4⟩ := ih.2.2 (F d).2
      exact ⟨h3, fun h => by rw [h4 h]⟩
    · have e1 := Stk.loop F n (F d).2 h0
      have e2 := Stk.loop G n (G d).2 (by rw [← h1]; exact h0)
      show (loopD F n (F d).2).2.e = (loopD G n (G d).2).2.e ∧ ((loopD F n (F d).2).2.e = 0 → _)
      rw [e1, e2]
      exact ⟨h1, fun h => absurd h h0⟩
/-- What is written is read. -/
def Rt {α : Type} (F : Dc → α × Dc) (enc : α → List UInt8) (ok : α → Prop) : Prop := ∀ x, ok x → ∀ r, F ⟨enc x ++ r, 0⟩ = (x, ⟨r, 0⟩)
theorem Rt.loop {α : Type} {F : Dc → α × Dc} {enc : α → List UInt8} {ok : α → Prop} (h : Rt F enc ok) : ∀ (l : List α), (∀ x ∈ l, ok x) → ∀ r, loopD F l.length ⟨l.flatMap enc ++ r, 0⟩ = (l, ⟨r, 0⟩)
  | [], _, r => rfl
  | x :: l, hl, r => by
    rw [List.length_cons, loopD, if_neg (fun h => h rfl), List.flatMap_cons, List.append_assoc, h x (hl x (by simp)), Rt.loop h l (fun y hy => hl y (by simp [hy]))]
def i64 (n : Int) : Prop := -9223372036854775808 ≤ n ∧ n ≤ 9223372036854775807
/-- An integer. -/
def pI (d : Dc) : Int × Dc := if d.e ≠ 0 then (0, d) else match decN d.s with
  | some (n, r) => (n, ⟨r, 0⟩)
  | none => (0, ⟨d.s, 26⟩)
theorem stk_pI : Stk pI := fun d hd => by rw [pI, if_pos hd]
theorem rt_pI : Rt pI encN i64 := fun n hn r => by rw [pI, if_neg (fun h => h rfl), dec_enc n hn.1 hn.2]
/-- A list, as the program reads it. -/
def pL {α : Type} (F : Dc → α × Dc) : Dc → List α × Dc := bd pI fun n d => if n < 0 ∨ 4096 < n then loopD F n.toNat (d.fail 5) else loopD F n.toNat d
/-- A list, as the reference reads it. -/
def rCount : Dc → Int × Dc := bd pI fun n d => if n < 0 ∨ 4096 < n then (0, d.fail 5) else (n, d)
def rL {α : Type} (F : Dc → α × Dc) : Dc → List α × Dc := bd rCount fun n d => loopD F n.toNat d
theorem fail_e {d : Dc} {x : Int} : (d.fail x).e = if d.e = 0 then x else d.e := by unfold Dc.fail; split <;> rfl
theorem Sim.list {α : Type} {F G : Dc → α × Dc} (h : Sim F G) : Sim (pL F) (rL G) := by
  have hl := fun n => Sim.loop h n
  have hs : Stk (pL F) := stk_pI.bd fun n d hd => by
    split
    · rw [Stk.loop _ _ _ (by rw [fail_e, if_neg hd]; exact hd), fail_e, if_neg hd]
    · exact Stk.loop _ _ _ hd
  have hc : Stk rCount := stk_pI.bd fun n d hd => by
    split
    · show (d.fail 5).e = d.e; rw [fail_e, if_neg hd]
    · rfl
  refine ⟨hs, hc.bd fun n => Stk.loop _ _, fun d => ?_⟩
  have hp : pL F d = if (pI d).1 < 0 ∨ 4096 < (pI d).1 then loopD F (pI d).1.toNat ((pI d).2.fail 5) else loopD F (pI d).1.toNat (pI d).2 := rfl
  have hr : rL G d = if (pI d).1 < 0 ∨ 4096 < (pI d).1 then loopD G (0 : Int).toNat ((pI d).2.fail 5) else loopD G (pI d).1.toNat (pI d).2 := by
    show loopD G (rCount d).1.toNat (rCount d).2 = _
    have : rCount d = if (pI d).1 < 0 ∨ 4096 < (pI d).1 then (0, (pI d).2.fail 5) else ((pI d).1, (pI d).2) := rfl
    rw [this]
    split <;> rfl
  rw [hp, hr]
  by_cases hn : (pI d).1 < 0 ∨ 4096 < (pI d).1
  · rw [if_pos hn, if_pos hn]
    have hne : ((pI d).2.fail 5).e ≠ 0 := by rw [fail_e]; split <;> first | decide | assumption
    rw [Stk.loop _ _ _ hne, Stk.loop _ _ _ hne]
    exact ⟨rfl, fun h => absurd h hne⟩
  · rw [if_neg hn, if_neg hn]
    exact (hl _).2.2 _
def encL {α : Type} (enc : α → List UInt8) (l : List α) : List UInt8 := encN l.length ++ l.flatMap enc
theorem Rt.list {α : Type} {F : Dc → α × Dc} {enc : α → List UInt8} {ok : α → Prop} (h : Rt F enc ok) : Rt (pL F) (encL enc) (fun l => l.length ≤ 4096 ∧ ∀ x ∈ l, ok x) := fun l hl r => by
  unfold pL bd encL
  rw [List.append_assoc, rt_pI (l.length : Int) ⟨by omega, by omega⟩]
  simp only
  rw [if_neg (by omega), Int.toNat_natCast, Rt.loop h l hl.2]
/-- A string. -/
def pText : Dc → List UInt8 × Dc := bd pI fun n d =>
  let d' := if n < 0 ∨ 64 < n then d.fail 13 else if (d.s.length : Int) < n then d.fail 26 else d
  if d'.e ≠ 0 then ([], d') else (d'.s.take n.toNat, ⟨d'.s.drop n.toNat, d'.e⟩)
def encT (s : List UInt8) : List UInt8 := encN s.length ++ s
def kchk (k : Int) (d : Dc) : Dc := if k < 0 ∨ 2 < k then d.fail 1 else d
def finV (v : Val) (d : Dc) : Val × Dc := (v, if d.e = 0 then d.fail (checkR v) else d)
def pVal2 (k : Int) (d : Dc) : Val × Dc := if d.e = 0 ∧ k = 2 then bd pText (fun t => finV ⟨k, 0, t⟩) d else bd pI (fun n => finV ⟨k, n, []⟩) d
def rVal2 (k : Int) (d : Dc) : Val × Dc := if d.e ≠ 0 then (zeroV, d) else if k = 2 then bd pText (fun t => finV ⟨k, 0, t⟩) d else bd pI (fun n => finV ⟨k, n, []⟩) d
/-- A value, as the program reads it. -/
def pVal : Dc → Val × Dc := bd pI fun k d => pVal2 k (kchk k d)
/-- A value, as the reference reads it. -/
def rVal : Dc → Val × Dc := bd pI fun k d => rVal2 k (kchk k d)
end Go.Abs
set_option maxRecDepth 100000
namespace Go.Abs
open Go
def encVal (v : Val) : List UInt8 := encN v.kind ++ (if v.kind = 2 then encT v.text else encN v.num)
end Go.Abs
set_option maxRecDepth 100000
namespace Go.Abs
open Go
structure Rf where
  time : Int
  source : Int
  seq : Int
deriving Inhabited, DecidableEq
structure Bnd where
  var : Int
  ref : Rf
deriving Inhabited, DecidableEq
structure Stt where
  scope : Int
  time : Int
deriving Inhabited, DecidableEq
structure Cfg where
  state : Int
  binds : List Bnd
  starts : List Stt
deriving Inhabited, DecidableEq
structure Eng where
  mark : Int
  waiting : List Ev
  runs : List Cfg
  held : List Ev
deriving Inhabited, DecidableEq
structure Pnt where
  seq : Int
  time : Int
deriving Inhabited, DecidableEq
structure Trk where
  next : Int
  beyond : List Int
  points : List Pnt
  mark : Int
deriving Inhabited, DecidableEq
structure Rdr where
  source : Int
  offset : Int
  trk : Trk
deriving Inhabited, DecidableEq
structure Kyd where
  query : Int
  key : Val
  eng : Eng
deriving Inhabited, DecidableEq
structure Opr where
  marks : List Int
  engines : List Kyd
deriving Inhabited, DecidableEq
structure Snp where
  number : Int
  readers : List Rdr
  operators : List Opr
deriving Inhabited, DecidableEq
abbrev DD (α : Type) := Dc → α × Dc
/-- How the kinds are read, over how a list and a value are read. -/
structure How where
  L : {α : Type} → DD α → DD (List α)
  V : DD Val
variable (h : How)
def How.ev : DD Ev := bd pI fun a => bd pI fun b => bd pI fun c => bd pI fun t => bd (h.L h.V) fun vs => rtn ⟨a, b, c, t, vs⟩
def How.bnd : DD Bnd := bd pI fun v => bd pI fun a => bd pI fun b => bd pI fun c => rtn ⟨v, ⟨a, b, c⟩⟩
def How.stt : DD Stt := bd pI fun a => bd pI fun b => rtn ⟨a, b⟩
def How.cfg : DD Cfg := bd pI fun a => bd (h.L How.bnd) fun b => bd (h.L How.stt) fun c => rtn ⟨a, b, c⟩
def How.eng : DD Eng := bd pI fun a => bd (h.L h.ev) fun b => bd (h.L h.cfg) fun c => bd (h.L h.ev) fun d => rtn ⟨a, b, c, d⟩
def How.pnt : DD Pnt := bd pI fun a => bd pI fun b => rtn ⟨a, b⟩
def How.trk : DD Trk := bd pI fun a => bd (h.L pI) fun b => bd (h.L How.pnt) fun c => bd pI fun d => rtn ⟨a, b, c, d⟩
def How.rdr : DD Rdr := bd pI fun a => bd pI fun b => bd h.trk fun c => rtn ⟨a, b, c⟩
def How.kyd : DD Kyd := bd pI fun a => bd h.V fun b => bd h.eng fun c => rtn ⟨a, b, c⟩
def How.opr : DD Opr := bd (h.L pI) fun a => bd (h.L h.kyd) fun b => rtn ⟨a, b⟩
def How.snp : DD Snp := bd pI fun a => bd (h.L h.rdr) fun b => bd (h.L h.opr) fun c => rtn ⟨a, b, c⟩
/-- As the program reads; as the reference reads. -/
def pH : How := ⟨pL, pVal⟩
def rH : How := ⟨rL, rVal⟩
def encEv (e : Ev) : List UInt8 := encN e.source ++ (encN e.seq ++ (encN e.type ++ (encN e.time ++ encL encVal e.values)))
def encBnd (b : Bnd) : List UInt8 := encN b.var ++ (encN b.ref.time ++ (encN b.ref.source ++ encN b.ref.seq))
def encStt (s : Stt) : List UInt8 := encN s.scope ++ encN s.time
def encCfg (c : Cfg) : List UInt8 := encN c.state ++ (encL encBnd c.binds ++ encL encStt c.starts)
def encEng (x : Eng) : List UInt8 := encN x.mark ++ (encL encEv x.waiting ++ (encL encCfg x.runs ++ encL encEv x.held))
def encPnt (p : Pnt) : List UInt8 := encN p.seq ++ encN p.time
def encTrk (t : Trk) : List UInt8 := encN t.next ++ (encL encN t.beyond ++ (encL encPnt t.points ++ encN t.mark))
def encRdr (r : Rdr) : List UInt8 := encN r.source ++ (encN r.offset ++ encTrk r.trk)
def encKyd (k : Kyd) : List UInt8 := encN k.query ++ (encVal k.key ++ encEng k.eng)
def encOpr (o : Opr) : List UInt8 := encL encN o.marks ++ encL encKyd o.engines
def encSnp (s : Snp) : List UInt8 := encN s.number ++ (encL encRdr s.readers ++ encL encOpr s.operators)
def okL {α : Type} (ok : α → Prop) (l : List α) : Prop := l.length ≤ 4096 ∧ ∀ x ∈ l, ok x
def okV (v : Val) : Prop := checkR v = 0
def okEv (e : Ev) : Prop := i64 e.source ∧ i64 e.seq ∧ i64 e.type ∧ i64 e.time ∧ okL okV e.values
def okBnd (b : Bnd) : Prop := i64 b.var ∧ i64 b.ref.time ∧ i64 b.ref.source ∧ i64 b.ref.seq
def okStt (s : Stt) : Prop := i64 s.scope ∧ i64 s.time
def okCfg (c : Cfg) : Prop := i64 c.state ∧ okL okBnd c.binds ∧ okL okStt c.starts
def okEng (x : Eng) : Prop := i64 x.mark ∧ okL okEv x.waiting ∧ okL okCfg x.runs ∧ okL okEv x.held
def okPnt (p : Pnt) : Prop := i64 p.seq ∧ i64 p.time
def okTrk (t : Trk) : Prop := i64 t.next ∧ okL i64 t.beyond ∧ okL okPnt t.points ∧ i64 t.mark
def okRdr (r : Rdr) : Prop := i64 r.source ∧ i64 r.offset ∧ okTrk r.trk
def okKyd (k : Kyd) : Prop := i64 k.query ∧ okV k.key ∧ okEng k.eng
def okOpr (o : Opr) : Prop := okL i64 o.marks ∧ okL okKyd o.engines
def okSnp (s : Snp) : Prop := i64 s.number ∧ okL okRdr s.readers ∧ okL okOpr s.operators
end Go.Abs
set_option maxRecDepth 100000
namespace Go.Abs
open Go
def orE (a b : Int) : Int := if a ≠ 0 then a else b
def firstE {α : Type} (f : α → Int) : List α → Int
  | [] => 0
  | x :: l => orE (f x) (firstE f l)
def errL {α : Type} (f : α → Int) (l : List α) : Int := if 4096 < l.length then 5 else firstE f l
def noE {α : Type} (_ : α) : Int := 0
def errEv (e : Ev) : Int := errL checkR e.values
def errCfg (c : Cfg) : Int := orE (errL noE c.binds) (errL noE c.starts)
def errEng (x : Eng) : Int := orE (errL errEv x.waiting) (orE (errL errCfg x.runs) (errL errEv x.held))
def errTrk (t : Trk) : Int := orE (errL noE t.beyond) (errL noE t.points)
def errRdr (r : Rdr) : Int := errTrk r.trk
def errKyd (k : Kyd) : Int := orE (checkR k.key) (errEng k.eng)
def errOpr (o : Opr) : Int := orE (errL noE o.marks) (errL errKyd o.engines)
def errSnp (s : Snp) : Int := orE (errL errRdr s.readers) (errL errOpr s.operators)
theorem orE_zero {a b : Int} (h : orE a b = 0) : a = 0 ∧ b = 0 := by
  unfold orE at h
  split at h
  · rename_i h1; exact absurd h h1
  · rename_i h1; exact ⟨by simpa using h1, h⟩
/-- All the integers are of 64 bits. -/
def iEv (e : Ev) : Prop := i64 e.source ∧ i64 e.seq ∧ i64 e.type ∧ i64 e.time
def iCfg (c : Cfg) : Prop := i64 c.state ∧ (∀ x ∈ c.binds, okBnd x) ∧ ∀ x ∈ c.starts, okStt x
def iEng (x : Eng) : Prop := i64 x.mark ∧ (∀ e ∈ x.waiting, iEv e) ∧ (∀ c ∈ x.runs, iCfg c) ∧ ∀ e ∈ x.held, iEv e
def iTrk (t : Trk) : Prop := i64 t.next ∧ (∀ n ∈ t.beyond, i64 n) ∧ (∀ p ∈ t.points, okPnt p) ∧ i64 t.mark
def iRdr (r : Rdr) : Prop := i64 r.source ∧ i64 r.offset ∧ iTrk r.trk
def iKyd (k : Kyd) : Prop := i64 k.query ∧ iEng k.eng
def iOpr (o : Opr) : Prop := (∀ n ∈ o.marks, i64 n) ∧ ∀ k ∈ o.engines, iKyd k
def iSnp (s : Snp) : Prop := i64 s.number ∧ (∀ r ∈ s.readers, iRdr r) ∧ ∀ o ∈ s.operators, iOpr o
/-- The checksum. -/
def ckStep (h : Nat) (c : UInt8) : Nat := (h ^^^ c.toNat) * 16777619 % 4294967296
def ckSum (s : List UInt8) : Nat := s.foldl ckStep 2166136261
theorem ckSum_lt (s : List UInt8) : ckSum s < 4294967296 := by
  unfold ckSum
  rcases List.eq_nil_or_concat s with rfl | ⟨t, c, rfl⟩
  · rw [List.foldl_nil]; omega
  · rw [List.concat_eq_append, List.foldl_append, List.foldl_cons, List.foldl_nil, ckStep]
    exact Nat.mod_lt _ (by omega)
def sumB (c : Nat) : List UInt8 := [UInt8.ofNat (c / 16777216), UInt8.ofNat (c / 65536), UInt8.ofNat (c / 256), UInt8.ofNat c]
def sealR (out : List UInt8) : List UInt8 := out ++ sumB (ckSum out)
def encodeR (s : Snp) : List UInt8 × Int := if errSnp s ≠ 0 then ([], errSnp s) else if 1048572 < (encSnp s).length then ([], 13) else (sealR (encSnp s), 0)
/-- What a sealed text contains, or the error. -/
def openR (s : List UInt8) : Dc := if 1048576 < s.length then ⟨[], 13⟩ else if s.length < 4 then ⟨[], 26⟩ else
  if sumB (ckSum (s.take (s.length - 4))) ≠ s.drop (s.length - 4) then ⟨[], 26⟩ else ⟨s.take (s.length - 4), 0⟩
def zeroS : Snp := ⟨0, [], []⟩
def decodeBy (F : DD Snp) (s : List UInt8) : Snp × Int :=
  if (openR s).e ≠ 0 then (zeroS, (openR s).e) else
  if (F (openR s)).2.e ≠ 0 then (zeroS, (F (openR s)).2.e) else if (F (openR s)).2.s ≠ [] then (zeroS, 3) else ((F (openR s)).1, 0)
def decodeR : List UInt8 → Snp × Int := decodeBy pH.snp
end Go.Abs
set_option maxRecDepth 100000
namespace Go.Abs
open Go Go.Proofs
set_option linter.unusedSimpArgs false
attribute [simp] T195 T241 T243 T245 T148 T98 T143 T86 T88 T100 T92 T36 T95 T145 T146 T96 T84 T33 T90 T34 T27 T248 T178 T153 T186 T198 T136 T138 T151
@[simp] def avBnd (b : Bnd) : AV := .agg [.i b.var, .i b.ref.time, .i b.ref.source, .i b.ref.seq]
@[simp] def avRf (r : Rf) : AV := .agg [.i r.time, .i r.source, .i r.seq]
@[simp] def avStt (s : Stt) : AV := .agg [.i s.scope, .i s.time]
@[simp] def avCfg (c : Cfg) : AV := .agg [.i c.state, .list (c.binds.map avBnd), .list (c.starts.map avStt)]
@[simp] def avEng (x : Eng) : AV := .agg [.i x.mark, .list (x.waiting.map encE), .list (x.runs.map avCfg), .list (x.held.map encE)]
@[simp] def avPnt (p : Pnt) : AV := .agg [.i p.seq, .i p.time]
@[simp] def avTrk (t : Trk) : AV := .agg [.i t.next, .list (t.beyond.map encI), .list (t.points.map avPnt), .i t.mark]
@[simp] def avRdr (r : Rdr) : AV := .agg [.i r.source, .i r.offset, .i r.trk.next, .list (r.trk.beyond.map encI), .list (r.trk.points.map avPnt), .i r.trk.mark]
@[simp] def avKyd (k : Kyd) : AV := .agg [.i k.query, .i k.key.kind, .i k.key.num, .str k.key.text, .i k.eng.mark, .list (k.eng.waiting.map encE), .list (k.eng.runs.map avCfg), .list (k.eng.held.map encE)]
@[simp] def avOpr (o : Opr) : AV := .agg [.list (o.marks.map encI), .list (o.engines.map avKyd)]
@[simp] def avSnp (s : Snp) : AV := .agg [.i s.number, .list (s.readers.map avRdr), .list (s.operators.map avOpr)]
end Go.Abs
set_option maxRecDepth 100000
namespace Go.Abs
open Go Go.RowKit
section
variable {P : Program} [Env P] {nt k : Nat} {Q : Exit → AS → Prop}
/-- A nil slice in a slot, as an own slice without elements. -/
theorem AWP_nilSlot {c : Code} {sl : List (Nat × AV)} {H : List AObj} (t e sz : Nat) (ht : look sl t = some .nils)
    (h : AWP P nt k c Q ⟨put sl t (.sl H.length sz 0 0), H ++ [.arr e sz []]⟩) : AWP P nt k c Q ⟨sl, H⟩ := fun C a w hs => by
  obtain ⟨I, m, hw, hsl, hk, hf⟩ := hs
  obtain ⟨g1, g2⟩ := hw.push (Below.refl _ _) none (fun b e => by cases e) (.arr e sz []) (fun m' _ _ => .inl ⟨rfl, rfl⟩)
  refine h C a w ⟨I, upd m H.length none, g1, ⟨hsl.1, hsl.2.1, fun s x hx => ?_⟩, by simp at hk ⊢; omega, hf.trans hk g2⟩
  simp only [look_put] at hx
  by_cases hst : s = t
  · rw [if_pos hst] at hx
    cases hx
    obtain ⟨v, hv, hr⟩ := hsl.2.2 t _ ht
    rw [hst]
    have := hr.nils_inv
    subst this
    exact ⟨_, hv, .slnone H.length sz (by simp) (upd_same ..)⟩
  · rw [if_neg hst] at hx
    obtain ⟨v, hv, hr⟩ := hsl.2.2 s x hx
    refine ⟨v, hv, ?_⟩
    have := hr.mono (n' := (H ++ [AObj.arr e sz []]).length) g2 (by simp)
    simpa using this
/-- A nil slice in a slot, as data. -/
theorem AWP_nilList {c : Code} {sl : List (Nat × AV)} {H : List AObj} (t : Nat) (ht : look sl t = some .nils)
    (h : AWP P nt k c Q ⟨put sl t (.list []), H⟩) : AWP P nt k c Q ⟨sl, H⟩ := fun C a w hs => by
  obtain ⟨I, m, hw, hsl, hk, hf⟩ := hs
  refine h C a w ⟨I, m, hw, ⟨hsl.1, hsl.2.1, fun s x hx => ?_⟩, hk, hf⟩
  simp only [look_put] at hx
  by_cases hst : s = t
  · rw [if_pos hst] at hx
    cases hx
    obtain ⟨v, hv, hr⟩ := hsl.2.2 t _ ht
    rw [hst]
    have := hr.nils_inv
    subst this
    exact ⟨_, hv, .pure (.list none 0 0 0 [] (fun _ _ => .bool false) rfl (Nat.le_refl _) (by simp [maxLen]) (fun x hx => by simp at hx) (fun h => by simp at h) (fun i x hx => by simp at hx))⟩
  · rw [if_neg hst] at hx
    exact hsl.2.2 s x hx
end
end Go.Abs
set_option maxRecDepth 100000
namespace Go.Abs
open Go Go.RowKit
section
variable {P : Program} [Env P] {T : TT} {nt k : Nat} {S : AS} {ops : Array Oper} {o : Oper} {R : AS → Prop} {Q : Exit → AS → Prop}
end
end Go.Abs
set_option maxRecDepth 100000
namespace Go.Abs
open Go Go.RowKit
section
variable {P : Program} [Env P] {T : TT} {nt k : Nat} {S : AS} {ops : Array Oper} {o : Oper} {R : AS → Prop} {Q : Exit → AS → Prop}
end
end Go.Abs
set_option maxRecDepth 100000
namespace Go.Abs
open Go Go.RowKit Go.Maps
/-- A plain value that may be a key. -/
def isKey (P : Program) (k : TypeId) (x : AV) : Prop := ∃ u l, x.val = some u ∧ keyOf P k u = some l
section
variable {P : Program} [Env P] {T : TT} {nt k : Nat} {S : AS} {ops : Array Oper} {o : Oper} {R : AS → Prop} {Q : Exit → AS → Prop}
end
end Go.Abs
set_option maxRecDepth 100000
namespace Go.Abs
open Go Go.Proofs
set_option linter.unusedSimpArgs false
theorem get_app {H : List AObj} {i : Nat} {x : AObj} (h : H[i]? = some x) (G : List AObj) : (H ++ G)[i]? = some x := by
  rw [List.getElem?_append_left (List.getElem?_eq_some_iff.1 h).1]; exact h
theorem get_set {H : List AObj} {i j : Nat} {x : AObj} (hne : j ≠ i) (h : H[i]? = some x) (y : AObj) : (H.set j y)[i]? = some x := by rw [List.getElem?_set_ne hne]; exact h
theorem get_self {H : List AObj} {i : Nat} {x : AObj} (h : H[i]? = some x) (y : AObj) : (H.set i y)[i]? = some y := List.getElem?_set_self (List.getElem?_eq_some_iff.1 h).1
theorem gen_FC {P : Program} [Env P] {f : Nat} {args : List AV} {H0 : List AObj} {R : AV → List AObj → Prop} (h : ∀ H1, H1 = H0 → FC P f args H1 R) : FC P f args H0 R := h _ rfl
theorem set_hold' {H : List AObj} {q : Nat} {x : AObj} (h : H[q]? = some x) : H.set q x = H := by
  apply List.ext_getElem?
  intro i
  by_cases hi : q = i
  · subst hi; rw [h]; exact List.getElem?_set_self (List.getElem?_eq_some_iff.1 h).1
  · rw [List.getElem?_set_ne hi]
end Go.Abs
namespace Go.Abs
open Go Go.RowKit

/-- In which orders a drawn region is walked, up to four operations that may come. -/
inductive PlanM where
  | done
  | val (i : Nat) (p : PlanM)
  | one (i : Nat) (p : PlanM)
  | two (i : Nat) (p : PlanM) (j : Nat) (q : PlanM)
  | three (i : Nat) (p : PlanM) (j : Nat) (q : PlanM) (m : Nat) (r : PlanM)

def PlanM.size : PlanM → Nat
  | .done => 0
  | .val _ p => p.size + 1
  | .one _ p => p.size + 1
  | .two _ p _ _ => p.size + 1
  | .three _ p _ _ _ _ => p.size + 1

def planM (ops : Array Oper) (cl : List (List Nat)) (Wr : List Nat) : PlanM → Array Bool → Bool
  | .done, l => (Region.ready .any ops l).isEmpty
  | .val i p, l => (match ops[i]? with
      | none => false
      | some o => isVal o.op && freeOk ops cl Wr l i && (Region.ready .any ops l).contains i) && planM ops cl Wr p (l.setIfInBounds i true)
  | .one i p, l => (ops[i]?).isSome && Region.ready .any ops l == [i] && planM ops cl Wr p (l.setIfInBounds i true)
  | .two i p j q, l => (ops[i]?).isSome && (ops[j]?).isSome && Region.ready .any ops l == [i, j] && p.size == q.size && planM ops cl Wr p (l.setIfInBounds i true) && planM ops cl Wr q (l.setIfInBounds j true)
  | .three i p j q m r, l => (ops[i]?).isSome && (ops[j]?).isSome && (ops[m]?).isSome && Region.ready .any ops l == [i, j, m] && p.size == q.size && p.size == r.size && planM ops cl Wr p (l.setIfInBounds i true) && planM ops cl Wr q (l.setIfInBounds j true) && planM ops cl Wr r (l.setIfInBounds m true)

def ASeqM (P : Program) [Env P] (T : TT) (nt k : Nat) (ops : Array Oper) (W : Nat → Bool) (Q : AS → Prop) : PlanM → AS → Prop
  | .done, S => Q S
  | .val i p, S => stepT P T nt k ops W i (ASeqM P T nt k ops W Q p) S
  | .one i p, S => stepT1 P T nt k ops W i (ASeqM P T nt k ops W Q p) S
  | .two i p j q, S => stepT1 P T nt k ops W i (ASeqM P T nt k ops W Q p) S ∧ stepT1 P T nt k ops W j (ASeqM P T nt k ops W Q q) S
  | .three i p j q m r, S => stepT1 P T nt k ops W i (ASeqM P T nt k ops W Q p) S ∧ stepT1 P T nt k ops W j (ASeqM P T nt k ops W Q q) S ∧ stepT1 P T nt k ops W m (ASeqM P T nt k ops W Q r) S

section
variable {P : Program} [Env P] {T : TT} {nt k : Nat} {S : AS} {ops : Array Oper} {o : Oper} {R : AS → Prop} {Wr : List Nat}

theorem ASeqM_any (hT : TOk P T) {C : Cx P} (hd : dstsOk nt ops.toList = true) (hns : Region.noSelect ops = true) : ∀ (p : PlanM) (listed : Array Bool) (S : AS) (a : Act) (w : World), closedL ops listed → planM ops (closTo ops.toList []) Wr p listed = true → ASeqM P T nt k ops Wr.contains R p S → St C nt k S a w →
    wpAnyR P ops Wr (PstN C nt k R) p.size listed a w
  | .done, listed, S, a, w, _, hp, h, hs => ⟨by simpa [planM] using hp, S, h, hs⟩
  | .val i p, listed, S, a, w, hcl, hp, h, hs => by
    unfold planM at hp
    unfold ASeqM stepT at h
    rw [Bool.and_eq_true] at hp
    obtain ⟨hp1, hp2⟩ := hp
    cases ho : ops[i]? with
    | none => rw [ho] at h; exact h.elim
    | some o =>
      rw [ho] at h hp1
      simp only at h hp1
      have hdo : dstOk nt o = true := List.all_eq_true.1 hd o (by simpa using Array.mem_of_getElem? ho)
      simp only [Bool.and_eq_true] at hp1
      obtain ⟨⟨hv, hf⟩, hr⟩ := hp1
      have hau : isAuto o.op = true := by cases hop : o.op <;> rw [hop] at hv <;> first | rfl | exact hv | (simp [isVal] at hv)
      rw [if_pos hau] at h
      have hrd : i ∈ Region.ready .any ops listed := by simpa using hr
      split at h
      · rename_i S' hS'
        obtain ⟨v, hy, hs'⟩ := hs.yields hT hdo hv hS'
        exact wpAnyR_first ho (Region.noSelect_spec hns) (fun c a w hq => hq) (fun x y => readsMem o.op = true → Held x y) (fun w _ => Held.refl w) (fun x y z h1 h2 hr => (h1 hr).trans (h2 hr)) p.size listed a w
          (fun j oj hj hne hun hno => free_all ho hf j oj hj hne hun hno) hcl hrd hy (ASeqM_any hT hd hns p _ S' _ w (hcl.set hrd) hp2 h.2 hs')
      · exact h.elim
  | .one i p, listed, S, a, w, hcl, hp, h, hs => by
    unfold planM at hp
    simp only [Bool.and_eq_true, beq_iff_eq] at hp
    obtain ⟨⟨_, hrd⟩, hp2⟩ := hp
    have hrm : i ∈ Region.ready .any ops listed := by rw [hrd]; simp
    refine ⟨fun h0 => (by rw [hrd] at h0; cases h0), fun j hj => ?_⟩
    rw [hrd] at hj
    obtain rfl : j = i := by simpa using hj
    exact stepT_op hT hd h hs fun S' a' w' hR hs' => ASeqM_any hT hd hns p _ S' a' w' (hcl.set hrm) hp2 hR hs'
  | .two i p j q, listed, S, a, w, hcl, hp, h, hs => by
    unfold planM at hp
    simp only [Bool.and_eq_true, beq_iff_eq] at hp
    obtain ⟨⟨⟨⟨_, hrd⟩, hsz⟩, hp2⟩, hp3⟩ := hp
    have hri : i ∈ Region.ready .any ops listed := by rw [hrd]; simp
    have hrj : j ∈ Region.ready .any ops listed := by rw [hrd]; simp
    refine ⟨fun h0 => (by rw [hrd] at h0; cases h0), fun m hm => ?_⟩
    rw [hrd] at hm
    rcases (by simpa using hm : m = i ∨ m = j) with rfl | rfl
    · exact stepT_op hT hd h.1 hs fun S' a' w' hR hs' => ASeqM_any hT hd hns p _ S' a' w' (hcl.set hri) hp2 hR hs'
    · refine stepT_op hT hd h.2 hs fun S' a' w' hR hs' => ?_
      have := ASeqM_any hT hd hns q _ S' a' w' (hcl.set hrj) hp3 hR hs'
      rw [← hsz] at this
      exact this
  | .three i p j q g r, listed, S, a, w, hcl, hp, h, hs => by
    unfold planM at hp
    simp only [Bool.and_eq_true, beq_iff_eq] at hp
    obtain ⟨⟨⟨⟨⟨⟨_, hrd⟩, hsz⟩, hsz2⟩, hp2⟩, hp3⟩, hp4⟩ := hp
    have hri : i ∈ Region.ready .any ops listed := by rw [hrd]; simp
    have hrj : j ∈ Region.ready .any ops listed := by rw [hrd]; simp
    have hrg : g ∈ Region.ready .any ops listed := by rw [hrd]; simp
    refine ⟨fun h0 => (by rw [hrd] at h0; cases h0), fun m hm => ?_⟩
    rw [hrd] at hm
    rcases (by simpa using hm : m = i ∨ m = j ∨ m = g) with rfl | rfl | rfl
    · exact stepT_op hT hd h.1 hs fun S' a' w' hR hs' => ASeqM_any hT hd hns p _ S' a' w' (hcl.set hri) hp2 hR hs'
    · refine stepT_op hT hd h.2.1 hs fun S' a' w' hR hs' => ?_
      have := ASeqM_any hT hd hns q _ S' a' w' (hcl.set hrj) hp3 hR hs'
      rw [← hsz] at this
      exact this
    · refine stepT_op hT hd h.2.2 hs fun S' a' w' hR hs' => ?_
      have := ASeqM_any hT hd hns r _ S' a' w' (hcl.set hrg) hp4 hR hs'
      rw [← hsz2] at this
      exact this

/-- A region that draws its order, by a plan with branches. -/
theorem AWP_drawM (hT : TOk P T) (hm : P.follows .mixedOrders = true) {Q : Exit → AS → Prop} {id : Nat} {l : List Oper} (Wr : List Nat) (p : PlanM) (hd : dstsOk nt l = true)
    (hp : (Region.noSelect l.toArray && p.size == l.length && planM l.toArray (closTo l []) Wr p (Array.replicate l.length false)) = true)
    (h : ASeqM P T nt k l.toArray Wr.contains (Q .normal) p S) : AWP P nt k (.region id l.toArray true) Q S := fun C a w hs => by
  simp only [Bool.and_eq_true, beq_iff_eq] at hp
  obtain ⟨⟨h1, h2⟩, h3⟩ := hp
  refine Pst_of_N (wpIn_region_any hm (wpAny_of_R (Wr := Wr) _ _ _ _ ?_))
  have hs' : St C nt k S a { w with drawn := w.drawn + 1 } := by
    obtain ⟨I, m, hw, hsl, hk, hE⟩ := hs
    have hb : Below w.heap.size w { w with drawn := w.drawn + 1 } := ⟨rfl, rfl, rfl, Nat.le_refl _, fun _ _ => rfl⟩
    obtain ⟨g1, g2⟩ := hw.step hb (fun _ h => h) (fun b hb' => ⟨(hw.iw b hb').1, .inl hb'⟩)
    exact ⟨I, m, g1, ⟨hsl.1, hsl.2.1, fun t x hx => by obtain ⟨v, hv, hr⟩ := hsl.2.2 t x hx; exact ⟨v, hv, hr.mono g2 (Nat.le_refl _)⟩⟩, hk, hE.trans hk g2⟩
  have := ASeqM_any hT (C := C) (nt := nt) (k := k) (R := Q .normal) (by simpa using hd) h1 p (Array.replicate l.length false) S a _ (fun j o ho hj => by
    have hlt := (Array.getElem?_eq_some_iff.1 ho).1
    simp at hlt
    simp [hlt] at hj) (by simpa using h3) h hs'
  rw [h2] at this
  simpa using this

theorem AStep.mono {wr : Bool} {R' : AS → Prop} (h : AStep P nt k wr ops o S R) (hr : ∀ S, R S → R' S) : AStep P nt k wr ops o S R' :=
  fun C a w K Q hs hK => h C a w K Q hs fun S' a' w' hR => hK S' a' w' (hr S' hR)
theorem stepT_mono {W : Nat → Bool} {i : Nat} {R' : AS → Prop} (hr : ∀ S, R S → R' S) (h : stepT P T nt k ops W i R S) : stepT P T nt k ops W i R' S := by
  unfold stepT at h ⊢
  split at h
  · exact h
  · split at h
    · rename_i hau
      rw [if_pos hau]
      split at h
      · exact ⟨h.1, hr _ h.2⟩
      · exact h
    · rename_i hau
      rw [if_neg hau]
      exact h.mono hr
theorem stepT1_mono {W : Nat → Bool} {i : Nat} {R' : AS → Prop} (hr : ∀ S, R S → R' S) (h : stepT1 P T nt k ops W i R S) : stepT1 P T nt k ops W i R' S := by
  unfold stepT1 at h ⊢
  split at h
  · exact h
  · split at h
    · rename_i hau
      rw [if_pos hau]
      split at h
      · exact ⟨h.1, hr _ h.2⟩
      · exact h.mono hr
    · rename_i hau
      rw [if_neg hau]
      exact h.mono hr
theorem ASeqM_and {W : Nat → Bool} {Q Q' : AS → Prop} (hq : ∀ S, Q S → Q' S) : ∀ (p : PlanM) (S : AS), ASeqM P T nt k ops W Q p S → ASeqM P T nt k ops W Q' p S
  | .done, S, h => hq S h
  | .val i p, S, h => stepT_mono (fun S => ASeqM_and hq p S) h
  | .one i p, S, h => stepT1_mono (fun S => ASeqM_and hq p S) h
  | .two i p j q, S, h => ⟨stepT1_mono (fun S => ASeqM_and hq p S) h.1, stepT1_mono (fun S => ASeqM_and hq q S) h.2⟩
  | .three i p j q m r, S, h => ⟨stepT1_mono (fun S => ASeqM_and hq p S) h.1, stepT1_mono (fun S => ASeqM_and hq q S) h.2.1, stepT1_mono (fun S => ASeqM_and hq r S) h.2.2⟩
/-- An operation that yields or stores, tried once more in the state as it is now. -/
theorem AStep_redo (hT : TOk P T) {wr : Bool} (hd : dstOk nt o = true) (hwr : isStore o.op = true → wr = true) (hv : isAuto o.op = true) (h : match stepA T ops S o with | some S' => R S' | none => False) : AStep P nt k wr ops o S R := by
  cases hs : stepA T ops S o with
  | none => rw [hs] at h; exact h.elim
  | some S' => rw [hs] at h; exact AStep_auto hT hs hd hwr hv h

/-- What holds of the one state holds of the other. -/
def RenTo (P : Program) [Env P] (nt k : Nat) (S S' : AS) : Prop := ∀ (C : Cx P) (a : Act) (w : World), St C nt k S a w → St C nt k S' a w
theorem RenTo_ren {sl sl' : List (Nat × AV)} {H H' : List AObj} (ix : List Nat)
    (h1 : ix.map (fun i => H[i]?) = H'.map (fun o => some (o.ren (rn ix)))) (h2 : ix.Nodup) (h3 : k ≤ ix.length) (h3' : ix.take k = List.range k)
    (h4 : sl'.all (fun p => p.2.under H'.length) = true) (h4' : H'.all (objBelow H'.length) = true) (h5 : keepOk sl (sl'.map fun p => (p.1, p.2.ren (rn ix)))) : RenTo P nt k ⟨sl, H⟩ ⟨sl', H'⟩ :=
  fun C a w hs => hs.ren ix h1 h2 h3 h3' h4 h4' h5
theorem RenTo_keep {sl sl' : List (Nat × AV)} {H : List AObj} (hk : keepOk sl sl') : RenTo P nt k ⟨sl, H⟩ ⟨sl', H⟩ := fun _ _ _ hs => hs.sub rfl (look_of_keepOk hk)
/-- A region that draws its order, all orders brought to one state; the rest from there. -/
theorem AWP_drawC (hT : TOk P T) (hm : P.follows .mixedOrders = true) {Q Q' : Exit → AS → Prop} {id : Nat} {l : List Oper} {next : Code} (Wr : List Nat) (p : PlanM) (Sc : AS) (hd : dstsOk nt l = true)
    (hp : (Region.noSelect l.toArray && p.size == l.length && planM l.toArray (closTo l []) Wr p (Array.replicate l.length false)) = true)
    (h : ASeqM P T nt k l.toArray Wr.contains (fun S => RenTo P nt k S Sc) p S) (hn : AWP P nt k next Q Sc) : AWP P nt k (.region id l.toArray true) (thenQ (AWP P nt k next Q) Q') S :=
  (AWP_drawM (Q := fun e S => e = .normal ∧ RenTo P nt k S Sc) hT hm Wr p hd hp (ASeqM_and (fun _ h => ⟨rfl, h⟩) p S h)).mono fun e S ⟨he, hr⟩ => by
    subst he
    exact fun C a w hs => hn C a w (hr C a w hs)
end
attribute [simp] ASeqM AV.nrm AV.nrm1
end Go.Abs
namespace Go.Abs
open Go Go.RowKit
section
variable {P : Program} [Env P] {T : TT} {nt k : Nat} {S : AS} {ops : Array Oper} {o : Oper} {R : AS → Prop}
end
end Go.Abs
set_option maxRecDepth 100000
namespace Go.Abs
open Go Go.RowKit
section
variable {P : Program} [Env P] {nt k : Nat} {Q : Exit → AS → Prop}
/-- Nil slices in an object's cells are empty lists. -/
theorem AWP_nrmV {c : Code} {sl : List (Nat × AV)} {H : List AObj} (i : Nat) {xs : List AV} (hi : H[i]? = some (.vars xs)) (hp : xs.all AV.pure = true) (h : AWP P nt k c Q ⟨sl, H.set i (.vars (xs.map AV.nrm))⟩) : AWP P nt k c Q ⟨sl, H⟩ := fun C a w hs => by
  obtain ⟨I, m, hw, hsl, hk, hf⟩ := hs
  have hlen : (H.set i (.vars (xs.map AV.nrm))).length = H.length := by simp
  obtain ⟨b, t, vs, hb, hh, hsz, hr⟩ := hw.obj i _ hi
  obtain ⟨g1, g2⟩ := hw.set (w' := w) (o' := .vars (xs.map AV.nrm)) hi rfl hb (World.grownBy.refl _ _) (fun _ h => h) (fun m' hf' => ⟨b, t, vs, rfl, hh, by simp [hsz], fun j v x hv hx => by
    rw [List.getElem?_map] at hx
    obtain ⟨y, hy, rfl⟩ := Option.map_eq_some_iff.1 hx
    exact .pure ((hr j v y hv hy).toPure (List.all_eq_true.1 hp y (List.mem_of_getElem? hy))).nrm⟩)
  refine h C a w ⟨I, m, g1, ⟨hsl.1, hsl.2.1, fun t x hx => ?_⟩, by rw [hlen]; exact hk, hf⟩
  obtain ⟨v, hv, hr'⟩ := hsl.2.2 t x hx
  exact ⟨v, hv, by simpa using hr'⟩
theorem St.freeze1 {C : Cx P} {a : Act} {w : World} {sl : List (Nat × AV)} {H : List AObj} (hs : St C nt k ⟨sl, H⟩ a w) (i : Nat) {e c : Nat} {xs : List AV} (hi : H[i]? = some (.arr e c xs)) :
    St C nt k ⟨sl.map fun p => (p.1, p.2.fz i c xs), H.set i .dead⟩ a w := by
  obtain ⟨I, m, hw, hsl, hk, hf⟩ := hs
  have hext : Ext w w I (fun b => I b ∨ m i = some b) := ⟨fun _ h => .inl h, fun _ _ => rfl⟩
  have hfut : Fut H.length w I m w (fun b => I b ∨ m i = some b) m := ⟨hext, fun _ _ => rfl, fun _ _ h => h⟩
  have hlen : (H.set i .dead).length = H.length := by simp
  have hcase : ∀ (id : Nat) (o : AObj), (H.set i .dead)[id]? = some o → o.live = true → id ≠ i ∧ H[id]? = some o := fun id o ho hl => by
    by_cases hid : id = i
    · subst hid
      rw [List.getElem?_set_self (List.getElem?_eq_some_iff.1 hi).1] at ho
      cases ho
      simp [AObj.live] at hl
    · rw [List.getElem?_set_ne (by omega)] at ho
      exact ⟨hid, ho⟩
  refine ⟨fun b => I b ∨ m i = some b, m, ⟨hw.below, fun b hb => .inl (hw.i0 b hb), fun b hb => ?_, fun id o ho => ?_, fun id o b ho hl hm => ?_, fun a b oa ob d ha hb la lb ma mb => ?_⟩, ⟨hsl.1, hsl.2.1, fun t x hx => ?_⟩, by rw [hlen]; exact hk, hf.trans hk hfut⟩
  · rcases hb with hb | hb
    · exact hw.iw b hb
    · have := hw.own i _ b hi rfl hb
      exact ⟨this.2.2, .inr this.1⟩
  · rw [hlen]
    by_cases hid : id = i
    · subst hid
      rw [List.getElem?_set_self (List.getElem?_eq_some_iff.1 hi).1] at ho
      cases ho
      trivial
    · rw [List.getElem?_set_ne (by omega)] at ho
      exact ObjR.mono (hw.obj id o ho) hfut (Nat.le_refl _) (fun _ _ _ => rfl)
  · obtain ⟨hne, ho'⟩ := hcase id o ho hl
    have h1 := hw.own id o b ho' hl hm
    refine ⟨h1.1, fun hc => ?_, h1.2.2⟩
    rcases hc with hc | hc
    · exact h1.2.1 hc
    · exact hne (hw.inj id i o _ b ho' hi hl rfl hm hc)
  · obtain ⟨_, ha'⟩ := hcase a oa ha la
    obtain ⟨_, hb'⟩ := hcase b ob hb lb
    exact hw.inj a b oa ob d ha' hb' la lb ma mb
  · rw [hlen]
    have := look_fz hx
    obtain ⟨y, hy, rfl⟩ := this
    obtain ⟨v, hv, hr⟩ := hsl.2.2 t y hy
    exact ⟨v, hv, hr.fz hw hi⟩
/-- An own slice becomes data in the slots; the objects stay as they are. -/
theorem AWP_freeze1 {cd : Code} {sl : List (Nat × AV)} {H : List AObj} (i : Nat) {e c : Nat} {xs : List AV} (hi : H[i]? = some (.arr e c xs)) (h : AWP P nt k cd Q ⟨sl.map fun p => (p.1, p.2.fz i c xs), H.set i .dead⟩) : AWP P nt k cd Q ⟨sl, H⟩ :=
  fun C a w hs => h C a w (hs.freeze1 i hi)
end
end Go.Abs
set_option maxRecDepth 100000
namespace Go.Abs
open Go Go.RowKit
theorem nrm_cells (x : AV) : x.nrm.cells.length = x.cells.length ∧ ∀ (j : Nat) (y' : AV), x.nrm.cells[j]? = some y' → ∃ y, x.cells[j]? = some y ∧ ∀ (w : World) (I : Nat → Prop) (v : Value), PVR w I v y → PVR w I v y' := by
  cases x with
  | agg cs =>
    refine ⟨by simp [AV.nrm, AV.cells], fun j y' h => ?_⟩
    simp only [AV.nrm, AV.cells, List.getElem?_map] at h
    obtain ⟨y, hy, rfl⟩ := Option.map_eq_some_iff.1 h
    exact ⟨y, hy, fun w I v h => h.nrm1⟩
  | nils =>
    refine ⟨rfl, fun j y' h => ?_⟩
    cases j with
    | zero => cases h; exact ⟨.nils, rfl, fun w I v h => h.nrm1⟩
    | succ j => cases h
  | fn f xs ys =>
    refine ⟨rfl, fun j y' h => ?_⟩
    cases j with
    | zero => cases h; exact ⟨.fn f xs ys, rfl, fun w I v h => h.nrm⟩
    | succ j => cases h
  | _ => exact ⟨rfl, fun j y' h => ⟨y', h, fun w I v h => h⟩⟩
def AV.nrmL : AV → AV
  | .list xs => .list (xs.map AV.nrm)
  | x => x
theorem PVR.nrmL {w : World} {I : Nat → Prop} {v : Value} {x : AV} (h : PVR w I v x) : PVR w I v x.nrmL := by
  cases x with
  | list xs =>
    cases h with
    | list a _ cap c _ u hn hcap hmax hc ha hu =>
      refine .list a _ cap c _ u (by simpa using hn) (by simpa using hcap) hmax (fun x hx => ?_) (by simpa using ha) (fun i x hx j y hy => ?_)
      · obtain ⟨x', hx', rfl⟩ := List.mem_map.1 hx
        rw [(nrm_cells x').1]; exact hc x' hx'
      · rw [List.getElem?_map] at hx
        obtain ⟨x', hx', rfl⟩ := Option.map_eq_some_iff.1 hx
        obtain ⟨y', h1, h2⟩ := (nrm_cells x').2 j y hy
        exact h2 _ _ _ (hu i x' hx' j y' h1)
  | _ => exact h
section
variable {P : Program} [Env P] {nt k : Nat} {Q : Exit → AS → Prop}
/-- The same in the elements of the lists in an object's cells. -/
theorem AWP_nrmW {c : Code} {sl : List (Nat × AV)} {H : List AObj} (i : Nat) {xs : List AV} (hi : H[i]? = some (.vars xs)) (hp : xs.all AV.pure = true) (h : AWP P nt k c Q ⟨sl, H.set i (.vars (xs.map fun x => x.nrm.nrmL))⟩) : AWP P nt k c Q ⟨sl, H⟩ := fun C a w hs => by
  obtain ⟨I, m, hw, hsl, hk, hf⟩ := hs
  have hlen : (H.set i (.vars (xs.map fun x => x.nrm.nrmL))).length = H.length := by simp
  obtain ⟨b, t, vs, hb, hh, hsz, hr⟩ := hw.obj i _ hi
  obtain ⟨g1, g2⟩ := hw.set (w' := w) (o' := .vars (xs.map fun x => x.nrm.nrmL)) hi rfl hb (World.grownBy.refl _ _) (fun _ h => h) (fun m' hf' => ⟨b, t, vs, rfl, hh, by simp [hsz], fun j v x hv hx => by
    rw [List.getElem?_map] at hx
    obtain ⟨y, hy, rfl⟩ := Option.map_eq_some_iff.1 hx
    exact .pure ((hr j v y hv hy).toPure (List.all_eq_true.1 hp y (List.mem_of_getElem? hy))).nrm.nrmL⟩)
  refine h C a w ⟨I, m, g1, ⟨hsl.1, hsl.2.1, fun t x hx => ?_⟩, by rw [hlen]; exact hk, hf⟩
  obtain ⟨v, hv, hr'⟩ := hsl.2.2 t x hx
  exact ⟨v, hv, by simpa using hr'⟩
end
attribute [simp] AV.nrmL
end Go.Abs
set_option maxRecDepth 100000
namespace Go.Abs
open Go Go.Proofs
set_option linter.unusedSimpArgs false
theorem pc_sameInts (a : List Int) : PC Tryz.prog 85 [.list (a.map encI), .list (a.map encI)] (fun r => r = .bool true) := by
  refine PC_body tOk Tryz.func85 rfl Tryz.results85 rfl (by simp [Tryz.ntmps85]) ?_
  rw [Tryz.ntmps85]
  simp only [argSlots]
  refine AWP_len 0 rfl (fun hlen => ?_)
  rw [List.length_map] at hlen
  repeat first|((first|refine qa tOk rfl ?_|refine qb tOk rfl ?_|refine qc ?_|refine qd ?_|refine qe ?_);simp)|refine AWP_block ?_|refine AWP_seq ?_
  refine AWP_cond2 rfl (fun h => by simp at h) (fun _ => ?_)
  repeat first|((first|refine qa tOk rfl ?_|refine qb tOk rfl ?_|refine qc ?_|refine qd ?_|refine qe ?_);simp)|refine AWP_block ?_|refine AWP_seq ?_
  refine AWP_countI a.length (fun _ => True) (fun j => [(0, .list (a.map encI)), (1, .list (a.map encI)), (5, .i j)]) (fun _ => []) rfl (by simp) (by simp) (by simp) (by simp) trivial ?_
  intro j hj hI ih
  repeat first|((first|refine qa tOk rfl ?_|refine qb tOk rfl ?_|refine qc ?_|refine qd ?_|refine qe ?_);simp)|refine AWP_block ?_|refine AWP_seq ?_
  refine AWP_cond2 rfl (fun hlt => ?_) (fun hge => ?_)
  · have hlt' : j < a.length := by simpa using hlt
    repeat first|((first|refine qa tOk rfl ?_|refine qb tOk rfl ?_|refine qc ?_|refine qd ?_|refine qe ?_);simp [hlt'])|refine AWP_block ?_|refine AWP_seq ?_
    refine AWP_drawT tOk mixed [] (.val 0 (.val 1 (.val 2 (.val 3 (.val 4 (.val 5 (.val 6 (.val 7 (.val 8 (.done)))))))))) rfl (by kernel_rfl) ?_
    simp [hlt']
    refine AWP_cond2 rfl (fun h => ?_) (fun _ => ?_)
    · simp at h
    repeat first|((first|refine qa tOk rfl ?_|refine qb tOk rfl ?_|refine qc ?_|refine qd ?_|refine qe ?_);simp)|refine AWP_block ?_|refine AWP_seq ?_
    refine ALoop_end _ (ih hlt' trivial) rfl (by simp) ?_ (by simp) (by simp)
    simp
    exact wrap_i64 _ (by omega) (by omega)
  · repeat first|((first|refine qa tOk rfl ?_|refine qb tOk rfl ?_|refine qc ?_|refine qd ?_|refine qe ?_);simp)|refine AWP_block ?_|refine AWP_seq ?_
theorem eqA_pnt (a b a' b' : Int) : eqA T 9 143 (.agg [.int .i64 a, .int .i64 b]) (.agg [.int .i64 a', .int .i64 b']) = some (a == a' && b == b') := by
  simp [eqA, eqFieldsA, outOf, TI.agg]
theorem pc_sameReader (a : Rdr) : PC Tryz.prog 46 [avRdr a, avRdr a] (fun r => r = .bool true) := by
  refine PC_body tOk Tryz.func46 rfl Tryz.results46 rfl (by simp [Tryz.ntmps46]) ?_
  rw [Tryz.ntmps46]
  simp only [argSlots]
  obtain ⟨s, o, tn, tb, tp, tm⟩ := a
  simp only [avRdr]
  refine AWP_lenAgg 0 4 rfl rfl (fun hlen => ?_)
  rw [List.length_map] at hlen
  repeat first|((first|refine qa tOk rfl ?_|refine qb tOk rfl ?_|refine qc ?_|refine qd ?_|refine qe ?_);simp)|refine AWP_block ?_|refine AWP_seq ?_
  refine AWP_drawC tOk mixed [6, 7] (.val 0 (.val 1 (.val 2 (.three 3 (.two 4 (.one 5 (.one 6 (.one 7 (.done)))) 5 (.one 4 (.one 6 (.one 7 (.done))))) 4 (.two 3 (.one 5 (.one 6 (.one 7 (.done)))) 5 (.two 3 (.one 6 (.one 7 (.done))) 6 (.val 3 (.one 7 (.done))))) 5 (.two 3 (.one 4 (.one 6 (.one 7 (.done)))) 4 (.two 3 (.one 6 (.one 7 (.done))) 6 (.val 3 (.one 7 (.done))))))))) (⟨[(2, .vptr 0 0), (3, .vptr 1 0), (4, .bool false), (5, .vptr 2 0), (6, .vptr 3 0)], [.vars [.i s, .i o, .i tn, .list (tb.map encI), .list (tp.map avPnt), .i tm], .vars [.i s, .i o, .i tn, .list (tb.map encI), .list (tp.map avPnt), .i tm], .vars [.i tn, .list (tb.map encI), .list (tp.map avPnt), .i tm], .vars [.i tn, .list (tb.map encI), .list (tp.map avPnt), .i tm]]⟩) rfl (by kernel_rfl) ?_ ?_
  simp
  · refine ⟨RenTo_keep (by simp), RenTo_ren [0, 1, 3, 2] (by simp) (by decide) (by simp) rfl (by simp) (by simp) (by simp)⟩
  refine AWP_seq ?_
  repeat first|((first|refine qa tOk rfl ?_|refine qb tOk rfl ?_|refine qc ?_|refine qd ?_|refine qe ?_);simp)|refine AWP_block ?_|refine AWP_seq ?_
  refine AStep_PC rfl rfl (by simp) (pc_sameInts tb) rfl ?_
  rintro _ rfl
  simp
  repeat first|((first|refine qa tOk rfl ?_|refine qb tOk rfl ?_|refine qc ?_|refine qd ?_|refine qe ?_);simp)|refine AWP_block ?_|refine AWP_seq ?_
  refine AWP_cond2 rfl (fun h => by simp at h) (fun _ => ?_)
  repeat first|((first|refine qa tOk rfl ?_|refine qb tOk rfl ?_|refine qc ?_|refine qd ?_|refine qe ?_);simp)|refine AWP_block ?_|refine AWP_seq ?_
  refine AWP_countI tp.length (fun _ => True) (fun j => [(2, .vptr 0 0), (3, .vptr 1 0), (5, .vptr 2 0), (6, .vptr 3 0), (7, .i j)]) (fun _ => [.vars [.i s, .i o, .i tn, .list (tb.map encI), .list (tp.map avPnt), .i tm], .vars [.i s, .i o, .i tn, .list (tb.map encI), .list (tp.map avPnt), .i tm], .vars [.i tn, .list (tb.map encI), .list (tp.map avPnt), .i tm], .vars [.i tn, .list (tb.map encI), .list (tp.map avPnt), .i tm]]) rfl (by simp) (by simp) (by simp) (by simp) trivial ?_
  intro j hj hI ih
  repeat first|((first|refine qa tOk rfl ?_|refine qb tOk rfl ?_|refine qc ?_|refine qd ?_|refine qe ?_);simp)|refine AWP_block ?_|refine AWP_seq ?_
  refine AWP_cond2 rfl (fun hlt => ?_) (fun hge => ?_)
  · have hlt' : j < tp.length := by simpa using hlt
    repeat first|((first|refine qa tOk rfl ?_|refine qb tOk rfl ?_|refine qc ?_|refine qd ?_|refine qe ?_);simp [hlt'])|refine AWP_block ?_|refine AWP_seq ?_
    refine AWP_drawT tOk mixed [] (.val 0 (.val 1 (.val 2 (.val 3 (.val 4 (.val 5 (.val 6 (.val 7 (.val 8 (.val 9 (.val 10 (.done)))))))))))) rfl (by kernel_rfl) ?_
    simp [hlt', eqA_pnt]
    refine AWP_cond2 rfl (fun h => ?_) (fun _ => ?_)
    · simp at h
    repeat first|((first|refine qa tOk rfl ?_|refine qb tOk rfl ?_|refine qc ?_|refine qd ?_|refine qe ?_);simp)|refine AWP_block ?_|refine AWP_seq ?_
    refine ALoop_end _ (ih hlt' trivial) rfl (by simp) ?_ (by simp) (by simp)
    simp
    exact wrap_i64 _ (by omega) (by omega)
  · repeat first|((first|refine qa tOk rfl ?_|refine qb tOk rfl ?_|refine qc ?_|refine qd ?_|refine qe ?_);simp)|refine AWP_block ?_|refine AWP_seq ?_
theorem pc_Same0 (a : Snp) (ha : a.operators = []) : PC Tryz.prog 17 [avSnp a, avSnp a] (fun r => r = .bool true) := by
  refine PC_body tOk Tryz.func17 rfl Tryz.results17 rfl (by simp [Tryz.ntmps17]) ?_
  rw [Tryz.ntmps17]
  simp only [argSlots]
  obtain ⟨n, rs, os⟩ := a
  obtain rfl : os = [] := ha
  simp only [avSnp, List.map_nil]
  refine AWP_lenAgg 0 1 rfl rfl (fun hlen => ?_)
  rw [List.length_map] at hlen
  repeat first|((first|refine qa tOk rfl ?_|refine qb tOk rfl ?_|refine qc ?_|refine qd ?_|refine qe ?_);simp)|refine AWP_block ?_|refine AWP_seq ?_
  refine AWP_cond2 rfl (fun h => by simp at h) (fun _ => ?_)
  repeat first|((first|refine qa tOk rfl ?_|refine qb tOk rfl ?_|refine qc ?_|refine qd ?_|refine qe ?_);simp)|refine AWP_block ?_|refine AWP_seq ?_
  refine AWP_countI rs.length (fun _ => True) (fun j => [(2, .vptr 0 0), (3, .vptr 1 0), (5, .i j)]) (fun _ => [.vars [.i n, .list (rs.map avRdr), .list []], .vars [.i n, .list (rs.map avRdr), .list []]]) rfl (by simp) (by simp) (by simp) (by simp) trivial ?_
  intro j hj hI ih
  repeat first|((first|refine qa tOk rfl ?_|refine qb tOk rfl ?_|refine qc ?_|refine qd ?_|refine qe ?_);simp)|refine AWP_block ?_|refine AWP_seq ?_
  refine AWP_cond2 rfl (fun hlt => ?_) (fun hge => ?_)
  · have hlt' : j < rs.length := by simpa using hlt
    repeat first|((first|refine qa tOk rfl ?_|refine qb tOk rfl ?_|refine qc ?_|refine qd ?_|refine qe ?_);simp [hlt'])|refine AWP_block ?_|refine AWP_seq ?_
    refine AWP_drawT tOk mixed [] (.val 0 (.val 1 (.val 2 (.val 3 (.val 4 (.val 5 (.val 6 (.val 7 (.val 8 (.val 9 (.one 10 (.val 11 (.done))))))))))))) rfl (by kernel_rfl) ?_
    simp [hlt']
    refine AStep_PC rfl rfl (by simp) (pc_sameReader rs[j]) rfl ?_
    rintro _ rfl
    simp
    refine AWP_cond2 rfl (fun h => ?_) (fun _ => ?_)
    · simp at h
    repeat first|((first|refine qa tOk rfl ?_|refine qb tOk rfl ?_|refine qc ?_|refine qd ?_|refine qe ?_);simp)|refine AWP_block ?_|refine AWP_seq ?_
    refine ALoop_end _ (ih hlt' trivial) rfl (by simp) ?_ (by simp) (by simp)
    simp
    exact wrap_i64 _ (by omega) (by omega)
  repeat first|((first|refine qa tOk rfl ?_|refine qb tOk rfl ?_|refine qc ?_|refine qd ?_|refine qe ?_);simp)|refine AWP_block ?_|refine AWP_seq ?_
  refine AWP_countI 0 (fun _ => True) (fun j => [(2, .vptr 0 0), (3, .vptr 1 0), (6, .i j)]) (fun _ => [.vars [.i n, .list (rs.map avRdr), .list []], .vars [.i n, .list (rs.map avRdr), .list []]]) rfl (by simp) (by simp) (by simp) (by simp) trivial ?_
  intro j hj hI ih
  repeat first|((first|refine qa tOk rfl ?_|refine qb tOk rfl ?_|refine qc ?_|refine qd ?_|refine qe ?_);simp)|refine AWP_block ?_|refine AWP_seq ?_
  refine AWP_cond2 rfl (fun hlt => ?_) (fun hge => ?_)
  · exfalso; simp at hlt; omega
  repeat first|((first|refine qa tOk rfl ?_|refine qb tOk rfl ?_|refine qc ?_|refine qd ?_|refine qe ?_);simp)|refine AWP_block ?_|refine AWP_seq ?_
def ckS (n : Int) : Snp := ⟨n, [⟨0, 3 * n, ⟨0, [], [], 0⟩⟩], []⟩
theorem pc_snapshot (n : Int) (h0 : -1000000000000 ≤ n) (h1 : n ≤ 1000000000000) : PC Tryz.prog 38 [.i n] (fun r => r = avSnp (ckS n)) := by
  refine PC_body tOk Tryz.func38 rfl Tryz.results38 rfl (by simp [Tryz.ntmps38]) ?_
  rw [Tryz.ntmps38]
  simp only [argSlots]
  have hw : IntKind.i64.wrap (3 * n) = 3 * n := wrap_i64 _ (by omega) (by omega)
  refine AWP_seq (AWP_regS tOk rfl ?_)
  simp
  refine AWP_seq ?_
  refine AWP_regS tOk rfl ?_
  simp [hw]
  refine AWP_freeze 1 rfl ?_
  simp
  refine AWP_nrmW 0 rfl (by simp) ?_
  simp
  repeat first|((first|refine qa tOk rfl ?_|refine qb tOk rfl ?_|refine qc ?_|refine qd ?_|refine qe ?_);simp)|refine AWP_block ?_|refine AWP_seq ?_
  simp [ckS]
end Go.Abs
/-
  DERIVED: THE SHELF's CONTRACTS AT THIS DUMP, IN PLAIN WORDS (tools/lay-plain.mjs out of 'TryzShelf.lean', which tools/lay-shelf.mjs wrote): THE SAME DECLARATIONS UNDER THE SAME NAMES: 'import', 'namespace', 'open', 'def', 'theorem' AND NOTHING ELSE: no command of the shelf's: FOR A HAND-IN. Each laying: the table of numbers ('.._ren') and one theorem, a field a fact of the dump's own or the kernel's comparison; each contract: ONE APPLICATION.
-/
namespace Go.Proofs
open Go.Shelf
def Tryz.laysM171_ren : Go.Shelf.Ren := ⟨fun | 171 => 57 | 243 => 100 | 246 => 140 | 283 => 188 | 284 => 189 | 285 => 190 | 286 => 191 | 129 => 164 | 317 => 223 | 318 => 224 | 319 => 225 | 320 => 226 | 337 => 245 | 338 => 246 | n => n, fun | 3 => 3 | 9 => 9 | 2 => 2 | 4 => 4 | 171 => 258 | 0 => 0 | 53 => 230 | 37 => 117 | 5 => 5 | 173 => 260 | 212 => 292 | 51 => 228 | 20 => 20 | 213 => 293 | 46 => 173 | 232 => 334 | 233 => 335 | n => n, fun | 17 => 0 | 18 => 5 | 19 => 6 | n => n⟩
theorem Tryz.laysM171 : Go.Proofs.LaysM.n171 Tryz.prog Tryz.laysM171_ren := {
  mixed := by kernel_rfl
  f129 := Tryz.func164.trans (congrArg some (by kernel_rfl))
  f171 := Tryz.func57.trans (congrArg some (by kernel_rfl))
  f243 := Tryz.func100.trans (congrArg some (by kernel_rfl))
  f246 := Tryz.func140.trans (congrArg some (by kernel_rfl))
  f283 := Tryz.func188.trans (congrArg some (by kernel_rfl))
  f284 := Tryz.func189.trans (congrArg some (by kernel_rfl))
  f285 := Tryz.func190.trans (congrArg some (by kernel_rfl))
  f286 := Tryz.func191.trans (congrArg some (by kernel_rfl))
  f317 := Tryz.func223.trans (congrArg some (by kernel_rfl))
  f318 := Tryz.func224.trans (congrArg some (by kernel_rfl))
  f319 := Tryz.func225.trans (congrArg some (by kernel_rfl))
  f320 := Tryz.func226.trans (congrArg some (by kernel_rfl))
  f337 := Tryz.func245.trans (congrArg some (by kernel_rfl))
  f338 := Tryz.func246.trans (congrArg some (by kernel_rfl))
  t0 := Tryz.underlying0
  a0 := Tryz.isAgg0
  z0 := Tryz.sizeOf0
  v0 := Tryz.zeroValue0
  t2 := Tryz.underlying2
  a2 := Tryz.isAgg2
  z2 := Tryz.sizeOf2
  v2 := Tryz.zeroValue2
  t3 := Tryz.underlying3
  a3 := Tryz.isAgg3
  z3 := Tryz.sizeOf3
  v3 := Tryz.zeroValue3
  t4 := Tryz.underlying4
  a4 := Tryz.isAgg4
  z4 := Tryz.sizeOf4
  v4 := Tryz.zeroValue4
  t5 := Tryz.underlying5
  a5 := Tryz.isAgg5
  z5 := Tryz.sizeOf5
  v5 := Tryz.zeroValue5
  t9 := Tryz.underlying9
  a9 := Tryz.isAgg9
  z9 := Tryz.sizeOf9
  v9 := Tryz.zeroValue9
  t20 := Tryz.underlying20
  a20 := Tryz.isAgg20
  z20 := Tryz.sizeOf20
  v20 := Tryz.zeroValue20
  t37 := Tryz.underlying117
  a37 := Tryz.isAgg117
  z37 := Tryz.sizeOf117
  v37 := Tryz.zeroValue117
  t46 := Tryz.underlying173
  a46 := Tryz.isAgg173
  z46 := Tryz.sizeOf173
  v46 := Tryz.zeroValue173
  t51 := Tryz.underlying228
  a51 := Tryz.isAgg228
  z51 := Tryz.sizeOf228
  v51 := Tryz.zeroValue228
  t53 := Tryz.underlying230
  a53 := Tryz.isAgg230
  z53 := Tryz.sizeOf230
  v53 := Tryz.zeroValue230
  t171 := Tryz.underlying258
  a171 := Tryz.isAgg258
  z171 := Tryz.sizeOf258
  v171 := Tryz.zeroValue258
  t173 := Tryz.underlying260
  a173 := Tryz.isAgg260
  z173 := Tryz.sizeOf260
  v173 := Tryz.zeroValue260
  t212 := Tryz.underlying292
  a212 := Tryz.isAgg292
  z212 := Tryz.sizeOf292
  v212 := Tryz.zeroValue292
  t213 := Tryz.underlying293
  a213 := Tryz.isAgg293
  z213 := Tryz.sizeOf293
  t232 := Tryz.underlying334
  a232 := Tryz.isAgg334
  z232 := Tryz.sizeOf334
  v232 := Tryz.zeroValue334
  t233 := Tryz.underlying335
  a233 := Tryz.isAgg335
  z233 := Tryz.sizeOf335
  v233 := Tryz.zeroValue335
  g17 := by kernel_rfl
  g18 := by kernel_rfl
  g19 := by kernel_rfl
  i0 := by kernel_rfl
  i2 := by kernel_rfl
  i3 := by kernel_rfl
  i4 := by kernel_rfl
  i5 := by kernel_rfl
  i9 := by kernel_rfl
  i20 := by kernel_rfl
  i37 := by kernel_rfl
  i46 := by kernel_rfl
  i51 := by kernel_rfl
  i53 := by kernel_rfl
  i171 := by kernel_rfl
  i173 := by kernel_rfl
  i212 := by kernel_rfl
  i232 := by kernel_rfl
  i233 := by kernel_rfl
  m17 := by kernel_rfl
  m18 := by kernel_rfl
  m19 := by kernel_rfl }
open Go.RowKit Go.Sort Go.Lib in
/-- strconv.Itoa: "Itoa is equivalent to FormatInt(int64(i), 10).": i's DECIMAL NUMERAL ('Lib.itoa': a '-' where i is negative, then the digits), FOR EVERY int. The world behind the call: the world before it, new blocks behind the heap (the library's 'var a [24]byte'), draws. (LAID: no walk: one application.) -/
theorem Tryz.strconv_Itoa (n : Int) (h0 : -9223372036854775808 ≤ n) (h1 : n ≤ 9223372036854775807) (w : World) (htab : Lib.TabIs Tryz.prog w "internal/strconv.uint64pow10" .u64 Lib.pow10Tab) :
    Calls Tryz.prog 57 #[.int .i64 n] w fun e w' => e = .returned (.string ⟨(Lib.itoa n).toArray⟩) ∧ ∃ k os, w' = grow (w.drewN k) os := Any.strconv_Itoa Tryz.laysM171 n h0 h1 w htab
def Tryz.laysC172_ren : Go.Shelf.Ren := ⟨fun | 172 => 102 | 244 => 142 | 245 => 143 | 247 => 193 | 279 => 194 | 280 => 195 | 281 => 196 | 282 => 197 | 287 => 227 | 316 => 228 | 171 => 57 | 205 => 229 | 321 => 247 | 322 => 248 | 243 => 100 | 246 => 140 | 283 => 188 | 284 => 189 | 285 => 190 | 286 => 191 | 129 => 164 | 317 => 223 | 318 => 224 | 319 => 225 | 320 => 226 | 337 => 245 | 338 => 246 | n => n, fun | 9 => 9 | 3 => 3 | 75 => 163 | 76 => 164 | 4 => 4 | 5 => 5 | 167 => 263 | 37 => 117 | 0 => 0 | 85 => 264 | 2 => 2 | 168 => 266 | 53 => 230 | 175 => 294 | 46 => 173 | 210 => 297 | 127 => 314 | 145 => 317 | 143 => 315 | 21 => 21 | 171 => 258 | 173 => 260 | 212 => 292 | 51 => 228 | 20 => 20 | 213 => 293 | 232 => 334 | 233 => 335 | 80 => 302 | n => n, fun | 15 => 1 | 16 => 2 | 17 => 0 | 18 => 5 | 19 => 6 | n => n⟩
theorem Tryz.laysC172 : Go.Proofs.LaysC.n172 Tryz.prog Tryz.laysC172_ren := {
  mixed := by kernel_rfl
  f129 := Tryz.func164.trans (congrArg some (by kernel_rfl))
  f171 := Tryz.func57.trans (congrArg some (by kernel_rfl))
  f172 := Tryz.func102.trans (congrArg some (by kernel_rfl))
  f205 := Tryz.func229.trans (congrArg some (by kernel_rfl))
  f243 := Tryz.func100.trans (congrArg some (by kernel_rfl))
  f244 := Tryz.func142.trans (congrArg some (by kernel_rfl))
  f245 := Tryz.func143.trans (congrArg some (by kernel_rfl))
  f246 := Tryz.func140.trans (congrArg some (by kernel_rfl))
  f247 := Tryz.func193.trans (congrArg some (by kernel_rfl))
  f279 := Tryz.func194.trans (congrArg some (by kernel_rfl))
  f280 := Tryz.func195.trans (congrArg some (by kernel_rfl))
  f281 := Tryz.func196.trans (congrArg some (by kernel_rfl))
  f282 := Tryz.func197.trans (congrArg some (by kernel_rfl))
  f283 := Tryz.func188.trans (congrArg some (by kernel_rfl))
  f284 := Tryz.func189.trans (congrArg some (by kernel_rfl))
  f285 := Tryz.func190.trans (congrArg some (by kernel_rfl))
  f286 := Tryz.func191.trans (congrArg some (by kernel_rfl))
  f287 := Tryz.func227.trans (congrArg some (by kernel_rfl))
  f316 := Tryz.func228.trans (congrArg some (by kernel_rfl))
  f317 := Tryz.func223.trans (congrArg some (by kernel_rfl))
  f318 := Tryz.func224.trans (congrArg some (by kernel_rfl))
  f319 := Tryz.func225.trans (congrArg some (by kernel_rfl))
  f320 := Tryz.func226.trans (congrArg some (by kernel_rfl))
  f321 := Tryz.func247.trans (congrArg some (by kernel_rfl))
  f322 := Tryz.func248.trans (congrArg some (by kernel_rfl))
  f337 := Tryz.func245.trans (congrArg some (by kernel_rfl))
  f338 := Tryz.func246.trans (congrArg some (by kernel_rfl))
  t0 := Tryz.underlying0
  a0 := Tryz.isAgg0
  z0 := Tryz.sizeOf0
  v0 := Tryz.zeroValue0
  t2 := Tryz.underlying2
  a2 := Tryz.isAgg2
  z2 := Tryz.sizeOf2
  v2 := Tryz.zeroValue2
  t3 := Tryz.underlying3
  a3 := Tryz.isAgg3
  z3 := Tryz.sizeOf3
  v3 := Tryz.zeroValue3
  t4 := Tryz.underlying4
  a4 := Tryz.isAgg4
  z4 := Tryz.sizeOf4
  v4 := Tryz.zeroValue4
  t5 := Tryz.underlying5
  a5 := Tryz.isAgg5
  z5 := Tryz.sizeOf5
  v5 := Tryz.zeroValue5
  t9 := Tryz.underlying9
  a9 := Tryz.isAgg9
  z9 := Tryz.sizeOf9
  v9 := Tryz.zeroValue9
  t20 := Tryz.underlying20
  a20 := Tryz.isAgg20
  z20 := Tryz.sizeOf20
  v20 := Tryz.zeroValue20
  t21 := Tryz.underlying21
  a21 := Tryz.isAgg21
  z21 := Tryz.sizeOf21
  v21 := Tryz.zeroValue21
  t37 := Tryz.underlying117
  a37 := Tryz.isAgg117
  z37 := Tryz.sizeOf117
  v37 := Tryz.zeroValue117
  t46 := Tryz.underlying173
  a46 := Tryz.isAgg173
  z46 := Tryz.sizeOf173
  v46 := Tryz.zeroValue173
  t51 := Tryz.underlying228
  a51 := Tryz.isAgg228
  z51 := Tryz.sizeOf228
  v51 := Tryz.zeroValue228
  t53 := Tryz.underlying230
  a53 := Tryz.isAgg230
  z53 := Tryz.sizeOf230
  v53 := Tryz.zeroValue230
  t75 := Tryz.underlying163
  a75 := Tryz.isAgg163
  z75 := Tryz.sizeOf163
  v75 := Tryz.zeroValue163
  t76 := Tryz.underlying164
  a76 := Tryz.isAgg164
  z76 := Tryz.sizeOf164
  v76 := Tryz.zeroValue164
  t85 := Tryz.underlying264
  a85 := Tryz.isAgg264
  z85 := Tryz.sizeOf264
  v85 := Tryz.zeroValue264
  t127 := Tryz.underlying314
  a127 := Tryz.isAgg314
  z127 := Tryz.sizeOf314
  v127 := Tryz.zeroValue314
  t143 := Tryz.underlying315
  a143 := Tryz.isAgg315
  z143 := Tryz.sizeOf315
  v143 := Tryz.zeroValue315
  t145 := Tryz.underlying317
  a145 := Tryz.isAgg317
  z145 := Tryz.sizeOf317
  v145 := Tryz.zeroValue317
  t167 := Tryz.underlying263
  a167 := Tryz.isAgg263
  z167 := Tryz.sizeOf263
  v167 := Tryz.zeroValue263
  t168 := Tryz.underlying266
  a168 := Tryz.isAgg266
  z168 := Tryz.sizeOf266
  v168 := Tryz.zeroValue266
  t171 := Tryz.underlying258
  a171 := Tryz.isAgg258
  z171 := Tryz.sizeOf258
  v171 := Tryz.zeroValue258
  t173 := Tryz.underlying260
  a173 := Tryz.isAgg260
  z173 := Tryz.sizeOf260
  v173 := Tryz.zeroValue260
  t175 := Tryz.underlying294
  a175 := Tryz.isAgg294
  z175 := Tryz.sizeOf294
  v175 := Tryz.zeroValue294
  t210 := Tryz.underlying297
  a210 := Tryz.isAgg297
  z210 := Tryz.sizeOf297
  v210 := Tryz.zeroValue297
  t212 := Tryz.underlying292
  a212 := Tryz.isAgg292
  z212 := Tryz.sizeOf292
  v212 := Tryz.zeroValue292
  t213 := Tryz.underlying293
  a213 := Tryz.isAgg293
  z213 := Tryz.sizeOf293
  t232 := Tryz.underlying334
  a232 := Tryz.isAgg334
  z232 := Tryz.sizeOf334
  v232 := Tryz.zeroValue334
  t233 := Tryz.underlying335
  a233 := Tryz.isAgg335
  z233 := Tryz.sizeOf335
  v233 := Tryz.zeroValue335
  g15 := by kernel_rfl
  g16 := by kernel_rfl
  g17 := by kernel_rfl
  g18 := by kernel_rfl
  g19 := by kernel_rfl
  t80 := Tryz.underlying302
  a80 := Tryz.isAgg302
  z80 := Tryz.sizeOf302
  v80 := Tryz.zeroValue302
  i0 := by kernel_rfl
  i2 := by kernel_rfl
  i3 := by kernel_rfl
  i4 := by kernel_rfl
  i5 := by kernel_rfl
  i9 := by kernel_rfl
  i20 := by kernel_rfl
  i21 := by kernel_rfl
  i37 := by kernel_rfl
  i46 := by kernel_rfl
  i51 := by kernel_rfl
  i53 := by kernel_rfl
  i75 := by kernel_rfl
  i76 := by kernel_rfl
  i80 := by kernel_rfl
  i85 := by kernel_rfl
  i127 := by kernel_rfl
  i143 := by kernel_rfl
  i145 := by kernel_rfl
  i167 := by kernel_rfl
  i168 := by kernel_rfl
  i171 := by kernel_rfl
  i173 := by kernel_rfl
  i175 := by kernel_rfl
  i210 := by kernel_rfl
  i212 := by kernel_rfl
  i232 := by kernel_rfl
  i233 := by kernel_rfl
  m15 := by kernel_rfl
  m16 := by kernel_rfl
  m17 := by kernel_rfl
  m18 := by kernel_rfl
  m19 := by kernel_rfl
  c0 := by kernel_rfl
  c2 := by kernel_rfl
  c3 := by kernel_rfl
  c4 := by kernel_rfl
  c5 := by kernel_rfl
  c9 := by kernel_rfl
  c20 := by kernel_rfl
  c21 := by kernel_rfl
  c37 := by kernel_rfl
  c46 := by kernel_rfl
  c51 := by kernel_rfl
  c53 := by kernel_rfl
  c75 := by kernel_rfl
  c76 := by kernel_rfl
  c80 := by kernel_rfl
  c85 := by kernel_rfl
  c127 := by kernel_rfl
  c143 := by kernel_rfl
  c145 := by kernel_rfl
  c167 := by kernel_rfl
  c168 := by kernel_rfl
  c171 := by kernel_rfl
  c173 := by kernel_rfl
  c175 := by kernel_rfl
  c210 := by kernel_rfl
  c212 := by kernel_rfl
  c213 := by kernel_rfl
  c232 := by kernel_rfl
  c233 := by kernel_rfl }
open Go.RowKit in
/-- strconv.Atoi, AT EVERY STRING THAT SPELLS AN int ('Lib.atoiAll .. = .ok v'; of whatever length: leading zeros count): v, AND NO ERROR. The world: as it was, or with the one new row that '[]byte(..)' lays. (LAID: no walk: one application.) -/
theorem Tryz.strconv_Atoi_ok (s : ByteArray) (hmax : s.size ≤ 9223372036854775806) (v : Int) (h : Lib.atoiAll s.data.toList = .ok v) (w : World) :
    Calls Tryz.prog 102 #[.string s] w fun e w' => e = .returned (.tuple #[.int .i64 v, .nilIface]) ∧ (w' = w ∨ ∃ t, w' = Lib.bytesWorld w 5 t) := Any.strconv_Atoi_ok Tryz.laysC172 s hmax v h w
open Go.RowKit in
/-- strconv.Atoi, AT EVERY STRING THAT IS NO DECIMAL NUMERAL ('.syntax'): 0, AND AN ERROR THAT IS NOT nil: a *NumError in a new block N: {Func: "Atoi", Num: s's bytes, Err: what the variable ErrSyntax holds}. Of what was there nothing has turned. (LAID: no walk: one application.) -/
theorem Tryz.strconv_Atoi_syntax (s : ByteArray) (hlim : s.size ≤ 281474976710656) (h : Lib.atoiAll s.data.toList = Lib.NumEnd.syntax) (ev : Value) (w : World) (hv : w.cell? ⟨1, 0, none⟩ = some ev) (hev : ev = .nilIface ∨ ∃ te pe, ev = .iface te pe) :
    Calls Tryz.prog 102 #[.string s] w fun e w' => ∃ N, e = .returned (.tuple #[.int .i64 (0), .iface 266 (.pointer (some ⟨N, 0, none⟩))]) ∧ w.heap.size ≤ N ∧ w'.heap[N]? = some (.cells #[.string ⟨#[65, 116, 111, 105]⟩, .string s, ev] 297 (0, 0)) ∧ Below w.heap.size w w' := Any.strconv_Atoi_syntax Tryz.laysC172 s hlim h ev w hv hev
open Go.RowKit in
/-- strconv.Atoi, AT EVERY NUMERAL THAT NO int HOLDS ('.range'): THE GREATEST OR THE LEAST int, BY THE SIGN ('Lib.atoiSat'), AND AN ERROR THAT IS NOT nil: a *NumError in a new block N: {Func: "Atoi", Num: s's bytes, Err: what the variable ErrRange holds}. Of what was there nothing has turned. (LAID: no walk: one application.) -/
theorem Tryz.strconv_Atoi_range (s : ByteArray) (hlim : s.size ≤ 281474976710656) (h : Lib.atoiAll s.data.toList = .range) (ev : Value) (w : World) (hv : w.cell? ⟨2, 0, none⟩ = some ev) (hev : ev = .nilIface ∨ ∃ te pe, ev = .iface te pe) :
    Calls Tryz.prog 102 #[.string s] w fun e w' => ∃ N, e = .returned (.tuple #[.int .i64 (Lib.atoiSat s.data.toList), .iface 266 (.pointer (some ⟨N, 0, none⟩))]) ∧ w.heap.size ≤ N ∧ w'.heap[N]? = some (.cells #[.string ⟨#[65, 116, 111, 105]⟩, .string s, ev] 297 (0, 0)) ∧ Below w.heap.size w w' := Any.strconv_Atoi_range Tryz.laysC172 s hlim h ev w hv hev
end Go.Proofs
set_option maxRecDepth 100000
namespace Go.Abs
open Go Go.Proofs
set_option linter.unusedSimpArgs false
theorem drop_take_one (s : List UInt8) (j : Nat) (h : j < s.length) : (s.take (j + 1)).drop j = [s[j]] := by
  rw [List.take_succ_eq_append_getElem h, List.drop_append, List.drop_eq_nil_of_le (by rw [List.length_take]; omega), List.length_take, Nat.min_eq_left (Nat.le_of_lt h), Nat.sub_self]
  rfl
def digS : List UInt8 := [48, 49, 50, 51, 52, 53, 54, 55, 56, 57]
theorem digS_cut (d : Nat) (h : d < 10) : (digS.take (d + 1)).drop d = [UInt8.ofNat (48 + d)] := by
  rw [drop_take_one digS d (by show d < 10; exact h)]
  have : ∀ d : Fin 10, digS[d.val]'(d.isLt) = UInt8.ofNat (48 + d.val) := by decide
  exact congrArg (fun x => [x]) (this ⟨d, h⟩)
theorem itoa_step (u : Nat) (h : ¬ u < 10) : Lib.decDigits u = Lib.decDigits (u / 10) ++ [UInt8.ofNat (48 + u % 10)] := by
  rw [Lib.decDigits, dif_neg h]
set_option maxHeartbeats 1000000 in
theorem pc_rDecimal (k : Nat) : ∀ n : Int, n.natAbs ≤ k → -9223372036854775808 ≤ n → n ≤ 9223372036854775807 → PC Tryz.prog 58 [.i n] (fun r => r = .str (Lib.itoa n)) := by
  induction k using Nat.strongRecOn with
  | ind k ih =>
  intro n hk h1 h2
  refine PC_body tOk Tryz.func58 rfl Tryz.results58 rfl (by simp [Tryz.ntmps58]) ?_
  rw [Tryz.ntmps58]
  simp only [argSlots]
  repeat first|((first|refine qa tOk rfl ?_|refine qb tOk rfl ?_|refine qc ?_|refine qd ?_|refine qe ?_);simp)|refine AWP_block ?_|refine AWP_seq ?_
  have cut : ∀ d : Nat, d < 10 → List.drop d (48 :: List.take d [49, 50, 51, 52, 53, 54, 55, 56, 57]) = [UInt8.ofNat (48 + d)] := fun d h => digS_cut d h
  refine AWP_cond2 rfl (fun h => ?_) (fun h => ?_)
  · have hn : n < 0 := by simpa using h
    obtain ⟨u, hu⟩ : ∃ u : Nat, u = n.natAbs := ⟨_, rfl⟩
    obtain ⟨d, hd⟩ : ∃ d, d = u % 10 := ⟨_, rfl⟩
    have e1 : n.tmod 10 = -(d : Int) := by rw [show n = -(u : Int) by omega, Int.neg_tmod, Int.tmod_eq_emod_of_nonneg (by omega)]; omega
    have e2 : IntKind.i64.wrap (d : Int) = d := wrap_i64 _ (by omega) (by omega)
    have e3 : IntKind.i64.wrap ((d : Int) + 1) = d + 1 := wrap_i64 _ (by omega) (by omega)
    have e4 : (d : Int) + 1 ≤ 10 := by omega
    have e5 : (0 : Int) ≤ (d : Int) + 1 := by omega
    obtain ⟨c, hc⟩ : ∃ c, UInt8.ofNat (48 + d) = c := ⟨_, rfl⟩
    have e6 := cut d (by omega)
    rw [hc] at e6
    have e7 : n.tdiv 10 = -((u / 10 : Nat) : Int) := by rw [show n = -(u : Int) by omega, Int.neg_tdiv, Int.tdiv_eq_ediv_of_nonneg (by omega)]; omega
    obtain ⟨q, hq⟩ : ∃ q, q = n.tdiv 10 := ⟨_, rfl⟩
    have e8 : IntKind.i64.wrap q = q := wrap_i64 _ (by omega) (by omega)
    have hi : Lib.itoa n = 45 :: Lib.decDigits u := by rw [Lib.itoa, if_pos hn, hu]
    repeat first|((first|refine qa tOk rfl ?_|refine qb tOk rfl ?_|refine qc ?_|refine qd ?_|refine qe ?_);simp [e1, e2, e3, e4, e5, e6])|refine AWP_block ?_|refine AWP_seq ?_
    refine AWP_cond2 rfl (fun h3 => ?_) (fun h3 => ?_)
    · have h3' : -10 < n := by simpa using h3
      repeat first|((first|refine qa tOk rfl ?_|refine qb tOk rfl ?_|refine qc ?_|refine qd ?_|refine qe ?_);simp)|refine AWP_block ?_|refine AWP_seq ?_
      rw [hi, Lib.decDigits, dif_pos (by omega), ← hc, show d = u by omega]
    · have h3' : n ≤ -10 := by simpa using h3
      have hi2 : Lib.itoa q = 45 :: Lib.decDigits (u / 10) := by rw [Lib.itoa, if_pos (by omega), show q.natAbs = u / 10 by omega]
      have hl := Lib.itoa_length_le q (by omega) (by omega)
      have hl2 : (Lib.itoa q).length + 1 ≤ 9223372036854775807 := by omega
      repeat first|((first|refine qa tOk rfl ?_|refine qb tOk rfl ?_|refine qc ?_|refine qd ?_|refine qe ?_);simp [← hq, e8])|refine AWP_block ?_|refine AWP_seq ?_
      refine AStep_PC rfl rfl (by simp) (ih q.natAbs (by omega) q (Nat.le_refl _) (by omega) (by omega)) rfl ?_
      rintro _ rfl
      simp [hl2]
      repeat first|((first|refine qa tOk rfl ?_|refine qb tOk rfl ?_|refine qc ?_|refine qd ?_|refine qe ?_);simp)|refine AWP_block ?_|refine AWP_seq ?_
      rw [hi, hi2, itoa_step u (by omega), ← hd, hc]
      rfl
  · have hn : 0 ≤ n := by simpa using h
    obtain ⟨u, rfl⟩ := Int.eq_ofNat_of_zero_le hn
    have hi : ∀ v : Nat, Lib.itoa (v : Int) = Lib.decDigits v := Lib.itoa_nonneg
    repeat first|((first|refine qa tOk rfl ?_|refine qb tOk rfl ?_|refine qc ?_|refine qd ?_|refine qe ?_);simp)|refine AWP_block ?_|refine AWP_seq ?_
    refine AWP_cond2 rfl (fun h3 => ?_) (fun h3 => ?_)
    · have h3' : u < 10 := by simp at h3; omega
      have e3 : IntKind.i64.wrap ((u : Int) + 1) = u + 1 := wrap_i64 _ (by omega) (by omega)
      have e4 : (u : Int) + 1 ≤ 10 := by omega
      have e5 : (0 : Int) ≤ (u : Int) + 1 := by omega
      obtain ⟨c, hc⟩ : ∃ c, UInt8.ofNat (48 + u) = c := ⟨_, rfl⟩
      have e6 := cut u h3'
      rw [hc] at e6
      repeat first|((first|refine qa tOk rfl ?_|refine qb tOk rfl ?_|refine qc ?_|refine qd ?_|refine qe ?_);simp [e3, e4, e5, e6])|refine AWP_block ?_|refine AWP_seq ?_
      rw [hi, Lib.decDigits, dif_pos h3', hc]
    · have h3' : 10 ≤ u := by simp at h3; omega
      obtain ⟨d, hd⟩ : ∃ d, d = u % 10 := ⟨_, rfl⟩
      obtain ⟨q, hq⟩ : ∃ q, q = u / 10 := ⟨_, rfl⟩
      have e1 : (u : Int).tmod 10 = d := by rw [Int.tmod_eq_emod_of_nonneg (by omega)]; omega
      have e1' : (u : Int) % 10 = d := by omega
      have e7 : (u : Int).tdiv 10 = q := by rw [Int.tdiv_eq_ediv_of_nonneg (by omega)]; omega
      have e7' : (u : Int) / 10 = q := by omega
      have e8 : IntKind.i64.wrap (q : Int) = q := wrap_i64 _ (by omega) (by omega)
      have e3 : IntKind.i64.wrap ((d : Int) + 1) = d + 1 := wrap_i64 _ (by omega) (by omega)
      have e4 : (d : Int) + 1 ≤ 10 := by omega
      have e5 : (0 : Int) ≤ (d : Int) + 1 := by omega
      obtain ⟨c, hc⟩ : ∃ c, UInt8.ofNat (48 + d) = c := ⟨_, rfl⟩
      have e6 := cut d (by omega)
      rw [hc] at e6
      have hl := Lib.itoa_length_le (q : Int) (by omega) (by omega)
      have hl2 : (Lib.itoa (q : Int)).length + 1 ≤ 9223372036854775807 := by omega
      repeat first|((first|refine qa tOk rfl ?_|refine qb tOk rfl ?_|refine qc ?_|refine qd ?_|refine qe ?_);simp)|refine AWP_block ?_|refine AWP_seq ?_
      refine AWP_drawT tOk mixed [] (.val 0 (.val 1 (.val 3 (.val 4 (.val 5 (.val 6 (.val 7 (.val 8 (.one 2 (.val 9 (.val 10 (.done)))))))))))) rfl (by kernel_rfl) ?_
      simp [e1, e1', e7, e7', e8, e3, e4, e5, e6]
      refine AStep_PC rfl rfl (by simp) (ih q (by omega) (q : Int) (by omega) (by omega) (by omega)) rfl ?_
      rintro _ rfl
      simp [hl2]
      repeat first|((first|refine qa tOk rfl ?_|refine qb tOk rfl ?_|refine qc ?_|refine qd ?_|refine qe ?_);simp)|refine AWP_block ?_|refine AWP_seq ?_
      rw [hi, hi, itoa_step u (by omega), ← hd, hc, ← hq]
end Go.Abs
set_option maxRecDepth 100000
namespace Go.Abs
open Go Go.Proofs
set_option linter.unusedSimpArgs false
attribute [simp] T163 T266
theorem callable_Itoa : Callable Tryz.prog 57 := callable Tryz.func57 rfl (by kernel_rfl)
theorem pc_Itoa (n : Int) (h0 : -9223372036854775808 ≤ n) (h1 : n ≤ 9223372036854775807) : PC Tryz.prog 57 [.i n] (fun r => r = .str (Lib.itoa n)) :=
  PC_ext (us := [.int .i64 n]) callable_Itoa rfl fun w I hE => (Tryz.strconv_Itoa n h0 h1 w (pow10_tab hE)).mono fun e w' ⟨h, k, os, hw⟩ => ⟨⟨_, _, rfl, h, .str _⟩, by rw [hw]; exact Lib.below_grow _ w (Nat.le_refl _) k os⟩
def atoiAV (s : List UInt8) : AV := match Lib.atoiAll s with
  | .ok v => .tup [.i v, .nili]
  | .range => .tup [.i (Lib.atoiSat s), .ifc]
  | _ => .tup [.i 0, .ifc]
theorem callable_Atoi : Callable Tryz.prog 102 := callable Tryz.func102 rfl (by kernel_rfl)
theorem pvr2 {w : World} {I : Nat → Prop} {a b : Value} {x y : AV} (h1 : PVR w I a x) (h2 : PVR w I b y) : PVR w I (.tuple #[a, b]) (.tup [x, y]) :=
  .tup _ _ rfl fun i v z hv hz => by
    match i with
    | 0 => simp at hv hz; subst hv hz; exact h1
    | 1 => simp at hv hz; subst hv hz; exact h2
    | i + 2 => simp at hv
theorem pc_Atoi (s : List UInt8) (hs : s.length ≤ 1000000000) : PC Tryz.prog 102 [.str s] (fun r => r = atoiAV s) :=
  PC_ext (us := [.string ⟨s.toArray⟩]) callable_Atoi rfl fun w I hE => by
    have hsz : (⟨s.toArray⟩ : ByteArray).size = s.length := by simp [ByteArray.size]
    obtain ⟨ev, hev, hev'⟩ := errSyntax_cell hE
    obtain ⟨er, her, her'⟩ := errRange_cell hE
    cases h : Lib.atoiAll s with
    | ok v =>
      refine (Tryz.strconv_Atoi_ok ⟨s.toArray⟩ (by omega) v h w).mono ?_
      rintro e w' ⟨rfl, hw⟩
      refine ⟨⟨_, _, rfl, rfl, ?_⟩, ?_⟩
      · rw [atoiAV, h]; exact pvr2 (.int _ _) .nili
      · rcases hw with rfl | ⟨t, rfl⟩
        · exact RowKit.Below.refl _ _
        · exact Lib.bytesWorld_below ..
    | range =>
      refine (Tryz.strconv_Atoi_range ⟨s.toArray⟩ (by omega) h er w her her').mono ?_
      rintro e w' ⟨N, rfl, _, _, hb⟩
      exact ⟨⟨_, _, rfl, rfl, by rw [atoiAV, h]; exact pvr2 (.int _ _) (.ifc _ _)⟩, hb⟩
    | _ =>
      refine (Tryz.strconv_Atoi_syntax ⟨s.toArray⟩ (by omega) h ev w hev hev').mono ?_
      rintro e w' ⟨N, rfl, _, _, hb⟩
      exact ⟨⟨_, _, rfl, rfl, by rw [atoiAV, h]; exact pvr2 (.int _ _) (.ifc _ _)⟩, hb⟩
end Go.Abs
set_option maxRecDepth 100000
namespace Go.Abs
open Go Go.Proofs
set_option linter.unusedSimpArgs false
theorem dg_toNat (d : Nat) (h : d < 10) : (UInt8.ofNat (48 + d)).toNat = 48 + d := by simp; omega
def isDg (c : UInt8) : Bool := decide (48 ≤ c.toNat) && decide (c.toNat ≤ 57)
theorem isDg_iff (c : UInt8) : isDg c = true ↔ 48 ≤ c.toNat ∧ c.toNat ≤ 57 := by simp [isDg]
theorem dec_all : ∀ (u : Nat), (Lib.decDigits u).all isDg = true := fun u => by
  induction u using Nat.strongRecOn with
  | ind u ih =>
    rw [Lib.decDigits]
    split
    · rename_i h; rw [List.all_cons, (isDg_iff _).2 (by rw [dg_toNat u h]; omega)]; rfl
    · rename_i h; rw [List.all_append, ih (u / 10) (by omega), List.all_cons, (isDg_iff _).2 (by rw [dg_toNat (u % 10) (by omega)]; omega)]; rfl
theorem dec_ne : ∀ (u : Nat), Lib.decDigits u ≠ [] := fun u => by
  rw [Lib.decDigits]
  split <;> simp
def capN (n : Nat) (c : UInt8) : Nat := min (10 * n + (c.toNat - 48)) 1099511627777
theorem cap_dec : ∀ (u : Nat), u ≤ 1099511627776 → (Lib.decDigits u).foldl capN 0 = u := fun u => by
  induction u using Nat.strongRecOn with
  | ind u ih =>
    intro hu
    rw [Lib.decDigits]
    split
    · rename_i h; rw [List.foldl_cons, List.foldl_nil, capN, dg_toNat u h]; omega
    · rename_i h; rw [List.foldl_append, ih (u / 10) (by omega) (by omega), List.foldl_cons, List.foldl_nil, capN, dg_toNat (u % 10) (by omega)]; omega
theorem parse_snoc : ∀ (l : List UInt8) (a m : Nat) (c : UInt8), Lib.parseUint10 a l = .ok m → isDg c = true → m ≤ 1099511627776 → Lib.parseUint10 a (l ++ [c]) = .ok (m * 10 + (c.toNat - 48))
  | [], a, m, c, h, hc, hm => by
    have hc' := (isDg_iff c).1 hc
    simp only [Lib.parseUint10] at h
    injection h with h
    subst h
    rw [List.nil_append, Lib.parseUint10, if_pos hc', if_neg (by omega), if_neg (by omega)]
    rfl
  | x :: l, a, m, c, h, hc, hm => by
    rw [List.cons_append]
    rw [Lib.parseUint10] at h ⊢
    split at h
    · rename_i h1
      rw [if_pos h1]
      split at h
      · cases h
      · rename_i h2
        rw [if_neg h2]
        split at h
        · cases h
        · rename_i h3
          rw [if_neg h3]
          exact parse_snoc l _ m c h hc hm
    · cases h
theorem parse_dec : ∀ (u : Nat), u ≤ 1099511627776 → Lib.parseUint10 0 (Lib.decDigits u) = .ok u := fun u => by
  induction u using Nat.strongRecOn with
  | ind u ih =>
    intro hu
    rw [Lib.decDigits]
    split
    · rename_i h; rw [Lib.parseUint10, if_pos (by rw [dg_toNat u h]; omega), if_neg (by omega), if_neg (by rw [dg_toNat u h]; omega), dg_toNat u h, Lib.parseUint10]; congr 1; omega
    · rename_i h
      rw [parse_snoc _ 0 (u / 10) _ (ih (u / 10) (by omega) (by omega)) ((isDg_iff _).2 (by rw [dg_toNat (u % 10) (by omega)]; omega)) (by omega), dg_toNat (u % 10) (by omega)]
      congr 1; omega
theorem atoi_dec (u : Nat) (hu : u ≤ 1099511627776) : Lib.atoiAll (Lib.decDigits u) = .ok (u : Int) := by
  have hne := dec_ne u
  have hall := dec_all u
  have hp := parse_dec u hu
  generalize Lib.decDigits u = l at *
  rcases l with _ | ⟨c, r⟩
  · exact absurd rfl hne
  · have hc := (isDg_iff c).1 (List.all_eq_true.1 hall c (by simp))
    rw [Lib.atoiAll]
    rw [if_neg (by omega), Lib.parseMag, if_neg hne, hp]
    show (if ¬ c.toNat = 45 ∧ 9223372036854775808 ≤ u then _ else if c.toNat = 45 ∧ 9223372036854775808 < u then _ else Lib.NumEnd.ok (if c.toNat = 45 then -(u : Int) else u)) = _
    rw [if_neg (by omega), if_neg (by omega), if_neg (by omega)]
/-- The number behind a beginning of a name. -/
def numbR (pre s : List UInt8) : Int × Bool :=
  if pre.isPrefixOf s = true ∧ 1 ≤ (s.drop pre.length).foldl capN 0 ∧ (s.drop pre.length).foldl capN 0 ≤ 1099511627776 ∧ Lib.itoa ((s.drop pre.length).foldl capN 0 : Nat) = s.drop pre.length then (((s.drop pre.length).foldl capN 0 : Nat), true) else (0, false)
theorem numb_of {pre t : List UInt8} {v : Int} (h1 : 1 ≤ v) (h2 : v ≤ 1099511627776) (ht : Lib.itoa v = t) : numbR pre (pre ++ t) = (v, true) := by
  obtain ⟨u, rfl⟩ := Int.eq_ofNat_of_zero_le (show (0 : Int) ≤ v by omega)
  have hd : t = Lib.decDigits u := by rw [← ht, Lib.itoa_nonneg]
  have hc := cap_dec u (by omega)
  rw [numbR]
  simp only [List.drop_left, hd, hc]
  rw [if_pos ⟨by rw [List.isPrefixOf_iff_prefix]; exact List.prefix_append _ _, by omega, by omega, Lib.itoa_nonneg u⟩]
theorem numb_inv {pre s : List UInt8} {v : Int} (h : numbR pre s = (v, true)) : 1 ≤ v ∧ v ≤ 1099511627776 ∧ s = pre ++ Lib.itoa v := by
  rw [numbR] at h
  split at h
  · rename_i hc
    obtain ⟨h1, h2, h3, h4⟩ := hc
    injection h with h _
    subst h
    refine ⟨by omega, by omega, ?_⟩
    rw [h4]
    rw [List.isPrefixOf_iff_prefix] at h1
    obtain ⟨t, rfl⟩ := h1
    simp
  · injection h with _ h; cases h
theorem numb_false {pre s : List UInt8} (h : ∀ v, 1 ≤ v → v ≤ 1099511627776 → s ≠ pre ++ Lib.itoa v) : numbR pre s = (0, false) := by
  rw [numbR, if_neg]
  rintro ⟨h1, h2, h3, h4⟩
  refine h ((s.drop pre.length).foldl capN 0 : Nat) (by omega) (by omega) ?_
  rw [h4]
  rw [List.isPrefixOf_iff_prefix] at h1
  obtain ⟨t, rfl⟩ := h1
  simp
def validN (n : Int) : Int := if n < 1 ∨ 1099511627776 < n then 2 else 0
def preC : List UInt8 := [99, 104, 101, 99, 107, 112, 111, 105, 110, 116, 45]
def preW : List UInt8 := [119, 114, 105, 116, 105, 110, 103, 45]
def nameC (n : Int) : List UInt8 := preC ++ Lib.itoa n
def nameW (n : Int) : List UInt8 := preW ++ Lib.itoa n
def nameR (n : Int) : List UInt8 × Int := if validN n ≠ 0 then ([], validN n) else (nameC n, 0)
end Go.Abs
set_option maxRecDepth 100000
namespace Go.Abs
open Go Go.Proofs
attribute [simp] T66 T22 T24 T28 T27
structure File where
  name : List UInt8
  dur : List UInt8
  vol : List UInt8
deriving Inhabited, DecidableEq
structure Disk where
  files : List File
  space : Int
deriving Inhabited, DecidableEq
@[simp] def encFl (f : File) : AV := .agg [.str f.name, .str f.dur, .str f.vol]
@[simp] def encD (d : Disk) : AV := .agg [.list (d.files.map encFl), .int .i64 d.space]
def sumV (fs : List File) : Nat := (fs.map (·.vol.length)).sum
def sumD (fs : List File) : Nat := (fs.map (·.dur.length)).sum
theorem wrap_wrap_add (a b : Int) : IntKind.i64.wrap (IntKind.i64.wrap a + b) = IntKind.i64.wrap (a + b) := by
  rw [IntKind.wrap_i64, IntKind.wrap_i64, IntKind.wrap_i64]; omega
theorem wrap_zero : IntKind.i64.wrap 0 = 0 := by rw [IntKind.wrap_i64]; omega
theorem take_succ_sum (fs : List File) (g : File → Nat) (j : Nat) (h : j < fs.length) : ((fs.take (j + 1)).map g).sum = ((fs.take j).map g).sum + g fs[j] := by
  rw [List.take_succ_eq_append_getElem h, List.map_append, List.sum_append]; simp only [List.map_cons, List.map_nil, List.sum_cons, List.sum_nil, Nat.add_zero]
theorem sumV_succ (fs : List File) (j : Nat) (h : j < fs.length) : sumV (fs.take (j + 1)) = sumV (fs.take j) + fs[j].vol.length := take_succ_sum fs _ j h
theorem sumD_succ (fs : List File) (j : Nat) (h : j < fs.length) : sumD (fs.take (j + 1)) = sumD (fs.take j) + fs[j].dur.length := take_succ_sum fs _ j h

set_option maxHeartbeats 400000 in
theorem dpc46 (fs : List File) : PC Tryz.prog 66 [.list (fs.map encFl)] (fun r => r = .tup [.i (W (sumV fs)), .i (W (sumD fs))]) := by
  refine PC_body tOk Tryz.func66 rfl Tryz.results66 rfl (by simp [Tryz.ntmps66]) ?_
  rw [Tryz.ntmps66]
  simp only [argSlots]
  refine AWP_len 0 rfl (fun hlen => ?_)
  rw [List.length_map] at hlen
  repeat first|((first|refine qa tOk rfl ?_|refine qb tOk rfl ?_|refine qc ?_|refine qd ?_|refine qe ?_);simp)|refine AWP_block ?_|refine AWP_seq ?_
  refine AWP_count fs.length (fun j => [(0, .list (fs.map encFl)), (4, .i (W (sumV (fs.take j)))), (5, .i (W (sumD (fs.take j)))), (8, .list (fs.map encFl)), (9, .i fs.length), (10, .i j)]) (fun _ => []) rfl (by simp) (by simp [sumV, sumD, wrap_zero]) (by simp) (by simp) ?_
  intro j hj ih
  repeat first|((first|refine qa tOk rfl ?_|refine qb tOk rfl ?_|refine qc ?_|refine qd ?_|refine qe ?_);simp)|refine AWP_block ?_|refine AWP_seq ?_
  refine AWP_cond2 rfl (fun hlt => ?_) (fun hge => ?_)
  · have hlt' : j < fs.length := by simpa using hlt
    repeat first|((first|refine qa tOk rfl ?_|refine qb tOk rfl ?_|refine qc ?_|refine qd ?_|refine qe ?_);simp [hlt'])|refine AWP_block ?_|refine AWP_seq ?_
    refine ALoop_end _ (ih hlt') rfl (by simp) ?_ (by simp) (by simp)
    simp [wrap_wrap_add, sumV_succ fs j hlt', sumD_succ fs j hlt']
    exact wrap_i64 _ (by omega) (by omega)
  · have hge' : j = fs.length := by simp at hge; omega
    subst hge'
    repeat first|((first|refine qa tOk rfl ?_|refine qb tOk rfl ?_|refine qc ?_|refine qd ?_|refine qe ?_);simp)|refine AWP_block ?_|refine AWP_seq ?_

set_option maxHeartbeats 400000 in
theorem dpc35 (fs : List File) : PC Tryz.prog 37 [.list (fs.map encFl)] (fun r => r = .tup [.i (W (sumV fs)), .i (W (sumD fs))]) := by
  refine PC_body tOk Tryz.func37 rfl Tryz.results37 rfl (by simp [Tryz.ntmps37]) ?_
  rw [Tryz.ntmps37]
  simp only [argSlots]
  refine AWP_len 0 rfl (fun hlen => ?_)
  rw [List.length_map] at hlen
  repeat first|((first|refine qa tOk rfl ?_|refine qb tOk rfl ?_|refine qc ?_|refine qd ?_|refine qe ?_);simp)|refine AWP_block ?_|refine AWP_seq ?_
  refine AWP_count fs.length (fun j => [(0, .list (fs.map encFl)), (4, .i (W (sumV (fs.take j)))), (5, .i (W (sumD (fs.take j)))), (6, .i j)]) (fun _ => []) rfl (by simp) (by simp [sumV, sumD, wrap_zero]) (by simp) (by simp) ?_
  intro j hj ih
  repeat first|((first|refine qa tOk rfl ?_|refine qb tOk rfl ?_|refine qc ?_|refine qd ?_|refine qe ?_);simp)|refine AWP_block ?_|refine AWP_seq ?_
  refine AWP_cond2 rfl (fun hlt => ?_) (fun hge => ?_)
  · have hlt' : j < fs.length := by simpa using hlt
    repeat first|((first|refine qa tOk rfl ?_|refine qb tOk rfl ?_|refine qc ?_|refine qd ?_|refine qe ?_);simp)|refine AWP_block ?_|refine AWP_seq ?_
    refine AWP_draw tOk mixed [] [0, 1, 2, 3, 4, 5, 6, 7, 8, 9, 10, 11, 12, 13, 14, 15, 16, 17] rfl (by kernel_rfl) ?_
    simp [hlt']
    repeat first|((first|refine qa tOk rfl ?_|refine qb tOk rfl ?_|refine qc ?_|refine qd ?_|refine qe ?_);simp)|refine AWP_block ?_|refine AWP_seq ?_
    refine ALoop_end _ (ih hlt') rfl (by simp) ?_ (by simp) (by simp)
    simp [wrap_wrap_add, sumV_succ fs j hlt', sumD_succ fs j hlt']
    exact wrap_i64 _ (by omega) (by omega)
  · have hge' : j = fs.length := by simp at hge; omega
    subst hge'
    repeat first|((first|refine qa tOk rfl ?_|refine qb tOk rfl ?_|refine qc ?_|refine qd ?_|refine qe ?_);simp)|refine AWP_block ?_|refine AWP_seq ?_
end Go.Abs
set_option maxRecDepth 100000
namespace Go.Abs
open Go Go.Proofs
def allowedN (n : Int) : Bool := decide (97 ≤ n) && decide (n ≤ 122) || decide (65 ≤ n) && decide (n ≤ 90) || decide (48 ≤ n) && decide (n ≤ 57) || n == 95 || n == 46 || n == 45

set_option maxHeartbeats 400000 in
theorem dpc65 (n : Int) : PC Tryz.prog 111 [.int .u8 n] (fun r => r = .bool (allowedN n)) := by
  refine PC_body tOk Tryz.func111 rfl Tryz.results111 rfl (by simp [Tryz.ntmps111]) ?_
  rw [Tryz.ntmps111]
  simp only [argSlots]
  repeat first|((first|refine qa tOk rfl ?_|refine qb tOk rfl ?_|refine qc ?_|refine qd ?_|refine qe ?_);simp)|refine AWP_block ?_|refine AWP_seq ?_
  rfl

def nameOk (s : List UInt8) : Bool := s.all (fun c => allowedN c.toNat) && (decide (1 ≤ (s.length : Int)) && decide ((s.length : Int) ≤ 48))
theorem all_take_succ {α : Type} (s : List α) (p : α → Bool) (j : Nat) (h : j < s.length) : (s.take (j + 1)).all p = ((s.take j).all p && p s[j]) := by
  rw [List.take_succ_eq_append_getElem h]; simp only [List.all_append, List.all_cons, List.all_nil, Bool.and_true]
theorem all_false_of {α : Type} (s : List α) (p : α → Bool) (j : Nat) (h : j < s.length) (hp : p s[j] = false) : s.all p = false := by
  rw [List.all_eq_false]; exact ⟨s[j], List.getElem_mem h, by simp [hp]⟩

set_option maxHeartbeats 400000 in
theorem dpc54 (s : List UInt8) (hlen : s.length ≤ 9223372036854775807) : PC Tryz.prog 74 [.str s] (fun r => r = .bool (nameOk s)) := by
  refine PC_body tOk Tryz.func74 rfl Tryz.results74 rfl (by simp [Tryz.ntmps74]) ?_
  rw [Tryz.ntmps74]
  simp only [argSlots]
  repeat first|((first|refine qa tOk rfl ?_|refine qb tOk rfl ?_|refine qc ?_|refine qd ?_|refine qe ?_);simp)|refine AWP_block ?_|refine AWP_seq ?_
  refine AWP_countI s.length (fun j => (s.take j).all (fun c => allowedN c.toNat) = true) (fun j => [(0, .str s), (3, .i j)]) (fun _ => []) rfl (by simp) (by simp) (by simp) (by simp) (by simp) ?_
  intro j hj hI ih
  repeat first|((first|refine qa tOk rfl ?_|refine qb tOk rfl ?_|refine qc ?_|refine qd ?_|refine qe ?_);simp)|refine AWP_block ?_|refine AWP_seq ?_
  refine AWP_cond2 rfl (fun hlt => ?_) (fun hge => ?_)
  · have hlt' : j < s.length := by simpa using hlt
    repeat first|((first|refine qa tOk rfl ?_|refine qb tOk rfl ?_|refine qc ?_|refine qd ?_|refine qe ?_);simp [hlt'])|refine AWP_block ?_|refine AWP_seq ?_
    refine AStep_PC rfl rfl (by simp) (dpc65 _) rfl ?_
    rintro _ rfl
    simp
    refine AWP_cond2 rfl (fun hno => ?_) (fun hok => ?_)
    · repeat first|((first|refine qa tOk rfl ?_|refine qb tOk rfl ?_|refine qc ?_|refine qd ?_|refine qe ?_);simp)|refine AWP_block ?_|refine AWP_seq ?_
      have := all_false_of s (fun c => allowedN c.toNat) j hlt' (by simpa using hno)
      simp [nameOk, this]
    · repeat first|((first|refine qa tOk rfl ?_|refine qb tOk rfl ?_|refine qc ?_|refine qd ?_|refine qe ?_);simp)|refine AWP_block ?_|refine AWP_seq ?_
      refine ALoop_end _ (ih hlt' ?_) rfl (by simp) ?_ (by simp) (by simp)
      · rw [all_take_succ s _ j hlt', hI]; simpa using hok
      · simp
        exact wrap_i64 _ (by omega) (by omega)
  · have hge' : j = s.length := by simp at hge; omega
    subst hge'
    repeat first|((first|refine qa tOk rfl ?_|refine qb tOk rfl ?_|refine qc ?_|refine qd ?_|refine qe ?_);simp)|refine AWP_block ?_|refine AWP_seq ?_
    rw [List.take_length] at hI
    simp only [nameOk, hI, Bool.true_and]
end Go.Abs
set_option maxRecDepth 100000
namespace Go.Abs
open Go Go.Proofs
def few (d : Disk) : Bool := decide ((d.files.length : Int) ≤ 300) && decide (W (sumV d.files) ≤ 2000) && decide (W (sumD d.files) ≤ 2000)

set_option maxHeartbeats 400000 in
theorem dpc11 (d : Disk) : PC Tryz.prog 10 [encD d] (fun r => r = .bool (few d)) := by
  refine PC_body tOk Tryz.func10 rfl Tryz.results10 rfl (by simp [Tryz.ntmps10]) ?_
  rw [Tryz.ntmps10]
  simp only [argSlots]
  simp only [encD]
  repeat first|((first|refine qa tOk rfl ?_|refine qb tOk rfl ?_|refine qc ?_|refine qd ?_|refine qe ?_);simp)|refine AWP_block ?_|refine AWP_seq ?_
  refine AStep_PC rfl rfl (by simp) (dpc35 _) rfl ?_
  rintro _ rfl
  simp
  repeat first|((first|refine qa tOk rfl ?_|refine qb tOk rfl ?_|refine qc ?_|refine qd ?_|refine qe ?_);simp)|refine AWP_block ?_|refine AWP_seq ?_
  rfl

def NB (fs : List File) : Prop := ∀ f ∈ fs, f.name.length ≤ 9223372036854775807
theorem NB.get {fs : List File} (h : NB fs) (j : Nat) (hj : j < fs.length) : fs[j].name.length ≤ 9223372036854775807 := h _ (List.getElem_mem hj)
def strLe (a b : List UInt8) : Bool := Op.bytesLess a b || a == b
def badPrev (p : Option (List UInt8)) (n : List UInt8) : Bool := match p with
  | none => false
  | some q => strLe n q
def chkL : Option (List UInt8) → List File → Int
  | _, [] => 0
  | p, f :: r => if nameOk f.name = false then 8 else if badPrev p f.name = true then 14 else chkL (some f.name) r
def prevN (fs : List File) : Nat → Option (List UInt8)
  | 0 => none
  | j + 1 => fs[j]?.map (·.name)
theorem drop_getF {fs : List File} {j : Nat} (h : j < fs.length) : fs.drop j = fs[j] :: fs.drop (j + 1) := List.drop_eq_getElem_cons h
theorem prevN_succ {fs : List File} {j : Nat} (h : j < fs.length) : prevN fs (j + 1) = some fs[j].name := by simp [prevN, h]
def overB (d : Disk) : Bool := decide (d.space < W (sumV d.files)) || decide (d.space < W (sumD d.files))
def badSp (n : Int) : Bool := decide (n < 0) || decide (65536 < n)
def checkD (d : Disk) : Int := if badSp d.space = true then 2 else if (256 : Int) < d.files.length then 5 else
  if chkL none d.files = 0 then (if overB d = true then 27 else 0) else chkL none d.files

set_option maxHeartbeats 1000000 in
theorem dpc26 (d : Disk) (hnb : NB d.files) : PC Tryz.prog 40 [encD d] (fun r => r = .i (checkD d)) := by
  refine PC_body tOk Tryz.func40 rfl Tryz.results40 rfl (by simp [Tryz.ntmps40]) ?_
  rw [Tryz.ntmps40]
  simp only [argSlots]
  simp only [encD]
  refine AWP_lenAgg 0 0 rfl rfl (fun hlen => ?_)
  rw [List.length_map] at hlen
  repeat first|((first|refine qa tOk rfl ?_|refine qb tOk rfl ?_|refine qc ?_|refine qd ?_|refine qe ?_);simp)|refine AWP_block ?_|refine AWP_seq ?_
  refine AWP_cond2 rfl (fun h => ?_) (fun h1 => ?_)
  · repeat first|((first|refine qa tOk rfl ?_|refine qb tOk rfl ?_|refine qc ?_|refine qd ?_|refine qe ?_);simp)|refine AWP_block ?_|refine AWP_seq ?_
    simp [checkD, badSp, h]
  repeat first|((first|refine qa tOk rfl ?_|refine qb tOk rfl ?_|refine qc ?_|refine qd ?_|refine qe ?_);simp)|refine AWP_block ?_|refine AWP_seq ?_
  refine AWP_cond2 rfl (fun h => ?_) (fun h2 => ?_)
  · repeat first|((first|refine qa tOk rfl ?_|refine qb tOk rfl ?_|refine qc ?_|refine qd ?_|refine qe ?_);simp)|refine AWP_block ?_|refine AWP_seq ?_
    simp only [checkD, badSp, h1]
    simp at h
    simp [h]
  repeat first|((first|refine qa tOk rfl ?_|refine qb tOk rfl ?_|refine qc ?_|refine qd ?_|refine qe ?_);simp)|refine AWP_block ?_|refine AWP_seq ?_
  refine AWP_countI d.files.length (fun j => chkL none d.files = chkL (prevN d.files j) (d.files.drop j)) (fun j => [(1, .vptr 0 0), (3, .i j)]) (fun _ => [.vars [.list (d.files.map encFl), .i d.space]]) rfl (by simp) (by simp) (by simp) (by simp) (by simp [prevN]) ?_
  intro j hj hI ih
  repeat first|((first|refine qa tOk rfl ?_|refine qb tOk rfl ?_|refine qc ?_|refine qd ?_|refine qe ?_);simp)|refine AWP_block ?_|refine AWP_seq ?_
  refine AWP_cond2 rfl (fun hlt => ?_) (fun hge => ?_)
  · have hlt' : j < d.files.length := by simpa using hlt
    have hjb := hnb.get j hlt'
    rw [drop_getF hlt', chkL] at hI
    repeat first|((first|refine qa tOk rfl ?_|refine qb tOk rfl ?_|refine qc ?_|refine qd ?_|refine qe ?_);simp [hlt'])|refine AWP_block ?_|refine AWP_seq ?_
    refine AStep_PC rfl rfl (by simp) (dpc54 _ (by simpa using hjb)) rfl ?_
    rintro _ rfl
    simp [hlt']
    refine AWP_cond2 rfl (fun hno => ?_) (fun hok => ?_)
    · repeat first|((first|refine qa tOk rfl ?_|refine qb tOk rfl ?_|refine qc ?_|refine qd ?_|refine qe ?_);simp)|refine AWP_block ?_|refine AWP_seq ?_
      simp at hno
      rw [if_pos hno] at hI
      simp at h2
      rw [checkD, if_neg (by simp [badSp, h1]), if_neg (by omega), hI]
      simp
    · simp at hok
      rw [if_neg (by simp [hok])] at hI
      have hbp : ∀ b, badPrev (prevN d.files j) d.files[j].name = b → b = true → (8 : Int) + 6 = checkD d := fun b e1 e2 => by
        rw [e1, if_pos e2] at hI
        simp at h2
        rw [checkD, if_neg (by simp [badSp, h1]), if_neg (by omega), hI]
        simp
      have hbn : badPrev (prevN d.files j) d.files[j].name = false → chkL none d.files = chkL (prevN d.files (j + 1)) (d.files.drop (j + 1)) := fun e => by
        rw [e, if_neg (by simp)] at hI
        rw [prevN_succ hlt', hI]
      rcases j with _ | j
      · repeat first|((first|refine qa tOk rfl ?_|refine qb tOk rfl ?_|refine qc ?_|refine qd ?_|refine qe ?_);simp)|refine AWP_block ?_|refine AWP_seq ?_
        refine AWP_draw tOk mixed [] [0, 1, 2, 3, 4, 5, 6, 7, 8, 9, 10, 11, 12, 13, 14, 15, 16, 17] rfl (by kernel_rfl) ?_
        simp [hlt']
        refine AWP_cond rfl ?_
        repeat first|((first|refine qa tOk rfl ?_|refine qb tOk rfl ?_|refine qc ?_|refine qd ?_|refine qe ?_);simp)|refine AWP_block ?_|refine AWP_seq ?_
        refine ALoop_end _ (ih hlt' (hbn rfl)) rfl (by simp) ?_ (by simp) (by simp)
        simp
        exact wrap_i64 _ (by omega) (by omega)
      · have hj1 : j < d.files.length := by omega
        have hw : IntKind.i64.wrap (j : Int) = j := wrap_i64 _ (by omega) (by omega)
        have g1 : (0 : Int) ≤ (j : Int) + 1 := by omega
        have g2 : (j : Int) + 1 < d.files.length := by omega
        repeat first|((first|refine qa tOk rfl ?_|refine qb tOk rfl ?_|refine qc ?_|refine qd ?_|refine qe ?_);simp)|refine AWP_block ?_|refine AWP_seq ?_
        refine AWP_draw tOk mixed [] [0, 1, 2, 3, 4, 5, 6, 7, 8, 9, 10, 11, 12, 13, 14, 15, 16, 17] rfl (by kernel_rfl) ?_
        simp [hlt', hj1, hw, g1, g2]
        refine AWP_cond2 rfl (fun hb => ?_) (fun hb => ?_)
        · repeat first|((first|refine qa tOk rfl ?_|refine qb tOk rfl ?_|refine qc ?_|refine qd ?_|refine qe ?_);simp)|refine AWP_block ?_|refine AWP_seq ?_
          exact hbp _ rfl (by rw [prevN_succ hj1]; exact hb)
        · repeat first|((first|refine qa tOk rfl ?_|refine qb tOk rfl ?_|refine qc ?_|refine qd ?_|refine qe ?_);simp)|refine AWP_block ?_|refine AWP_seq ?_
          refine ALoop_end _ (ih hlt' (hbn (by rw [prevN_succ hj1]; exact hb))) rfl (by simp) ?_ (by simp) (by simp)
          simp
          exact wrap_i64 _ (by omega) (by omega)
  · have hge' : j = d.files.length := by simp at hge; omega
    subst hge'
    repeat first|((first|refine qa tOk rfl ?_|refine qb tOk rfl ?_|refine qc ?_|refine qd ?_|refine qe ?_);simp)|refine AWP_block ?_|refine AWP_seq ?_
    refine AStep_PC rfl rfl (by simp) (dpc35 _) rfl ?_
    rintro _ rfl
    simp
    repeat first|((first|refine qa tOk rfl ?_|refine qb tOk rfl ?_|refine qc ?_|refine qd ?_|refine qe ?_);simp)|refine AWP_block ?_|refine AWP_seq ?_
    rw [List.drop_length, chkL] at hI
    simp at h2
    rw [checkD, if_neg (by simp [badSp, h1]), if_neg (by omega), if_pos hI]
    refine AWP_cond2 rfl (fun hb => ?_) (fun hb => ?_)
    · repeat first|((first|refine qa tOk rfl ?_|refine qb tOk rfl ?_|refine qc ?_|refine qd ?_|refine qe ?_);simp)|refine AWP_block ?_|refine AWP_seq ?_
      rw [overB, hb]
    · repeat first|((first|refine qa tOk rfl ?_|refine qb tOk rfl ?_|refine qc ?_|refine qd ?_|refine qe ?_);simp)|refine AWP_block ?_|refine AWP_seq ?_
      rw [overB, hb]
end Go.Abs
