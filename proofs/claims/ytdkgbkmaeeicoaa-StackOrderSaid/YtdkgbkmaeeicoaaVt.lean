/- What the types of this program are. -/
import Derived.Test.YtdkgbkmaeeicoaaVB
import Derived.Test.YtdkgbkmaeeicoaaProg
import Derived.ProofKit
set_option linter.unusedVariables false
namespace Go.Proofs.Ytdkgbkmaeeicoaa.V
open Go
instance ti2 : TI Try.prog 2 (.int .i64) 1 8 (.int .i64 0) := .mk' (by kernel_rfl) (by kernel_rfl)
instance ti3 : TI Try.prog 3 (.int .i64) 1 8 (.int .i64 0) := .mk' (by kernel_rfl) (by kernel_rfl)
instance ti4 : TI Try.prog 4 (.bool) 1 1 (.bool false) := .mk' (by kernel_rfl) (by kernel_rfl)
instance ti5 : TI Try.prog 5 (.int .u8) 1 1 (.int .u8 0) := .mk' (by kernel_rfl) (by kernel_rfl)
instance ti6 : TI Try.prog 6 (.int .u8) 1 1 (.int .u8 0) := .mk' (by kernel_rfl) (by kernel_rfl)
instance ti7 : TI Try.prog 7 (.struct #[{ name := "x", type := 2, offset := 0, embedded := false, tag := "", pkgPath := "runtime", byteOffset := 0 }, { name := "y", type := 3, offset := 1, embedded := false, tag := "", pkgPath := "runtime", byteOffset := 8 }, { name := "signed", type := 4, offset := 2, embedded := false, tag := "", pkgPath := "runtime", byteOffset := 16 }, { name := "code", type := 6, offset := 3, embedded := false, tag := "", pkgPath := "runtime", byteOffset := 17 }]) 4 24 (.agg #[(.int .i64 0), (.int .i64 0), (.bool false), (.int .u8 0)]) := .mk' (by kernel_rfl) (by kernel_rfl)
instance ti8 : TI Try.prog 8 (.struct #[{ name := "x", type := 2, offset := 0, embedded := false, tag := "", pkgPath := "runtime", byteOffset := 0 }, { name := "y", type := 3, offset := 1, embedded := false, tag := "", pkgPath := "runtime", byteOffset := 8 }, { name := "signed", type := 4, offset := 2, embedded := false, tag := "", pkgPath := "runtime", byteOffset := 16 }, { name := "code", type := 6, offset := 3, embedded := false, tag := "", pkgPath := "runtime", byteOffset := 17 }]) 4 24 (.agg #[(.int .i64 0), (.int .i64 0), (.bool false), (.int .u8 0)]) := .mk' (by kernel_rfl) (by kernel_rfl)
instance ti9 : TI Try.prog 9 (.string) 1 16 (.string ⟨#[]⟩) := .mk' (by kernel_rfl) (by kernel_rfl)
instance ti10 : TI Try.prog 10 (.string) 1 16 (.string ⟨#[]⟩) := .mk' (by kernel_rfl) (by kernel_rfl)
instance ti11 : TI Try.prog 11 (.string) 1 16 (.string ⟨#[]⟩) := .mk' (by kernel_rfl) (by kernel_rfl)
instance ti12 : TI Try.prog 12 (.int .u64) 1 8 (.int .u64 0) := .mk' (by kernel_rfl) (by kernel_rfl)
instance ti13 : TI Try.prog 13 (.struct #[{ name := "msg", type := 9, offset := 0, embedded := false, tag := "", pkgPath := "runtime", byteOffset := 0 }, { name := "addr", type := 12, offset := 1, embedded := false, tag := "", pkgPath := "runtime", byteOffset := 16 }]) 2 24 (.agg #[(.string ⟨#[]⟩), (.int .u64 0)]) := .mk' (by kernel_rfl) (by kernel_rfl)
instance ti14 : TI Try.prog 14 (.struct #[{ name := "msg", type := 9, offset := 0, embedded := false, tag := "", pkgPath := "runtime", byteOffset := 0 }, { name := "addr", type := 12, offset := 1, embedded := false, tag := "", pkgPath := "runtime", byteOffset := 16 }]) 2 24 (.agg #[(.string ⟨#[]⟩), (.int .u64 0)]) := .mk' (by kernel_rfl) (by kernel_rfl)
instance ti15 : TI Try.prog 15 (.pointer 81) 1 8 (.pointer none) := .mk' (by kernel_rfl) (by kernel_rfl)
instance ti16 : TI Try.prog 16 (.pointer 84) 1 8 (.pointer none) := .mk' (by kernel_rfl) (by kernel_rfl)
instance ti17 : TI Try.prog 17 (.pointer 94) 1 8 (.pointer none) := .mk' (by kernel_rfl) (by kernel_rfl)
instance ti18 : TI Try.prog 18 (.struct #[{ name := "typ", type := 17, offset := 0, embedded := false, tag := "", pkgPath := "internal/runtime/maps", byteOffset := 0 }]) 1 8 (.agg #[(.pointer none)]) := .mk' (by kernel_rfl) (by kernel_rfl)
instance ti19 : TI Try.prog 19 (.struct #[{ name := "typ", type := 17, offset := 0, embedded := false, tag := "", pkgPath := "internal/runtime/maps", byteOffset := 0 }]) 1 8 (.agg #[(.pointer none)]) := .mk' (by kernel_rfl) (by kernel_rfl)
instance ti20 : TI Try.prog 20 (.interface #[]) 1 16 .nilIface := .mk' (by kernel_rfl) (by kernel_rfl)
instance ti21 : TI Try.prog 21 (.int .i32) 1 4 (.int .i32 0) := .mk' (by kernel_rfl) (by kernel_rfl)
instance ti22 : TI Try.prog 22 (.slice 31) 1 24 (.slice none 0 0) := .mk' (by kernel_rfl) (by kernel_rfl)
instance ti23 : TI Try.prog 23 (.pointer 57) 1 8 (.pointer none) := .mk' (by kernel_rfl) (by kernel_rfl)
instance ti25 : TI Try.prog 25 (.pointer 28) 1 8 (.pointer none) := .mk' (by kernel_rfl) (by kernel_rfl)
instance ti26 : TI Try.prog 26 (.slice 64) 1 24 (.slice none 0 0) := .mk' (by kernel_rfl) (by kernel_rfl)
instance ti27 : TI Try.prog 27 (.struct #[{ name := "L", type := 26, offset := 0, embedded := false, tag := "", pkgPath := "", byteOffset := 0 }]) 1 24 (.agg #[(.slice none 0 0)]) := .mk' (by kernel_rfl) (by kernel_rfl)
instance ti28 : TI Try.prog 28 (.struct #[{ name := "L", type := 26, offset := 0, embedded := false, tag := "", pkgPath := "", byteOffset := 0 }]) 1 24 (.agg #[(.slice none 0 0)]) := .mk' (by kernel_rfl) (by kernel_rfl)
instance ti30 : TI Try.prog 30 (.struct #[{ name := "Kind", type := 3, offset := 0, embedded := false, tag := "", pkgPath := "", byteOffset := 0 }, { name := "A", type := 3, offset := 1, embedded := false, tag := "", pkgPath := "", byteOffset := 8 }, { name := "B", type := 3, offset := 2, embedded := false, tag := "", pkgPath := "", byteOffset := 16 }, { name := "C", type := 3, offset := 3, embedded := false, tag := "", pkgPath := "", byteOffset := 24 }]) 4 32 (.agg #[(.int .i64 0), (.int .i64 0), (.int .i64 0), (.int .i64 0)]) := .mk' (by kernel_rfl) (by kernel_rfl)
instance ti31 : TI Try.prog 31 (.struct #[{ name := "Kind", type := 3, offset := 0, embedded := false, tag := "", pkgPath := "", byteOffset := 0 }, { name := "A", type := 3, offset := 1, embedded := false, tag := "", pkgPath := "", byteOffset := 8 }, { name := "B", type := 3, offset := 2, embedded := false, tag := "", pkgPath := "", byteOffset := 16 }, { name := "C", type := 3, offset := 3, embedded := false, tag := "", pkgPath := "", byteOffset := 24 }]) 4 32 (.agg #[(.int .i64 0), (.int .i64 0), (.int .i64 0), (.int .i64 0)]) := .mk' (by kernel_rfl) (by kernel_rfl)
instance ti44 : TI Try.prog 44 (.slice 52) 1 24 (.slice none 0 0) := .mk' (by kernel_rfl) (by kernel_rfl)
instance ti46 : TI Try.prog 46 (.slice 3) 1 24 (.slice none 0 0) := .mk' (by kernel_rfl) (by kernel_rfl)
instance ti49 : TI Try.prog 49 (.slice 50) 1 24 (.slice none 0 0) := .mk' (by kernel_rfl) (by kernel_rfl)
instance ti50 : TI Try.prog 50 (.array 2 3) 2 16 (.agg #[(.int .i64 0), (.int .i64 0)]) := .mk' (by kernel_rfl) (by kernel_rfl)
instance ti51 : TI Try.prog 51 (.struct #[{ name := "State", type := 3, offset := 0, embedded := false, tag := "", pkgPath := "", byteOffset := 0 }, { name := "Above", type := 3, offset := 1, embedded := false, tag := "", pkgPath := "", byteOffset := 8 }]) 2 16 (.agg #[(.int .i64 0), (.int .i64 0)]) := .mk' (by kernel_rfl) (by kernel_rfl)
instance ti52 : TI Try.prog 52 (.struct #[{ name := "State", type := 3, offset := 0, embedded := false, tag := "", pkgPath := "", byteOffset := 0 }, { name := "Above", type := 3, offset := 1, embedded := false, tag := "", pkgPath := "", byteOffset := 8 }]) 2 16 (.agg #[(.int .i64 0), (.int .i64 0)]) := .mk' (by kernel_rfl) (by kernel_rfl)
instance ti54 : TI Try.prog 54 (.map 59 3) 1 8 (.map none) := .mk' (by kernel_rfl) (by kernel_rfl)
instance ti55 : TI Try.prog 55 (.slice 61) 1 24 (.slice none 0 0) := .mk' (by kernel_rfl) (by kernel_rfl)
instance ti56 : TI Try.prog 56 (.struct #[{ name := "nodes", type := 55, offset := 0, embedded := false, tag := "", pkgPath := "topiarist/stack", byteOffset := 0 }, { name := "known", type := 54, offset := 1, embedded := false, tag := "", pkgPath := "topiarist/stack", byteOffset := 24 }]) 2 32 (.agg #[(.slice none 0 0), (.map none)]) := .mk' (by kernel_rfl) (by kernel_rfl)
instance ti57 : TI Try.prog 57 (.struct #[{ name := "nodes", type := 55, offset := 0, embedded := false, tag := "", pkgPath := "topiarist/stack", byteOffset := 0 }, { name := "known", type := 54, offset := 1, embedded := false, tag := "", pkgPath := "topiarist/stack", byteOffset := 24 }]) 2 32 (.agg #[(.slice none 0 0), (.map none)]) := .mk' (by kernel_rfl) (by kernel_rfl)
instance ti58 : TI Try.prog 58 (.struct #[{ name := "sym", type := 3, offset := 0, embedded := false, tag := "", pkgPath := "topiarist/stack", byteOffset := 0 }, { name := "at", type := 3, offset := 1, embedded := false, tag := "", pkgPath := "topiarist/stack", byteOffset := 8 }]) 2 16 (.agg #[(.int .i64 0), (.int .i64 0)]) := .mk' (by kernel_rfl) (by kernel_rfl)
instance ti59 : TI Try.prog 59 (.struct #[{ name := "sym", type := 3, offset := 0, embedded := false, tag := "", pkgPath := "topiarist/stack", byteOffset := 0 }, { name := "at", type := 3, offset := 1, embedded := false, tag := "", pkgPath := "topiarist/stack", byteOffset := 8 }]) 2 16 (.agg #[(.int .i64 0), (.int .i64 0)]) := .mk' (by kernel_rfl) (by kernel_rfl)
instance ti60 : TI Try.prog 60 (.struct #[{ name := "edges", type := 44, offset := 0, embedded := false, tag := "", pkgPath := "topiarist/stack", byteOffset := 0 }, { name := "pops", type := 46, offset := 1, embedded := false, tag := "", pkgPath := "topiarist/stack", byteOffset := 24 }]) 2 48 (.agg #[(.slice none 0 0), (.slice none 0 0)]) := .mk' (by kernel_rfl) (by kernel_rfl)
instance ti61 : TI Try.prog 61 (.struct #[{ name := "edges", type := 44, offset := 0, embedded := false, tag := "", pkgPath := "topiarist/stack", byteOffset := 0 }, { name := "pops", type := 46, offset := 1, embedded := false, tag := "", pkgPath := "topiarist/stack", byteOffset := 24 }]) 2 48 (.agg #[(.slice none 0 0), (.slice none 0 0)]) := .mk' (by kernel_rfl) (by kernel_rfl)
instance ti62 : TI Try.prog 62 (.slice 68) 1 24 (.slice none 0 0) := .mk' (by kernel_rfl) (by kernel_rfl)
instance ti63 : TI Try.prog 63 (.struct #[{ name := "Sym", type := 3, offset := 0, embedded := false, tag := "", pkgPath := "", byteOffset := 0 }, { name := "At", type := 3, offset := 1, embedded := false, tag := "", pkgPath := "", byteOffset := 8 }, { name := "E", type := 62, offset := 2, embedded := false, tag := "", pkgPath := "", byteOffset := 16 }, { name := "P", type := 46, offset := 3, embedded := false, tag := "", pkgPath := "", byteOffset := 40 }]) 4 64 (.agg #[(.int .i64 0), (.int .i64 0), (.slice none 0 0), (.slice none 0 0)]) := .mk' (by kernel_rfl) (by kernel_rfl)
instance ti64 : TI Try.prog 64 (.struct #[{ name := "Sym", type := 3, offset := 0, embedded := false, tag := "", pkgPath := "", byteOffset := 0 }, { name := "At", type := 3, offset := 1, embedded := false, tag := "", pkgPath := "", byteOffset := 8 }, { name := "E", type := 62, offset := 2, embedded := false, tag := "", pkgPath := "", byteOffset := 16 }, { name := "P", type := 46, offset := 3, embedded := false, tag := "", pkgPath := "", byteOffset := 40 }]) 4 64 (.agg #[(.int .i64 0), (.int .i64 0), (.slice none 0 0), (.slice none 0 0)]) := .mk' (by kernel_rfl) (by kernel_rfl)
instance ti68 : TI Try.prog 68 (.struct #[{ name := "State", type := 3, offset := 0, embedded := false, tag := "", pkgPath := "", byteOffset := 0 }, { name := "Above", type := 3, offset := 1, embedded := false, tag := "", pkgPath := "", byteOffset := 8 }]) 2 16 (.agg #[(.int .i64 0), (.int .i64 0)]) := .mk' (by kernel_rfl) (by kernel_rfl)
instance ti71 : TI Try.prog 71 (.chan .both 3) 1 8 (.chan none) := .mk' (by kernel_rfl) (by kernel_rfl)
instance ti80 : TI Try.prog 80 (.struct #[{ name := "_interface", type := 17, offset := 0, embedded := false, tag := "", pkgPath := "runtime", byteOffset := 0 }, { name := "concrete", type := 17, offset := 1, embedded := false, tag := "", pkgPath := "runtime", byteOffset := 8 }, { name := "asserted", type := 17, offset := 2, embedded := false, tag := "", pkgPath := "runtime", byteOffset := 16 }, { name := "missingMethod", type := 9, offset := 3, embedded := false, tag := "", pkgPath := "runtime", byteOffset := 24 }]) 4 40 (.agg #[(.pointer none), (.pointer none), (.pointer none), (.string ⟨#[]⟩)]) := .mk' (by kernel_rfl) (by kernel_rfl)
instance ti81 : TI Try.prog 81 (.struct #[{ name := "_interface", type := 17, offset := 0, embedded := false, tag := "", pkgPath := "runtime", byteOffset := 0 }, { name := "concrete", type := 17, offset := 1, embedded := false, tag := "", pkgPath := "runtime", byteOffset := 8 }, { name := "asserted", type := 17, offset := 2, embedded := false, tag := "", pkgPath := "runtime", byteOffset := 16 }, { name := "missingMethod", type := 9, offset := 3, embedded := false, tag := "", pkgPath := "runtime", byteOffset := 24 }]) 4 40 (.agg #[(.pointer none), (.pointer none), (.pointer none), (.string ⟨#[]⟩)]) := .mk' (by kernel_rfl) (by kernel_rfl)
instance ti86 : TI Try.prog 86 (.int .u32) 1 4 (.int .u32 0) := .mk' (by kernel_rfl) (by kernel_rfl)
instance ti87 : TI Try.prog 87 (.int .u8) 1 1 (.int .u8 0) := .mk' (by kernel_rfl) (by kernel_rfl)
instance ti88 : TI Try.prog 88 (.int .u8) 1 1 (.int .u8 0) := .mk' (by kernel_rfl) (by kernel_rfl)
instance ti90 : TI Try.prog 90 (.pointer 5) 1 8 (.pointer none) := .mk' (by kernel_rfl) (by kernel_rfl)
instance ti91 : TI Try.prog 91 (.int .i32) 1 4 (.int .i32 0) := .mk' (by kernel_rfl) (by kernel_rfl)
instance ti92 : TI Try.prog 92 (.int .i32) 1 4 (.int .i32 0) := .mk' (by kernel_rfl) (by kernel_rfl)
instance ti93 : TI Try.prog 93 (.struct #[{ name := "Size_", type := 12, offset := 0, embedded := false, tag := "", pkgPath := "", byteOffset := 0 }, { name := "PtrBytes", type := 12, offset := 1, embedded := false, tag := "", pkgPath := "", byteOffset := 8 }, { name := "Hash", type := 86, offset := 2, embedded := false, tag := "", pkgPath := "", byteOffset := 16 }, { name := "TFlag", type := 87, offset := 3, embedded := false, tag := "", pkgPath := "", byteOffset := 20 }, { name := "Align_", type := 5, offset := 4, embedded := false, tag := "", pkgPath := "", byteOffset := 21 }, { name := "FieldAlign_", type := 5, offset := 5, embedded := false, tag := "", pkgPath := "", byteOffset := 22 }, { name := "Kind_", type := 88, offset := 6, embedded := false, tag := "", pkgPath := "", byteOffset := 23 }, { name := "Equal", type := 89, offset := 7, embedded := false, tag := "", pkgPath := "", byteOffset := 24 }, { name := "GCData", type := 90, offset := 8, embedded := false, tag := "", pkgPath := "", byteOffset := 32 }, { name := "Str", type := 91, offset := 9, embedded := false, tag := "", pkgPath := "", byteOffset := 40 }, { name := "PtrToThis", type := 92, offset := 10, embedded := false, tag := "", pkgPath := "", byteOffset := 44 }]) 11 48 (.agg #[(.int .u64 0), (.int .u64 0), (.int .u32 0), (.int .u8 0), (.int .u8 0), (.int .u8 0), (.int .u8 0), .nilFunc, (.pointer none), (.int .i32 0), (.int .i32 0)]) := .mk' (by kernel_rfl) (by kernel_rfl)
instance ti94 : TI Try.prog 94 (.struct #[{ name := "Size_", type := 12, offset := 0, embedded := false, tag := "", pkgPath := "", byteOffset := 0 }, { name := "PtrBytes", type := 12, offset := 1, embedded := false, tag := "", pkgPath := "", byteOffset := 8 }, { name := "Hash", type := 86, offset := 2, embedded := false, tag := "", pkgPath := "", byteOffset := 16 }, { name := "TFlag", type := 87, offset := 3, embedded := false, tag := "", pkgPath := "", byteOffset := 20 }, { name := "Align_", type := 5, offset := 4, embedded := false, tag := "", pkgPath := "", byteOffset := 21 }, { name := "FieldAlign_", type := 5, offset := 5, embedded := false, tag := "", pkgPath := "", byteOffset := 22 }, { name := "Kind_", type := 88, offset := 6, embedded := false, tag := "", pkgPath := "", byteOffset := 23 }, { name := "Equal", type := 89, offset := 7, embedded := false, tag := "", pkgPath := "", byteOffset := 24 }, { name := "GCData", type := 90, offset := 8, embedded := false, tag := "", pkgPath := "", byteOffset := 32 }, { name := "Str", type := 91, offset := 9, embedded := false, tag := "", pkgPath := "", byteOffset := 40 }, { name := "PtrToThis", type := 92, offset := 10, embedded := false, tag := "", pkgPath := "", byteOffset := 44 }]) 11 48 (.agg #[(.int .u64 0), (.int .u64 0), (.int .u32 0), (.int .u8 0), (.int .u8 0), (.int .u8 0), (.int .u8 0), .nilFunc, (.pointer none), (.int .i32 0), (.int .i32 0)]) := .mk' (by kernel_rfl) (by kernel_rfl)
instance fa7_0 : FA Try.prog 7 0 0 := .mk' ti7 rfl ti2 (by decide) rfl
instance fa7_1 : FA Try.prog 7 1 1 := .mk' ti7 rfl ti3 (by decide) rfl
instance fa7_2 : FA Try.prog 7 2 2 := .mk' ti7 rfl ti4 (by decide) rfl
instance fa7_3 : FA Try.prog 7 3 3 := .mk' ti7 rfl ti6 (by decide) rfl
instance fa8_0 : FA Try.prog 8 0 0 := .mk' ti8 rfl ti2 (by decide) rfl
instance fa8_1 : FA Try.prog 8 1 1 := .mk' ti8 rfl ti3 (by decide) rfl
instance fa8_2 : FA Try.prog 8 2 2 := .mk' ti8 rfl ti4 (by decide) rfl
instance fa8_3 : FA Try.prog 8 3 3 := .mk' ti8 rfl ti6 (by decide) rfl
instance fa13_0 : FA Try.prog 13 0 0 := .mk' ti13 rfl ti9 (by decide) rfl
instance fa13_1 : FA Try.prog 13 1 1 := .mk' ti13 rfl ti12 (by decide) rfl
instance fa14_0 : FA Try.prog 14 0 0 := .mk' ti14 rfl ti9 (by decide) rfl
instance fa14_1 : FA Try.prog 14 1 1 := .mk' ti14 rfl ti12 (by decide) rfl
instance fa18_0 : FA Try.prog 18 0 0 := .mk' ti18 rfl ti17 (by decide) rfl
instance fa19_0 : FA Try.prog 19 0 0 := .mk' ti19 rfl ti17 (by decide) rfl
instance fa27_0 : FA Try.prog 27 0 0 := .mk' ti27 rfl ti26 (by decide) rfl
instance fa28_0 : FA Try.prog 28 0 0 := .mk' ti28 rfl ti26 (by decide) rfl
instance fa30_0 : FA Try.prog 30 0 0 := .mk' ti30 rfl ti3 (by decide) rfl
instance fa30_1 : FA Try.prog 30 1 1 := .mk' ti30 rfl ti3 (by decide) rfl
instance fa30_2 : FA Try.prog 30 2 2 := .mk' ti30 rfl ti3 (by decide) rfl
instance fa30_3 : FA Try.prog 30 3 3 := .mk' ti30 rfl ti3 (by decide) rfl
instance fa31_0 : FA Try.prog 31 0 0 := .mk' ti31 rfl ti3 (by decide) rfl
instance fa31_1 : FA Try.prog 31 1 1 := .mk' ti31 rfl ti3 (by decide) rfl
instance fa31_2 : FA Try.prog 31 2 2 := .mk' ti31 rfl ti3 (by decide) rfl
instance fa31_3 : FA Try.prog 31 3 3 := .mk' ti31 rfl ti3 (by decide) rfl
instance fa51_0 : FA Try.prog 51 0 0 := .mk' ti51 rfl ti3 (by decide) rfl
instance fa51_1 : FA Try.prog 51 1 1 := .mk' ti51 rfl ti3 (by decide) rfl
instance fa52_0 : FA Try.prog 52 0 0 := .mk' ti52 rfl ti3 (by decide) rfl
instance fa52_1 : FA Try.prog 52 1 1 := .mk' ti52 rfl ti3 (by decide) rfl
instance fa56_0 : FA Try.prog 56 0 0 := .mk' ti56 rfl ti55 (by decide) rfl
instance fa56_1 : FA Try.prog 56 1 1 := .mk' ti56 rfl ti54 (by decide) rfl
instance fa57_0 : FA Try.prog 57 0 0 := .mk' ti57 rfl ti55 (by decide) rfl
instance fa57_1 : FA Try.prog 57 1 1 := .mk' ti57 rfl ti54 (by decide) rfl
instance fa58_0 : FA Try.prog 58 0 0 := .mk' ti58 rfl ti3 (by decide) rfl
instance fa58_1 : FA Try.prog 58 1 1 := .mk' ti58 rfl ti3 (by decide) rfl
instance fa59_0 : FA Try.prog 59 0 0 := .mk' ti59 rfl ti3 (by decide) rfl
instance fa59_1 : FA Try.prog 59 1 1 := .mk' ti59 rfl ti3 (by decide) rfl
instance fa60_0 : FA Try.prog 60 0 0 := .mk' ti60 rfl ti44 (by decide) rfl
instance fa60_1 : FA Try.prog 60 1 1 := .mk' ti60 rfl ti46 (by decide) rfl
instance fa61_0 : FA Try.prog 61 0 0 := .mk' ti61 rfl ti44 (by decide) rfl
instance fa61_1 : FA Try.prog 61 1 1 := .mk' ti61 rfl ti46 (by decide) rfl
instance fa63_0 : FA Try.prog 63 0 0 := .mk' ti63 rfl ti3 (by decide) rfl
instance fa63_1 : FA Try.prog 63 1 1 := .mk' ti63 rfl ti3 (by decide) rfl
instance fa63_2 : FA Try.prog 63 2 2 := .mk' ti63 rfl ti62 (by decide) rfl
instance fa63_3 : FA Try.prog 63 3 3 := .mk' ti63 rfl ti46 (by decide) rfl
instance fa64_0 : FA Try.prog 64 0 0 := .mk' ti64 rfl ti3 (by decide) rfl
instance fa64_1 : FA Try.prog 64 1 1 := .mk' ti64 rfl ti3 (by decide) rfl
instance fa64_2 : FA Try.prog 64 2 2 := .mk' ti64 rfl ti62 (by decide) rfl
instance fa64_3 : FA Try.prog 64 3 3 := .mk' ti64 rfl ti46 (by decide) rfl
instance fa68_0 : FA Try.prog 68 0 0 := .mk' ti68 rfl ti3 (by decide) rfl
instance fa68_1 : FA Try.prog 68 1 1 := .mk' ti68 rfl ti3 (by decide) rfl
instance fa80_0 : FA Try.prog 80 0 0 := .mk' ti80 rfl ti17 (by decide) rfl
instance fa80_1 : FA Try.prog 80 1 1 := .mk' ti80 rfl ti17 (by decide) rfl
instance fa80_2 : FA Try.prog 80 2 2 := .mk' ti80 rfl ti17 (by decide) rfl
instance fa80_3 : FA Try.prog 80 3 3 := .mk' ti80 rfl ti9 (by decide) rfl
instance fa81_0 : FA Try.prog 81 0 0 := .mk' ti81 rfl ti17 (by decide) rfl
instance fa81_1 : FA Try.prog 81 1 1 := .mk' ti81 rfl ti17 (by decide) rfl
instance fa81_2 : FA Try.prog 81 2 2 := .mk' ti81 rfl ti17 (by decide) rfl
instance fa81_3 : FA Try.prog 81 3 3 := .mk' ti81 rfl ti9 (by decide) rfl
instance fa93_0 : FA Try.prog 93 0 0 := .mk' ti93 rfl ti12 (by decide) rfl
instance fa93_1 : FA Try.prog 93 1 1 := .mk' ti93 rfl ti12 (by decide) rfl
instance fa93_2 : FA Try.prog 93 2 2 := .mk' ti93 rfl ti86 (by decide) rfl
instance fa93_3 : FA Try.prog 93 3 3 := .mk' ti93 rfl ti87 (by decide) rfl
instance fa93_4 : FA Try.prog 93 4 4 := .mk' ti93 rfl ti5 (by decide) rfl
instance fa93_5 : FA Try.prog 93 5 5 := .mk' ti93 rfl ti5 (by decide) rfl
instance fa93_6 : FA Try.prog 93 6 6 := .mk' ti93 rfl ti88 (by decide) rfl
instance fa93_8 : FA Try.prog 93 8 8 := .mk' ti93 rfl ti90 (by decide) rfl
instance fa93_9 : FA Try.prog 93 9 9 := .mk' ti93 rfl ti91 (by decide) rfl
instance fa93_10 : FA Try.prog 93 10 10 := .mk' ti93 rfl ti92 (by decide) rfl
instance fa94_0 : FA Try.prog 94 0 0 := .mk' ti94 rfl ti12 (by decide) rfl
instance fa94_1 : FA Try.prog 94 1 1 := .mk' ti94 rfl ti12 (by decide) rfl
instance fa94_2 : FA Try.prog 94 2 2 := .mk' ti94 rfl ti86 (by decide) rfl
instance fa94_3 : FA Try.prog 94 3 3 := .mk' ti94 rfl ti87 (by decide) rfl
instance fa94_4 : FA Try.prog 94 4 4 := .mk' ti94 rfl ti5 (by decide) rfl
instance fa94_5 : FA Try.prog 94 5 5 := .mk' ti94 rfl ti5 (by decide) rfl
instance fa94_6 : FA Try.prog 94 6 6 := .mk' ti94 rfl ti88 (by decide) rfl
instance fa94_8 : FA Try.prog 94 8 8 := .mk' ti94 rfl ti90 (by decide) rfl
instance fa94_9 : FA Try.prog 94 9 9 := .mk' ti94 rfl ti91 (by decide) rfl
instance fa94_10 : FA Try.prog 94 10 10 := .mk' ti94 rfl ti92 (by decide) rfl
instance eq31 : EQ Try.prog 31 [.int .i64, .int .i64, .int .i64, .int .i64] := .mk' ti31 (by kernel_rfl) (by kernel_rfl) (by kernel_rfl)
instance eq52 : EQ Try.prog 52 [.int .i64, .int .i64] := .mk' ti52 (by kernel_rfl) (by kernel_rfl) (by kernel_rfl)
instance eq59 : EQ Try.prog 59 [.int .i64, .int .i64] := .mk' ti59 (by kernel_rfl) (by kernel_rfl) (by kernel_rfl)
instance eq68 : EQ Try.prog 68 [.int .i64, .int .i64] := .mk' ti68 (by kernel_rfl) (by kernel_rfl) (by kernel_rfl)
instance pl7 : PL Try.prog 7 [(0, 1), (1, 1), (2, 1), (3, 1)] := ⟨by kernel_rfl⟩
instance pl8 : PL Try.prog 8 [(0, 1), (1, 1), (2, 1), (3, 1)] := ⟨by kernel_rfl⟩
instance pl13 : PL Try.prog 13 [(0, 1), (1, 1)] := ⟨by kernel_rfl⟩
instance pl14 : PL Try.prog 14 [(0, 1), (1, 1)] := ⟨by kernel_rfl⟩
instance pl18 : PL Try.prog 18 [(0, 1)] := ⟨by kernel_rfl⟩
instance pl19 : PL Try.prog 19 [(0, 1)] := ⟨by kernel_rfl⟩
instance pl27 : PL Try.prog 27 [(0, 1)] := ⟨by kernel_rfl⟩
instance pl28 : PL Try.prog 28 [(0, 1)] := ⟨by kernel_rfl⟩
instance pl30 : PL Try.prog 30 [(0, 1), (1, 1), (2, 1), (3, 1)] := ⟨by kernel_rfl⟩
instance pl31 : PL Try.prog 31 [(0, 1), (1, 1), (2, 1), (3, 1)] := ⟨by kernel_rfl⟩
instance pl51 : PL Try.prog 51 [(0, 1), (1, 1)] := ⟨by kernel_rfl⟩
instance pl52 : PL Try.prog 52 [(0, 1), (1, 1)] := ⟨by kernel_rfl⟩
instance pl56 : PL Try.prog 56 [(0, 1), (1, 1)] := ⟨by kernel_rfl⟩
instance pl57 : PL Try.prog 57 [(0, 1), (1, 1)] := ⟨by kernel_rfl⟩
instance pl58 : PL Try.prog 58 [(0, 1), (1, 1)] := ⟨by kernel_rfl⟩
instance pl59 : PL Try.prog 59 [(0, 1), (1, 1)] := ⟨by kernel_rfl⟩
instance pl60 : PL Try.prog 60 [(0, 1), (1, 1)] := ⟨by kernel_rfl⟩
instance pl61 : PL Try.prog 61 [(0, 1), (1, 1)] := ⟨by kernel_rfl⟩
instance pl63 : PL Try.prog 63 [(0, 1), (1, 1), (2, 1), (3, 1)] := ⟨by kernel_rfl⟩
instance pl64 : PL Try.prog 64 [(0, 1), (1, 1), (2, 1), (3, 1)] := ⟨by kernel_rfl⟩
instance pl68 : PL Try.prog 68 [(0, 1), (1, 1)] := ⟨by kernel_rfl⟩
instance pl80 : PL Try.prog 80 [(0, 1), (1, 1), (2, 1), (3, 1)] := ⟨by kernel_rfl⟩
instance pl81 : PL Try.prog 81 [(0, 1), (1, 1), (2, 1), (3, 1)] := ⟨by kernel_rfl⟩
instance : Mixed Try.prog := ⟨by kernel_rfl⟩
end Go.Proofs.Ytdkgbkmaeeicoaa.V
