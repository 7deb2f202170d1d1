/- What the types of this program are. -/
import Derived.Test.YtilldpmlcgikdaaVB
import Derived.Test.YtilldpmlcgikdaaProg
import Derived.ProofKit
set_option linter.unusedVariables false
namespace Go.Proofs.Ytilldpmlcgikdaa.V
open Go
instance ti2 : TI Try.prog 2 (.int .i64) 1 8 (.int .i64 0) := .mk' (by kernel_rfl) (by kernel_rfl)
instance ti3 : TI Try.prog 3 (.int .i64) 1 8 (.int .i64 0) := .mk' (by kernel_rfl) (by kernel_rfl)
instance ti4 : TI Try.prog 4 (.bool) 1 1 (.bool false) := .mk' (by kernel_rfl) (by kernel_rfl)
instance ti5 : TI Try.prog 5 (.int .u8) 1 1 (.int .u8 0) := .mk' (by kernel_rfl) (by kernel_rfl)
instance ti6 : TI Try.prog 6 (.int .u8) 1 1 (.int .u8 0) := .mk' (by kernel_rfl) (by kernel_rfl)
instance ti7 : TI Try.prog 7 (.struct #[{ name := "x", type := 2, offset := 0, embedded := false, tag := "", pkgPath := "runtime", byteOffset := 0 }, { name := "y", type := 3, offset := 1, embedded := false, tag := "", pkgPath := "runtime", byteOffset := 8 }, { name := "signed", type := 4, offset := 2, embedded := false, tag := "", pkgPath := "runtime", byteOffset := 16 }, { name := "code", type := 6, offset := 3, embedded := false, tag := "", pkgPath := "runtime", byteOffset := 17 }]) 4 24 (.agg #[(.int .i64 0), (.int .i64 0), (.bool false), (.int .u8 0)]) := .mk' (by kernel_rfl) (by kernel_rfl)
instance ti8 : TI Try.prog 8 (.struct #[{ name := "x", type := 2, offset := 0, embedded := false, tag := "", pkgPath := "runtime", byteOffset := 0 }, { name := "y", type := 3, offset := 1, embedded := false, tag := "", pkgPath := "runtime", byteOffset := 8 }, { name := "signed", type := 4, offset := 2, embedded := false, tag := "", pkgPath := "runtime", byteOffset := 16 }, { name := "code", type := 6, offset := 3, embedded := false, tag := "", pkgPath := "runtime", byteOffset := 17 }]) 4 24 (.agg #[(.int .i64 0), (.int .i64 0), (.bool false), (.int .u8 0)]) := .mk' (by kernel_rfl) (by kernel_rfl)
instance ti9 : TI Try.prog 9 (.string) 1 16 (.string ⟨#[]⟩) := .mk' (by kernel_rfl) (by kernel_rfl)
instance ti10 : TI Try.prog 10 (.string) 1 16 (.string ⟨#[]⟩) := .mk' (by kernel_rfl) (by kernel_rfl)
instance ti11 : TI Try.prog 11 (.string) 1 16 (.string ⟨#[]⟩) := .mk' (by kernel_rfl) (by kernel_rfl)
instance ti12 : TI Try.prog 12 (.int .u64) 1 8 (.int .u64 0) := .mk' (by kernel_rfl) (by kernel_rfl)
instance ti13 : TI Try.prog 13 (.struct #[{ name := "msg", type := 9, offset := 0, embedded := false, tag := "", pkgPath := "runtime", byteOffset := 0 }, { name := "addr", type := 12, offset := 1, embedded := false, tag := "", pkgPath := "runtime", byteOffset := 16 }]) 2 24 (.agg #[(.string ⟨#[]⟩), (.int .u64 0)]) := .mk' (by kernel_rfl) (by kernel_rfl)
instance ti14 : TI Try.prog 14 (.struct #[{ name := "msg", type := 9, offset := 0, embedded := false, tag := "", pkgPath := "runtime", byteOffset := 0 }, { name := "addr", type := 12, offset := 1, embedded := false, tag := "", pkgPath := "runtime", byteOffset := 16 }]) 2 24 (.agg #[(.string ⟨#[]⟩), (.int .u64 0)]) := .mk' (by kernel_rfl) (by kernel_rfl)
instance ti15 : TI Try.prog 15 (.pointer 71) 1 8 (.pointer none) := .mk' (by kernel_rfl) (by kernel_rfl)
instance ti16 : TI Try.prog 16 (.pointer 74) 1 8 (.pointer none) := .mk' (by kernel_rfl) (by kernel_rfl)
instance ti17 : TI Try.prog 17 (.pointer 84) 1 8 (.pointer none) := .mk' (by kernel_rfl) (by kernel_rfl)
instance ti18 : TI Try.prog 18 (.struct #[{ name := "typ", type := 17, offset := 0, embedded := false, tag := "", pkgPath := "internal/runtime/maps", byteOffset := 0 }]) 1 8 (.agg #[(.pointer none)]) := .mk' (by kernel_rfl) (by kernel_rfl)
instance ti19 : TI Try.prog 19 (.struct #[{ name := "typ", type := 17, offset := 0, embedded := false, tag := "", pkgPath := "internal/runtime/maps", byteOffset := 0 }]) 1 8 (.agg #[(.pointer none)]) := .mk' (by kernel_rfl) (by kernel_rfl)
instance ti20 : TI Try.prog 20 (.interface #[]) 1 16 .nilIface := .mk' (by kernel_rfl) (by kernel_rfl)
instance ti21 : TI Try.prog 21 (.int .i32) 1 4 (.int .i32 0) := .mk' (by kernel_rfl) (by kernel_rfl)
instance ti22 : TI Try.prog 22 (.slice 38) 1 24 (.slice none 0 0) := .mk' (by kernel_rfl) (by kernel_rfl)
instance ti25 : TI Try.prog 25 (.slice 40) 1 24 (.slice none 0 0) := .mk' (by kernel_rfl) (by kernel_rfl)
instance ti26 : TI Try.prog 26 (.int .i64) 1 8 (.int .i64 0) := .mk' (by kernel_rfl) (by kernel_rfl)
instance ti27 : TI Try.prog 27 (.struct #[{ name := "E", type := 26, offset := 0, embedded := false, tag := "", pkgPath := "", byteOffset := 0 }, { name := "At", type := 3, offset := 1, embedded := false, tag := "", pkgPath := "", byteOffset := 8 }]) 2 16 (.agg #[(.int .i64 0), (.int .i64 0)]) := .mk' (by kernel_rfl) (by kernel_rfl)
instance ti28 : TI Try.prog 28 (.struct #[{ name := "E", type := 26, offset := 0, embedded := false, tag := "", pkgPath := "", byteOffset := 0 }, { name := "At", type := 3, offset := 1, embedded := false, tag := "", pkgPath := "", byteOffset := 8 }]) 2 16 (.agg #[(.int .i64 0), (.int .i64 0)]) := .mk' (by kernel_rfl) (by kernel_rfl)
instance ti31 : TI Try.prog 31 (.struct #[{ name := "L", type := 25, offset := 0, embedded := false, tag := "", pkgPath := "", byteOffset := 0 }, { name := "E", type := 3, offset := 1, embedded := false, tag := "", pkgPath := "", byteOffset := 24 }, { name := "At", type := 3, offset := 2, embedded := false, tag := "", pkgPath := "", byteOffset := 32 }]) 3 40 (.agg #[(.slice none 0 0), (.int .i64 0), (.int .i64 0)]) := .mk' (by kernel_rfl) (by kernel_rfl)
instance ti32 : TI Try.prog 32 (.struct #[{ name := "L", type := 25, offset := 0, embedded := false, tag := "", pkgPath := "", byteOffset := 0 }, { name := "E", type := 3, offset := 1, embedded := false, tag := "", pkgPath := "", byteOffset := 24 }, { name := "At", type := 3, offset := 2, embedded := false, tag := "", pkgPath := "", byteOffset := 32 }]) 3 40 (.agg #[(.slice none 0 0), (.int .i64 0), (.int .i64 0)]) := .mk' (by kernel_rfl) (by kernel_rfl)
instance ti37 : TI Try.prog 37 (.struct #[{ name := "Kind", type := 3, offset := 0, embedded := false, tag := "", pkgPath := "", byteOffset := 0 }, { name := "Text", type := 9, offset := 1, embedded := false, tag := "", pkgPath := "", byteOffset := 8 }, { name := "At", type := 3, offset := 2, embedded := false, tag := "", pkgPath := "", byteOffset := 24 }]) 3 32 (.agg #[(.int .i64 0), (.string ⟨#[]⟩), (.int .i64 0)]) := .mk' (by kernel_rfl) (by kernel_rfl)
instance ti38 : TI Try.prog 38 (.struct #[{ name := "Kind", type := 3, offset := 0, embedded := false, tag := "", pkgPath := "", byteOffset := 0 }, { name := "Text", type := 9, offset := 1, embedded := false, tag := "", pkgPath := "", byteOffset := 8 }, { name := "At", type := 3, offset := 2, embedded := false, tag := "", pkgPath := "", byteOffset := 24 }]) 3 32 (.agg #[(.int .i64 0), (.string ⟨#[]⟩), (.int .i64 0)]) := .mk' (by kernel_rfl) (by kernel_rfl)
instance ti39 : TI Try.prog 39 (.struct #[{ name := "Left", type := 38, offset := 0, embedded := false, tag := "", pkgPath := "", byteOffset := 0 }, { name := "Right", type := 22, offset := 3, embedded := false, tag := "", pkgPath := "", byteOffset := 32 }]) 4 56 (.agg #[(.int .i64 0), (.string ⟨#[]⟩), (.int .i64 0), (.slice none 0 0)]) := .mk' (by kernel_rfl) (by kernel_rfl)
instance ti40 : TI Try.prog 40 (.struct #[{ name := "Left", type := 38, offset := 0, embedded := false, tag := "", pkgPath := "", byteOffset := 0 }, { name := "Right", type := 22, offset := 3, embedded := false, tag := "", pkgPath := "", byteOffset := 32 }]) 4 56 (.agg #[(.int .i64 0), (.string ⟨#[]⟩), (.int .i64 0), (.slice none 0 0)]) := .mk' (by kernel_rfl) (by kernel_rfl)
instance ti42 : TI Try.prog 42 (.slice 22) 1 24 (.slice none 0 0) := .mk' (by kernel_rfl) (by kernel_rfl)
instance ti44 : TI Try.prog 44 (.slice 3) 1 24 (.slice none 0 0) := .mk' (by kernel_rfl) (by kernel_rfl)
instance ti49 : TI Try.prog 49 (.pointer 51) 1 8 (.pointer none) := .mk' (by kernel_rfl) (by kernel_rfl)
instance ti50 : TI Try.prog 50 (.struct #[{ name := "l", type := 22, offset := 0, embedded := false, tag := "", pkgPath := "topiarist/read", byteOffset := 0 }, { name := "end", type := 3, offset := 1, embedded := false, tag := "", pkgPath := "topiarist/read", byteOffset := 24 }, { name := "out", type := 25, offset := 2, embedded := false, tag := "", pkgPath := "topiarist/read", byteOffset := 32 }]) 3 56 (.agg #[(.slice none 0 0), (.int .i64 0), (.slice none 0 0)]) := .mk' (by kernel_rfl) (by kernel_rfl)
instance ti51 : TI Try.prog 51 (.struct #[{ name := "l", type := 22, offset := 0, embedded := false, tag := "", pkgPath := "topiarist/read", byteOffset := 0 }, { name := "end", type := 3, offset := 1, embedded := false, tag := "", pkgPath := "topiarist/read", byteOffset := 24 }, { name := "out", type := 25, offset := 2, embedded := false, tag := "", pkgPath := "topiarist/read", byteOffset := 32 }]) 3 56 (.agg #[(.slice none 0 0), (.int .i64 0), (.slice none 0 0)]) := .mk' (by kernel_rfl) (by kernel_rfl)
instance ti52 : TI Try.prog 52 (.struct #[{ name := "l", type := 22, offset := 0, embedded := false, tag := "", pkgPath := "topiarist/topiaristref02", byteOffset := 0 }, { name := "end", type := 3, offset := 1, embedded := false, tag := "", pkgPath := "topiarist/topiaristref02", byteOffset := 24 }]) 2 32 (.agg #[(.slice none 0 0), (.int .i64 0)]) := .mk' (by kernel_rfl) (by kernel_rfl)
instance ti53 : TI Try.prog 53 (.struct #[{ name := "l", type := 22, offset := 0, embedded := false, tag := "", pkgPath := "topiarist/topiaristref02", byteOffset := 0 }, { name := "end", type := 3, offset := 1, embedded := false, tag := "", pkgPath := "topiarist/topiaristref02", byteOffset := 24 }]) 2 32 (.agg #[(.slice none 0 0), (.int .i64 0)]) := .mk' (by kernel_rfl) (by kernel_rfl)
instance ti55 : TI Try.prog 55 (.struct #[{ name := "at", type := 3, offset := 0, embedded := false, tag := "", pkgPath := "topiarist/lex", byteOffset := 0 }]) 1 8 (.agg #[(.int .i64 0)]) := .mk' (by kernel_rfl) (by kernel_rfl)
instance ti56 : TI Try.prog 56 (.struct #[{ name := "at", type := 3, offset := 0, embedded := false, tag := "", pkgPath := "topiarist/lex", byteOffset := 0 }]) 1 8 (.agg #[(.int .i64 0)]) := .mk' (by kernel_rfl) (by kernel_rfl)
instance ti70 : TI Try.prog 70 (.struct #[{ name := "_interface", type := 17, offset := 0, embedded := false, tag := "", pkgPath := "runtime", byteOffset := 0 }, { name := "concrete", type := 17, offset := 1, embedded := false, tag := "", pkgPath := "runtime", byteOffset := 8 }, { name := "asserted", type := 17, offset := 2, embedded := false, tag := "", pkgPath := "runtime", byteOffset := 16 }, { name := "missingMethod", type := 9, offset := 3, embedded := false, tag := "", pkgPath := "runtime", byteOffset := 24 }]) 4 40 (.agg #[(.pointer none), (.pointer none), (.pointer none), (.string ⟨#[]⟩)]) := .mk' (by kernel_rfl) (by kernel_rfl)
instance ti71 : TI Try.prog 71 (.struct #[{ name := "_interface", type := 17, offset := 0, embedded := false, tag := "", pkgPath := "runtime", byteOffset := 0 }, { name := "concrete", type := 17, offset := 1, embedded := false, tag := "", pkgPath := "runtime", byteOffset := 8 }, { name := "asserted", type := 17, offset := 2, embedded := false, tag := "", pkgPath := "runtime", byteOffset := 16 }, { name := "missingMethod", type := 9, offset := 3, embedded := false, tag := "", pkgPath := "runtime", byteOffset := 24 }]) 4 40 (.agg #[(.pointer none), (.pointer none), (.pointer none), (.string ⟨#[]⟩)]) := .mk' (by kernel_rfl) (by kernel_rfl)
instance ti76 : TI Try.prog 76 (.int .u32) 1 4 (.int .u32 0) := .mk' (by kernel_rfl) (by kernel_rfl)
instance ti77 : TI Try.prog 77 (.int .u8) 1 1 (.int .u8 0) := .mk' (by kernel_rfl) (by kernel_rfl)
instance ti78 : TI Try.prog 78 (.int .u8) 1 1 (.int .u8 0) := .mk' (by kernel_rfl) (by kernel_rfl)
instance ti80 : TI Try.prog 80 (.pointer 5) 1 8 (.pointer none) := .mk' (by kernel_rfl) (by kernel_rfl)
instance ti81 : TI Try.prog 81 (.int .i32) 1 4 (.int .i32 0) := .mk' (by kernel_rfl) (by kernel_rfl)
instance ti82 : TI Try.prog 82 (.int .i32) 1 4 (.int .i32 0) := .mk' (by kernel_rfl) (by kernel_rfl)
instance ti83 : TI Try.prog 83 (.struct #[{ name := "Size_", type := 12, offset := 0, embedded := false, tag := "", pkgPath := "", byteOffset := 0 }, { name := "PtrBytes", type := 12, offset := 1, embedded := false, tag := "", pkgPath := "", byteOffset := 8 }, { name := "Hash", type := 76, offset := 2, embedded := false, tag := "", pkgPath := "", byteOffset := 16 }, { name := "TFlag", type := 77, offset := 3, embedded := false, tag := "", pkgPath := "", byteOffset := 20 }, { name := "Align_", type := 5, offset := 4, embedded := false, tag := "", pkgPath := "", byteOffset := 21 }, { name := "FieldAlign_", type := 5, offset := 5, embedded := false, tag := "", pkgPath := "", byteOffset := 22 }, { name := "Kind_", type := 78, offset := 6, embedded := false, tag := "", pkgPath := "", byteOffset := 23 }, { name := "Equal", type := 79, offset := 7, embedded := false, tag := "", pkgPath := "", byteOffset := 24 }, { name := "GCData", type := 80, offset := 8, embedded := false, tag := "", pkgPath := "", byteOffset := 32 }, { name := "Str", type := 81, offset := 9, embedded := false, tag := "", pkgPath := "", byteOffset := 40 }, { name := "PtrToThis", type := 82, offset := 10, embedded := false, tag := "", pkgPath := "", byteOffset := 44 }]) 11 48 (.agg #[(.int .u64 0), (.int .u64 0), (.int .u32 0), (.int .u8 0), (.int .u8 0), (.int .u8 0), (.int .u8 0), .nilFunc, (.pointer none), (.int .i32 0), (.int .i32 0)]) := .mk' (by kernel_rfl) (by kernel_rfl)
instance ti84 : TI Try.prog 84 (.struct #[{ name := "Size_", type := 12, offset := 0, embedded := false, tag := "", pkgPath := "", byteOffset := 0 }, { name := "PtrBytes", type := 12, offset := 1, embedded := false, tag := "", pkgPath := "", byteOffset := 8 }, { name := "Hash", type := 76, offset := 2, embedded := false, tag := "", pkgPath := "", byteOffset := 16 }, { name := "TFlag", type := 77, offset := 3, embedded := false, tag := "", pkgPath := "", byteOffset := 20 }, { name := "Align_", type := 5, offset := 4, embedded := false, tag := "", pkgPath := "", byteOffset := 21 }, { name := "FieldAlign_", type := 5, offset := 5, embedded := false, tag := "", pkgPath := "", byteOffset := 22 }, { name := "Kind_", type := 78, offset := 6, embedded := false, tag := "", pkgPath := "", byteOffset := 23 }, { name := "Equal", type := 79, offset := 7, embedded := false, tag := "", pkgPath := "", byteOffset := 24 }, { name := "GCData", type := 80, offset := 8, embedded := false, tag := "", pkgPath := "", byteOffset := 32 }, { name := "Str", type := 81, offset := 9, embedded := false, tag := "", pkgPath := "", byteOffset := 40 }, { name := "PtrToThis", type := 82, offset := 10, embedded := false, tag := "", pkgPath := "", byteOffset := 44 }]) 11 48 (.agg #[(.int .u64 0), (.int .u64 0), (.int .u32 0), (.int .u8 0), (.int .u8 0), (.int .u8 0), (.int .u8 0), .nilFunc, (.pointer none), (.int .i32 0), (.int .i32 0)]) := .mk' (by kernel_rfl) (by kernel_rfl)
instance fa7_0 : FA Try.prog 7 0 0 := .mk' ti7 rfl ti2 (by decide) rfl
instance fa7_1 : FA Try.prog 7 1 1 := .mk' ti7 rfl ti3 (by decide) rfl
instance fa7_2 : FA Try.prog 7 2 2 := .mk' ti7 rfl ti4 (by decide) rfl
instance fa7_3 : FA Try.prog 7 3 3 := .mk' ti7 rfl ti6 (by decide) rfl
instance fa8_0 : FA Try.prog 8 0 0 := .mk' ti8 rfl ti2 (by decide) rfl
instance fa8_1 : FA Try.prog 8 1 1 := .mk' ti8 rfl ti3 (by decide) rfl
instance fa8_2 : FA Try.prog 8 2 2 := .mk' ti8 rfl ti4 (by decide) rfl
instance fa8_3 : FA Try.prog 8 3 3 := .mk' ti8 rfl ti6 (by decide) rfl
instance fa13_0 : FA Try.prog 13 0 0 := .mk' ti13 rfl ti9 (by decide) rfl
instance fa13_1 : FA Try.prog 13 1 1 := .mk' ti13 rfl ti12 (by decide) rfl
instance fa14_0 : FA Try.prog 14 0 0 := .mk' ti14 rfl ti9 (by decide) rfl
instance fa14_1 : FA Try.prog 14 1 1 := .mk' ti14 rfl ti12 (by decide) rfl
instance fa18_0 : FA Try.prog 18 0 0 := .mk' ti18 rfl ti17 (by decide) rfl
instance fa19_0 : FA Try.prog 19 0 0 := .mk' ti19 rfl ti17 (by decide) rfl
instance fa27_0 : FA Try.prog 27 0 0 := .mk' ti27 rfl ti26 (by decide) rfl
instance fa27_1 : FA Try.prog 27 1 1 := .mk' ti27 rfl ti3 (by decide) rfl
instance fa28_0 : FA Try.prog 28 0 0 := .mk' ti28 rfl ti26 (by decide) rfl
instance fa28_1 : FA Try.prog 28 1 1 := .mk' ti28 rfl ti3 (by decide) rfl
instance fa31_0 : FA Try.prog 31 0 0 := .mk' ti31 rfl ti25 (by decide) rfl
instance fa31_1 : FA Try.prog 31 1 1 := .mk' ti31 rfl ti3 (by decide) rfl
instance fa31_2 : FA Try.prog 31 2 2 := .mk' ti31 rfl ti3 (by decide) rfl
instance fa32_0 : FA Try.prog 32 0 0 := .mk' ti32 rfl ti25 (by decide) rfl
instance fa32_1 : FA Try.prog 32 1 1 := .mk' ti32 rfl ti3 (by decide) rfl
instance fa32_2 : FA Try.prog 32 2 2 := .mk' ti32 rfl ti3 (by decide) rfl
instance fa37_0 : FA Try.prog 37 0 0 := .mk' ti37 rfl ti3 (by decide) rfl
instance fa37_1 : FA Try.prog 37 1 1 := .mk' ti37 rfl ti9 (by decide) rfl
instance fa37_2 : FA Try.prog 37 2 2 := .mk' ti37 rfl ti3 (by decide) rfl
instance fa38_0 : FA Try.prog 38 0 0 := .mk' ti38 rfl ti3 (by decide) rfl
instance fa38_1 : FA Try.prog 38 1 1 := .mk' ti38 rfl ti9 (by decide) rfl
instance fa38_2 : FA Try.prog 38 2 2 := .mk' ti38 rfl ti3 (by decide) rfl
instance fa39_0 : FA Try.prog 39 0 0 := .mk' ti39 rfl ti38 (by decide) rfl
instance fa39_1 : FA Try.prog 39 1 3 := .mk' ti39 rfl ti22 (by decide) rfl
instance fa40_0 : FA Try.prog 40 0 0 := .mk' ti40 rfl ti38 (by decide) rfl
instance fa40_1 : FA Try.prog 40 1 3 := .mk' ti40 rfl ti22 (by decide) rfl
instance fa50_0 : FA Try.prog 50 0 0 := .mk' ti50 rfl ti22 (by decide) rfl
instance fa50_1 : FA Try.prog 50 1 1 := .mk' ti50 rfl ti3 (by decide) rfl
instance fa50_2 : FA Try.prog 50 2 2 := .mk' ti50 rfl ti25 (by decide) rfl
instance fa51_0 : FA Try.prog 51 0 0 := .mk' ti51 rfl ti22 (by decide) rfl
instance fa51_1 : FA Try.prog 51 1 1 := .mk' ti51 rfl ti3 (by decide) rfl
instance fa51_2 : FA Try.prog 51 2 2 := .mk' ti51 rfl ti25 (by decide) rfl
instance fa52_0 : FA Try.prog 52 0 0 := .mk' ti52 rfl ti22 (by decide) rfl
instance fa52_1 : FA Try.prog 52 1 1 := .mk' ti52 rfl ti3 (by decide) rfl
instance fa53_0 : FA Try.prog 53 0 0 := .mk' ti53 rfl ti22 (by decide) rfl
instance fa53_1 : FA Try.prog 53 1 1 := .mk' ti53 rfl ti3 (by decide) rfl
instance fa55_0 : FA Try.prog 55 0 0 := .mk' ti55 rfl ti3 (by decide) rfl
instance fa56_0 : FA Try.prog 56 0 0 := .mk' ti56 rfl ti3 (by decide) rfl
instance fa70_0 : FA Try.prog 70 0 0 := .mk' ti70 rfl ti17 (by decide) rfl
instance fa70_1 : FA Try.prog 70 1 1 := .mk' ti70 rfl ti17 (by decide) rfl
instance fa70_2 : FA Try.prog 70 2 2 := .mk' ti70 rfl ti17 (by decide) rfl
instance fa70_3 : FA Try.prog 70 3 3 := .mk' ti70 rfl ti9 (by decide) rfl
instance fa71_0 : FA Try.prog 71 0 0 := .mk' ti71 rfl ti17 (by decide) rfl
instance fa71_1 : FA Try.prog 71 1 1 := .mk' ti71 rfl ti17 (by decide) rfl
instance fa71_2 : FA Try.prog 71 2 2 := .mk' ti71 rfl ti17 (by decide) rfl
instance fa71_3 : FA Try.prog 71 3 3 := .mk' ti71 rfl ti9 (by decide) rfl
instance fa83_0 : FA Try.prog 83 0 0 := .mk' ti83 rfl ti12 (by decide) rfl
instance fa83_1 : FA Try.prog 83 1 1 := .mk' ti83 rfl ti12 (by decide) rfl
instance fa83_2 : FA Try.prog 83 2 2 := .mk' ti83 rfl ti76 (by decide) rfl
instance fa83_3 : FA Try.prog 83 3 3 := .mk' ti83 rfl ti77 (by decide) rfl
instance fa83_4 : FA Try.prog 83 4 4 := .mk' ti83 rfl ti5 (by decide) rfl
instance fa83_5 : FA Try.prog 83 5 5 := .mk' ti83 rfl ti5 (by decide) rfl
instance fa83_6 : FA Try.prog 83 6 6 := .mk' ti83 rfl ti78 (by decide) rfl
instance fa83_8 : FA Try.prog 83 8 8 := .mk' ti83 rfl ti80 (by decide) rfl
instance fa83_9 : FA Try.prog 83 9 9 := .mk' ti83 rfl ti81 (by decide) rfl
instance fa83_10 : FA Try.prog 83 10 10 := .mk' ti83 rfl ti82 (by decide) rfl
instance fa84_0 : FA Try.prog 84 0 0 := .mk' ti84 rfl ti12 (by decide) rfl
instance fa84_1 : FA Try.prog 84 1 1 := .mk' ti84 rfl ti12 (by decide) rfl
instance fa84_2 : FA Try.prog 84 2 2 := .mk' ti84 rfl ti76 (by decide) rfl
instance fa84_3 : FA Try.prog 84 3 3 := .mk' ti84 rfl ti77 (by decide) rfl
instance fa84_4 : FA Try.prog 84 4 4 := .mk' ti84 rfl ti5 (by decide) rfl
instance fa84_5 : FA Try.prog 84 5 5 := .mk' ti84 rfl ti5 (by decide) rfl
instance fa84_6 : FA Try.prog 84 6 6 := .mk' ti84 rfl ti78 (by decide) rfl
instance fa84_8 : FA Try.prog 84 8 8 := .mk' ti84 rfl ti80 (by decide) rfl
instance fa84_9 : FA Try.prog 84 9 9 := .mk' ti84 rfl ti81 (by decide) rfl
instance fa84_10 : FA Try.prog 84 10 10 := .mk' ti84 rfl ti82 (by decide) rfl
instance eq28 : EQ Try.prog 28 [.int .i64, .int .i64] := .mk' ti28 (by kernel_rfl) (by kernel_rfl) (by kernel_rfl)
instance eq38 : EQ Try.prog 38 [.int .i64, .string, .int .i64] := .mk' ti38 (by kernel_rfl) (by kernel_rfl) (by kernel_rfl)
instance eq56 : EQ Try.prog 56 [.int .i64] := .mk' ti56 (by kernel_rfl) (by kernel_rfl) (by kernel_rfl)
instance pl7 : PL Try.prog 7 [(0, 1), (1, 1), (2, 1), (3, 1)] := ⟨by kernel_rfl⟩
instance pl8 : PL Try.prog 8 [(0, 1), (1, 1), (2, 1), (3, 1)] := ⟨by kernel_rfl⟩
instance pl13 : PL Try.prog 13 [(0, 1), (1, 1)] := ⟨by kernel_rfl⟩
instance pl14 : PL Try.prog 14 [(0, 1), (1, 1)] := ⟨by kernel_rfl⟩
instance pl18 : PL Try.prog 18 [(0, 1)] := ⟨by kernel_rfl⟩
instance pl19 : PL Try.prog 19 [(0, 1)] := ⟨by kernel_rfl⟩
instance pl27 : PL Try.prog 27 [(0, 1), (1, 1)] := ⟨by kernel_rfl⟩
instance pl28 : PL Try.prog 28 [(0, 1), (1, 1)] := ⟨by kernel_rfl⟩
instance pl31 : PL Try.prog 31 [(0, 1), (1, 1), (2, 1)] := ⟨by kernel_rfl⟩
instance pl32 : PL Try.prog 32 [(0, 1), (1, 1), (2, 1)] := ⟨by kernel_rfl⟩
instance pl37 : PL Try.prog 37 [(0, 1), (1, 1), (2, 1)] := ⟨by kernel_rfl⟩
instance pl38 : PL Try.prog 38 [(0, 1), (1, 1), (2, 1)] := ⟨by kernel_rfl⟩
instance pl39 : PL Try.prog 39 [(0, 3), (3, 1)] := ⟨by kernel_rfl⟩
instance pl40 : PL Try.prog 40 [(0, 3), (3, 1)] := ⟨by kernel_rfl⟩
instance pl50 : PL Try.prog 50 [(0, 1), (1, 1), (2, 1)] := ⟨by kernel_rfl⟩
instance pl51 : PL Try.prog 51 [(0, 1), (1, 1), (2, 1)] := ⟨by kernel_rfl⟩
instance pl52 : PL Try.prog 52 [(0, 1), (1, 1)] := ⟨by kernel_rfl⟩
instance pl53 : PL Try.prog 53 [(0, 1), (1, 1)] := ⟨by kernel_rfl⟩
instance pl55 : PL Try.prog 55 [(0, 1)] := ⟨by kernel_rfl⟩
instance pl56 : PL Try.prog 56 [(0, 1)] := ⟨by kernel_rfl⟩
instance pl70 : PL Try.prog 70 [(0, 1), (1, 1), (2, 1), (3, 1)] := ⟨by kernel_rfl⟩
instance pl71 : PL Try.prog 71 [(0, 1), (1, 1), (2, 1), (3, 1)] := ⟨by kernel_rfl⟩
instance : Mixed Try.prog := ⟨by kernel_rfl⟩
end Go.Proofs.Ytilldpmlcgikdaa.V
