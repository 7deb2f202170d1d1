/- What the types of this program are. -/
import Derived.Test.YtbpjlpokmnmmmaaVB
import Derived.Test.YtbpjlpokmnmmmaaProg
import Derived.ProofKit
set_option linter.unusedVariables false
namespace Go.Proofs.Ytbpjlpokmnmmmaa.V
open Go
instance ti2 : TI Try.prog 2 (.int .i64) 1 8 (.int .i64 0) := .mk' (by kernel_rfl) (by kernel_rfl)
instance ti3 : TI Try.prog 3 (.int .i64) 1 8 (.int .i64 0) := .mk' (by kernel_rfl) (by kernel_rfl)
instance ti4 : TI Try.prog 4 (.bool) 1 1 (.bool false) := .mk' (by kernel_rfl) (by kernel_rfl)
instance ti5 : TI Try.prog 5 (.int .u8) 1 1 (.int .u8 0) := .mk' (by kernel_rfl) (by kernel_rfl)
instance ti6 : TI Try.prog 6 (.int .u8) 1 1 (.int .u8 0) := .mk' (by kernel_rfl) (by kernel_rfl)
instance ti7 : TI Try.prog 7 (.struct #[{ name := "x", type := 2, offset := 0, embedded := false, tag := "", pkgPath := "runtime", byteOffset := 0 }, { name := "y", type := 3, offset := 1, embedded := false, tag := "", pkgPath := "runtime", byteOffset := 8 }, { name := "signed", type := 4, offset := 2, embedded := false, tag := "", pkgPath := "runtime", byteOffset := 16 }, { name := "code", type := 6, offset := 3, embedded := false, tag := "", pkgPath := "runtime", byteOffset := 17 }]) 4 24 (.agg #[(.int .i64 0), (.int .i64 0), (.bool false), (.int .u8 0)]) := .mk' (by kernel_rfl) (by kernel_rfl)
instance ti8 : TI Try.prog 8 (.struct #[{ name := "x", type := 2, offset := 0, embedded := false, tag := "", pkgPath := "runtime", byteOffset := 0 }, { name := "y", type := 3, offset := 1, embedded := false, tag := "", pkgPath := "runtime", byteOffset := 8 }, { name := "signed", type := 4, offset := 2, embedded := false, tag := "", pkgPath := "runtime", byteOffset := 16 }, { name := "code", type := 6, offset := 3, embedded := false, tag := "", pkgPath := "runtime", byteOffset := 17 }]) 4 24 (.agg #[(.int .i64 0), (.int .i64 0), (.bool false), (.int .u8 0)]) := .mk' (by kernel_rfl) (by kernel_rfl)
instance ti9 : TI Try.prog 9 (.string) 1 16 (.string ⟨#[]⟩) := .mk' (by kernel_rfl) (by kernel_rfl)
instance ti10 : TI Try.prog 10 (.string) 1 16 (.string ⟨#[]⟩) := .mk' (by kernel_rfl) (by kernel_rfl)
instance ti11 : TI Try.prog 11 (.string) 1 16 (.string ⟨#[]⟩) := .mk' (by kernel_rfl) (by kernel_rfl)
instance ti12 : TI Try.prog 12 (.int .u64) 1 8 (.int .u64 0) := .mk' (by kernel_rfl) (by kernel_rfl)
instance ti13 : TI Try.prog 13 (.struct #[{ name := "msg", type := 9, offset := 0, embedded := false, tag := "", pkgPath := "runtime", byteOffset := 0 }, { name := "addr", type := 12, offset := 1, embedded := false, tag := "", pkgPath := "runtime", byteOffset := 16 }]) 2 24 (.agg #[(.string ⟨#[]⟩), (.int .u64 0)]) := .mk' (by kernel_rfl) (by kernel_rfl)
instance ti14 : TI Try.prog 14 (.struct #[{ name := "msg", type := 9, offset := 0, embedded := false, tag := "", pkgPath := "runtime", byteOffset := 0 }, { name := "addr", type := 12, offset := 1, embedded := false, tag := "", pkgPath := "runtime", byteOffset := 16 }]) 2 24 (.agg #[(.string ⟨#[]⟩), (.int .u64 0)]) := .mk' (by kernel_rfl) (by kernel_rfl)
instance ti15 : TI Try.prog 15 (.pointer 92) 1 8 (.pointer none) := .mk' (by kernel_rfl) (by kernel_rfl)
instance ti16 : TI Try.prog 16 (.pointer 95) 1 8 (.pointer none) := .mk' (by kernel_rfl) (by kernel_rfl)
instance ti17 : TI Try.prog 17 (.pointer 104) 1 8 (.pointer none) := .mk' (by kernel_rfl) (by kernel_rfl)
instance ti18 : TI Try.prog 18 (.struct #[{ name := "typ", type := 17, offset := 0, embedded := false, tag := "", pkgPath := "internal/runtime/maps", byteOffset := 0 }]) 1 8 (.agg #[(.pointer none)]) := .mk' (by kernel_rfl) (by kernel_rfl)
instance ti19 : TI Try.prog 19 (.struct #[{ name := "typ", type := 17, offset := 0, embedded := false, tag := "", pkgPath := "internal/runtime/maps", byteOffset := 0 }]) 1 8 (.agg #[(.pointer none)]) := .mk' (by kernel_rfl) (by kernel_rfl)
instance ti20 : TI Try.prog 20 (.interface #[]) 1 16 .nilIface := .mk' (by kernel_rfl) (by kernel_rfl)
instance ti21 : TI Try.prog 21 (.int .i32) 1 4 (.int .i32 0) := .mk' (by kernel_rfl) (by kernel_rfl)
instance ti22 : TI Try.prog 22 (.slice 47) 1 24 (.slice none 0 0) := .mk' (by kernel_rfl) (by kernel_rfl)
instance ti23 : TI Try.prog 23 (.struct #[{ name := "Edges", type := 22, offset := 0, embedded := false, tag := "", pkgPath := "", byteOffset := 0 }]) 1 24 (.agg #[(.slice none 0 0)]) := .mk' (by kernel_rfl) (by kernel_rfl)
instance ti24 : TI Try.prog 24 (.struct #[{ name := "Edges", type := 22, offset := 0, embedded := false, tag := "", pkgPath := "", byteOffset := 0 }]) 1 24 (.agg #[(.slice none 0 0)]) := .mk' (by kernel_rfl) (by kernel_rfl)
instance ti25 : TI Try.prog 25 (.slice 3) 1 24 (.slice none 0 0) := .mk' (by kernel_rfl) (by kernel_rfl)
instance ti29 : TI Try.prog 29 (.int .i64) 1 8 (.int .i64 0) := .mk' (by kernel_rfl) (by kernel_rfl)
instance ti33 : TI Try.prog 33 (.struct #[{ name := "L", type := 25, offset := 0, embedded := false, tag := "", pkgPath := "", byteOffset := 0 }, { name := "OK", type := 4, offset := 1, embedded := false, tag := "", pkgPath := "", byteOffset := 24 }]) 2 32 (.agg #[(.slice none 0 0), (.bool false)]) := .mk' (by kernel_rfl) (by kernel_rfl)
instance ti34 : TI Try.prog 34 (.struct #[{ name := "L", type := 25, offset := 0, embedded := false, tag := "", pkgPath := "", byteOffset := 0 }, { name := "OK", type := 4, offset := 1, embedded := false, tag := "", pkgPath := "", byteOffset := 24 }]) 2 32 (.agg #[(.slice none 0 0), (.bool false)]) := .mk' (by kernel_rfl) (by kernel_rfl)
instance ti41 : TI Try.prog 41 (.slice 43) 1 24 (.slice none 0 0) := .mk' (by kernel_rfl) (by kernel_rfl)
instance ti43 : TI Try.prog 43 (.int .u16) 1 2 (.int .u16 0) := .mk' (by kernel_rfl) (by kernel_rfl)
instance ti47 : TI Try.prog 47 (.slice 49) 1 24 (.slice none 0 0) := .mk' (by kernel_rfl) (by kernel_rfl)
instance ti48 : TI Try.prog 48 (.struct #[{ name := "Label", type := 3, offset := 0, embedded := false, tag := "", pkgPath := "", byteOffset := 0 }, { name := "To", type := 3, offset := 1, embedded := false, tag := "", pkgPath := "", byteOffset := 8 }]) 2 16 (.agg #[(.int .i64 0), (.int .i64 0)]) := .mk' (by kernel_rfl) (by kernel_rfl)
instance ti49 : TI Try.prog 49 (.struct #[{ name := "Label", type := 3, offset := 0, embedded := false, tag := "", pkgPath := "", byteOffset := 0 }, { name := "To", type := 3, offset := 1, embedded := false, tag := "", pkgPath := "", byteOffset := 8 }]) 2 16 (.agg #[(.int .i64 0), (.int .i64 0)]) := .mk' (by kernel_rfl) (by kernel_rfl)
instance ti53 : TI Try.prog 53 (.slice 4) 1 24 (.slice none 0 0) := .mk' (by kernel_rfl) (by kernel_rfl)
instance ti58 : TI Try.prog 58 (.chan .both 3) 1 8 (.chan none) := .mk' (by kernel_rfl) (by kernel_rfl)
instance ti62 : TI Try.prog 62 (.int .u64) 1 8 (.int .u64 0) := .mk' (by kernel_rfl) (by kernel_rfl)
instance ti68 : TI Try.prog 68 (.int .i64) 1 8 (.int .i64 0) := .mk' (by kernel_rfl) (by kernel_rfl)
instance ti77 : TI Try.prog 77 (.int .u32) 1 4 (.int .u32 0) := .mk' (by kernel_rfl) (by kernel_rfl)
instance ti79 : TI Try.prog 79 (.int .u64) 1 8 (.int .u64 0) := .mk' (by kernel_rfl) (by kernel_rfl)
instance ti81 : TI Try.prog 81 (.int .u64) 1 8 (.int .u64 0) := .mk' (by kernel_rfl) (by kernel_rfl)
instance ti85 : TI Try.prog 85 (.pointer 3) 1 8 (.pointer none) := .mk' (by kernel_rfl) (by kernel_rfl)
instance ti87 : TI Try.prog 87 (.pointer 81) 1 8 (.pointer none) := .mk' (by kernel_rfl) (by kernel_rfl)
instance ti91 : TI Try.prog 91 (.struct #[{ name := "_interface", type := 17, offset := 0, embedded := false, tag := "", pkgPath := "runtime", byteOffset := 0 }, { name := "concrete", type := 17, offset := 1, embedded := false, tag := "", pkgPath := "runtime", byteOffset := 8 }, { name := "asserted", type := 17, offset := 2, embedded := false, tag := "", pkgPath := "runtime", byteOffset := 16 }, { name := "missingMethod", type := 9, offset := 3, embedded := false, tag := "", pkgPath := "runtime", byteOffset := 24 }]) 4 40 (.agg #[(.pointer none), (.pointer none), (.pointer none), (.string ⟨#[]⟩)]) := .mk' (by kernel_rfl) (by kernel_rfl)
instance ti92 : TI Try.prog 92 (.struct #[{ name := "_interface", type := 17, offset := 0, embedded := false, tag := "", pkgPath := "runtime", byteOffset := 0 }, { name := "concrete", type := 17, offset := 1, embedded := false, tag := "", pkgPath := "runtime", byteOffset := 8 }, { name := "asserted", type := 17, offset := 2, embedded := false, tag := "", pkgPath := "runtime", byteOffset := 16 }, { name := "missingMethod", type := 9, offset := 3, embedded := false, tag := "", pkgPath := "runtime", byteOffset := 24 }]) 4 40 (.agg #[(.pointer none), (.pointer none), (.pointer none), (.string ⟨#[]⟩)]) := .mk' (by kernel_rfl) (by kernel_rfl)
instance ti97 : TI Try.prog 97 (.int .u8) 1 1 (.int .u8 0) := .mk' (by kernel_rfl) (by kernel_rfl)
instance ti98 : TI Try.prog 98 (.int .u8) 1 1 (.int .u8 0) := .mk' (by kernel_rfl) (by kernel_rfl)
instance ti100 : TI Try.prog 100 (.pointer 5) 1 8 (.pointer none) := .mk' (by kernel_rfl) (by kernel_rfl)
instance ti101 : TI Try.prog 101 (.int .i32) 1 4 (.int .i32 0) := .mk' (by kernel_rfl) (by kernel_rfl)
instance ti102 : TI Try.prog 102 (.int .i32) 1 4 (.int .i32 0) := .mk' (by kernel_rfl) (by kernel_rfl)
instance ti103 : TI Try.prog 103 (.struct #[{ name := "Size_", type := 12, offset := 0, embedded := false, tag := "", pkgPath := "", byteOffset := 0 }, { name := "PtrBytes", type := 12, offset := 1, embedded := false, tag := "", pkgPath := "", byteOffset := 8 }, { name := "Hash", type := 77, offset := 2, embedded := false, tag := "", pkgPath := "", byteOffset := 16 }, { name := "TFlag", type := 97, offset := 3, embedded := false, tag := "", pkgPath := "", byteOffset := 20 }, { name := "Align_", type := 5, offset := 4, embedded := false, tag := "", pkgPath := "", byteOffset := 21 }, { name := "FieldAlign_", type := 5, offset := 5, embedded := false, tag := "", pkgPath := "", byteOffset := 22 }, { name := "Kind_", type := 98, offset := 6, embedded := false, tag := "", pkgPath := "", byteOffset := 23 }, { name := "Equal", type := 99, offset := 7, embedded := false, tag := "", pkgPath := "", byteOffset := 24 }, { name := "GCData", type := 100, offset := 8, embedded := false, tag := "", pkgPath := "", byteOffset := 32 }, { name := "Str", type := 101, offset := 9, embedded := false, tag := "", pkgPath := "", byteOffset := 40 }, { name := "PtrToThis", type := 102, offset := 10, embedded := false, tag := "", pkgPath := "", byteOffset := 44 }]) 11 48 (.agg #[(.int .u64 0), (.int .u64 0), (.int .u32 0), (.int .u8 0), (.int .u8 0), (.int .u8 0), (.int .u8 0), .nilFunc, (.pointer none), (.int .i32 0), (.int .i32 0)]) := .mk' (by kernel_rfl) (by kernel_rfl)
instance ti104 : TI Try.prog 104 (.struct #[{ name := "Size_", type := 12, offset := 0, embedded := false, tag := "", pkgPath := "", byteOffset := 0 }, { name := "PtrBytes", type := 12, offset := 1, embedded := false, tag := "", pkgPath := "", byteOffset := 8 }, { name := "Hash", type := 77, offset := 2, embedded := false, tag := "", pkgPath := "", byteOffset := 16 }, { name := "TFlag", type := 97, offset := 3, embedded := false, tag := "", pkgPath := "", byteOffset := 20 }, { name := "Align_", type := 5, offset := 4, embedded := false, tag := "", pkgPath := "", byteOffset := 21 }, { name := "FieldAlign_", type := 5, offset := 5, embedded := false, tag := "", pkgPath := "", byteOffset := 22 }, { name := "Kind_", type := 98, offset := 6, embedded := false, tag := "", pkgPath := "", byteOffset := 23 }, { name := "Equal", type := 99, offset := 7, embedded := false, tag := "", pkgPath := "", byteOffset := 24 }, { name := "GCData", type := 100, offset := 8, embedded := false, tag := "", pkgPath := "", byteOffset := 32 }, { name := "Str", type := 101, offset := 9, embedded := false, tag := "", pkgPath := "", byteOffset := 40 }, { name := "PtrToThis", type := 102, offset := 10, embedded := false, tag := "", pkgPath := "", byteOffset := 44 }]) 11 48 (.agg #[(.int .u64 0), (.int .u64 0), (.int .u32 0), (.int .u8 0), (.int .u8 0), (.int .u8 0), (.int .u8 0), .nilFunc, (.pointer none), (.int .i32 0), (.int .i32 0)]) := .mk' (by kernel_rfl) (by kernel_rfl)
instance fa7_0 : FA Try.prog 7 0 0 := .mk' ti7 rfl ti2 (by decide) rfl
instance fa7_1 : FA Try.prog 7 1 1 := .mk' ti7 rfl ti3 (by decide) rfl
instance fa7_2 : FA Try.prog 7 2 2 := .mk' ti7 rfl ti4 (by decide) rfl
instance fa7_3 : FA Try.prog 7 3 3 := .mk' ti7 rfl ti6 (by decide) rfl
instance fa8_0 : FA Try.prog 8 0 0 := .mk' ti8 rfl ti2 (by decide) rfl
instance fa8_1 : FA Try.prog 8 1 1 := .mk' ti8 rfl ti3 (by decide) rfl
instance fa8_2 : FA Try.prog 8 2 2 := .mk' ti8 rfl ti4 (by decide) rfl
instance fa8_3 : FA Try.prog 8 3 3 := .mk' ti8 rfl ti6 (by decide) rfl
instance fa13_0 : FA Try.prog 13 0 0 := .mk' ti13 rfl ti9 (by decide) rfl
instance fa13_1 : FA Try.prog 13 1 1 := .mk' ti13 rfl ti12 (by decide) rfl
instance fa14_0 : FA Try.prog 14 0 0 := .mk' ti14 rfl ti9 (by decide) rfl
instance fa14_1 : FA Try.prog 14 1 1 := .mk' ti14 rfl ti12 (by decide) rfl
instance fa18_0 : FA Try.prog 18 0 0 := .mk' ti18 rfl ti17 (by decide) rfl
instance fa19_0 : FA Try.prog 19 0 0 := .mk' ti19 rfl ti17 (by decide) rfl
instance fa23_0 : FA Try.prog 23 0 0 := .mk' ti23 rfl ti22 (by decide) rfl
instance fa24_0 : FA Try.prog 24 0 0 := .mk' ti24 rfl ti22 (by decide) rfl
instance fa33_0 : FA Try.prog 33 0 0 := .mk' ti33 rfl ti25 (by decide) rfl
instance fa33_1 : FA Try.prog 33 1 1 := .mk' ti33 rfl ti4 (by decide) rfl
instance fa34_0 : FA Try.prog 34 0 0 := .mk' ti34 rfl ti25 (by decide) rfl
instance fa34_1 : FA Try.prog 34 1 1 := .mk' ti34 rfl ti4 (by decide) rfl
instance fa48_0 : FA Try.prog 48 0 0 := .mk' ti48 rfl ti3 (by decide) rfl
instance fa48_1 : FA Try.prog 48 1 1 := .mk' ti48 rfl ti3 (by decide) rfl
instance fa49_0 : FA Try.prog 49 0 0 := .mk' ti49 rfl ti3 (by decide) rfl
instance fa49_1 : FA Try.prog 49 1 1 := .mk' ti49 rfl ti3 (by decide) rfl
instance fa91_0 : FA Try.prog 91 0 0 := .mk' ti91 rfl ti17 (by decide) rfl
instance fa91_1 : FA Try.prog 91 1 1 := .mk' ti91 rfl ti17 (by decide) rfl
instance fa91_2 : FA Try.prog 91 2 2 := .mk' ti91 rfl ti17 (by decide) rfl
instance fa91_3 : FA Try.prog 91 3 3 := .mk' ti91 rfl ti9 (by decide) rfl
instance fa92_0 : FA Try.prog 92 0 0 := .mk' ti92 rfl ti17 (by decide) rfl
instance fa92_1 : FA Try.prog 92 1 1 := .mk' ti92 rfl ti17 (by decide) rfl
instance fa92_2 : FA Try.prog 92 2 2 := .mk' ti92 rfl ti17 (by decide) rfl
instance fa92_3 : FA Try.prog 92 3 3 := .mk' ti92 rfl ti9 (by decide) rfl
instance fa103_0 : FA Try.prog 103 0 0 := .mk' ti103 rfl ti12 (by decide) rfl
instance fa103_1 : FA Try.prog 103 1 1 := .mk' ti103 rfl ti12 (by decide) rfl
instance fa103_2 : FA Try.prog 103 2 2 := .mk' ti103 rfl ti77 (by decide) rfl
instance fa103_3 : FA Try.prog 103 3 3 := .mk' ti103 rfl ti97 (by decide) rfl
instance fa103_4 : FA Try.prog 103 4 4 := .mk' ti103 rfl ti5 (by decide) rfl
instance fa103_5 : FA Try.prog 103 5 5 := .mk' ti103 rfl ti5 (by decide) rfl
instance fa103_6 : FA Try.prog 103 6 6 := .mk' ti103 rfl ti98 (by decide) rfl
instance fa103_8 : FA Try.prog 103 8 8 := .mk' ti103 rfl ti100 (by decide) rfl
instance fa103_9 : FA Try.prog 103 9 9 := .mk' ti103 rfl ti101 (by decide) rfl
instance fa103_10 : FA Try.prog 103 10 10 := .mk' ti103 rfl ti102 (by decide) rfl
instance fa104_0 : FA Try.prog 104 0 0 := .mk' ti104 rfl ti12 (by decide) rfl
instance fa104_1 : FA Try.prog 104 1 1 := .mk' ti104 rfl ti12 (by decide) rfl
instance fa104_2 : FA Try.prog 104 2 2 := .mk' ti104 rfl ti77 (by decide) rfl
instance fa104_3 : FA Try.prog 104 3 3 := .mk' ti104 rfl ti97 (by decide) rfl
instance fa104_4 : FA Try.prog 104 4 4 := .mk' ti104 rfl ti5 (by decide) rfl
instance fa104_5 : FA Try.prog 104 5 5 := .mk' ti104 rfl ti5 (by decide) rfl
instance fa104_6 : FA Try.prog 104 6 6 := .mk' ti104 rfl ti98 (by decide) rfl
instance fa104_8 : FA Try.prog 104 8 8 := .mk' ti104 rfl ti100 (by decide) rfl
instance fa104_9 : FA Try.prog 104 9 9 := .mk' ti104 rfl ti101 (by decide) rfl
instance fa104_10 : FA Try.prog 104 10 10 := .mk' ti104 rfl ti102 (by decide) rfl
instance eq49 : EQ Try.prog 49 [.int .i64, .int .i64] := .mk' ti49 (by kernel_rfl) (by kernel_rfl) (by kernel_rfl)
instance pl7 : PL Try.prog 7 [(0, 1), (1, 1), (2, 1), (3, 1)] := ⟨by kernel_rfl⟩
instance pl8 : PL Try.prog 8 [(0, 1), (1, 1), (2, 1), (3, 1)] := ⟨by kernel_rfl⟩
instance pl13 : PL Try.prog 13 [(0, 1), (1, 1)] := ⟨by kernel_rfl⟩
instance pl14 : PL Try.prog 14 [(0, 1), (1, 1)] := ⟨by kernel_rfl⟩
instance pl18 : PL Try.prog 18 [(0, 1)] := ⟨by kernel_rfl⟩
instance pl19 : PL Try.prog 19 [(0, 1)] := ⟨by kernel_rfl⟩
instance pl23 : PL Try.prog 23 [(0, 1)] := ⟨by kernel_rfl⟩
instance pl24 : PL Try.prog 24 [(0, 1)] := ⟨by kernel_rfl⟩
instance pl33 : PL Try.prog 33 [(0, 1), (1, 1)] := ⟨by kernel_rfl⟩
instance pl34 : PL Try.prog 34 [(0, 1), (1, 1)] := ⟨by kernel_rfl⟩
instance pl48 : PL Try.prog 48 [(0, 1), (1, 1)] := ⟨by kernel_rfl⟩
instance pl49 : PL Try.prog 49 [(0, 1), (1, 1)] := ⟨by kernel_rfl⟩
instance pl91 : PL Try.prog 91 [(0, 1), (1, 1), (2, 1), (3, 1)] := ⟨by kernel_rfl⟩
instance pl92 : PL Try.prog 92 [(0, 1), (1, 1), (2, 1), (3, 1)] := ⟨by kernel_rfl⟩
instance : Mixed Try.prog := ⟨by kernel_rfl⟩
end Go.Proofs.Ytbpjlpokmnmmmaa.V
