/- Facts on the types of the program: cells, zero values, elements of slices. No condition. Printed by mktypes.py. -/
import Derived.Test.YtjclgbkfnliiaaaRows
import Derived.Test.YtjclgbkfnliiaaaOps
namespace Go.Proofs.Ytjclgbkfnliiaaa
instance : Ty1 Try.prog 2 := ⟨by kernel_rfl, by kernel_rfl⟩
instance : TyZ Try.prog 2 [.int .i64 0] := ⟨by kernel_rfl⟩
instance : Ty1 Try.prog 3 := ⟨by kernel_rfl, by kernel_rfl⟩
instance : TyZ Try.prog 3 [.int .i64 0] := ⟨by kernel_rfl⟩
instance : Ty1 Try.prog 4 := ⟨by kernel_rfl, by kernel_rfl⟩
instance : TyZ Try.prog 4 [.bool false] := ⟨by kernel_rfl⟩
instance : Ty1 Try.prog 5 := ⟨by kernel_rfl, by kernel_rfl⟩
instance : TyZ Try.prog 5 [.int .u8 0] := ⟨by kernel_rfl⟩
instance : Ty1 Try.prog 6 := ⟨by kernel_rfl, by kernel_rfl⟩
instance : TyZ Try.prog 6 [.int .u8 0] := ⟨by kernel_rfl⟩
instance : TyN Try.prog 7 4 := ⟨by kernel_rfl, by kernel_rfl⟩
instance : TyZ Try.prog 7 [.int .i64 0, .int .i64 0, .bool false, .int .u8 0] := ⟨by kernel_rfl⟩
instance : TyN Try.prog 8 4 := ⟨by kernel_rfl, by kernel_rfl⟩
instance : TyZ Try.prog 8 [.int .i64 0, .int .i64 0, .bool false, .int .u8 0] := ⟨by kernel_rfl⟩
instance : Ty1 Try.prog 9 := ⟨by kernel_rfl, by kernel_rfl⟩
instance : Ty1 Try.prog 10 := ⟨by kernel_rfl, by kernel_rfl⟩
instance : Ty1 Try.prog 11 := ⟨by kernel_rfl, by kernel_rfl⟩
instance : Ty1 Try.prog 12 := ⟨by kernel_rfl, by kernel_rfl⟩
instance : TyZ Try.prog 12 [.int .u64 0] := ⟨by kernel_rfl⟩
instance : TyN Try.prog 13 2 := ⟨by kernel_rfl, by kernel_rfl⟩
instance : TyN Try.prog 14 2 := ⟨by kernel_rfl, by kernel_rfl⟩
instance : Ty1 Try.prog 15 := ⟨by kernel_rfl, by kernel_rfl⟩
instance : TyZ Try.prog 15 [.pointer none] := ⟨by kernel_rfl⟩
instance : Ty1 Try.prog 16 := ⟨by kernel_rfl, by kernel_rfl⟩
instance : TyZ Try.prog 16 [.pointer none] := ⟨by kernel_rfl⟩
instance : Ty1 Try.prog 17 := ⟨by kernel_rfl, by kernel_rfl⟩
instance : TyZ Try.prog 17 [.pointer none] := ⟨by kernel_rfl⟩
instance : TyN Try.prog 18 1 := ⟨by kernel_rfl, by kernel_rfl⟩
instance : TyZ Try.prog 18 [.pointer none] := ⟨by kernel_rfl⟩
instance : TyN Try.prog 19 1 := ⟨by kernel_rfl, by kernel_rfl⟩
instance : TyZ Try.prog 19 [.pointer none] := ⟨by kernel_rfl⟩
instance : Ty1 Try.prog 20 := ⟨by kernel_rfl, by kernel_rfl⟩
instance : TyZ Try.prog 20 [.nilIface] := ⟨by kernel_rfl⟩
instance : Ty1 Try.prog 21 := ⟨by kernel_rfl, by kernel_rfl⟩
instance : TyZ Try.prog 21 [.int .i32 0] := ⟨by kernel_rfl⟩
instance : Ty1 Try.prog 22 := ⟨by kernel_rfl, by kernel_rfl⟩
instance : TyZ Try.prog 22 [.slice none 0 0] := ⟨by kernel_rfl⟩
instance : ElemC Try.prog 22 5 1 1 := ⟨ElemTy.mk' (z := .int .u8 0) Try.underlying22 (by kernel_rfl) rfl (by omega) (by omega)⟩
instance : Ty1 Try.prog 24 := ⟨by kernel_rfl, by kernel_rfl⟩
instance : TyZ Try.prog 24 [.slice none 0 0] := ⟨by kernel_rfl⟩
instance : ElemC Try.prog 24 3 1 8 := ⟨ElemTy.mk' (z := .int .i64 0) Try.underlying24 (by kernel_rfl) rfl (by omega) (by omega)⟩
instance : Ty1 Try.prog 25 := ⟨by kernel_rfl, by kernel_rfl⟩
instance : TyZ Try.prog 25 [.slice none 0 0] := ⟨by kernel_rfl⟩
instance : ElemC Try.prog 25 24 1 24 := ⟨ElemTy.mk' (z := .slice none 0 0) Try.underlying25 (by kernel_rfl) rfl (by omega) (by omega)⟩
instance : Ty1 Try.prog 26 := ⟨by kernel_rfl, by kernel_rfl⟩
instance : TyZ Try.prog 26 [.slice none 0 0] := ⟨by kernel_rfl⟩
instance : ElemC Try.prog 26 51 4 32 := ⟨ElemTy.mk' (z := .agg #[.int .i64 0, .int .i64 0, .int .i64 0, .int .i64 0]) Try.underlying26 (by kernel_rfl) rfl (by omega) (by omega)⟩
instance : TyN Try.prog 27 3 := ⟨by kernel_rfl, by kernel_rfl⟩
instance : TyZ Try.prog 27 [.slice none 0 0, .slice none 0 0, .slice none 0 0] := ⟨by kernel_rfl⟩
instance : TyN Try.prog 28 3 := ⟨by kernel_rfl, by kernel_rfl⟩
instance : TyZ Try.prog 28 [.slice none 0 0, .slice none 0 0, .slice none 0 0] := ⟨by kernel_rfl⟩
instance : Ty1 Try.prog 29 := ⟨by kernel_rfl, by kernel_rfl⟩
instance : TyZ Try.prog 29 [.pointer none] := ⟨by kernel_rfl⟩
instance : TyN Try.prog 34 3 := ⟨by kernel_rfl, by kernel_rfl⟩
instance : TyZ Try.prog 34 [.int .i64 0, .int .i64 0, .int .i64 0] := ⟨by kernel_rfl⟩
instance : Ty1 Try.prog 36 := ⟨by kernel_rfl, by kernel_rfl⟩
instance : TyZ Try.prog 36 [.slice none 0 0] := ⟨by kernel_rfl⟩
instance : ElemC Try.prog 36 34 3 24 := ⟨ElemTy.mk' (z := .agg #[.int .i64 0, .int .i64 0, .int .i64 0]) Try.underlying36 (by kernel_rfl) rfl (by omega) (by omega)⟩
instance : TyN Try.prog 50 4 := ⟨by kernel_rfl, by kernel_rfl⟩
instance : TyZ Try.prog 50 [.int .i64 0, .int .i64 0, .int .i64 0, .int .i64 0] := ⟨by kernel_rfl⟩
instance : TyN Try.prog 51 4 := ⟨by kernel_rfl, by kernel_rfl⟩
instance : TyZ Try.prog 51 [.int .i64 0, .int .i64 0, .int .i64 0, .int .i64 0] := ⟨by kernel_rfl⟩
instance : Ty1 Try.prog 53 := ⟨by kernel_rfl, by kernel_rfl⟩
instance : TyZ Try.prog 53 [.int .i64 0] := ⟨by kernel_rfl⟩
instance : Ty1 Try.prog 61 := ⟨by kernel_rfl, by kernel_rfl⟩
instance : TyZ Try.prog 61 [.slice none 0 0] := ⟨by kernel_rfl⟩
instance : ElemC Try.prog 61 63 2 16 := ⟨ElemTy.mk' (z := .agg #[.int .i64 0, .int .i64 0]) Try.underlying61 (by kernel_rfl) rfl (by omega) (by omega)⟩
instance : TyN Try.prog 62 2 := ⟨by kernel_rfl, by kernel_rfl⟩
instance : TyZ Try.prog 62 [.int .i64 0, .int .i64 0] := ⟨by kernel_rfl⟩
instance : TyN Try.prog 63 2 := ⟨by kernel_rfl, by kernel_rfl⟩
instance : TyZ Try.prog 63 [.int .i64 0, .int .i64 0] := ⟨by kernel_rfl⟩
instance : TyN Try.prog 66 2 := ⟨by kernel_rfl, by kernel_rfl⟩
instance : TyZ Try.prog 66 [.slice none 0 0, .int .i64 0] := ⟨by kernel_rfl⟩
instance : TyN Try.prog 67 2 := ⟨by kernel_rfl, by kernel_rfl⟩
instance : TyZ Try.prog 67 [.slice none 0 0, .int .i64 0] := ⟨by kernel_rfl⟩
instance : Ty1 Try.prog 80 := ⟨by kernel_rfl, by kernel_rfl⟩
instance : TyZ Try.prog 80 [.pointer none] := ⟨by kernel_rfl⟩
instance : Ty1 Try.prog 82 := ⟨by kernel_rfl, by kernel_rfl⟩
instance : TyZ Try.prog 82 [.pointer none] := ⟨by kernel_rfl⟩
instance : Ty1 Try.prog 88 := ⟨by kernel_rfl, by kernel_rfl⟩
instance : TyZ Try.prog 88 [.map none] := ⟨by kernel_rfl⟩
instance : Ty1 Try.prog 89 := ⟨by kernel_rfl, by kernel_rfl⟩
instance : TyZ Try.prog 89 [.map none] := ⟨by kernel_rfl⟩
instance : TyN Try.prog 90 3 := ⟨by kernel_rfl, by kernel_rfl⟩
instance : TyZ Try.prog 90 [.slice none 0 0, .map none, .map none] := ⟨by kernel_rfl⟩
instance : TyN Try.prog 91 3 := ⟨by kernel_rfl, by kernel_rfl⟩
instance : TyZ Try.prog 91 [.slice none 0 0, .map none, .map none] := ⟨by kernel_rfl⟩
instance : TyN Try.prog 95 4 := ⟨by kernel_rfl, by kernel_rfl⟩
instance : TyN Try.prog 96 4 := ⟨by kernel_rfl, by kernel_rfl⟩
instance : Ty1 Try.prog 101 := ⟨by kernel_rfl, by kernel_rfl⟩
instance : TyZ Try.prog 101 [.int .u32 0] := ⟨by kernel_rfl⟩
instance : Ty1 Try.prog 102 := ⟨by kernel_rfl, by kernel_rfl⟩
instance : TyZ Try.prog 102 [.int .u8 0] := ⟨by kernel_rfl⟩
instance : Ty1 Try.prog 103 := ⟨by kernel_rfl, by kernel_rfl⟩
instance : TyZ Try.prog 103 [.int .u8 0] := ⟨by kernel_rfl⟩
instance : Ty1 Try.prog 105 := ⟨by kernel_rfl, by kernel_rfl⟩
instance : TyZ Try.prog 105 [.pointer none] := ⟨by kernel_rfl⟩
instance : Ty1 Try.prog 106 := ⟨by kernel_rfl, by kernel_rfl⟩
instance : TyZ Try.prog 106 [.int .i32 0] := ⟨by kernel_rfl⟩
instance : Ty1 Try.prog 107 := ⟨by kernel_rfl, by kernel_rfl⟩
instance : TyZ Try.prog 107 [.int .i32 0] := ⟨by kernel_rfl⟩
instance : TyN Try.prog 108 11 := ⟨by kernel_rfl, by kernel_rfl⟩
instance : TyZ Try.prog 108 [.int .u64 0, .int .u64 0, .int .u32 0, .int .u8 0, .int .u8 0, .int .u8 0, .int .u8 0, .nilFunc, .pointer none, .int .i32 0, .int .i32 0] := ⟨by kernel_rfl⟩
instance : TyN Try.prog 109 11 := ⟨by kernel_rfl, by kernel_rfl⟩
instance : TyZ Try.prog 109 [.int .u64 0, .int .u64 0, .int .u32 0, .int .u8 0, .int .u8 0, .int .u8 0, .int .u8 0, .nilFunc, .pointer none, .int .i32 0, .int .i32 0] := ⟨by kernel_rfl⟩
instance : Ty1 Try.prog 110 := ⟨by kernel_rfl, by kernel_rfl⟩
instance : TyZ Try.prog 110 [.pointer none] := ⟨by kernel_rfl⟩
end Go.Proofs.Ytjclgbkfnliiaaa
