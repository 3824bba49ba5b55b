/- Facts on the types of the program: cells, zero values, elements of slices. No condition. Printed by mktypes.py. -/
import Derived.Test.YtkaofbjppibdkaaRows
import Derived.Test.YtkaofbjppibdkaaOps
namespace Go.Proofs.Ytkaofbjppibdkaa
instance : Ty1 Try.prog 2 := ⟨by kernel_rfl, by kernel_rfl⟩
instance : TyZ Try.prog 2 [.int .i64 0] := ⟨by kernel_rfl⟩
instance : Ty1 Try.prog 3 := ⟨by kernel_rfl, by kernel_rfl⟩
instance : TyZ Try.prog 3 [.int .i64 0] := ⟨by kernel_rfl⟩
instance : Ty1 Try.prog 4 := ⟨by kernel_rfl, by kernel_rfl⟩
instance : TyZ Try.prog 4 [.bool false] := ⟨by kernel_rfl⟩
instance : Ty1 Try.prog 5 := ⟨by kernel_rfl, by kernel_rfl⟩
instance : TyZ Try.prog 5 [.int .u8 0] := ⟨by kernel_rfl⟩
instance : Ty1 Try.prog 6 := ⟨by kernel_rfl, by kernel_rfl⟩
instance : TyZ Try.prog 6 [.int .u8 0] := ⟨by kernel_rfl⟩
instance : TyN Try.prog 7 4 := ⟨by kernel_rfl, by kernel_rfl⟩
instance : TyZ Try.prog 7 [.int .i64 0, .int .i64 0, .bool false, .int .u8 0] := ⟨by kernel_rfl⟩
instance : TyN Try.prog 8 4 := ⟨by kernel_rfl, by kernel_rfl⟩
instance : TyZ Try.prog 8 [.int .i64 0, .int .i64 0, .bool false, .int .u8 0] := ⟨by kernel_rfl⟩
instance : Ty1 Try.prog 9 := ⟨by kernel_rfl, by kernel_rfl⟩
instance : Ty1 Try.prog 10 := ⟨by kernel_rfl, by kernel_rfl⟩
instance : Ty1 Try.prog 11 := ⟨by kernel_rfl, by kernel_rfl⟩
instance : Ty1 Try.prog 12 := ⟨by kernel_rfl, by kernel_rfl⟩
instance : TyZ Try.prog 12 [.int .u64 0] := ⟨by kernel_rfl⟩
instance : TyN Try.prog 13 2 := ⟨by kernel_rfl, by kernel_rfl⟩
instance : TyN Try.prog 14 2 := ⟨by kernel_rfl, by kernel_rfl⟩
instance : Ty1 Try.prog 15 := ⟨by kernel_rfl, by kernel_rfl⟩
instance : TyZ Try.prog 15 [.pointer none] := ⟨by kernel_rfl⟩
instance : Ty1 Try.prog 16 := ⟨by kernel_rfl, by kernel_rfl⟩
instance : TyZ Try.prog 16 [.pointer none] := ⟨by kernel_rfl⟩
instance : Ty1 Try.prog 17 := ⟨by kernel_rfl, by kernel_rfl⟩
instance : TyZ Try.prog 17 [.pointer none] := ⟨by kernel_rfl⟩
instance : TyN Try.prog 18 1 := ⟨by kernel_rfl, by kernel_rfl⟩
instance : TyZ Try.prog 18 [.pointer none] := ⟨by kernel_rfl⟩
instance : TyN Try.prog 19 1 := ⟨by kernel_rfl, by kernel_rfl⟩
instance : TyZ Try.prog 19 [.pointer none] := ⟨by kernel_rfl⟩
instance : Ty1 Try.prog 20 := ⟨by kernel_rfl, by kernel_rfl⟩
instance : TyZ Try.prog 20 [.nilIface] := ⟨by kernel_rfl⟩
instance : Ty1 Try.prog 21 := ⟨by kernel_rfl, by kernel_rfl⟩
instance : TyZ Try.prog 21 [.int .i32 0] := ⟨by kernel_rfl⟩
instance : Ty1 Try.prog 22 := ⟨by kernel_rfl, by kernel_rfl⟩
instance : TyZ Try.prog 22 [.slice none 0 0] := ⟨by kernel_rfl⟩
instance : ElemC Try.prog 22 3 1 8 := ⟨ElemTy.mk' (z := .int .i64 0) Try.underlying22 (by kernel_rfl) rfl (by omega) (by omega)⟩
instance : Ty1 Try.prog 24 := ⟨by kernel_rfl, by kernel_rfl⟩
instance : TyZ Try.prog 24 [.slice none 0 0] := ⟨by kernel_rfl⟩
instance : ElemC Try.prog 24 46 1 24 := ⟨ElemTy.mk' (z := .slice none 0 0) Try.underlying24 (by kernel_rfl) rfl (by omega) (by omega)⟩
instance : Ty1 Try.prog 25 := ⟨by kernel_rfl, by kernel_rfl⟩
instance : TyZ Try.prog 25 [.slice none 0 0] := ⟨by kernel_rfl⟩
instance : ElemC Try.prog 25 4 1 1 := ⟨ElemTy.mk' (z := .bool false) Try.underlying25 (by kernel_rfl) rfl (by omega) (by omega)⟩
instance : Ty1 Try.prog 26 := ⟨by kernel_rfl, by kernel_rfl⟩
instance : TyZ Try.prog 26 [.slice none 0 0] := ⟨by kernel_rfl⟩
instance : ElemC Try.prog 26 22 1 24 := ⟨ElemTy.mk' (z := .slice none 0 0) Try.underlying26 (by kernel_rfl) rfl (by omega) (by omega)⟩
instance : TyN Try.prog 27 7 := ⟨by kernel_rfl, by kernel_rfl⟩
instance : TyZ Try.prog 27 [.slice none 0 0, .slice none 0 0, .slice none 0 0, .slice none 0 0, .slice none 0 0, .slice none 0 0, .slice none 0 0] := ⟨by kernel_rfl⟩
instance : TyN Try.prog 28 7 := ⟨by kernel_rfl, by kernel_rfl⟩
instance : TyZ Try.prog 28 [.slice none 0 0, .slice none 0 0, .slice none 0 0, .slice none 0 0, .slice none 0 0, .slice none 0 0, .slice none 0 0] := ⟨by kernel_rfl⟩
instance : Ty1 Try.prog 29 := ⟨by kernel_rfl, by kernel_rfl⟩
instance : TyZ Try.prog 29 [.int .i64 0] := ⟨by kernel_rfl⟩
instance : Ty1 Try.prog 34 := ⟨by kernel_rfl, by kernel_rfl⟩
instance : TyZ Try.prog 34 [.slice none 0 0] := ⟨by kernel_rfl⟩
instance : ElemC Try.prog 34 5 1 1 := ⟨ElemTy.mk' (z := .int .u8 0) Try.underlying34 (by kernel_rfl) rfl (by omega) (by omega)⟩
instance : Ty1 Try.prog 35 := ⟨by kernel_rfl, by kernel_rfl⟩
instance : TyZ Try.prog 35 [.slice none 0 0] := ⟨by kernel_rfl⟩
instance : ElemC Try.prog 35 40 4 32 := ⟨ElemTy.mk' (z := .agg #[.int .i64 0, .int .i64 0, .int .i64 0, .int .i64 0]) Try.underlying35 (by kernel_rfl) rfl (by omega) (by omega)⟩
instance : TyN Try.prog 39 4 := ⟨by kernel_rfl, by kernel_rfl⟩
instance : TyZ Try.prog 39 [.int .i64 0, .int .i64 0, .int .i64 0, .int .i64 0] := ⟨by kernel_rfl⟩
instance : TyN Try.prog 40 4 := ⟨by kernel_rfl, by kernel_rfl⟩
instance : TyZ Try.prog 40 [.int .i64 0, .int .i64 0, .int .i64 0, .int .i64 0] := ⟨by kernel_rfl⟩
instance : Ty1 Try.prog 46 := ⟨by kernel_rfl, by kernel_rfl⟩
instance : TyZ Try.prog 46 [.slice none 0 0] := ⟨by kernel_rfl⟩
instance : ElemC Try.prog 46 48 2 16 := ⟨ElemTy.mk' (z := .agg #[.bool false, .int .i64 0]) Try.underlying46 (by kernel_rfl) rfl (by omega) (by omega)⟩
instance : TyN Try.prog 47 2 := ⟨by kernel_rfl, by kernel_rfl⟩
instance : TyZ Try.prog 47 [.bool false, .int .i64 0] := ⟨by kernel_rfl⟩
instance : TyN Try.prog 48 2 := ⟨by kernel_rfl, by kernel_rfl⟩
instance : TyZ Try.prog 48 [.bool false, .int .i64 0] := ⟨by kernel_rfl⟩
instance : Ty1 Try.prog 51 := ⟨by kernel_rfl, by kernel_rfl⟩
instance : TyZ Try.prog 51 [.pointer none] := ⟨by kernel_rfl⟩
instance : Ty1 Try.prog 52 := ⟨by kernel_rfl, by kernel_rfl⟩
instance : TyZ Try.prog 52 [.slice none 0 0] := ⟨by kernel_rfl⟩
instance : ElemC Try.prog 52 62 4 32 := ⟨ElemTy.mk' (z := .agg #[.int .i64 0, .int .i64 0, .int .i64 0, .int .i64 0]) Try.underlying52 (by kernel_rfl) rfl (by omega) (by omega)⟩
instance : TyN Try.prog 53 3 := ⟨by kernel_rfl, by kernel_rfl⟩
instance : TyZ Try.prog 53 [.slice none 0 0, .slice none 0 0, .slice none 0 0] := ⟨by kernel_rfl⟩
instance : TyN Try.prog 54 3 := ⟨by kernel_rfl, by kernel_rfl⟩
instance : TyZ Try.prog 54 [.slice none 0 0, .slice none 0 0, .slice none 0 0] := ⟨by kernel_rfl⟩
instance : TyN Try.prog 55 5 := ⟨by kernel_rfl, by kernel_rfl⟩
instance : TyZ Try.prog 55 [.slice none 0 0, .slice none 0 0, .slice none 0 0, .slice none 0 0, .slice none 0 0] := ⟨by kernel_rfl⟩
instance : TyN Try.prog 56 5 := ⟨by kernel_rfl, by kernel_rfl⟩
instance : TyZ Try.prog 56 [.slice none 0 0, .slice none 0 0, .slice none 0 0, .slice none 0 0, .slice none 0 0] := ⟨by kernel_rfl⟩
instance : TyN Try.prog 61 4 := ⟨by kernel_rfl, by kernel_rfl⟩
instance : TyZ Try.prog 61 [.int .i64 0, .int .i64 0, .int .i64 0, .int .i64 0] := ⟨by kernel_rfl⟩
instance : TyN Try.prog 62 4 := ⟨by kernel_rfl, by kernel_rfl⟩
instance : TyZ Try.prog 62 [.int .i64 0, .int .i64 0, .int .i64 0, .int .i64 0] := ⟨by kernel_rfl⟩
instance : Ty1 Try.prog 66 := ⟨by kernel_rfl, by kernel_rfl⟩
instance : TyZ Try.prog 66 [.pointer none] := ⟨by kernel_rfl⟩
instance : Ty1 Try.prog 71 := ⟨by kernel_rfl, by kernel_rfl⟩
instance : TyZ Try.prog 71 [.pointer none] := ⟨by kernel_rfl⟩
instance : TyN Try.prog 75 7 := ⟨by kernel_rfl, by kernel_rfl⟩
instance : TyZ Try.prog 75 [.slice none 0 0, .slice none 0 0, .slice none 0 0, .slice none 0 0, .slice none 0 0, .slice none 0 0, .slice none 0 0] := ⟨by kernel_rfl⟩
instance : TyN Try.prog 76 7 := ⟨by kernel_rfl, by kernel_rfl⟩
instance : TyZ Try.prog 76 [.slice none 0 0, .slice none 0 0, .slice none 0 0, .slice none 0 0, .slice none 0 0, .slice none 0 0, .slice none 0 0] := ⟨by kernel_rfl⟩
instance : Ty1 Try.prog 81 := ⟨by kernel_rfl, by kernel_rfl⟩
instance : TyZ Try.prog 81 [.pointer none] := ⟨by kernel_rfl⟩
instance : Ty1 Try.prog 89 := ⟨by kernel_rfl, by kernel_rfl⟩
instance : TyZ Try.prog 89 [.pointer none] := ⟨by kernel_rfl⟩
instance : TyN Try.prog 90 2 := ⟨by kernel_rfl, by kernel_rfl⟩
instance : TyZ Try.prog 90 [.slice none 0 0, .int .i64 0] := ⟨by kernel_rfl⟩
instance : TyN Try.prog 91 2 := ⟨by kernel_rfl, by kernel_rfl⟩
instance : TyZ Try.prog 91 [.slice none 0 0, .int .i64 0] := ⟨by kernel_rfl⟩
instance : TyN Try.prog 102 4 := ⟨by kernel_rfl, by kernel_rfl⟩
instance : TyN Try.prog 103 4 := ⟨by kernel_rfl, by kernel_rfl⟩
instance : Ty1 Try.prog 107 := ⟨by kernel_rfl, by kernel_rfl⟩
instance : TyZ Try.prog 107 [.int .u32 0] := ⟨by kernel_rfl⟩
instance : Ty1 Try.prog 108 := ⟨by kernel_rfl, by kernel_rfl⟩
instance : TyZ Try.prog 108 [.int .u8 0] := ⟨by kernel_rfl⟩
instance : Ty1 Try.prog 109 := ⟨by kernel_rfl, by kernel_rfl⟩
instance : TyZ Try.prog 109 [.int .u8 0] := ⟨by kernel_rfl⟩
instance : Ty1 Try.prog 111 := ⟨by kernel_rfl, by kernel_rfl⟩
instance : TyZ Try.prog 111 [.pointer none] := ⟨by kernel_rfl⟩
instance : Ty1 Try.prog 112 := ⟨by kernel_rfl, by kernel_rfl⟩
instance : TyZ Try.prog 112 [.int .i32 0] := ⟨by kernel_rfl⟩
instance : Ty1 Try.prog 113 := ⟨by kernel_rfl, by kernel_rfl⟩
instance : TyZ Try.prog 113 [.int .i32 0] := ⟨by kernel_rfl⟩
instance : TyN Try.prog 114 11 := ⟨by kernel_rfl, by kernel_rfl⟩
instance : TyZ Try.prog 114 [.int .u64 0, .int .u64 0, .int .u32 0, .int .u8 0, .int .u8 0, .int .u8 0, .int .u8 0, .nilFunc, .pointer none, .int .i32 0, .int .i32 0] := ⟨by kernel_rfl⟩
instance : TyN Try.prog 115 11 := ⟨by kernel_rfl, by kernel_rfl⟩
instance : TyZ Try.prog 115 [.int .u64 0, .int .u64 0, .int .u32 0, .int .u8 0, .int .u8 0, .int .u8 0, .int .u8 0, .nilFunc, .pointer none, .int .i32 0, .int .i32 0] := ⟨by kernel_rfl⟩
instance : Ty1 Try.prog 116 := ⟨by kernel_rfl, by kernel_rfl⟩
instance : TyZ Try.prog 116 [.pointer none] := ⟨by kernel_rfl⟩
end Go.Proofs.Ytkaofbjppibdkaa
