/- Facts on the types of the program: cells, zero values, elements of slices. No condition. Printed by mktypes.py. -/
import Derived.Test.YtkflmichekpfbaaRows
import Derived.Test.YtkflmichekpfbaaOps
namespace Go.Proofs.Ytkflmichekpfbaa
instance : Ty1 Try.prog 2 := ⟨by kernel_rfl, by kernel_rfl⟩
instance : TyZ Try.prog 2 [.int .i64 0] := ⟨by kernel_rfl⟩
instance : Ty1 Try.prog 3 := ⟨by kernel_rfl, by kernel_rfl⟩
instance : TyZ Try.prog 3 [.int .i64 0] := ⟨by kernel_rfl⟩
instance : Ty1 Try.prog 4 := ⟨by kernel_rfl, by kernel_rfl⟩
instance : TyZ Try.prog 4 [.bool false] := ⟨by kernel_rfl⟩
instance : Ty1 Try.prog 5 := ⟨by kernel_rfl, by kernel_rfl⟩
instance : TyZ Try.prog 5 [.int .u8 0] := ⟨by kernel_rfl⟩
instance : Ty1 Try.prog 6 := ⟨by kernel_rfl, by kernel_rfl⟩
instance : TyZ Try.prog 6 [.int .u8 0] := ⟨by kernel_rfl⟩
instance : TyN Try.prog 7 4 := ⟨by kernel_rfl, by kernel_rfl⟩
instance : TyZ Try.prog 7 [.int .i64 0, .int .i64 0, .bool false, .int .u8 0] := ⟨by kernel_rfl⟩
instance : TyN Try.prog 8 4 := ⟨by kernel_rfl, by kernel_rfl⟩
instance : TyZ Try.prog 8 [.int .i64 0, .int .i64 0, .bool false, .int .u8 0] := ⟨by kernel_rfl⟩
instance : Ty1 Try.prog 9 := ⟨by kernel_rfl, by kernel_rfl⟩
instance : Ty1 Try.prog 10 := ⟨by kernel_rfl, by kernel_rfl⟩
instance : Ty1 Try.prog 11 := ⟨by kernel_rfl, by kernel_rfl⟩
instance : Ty1 Try.prog 12 := ⟨by kernel_rfl, by kernel_rfl⟩
instance : TyZ Try.prog 12 [.int .u64 0] := ⟨by kernel_rfl⟩
instance : TyN Try.prog 13 2 := ⟨by kernel_rfl, by kernel_rfl⟩
instance : TyN Try.prog 14 2 := ⟨by kernel_rfl, by kernel_rfl⟩
instance : Ty1 Try.prog 15 := ⟨by kernel_rfl, by kernel_rfl⟩
instance : TyZ Try.prog 15 [.pointer none] := ⟨by kernel_rfl⟩
instance : Ty1 Try.prog 16 := ⟨by kernel_rfl, by kernel_rfl⟩
instance : TyZ Try.prog 16 [.pointer none] := ⟨by kernel_rfl⟩
instance : Ty1 Try.prog 17 := ⟨by kernel_rfl, by kernel_rfl⟩
instance : TyZ Try.prog 17 [.pointer none] := ⟨by kernel_rfl⟩
instance : TyN Try.prog 18 1 := ⟨by kernel_rfl, by kernel_rfl⟩
instance : TyZ Try.prog 18 [.pointer none] := ⟨by kernel_rfl⟩
instance : TyN Try.prog 19 1 := ⟨by kernel_rfl, by kernel_rfl⟩
instance : TyZ Try.prog 19 [.pointer none] := ⟨by kernel_rfl⟩
instance : Ty1 Try.prog 20 := ⟨by kernel_rfl, by kernel_rfl⟩
instance : TyZ Try.prog 20 [.nilIface] := ⟨by kernel_rfl⟩
instance : Ty1 Try.prog 21 := ⟨by kernel_rfl, by kernel_rfl⟩
instance : TyZ Try.prog 21 [.int .i32 0] := ⟨by kernel_rfl⟩
instance : Ty1 Try.prog 22 := ⟨by kernel_rfl, by kernel_rfl⟩
instance : TyZ Try.prog 22 [.slice none 0 0] := ⟨by kernel_rfl⟩
instance : ElemC Try.prog 22 5 1 1 := ⟨ElemTy.mk' (z := .int .u8 0) Try.underlying22 (by kernel_rfl) rfl (by omega) (by omega)⟩
instance : Ty1 Try.prog 24 := ⟨by kernel_rfl, by kernel_rfl⟩
instance : TyZ Try.prog 24 [.slice none 0 0] := ⟨by kernel_rfl⟩
instance : ElemC Try.prog 24 3 1 8 := ⟨ElemTy.mk' (z := .int .i64 0) Try.underlying24 (by kernel_rfl) rfl (by omega) (by omega)⟩
instance : Ty1 Try.prog 25 := ⟨by kernel_rfl, by kernel_rfl⟩
instance : TyZ Try.prog 25 [.slice none 0 0] := ⟨by kernel_rfl⟩
instance : ElemC Try.prog 25 24 1 24 := ⟨ElemTy.mk' (z := .slice none 0 0) Try.underlying25 (by kernel_rfl) rfl (by omega) (by omega)⟩
instance : Ty1 Try.prog 26 := ⟨by kernel_rfl, by kernel_rfl⟩
instance : TyZ Try.prog 26 [.slice none 0 0] := ⟨by kernel_rfl⟩
instance : ElemC Try.prog 26 57 4 32 := ⟨ElemTy.mk' (z := .agg #[.int .i64 0, .int .i64 0, .int .i64 0, .int .i64 0]) Try.underlying26 (by kernel_rfl) rfl (by omega) (by omega)⟩
instance : TyN Try.prog 27 3 := ⟨by kernel_rfl, by kernel_rfl⟩
instance : TyZ Try.prog 27 [.slice none 0 0, .slice none 0 0, .slice none 0 0] := ⟨by kernel_rfl⟩
instance : TyN Try.prog 28 3 := ⟨by kernel_rfl, by kernel_rfl⟩
instance : TyZ Try.prog 28 [.slice none 0 0, .slice none 0 0, .slice none 0 0] := ⟨by kernel_rfl⟩
instance : Ty1 Try.prog 29 := ⟨by kernel_rfl, by kernel_rfl⟩
instance : TyZ Try.prog 29 [.pointer none] := ⟨by kernel_rfl⟩
instance : Ty1 Try.prog 32 := ⟨by kernel_rfl, by kernel_rfl⟩
instance : TyZ Try.prog 32 [.slice none 0 0] := ⟨by kernel_rfl⟩
instance : ElemC Try.prog 32 37 2 16 := ⟨ElemTy.mk' (z := .agg #[.int .i64 0, .int .i64 0]) Try.underlying32 (by kernel_rfl) rfl (by omega) (by omega)⟩
instance : TyN Try.prog 36 2 := ⟨by kernel_rfl, by kernel_rfl⟩
instance : TyZ Try.prog 36 [.int .i64 0, .int .i64 0] := ⟨by kernel_rfl⟩
instance : TyN Try.prog 37 2 := ⟨by kernel_rfl, by kernel_rfl⟩
instance : TyZ Try.prog 37 [.int .i64 0, .int .i64 0] := ⟨by kernel_rfl⟩
instance : TyN Try.prog 56 4 := ⟨by kernel_rfl, by kernel_rfl⟩
instance : TyZ Try.prog 56 [.int .i64 0, .int .i64 0, .int .i64 0, .int .i64 0] := ⟨by kernel_rfl⟩
instance : TyN Try.prog 57 4 := ⟨by kernel_rfl, by kernel_rfl⟩
instance : TyZ Try.prog 57 [.int .i64 0, .int .i64 0, .int .i64 0, .int .i64 0] := ⟨by kernel_rfl⟩
instance : TyN Try.prog 59 2 := ⟨by kernel_rfl, by kernel_rfl⟩
instance : TyZ Try.prog 59 [.slice none 0 0, .int .i64 0] := ⟨by kernel_rfl⟩
instance : TyN Try.prog 60 2 := ⟨by kernel_rfl, by kernel_rfl⟩
instance : TyZ Try.prog 60 [.slice none 0 0, .int .i64 0] := ⟨by kernel_rfl⟩
instance : Ty1 Try.prog 64 := ⟨by kernel_rfl, by kernel_rfl⟩
instance : TyZ Try.prog 64 [.pointer none] := ⟨by kernel_rfl⟩
instance : Ty1 Try.prog 67 := ⟨by kernel_rfl, by kernel_rfl⟩
instance : TyZ Try.prog 67 [.slice none 0 0] := ⟨by kernel_rfl⟩
instance : ElemC Try.prog 67 25 1 24 := ⟨ElemTy.mk' (z := .slice none 0 0) Try.underlying67 (by kernel_rfl) rfl (by omega) (by omega)⟩
instance : Ty1 Try.prog 69 := ⟨by kernel_rfl, by kernel_rfl⟩
instance : TyZ Try.prog 69 [.map none] := ⟨by kernel_rfl⟩
instance : Ty1 Try.prog 72 := ⟨by kernel_rfl, by kernel_rfl⟩
instance : TyZ Try.prog 72 [.map none] := ⟨by kernel_rfl⟩
instance : Ty1 Try.prog 73 := ⟨by kernel_rfl, by kernel_rfl⟩
instance : TyZ Try.prog 73 [.map none] := ⟨by kernel_rfl⟩
instance : TyN Try.prog 74 3 := ⟨by kernel_rfl, by kernel_rfl⟩
instance : TyZ Try.prog 74 [.slice none 0 0, .map none, .map none] := ⟨by kernel_rfl⟩
instance : TyN Try.prog 75 3 := ⟨by kernel_rfl, by kernel_rfl⟩
instance : TyZ Try.prog 75 [.slice none 0 0, .map none, .map none] := ⟨by kernel_rfl⟩
instance : TyN Try.prog 80 5 := ⟨by kernel_rfl, by kernel_rfl⟩
instance : TyZ Try.prog 80 [.int .i64 0, .int .i64 0, .int .i64 0, .int .i64 0, .int .i64 0] := ⟨by kernel_rfl⟩
instance : TyN Try.prog 81 5 := ⟨by kernel_rfl, by kernel_rfl⟩
instance : TyZ Try.prog 81 [.int .i64 0, .int .i64 0, .int .i64 0, .int .i64 0, .int .i64 0] := ⟨by kernel_rfl⟩
instance : Ty1 Try.prog 88 := ⟨by kernel_rfl, by kernel_rfl⟩
instance : TyZ Try.prog 88 [.int .i64 0] := ⟨by kernel_rfl⟩
instance : Ty1 Try.prog 98 := ⟨by kernel_rfl, by kernel_rfl⟩
instance : TyZ Try.prog 98 [.pointer none] := ⟨by kernel_rfl⟩
instance : TyN Try.prog 101 4 := ⟨by kernel_rfl, by kernel_rfl⟩
instance : TyN Try.prog 102 4 := ⟨by kernel_rfl, by kernel_rfl⟩
instance : Ty1 Try.prog 107 := ⟨by kernel_rfl, by kernel_rfl⟩
instance : TyZ Try.prog 107 [.int .u32 0] := ⟨by kernel_rfl⟩
instance : Ty1 Try.prog 108 := ⟨by kernel_rfl, by kernel_rfl⟩
instance : TyZ Try.prog 108 [.int .u8 0] := ⟨by kernel_rfl⟩
instance : Ty1 Try.prog 109 := ⟨by kernel_rfl, by kernel_rfl⟩
instance : TyZ Try.prog 109 [.int .u8 0] := ⟨by kernel_rfl⟩
instance : Ty1 Try.prog 111 := ⟨by kernel_rfl, by kernel_rfl⟩
instance : TyZ Try.prog 111 [.pointer none] := ⟨by kernel_rfl⟩
instance : Ty1 Try.prog 112 := ⟨by kernel_rfl, by kernel_rfl⟩
instance : TyZ Try.prog 112 [.int .i32 0] := ⟨by kernel_rfl⟩
instance : Ty1 Try.prog 113 := ⟨by kernel_rfl, by kernel_rfl⟩
instance : TyZ Try.prog 113 [.int .i32 0] := ⟨by kernel_rfl⟩
instance : TyN Try.prog 114 11 := ⟨by kernel_rfl, by kernel_rfl⟩
instance : TyZ Try.prog 114 [.int .u64 0, .int .u64 0, .int .u32 0, .int .u8 0, .int .u8 0, .int .u8 0, .int .u8 0, .nilFunc, .pointer none, .int .i32 0, .int .i32 0] := ⟨by kernel_rfl⟩
instance : TyN Try.prog 115 11 := ⟨by kernel_rfl, by kernel_rfl⟩
instance : TyZ Try.prog 115 [.int .u64 0, .int .u64 0, .int .u32 0, .int .u8 0, .int .u8 0, .int .u8 0, .int .u8 0, .nilFunc, .pointer none, .int .i32 0, .int .i32 0] := ⟨by kernel_rfl⟩
instance : Ty1 Try.prog 116 := ⟨by kernel_rfl, by kernel_rfl⟩
instance : TyZ Try.prog 116 [.pointer none] := ⟨by kernel_rfl⟩
end Go.Proofs.Ytkflmichekpfbaa
