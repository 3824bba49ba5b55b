/- Facts on the types of the program: cells, zero values, elements of slices. No condition. Printed by mktypes.py. -/
import Derived.Test.YtmjmdncdmmcmaaaRows
import Derived.Test.YtmjmdncdmmcmaaaOps
namespace Go.Proofs.Ytmjmdncdmmcmaaa
instance : Ty1 Try.prog 2 := ⟨by kernel_rfl, by kernel_rfl⟩
instance : TyZ Try.prog 2 [.int .i64 0] := ⟨by kernel_rfl⟩
instance : Ty1 Try.prog 3 := ⟨by kernel_rfl, by kernel_rfl⟩
instance : TyZ Try.prog 3 [.int .i64 0] := ⟨by kernel_rfl⟩
instance : Ty1 Try.prog 4 := ⟨by kernel_rfl, by kernel_rfl⟩
instance : TyZ Try.prog 4 [.bool false] := ⟨by kernel_rfl⟩
instance : Ty1 Try.prog 5 := ⟨by kernel_rfl, by kernel_rfl⟩
instance : TyZ Try.prog 5 [.int .u8 0] := ⟨by kernel_rfl⟩
instance : Ty1 Try.prog 6 := ⟨by kernel_rfl, by kernel_rfl⟩
instance : TyZ Try.prog 6 [.int .u8 0] := ⟨by kernel_rfl⟩
instance : TyN Try.prog 7 4 := ⟨by kernel_rfl, by kernel_rfl⟩
instance : TyZ Try.prog 7 [.int .i64 0, .int .i64 0, .bool false, .int .u8 0] := ⟨by kernel_rfl⟩
instance : TyN Try.prog 8 4 := ⟨by kernel_rfl, by kernel_rfl⟩
instance : TyZ Try.prog 8 [.int .i64 0, .int .i64 0, .bool false, .int .u8 0] := ⟨by kernel_rfl⟩
instance : Ty1 Try.prog 9 := ⟨by kernel_rfl, by kernel_rfl⟩
instance : Ty1 Try.prog 10 := ⟨by kernel_rfl, by kernel_rfl⟩
instance : Ty1 Try.prog 11 := ⟨by kernel_rfl, by kernel_rfl⟩
instance : Ty1 Try.prog 12 := ⟨by kernel_rfl, by kernel_rfl⟩
instance : TyZ Try.prog 12 [.int .u64 0] := ⟨by kernel_rfl⟩
instance : TyN Try.prog 13 2 := ⟨by kernel_rfl, by kernel_rfl⟩
instance : TyN Try.prog 14 2 := ⟨by kernel_rfl, by kernel_rfl⟩
instance : Ty1 Try.prog 15 := ⟨by kernel_rfl, by kernel_rfl⟩
instance : TyZ Try.prog 15 [.pointer none] := ⟨by kernel_rfl⟩
instance : Ty1 Try.prog 16 := ⟨by kernel_rfl, by kernel_rfl⟩
instance : TyZ Try.prog 16 [.pointer none] := ⟨by kernel_rfl⟩
instance : Ty1 Try.prog 17 := ⟨by kernel_rfl, by kernel_rfl⟩
instance : TyZ Try.prog 17 [.pointer none] := ⟨by kernel_rfl⟩
instance : TyN Try.prog 18 1 := ⟨by kernel_rfl, by kernel_rfl⟩
instance : TyZ Try.prog 18 [.pointer none] := ⟨by kernel_rfl⟩
instance : TyN Try.prog 19 1 := ⟨by kernel_rfl, by kernel_rfl⟩
instance : TyZ Try.prog 19 [.pointer none] := ⟨by kernel_rfl⟩
instance : Ty1 Try.prog 20 := ⟨by kernel_rfl, by kernel_rfl⟩
instance : TyZ Try.prog 20 [.nilIface] := ⟨by kernel_rfl⟩
instance : Ty1 Try.prog 21 := ⟨by kernel_rfl, by kernel_rfl⟩
instance : TyZ Try.prog 21 [.int .i32 0] := ⟨by kernel_rfl⟩
instance : Ty1 Try.prog 22 := ⟨by kernel_rfl, by kernel_rfl⟩
instance : TyZ Try.prog 22 [.slice none 0 0] := ⟨by kernel_rfl⟩
instance : ElemC Try.prog 22 27 2 32 := ⟨ElemTy.mk' (z := .agg #[.int .i64 0, .slice none 0 0]) Try.underlying22 (by kernel_rfl) rfl (by omega) (by omega)⟩
instance : Ty1 Try.prog 25 := ⟨by kernel_rfl, by kernel_rfl⟩
instance : TyZ Try.prog 25 [.slice none 0 0] := ⟨by kernel_rfl⟩
instance : ElemC Try.prog 25 3 1 8 := ⟨ElemTy.mk' (z := .int .i64 0) Try.underlying25 (by kernel_rfl) rfl (by omega) (by omega)⟩
instance : TyN Try.prog 26 2 := ⟨by kernel_rfl, by kernel_rfl⟩
instance : TyZ Try.prog 26 [.int .i64 0, .slice none 0 0] := ⟨by kernel_rfl⟩
instance : TyN Try.prog 27 2 := ⟨by kernel_rfl, by kernel_rfl⟩
instance : TyZ Try.prog 27 [.int .i64 0, .slice none 0 0] := ⟨by kernel_rfl⟩
instance : Ty1 Try.prog 31 := ⟨by kernel_rfl, by kernel_rfl⟩
instance : TyZ Try.prog 31 [.slice none 0 0] := ⟨by kernel_rfl⟩
instance : ElemC Try.prog 31 5 1 1 := ⟨ElemTy.mk' (z := .int .u8 0) Try.underlying31 (by kernel_rfl) rfl (by omega) (by omega)⟩
instance : Ty1 Try.prog 32 := ⟨by kernel_rfl, by kernel_rfl⟩
instance : TyZ Try.prog 32 [.pointer none] := ⟨by kernel_rfl⟩
instance : Ty1 Try.prog 36 := ⟨by kernel_rfl, by kernel_rfl⟩
instance : TyZ Try.prog 36 [.int .i64 0] := ⟨by kernel_rfl⟩
instance : Ty1 Try.prog 41 := ⟨by kernel_rfl, by kernel_rfl⟩
instance : TyZ Try.prog 41 [.slice none 0 0] := ⟨by kernel_rfl⟩
instance : ElemC Try.prog 41 25 1 24 := ⟨ElemTy.mk' (z := .slice none 0 0) Try.underlying41 (by kernel_rfl) rfl (by omega) (by omega)⟩
instance : Ty1 Try.prog 42 := ⟨by kernel_rfl, by kernel_rfl⟩
instance : TyZ Try.prog 42 [.slice none 0 0] := ⟨by kernel_rfl⟩
instance : ElemC Try.prog 42 84 4 32 := ⟨ElemTy.mk' (z := .agg #[.int .i64 0, .int .i64 0, .int .i64 0, .int .i64 0]) Try.underlying42 (by kernel_rfl) rfl (by omega) (by omega)⟩
instance : TyN Try.prog 43 3 := ⟨by kernel_rfl, by kernel_rfl⟩
instance : TyZ Try.prog 43 [.slice none 0 0, .slice none 0 0, .slice none 0 0] := ⟨by kernel_rfl⟩
instance : TyN Try.prog 44 3 := ⟨by kernel_rfl, by kernel_rfl⟩
instance : TyZ Try.prog 44 [.slice none 0 0, .slice none 0 0, .slice none 0 0] := ⟨by kernel_rfl⟩
instance : Ty1 Try.prog 52 := ⟨by kernel_rfl, by kernel_rfl⟩
instance : TyZ Try.prog 52 [.slice none 0 0] := ⟨by kernel_rfl⟩
instance : ElemC Try.prog 52 4 1 1 := ⟨ElemTy.mk' (z := .bool false) Try.underlying52 (by kernel_rfl) rfl (by omega) (by omega)⟩
instance : Ty1 Try.prog 53 := ⟨by kernel_rfl, by kernel_rfl⟩
instance : TyZ Try.prog 53 [.slice none 0 0] := ⟨by kernel_rfl⟩
instance : ElemC Try.prog 53 97 3 24 := ⟨ElemTy.mk' (z := .agg #[.int .i64 0, .int .i64 0, .int .i64 0]) Try.underlying53 (by kernel_rfl) rfl (by omega) (by omega)⟩
instance : TyN Try.prog 54 12 := ⟨by kernel_rfl, by kernel_rfl⟩
instance : TyZ Try.prog 54 [.slice none 0 0, .slice none 0 0, .slice none 0 0, .int .i64 0, .slice none 0 0, .slice none 0 0, .slice none 0 0, .slice none 0 0, .slice none 0 0, .slice none 0 0, .slice none 0 0, .slice none 0 0] := ⟨by kernel_rfl⟩
instance : TyN Try.prog 55 12 := ⟨by kernel_rfl, by kernel_rfl⟩
instance : TyZ Try.prog 55 [.slice none 0 0, .slice none 0 0, .slice none 0 0, .int .i64 0, .slice none 0 0, .slice none 0 0, .slice none 0 0, .slice none 0 0, .slice none 0 0, .slice none 0 0, .slice none 0 0, .slice none 0 0] := ⟨by kernel_rfl⟩
instance : Ty1 Try.prog 70 := ⟨by kernel_rfl, by kernel_rfl⟩
instance : TyZ Try.prog 70 [.map none] := ⟨by kernel_rfl⟩
instance : TyN Try.prog 71 2 := ⟨by kernel_rfl, by kernel_rfl⟩
instance : TyZ Try.prog 71 [.slice none 0 0, .slice none 0 0] := ⟨by kernel_rfl⟩
instance : TyN Try.prog 76 2 := ⟨by kernel_rfl, by kernel_rfl⟩
instance : TyZ Try.prog 76 [.slice none 0 0, .int .i64 0] := ⟨by kernel_rfl⟩
instance : TyN Try.prog 77 2 := ⟨by kernel_rfl, by kernel_rfl⟩
instance : TyZ Try.prog 77 [.slice none 0 0, .int .i64 0] := ⟨by kernel_rfl⟩
instance : TyN Try.prog 83 4 := ⟨by kernel_rfl, by kernel_rfl⟩
instance : TyZ Try.prog 83 [.int .i64 0, .int .i64 0, .int .i64 0, .int .i64 0] := ⟨by kernel_rfl⟩
instance : TyN Try.prog 84 4 := ⟨by kernel_rfl, by kernel_rfl⟩
instance : TyZ Try.prog 84 [.int .i64 0, .int .i64 0, .int .i64 0, .int .i64 0] := ⟨by kernel_rfl⟩
instance : Ty1 Try.prog 89 := ⟨by kernel_rfl, by kernel_rfl⟩
instance : TyZ Try.prog 89 [.pointer none] := ⟨by kernel_rfl⟩
instance : TyN Try.prog 90 12 := ⟨by kernel_rfl, by kernel_rfl⟩
instance : TyZ Try.prog 90 [.slice none 0 0, .slice none 0 0, .slice none 0 0, .int .i64 0, .slice none 0 0, .slice none 0 0, .slice none 0 0, .slice none 0 0, .slice none 0 0, .slice none 0 0, .slice none 0 0, .slice none 0 0] := ⟨by kernel_rfl⟩
instance : TyN Try.prog 91 12 := ⟨by kernel_rfl, by kernel_rfl⟩
instance : TyZ Try.prog 91 [.slice none 0 0, .slice none 0 0, .slice none 0 0, .int .i64 0, .slice none 0 0, .slice none 0 0, .slice none 0 0, .slice none 0 0, .slice none 0 0, .slice none 0 0, .slice none 0 0, .slice none 0 0] := ⟨by kernel_rfl⟩
instance : Ty1 Try.prog 95 := ⟨by kernel_rfl, by kernel_rfl⟩
instance : TyZ Try.prog 95 [.pointer none] := ⟨by kernel_rfl⟩
instance : TyN Try.prog 96 3 := ⟨by kernel_rfl, by kernel_rfl⟩
instance : TyZ Try.prog 96 [.int .i64 0, .int .i64 0, .int .i64 0] := ⟨by kernel_rfl⟩
instance : TyN Try.prog 97 3 := ⟨by kernel_rfl, by kernel_rfl⟩
instance : TyZ Try.prog 97 [.int .i64 0, .int .i64 0, .int .i64 0] := ⟨by kernel_rfl⟩
instance : Ty1 Try.prog 111 := ⟨by kernel_rfl, by kernel_rfl⟩
instance : TyZ Try.prog 111 [.int .u64 0] := ⟨by kernel_rfl⟩
instance : Ty1 Try.prog 121 := ⟨by kernel_rfl, by kernel_rfl⟩
instance : TyZ Try.prog 121 [.pointer none] := ⟨by kernel_rfl⟩
instance : Ty1 Try.prog 124 := ⟨by kernel_rfl, by kernel_rfl⟩
instance : TyZ Try.prog 124 [.slice none 0 0] := ⟨by kernel_rfl⟩
instance : ElemC Try.prog 124 53 1 24 := ⟨ElemTy.mk' (z := .slice none 0 0) Try.underlying124 (by kernel_rfl) rfl (by omega) (by omega)⟩
instance : Ty1 Try.prog 129 := ⟨by kernel_rfl, by kernel_rfl⟩
instance : TyZ Try.prog 129 [.int .i64 0] := ⟨by kernel_rfl⟩
instance : Ty1 Try.prog 138 := ⟨by kernel_rfl, by kernel_rfl⟩
instance : TyZ Try.prog 138 [.int .u32 0] := ⟨by kernel_rfl⟩
instance : Ty1 Try.prog 140 := ⟨by kernel_rfl, by kernel_rfl⟩
instance : TyZ Try.prog 140 [.int .u64 0] := ⟨by kernel_rfl⟩
instance : Ty1 Try.prog 143 := ⟨by kernel_rfl, by kernel_rfl⟩
instance : TyZ Try.prog 143 [.int .u64 0] := ⟨by kernel_rfl⟩
instance : Ty1 Try.prog 147 := ⟨by kernel_rfl, by kernel_rfl⟩
instance : TyZ Try.prog 147 [.pointer none] := ⟨by kernel_rfl⟩
instance : Ty1 Try.prog 150 := ⟨by kernel_rfl, by kernel_rfl⟩
instance : TyZ Try.prog 150 [.pointer none] := ⟨by kernel_rfl⟩
instance : TyN Try.prog 154 4 := ⟨by kernel_rfl, by kernel_rfl⟩
instance : TyN Try.prog 155 4 := ⟨by kernel_rfl, by kernel_rfl⟩
instance : Ty1 Try.prog 159 := ⟨by kernel_rfl, by kernel_rfl⟩
instance : TyZ Try.prog 159 [.int .u8 0] := ⟨by kernel_rfl⟩
instance : Ty1 Try.prog 160 := ⟨by kernel_rfl, by kernel_rfl⟩
instance : TyZ Try.prog 160 [.int .u8 0] := ⟨by kernel_rfl⟩
instance : Ty1 Try.prog 162 := ⟨by kernel_rfl, by kernel_rfl⟩
instance : TyZ Try.prog 162 [.pointer none] := ⟨by kernel_rfl⟩
instance : Ty1 Try.prog 163 := ⟨by kernel_rfl, by kernel_rfl⟩
instance : TyZ Try.prog 163 [.int .i32 0] := ⟨by kernel_rfl⟩
instance : Ty1 Try.prog 164 := ⟨by kernel_rfl, by kernel_rfl⟩
instance : TyZ Try.prog 164 [.int .i32 0] := ⟨by kernel_rfl⟩
instance : TyN Try.prog 165 11 := ⟨by kernel_rfl, by kernel_rfl⟩
instance : TyZ Try.prog 165 [.int .u64 0, .int .u64 0, .int .u32 0, .int .u8 0, .int .u8 0, .int .u8 0, .int .u8 0, .nilFunc, .pointer none, .int .i32 0, .int .i32 0] := ⟨by kernel_rfl⟩
instance : TyN Try.prog 166 11 := ⟨by kernel_rfl, by kernel_rfl⟩
instance : TyZ Try.prog 166 [.int .u64 0, .int .u64 0, .int .u32 0, .int .u8 0, .int .u8 0, .int .u8 0, .int .u8 0, .nilFunc, .pointer none, .int .i32 0, .int .i32 0] := ⟨by kernel_rfl⟩
instance : Ty1 Try.prog 167 := ⟨by kernel_rfl, by kernel_rfl⟩
instance : TyZ Try.prog 167 [.pointer none] := ⟨by kernel_rfl⟩
end Go.Proofs.Ytmjmdncdmmcmaaa
