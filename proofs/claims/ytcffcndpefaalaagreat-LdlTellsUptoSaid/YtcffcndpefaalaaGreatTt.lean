/- The types of this place's program, as the symbolic evaluator wants them; each row is asked of the program itself. Written by gentt.py. -/
import Derived.Test.YtcffcndpefaalaaGreatProg
import Derived.Test.YtcffcndpefaalaaGreatSx4
set_option linter.unusedVariables false
set_option linter.unusedSimpArgs false
set_option linter.unusedVariables false
namespace Go.Proofs.YtcffcndpefaalaaGreat
open Go Go.SX
/-- () -/
def ty0 : TyI := { und := .tup [], size := 1, bytes := 0, zv := (.tuple #[]), agg := false, sh := [.slice] }
theorem ty0_good : TGood Tryz.prog 0 ty0 := TGood.of (by kernel_rfl) (by kernel_rfl) rfl rfl rfl
/-- int64 -/
def ty2 : TyI := { und := .int .i64, size := 1, bytes := 8, zv := (.int .i64 0), agg := false, sh := [.int .i64] }
theorem ty2_good : TGood Tryz.prog 2 ty2 := TGood.of (by kernel_rfl) (by kernel_rfl) rfl rfl rfl
/-- int -/
def ty3 : TyI := { und := .int .i64, size := 1, bytes := 8, zv := (.int .i64 0), agg := false, sh := [.int .i64] }
theorem ty3_good : TGood Tryz.prog 3 ty3 := TGood.of (by kernel_rfl) (by kernel_rfl) rfl rfl rfl
/-- bool -/
def ty4 : TyI := { und := .bool, size := 1, bytes := 1, zv := (.bool false), agg := false, sh := [.bool] }
theorem ty4_good : TGood Tryz.prog 4 ty4 := TGood.of (by kernel_rfl) (by kernel_rfl) rfl rfl rfl
/-- uint8 -/
def ty5 : TyI := { und := .int .u8, size := 1, bytes := 1, zv := (.int .u8 0), agg := false, sh := [.int .u8] }
theorem ty5_good : TGood Tryz.prog 5 ty5 := TGood.of (by kernel_rfl) (by kernel_rfl) rfl rfl rfl
/-- string -/
def ty9 : TyI := { und := .str, size := 1, bytes := 16, zv := (.string ⟨#[]⟩), agg := false, sh := [.str] }
theorem ty9_good : TGood Tryz.prog 9 ty9 := TGood.of (by kernel_rfl) (by kernel_rfl) rfl rfl rfl
/-- uintptr -/
def ty12 : TyI := { und := .int .u64, size := 1, bytes := 8, zv := (.int .u64 0), agg := false, sh := [.int .u64] }
theorem ty12_good : TGood Tryz.prog 12 ty12 := TGood.of (by kernel_rfl) (by kernel_rfl) rfl rfl rfl
/-- struct { msg string; addr uintptr } -/
def ty13 : TyI := { und := .struct [(9, 0), (12, 1)], size := 2, bytes := 24, zv := (.agg #[(.string ⟨#[]⟩), (.int .u64 0)]), agg := true, sh := [.str, .int .u64] }
theorem ty13_good : TGood Tryz.prog 13 ty13 := TGood.of (by kernel_rfl) (by kernel_rfl) rfl rfl rfl
/-- *runtime.TypeAssertionError -/
def ty15 : TyI := { und := .ptr, size := 1, bytes := 8, zv := (.pointer none), agg := false, sh := [.ptr] }
theorem ty15_good : TGood Tryz.prog 15 ty15 := TGood.of (by kernel_rfl) (by kernel_rfl) rfl rfl rfl
/-- *runtime.PanicNilError -/
def ty16 : TyI := { und := .ptr, size := 1, bytes := 8, zv := (.pointer none), agg := false, sh := [.ptr] }
theorem ty16_good : TGood Tryz.prog 16 ty16 := TGood.of (by kernel_rfl) (by kernel_rfl) rfl rfl rfl
/-- *abi.Type -/
def ty17 : TyI := { und := .ptr, size := 1, bytes := 8, zv := (.pointer none), agg := false, sh := [.ptr] }
theorem ty17_good : TGood Tryz.prog 17 ty17 := TGood.of (by kernel_rfl) (by kernel_rfl) rfl rfl rfl
/-- struct { typ *abi.Type } -/
def ty18 : TyI := { und := .struct [(17, 0)], size := 1, bytes := 8, zv := (.agg #[(.pointer none)]), agg := true, sh := [.ptr] }
theorem ty18_good : TGood Tryz.prog 18 ty18 := TGood.of (by kernel_rfl) (by kernel_rfl) rfl rfl rfl
/-- maps.unhashableTypeError -/
def ty19 : TyI := { und := .struct [(17, 0)], size := 1, bytes := 8, zv := (.agg #[(.pointer none)]), agg := true, sh := [.ptr] }
theorem ty19_good : TGood Tryz.prog 19 ty19 := TGood.of (by kernel_rfl) (by kernel_rfl) rfl rfl rfl
/-- int32 -/
def ty21 : TyI := { und := .int .i32, size := 1, bytes := 4, zv := (.int .i32 0), agg := false, sh := [.int .i32] }
theorem ty21_good : TGood Tryz.prog 21 ty21 := TGood.of (by kernel_rfl) (by kernel_rfl) rfl rfl rfl
/-- [][]string -/
def ty22 : TyI := { und := .slice 45, size := 1, bytes := 24, zv := (.slice none 0 0), agg := false, sh := [.slice] }
theorem ty22_good : TGood Tryz.prog 22 ty22 := TGood.of (by kernel_rfl) (by kernel_rfl) rfl rfl rfl
/-- [][]rat.Rat -/
def ty25 : TyI := { und := .slice 31, size := 1, bytes := 24, zv := (.slice none 0 0), agg := false, sh := [.slice] }
theorem ty25_good : TGood Tryz.prog 25 ty25 := TGood.of (by kernel_rfl) (by kernel_rfl) rfl rfl rfl
/-- mat.Mat -/
def ty26 : TyI := { und := .slice 31, size := 1, bytes := 24, zv := (.slice none 0 0), agg := false, sh := [.slice] }
theorem ty26_good : TGood Tryz.prog 26 ty26 := TGood.of (by kernel_rfl) (by kernel_rfl) rfl rfl rfl
/-- [][]cinctureref1.Rat -/
def ty27 : TyI := { und := .slice 34, size := 1, bytes := 24, zv := (.slice none 0 0), agg := false, sh := [.slice] }
theorem ty27_good : TGood Tryz.prog 27 ty27 := TGood.of (by kernel_rfl) (by kernel_rfl) rfl rfl rfl
/-- cinctureref1.Mat -/
def ty28 : TyI := { und := .slice 34, size := 1, bytes := 24, zv := (.slice none 0 0), agg := false, sh := [.slice] }
theorem ty28_good : TGood Tryz.prog 28 ty28 := TGood.of (by kernel_rfl) (by kernel_rfl) rfl rfl rfl
/-- (mat.Mat, cinctureref1.Mat) -/
def ty29 : TyI := { und := .tup [26, 28], size := 1, bytes := 0, zv := (.tuple #[(.slice none 0 0), (.slice none 0 0)]), agg := false, sh := [.slice] }
theorem ty29_good : TGood Tryz.prog 29 ty29 := TGood.of (by kernel_rfl) (by kernel_rfl) rfl rfl rfl
/-- []rat.Rat -/
def ty31 : TyI := { und := .slice 52, size := 1, bytes := 24, zv := (.slice none 0 0), agg := false, sh := [.slice] }
theorem ty31_good : TGood Tryz.prog 31 ty31 := TGood.of (by kernel_rfl) (by kernel_rfl) rfl rfl rfl
/-- (mat.Mat, []rat.Rat, bool) -/
def ty32 : TyI := { und := .tup [26, 31, 4], size := 1, bytes := 0, zv := (.tuple #[(.slice none 0 0), (.slice none 0 0), (.bool false)]), agg := false, sh := [.slice] }
theorem ty32_good : TGood Tryz.prog 32 ty32 := TGood.of (by kernel_rfl) (by kernel_rfl) rfl rfl rfl
/-- []cinctureref1.Rat -/
def ty34 : TyI := { und := .slice 58, size := 1, bytes := 24, zv := (.slice none 0 0), agg := false, sh := [.slice] }
theorem ty34_good : TGood Tryz.prog 34 ty34 := TGood.of (by kernel_rfl) (by kernel_rfl) rfl rfl rfl
/-- (cinctureref1.Mat, []cinctureref1.Rat, bool) -/
def ty35 : TyI := { und := .tup [28, 34, 4], size := 1, bytes := 0, zv := (.tuple #[(.slice none 0 0), (.slice none 0 0), (.bool false)]), agg := false, sh := [.slice] }
theorem ty35_good : TGood Tryz.prog 35 ty35 := TGood.of (by kernel_rfl) (by kernel_rfl) rfl rfl rfl
/-- api.Code -/
def ty42 : TyI := { und := .int .i64, size := 1, bytes := 8, zv := (.int .i64 0), agg := false, sh := [.int .i64] }
theorem ty42_good : TGood Tryz.prog 42 ty42 := TGood.of (by kernel_rfl) (by kernel_rfl) rfl rfl rfl
/-- (mat.Mat, api.Code) -/
def ty43 : TyI := { und := .tup [26, 42], size := 1, bytes := 0, zv := (.tuple #[(.slice none 0 0), (.int .i64 0)]), agg := false, sh := [.slice] }
theorem ty43_good : TGood Tryz.prog 43 ty43 := TGood.of (by kernel_rfl) (by kernel_rfl) rfl rfl rfl
/-- []string -/
def ty45 : TyI := { und := .slice 9, size := 1, bytes := 24, zv := (.slice none 0 0), agg := false, sh := [.slice] }
theorem ty45_good : TGood Tryz.prog 45 ty45 := TGood.of (by kernel_rfl) (by kernel_rfl) rfl rfl rfl
/-- []uint32 -/
def ty46 : TyI := { und := .slice 107, size := 1, bytes := 24, zv := (.slice none 0 0), agg := false, sh := [.slice] }
theorem ty46_good : TGood Tryz.prog 46 ty46 := TGood.of (by kernel_rfl) (by kernel_rfl) rfl rfl rfl
/-- struct { l []uint32 } -/
def ty47 : TyI := { und := .struct [(46, 0)], size := 1, bytes := 24, zv := (.agg #[(.slice none 0 0)]), agg := true, sh := [.slice] }
theorem ty47_good : TGood Tryz.prog 47 ty47 := TGood.of (by kernel_rfl) (by kernel_rfl) rfl rfl rfl
/-- nat.Nat -/
def ty48 : TyI := { und := .struct [(46, 0)], size := 1, bytes := 24, zv := (.agg #[(.slice none 0 0)]), agg := true, sh := [.slice] }
theorem ty48_good : TGood Tryz.prog 48 ty48 := TGood.of (by kernel_rfl) (by kernel_rfl) rfl rfl rfl
/-- struct { a nat.Nat; below bool } -/
def ty49 : TyI := { und := .struct [(48, 0), (4, 1)], size := 2, bytes := 32, zv := (.agg #[(.slice none 0 0), (.bool false)]), agg := true, sh := [.slice, .bool] }
theorem ty49_good : TGood Tryz.prog 49 ty49 := TGood.of (by kernel_rfl) (by kernel_rfl) rfl rfl rfl
/-- whole.Int -/
def ty50 : TyI := { und := .struct [(48, 0), (4, 1)], size := 2, bytes := 32, zv := (.agg #[(.slice none 0 0), (.bool false)]), agg := true, sh := [.slice, .bool] }
theorem ty50_good : TGood Tryz.prog 50 ty50 := TGood.of (by kernel_rfl) (by kernel_rfl) rfl rfl rfl
/-- struct { n whole.Int; d nat.Nat } -/
def ty51 : TyI := { und := .struct [(50, 0), (48, 2)], size := 3, bytes := 56, zv := (.agg #[(.slice none 0 0), (.bool false), (.slice none 0 0)]), agg := true, sh := [.slice, .bool, .slice] }
theorem ty51_good : TGood Tryz.prog 51 ty51 := TGood.of (by kernel_rfl) (by kernel_rfl) rfl rfl rfl
/-- rat.Rat -/
def ty52 : TyI := { und := .struct [(50, 0), (48, 2)], size := 3, bytes := 56, zv := (.agg #[(.slice none 0 0), (.bool false), (.slice none 0 0)]), agg := true, sh := [.slice, .bool, .slice] }
theorem ty52_good : TGood Tryz.prog 52 ty52 := TGood.of (by kernel_rfl) (by kernel_rfl) rfl rfl rfl
/-- cinctureref1.Nat -/
def ty54 : TyI := { und := .slice 107, size := 1, bytes := 24, zv := (.slice none 0 0), agg := false, sh := [.slice] }
theorem ty54_good : TGood Tryz.prog 54 ty54 := TGood.of (by kernel_rfl) (by kernel_rfl) rfl rfl rfl
/-- struct { Neg bool; A cinctureref1.Nat } -/
def ty55 : TyI := { und := .struct [(4, 0), (54, 1)], size := 2, bytes := 32, zv := (.agg #[(.bool false), (.slice none 0 0)]), agg := true, sh := [.bool, .slice] }
theorem ty55_good : TGood Tryz.prog 55 ty55 := TGood.of (by kernel_rfl) (by kernel_rfl) rfl rfl rfl
/-- cinctureref1.Int -/
def ty56 : TyI := { und := .struct [(4, 0), (54, 1)], size := 2, bytes := 32, zv := (.agg #[(.bool false), (.slice none 0 0)]), agg := true, sh := [.bool, .slice] }
theorem ty56_good : TGood Tryz.prog 56 ty56 := TGood.of (by kernel_rfl) (by kernel_rfl) rfl rfl rfl
/-- struct { N cinctureref1.Int; D cinctureref1.Nat } -/
def ty57 : TyI := { und := .struct [(56, 0), (54, 2)], size := 3, bytes := 56, zv := (.agg #[(.bool false), (.slice none 0 0), (.slice none 0 0)]), agg := true, sh := [.bool, .slice, .slice] }
theorem ty57_good : TGood Tryz.prog 57 ty57 := TGood.of (by kernel_rfl) (by kernel_rfl) rfl rfl rfl
/-- cinctureref1.Rat -/
def ty58 : TyI := { und := .struct [(56, 0), (54, 2)], size := 3, bytes := 56, zv := (.agg #[(.bool false), (.slice none 0 0), (.slice none 0 0)]), agg := true, sh := [.bool, .slice, .slice] }
theorem ty58_good : TGood Tryz.prog 58 ty58 := TGood.of (by kernel_rfl) (by kernel_rfl) rfl rfl rfl
/-- (rat.Rat, cinctureref1.Rat, bool) -/
def ty59 : TyI := { und := .tup [52, 58, 4], size := 1, bytes := 0, zv := (.tuple #[(.agg #[(.slice none 0 0), (.bool false), (.slice none 0 0)]), (.agg #[(.bool false), (.slice none 0 0), (.slice none 0 0)]), (.bool false)]), agg := false, sh := [.slice] }
theorem ty59_good : TGood Tryz.prog 59 ty59 := TGood.of (by kernel_rfl) (by kernel_rfl) rfl rfl rfl
/-- (rat.Rat, bool) -/
def ty63 : TyI := { und := .tup [52, 4], size := 1, bytes := 0, zv := (.tuple #[(.agg #[(.slice none 0 0), (.bool false), (.slice none 0 0)]), (.bool false)]), agg := false, sh := [.slice] }
theorem ty63_good : TGood Tryz.prog 63 ty63 := TGood.of (by kernel_rfl) (by kernel_rfl) rfl rfl rfl
/-- (rat.Rat, api.Code) -/
def ty77 : TyI := { und := .tup [52, 42], size := 1, bytes := 0, zv := (.tuple #[(.agg #[(.slice none 0 0), (.bool false), (.slice none 0 0)]), (.int .i64 0)]), agg := false, sh := [.slice] }
theorem ty77_good : TGood Tryz.prog 77 ty77 := TGood.of (by kernel_rfl) (by kernel_rfl) rfl rfl rfl
/-- (cinctureref1.Rat, bool) -/
def ty79 : TyI := { und := .tup [58, 4], size := 1, bytes := 0, zv := (.tuple #[(.agg #[(.bool false), (.slice none 0 0), (.slice none 0 0)]), (.bool false)]), agg := false, sh := [.slice] }
theorem ty79_good : TGood Tryz.prog 79 ty79 := TGood.of (by kernel_rfl) (by kernel_rfl) rfl rfl rfl
/-- (mat.Mat, bool) -/
def ty81 : TyI := { und := .tup [26, 4], size := 1, bytes := 0, zv := (.tuple #[(.slice none 0 0), (.bool false)]), agg := false, sh := [.slice] }
theorem ty81_good : TGood Tryz.prog 81 ty81 := TGood.of (by kernel_rfl) (by kernel_rfl) rfl rfl rfl
/-- (string, string, bool) -/
def ty99 : TyI := { und := .tup [9, 9, 4], size := 1, bytes := 0, zv := (.tuple #[(.string ⟨#[]⟩), (.string ⟨#[]⟩), (.bool false)]), agg := false, sh := [.slice] }
theorem ty99_good : TGood Tryz.prog 99 ty99 := TGood.of (by kernel_rfl) (by kernel_rfl) rfl rfl rfl
/-- (whole.Int, api.Code) -/
def ty101 : TyI := { und := .tup [50, 42], size := 1, bytes := 0, zv := (.tuple #[(.agg #[(.slice none 0 0), (.bool false)]), (.int .i64 0)]), agg := false, sh := [.slice] }
theorem ty101_good : TGood Tryz.prog 101 ty101 := TGood.of (by kernel_rfl) (by kernel_rfl) rfl rfl rfl
/-- (nat.Nat, api.Code) -/
def ty103 : TyI := { und := .tup [48, 42], size := 1, bytes := 0, zv := (.tuple #[(.agg #[(.slice none 0 0)]), (.int .i64 0)]), agg := false, sh := [.slice] }
theorem ty103_good : TGood Tryz.prog 103 ty103 := TGood.of (by kernel_rfl) (by kernel_rfl) rfl rfl rfl
/-- uint32 -/
def ty107 : TyI := { und := .int .u32, size := 1, bytes := 4, zv := (.int .u32 0), agg := false, sh := [.int .u32] }
theorem ty107_good : TGood Tryz.prog 107 ty107 := TGood.of (by kernel_rfl) (by kernel_rfl) rfl rfl rfl
/-- []uint8 -/
def ty109 : TyI := { und := .slice 5, size := 1, bytes := 24, zv := (.slice none 0 0), agg := false, sh := [.slice] }
theorem ty109_good : TGood Tryz.prog 109 ty109 := TGood.of (by kernel_rfl) (by kernel_rfl) rfl rfl rfl
/-- (cinctureref1.Int, bool) -/
def ty113 : TyI := { und := .tup [56, 4], size := 1, bytes := 0, zv := (.tuple #[(.agg #[(.bool false), (.slice none 0 0)]), (.bool false)]), agg := false, sh := [.slice] }
theorem ty113_good : TGood Tryz.prog 113 ty113 := TGood.of (by kernel_rfl) (by kernel_rfl) rfl rfl rfl
/-- uint64 -/
def ty116 : TyI := { und := .int .u64, size := 1, bytes := 8, zv := (.int .u64 0), agg := false, sh := [.int .u64] }
theorem ty116_good : TGood Tryz.prog 116 ty116 := TGood.of (by kernel_rfl) (by kernel_rfl) rfl rfl rfl
/-- (cinctureref1.Nat, bool) -/
def ty117 : TyI := { und := .tup [54, 4], size := 1, bytes := 0, zv := (.tuple #[(.slice none 0 0), (.bool false)]), agg := false, sh := [.slice] }
theorem ty117_good : TGood Tryz.prog 117 ty117 := TGood.of (by kernel_rfl) (by kernel_rfl) rfl rfl rfl
/-- (nat.Nat, nat.Nat, bool) -/
def ty128 : TyI := { und := .tup [48, 48, 4], size := 1, bytes := 0, zv := (.tuple #[(.agg #[(.slice none 0 0)]), (.agg #[(.slice none 0 0)]), (.bool false)]), agg := false, sh := [.slice] }
theorem ty128_good : TGood Tryz.prog 128 ty128 := TGood.of (by kernel_rfl) (by kernel_rfl) rfl rfl rfl
/-- (cinctureref1.Nat, cinctureref1.Nat) -/
def ty134 : TyI := { und := .tup [54, 54], size := 1, bytes := 0, zv := (.tuple #[(.slice none 0 0), (.slice none 0 0)]), agg := false, sh := [.slice] }
theorem ty134_good : TGood Tryz.prog 134 ty134 := TGood.of (by kernel_rfl) (by kernel_rfl) rfl rfl rfl
/-- uint -/
def ty136 : TyI := { und := .int .u64, size := 1, bytes := 8, zv := (.int .u64 0), agg := false, sh := [.int .u64] }
theorem ty136_good : TGood Tryz.prog 136 ty136 := TGood.of (by kernel_rfl) (by kernel_rfl) rfl rfl rfl
/-- (nat.Nat, bool) -/
def ty157 : TyI := { und := .tup [48, 4], size := 1, bytes := 0, zv := (.tuple #[(.agg #[(.slice none 0 0)]), (.bool false)]), agg := false, sh := [.slice] }
theorem ty157_good : TGood Tryz.prog 157 ty157 := TGood.of (by kernel_rfl) (by kernel_rfl) rfl rfl rfl
/-- (uint32, uint32) -/
def ty163 : TyI := { und := .tup [107, 107], size := 1, bytes := 0, zv := (.tuple #[(.int .u32 0), (.int .u32 0)]), agg := false, sh := [.slice] }
theorem ty163_good : TGood Tryz.prog 163 ty163 := TGood.of (by kernel_rfl) (by kernel_rfl) rfl rfl rfl
/-- struct { _interface *abi.Type; concrete *abi.Type; asserted  -/
def ty165 : TyI := { und := .struct [(17, 0), (17, 1), (17, 2), (9, 3)], size := 4, bytes := 40, zv := (.agg #[(.pointer none), (.pointer none), (.pointer none), (.string ⟨#[]⟩)]), agg := true, sh := [.ptr, .ptr, .ptr, .str] }
theorem ty165_good : TGood Tryz.prog 165 ty165 := TGood.of (by kernel_rfl) (by kernel_rfl) rfl rfl rfl
/-- [0]*runtime.PanicNilError -/
def ty167 : TyI := { und := .arr 0 16, size := 0, bytes := 0, zv := (.agg #[]), agg := true, sh := [] }
theorem ty167_good : TGood Tryz.prog 167 ty167 := TGood.of (by kernel_rfl) (by kernel_rfl) rfl rfl rfl
/-- struct { _ [0]*runtime.PanicNilError } -/
def ty168 : TyI := { und := .struct [(167, 0)], size := 0, bytes := 0, zv := (.agg #[]), agg := true, sh := [] }
theorem ty168_good : TGood Tryz.prog 168 ty168 := TGood.of (by kernel_rfl) (by kernel_rfl) rfl rfl rfl
/-- *uint8 -/
def ty173 : TyI := { und := .ptr, size := 1, bytes := 8, zv := (.pointer none), agg := false, sh := [.ptr] }
theorem ty173_good : TGood Tryz.prog 173 ty173 := TGood.of (by kernel_rfl) (by kernel_rfl) rfl rfl rfl
def tt : List (Nat × TyI) := [(0, ty0), (2, ty2), (3, ty3), (4, ty4), (5, ty5), (9, ty9), (12, ty12), (13, ty13), (15, ty15), (16, ty16), (17, ty17), (18, ty18), (19, ty19), (21, ty21), (22, ty22), (25, ty25), (26, ty26), (27, ty27), (28, ty28), (29, ty29), (31, ty31), (32, ty32), (34, ty34), (35, ty35), (42, ty42), (43, ty43), (45, ty45), (46, ty46), (47, ty47), (48, ty48), (49, ty49), (50, ty50), (51, ty51), (52, ty52), (54, ty54), (55, ty55), (56, ty56), (57, ty57), (58, ty58), (59, ty59), (63, ty63), (77, ty77), (79, ty79), (81, ty81), (99, ty99), (101, ty101), (103, ty103), (107, ty107), (109, ty109), (113, ty113), (116, ty116), (117, ty117), (128, ty128), (134, ty134), (136, ty136), (157, ty157), (163, ty163), (165, ty165), (167, ty167), (168, ty168), (173, ty173)]
theorem tt_ok : TabOK Tryz.prog tt := ⟨ty0_good, ⟨ty2_good, ⟨ty3_good, ⟨ty4_good, ⟨ty5_good, ⟨ty9_good, ⟨ty12_good, ⟨ty13_good, ⟨ty15_good, ⟨ty16_good, ⟨ty17_good, ⟨ty18_good, ⟨ty19_good, ⟨ty21_good, ⟨ty22_good, ⟨ty25_good, ⟨ty26_good, ⟨ty27_good, ⟨ty28_good, ⟨ty29_good, ⟨ty31_good, ⟨ty32_good, ⟨ty34_good, ⟨ty35_good, ⟨ty42_good, ⟨ty43_good, ⟨ty45_good, ⟨ty46_good, ⟨ty47_good, ⟨ty48_good, ⟨ty49_good, ⟨ty50_good, ⟨ty51_good, ⟨ty52_good, ⟨ty54_good, ⟨ty55_good, ⟨ty56_good, ⟨ty57_good, ⟨ty58_good, ⟨ty59_good, ⟨ty63_good, ⟨ty77_good, ⟨ty79_good, ⟨ty81_good, ⟨ty99_good, ⟨ty101_good, ⟨ty103_good, ⟨ty107_good, ⟨ty109_good, ⟨ty113_good, ⟨ty116_good, ⟨ty117_good, ⟨ty128_good, ⟨ty134_good, ⟨ty136_good, ⟨ty157_good, ⟨ty163_good, ⟨ty165_good, ⟨ty167_good, ⟨ty168_good, ⟨ty173_good, trivial⟩⟩⟩⟩⟩⟩⟩⟩⟩⟩⟩⟩⟩⟩⟩⟩⟩⟩⟩⟩⟩⟩⟩⟩⟩⟩⟩⟩⟩⟩⟩⟩⟩⟩⟩⟩⟩⟩⟩⟩⟩⟩⟩⟩⟩⟩⟩⟩⟩⟩⟩⟩⟩⟩⟩⟩⟩⟩⟩⟩⟩
theorem tt_in : FieldsIn tt := fieldsIn_of (by kernel_rfl)
end Go.Proofs.YtcffcndpefaalaaGreat
