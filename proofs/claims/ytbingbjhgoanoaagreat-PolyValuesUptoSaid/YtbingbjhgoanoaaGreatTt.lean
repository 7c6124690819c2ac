/- The types of this place's program, as the symbolic evaluator wants them; each row is asked of the program itself. Written by gentt.py. -/
import Derived.Test.YtbingbjhgoanoaaGreatProg
import Derived.Test.YtbingbjhgoanoaaGreatSx5
set_option linter.unusedVariables false
set_option linter.unusedSimpArgs false
set_option linter.unusedVariables false
namespace Go.Proofs.YtbingbjhgoanoaaGreat
open Go Go.SX
def ty0 : TyI := { und := .tup [], size := 1, bytes := 0, zv := (.tuple #[]), agg := false, sh := [.slice] }
theorem ty0_good : TGood Tryz.prog 0 ty0 := TGood.of (by kernel_rfl) (by kernel_rfl) rfl rfl rfl rfl
def ty2 : TyI := { und := .int .i64, size := 1, bytes := 8, zv := (.int .i64 0), agg := false, sh := [.int .i64] }
theorem ty2_good : TGood Tryz.prog 2 ty2 := TGood.of (by kernel_rfl) (by kernel_rfl) rfl rfl rfl rfl
def ty3 : TyI := { und := .int .i64, size := 1, bytes := 8, zv := (.int .i64 0), agg := false, sh := [.int .i64] }
theorem ty3_good : TGood Tryz.prog 3 ty3 := TGood.of (by kernel_rfl) (by kernel_rfl) rfl rfl rfl rfl
def ty4 : TyI := { und := .bool, size := 1, bytes := 1, zv := (.bool false), agg := false, sh := [.bool] }
theorem ty4_good : TGood Tryz.prog 4 ty4 := TGood.of (by kernel_rfl) (by kernel_rfl) rfl rfl rfl rfl
def ty5 : TyI := { und := .int .u8, size := 1, bytes := 1, zv := (.int .u8 0), agg := false, sh := [.int .u8] }
theorem ty5_good : TGood Tryz.prog 5 ty5 := TGood.of (by kernel_rfl) (by kernel_rfl) rfl rfl rfl rfl
def ty9 : TyI := { und := .str, size := 1, bytes := 16, zv := (.string ⟨#[]⟩), agg := false, sh := [.str] }
theorem ty9_good : TGood Tryz.prog 9 ty9 := TGood.of (by kernel_rfl) (by kernel_rfl) rfl rfl rfl rfl
def ty12 : TyI := { und := .int .u64, size := 1, bytes := 8, zv := (.int .u64 0), agg := false, sh := [.int .u64] }
theorem ty12_good : TGood Tryz.prog 12 ty12 := TGood.of (by kernel_rfl) (by kernel_rfl) rfl rfl rfl rfl
def ty13 : TyI := { und := .struct [(9, 0), (12, 1)], size := 2, bytes := 24, zv := (.agg #[(.string ⟨#[]⟩), (.int .u64 0)]), agg := true, sh := [.str, .int .u64] }
theorem ty13_good : TGood Tryz.prog 13 ty13 := TGood.of (by kernel_rfl) (by kernel_rfl) rfl rfl rfl rfl
def ty15 : TyI := { und := .ptr, size := 1, bytes := 8, zv := (.pointer none), agg := false, sh := [.ptr] }
theorem ty15_good : TGood Tryz.prog 15 ty15 := TGood.of (by kernel_rfl) (by kernel_rfl) rfl rfl rfl rfl
def ty16 : TyI := { und := .ptr, size := 1, bytes := 8, zv := (.pointer none), agg := false, sh := [.ptr] }
theorem ty16_good : TGood Tryz.prog 16 ty16 := TGood.of (by kernel_rfl) (by kernel_rfl) rfl rfl rfl rfl
def ty17 : TyI := { und := .ptr, size := 1, bytes := 8, zv := (.pointer none), agg := false, sh := [.ptr] }
theorem ty17_good : TGood Tryz.prog 17 ty17 := TGood.of (by kernel_rfl) (by kernel_rfl) rfl rfl rfl rfl
def ty18 : TyI := { und := .struct [(17, 0)], size := 1, bytes := 8, zv := (.agg #[(.pointer none)]), agg := true, sh := [.ptr] }
theorem ty18_good : TGood Tryz.prog 18 ty18 := TGood.of (by kernel_rfl) (by kernel_rfl) rfl rfl rfl rfl
def ty19 : TyI := { und := .struct [(17, 0)], size := 1, bytes := 8, zv := (.agg #[(.pointer none)]), agg := true, sh := [.ptr] }
theorem ty19_good : TGood Tryz.prog 19 ty19 := TGood.of (by kernel_rfl) (by kernel_rfl) rfl rfl rfl rfl
def ty21 : TyI := { und := .int .i32, size := 1, bytes := 4, zv := (.int .i32 0), agg := false, sh := [.int .i32] }
theorem ty21_good : TGood Tryz.prog 21 ty21 := TGood.of (by kernel_rfl) (by kernel_rfl) rfl rfl rfl rfl
def ty22 : TyI := { und := .slice 43, size := 1, bytes := 24, zv := (.slice none 0 0), agg := false, sh := [.slice] }
theorem ty22_good : TGood Tryz.prog 22 ty22 := TGood.of (by kernel_rfl) (by kernel_rfl) rfl rfl rfl rfl
def ty24 : TyI := { und := .slice 45, size := 1, bytes := 24, zv := (.slice none 0 0), agg := false, sh := [.slice] }
theorem ty24_good : TGood Tryz.prog 24 ty24 := TGood.of (by kernel_rfl) (by kernel_rfl) rfl rfl rfl rfl
def ty25 : TyI := { und := .slice 47, size := 1, bytes := 24, zv := (.slice none 0 0), agg := false, sh := [.slice] }
theorem ty25_good : TGood Tryz.prog 25 ty25 := TGood.of (by kernel_rfl) (by kernel_rfl) rfl rfl rfl rfl
def ty26 : TyI := { und := .slice 183, size := 1, bytes := 24, zv := (.slice none 0 0), agg := false, sh := [.slice] }
theorem ty26_good : TGood Tryz.prog 26 ty26 := TGood.of (by kernel_rfl) (by kernel_rfl) rfl rfl rfl rfl
def ty27 : TyI := { und := .struct [(26, 0)], size := 1, bytes := 24, zv := (.agg #[(.slice none 0 0)]), agg := true, sh := [.slice] }
theorem ty27_good : TGood Tryz.prog 27 ty27 := TGood.of (by kernel_rfl) (by kernel_rfl) rfl rfl rfl rfl
def ty28 : TyI := { und := .struct [(26, 0)], size := 1, bytes := 24, zv := (.agg #[(.slice none 0 0)]), agg := true, sh := [.slice] }
theorem ty28_good : TGood Tryz.prog 28 ty28 := TGood.of (by kernel_rfl) (by kernel_rfl) rfl rfl rfl rfl
def ty29 : TyI := { und := .struct [(28, 0), (4, 1)], size := 2, bytes := 32, zv := (.agg #[(.slice none 0 0), (.bool false)]), agg := true, sh := [.slice, .bool] }
theorem ty29_good : TGood Tryz.prog 29 ty29 := TGood.of (by kernel_rfl) (by kernel_rfl) rfl rfl rfl rfl
def ty30 : TyI := { und := .struct [(28, 0), (4, 1)], size := 2, bytes := 32, zv := (.agg #[(.slice none 0 0), (.bool false)]), agg := true, sh := [.slice, .bool] }
theorem ty30_good : TGood Tryz.prog 30 ty30 := TGood.of (by kernel_rfl) (by kernel_rfl) rfl rfl rfl rfl
def ty31 : TyI := { und := .struct [(30, 0), (28, 2)], size := 3, bytes := 56, zv := (.agg #[(.slice none 0 0), (.bool false), (.slice none 0 0)]), agg := true, sh := [.slice, .bool, .slice] }
theorem ty31_good : TGood Tryz.prog 31 ty31 := TGood.of (by kernel_rfl) (by kernel_rfl) rfl rfl rfl rfl
def ty32 : TyI := { und := .struct [(30, 0), (28, 2)], size := 3, bytes := 56, zv := (.agg #[(.slice none 0 0), (.bool false), (.slice none 0 0)]), agg := true, sh := [.slice, .bool, .slice] }
theorem ty32_good : TGood Tryz.prog 32 ty32 := TGood.of (by kernel_rfl) (by kernel_rfl) rfl rfl rfl rfl
def ty33 : TyI := { und := .slice 183, size := 1, bytes := 24, zv := (.slice none 0 0), agg := false, sh := [.slice] }
theorem ty33_good : TGood Tryz.prog 33 ty33 := TGood.of (by kernel_rfl) (by kernel_rfl) rfl rfl rfl rfl
def ty34 : TyI := { und := .struct [(4, 0), (33, 1)], size := 2, bytes := 32, zv := (.agg #[(.bool false), (.slice none 0 0)]), agg := true, sh := [.bool, .slice] }
theorem ty34_good : TGood Tryz.prog 34 ty34 := TGood.of (by kernel_rfl) (by kernel_rfl) rfl rfl rfl rfl
def ty35 : TyI := { und := .struct [(4, 0), (33, 1)], size := 2, bytes := 32, zv := (.agg #[(.bool false), (.slice none 0 0)]), agg := true, sh := [.bool, .slice] }
theorem ty35_good : TGood Tryz.prog 35 ty35 := TGood.of (by kernel_rfl) (by kernel_rfl) rfl rfl rfl rfl
def ty36 : TyI := { und := .struct [(35, 0), (33, 2)], size := 3, bytes := 56, zv := (.agg #[(.bool false), (.slice none 0 0), (.slice none 0 0)]), agg := true, sh := [.bool, .slice, .slice] }
theorem ty36_good : TGood Tryz.prog 36 ty36 := TGood.of (by kernel_rfl) (by kernel_rfl) rfl rfl rfl rfl
def ty37 : TyI := { und := .struct [(35, 0), (33, 2)], size := 3, bytes := 56, zv := (.agg #[(.bool false), (.slice none 0 0), (.slice none 0 0)]), agg := true, sh := [.bool, .slice, .slice] }
theorem ty37_good : TGood Tryz.prog 37 ty37 := TGood.of (by kernel_rfl) (by kernel_rfl) rfl rfl rfl rfl
def ty38 : TyI := { und := .tup [32, 37, 4], size := 1, bytes := 0, zv := (.tuple #[(.agg #[(.slice none 0 0), (.bool false), (.slice none 0 0)]), (.agg #[(.bool false), (.slice none 0 0), (.slice none 0 0)]), (.bool false)]), agg := false, sh := [.slice] }
theorem ty38_good : TGood Tryz.prog 38 ty38 := TGood.of (by kernel_rfl) (by kernel_rfl) rfl rfl rfl rfl
def ty44 : TyI := { und := .struct [(41, 0), (32, 3)], size := 6, bytes := 64, zv := (.agg #[(.int .u8 0), (.int .u8 0), (.int .u8 0), (.slice none 0 0), (.bool false), (.slice none 0 0)]), agg := true, sh := [.int .u8, .int .u8, .int .u8, .slice, .bool, .slice] }
theorem ty44_good : TGood Tryz.prog 44 ty44 := TGood.of (by kernel_rfl) (by kernel_rfl) rfl rfl rfl rfl
def ty45 : TyI := { und := .struct [(41, 0), (32, 3)], size := 6, bytes := 64, zv := (.agg #[(.int .u8 0), (.int .u8 0), (.int .u8 0), (.slice none 0 0), (.bool false), (.slice none 0 0)]), agg := true, sh := [.int .u8, .int .u8, .int .u8, .slice, .bool, .slice] }
theorem ty45_good : TGood Tryz.prog 45 ty45 := TGood.of (by kernel_rfl) (by kernel_rfl) rfl rfl rfl rfl
def ty46 : TyI := { und := .struct [(41, 0), (37, 3)], size := 6, bytes := 64, zv := (.agg #[(.int .u8 0), (.int .u8 0), (.int .u8 0), (.bool false), (.slice none 0 0), (.slice none 0 0)]), agg := true, sh := [.int .u8, .int .u8, .int .u8, .bool, .slice, .slice] }
theorem ty46_good : TGood Tryz.prog 46 ty46 := TGood.of (by kernel_rfl) (by kernel_rfl) rfl rfl rfl rfl
def ty47 : TyI := { und := .struct [(41, 0), (37, 3)], size := 6, bytes := 64, zv := (.agg #[(.int .u8 0), (.int .u8 0), (.int .u8 0), (.bool false), (.slice none 0 0), (.slice none 0 0)]), agg := true, sh := [.int .u8, .int .u8, .int .u8, .bool, .slice, .slice] }
theorem ty47_good : TGood Tryz.prog 47 ty47 := TGood.of (by kernel_rfl) (by kernel_rfl) rfl rfl rfl rfl
def ty49 : TyI := { und := .struct [(24, 0)], size := 1, bytes := 24, zv := (.agg #[(.slice none 0 0)]), agg := true, sh := [.slice] }
theorem ty49_good : TGood Tryz.prog 49 ty49 := TGood.of (by kernel_rfl) (by kernel_rfl) rfl rfl rfl rfl
def ty50 : TyI := { und := .struct [(24, 0)], size := 1, bytes := 24, zv := (.agg #[(.slice none 0 0)]), agg := true, sh := [.slice] }
theorem ty50_good : TGood Tryz.prog 50 ty50 := TGood.of (by kernel_rfl) (by kernel_rfl) rfl rfl rfl rfl
def ty52 : TyI := { und := .slice 47, size := 1, bytes := 24, zv := (.slice none 0 0), agg := false, sh := [.slice] }
theorem ty52_good : TGood Tryz.prog 52 ty52 := TGood.of (by kernel_rfl) (by kernel_rfl) rfl rfl rfl rfl
def ty55 : TyI := { und := .tup [50, 52, 4], size := 1, bytes := 0, zv := (.tuple #[(.agg #[(.slice none 0 0)]), (.slice none 0 0), (.bool false)]), agg := false, sh := [.slice] }
theorem ty55_good : TGood Tryz.prog 55 ty55 := TGood.of (by kernel_rfl) (by kernel_rfl) rfl rfl rfl rfl
def ty57 : TyI := { und := .tup [50, 4], size := 1, bytes := 0, zv := (.tuple #[(.agg #[(.slice none 0 0)]), (.bool false)]), agg := false, sh := [.slice] }
theorem ty57_good : TGood Tryz.prog 57 ty57 := TGood.of (by kernel_rfl) (by kernel_rfl) rfl rfl rfl rfl
def ty59 : TyI := { und := .tup [52, 4], size := 1, bytes := 0, zv := (.tuple #[(.slice none 0 0), (.bool false)]), agg := false, sh := [.slice] }
theorem ty59_good : TGood Tryz.prog 59 ty59 := TGood.of (by kernel_rfl) (by kernel_rfl) rfl rfl rfl rfl
def ty64 : TyI := { und := .int .i64, size := 1, bytes := 8, zv := (.int .i64 0), agg := false, sh := [.int .i64] }
theorem ty64_good : TGood Tryz.prog 64 ty64 := TGood.of (by kernel_rfl) (by kernel_rfl) rfl rfl rfl rfl
def ty65 : TyI := { und := .tup [50, 64], size := 1, bytes := 0, zv := (.tuple #[(.agg #[(.slice none 0 0)]), (.int .i64 0)]), agg := false, sh := [.slice] }
theorem ty65_good : TGood Tryz.prog 65 ty65 := TGood.of (by kernel_rfl) (by kernel_rfl) rfl rfl rfl rfl
def ty73 : TyI := { und := .arr 3 50, size := 3, bytes := 72, zv := (.agg #[(.slice none 0 0), (.slice none 0 0), (.slice none 0 0)]), agg := true, sh := [.slice, .slice, .slice] }
theorem ty73_good : TGood Tryz.prog 73 ty73 := TGood.of (by kernel_rfl) (by kernel_rfl) rfl rfl rfl rfl
def ty75 : TyI := { und := .arr 3 52, size := 3, bytes := 72, zv := (.agg #[(.slice none 0 0), (.slice none 0 0), (.slice none 0 0)]), agg := true, sh := [.slice, .slice, .slice] }
theorem ty75_good : TGood Tryz.prog 75 ty75 := TGood.of (by kernel_rfl) (by kernel_rfl) rfl rfl rfl rfl
def ty89 : TyI := { und := .arr 3 9, size := 3, bytes := 48, zv := (.agg #[(.string ⟨#[]⟩), (.string ⟨#[]⟩), (.string ⟨#[]⟩)]), agg := true, sh := [.str, .str, .str] }
theorem ty89_good : TGood Tryz.prog 89 ty89 := TGood.of (by kernel_rfl) (by kernel_rfl) rfl rfl rfl rfl
def ty90 : TyI := { und := .arr 3 32, size := 9, bytes := 168, zv := (.agg #[(.slice none 0 0), (.bool false), (.slice none 0 0), (.slice none 0 0), (.bool false), (.slice none 0 0), (.slice none 0 0), (.bool false), (.slice none 0 0)]), agg := true, sh := [.slice, .bool, .slice, .slice, .bool, .slice, .slice, .bool, .slice] }
theorem ty90_good : TGood Tryz.prog 90 ty90 := TGood.of (by kernel_rfl) (by kernel_rfl) rfl rfl rfl rfl
def ty91 : TyI := { und := .arr 3 37, size := 9, bytes := 168, zv := (.agg #[(.bool false), (.slice none 0 0), (.slice none 0 0), (.bool false), (.slice none 0 0), (.slice none 0 0), (.bool false), (.slice none 0 0), (.slice none 0 0)]), agg := true, sh := [.bool, .slice, .slice, .bool, .slice, .slice, .bool, .slice, .slice] }
theorem ty91_good : TGood Tryz.prog 91 ty91 := TGood.of (by kernel_rfl) (by kernel_rfl) rfl rfl rfl rfl
def ty92 : TyI := { und := .tup [90, 91, 4], size := 1, bytes := 0, zv := (.tuple #[(.agg #[(.slice none 0 0), (.bool false), (.slice none 0 0), (.slice none 0 0), (.bool false), (.slice none 0 0), (.slice none 0 0), (.bool false), (.slice none 0 0)]), (.agg #[(.bool false), (.slice none 0 0), (.slice none 0 0), (.bool false), (.slice none 0 0), (.slice none 0 0), (.bool false), (.slice none 0 0), (.slice none 0 0)]), (.bool false)]), agg := false, sh := [.slice] }
theorem ty92_good : TGood Tryz.prog 92 ty92 := TGood.of (by kernel_rfl) (by kernel_rfl) rfl rfl rfl rfl
def ty109 : TyI := { und := .tup [37, 4], size := 1, bytes := 0, zv := (.tuple #[(.agg #[(.bool false), (.slice none 0 0), (.slice none 0 0)]), (.bool false)]), agg := false, sh := [.slice] }
theorem ty109_good : TGood Tryz.prog 109 ty109 := TGood.of (by kernel_rfl) (by kernel_rfl) rfl rfl rfl rfl
def ty111 : TyI := { und := .tup [32, 64], size := 1, bytes := 0, zv := (.tuple #[(.agg #[(.slice none 0 0), (.bool false), (.slice none 0 0)]), (.int .i64 0)]), agg := false, sh := [.slice] }
theorem ty111_good : TGood Tryz.prog 111 ty111 := TGood.of (by kernel_rfl) (by kernel_rfl) rfl rfl rfl rfl
def ty114 : TyI := { und := .map 41 32, size := 1, bytes := 8, zv := (.map none), agg := false, sh := [.map] }
theorem ty114_good : TGood Tryz.prog 114 ty114 := TGood.of (by kernel_rfl) (by kernel_rfl) rfl rfl rfl rfl
def ty115 : TyI := { und := .map 41 32, size := 1, bytes := 8, zv := (.map none), agg := false, sh := [.map] }
theorem ty115_good : TGood Tryz.prog 115 ty115 := TGood.of (by kernel_rfl) (by kernel_rfl) rfl rfl rfl rfl
def ty120 : TyI := { und := .tup [41, 4], size := 1, bytes := 0, zv := (.tuple #[(.agg #[(.int .u8 0), (.int .u8 0), (.int .u8 0)]), (.bool false)]), agg := false, sh := [.slice] }
theorem ty120_good : TGood Tryz.prog 120 ty120 := TGood.of (by kernel_rfl) (by kernel_rfl) rfl rfl rfl rfl
def ty145 : TyI := { und := .tup [35, 4], size := 1, bytes := 0, zv := (.tuple #[(.agg #[(.bool false), (.slice none 0 0)]), (.bool false)]), agg := false, sh := [.slice] }
theorem ty145_good : TGood Tryz.prog 145 ty145 := TGood.of (by kernel_rfl) (by kernel_rfl) rfl rfl rfl rfl
def ty148 : TyI := { und := .int .u64, size := 1, bytes := 8, zv := (.int .u64 0), agg := false, sh := [.int .u64] }
theorem ty148_good : TGood Tryz.prog 148 ty148 := TGood.of (by kernel_rfl) (by kernel_rfl) rfl rfl rfl rfl
def ty149 : TyI := { und := .tup [33, 4], size := 1, bytes := 0, zv := (.tuple #[(.slice none 0 0), (.bool false)]), agg := false, sh := [.slice] }
theorem ty149_good : TGood Tryz.prog 149 ty149 := TGood.of (by kernel_rfl) (by kernel_rfl) rfl rfl rfl rfl
def ty153 : TyI := { und := .tup [9, 9, 4], size := 1, bytes := 0, zv := (.tuple #[(.string ⟨#[]⟩), (.string ⟨#[]⟩), (.bool false)]), agg := false, sh := [.slice] }
theorem ty153_good : TGood Tryz.prog 153 ty153 := TGood.of (by kernel_rfl) (by kernel_rfl) rfl rfl rfl rfl
def ty155 : TyI := { und := .tup [30, 64], size := 1, bytes := 0, zv := (.tuple #[(.agg #[(.slice none 0 0), (.bool false)]), (.int .i64 0)]), agg := false, sh := [.slice] }
theorem ty155_good : TGood Tryz.prog 155 ty155 := TGood.of (by kernel_rfl) (by kernel_rfl) rfl rfl rfl rfl
def ty157 : TyI := { und := .tup [28, 64], size := 1, bytes := 0, zv := (.tuple #[(.agg #[(.slice none 0 0)]), (.int .i64 0)]), agg := false, sh := [.slice] }
theorem ty157_good : TGood Tryz.prog 157 ty157 := TGood.of (by kernel_rfl) (by kernel_rfl) rfl rfl rfl rfl
def ty168 : TyI := { und := .slice 5, size := 1, bytes := 24, zv := (.slice none 0 0), agg := false, sh := [.slice] }
theorem ty168_good : TGood Tryz.prog 168 ty168 := TGood.of (by kernel_rfl) (by kernel_rfl) rfl rfl rfl rfl
def ty170 : TyI := { und := .slice 24, size := 1, bytes := 24, zv := (.slice none 0 0), agg := false, sh := [.slice] }
theorem ty170_good : TGood Tryz.prog 170 ty170 := TGood.of (by kernel_rfl) (by kernel_rfl) rfl rfl rfl rfl
def ty183 : TyI := { und := .int .u32, size := 1, bytes := 4, zv := (.int .u32 0), agg := false, sh := [.int .u32] }
theorem ty183_good : TGood Tryz.prog 183 ty183 := TGood.of (by kernel_rfl) (by kernel_rfl) rfl rfl rfl rfl
def ty184 : TyI := { und := .tup [28, 28, 4], size := 1, bytes := 0, zv := (.tuple #[(.agg #[(.slice none 0 0)]), (.agg #[(.slice none 0 0)]), (.bool false)]), agg := false, sh := [.slice] }
theorem ty184_good : TGood Tryz.prog 184 ty184 := TGood.of (by kernel_rfl) (by kernel_rfl) rfl rfl rfl rfl
def ty187 : TyI := { und := .tup [28, 4], size := 1, bytes := 0, zv := (.tuple #[(.agg #[(.slice none 0 0)]), (.bool false)]), agg := false, sh := [.slice] }
theorem ty187_good : TGood Tryz.prog 187 ty187 := TGood.of (by kernel_rfl) (by kernel_rfl) rfl rfl rfl rfl
def ty189 : TyI := { und := .int .u64, size := 1, bytes := 8, zv := (.int .u64 0), agg := false, sh := [.int .u64] }
theorem ty189_good : TGood Tryz.prog 189 ty189 := TGood.of (by kernel_rfl) (by kernel_rfl) rfl rfl rfl rfl
def ty193 : TyI := { und := .tup [33, 33], size := 1, bytes := 0, zv := (.tuple #[(.slice none 0 0), (.slice none 0 0)]), agg := false, sh := [.slice] }
theorem ty193_good : TGood Tryz.prog 193 ty193 := TGood.of (by kernel_rfl) (by kernel_rfl) rfl rfl rfl rfl
def ty205 : TyI := { und := .slice 3, size := 1, bytes := 24, zv := (.slice none 0 0), agg := false, sh := [.slice] }
theorem ty205_good : TGood Tryz.prog 205 ty205 := TGood.of (by kernel_rfl) (by kernel_rfl) rfl rfl rfl rfl
def ty216 : TyI := { und := .int .i64, size := 1, bytes := 8, zv := (.int .i64 0), agg := false, sh := [.int .i64] }
theorem ty216_good : TGood Tryz.prog 216 ty216 := TGood.of (by kernel_rfl) (by kernel_rfl) rfl rfl rfl rfl
def ty217 : TyI := { und := .tup [3, 216], size := 1, bytes := 0, zv := (.tuple #[(.int .i64 0), (.int .i64 0)]), agg := false, sh := [.slice] }
theorem ty217_good : TGood Tryz.prog 217 ty217 := TGood.of (by kernel_rfl) (by kernel_rfl) rfl rfl rfl rfl
def ty221 : TyI := { und := .tup [3, 4], size := 1, bytes := 0, zv := (.tuple #[(.int .i64 0), (.bool false)]), agg := false, sh := [.slice] }
theorem ty221_good : TGood Tryz.prog 221 ty221 := TGood.of (by kernel_rfl) (by kernel_rfl) rfl rfl rfl rfl
def ty229 : TyI := { und := .int .u64, size := 1, bytes := 8, zv := (.int .u64 0), agg := false, sh := [.int .u64] }
theorem ty229_good : TGood Tryz.prog 229 ty229 := TGood.of (by kernel_rfl) (by kernel_rfl) rfl rfl rfl rfl
def ty232 : TyI := { und := .ptr, size := 1, bytes := 8, zv := (.pointer none), agg := false, sh := [.ptr] }
theorem ty232_good : TGood Tryz.prog 232 ty232 := TGood.of (by kernel_rfl) (by kernel_rfl) rfl rfl rfl rfl
def ty234 : TyI := { und := .tup [183, 183], size := 1, bytes := 0, zv := (.tuple #[(.int .u32 0), (.int .u32 0)]), agg := false, sh := [.slice] }
theorem ty234_good : TGood Tryz.prog 234 ty234 := TGood.of (by kernel_rfl) (by kernel_rfl) rfl rfl rfl rfl
def ty236 : TyI := { und := .ptr, size := 1, bytes := 8, zv := (.pointer none), agg := false, sh := [.ptr] }
theorem ty236_good : TGood Tryz.prog 236 ty236 := TGood.of (by kernel_rfl) (by kernel_rfl) rfl rfl rfl rfl
def ty237 : TyI := { und := .tup [3, 3], size := 1, bytes := 0, zv := (.tuple #[(.int .i64 0), (.int .i64 0)]), agg := false, sh := [.slice] }
theorem ty237_good : TGood Tryz.prog 237 ty237 := TGood.of (by kernel_rfl) (by kernel_rfl) rfl rfl rfl rfl
def ty239 : TyI := { und := .struct [(17, 0), (17, 1), (17, 2), (9, 3)], size := 4, bytes := 40, zv := (.agg #[(.pointer none), (.pointer none), (.pointer none), (.string ⟨#[]⟩)]), agg := true, sh := [.ptr, .ptr, .ptr, .str] }
theorem ty239_good : TGood Tryz.prog 239 ty239 := TGood.of (by kernel_rfl) (by kernel_rfl) rfl rfl rfl rfl
def ty241 : TyI := { und := .arr 0 16, size := 0, bytes := 0, zv := (.agg #[]), agg := true, sh := [] }
theorem ty241_good : TGood Tryz.prog 241 ty241 := TGood.of (by kernel_rfl) (by kernel_rfl) rfl rfl rfl rfl
def ty242 : TyI := { und := .struct [(241, 0)], size := 0, bytes := 0, zv := (.agg #[]), agg := true, sh := [] }
theorem ty242_good : TGood Tryz.prog 242 ty242 := TGood.of (by kernel_rfl) (by kernel_rfl) rfl rfl rfl rfl
def ty247 : TyI := { und := .ptr, size := 1, bytes := 8, zv := (.pointer none), agg := false, sh := [.ptr] }
theorem ty247_good : TGood Tryz.prog 247 ty247 := TGood.of (by kernel_rfl) (by kernel_rfl) rfl rfl rfl rfl
def ty40 : TyI := { und := .arr 3 5, size := 3, bytes := 3, zv := (.agg #[(.int .u8 0), (.int .u8 0), (.int .u8 0)]), agg := true, sh := [.int .u8, .int .u8, .int .u8], eq := true }
theorem ty40_good : TGood Tryz.prog 40 ty40 := TGood.ofEq (by kernel_rfl) (by kernel_rfl) rfl rfl rfl (eqOK_mono (by kernel_rfl) (by kernel_rfl) ty5_good rfl rfl (by kernel_rfl))
def ty41 : TyI := { und := .arr 3 5, size := 3, bytes := 3, zv := (.agg #[(.int .u8 0), (.int .u8 0), (.int .u8 0)]), agg := true, sh := [.int .u8, .int .u8, .int .u8], eq := true }
theorem ty41_good : TGood Tryz.prog 41 ty41 := TGood.ofEq (by kernel_rfl) (by kernel_rfl) rfl rfl rfl (eqOK_mono (by kernel_rfl) (by kernel_rfl) ty5_good rfl rfl (by kernel_rfl))
def ty42 : TyI := { und := .struct [(41, 0), (9, 3)], size := 4, bytes := 24, zv := (.agg #[(.int .u8 0), (.int .u8 0), (.int .u8 0), (.string ⟨#[]⟩)]), agg := true, sh := [.int .u8, .int .u8, .int .u8, .str], eq := true }
theorem ty42_good : TGood Tryz.prog 42 ty42 := TGood.ofEq (by kernel_rfl) (by kernel_rfl) rfl rfl rfl (eqOK_term (by kernel_rfl) (by kernel_rfl) (by kernel_rfl) (by kernel_rfl) (by kernel_rfl) ty5_good rfl rfl ty41_good rfl rfl (by kernel_rfl) ty9_good rfl rfl (by kernel_rfl))
def ty43 : TyI := { und := .struct [(41, 0), (9, 3)], size := 4, bytes := 24, zv := (.agg #[(.int .u8 0), (.int .u8 0), (.int .u8 0), (.string ⟨#[]⟩)]), agg := true, sh := [.int .u8, .int .u8, .int .u8, .str], eq := true }
theorem ty43_good : TGood Tryz.prog 43 ty43 := TGood.ofEq (by kernel_rfl) (by kernel_rfl) rfl rfl rfl (eqOK_term (by kernel_rfl) (by kernel_rfl) (by kernel_rfl) (by kernel_rfl) (by kernel_rfl) ty5_good rfl rfl ty41_good rfl rfl (by kernel_rfl) ty9_good rfl rfl (by kernel_rfl))
def tt : List (Nat × TyI) := [(0, ty0), (2, ty2), (3, ty3), (4, ty4), (5, ty5), (9, ty9), (12, ty12), (13, ty13), (15, ty15), (16, ty16), (17, ty17), (18, ty18), (19, ty19), (21, ty21), (22, ty22), (24, ty24), (25, ty25), (26, ty26), (27, ty27), (28, ty28), (29, ty29), (30, ty30), (31, ty31), (32, ty32), (33, ty33), (34, ty34), (35, ty35), (36, ty36), (37, ty37), (38, ty38), (40, ty40), (41, ty41), (42, ty42), (43, ty43), (44, ty44), (45, ty45), (46, ty46), (47, ty47), (49, ty49), (50, ty50), (52, ty52), (55, ty55), (57, ty57), (59, ty59), (64, ty64), (65, ty65), (73, ty73), (75, ty75), (89, ty89), (90, ty90), (91, ty91), (92, ty92), (109, ty109), (111, ty111), (114, ty114), (115, ty115), (120, ty120), (145, ty145), (148, ty148), (149, ty149), (153, ty153), (155, ty155), (157, ty157), (168, ty168), (170, ty170), (183, ty183), (184, ty184), (187, ty187), (189, ty189), (193, ty193), (205, ty205), (216, ty216), (217, ty217), (221, ty221), (229, ty229), (232, ty232), (234, ty234), (236, ty236), (237, ty237), (239, ty239), (241, ty241), (242, ty242), (247, ty247)]
theorem tt_ok : TabOK Tryz.prog tt := ⟨ty0_good, ⟨ty2_good, ⟨ty3_good, ⟨ty4_good, ⟨ty5_good, ⟨ty9_good, ⟨ty12_good, ⟨ty13_good, ⟨ty15_good, ⟨ty16_good, ⟨ty17_good, ⟨ty18_good, ⟨ty19_good, ⟨ty21_good, ⟨ty22_good, ⟨ty24_good, ⟨ty25_good, ⟨ty26_good, ⟨ty27_good, ⟨ty28_good, ⟨ty29_good, ⟨ty30_good, ⟨ty31_good, ⟨ty32_good, ⟨ty33_good, ⟨ty34_good, ⟨ty35_good, ⟨ty36_good, ⟨ty37_good, ⟨ty38_good, ⟨ty40_good, ⟨ty41_good, ⟨ty42_good, ⟨ty43_good, ⟨ty44_good, ⟨ty45_good, ⟨ty46_good, ⟨ty47_good, ⟨ty49_good, ⟨ty50_good, ⟨ty52_good, ⟨ty55_good, ⟨ty57_good, ⟨ty59_good, ⟨ty64_good, ⟨ty65_good, ⟨ty73_good, ⟨ty75_good, ⟨ty89_good, ⟨ty90_good, ⟨ty91_good, ⟨ty92_good, ⟨ty109_good, ⟨ty111_good, ⟨ty114_good, ⟨ty115_good, ⟨ty120_good, ⟨ty145_good, ⟨ty148_good, ⟨ty149_good, ⟨ty153_good, ⟨ty155_good, ⟨ty157_good, ⟨ty168_good, ⟨ty170_good, ⟨ty183_good, ⟨ty184_good, ⟨ty187_good, ⟨ty189_good, ⟨ty193_good, ⟨ty205_good, ⟨ty216_good, ⟨ty217_good, ⟨ty221_good, ⟨ty229_good, ⟨ty232_good, ⟨ty234_good, ⟨ty236_good, ⟨ty237_good, ⟨ty239_good, ⟨ty241_good, ⟨ty242_good, ⟨ty247_good, trivial⟩⟩⟩⟩⟩⟩⟩⟩⟩⟩⟩⟩⟩⟩⟩⟩⟩⟩⟩⟩⟩⟩⟩⟩⟩⟩⟩⟩⟩⟩⟩⟩⟩⟩⟩⟩⟩⟩⟩⟩⟩⟩⟩⟩⟩⟩⟩⟩⟩⟩⟩⟩⟩⟩⟩⟩⟩⟩⟩⟩⟩⟩⟩⟩⟩⟩⟩⟩⟩⟩⟩⟩⟩⟩⟩⟩⟩⟩⟩⟩⟩⟩⟩
theorem tt_in : FieldsIn tt := fieldsIn_of (by kernel_rfl)
end Go.Proofs.YtbingbjhgoanoaaGreat
