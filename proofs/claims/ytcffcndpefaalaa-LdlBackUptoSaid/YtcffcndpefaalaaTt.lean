/- The types of this place's program, as the symbolic evaluator wants them; each row is asked of the program itself. Written by gentt.py. -/
import Derived.Test.YtcffcndpefaalaaProg
import Derived.Test.YtcffcndpefaalaaSx4
set_option linter.unusedVariables false
set_option linter.unusedSimpArgs false
set_option linter.unusedVariables false
namespace Go.Proofs.Ytcffcndpefaalaa
open Go Go.SX
/-- () -/
def ty0 : TyI := { und := .tup [], size := 1, bytes := 0, zv := (.tuple #[]), agg := false, sh := [.slice] }
theorem ty0_good : TGood Try.prog 0 ty0 := TGood.of (by kernel_rfl) (by kernel_rfl) rfl rfl rfl
/-- int64 -/
def ty2 : TyI := { und := .int .i64, size := 1, bytes := 8, zv := (.int .i64 0), agg := false, sh := [.int .i64] }
theorem ty2_good : TGood Try.prog 2 ty2 := TGood.of (by kernel_rfl) (by kernel_rfl) rfl rfl rfl
/-- int -/
def ty3 : TyI := { und := .int .i64, size := 1, bytes := 8, zv := (.int .i64 0), agg := false, sh := [.int .i64] }
theorem ty3_good : TGood Try.prog 3 ty3 := TGood.of (by kernel_rfl) (by kernel_rfl) rfl rfl rfl
/-- bool -/
def ty4 : TyI := { und := .bool, size := 1, bytes := 1, zv := (.bool false), agg := false, sh := [.bool] }
theorem ty4_good : TGood Try.prog 4 ty4 := TGood.of (by kernel_rfl) (by kernel_rfl) rfl rfl rfl
/-- uint8 -/
def ty5 : TyI := { und := .int .u8, size := 1, bytes := 1, zv := (.int .u8 0), agg := false, sh := [.int .u8] }
theorem ty5_good : TGood Try.prog 5 ty5 := TGood.of (by kernel_rfl) (by kernel_rfl) rfl rfl rfl
/-- string -/
def ty9 : TyI := { und := .str, size := 1, bytes := 16, zv := (.string ⟨#[]⟩), agg := false, sh := [.str] }
theorem ty9_good : TGood Try.prog 9 ty9 := TGood.of (by kernel_rfl) (by kernel_rfl) rfl rfl rfl
/-- uintptr -/
def ty12 : TyI := { und := .int .u64, size := 1, bytes := 8, zv := (.int .u64 0), agg := false, sh := [.int .u64] }
theorem ty12_good : TGood Try.prog 12 ty12 := TGood.of (by kernel_rfl) (by kernel_rfl) rfl rfl rfl
/-- struct { msg string; addr uintptr } -/
def ty13 : TyI := { und := .struct [(9, 0), (12, 1)], size := 2, bytes := 24, zv := (.agg #[(.string ⟨#[]⟩), (.int .u64 0)]), agg := true, sh := [.str, .int .u64] }
theorem ty13_good : TGood Try.prog 13 ty13 := TGood.of (by kernel_rfl) (by kernel_rfl) rfl rfl rfl
/-- *runtime.TypeAssertionError -/
def ty15 : TyI := { und := .ptr, size := 1, bytes := 8, zv := (.pointer none), agg := false, sh := [.ptr] }
theorem ty15_good : TGood Try.prog 15 ty15 := TGood.of (by kernel_rfl) (by kernel_rfl) rfl rfl rfl
/-- *runtime.PanicNilError -/
def ty16 : TyI := { und := .ptr, size := 1, bytes := 8, zv := (.pointer none), agg := false, sh := [.ptr] }
theorem ty16_good : TGood Try.prog 16 ty16 := TGood.of (by kernel_rfl) (by kernel_rfl) rfl rfl rfl
/-- *abi.Type -/
def ty17 : TyI := { und := .ptr, size := 1, bytes := 8, zv := (.pointer none), agg := false, sh := [.ptr] }
theorem ty17_good : TGood Try.prog 17 ty17 := TGood.of (by kernel_rfl) (by kernel_rfl) rfl rfl rfl
/-- struct { typ *abi.Type } -/
def ty18 : TyI := { und := .struct [(17, 0)], size := 1, bytes := 8, zv := (.agg #[(.pointer none)]), agg := true, sh := [.ptr] }
theorem ty18_good : TGood Try.prog 18 ty18 := TGood.of (by kernel_rfl) (by kernel_rfl) rfl rfl rfl
/-- maps.unhashableTypeError -/
def ty19 : TyI := { und := .struct [(17, 0)], size := 1, bytes := 8, zv := (.agg #[(.pointer none)]), agg := true, sh := [.ptr] }
theorem ty19_good : TGood Try.prog 19 ty19 := TGood.of (by kernel_rfl) (by kernel_rfl) rfl rfl rfl
/-- int32 -/
def ty21 : TyI := { und := .int .i32, size := 1, bytes := 4, zv := (.int .i32 0), agg := false, sh := [.int .i32] }
theorem ty21_good : TGood Try.prog 21 ty21 := TGood.of (by kernel_rfl) (by kernel_rfl) rfl rfl rfl
/-- [][]string -/
def ty22 : TyI := { und := .slice 52, size := 1, bytes := 24, zv := (.slice none 0 0), agg := false, sh := [.slice] }
theorem ty22_good : TGood Try.prog 22 ty22 := TGood.of (by kernel_rfl) (by kernel_rfl) rfl rfl rfl
/-- [][]rat.Rat -/
def ty23 : TyI := { und := .slice 31, size := 1, bytes := 24, zv := (.slice none 0 0), agg := false, sh := [.slice] }
theorem ty23_good : TGood Try.prog 23 ty23 := TGood.of (by kernel_rfl) (by kernel_rfl) rfl rfl rfl
/-- mat.Mat -/
def ty24 : TyI := { und := .slice 31, size := 1, bytes := 24, zv := (.slice none 0 0), agg := false, sh := [.slice] }
theorem ty24_good : TGood Try.prog 24 ty24 := TGood.of (by kernel_rfl) (by kernel_rfl) rfl rfl rfl
/-- [][]cinctureref1.Rat -/
def ty25 : TyI := { und := .slice 51, size := 1, bytes := 24, zv := (.slice none 0 0), agg := false, sh := [.slice] }
theorem ty25_good : TGood Try.prog 25 ty25 := TGood.of (by kernel_rfl) (by kernel_rfl) rfl rfl rfl
/-- cinctureref1.Mat -/
def ty26 : TyI := { und := .slice 51, size := 1, bytes := 24, zv := (.slice none 0 0), agg := false, sh := [.slice] }
theorem ty26_good : TGood Try.prog 26 ty26 := TGood.of (by kernel_rfl) (by kernel_rfl) rfl rfl rfl
/-- (mat.Mat, cinctureref1.Mat) -/
def ty27 : TyI := { und := .tup [24, 26], size := 1, bytes := 0, zv := (.tuple #[(.slice none 0 0), (.slice none 0 0)]), agg := false, sh := [.slice] }
theorem ty27_good : TGood Try.prog 27 ty27 := TGood.of (by kernel_rfl) (by kernel_rfl) rfl rfl rfl
/-- []rat.Rat -/
def ty31 : TyI := { und := .slice 43, size := 1, bytes := 24, zv := (.slice none 0 0), agg := false, sh := [.slice] }
theorem ty31_good : TGood Try.prog 31 ty31 := TGood.of (by kernel_rfl) (by kernel_rfl) rfl rfl rfl
/-- (mat.Mat, []rat.Rat, bool) -/
def ty32 : TyI := { und := .tup [24, 31, 4], size := 1, bytes := 0, zv := (.tuple #[(.slice none 0 0), (.slice none 0 0), (.bool false)]), agg := false, sh := [.slice] }
theorem ty32_good : TGood Try.prog 32 ty32 := TGood.of (by kernel_rfl) (by kernel_rfl) rfl rfl rfl
/-- []uint32 -/
def ty37 : TyI := { und := .slice 106, size := 1, bytes := 24, zv := (.slice none 0 0), agg := false, sh := [.slice] }
theorem ty37_good : TGood Try.prog 37 ty37 := TGood.of (by kernel_rfl) (by kernel_rfl) rfl rfl rfl
/-- struct { l []uint32 } -/
def ty38 : TyI := { und := .struct [(37, 0)], size := 1, bytes := 24, zv := (.agg #[(.slice none 0 0)]), agg := true, sh := [.slice] }
theorem ty38_good : TGood Try.prog 38 ty38 := TGood.of (by kernel_rfl) (by kernel_rfl) rfl rfl rfl
/-- nat.Nat -/
def ty39 : TyI := { und := .struct [(37, 0)], size := 1, bytes := 24, zv := (.agg #[(.slice none 0 0)]), agg := true, sh := [.slice] }
theorem ty39_good : TGood Try.prog 39 ty39 := TGood.of (by kernel_rfl) (by kernel_rfl) rfl rfl rfl
/-- struct { a nat.Nat; below bool } -/
def ty40 : TyI := { und := .struct [(39, 0), (4, 1)], size := 2, bytes := 32, zv := (.agg #[(.slice none 0 0), (.bool false)]), agg := true, sh := [.slice, .bool] }
theorem ty40_good : TGood Try.prog 40 ty40 := TGood.of (by kernel_rfl) (by kernel_rfl) rfl rfl rfl
/-- whole.Int -/
def ty41 : TyI := { und := .struct [(39, 0), (4, 1)], size := 2, bytes := 32, zv := (.agg #[(.slice none 0 0), (.bool false)]), agg := true, sh := [.slice, .bool] }
theorem ty41_good : TGood Try.prog 41 ty41 := TGood.of (by kernel_rfl) (by kernel_rfl) rfl rfl rfl
/-- struct { n whole.Int; d nat.Nat } -/
def ty42 : TyI := { und := .struct [(41, 0), (39, 2)], size := 3, bytes := 56, zv := (.agg #[(.slice none 0 0), (.bool false), (.slice none 0 0)]), agg := true, sh := [.slice, .bool, .slice] }
theorem ty42_good : TGood Try.prog 42 ty42 := TGood.of (by kernel_rfl) (by kernel_rfl) rfl rfl rfl
/-- rat.Rat -/
def ty43 : TyI := { und := .struct [(41, 0), (39, 2)], size := 3, bytes := 56, zv := (.agg #[(.slice none 0 0), (.bool false), (.slice none 0 0)]), agg := true, sh := [.slice, .bool, .slice] }
theorem ty43_good : TGood Try.prog 43 ty43 := TGood.of (by kernel_rfl) (by kernel_rfl) rfl rfl rfl
/-- (mat.Mat, bool) -/
def ty46 : TyI := { und := .tup [24, 4], size := 1, bytes := 0, zv := (.tuple #[(.slice none 0 0), (.bool false)]), agg := false, sh := [.slice] }
theorem ty46_good : TGood Try.prog 46 ty46 := TGood.of (by kernel_rfl) (by kernel_rfl) rfl rfl rfl
/-- []cinctureref1.Rat -/
def ty51 : TyI := { und := .slice 57, size := 1, bytes := 24, zv := (.slice none 0 0), agg := false, sh := [.slice] }
theorem ty51_good : TGood Try.prog 51 ty51 := TGood.of (by kernel_rfl) (by kernel_rfl) rfl rfl rfl
/-- []string -/
def ty52 : TyI := { und := .slice 9, size := 1, bytes := 24, zv := (.slice none 0 0), agg := false, sh := [.slice] }
theorem ty52_good : TGood Try.prog 52 ty52 := TGood.of (by kernel_rfl) (by kernel_rfl) rfl rfl rfl
/-- cinctureref1.Nat -/
def ty53 : TyI := { und := .slice 106, size := 1, bytes := 24, zv := (.slice none 0 0), agg := false, sh := [.slice] }
theorem ty53_good : TGood Try.prog 53 ty53 := TGood.of (by kernel_rfl) (by kernel_rfl) rfl rfl rfl
/-- struct { Neg bool; A cinctureref1.Nat } -/
def ty54 : TyI := { und := .struct [(4, 0), (53, 1)], size := 2, bytes := 32, zv := (.agg #[(.bool false), (.slice none 0 0)]), agg := true, sh := [.bool, .slice] }
theorem ty54_good : TGood Try.prog 54 ty54 := TGood.of (by kernel_rfl) (by kernel_rfl) rfl rfl rfl
/-- cinctureref1.Int -/
def ty55 : TyI := { und := .struct [(4, 0), (53, 1)], size := 2, bytes := 32, zv := (.agg #[(.bool false), (.slice none 0 0)]), agg := true, sh := [.bool, .slice] }
theorem ty55_good : TGood Try.prog 55 ty55 := TGood.of (by kernel_rfl) (by kernel_rfl) rfl rfl rfl
/-- struct { N cinctureref1.Int; D cinctureref1.Nat } -/
def ty56 : TyI := { und := .struct [(55, 0), (53, 2)], size := 3, bytes := 56, zv := (.agg #[(.bool false), (.slice none 0 0), (.slice none 0 0)]), agg := true, sh := [.bool, .slice, .slice] }
theorem ty56_good : TGood Try.prog 56 ty56 := TGood.of (by kernel_rfl) (by kernel_rfl) rfl rfl rfl
/-- cinctureref1.Rat -/
def ty57 : TyI := { und := .struct [(55, 0), (53, 2)], size := 3, bytes := 56, zv := (.agg #[(.bool false), (.slice none 0 0), (.slice none 0 0)]), agg := true, sh := [.bool, .slice, .slice] }
theorem ty57_good : TGood Try.prog 57 ty57 := TGood.of (by kernel_rfl) (by kernel_rfl) rfl rfl rfl
/-- (rat.Rat, cinctureref1.Rat, bool) -/
def ty58 : TyI := { und := .tup [43, 57, 4], size := 1, bytes := 0, zv := (.tuple #[(.agg #[(.slice none 0 0), (.bool false), (.slice none 0 0)]), (.agg #[(.bool false), (.slice none 0 0), (.slice none 0 0)]), (.bool false)]), agg := false, sh := [.slice] }
theorem ty58_good : TGood Try.prog 58 ty58 := TGood.of (by kernel_rfl) (by kernel_rfl) rfl rfl rfl
/-- api.Code -/
def ty60 : TyI := { und := .int .i64, size := 1, bytes := 8, zv := (.int .i64 0), agg := false, sh := [.int .i64] }
theorem ty60_good : TGood Try.prog 60 ty60 := TGood.of (by kernel_rfl) (by kernel_rfl) rfl rfl rfl
/-- (mat.Mat, api.Code) -/
def ty61 : TyI := { und := .tup [24, 60], size := 1, bytes := 0, zv := (.tuple #[(.slice none 0 0), (.int .i64 0)]), agg := false, sh := [.slice] }
theorem ty61_good : TGood Try.prog 61 ty61 := TGood.of (by kernel_rfl) (by kernel_rfl) rfl rfl rfl
/-- (rat.Rat, bool) -/
def ty65 : TyI := { und := .tup [43, 4], size := 1, bytes := 0, zv := (.tuple #[(.agg #[(.slice none 0 0), (.bool false), (.slice none 0 0)]), (.bool false)]), agg := false, sh := [.slice] }
theorem ty65_good : TGood Try.prog 65 ty65 := TGood.of (by kernel_rfl) (by kernel_rfl) rfl rfl rfl
/-- (cinctureref1.Rat, bool) -/
def ty79 : TyI := { und := .tup [57, 4], size := 1, bytes := 0, zv := (.tuple #[(.agg #[(.bool false), (.slice none 0 0), (.slice none 0 0)]), (.bool false)]), agg := false, sh := [.slice] }
theorem ty79_good : TGood Try.prog 79 ty79 := TGood.of (by kernel_rfl) (by kernel_rfl) rfl rfl rfl
/-- (rat.Rat, api.Code) -/
def ty81 : TyI := { und := .tup [43, 60], size := 1, bytes := 0, zv := (.tuple #[(.agg #[(.slice none 0 0), (.bool false), (.slice none 0 0)]), (.int .i64 0)]), agg := false, sh := [.slice] }
theorem ty81_good : TGood Try.prog 81 ty81 := TGood.of (by kernel_rfl) (by kernel_rfl) rfl rfl rfl
/-- uint64 -/
def ty87 : TyI := { und := .int .u64, size := 1, bytes := 8, zv := (.int .u64 0), agg := false, sh := [.int .u64] }
theorem ty87_good : TGood Try.prog 87 ty87 := TGood.of (by kernel_rfl) (by kernel_rfl) rfl rfl rfl
/-- (cinctureref1.Int, bool) -/
def ty92 : TyI := { und := .tup [55, 4], size := 1, bytes := 0, zv := (.tuple #[(.agg #[(.bool false), (.slice none 0 0)]), (.bool false)]), agg := false, sh := [.slice] }
theorem ty92_good : TGood Try.prog 92 ty92 := TGood.of (by kernel_rfl) (by kernel_rfl) rfl rfl rfl
/-- (cinctureref1.Nat, bool) -/
def ty95 : TyI := { und := .tup [53, 4], size := 1, bytes := 0, zv := (.tuple #[(.slice none 0 0), (.bool false)]), agg := false, sh := [.slice] }
theorem ty95_good : TGood Try.prog 95 ty95 := TGood.of (by kernel_rfl) (by kernel_rfl) rfl rfl rfl
/-- (string, string, bool) -/
def ty99 : TyI := { und := .tup [9, 9, 4], size := 1, bytes := 0, zv := (.tuple #[(.string ⟨#[]⟩), (.string ⟨#[]⟩), (.bool false)]), agg := false, sh := [.slice] }
theorem ty99_good : TGood Try.prog 99 ty99 := TGood.of (by kernel_rfl) (by kernel_rfl) rfl rfl rfl
/-- (whole.Int, api.Code) -/
def ty101 : TyI := { und := .tup [41, 60], size := 1, bytes := 0, zv := (.tuple #[(.agg #[(.slice none 0 0), (.bool false)]), (.int .i64 0)]), agg := false, sh := [.slice] }
theorem ty101_good : TGood Try.prog 101 ty101 := TGood.of (by kernel_rfl) (by kernel_rfl) rfl rfl rfl
/-- (nat.Nat, api.Code) -/
def ty103 : TyI := { und := .tup [39, 60], size := 1, bytes := 0, zv := (.tuple #[(.agg #[(.slice none 0 0)]), (.int .i64 0)]), agg := false, sh := [.slice] }
theorem ty103_good : TGood Try.prog 103 ty103 := TGood.of (by kernel_rfl) (by kernel_rfl) rfl rfl rfl
/-- uint32 -/
def ty106 : TyI := { und := .int .u32, size := 1, bytes := 4, zv := (.int .u32 0), agg := false, sh := [.int .u32] }
theorem ty106_good : TGood Try.prog 106 ty106 := TGood.of (by kernel_rfl) (by kernel_rfl) rfl rfl rfl
/-- []uint8 -/
def ty108 : TyI := { und := .slice 5, size := 1, bytes := 24, zv := (.slice none 0 0), agg := false, sh := [.slice] }
theorem ty108_good : TGood Try.prog 108 ty108 := TGood.of (by kernel_rfl) (by kernel_rfl) rfl rfl rfl
/-- (nat.Nat, nat.Nat, bool) -/
def ty113 : TyI := { und := .tup [39, 39, 4], size := 1, bytes := 0, zv := (.tuple #[(.agg #[(.slice none 0 0)]), (.agg #[(.slice none 0 0)]), (.bool false)]), agg := false, sh := [.slice] }
theorem ty113_good : TGood Try.prog 113 ty113 := TGood.of (by kernel_rfl) (by kernel_rfl) rfl rfl rfl
/-- uint -/
def ty115 : TyI := { und := .int .u64, size := 1, bytes := 8, zv := (.int .u64 0), agg := false, sh := [.int .u64] }
theorem ty115_good : TGood Try.prog 115 ty115 := TGood.of (by kernel_rfl) (by kernel_rfl) rfl rfl rfl
/-- (nat.Nat, bool) -/
def ty119 : TyI := { und := .tup [39, 4], size := 1, bytes := 0, zv := (.tuple #[(.agg #[(.slice none 0 0)]), (.bool false)]), agg := false, sh := [.slice] }
theorem ty119_good : TGood Try.prog 119 ty119 := TGood.of (by kernel_rfl) (by kernel_rfl) rfl rfl rfl
/-- (cinctureref1.Nat, cinctureref1.Nat) -/
def ty122 : TyI := { und := .tup [53, 53], size := 1, bytes := 0, zv := (.tuple #[(.slice none 0 0), (.slice none 0 0)]), agg := false, sh := [.slice] }
theorem ty122_good : TGood Try.prog 122 ty122 := TGood.of (by kernel_rfl) (by kernel_rfl) rfl rfl rfl
/-- (uint32, uint32) -/
def ty137 : TyI := { und := .tup [106, 106], size := 1, bytes := 0, zv := (.tuple #[(.int .u32 0), (.int .u32 0)]), agg := false, sh := [.slice] }
theorem ty137_good : TGood Try.prog 137 ty137 := TGood.of (by kernel_rfl) (by kernel_rfl) rfl rfl rfl
/-- struct { _interface *abi.Type; concrete *abi.Type; asserted  -/
def ty139 : TyI := { und := .struct [(17, 0), (17, 1), (17, 2), (9, 3)], size := 4, bytes := 40, zv := (.agg #[(.pointer none), (.pointer none), (.pointer none), (.string ⟨#[]⟩)]), agg := true, sh := [.ptr, .ptr, .ptr, .str] }
theorem ty139_good : TGood Try.prog 139 ty139 := TGood.of (by kernel_rfl) (by kernel_rfl) rfl rfl rfl
/-- [0]*runtime.PanicNilError -/
def ty141 : TyI := { und := .arr 0 16, size := 0, bytes := 0, zv := (.agg #[]), agg := true, sh := [] }
theorem ty141_good : TGood Try.prog 141 ty141 := TGood.of (by kernel_rfl) (by kernel_rfl) rfl rfl rfl
/-- struct { _ [0]*runtime.PanicNilError } -/
def ty142 : TyI := { und := .struct [(141, 0)], size := 0, bytes := 0, zv := (.agg #[]), agg := true, sh := [] }
theorem ty142_good : TGood Try.prog 142 ty142 := TGood.of (by kernel_rfl) (by kernel_rfl) rfl rfl rfl
/-- *uint8 -/
def ty147 : TyI := { und := .ptr, size := 1, bytes := 8, zv := (.pointer none), agg := false, sh := [.ptr] }
theorem ty147_good : TGood Try.prog 147 ty147 := TGood.of (by kernel_rfl) (by kernel_rfl) rfl rfl rfl
def tt : List (Nat × TyI) := [(0, ty0), (2, ty2), (3, ty3), (4, ty4), (5, ty5), (9, ty9), (12, ty12), (13, ty13), (15, ty15), (16, ty16), (17, ty17), (18, ty18), (19, ty19), (21, ty21), (22, ty22), (23, ty23), (24, ty24), (25, ty25), (26, ty26), (27, ty27), (31, ty31), (32, ty32), (37, ty37), (38, ty38), (39, ty39), (40, ty40), (41, ty41), (42, ty42), (43, ty43), (46, ty46), (51, ty51), (52, ty52), (53, ty53), (54, ty54), (55, ty55), (56, ty56), (57, ty57), (58, ty58), (60, ty60), (61, ty61), (65, ty65), (79, ty79), (81, ty81), (87, ty87), (92, ty92), (95, ty95), (99, ty99), (101, ty101), (103, ty103), (106, ty106), (108, ty108), (113, ty113), (115, ty115), (119, ty119), (122, ty122), (137, ty137), (139, ty139), (141, ty141), (142, ty142), (147, ty147)]
theorem tt_ok : TabOK Try.prog tt := ⟨ty0_good, ⟨ty2_good, ⟨ty3_good, ⟨ty4_good, ⟨ty5_good, ⟨ty9_good, ⟨ty12_good, ⟨ty13_good, ⟨ty15_good, ⟨ty16_good, ⟨ty17_good, ⟨ty18_good, ⟨ty19_good, ⟨ty21_good, ⟨ty22_good, ⟨ty23_good, ⟨ty24_good, ⟨ty25_good, ⟨ty26_good, ⟨ty27_good, ⟨ty31_good, ⟨ty32_good, ⟨ty37_good, ⟨ty38_good, ⟨ty39_good, ⟨ty40_good, ⟨ty41_good, ⟨ty42_good, ⟨ty43_good, ⟨ty46_good, ⟨ty51_good, ⟨ty52_good, ⟨ty53_good, ⟨ty54_good, ⟨ty55_good, ⟨ty56_good, ⟨ty57_good, ⟨ty58_good, ⟨ty60_good, ⟨ty61_good, ⟨ty65_good, ⟨ty79_good, ⟨ty81_good, ⟨ty87_good, ⟨ty92_good, ⟨ty95_good, ⟨ty99_good, ⟨ty101_good, ⟨ty103_good, ⟨ty106_good, ⟨ty108_good, ⟨ty113_good, ⟨ty115_good, ⟨ty119_good, ⟨ty122_good, ⟨ty137_good, ⟨ty139_good, ⟨ty141_good, ⟨ty142_good, ⟨ty147_good, trivial⟩⟩⟩⟩⟩⟩⟩⟩⟩⟩⟩⟩⟩⟩⟩⟩⟩⟩⟩⟩⟩⟩⟩⟩⟩⟩⟩⟩⟩⟩⟩⟩⟩⟩⟩⟩⟩⟩⟩⟩⟩⟩⟩⟩⟩⟩⟩⟩⟩⟩⟩⟩⟩⟩⟩⟩⟩⟩⟩⟩
theorem tt_in : FieldsIn tt := fieldsIn_of (by kernel_rfl)
end Go.Proofs.Ytcffcndpefaalaa
