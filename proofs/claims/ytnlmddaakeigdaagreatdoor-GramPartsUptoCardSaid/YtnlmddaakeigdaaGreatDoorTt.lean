/- The types of this place's program, as the symbolic evaluator wants them; each row is asked of the program itself. Written by gentt.py. -/
import Derived.Test.YtnlmddaakeigdaaGreatDoorProg
import Derived.Test.YtnlmddaakeigdaaGreatDoorSx5
set_option linter.unusedVariables false
set_option linter.unusedSimpArgs false
set_option linter.unusedVariables false
namespace Go.Proofs.YtnlmddaakeigdaaGreatDoor
open Go Go.SX
def ty0:TyI:={und:=.tup [],size:=1,bytes:=0,zv:=(.tuple #[]),agg:=false,sh:=[.slice] }
theorem ty0_good:TGood Tryz.prog 0 ty0:=TGood.of (by kernel_rfl) (by kernel_rfl) rfl rfl rfl rfl
def ty2:TyI:={und:=.int .i64,size:=1,bytes:=8,zv:=(.int .i64 0),agg:=false,sh:=[.int .i64] }
theorem ty2_good:TGood Tryz.prog 2 ty2:=TGood.of (by kernel_rfl) (by kernel_rfl) rfl rfl rfl rfl
def ty3:TyI:={und:=.int .i64,size:=1,bytes:=8,zv:=(.int .i64 0),agg:=false,sh:=[.int .i64] }
theorem ty3_good:TGood Tryz.prog 3 ty3:=TGood.of (by kernel_rfl) (by kernel_rfl) rfl rfl rfl rfl
def ty4:TyI:={und:=.bool,size:=1,bytes:=1,zv:=(.bool false),agg:=false,sh:=[.bool] }
theorem ty4_good:TGood Tryz.prog 4 ty4:=TGood.of (by kernel_rfl) (by kernel_rfl) rfl rfl rfl rfl
def ty5:TyI:={und:=.int .u8,size:=1,bytes:=1,zv:=(.int .u8 0),agg:=false,sh:=[.int .u8] }
theorem ty5_good:TGood Tryz.prog 5 ty5:=TGood.of (by kernel_rfl) (by kernel_rfl) rfl rfl rfl rfl
def ty9:TyI:={und:=.str,size:=1,bytes:=16,zv:=(.string ⟨#[]⟩),agg:=false,sh:=[.str] }
theorem ty9_good:TGood Tryz.prog 9 ty9:=TGood.of (by kernel_rfl) (by kernel_rfl) rfl rfl rfl rfl
def ty12:TyI:={und:=.int .u64,size:=1,bytes:=8,zv:=(.int .u64 0),agg:=false,sh:=[.int .u64] }
theorem ty12_good:TGood Tryz.prog 12 ty12:=TGood.of (by kernel_rfl) (by kernel_rfl) rfl rfl rfl rfl
def ty13:TyI:={und:=.struct [(9,0),(12,1)],size:=2,bytes:=24,zv:=(.agg #[(.string ⟨#[]⟩),(.int .u64 0)]),agg:=true,sh:=[.str,.int .u64] }
theorem ty13_good:TGood Tryz.prog 13 ty13:=TGood.of (by kernel_rfl) (by kernel_rfl) rfl rfl rfl rfl
def ty15:TyI:={und:=.ptr,size:=1,bytes:=8,zv:=(.pointer none),agg:=false,sh:=[.ptr] }
theorem ty15_good:TGood Tryz.prog 15 ty15:=TGood.of (by kernel_rfl) (by kernel_rfl) rfl rfl rfl rfl
def ty16:TyI:={und:=.ptr,size:=1,bytes:=8,zv:=(.pointer none),agg:=false,sh:=[.ptr] }
theorem ty16_good:TGood Tryz.prog 16 ty16:=TGood.of (by kernel_rfl) (by kernel_rfl) rfl rfl rfl rfl
def ty17:TyI:={und:=.ptr,size:=1,bytes:=8,zv:=(.pointer none),agg:=false,sh:=[.ptr] }
theorem ty17_good:TGood Tryz.prog 17 ty17:=TGood.of (by kernel_rfl) (by kernel_rfl) rfl rfl rfl rfl
def ty18:TyI:={und:=.struct [(17,0)],size:=1,bytes:=8,zv:=(.agg #[(.pointer none)]),agg:=true,sh:=[.ptr] }
theorem ty18_good:TGood Tryz.prog 18 ty18:=TGood.of (by kernel_rfl) (by kernel_rfl) rfl rfl rfl rfl
def ty19:TyI:={und:=.struct [(17,0)],size:=1,bytes:=8,zv:=(.agg #[(.pointer none)]),agg:=true,sh:=[.ptr] }
theorem ty19_good:TGood Tryz.prog 19 ty19:=TGood.of (by kernel_rfl) (by kernel_rfl) rfl rfl rfl rfl
def ty21:TyI:={und:=.int .i32,size:=1,bytes:=4,zv:=(.int .i32 0),agg:=false,sh:=[.int .i32] }
theorem ty21_good:TGood Tryz.prog 21 ty21:=TGood.of (by kernel_rfl) (by kernel_rfl) rfl rfl rfl rfl
def ty22:TyI:={und:=.slice 145,size:=1,bytes:=24,zv:=(.slice none 0 0),agg:=false,sh:=[.slice] }
theorem ty22_good:TGood Tryz.prog 22 ty22:=TGood.of (by kernel_rfl) (by kernel_rfl) rfl rfl rfl rfl
def ty23:TyI:={und:=.slice 74,size:=1,bytes:=24,zv:=(.slice none 0 0),agg:=false,sh:=[.slice] }
theorem ty23_good:TGood Tryz.prog 23 ty23:=TGood.of (by kernel_rfl) (by kernel_rfl) rfl rfl rfl rfl
def ty24:TyI:={und:=.slice 79,size:=1,bytes:=24,zv:=(.slice none 0 0),agg:=false,sh:=[.slice] }
theorem ty24_good:TGood Tryz.prog 24 ty24:=TGood.of (by kernel_rfl) (by kernel_rfl) rfl rfl rfl rfl
def ty25:TyI:={und:=.slice 79,size:=1,bytes:=24,zv:=(.slice none 0 0),agg:=false,sh:=[.slice] }
theorem ty25_good:TGood Tryz.prog 25 ty25:=TGood.of (by kernel_rfl) (by kernel_rfl) rfl rfl rfl rfl
def ty26:TyI:={und:=.slice 82,size:=1,bytes:=24,zv:=(.slice none 0 0),agg:=false,sh:=[.slice] }
theorem ty26_good:TGood Tryz.prog 26 ty26:=TGood.of (by kernel_rfl) (by kernel_rfl) rfl rfl rfl rfl
def ty27:TyI:={und:=.tup [25,26,4],size:=1,bytes:=0,zv:=(.tuple #[(.slice none 0 0),(.slice none 0 0),(.bool false)]),agg:=false,sh:=[.slice] }
theorem ty27_good:TGood Tryz.prog 27 ty27:=TGood.of (by kernel_rfl) (by kernel_rfl) rfl rfl rfl rfl
def ty30:TyI:={und:=.slice 58,size:=1,bytes:=24,zv:=(.slice none 0 0),agg:=false,sh:=[.slice] }
theorem ty30_good:TGood Tryz.prog 30 ty30:=TGood.of (by kernel_rfl) (by kernel_rfl) rfl rfl rfl rfl
def ty31:TyI:={und:=.slice 43,size:=1,bytes:=24,zv:=(.slice none 0 0),agg:=false,sh:=[.slice] }
theorem ty31_good:TGood Tryz.prog 31 ty31:=TGood.of (by kernel_rfl) (by kernel_rfl) rfl rfl rfl rfl
def ty32:TyI:={und:=.tup [30,31],size:=1,bytes:=0,zv:=(.tuple #[(.slice none 0 0),(.slice none 0 0)]),agg:=false,sh:=[.slice] }
theorem ty32_good:TGood Tryz.prog 32 ty32:=TGood.of (by kernel_rfl) (by kernel_rfl) rfl rfl rfl rfl
def ty34:TyI:={und:=.slice 268,size:=1,bytes:=24,zv:=(.slice none 0 0),agg:=false,sh:=[.slice] }
theorem ty34_good:TGood Tryz.prog 34 ty34:=TGood.of (by kernel_rfl) (by kernel_rfl) rfl rfl rfl rfl
def ty35:TyI:={und:=.slice 268,size:=1,bytes:=24,zv:=(.slice none 0 0),agg:=false,sh:=[.slice] }
theorem ty35_good:TGood Tryz.prog 35 ty35:=TGood.of (by kernel_rfl) (by kernel_rfl) rfl rfl rfl rfl
def ty36:TyI:={und:=.struct [(4,0),(35,1)],size:=2,bytes:=32,zv:=(.agg #[(.bool false),(.slice none 0 0)]),agg:=true,sh:=[.bool,.slice] }
theorem ty36_good:TGood Tryz.prog 36 ty36:=TGood.of (by kernel_rfl) (by kernel_rfl) rfl rfl rfl rfl
def ty37:TyI:={und:=.struct [(4,0),(35,1)],size:=2,bytes:=32,zv:=(.agg #[(.bool false),(.slice none 0 0)]),agg:=true,sh:=[.bool,.slice] }
theorem ty37_good:TGood Tryz.prog 37 ty37:=TGood.of (by kernel_rfl) (by kernel_rfl) rfl rfl rfl rfl
def ty38:TyI:={und:=.struct [(37,0),(35,2)],size:=3,bytes:=56,zv:=(.agg #[(.bool false),(.slice none 0 0),(.slice none 0 0)]),agg:=true,sh:=[.bool,.slice,.slice] }
theorem ty38_good:TGood Tryz.prog 38 ty38:=TGood.of (by kernel_rfl) (by kernel_rfl) rfl rfl rfl rfl
def ty39:TyI:={und:=.struct [(37,0),(35,2)],size:=3,bytes:=56,zv:=(.agg #[(.bool false),(.slice none 0 0),(.slice none 0 0)]),agg:=true,sh:=[.bool,.slice,.slice] }
theorem ty39_good:TGood Tryz.prog 39 ty39:=TGood.of (by kernel_rfl) (by kernel_rfl) rfl rfl rfl rfl
def ty40:TyI:={und:=.slice 157,size:=1,bytes:=24,zv:=(.slice none 0 0),agg:=false,sh:=[.slice] }
theorem ty40_good:TGood Tryz.prog 40 ty40:=TGood.of (by kernel_rfl) (by kernel_rfl) rfl rfl rfl rfl
def ty41:TyI:={und:=.slice 157,size:=1,bytes:=24,zv:=(.slice none 0 0),agg:=false,sh:=[.slice] }
theorem ty41_good:TGood Tryz.prog 41 ty41:=TGood.of (by kernel_rfl) (by kernel_rfl) rfl rfl rfl rfl
def ty42:TyI:={und:=.struct [(39,0),(3,3),(41,4)],size:=5,bytes:=88,zv:=(.agg #[(.bool false),(.slice none 0 0),(.slice none 0 0),(.int .i64 0),(.slice none 0 0)]),agg:=true,sh:=[.bool,.slice,.slice,.int .i64,.slice] }
theorem ty42_good:TGood Tryz.prog 42 ty42:=TGood.of (by kernel_rfl) (by kernel_rfl) rfl rfl rfl rfl
def ty43:TyI:={und:=.struct [(39,0),(3,3),(41,4)],size:=5,bytes:=88,zv:=(.agg #[(.bool false),(.slice none 0 0),(.slice none 0 0),(.int .i64 0),(.slice none 0 0)]),agg:=true,sh:=[.bool,.slice,.slice,.int .i64,.slice] }
theorem ty43_good:TGood Tryz.prog 43 ty43:=TGood.of (by kernel_rfl) (by kernel_rfl) rfl rfl rfl rfl
def ty46:TyI:={und:=.slice 151,size:=1,bytes:=24,zv:=(.slice none 0 0),agg:=false,sh:=[.slice] }
theorem ty46_good:TGood Tryz.prog 46 ty46:=TGood.of (by kernel_rfl) (by kernel_rfl) rfl rfl rfl rfl
def ty47:TyI:={und:=.struct [(46,0)],size:=1,bytes:=24,zv:=(.agg #[(.slice none 0 0)]),agg:=true,sh:=[.slice] }
theorem ty47_good:TGood Tryz.prog 47 ty47:=TGood.of (by kernel_rfl) (by kernel_rfl) rfl rfl rfl rfl
def ty48:TyI:={und:=.struct [(46,0)],size:=1,bytes:=24,zv:=(.agg #[(.slice none 0 0)]),agg:=true,sh:=[.slice] }
theorem ty48_good:TGood Tryz.prog 48 ty48:=TGood.of (by kernel_rfl) (by kernel_rfl) rfl rfl rfl rfl
def ty49:TyI:={und:=.tup [48,4],size:=1,bytes:=0,zv:=(.tuple #[(.agg #[(.slice none 0 0)]),(.bool false)]),agg:=false,sh:=[.slice] }
theorem ty49_good:TGood Tryz.prog 49 ty49:=TGood.of (by kernel_rfl) (by kernel_rfl) rfl rfl rfl rfl
def ty51:TyI:={und:=.struct [(34,0)],size:=1,bytes:=24,zv:=(.agg #[(.slice none 0 0)]),agg:=true,sh:=[.slice] }
theorem ty51_good:TGood Tryz.prog 51 ty51:=TGood.of (by kernel_rfl) (by kernel_rfl) rfl rfl rfl rfl
def ty52:TyI:={und:=.struct [(34,0)],size:=1,bytes:=24,zv:=(.agg #[(.slice none 0 0)]),agg:=true,sh:=[.slice] }
theorem ty52_good:TGood Tryz.prog 52 ty52:=TGood.of (by kernel_rfl) (by kernel_rfl) rfl rfl rfl rfl
def ty53:TyI:={und:=.struct [(52,0),(4,1)],size:=2,bytes:=32,zv:=(.agg #[(.slice none 0 0),(.bool false)]),agg:=true,sh:=[.slice,.bool] }
theorem ty53_good:TGood Tryz.prog 53 ty53:=TGood.of (by kernel_rfl) (by kernel_rfl) rfl rfl rfl rfl
def ty54:TyI:={und:=.struct [(52,0),(4,1)],size:=2,bytes:=32,zv:=(.agg #[(.slice none 0 0),(.bool false)]),agg:=true,sh:=[.slice,.bool] }
theorem ty54_good:TGood Tryz.prog 54 ty54:=TGood.of (by kernel_rfl) (by kernel_rfl) rfl rfl rfl rfl
def ty55:TyI:={und:=.struct [(54,0),(52,2)],size:=3,bytes:=56,zv:=(.agg #[(.slice none 0 0),(.bool false),(.slice none 0 0)]),agg:=true,sh:=[.slice,.bool,.slice] }
theorem ty55_good:TGood Tryz.prog 55 ty55:=TGood.of (by kernel_rfl) (by kernel_rfl) rfl rfl rfl rfl
def ty56:TyI:={und:=.struct [(54,0),(52,2)],size:=3,bytes:=56,zv:=(.agg #[(.slice none 0 0),(.bool false),(.slice none 0 0)]),agg:=true,sh:=[.slice,.bool,.slice] }
theorem ty56_good:TGood Tryz.prog 56 ty56:=TGood.of (by kernel_rfl) (by kernel_rfl) rfl rfl rfl rfl
def ty57:TyI:={und:=.struct [(56,0),(3,3),(48,4)],size:=5,bytes:=88,zv:=(.agg #[(.slice none 0 0),(.bool false),(.slice none 0 0),(.int .i64 0),(.slice none 0 0)]),agg:=true,sh:=[.slice,.bool,.slice,.int .i64,.slice] }
theorem ty57_good:TGood Tryz.prog 57 ty57:=TGood.of (by kernel_rfl) (by kernel_rfl) rfl rfl rfl rfl
def ty58:TyI:={und:=.struct [(56,0),(3,3),(48,4)],size:=5,bytes:=88,zv:=(.agg #[(.slice none 0 0),(.bool false),(.slice none 0 0),(.int .i64 0),(.slice none 0 0)]),agg:=true,sh:=[.slice,.bool,.slice,.int .i64,.slice] }
theorem ty58_good:TGood Tryz.prog 58 ty58:=TGood.of (by kernel_rfl) (by kernel_rfl) rfl rfl rfl rfl
def ty65:TyI:={und:=.slice 56,size:=1,bytes:=24,zv:=(.slice none 0 0),agg:=false,sh:=[.slice] }
theorem ty65_good:TGood Tryz.prog 65 ty65:=TGood.of (by kernel_rfl) (by kernel_rfl) rfl rfl rfl rfl
def ty66:TyI:={und:=.arr 3 56,size:=9,bytes:=168,zv:=(.agg #[(.slice none 0 0),(.bool false),(.slice none 0 0),(.slice none 0 0),(.bool false),(.slice none 0 0),(.slice none 0 0),(.bool false),(.slice none 0 0)]),agg:=true,sh:=[.slice,.bool,.slice,.slice,.bool,.slice,.slice,.bool,.slice] }
theorem ty66_good:TGood Tryz.prog 66 ty66:=TGood.of (by kernel_rfl) (by kernel_rfl) rfl rfl rfl rfl
def ty67:TyI:={und:=.tup [65,66],size:=1,bytes:=0,zv:=(.tuple #[(.slice none 0 0),(.agg #[(.slice none 0 0),(.bool false),(.slice none 0 0),(.slice none 0 0),(.bool false),(.slice none 0 0),(.slice none 0 0),(.bool false),(.slice none 0 0)])]),agg:=false,sh:=[.slice] }
theorem ty67_good:TGood Tryz.prog 67 ty67:=TGood.of (by kernel_rfl) (by kernel_rfl) rfl rfl rfl rfl
def ty72:TyI:={und:=.slice 141,size:=1,bytes:=24,zv:=(.slice none 0 0),agg:=false,sh:=[.slice] }
theorem ty72_good:TGood Tryz.prog 72 ty72:=TGood.of (by kernel_rfl) (by kernel_rfl) rfl rfl rfl rfl
def ty73:TyI:={und:=.struct [(9,0),(9,1)],size:=2,bytes:=32,zv:=(.agg #[(.string ⟨#[]⟩),(.string ⟨#[]⟩)]),agg:=true,sh:=[.str,.str] }
theorem ty73_good:TGood Tryz.prog 73 ty73:=TGood.of (by kernel_rfl) (by kernel_rfl) rfl rfl rfl rfl
def ty74:TyI:={und:=.struct [(9,0),(9,1)],size:=2,bytes:=32,zv:=(.agg #[(.string ⟨#[]⟩),(.string ⟨#[]⟩)]),agg:=true,sh:=[.str,.str] }
theorem ty74_good:TGood Tryz.prog 74 ty74:=TGood.of (by kernel_rfl) (by kernel_rfl) rfl rfl rfl rfl
def ty75:TyI:={und:=.arr 3 74,size:=6,bytes:=96,zv:=(.agg #[(.string ⟨#[]⟩),(.string ⟨#[]⟩),(.string ⟨#[]⟩),(.string ⟨#[]⟩),(.string ⟨#[]⟩),(.string ⟨#[]⟩)]),agg:=true,sh:=[.str,.str,.str,.str,.str,.str] }
theorem ty75_good:TGood Tryz.prog 75 ty75:=TGood.of (by kernel_rfl) (by kernel_rfl) rfl rfl rfl rfl
def ty76:TyI:={und:=.tup [48,41,4],size:=1,bytes:=0,zv:=(.tuple #[(.agg #[(.slice none 0 0)]),(.slice none 0 0),(.bool false)]),agg:=false,sh:=[.slice] }
theorem ty76_good:TGood Tryz.prog 76 ty76:=TGood.of (by kernel_rfl) (by kernel_rfl) rfl rfl rfl rfl
def ty78:TyI:={und:=.struct [(56,0),(56,3)],size:=6,bytes:=112,zv:=(.agg #[(.slice none 0 0),(.bool false),(.slice none 0 0),(.slice none 0 0),(.bool false),(.slice none 0 0)]),agg:=true,sh:=[.slice,.bool,.slice,.slice,.bool,.slice] }
theorem ty78_good:TGood Tryz.prog 78 ty78:=TGood.of (by kernel_rfl) (by kernel_rfl) rfl rfl rfl rfl
def ty79:TyI:={und:=.struct [(56,0),(56,3)],size:=6,bytes:=112,zv:=(.agg #[(.slice none 0 0),(.bool false),(.slice none 0 0),(.slice none 0 0),(.bool false),(.slice none 0 0)]),agg:=true,sh:=[.slice,.bool,.slice,.slice,.bool,.slice] }
theorem ty79_good:TGood Tryz.prog 79 ty79:=TGood.of (by kernel_rfl) (by kernel_rfl) rfl rfl rfl rfl
def ty80:TyI:={und:=.arr 3 79,size:=18,bytes:=336,zv:=(.agg #[(.slice none 0 0),(.bool false),(.slice none 0 0),(.slice none 0 0),(.bool false),(.slice none 0 0),(.slice none 0 0),(.bool false),(.slice none 0 0),(.slice none 0 0),(.bool false),(.slice none 0 0),(.slice none 0 0),(.bool false),(.slice none 0 0),(.slice none 0 0),(.bool false),(.slice none 0 0)]),agg:=true,sh:=[.slice,.bool,.slice,.slice,.bool,.slice,.slice,.bool,.slice,.slice,.bool,.slice,.slice,.bool,.slice,.slice,.bool,.slice] }
theorem ty80_good:TGood Tryz.prog 80 ty80:=TGood.of (by kernel_rfl) (by kernel_rfl) rfl rfl rfl rfl
def ty81:TyI:={und:=.struct [(39,0),(39,3)],size:=6,bytes:=112,zv:=(.agg #[(.bool false),(.slice none 0 0),(.slice none 0 0),(.bool false),(.slice none 0 0),(.slice none 0 0)]),agg:=true,sh:=[.bool,.slice,.slice,.bool,.slice,.slice] }
theorem ty81_good:TGood Tryz.prog 81 ty81:=TGood.of (by kernel_rfl) (by kernel_rfl) rfl rfl rfl rfl
def ty82:TyI:={und:=.struct [(39,0),(39,3)],size:=6,bytes:=112,zv:=(.agg #[(.bool false),(.slice none 0 0),(.slice none 0 0),(.bool false),(.slice none 0 0),(.slice none 0 0)]),agg:=true,sh:=[.bool,.slice,.slice,.bool,.slice,.slice] }
theorem ty82_good:TGood Tryz.prog 82 ty82:=TGood.of (by kernel_rfl) (by kernel_rfl) rfl rfl rfl rfl
def ty83:TyI:={und:=.arr 3 82,size:=18,bytes:=336,zv:=(.agg #[(.bool false),(.slice none 0 0),(.slice none 0 0),(.bool false),(.slice none 0 0),(.slice none 0 0),(.bool false),(.slice none 0 0),(.slice none 0 0),(.bool false),(.slice none 0 0),(.slice none 0 0),(.bool false),(.slice none 0 0),(.slice none 0 0),(.bool false),(.slice none 0 0),(.slice none 0 0)]),agg:=true,sh:=[.bool,.slice,.slice,.bool,.slice,.slice,.bool,.slice,.slice,.bool,.slice,.slice,.bool,.slice,.slice,.bool,.slice,.slice] }
theorem ty83_good:TGood Tryz.prog 83 ty83:=TGood.of (by kernel_rfl) (by kernel_rfl) rfl rfl rfl rfl
def ty84:TyI:={und:=.tup [79,82,4],size:=1,bytes:=0,zv:=(.tuple #[(.agg #[(.slice none 0 0),(.bool false),(.slice none 0 0),(.slice none 0 0),(.bool false),(.slice none 0 0)]),(.agg #[(.bool false),(.slice none 0 0),(.slice none 0 0),(.bool false),(.slice none 0 0),(.slice none 0 0)]),(.bool false)]),agg:=false,sh:=[.slice] }
theorem ty84_good:TGood Tryz.prog 84 ty84:=TGood.of (by kernel_rfl) (by kernel_rfl) rfl rfl rfl rfl
def ty90:TyI:={und:=.arr 3 39,size:=9,bytes:=168,zv:=(.agg #[(.bool false),(.slice none 0 0),(.slice none 0 0),(.bool false),(.slice none 0 0),(.slice none 0 0),(.bool false),(.slice none 0 0),(.slice none 0 0)]),agg:=true,sh:=[.bool,.slice,.slice,.bool,.slice,.slice,.bool,.slice,.slice] }
theorem ty90_good:TGood Tryz.prog 90 ty90:=TGood.of (by kernel_rfl) (by kernel_rfl) rfl rfl rfl rfl
def ty91:TyI:={und:=.tup [66,90,4],size:=1,bytes:=0,zv:=(.tuple #[(.agg #[(.slice none 0 0),(.bool false),(.slice none 0 0),(.slice none 0 0),(.bool false),(.slice none 0 0),(.slice none 0 0),(.bool false),(.slice none 0 0)]),(.agg #[(.bool false),(.slice none 0 0),(.slice none 0 0),(.bool false),(.slice none 0 0),(.slice none 0 0),(.bool false),(.slice none 0 0),(.slice none 0 0)]),(.bool false)]),agg:=false,sh:=[.slice] }
theorem ty91_good:TGood Tryz.prog 91 ty91:=TGood.of (by kernel_rfl) (by kernel_rfl) rfl rfl rfl rfl
def ty93:TyI:={und:=.arr 3 9,size:=3,bytes:=48,zv:=(.agg #[(.string ⟨#[]⟩),(.string ⟨#[]⟩),(.string ⟨#[]⟩)]),agg:=true,sh:=[.str,.str,.str] }
theorem ty93_good:TGood Tryz.prog 93 ty93:=TGood.of (by kernel_rfl) (by kernel_rfl) rfl rfl rfl rfl
def ty95:TyI:={und:=.tup [79,4],size:=1,bytes:=0,zv:=(.tuple #[(.agg #[(.slice none 0 0),(.bool false),(.slice none 0 0),(.slice none 0 0),(.bool false),(.slice none 0 0)]),(.bool false)]),agg:=false,sh:=[.slice] }
theorem ty95_good:TGood Tryz.prog 95 ty95:=TGood.of (by kernel_rfl) (by kernel_rfl) rfl rfl rfl rfl
def ty102:TyI:={und:=.tup [25,25,4],size:=1,bytes:=0,zv:=(.tuple #[(.slice none 0 0),(.slice none 0 0),(.bool false)]),agg:=false,sh:=[.slice] }
theorem ty102_good:TGood Tryz.prog 102 ty102:=TGood.of (by kernel_rfl) (by kernel_rfl) rfl rfl rfl rfl
def ty105:TyI:={und:=.arr 4 9,size:=4,bytes:=64,zv:=(.agg #[(.string ⟨#[]⟩),(.string ⟨#[]⟩),(.string ⟨#[]⟩),(.string ⟨#[]⟩)]),agg:=true,sh:=[.str,.str,.str,.str] }
theorem ty105_good:TGood Tryz.prog 105 ty105:=TGood.of (by kernel_rfl) (by kernel_rfl) rfl rfl rfl rfl
def ty110:TyI:={und:=.tup [25,26],size:=1,bytes:=0,zv:=(.tuple #[(.slice none 0 0),(.slice none 0 0)]),agg:=false,sh:=[.slice] }
theorem ty110_good:TGood Tryz.prog 110 ty110:=TGood.of (by kernel_rfl) (by kernel_rfl) rfl rfl rfl rfl
def ty112:TyI:={und:=.tup [82,4],size:=1,bytes:=0,zv:=(.tuple #[(.agg #[(.bool false),(.slice none 0 0),(.slice none 0 0),(.bool false),(.slice none 0 0),(.slice none 0 0)]),(.bool false)]),agg:=false,sh:=[.slice] }
theorem ty112_good:TGood Tryz.prog 112 ty112:=TGood.of (by kernel_rfl) (by kernel_rfl) rfl rfl rfl rfl
def ty121:TyI:={und:=.int .i64,size:=1,bytes:=8,zv:=(.int .i64 0),agg:=false,sh:=[.int .i64] }
theorem ty121_good:TGood Tryz.prog 121 ty121:=TGood.of (by kernel_rfl) (by kernel_rfl) rfl rfl rfl rfl
def ty122:TyI:={und:=.tup [26,121],size:=1,bytes:=0,zv:=(.tuple #[(.slice none 0 0),(.int .i64 0)]),agg:=false,sh:=[.slice] }
theorem ty122_good:TGood Tryz.prog 122 ty122:=TGood.of (by kernel_rfl) (by kernel_rfl) rfl rfl rfl rfl
def ty124:TyI:={und:=.tup [25,121],size:=1,bytes:=0,zv:=(.tuple #[(.slice none 0 0),(.int .i64 0)]),agg:=false,sh:=[.slice] }
theorem ty124_good:TGood Tryz.prog 124 ty124:=TGood.of (by kernel_rfl) (by kernel_rfl) rfl rfl rfl rfl
def ty126:TyI:={und:=.slice 65,size:=1,bytes:=24,zv:=(.slice none 0 0),agg:=false,sh:=[.slice] }
theorem ty126_good:TGood Tryz.prog 126 ty126:=TGood.of (by kernel_rfl) (by kernel_rfl) rfl rfl rfl rfl
def ty127:TyI:={und:=.slice 65,size:=1,bytes:=24,zv:=(.slice none 0 0),agg:=false,sh:=[.slice] }
theorem ty127_good:TGood Tryz.prog 127 ty127:=TGood.of (by kernel_rfl) (by kernel_rfl) rfl rfl rfl rfl
def ty128:TyI:={und:=.tup [127,121],size:=1,bytes:=0,zv:=(.tuple #[(.slice none 0 0),(.int .i64 0)]),agg:=false,sh:=[.slice] }
theorem ty128_good:TGood Tryz.prog 128 ty128:=TGood.of (by kernel_rfl) (by kernel_rfl) rfl rfl rfl rfl
def ty130:TyI:={und:=.slice 9,size:=1,bytes:=24,zv:=(.slice none 0 0),agg:=false,sh:=[.slice] }
theorem ty130_good:TGood Tryz.prog 130 ty130:=TGood.of (by kernel_rfl) (by kernel_rfl) rfl rfl rfl rfl
def ty131:TyI:={und:=.slice 130,size:=1,bytes:=24,zv:=(.slice none 0 0),agg:=false,sh:=[.slice] }
theorem ty131_good:TGood Tryz.prog 131 ty131:=TGood.of (by kernel_rfl) (by kernel_rfl) rfl rfl rfl rfl
def ty135:TyI:={und:=.slice 48,size:=1,bytes:=24,zv:=(.slice none 0 0),agg:=false,sh:=[.slice] }
theorem ty135_good:TGood Tryz.prog 135 ty135:=TGood.of (by kernel_rfl) (by kernel_rfl) rfl rfl rfl rfl
def ty142:TyI:={und:=.tup [56,39,4],size:=1,bytes:=0,zv:=(.tuple #[(.agg #[(.slice none 0 0),(.bool false),(.slice none 0 0)]),(.agg #[(.bool false),(.slice none 0 0),(.slice none 0 0)]),(.bool false)]),agg:=false,sh:=[.slice] }
theorem ty142_good:TGood Tryz.prog 142 ty142:=TGood.of (by kernel_rfl) (by kernel_rfl) rfl rfl rfl rfl
def ty144:TyI:={und:=.struct [(9,0),(3,1),(72,2)],size:=3,bytes:=48,zv:=(.agg #[(.string ⟨#[]⟩),(.int .i64 0),(.slice none 0 0)]),agg:=true,sh:=[.str,.int .i64,.slice] }
theorem ty144_good:TGood Tryz.prog 144 ty144:=TGood.of (by kernel_rfl) (by kernel_rfl) rfl rfl rfl rfl
def ty145:TyI:={und:=.struct [(9,0),(3,1),(72,2)],size:=3,bytes:=48,zv:=(.agg #[(.string ⟨#[]⟩),(.int .i64 0),(.slice none 0 0)]),agg:=true,sh:=[.str,.int .i64,.slice] }
theorem ty145_good:TGood Tryz.prog 145 ty145:=TGood.of (by kernel_rfl) (by kernel_rfl) rfl rfl rfl rfl
def ty150:TyI:={und:=.struct [(139,0),(56,3)],size:=6,bytes:=64,zv:=(.agg #[(.int .u8 0),(.int .u8 0),(.int .u8 0),(.slice none 0 0),(.bool false),(.slice none 0 0)]),agg:=true,sh:=[.int .u8,.int .u8,.int .u8,.slice,.bool,.slice] }
theorem ty150_good:TGood Tryz.prog 150 ty150:=TGood.of (by kernel_rfl) (by kernel_rfl) rfl rfl rfl rfl
def ty151:TyI:={und:=.struct [(139,0),(56,3)],size:=6,bytes:=64,zv:=(.agg #[(.int .u8 0),(.int .u8 0),(.int .u8 0),(.slice none 0 0),(.bool false),(.slice none 0 0)]),agg:=true,sh:=[.int .u8,.int .u8,.int .u8,.slice,.bool,.slice] }
theorem ty151_good:TGood Tryz.prog 151 ty151:=TGood.of (by kernel_rfl) (by kernel_rfl) rfl rfl rfl rfl
def ty156:TyI:={und:=.struct [(139,0),(39,3)],size:=6,bytes:=64,zv:=(.agg #[(.int .u8 0),(.int .u8 0),(.int .u8 0),(.bool false),(.slice none 0 0),(.slice none 0 0)]),agg:=true,sh:=[.int .u8,.int .u8,.int .u8,.bool,.slice,.slice] }
theorem ty156_good:TGood Tryz.prog 156 ty156:=TGood.of (by kernel_rfl) (by kernel_rfl) rfl rfl rfl rfl
def ty157:TyI:={und:=.struct [(139,0),(39,3)],size:=6,bytes:=64,zv:=(.agg #[(.int .u8 0),(.int .u8 0),(.int .u8 0),(.bool false),(.slice none 0 0),(.slice none 0 0)]),agg:=true,sh:=[.int .u8,.int .u8,.int .u8,.bool,.slice,.slice] }
theorem ty157_good:TGood Tryz.prog 157 ty157:=TGood.of (by kernel_rfl) (by kernel_rfl) rfl rfl rfl rfl
def ty158:TyI:={und:=.tup [56,4],size:=1,bytes:=0,zv:=(.tuple #[(.agg #[(.slice none 0 0),(.bool false),(.slice none 0 0)]),(.bool false)]),agg:=false,sh:=[.slice] }
theorem ty158_good:TGood Tryz.prog 158 ty158:=TGood.of (by kernel_rfl) (by kernel_rfl) rfl rfl rfl rfl
def ty163:TyI:={und:=.tup [41,4],size:=1,bytes:=0,zv:=(.tuple #[(.slice none 0 0),(.bool false)]),agg:=false,sh:=[.slice] }
theorem ty163_good:TGood Tryz.prog 163 ty163:=TGood.of (by kernel_rfl) (by kernel_rfl) rfl rfl rfl rfl
def ty166:TyI:={und:=.tup [48,121],size:=1,bytes:=0,zv:=(.tuple #[(.agg #[(.slice none 0 0)]),(.int .i64 0)]),agg:=false,sh:=[.slice] }
theorem ty166_good:TGood Tryz.prog 166 ty166:=TGood.of (by kernel_rfl) (by kernel_rfl) rfl rfl rfl rfl
def ty169:TyI:={und:=.tup [82,121],size:=1,bytes:=0,zv:=(.tuple #[(.agg #[(.bool false),(.slice none 0 0),(.slice none 0 0),(.bool false),(.slice none 0 0),(.slice none 0 0)]),(.int .i64 0)]),agg:=false,sh:=[.slice] }
theorem ty169_good:TGood Tryz.prog 169 ty169:=TGood.of (by kernel_rfl) (by kernel_rfl) rfl rfl rfl rfl
def ty171:TyI:={und:=.tup [79,121],size:=1,bytes:=0,zv:=(.tuple #[(.agg #[(.slice none 0 0),(.bool false),(.slice none 0 0),(.slice none 0 0),(.bool false),(.slice none 0 0)]),(.int .i64 0)]),agg:=false,sh:=[.slice] }
theorem ty171_good:TGood Tryz.prog 171 ty171:=TGood.of (by kernel_rfl) (by kernel_rfl) rfl rfl rfl rfl
def ty197:TyI:={und:=.tup [56,121],size:=1,bytes:=0,zv:=(.tuple #[(.agg #[(.slice none 0 0),(.bool false),(.slice none 0 0)]),(.int .i64 0)]),agg:=false,sh:=[.slice] }
theorem ty197_good:TGood Tryz.prog 197 ty197:=TGood.of (by kernel_rfl) (by kernel_rfl) rfl rfl rfl rfl
def ty202:TyI:={und:=.tup [39,4],size:=1,bytes:=0,zv:=(.tuple #[(.agg #[(.bool false),(.slice none 0 0),(.slice none 0 0)]),(.bool false)]),agg:=false,sh:=[.slice] }
theorem ty202_good:TGood Tryz.prog 202 ty202:=TGood.of (by kernel_rfl) (by kernel_rfl) rfl rfl rfl rfl
def ty204:TyI:={und:=.map 139 56,size:=1,bytes:=8,zv:=(.map none),agg:=false,sh:=[.map] }
theorem ty204_good:TGood Tryz.prog 204 ty204:=TGood.of (by kernel_rfl) (by kernel_rfl) rfl rfl rfl rfl
def ty205:TyI:={und:=.map 139 56,size:=1,bytes:=8,zv:=(.map none),agg:=false,sh:=[.map] }
theorem ty205_good:TGood Tryz.prog 205 ty205:=TGood.of (by kernel_rfl) (by kernel_rfl) rfl rfl rfl rfl
def ty206:TyI:={und:=.tup [139,4],size:=1,bytes:=0,zv:=(.tuple #[(.agg #[(.int .u8 0),(.int .u8 0),(.int .u8 0)]),(.bool false)]),agg:=false,sh:=[.slice] }
theorem ty206_good:TGood Tryz.prog 206 ty206:=TGood.of (by kernel_rfl) (by kernel_rfl) rfl rfl rfl rfl
def ty210:TyI:={und:=.slice 46,size:=1,bytes:=24,zv:=(.slice none 0 0),agg:=false,sh:=[.slice] }
theorem ty210_good:TGood Tryz.prog 210 ty210:=TGood.of (by kernel_rfl) (by kernel_rfl) rfl rfl rfl rfl
def ty223:TyI:={und:=.int .u64,size:=1,bytes:=8,zv:=(.int .u64 0),agg:=false,sh:=[.int .u64] }
theorem ty223_good:TGood Tryz.prog 223 ty223:=TGood.of (by kernel_rfl) (by kernel_rfl) rfl rfl rfl rfl
def ty228:TyI:={und:=.slice 39,size:=1,bytes:=24,zv:=(.slice none 0 0),agg:=false,sh:=[.slice] }
theorem ty228_good:TGood Tryz.prog 228 ty228:=TGood.of (by kernel_rfl) (by kernel_rfl) rfl rfl rfl rfl
def ty234:TyI:={und:=.slice 5,size:=1,bytes:=24,zv:=(.slice none 0 0),agg:=false,sh:=[.slice] }
theorem ty234_good:TGood Tryz.prog 234 ty234:=TGood.of (by kernel_rfl) (by kernel_rfl) rfl rfl rfl rfl
def ty243:TyI:={und:=.struct [(54,0),(3,2)],size:=3,bytes:=40,zv:=(.agg #[(.slice none 0 0),(.bool false),(.int .i64 0)]),agg:=true,sh:=[.slice,.bool,.int .i64] }
theorem ty243_good:TGood Tryz.prog 243 ty243:=TGood.of (by kernel_rfl) (by kernel_rfl) rfl rfl rfl rfl
def ty244:TyI:={und:=.struct [(54,0),(3,2)],size:=3,bytes:=40,zv:=(.agg #[(.slice none 0 0),(.bool false),(.int .i64 0)]),agg:=true,sh:=[.slice,.bool,.int .i64] }
theorem ty244_good:TGood Tryz.prog 244 ty244:=TGood.of (by kernel_rfl) (by kernel_rfl) rfl rfl rfl rfl
def ty245:TyI:={und:=.tup [244,4],size:=1,bytes:=0,zv:=(.tuple #[(.agg #[(.slice none 0 0),(.bool false),(.int .i64 0)]),(.bool false)]),agg:=false,sh:=[.slice] }
theorem ty245_good:TGood Tryz.prog 245 ty245:=TGood.of (by kernel_rfl) (by kernel_rfl) rfl rfl rfl rfl
def ty247:TyI:={und:=.tup [9,9,4],size:=1,bytes:=0,zv:=(.tuple #[(.string ⟨#[]⟩),(.string ⟨#[]⟩),(.bool false)]),agg:=false,sh:=[.slice] }
theorem ty247_good:TGood Tryz.prog 247 ty247:=TGood.of (by kernel_rfl) (by kernel_rfl) rfl rfl rfl rfl
def ty249:TyI:={und:=.tup [54,121],size:=1,bytes:=0,zv:=(.tuple #[(.agg #[(.slice none 0 0),(.bool false)]),(.int .i64 0)]),agg:=false,sh:=[.slice] }
theorem ty249_good:TGood Tryz.prog 249 ty249:=TGood.of (by kernel_rfl) (by kernel_rfl) rfl rfl rfl rfl
def ty251:TyI:={und:=.tup [52,121],size:=1,bytes:=0,zv:=(.tuple #[(.agg #[(.slice none 0 0)]),(.int .i64 0)]),agg:=false,sh:=[.slice] }
theorem ty251_good:TGood Tryz.prog 251 ty251:=TGood.of (by kernel_rfl) (by kernel_rfl) rfl rfl rfl rfl
def ty255:TyI:={und:=.tup [37,4],size:=1,bytes:=0,zv:=(.tuple #[(.agg #[(.bool false),(.slice none 0 0)]),(.bool false)]),agg:=false,sh:=[.slice] }
theorem ty255_good:TGood Tryz.prog 255 ty255:=TGood.of (by kernel_rfl) (by kernel_rfl) rfl rfl rfl rfl
def ty257:TyI:={und:=.tup [35,4],size:=1,bytes:=0,zv:=(.tuple #[(.slice none 0 0),(.bool false)]),agg:=false,sh:=[.slice] }
theorem ty257_good:TGood Tryz.prog 257 ty257:=TGood.of (by kernel_rfl) (by kernel_rfl) rfl rfl rfl rfl
def ty263:TyI:={und:=.tup [52,52,4],size:=1,bytes:=0,zv:=(.tuple #[(.agg #[(.slice none 0 0)]),(.agg #[(.slice none 0 0)]),(.bool false)]),agg:=false,sh:=[.slice] }
theorem ty263_good:TGood Tryz.prog 263 ty263:=TGood.of (by kernel_rfl) (by kernel_rfl) rfl rfl rfl rfl
def ty268:TyI:={und:=.int .u32,size:=1,bytes:=4,zv:=(.int .u32 0),agg:=false,sh:=[.int .u32] }
theorem ty268_good:TGood Tryz.prog 268 ty268:=TGood.of (by kernel_rfl) (by kernel_rfl) rfl rfl rfl rfl
def ty269:TyI:={und:=.tup [52,4],size:=1,bytes:=0,zv:=(.tuple #[(.agg #[(.slice none 0 0)]),(.bool false)]),agg:=false,sh:=[.slice] }
theorem ty269_good:TGood Tryz.prog 269 ty269:=TGood.of (by kernel_rfl) (by kernel_rfl) rfl rfl rfl rfl
def ty271:TyI:={und:=.int .u64,size:=1,bytes:=8,zv:=(.int .u64 0),agg:=false,sh:=[.int .u64] }
theorem ty271_good:TGood Tryz.prog 271 ty271:=TGood.of (by kernel_rfl) (by kernel_rfl) rfl rfl rfl rfl
def ty290:TyI:={und:=.tup [35,35],size:=1,bytes:=0,zv:=(.tuple #[(.slice none 0 0),(.slice none 0 0)]),agg:=false,sh:=[.slice] }
theorem ty290_good:TGood Tryz.prog 290 ty290:=TGood.of (by kernel_rfl) (by kernel_rfl) rfl rfl rfl rfl
def ty298:TyI:={und:=.slice 3,size:=1,bytes:=24,zv:=(.slice none 0 0),agg:=false,sh:=[.slice] }
theorem ty298_good:TGood Tryz.prog 298 ty298:=TGood.of (by kernel_rfl) (by kernel_rfl) rfl rfl rfl rfl
def ty305:TyI:={und:=.int .i64,size:=1,bytes:=8,zv:=(.int .i64 0),agg:=false,sh:=[.int .i64] }
theorem ty305_good:TGood Tryz.prog 305 ty305:=TGood.of (by kernel_rfl) (by kernel_rfl) rfl rfl rfl rfl
def ty306:TyI:={und:=.tup [3,305],size:=1,bytes:=0,zv:=(.tuple #[(.int .i64 0),(.int .i64 0)]),agg:=false,sh:=[.slice] }
theorem ty306_good:TGood Tryz.prog 306 ty306:=TGood.of (by kernel_rfl) (by kernel_rfl) rfl rfl rfl rfl
def ty310:TyI:={und:=.tup [3,4],size:=1,bytes:=0,zv:=(.tuple #[(.int .i64 0),(.bool false)]),agg:=false,sh:=[.slice] }
theorem ty310_good:TGood Tryz.prog 310 ty310:=TGood.of (by kernel_rfl) (by kernel_rfl) rfl rfl rfl rfl
def ty316:TyI:={und:=.arr 32 5,size:=32,bytes:=32,zv:=(.agg #[(.int .u8 0),(.int .u8 0),(.int .u8 0),(.int .u8 0),(.int .u8 0),(.int .u8 0),(.int .u8 0),(.int .u8 0),(.int .u8 0),(.int .u8 0),(.int .u8 0),(.int .u8 0),(.int .u8 0),(.int .u8 0),(.int .u8 0),(.int .u8 0),(.int .u8 0),(.int .u8 0),(.int .u8 0),(.int .u8 0),(.int .u8 0),(.int .u8 0),(.int .u8 0),(.int .u8 0),(.int .u8 0),(.int .u8 0),(.int .u8 0),(.int .u8 0),(.int .u8 0),(.int .u8 0),(.int .u8 0),(.int .u8 0)]),agg:=true,sh:=[.int .u8,.int .u8,.int .u8,.int .u8,.int .u8,.int .u8,.int .u8,.int .u8,.int .u8,.int .u8,.int .u8,.int .u8,.int .u8,.int .u8,.int .u8,.int .u8,.int .u8,.int .u8,.int .u8,.int .u8,.int .u8,.int .u8,.int .u8,.int .u8,.int .u8,.int .u8,.int .u8,.int .u8,.int .u8,.int .u8,.int .u8,.int .u8] }
theorem ty316_good:TGood Tryz.prog 316 ty316:=TGood.of (by kernel_rfl) (by kernel_rfl) rfl rfl rfl rfl
def ty319:TyI:={und:=.int .u64,size:=1,bytes:=8,zv:=(.int .u64 0),agg:=false,sh:=[.int .u64] }
theorem ty319_good:TGood Tryz.prog 319 ty319:=TGood.of (by kernel_rfl) (by kernel_rfl) rfl rfl rfl rfl
def ty322:TyI:={und:=.ptr,size:=1,bytes:=8,zv:=(.pointer none),agg:=false,sh:=[.ptr] }
theorem ty322_good:TGood Tryz.prog 322 ty322:=TGood.of (by kernel_rfl) (by kernel_rfl) rfl rfl rfl rfl
def ty324:TyI:={und:=.tup [268,268],size:=1,bytes:=0,zv:=(.tuple #[(.int .u32 0),(.int .u32 0)]),agg:=false,sh:=[.slice] }
theorem ty324_good:TGood Tryz.prog 324 ty324:=TGood.of (by kernel_rfl) (by kernel_rfl) rfl rfl rfl rfl
def ty326:TyI:={und:=.ptr,size:=1,bytes:=8,zv:=(.pointer none),agg:=false,sh:=[.ptr] }
theorem ty326_good:TGood Tryz.prog 326 ty326:=TGood.of (by kernel_rfl) (by kernel_rfl) rfl rfl rfl rfl
def ty327:TyI:={und:=.tup [3,3],size:=1,bytes:=0,zv:=(.tuple #[(.int .i64 0),(.int .i64 0)]),agg:=false,sh:=[.slice] }
theorem ty327_good:TGood Tryz.prog 327 ty327:=TGood.of (by kernel_rfl) (by kernel_rfl) rfl rfl rfl rfl
def ty329:TyI:={und:=.struct [(17,0),(17,1),(17,2),(9,3)],size:=4,bytes:=40,zv:=(.agg #[(.pointer none),(.pointer none),(.pointer none),(.string ⟨#[]⟩)]),agg:=true,sh:=[.ptr,.ptr,.ptr,.str] }
theorem ty329_good:TGood Tryz.prog 329 ty329:=TGood.of (by kernel_rfl) (by kernel_rfl) rfl rfl rfl rfl
def ty331:TyI:={und:=.arr 0 16,size:=0,bytes:=0,zv:=(.agg #[]),agg:=true,sh:=[] }
theorem ty331_good:TGood Tryz.prog 331 ty331:=TGood.of (by kernel_rfl) (by kernel_rfl) rfl rfl rfl rfl
def ty332:TyI:={und:=.struct [(331,0)],size:=0,bytes:=0,zv:=(.agg #[]),agg:=true,sh:=[] }
theorem ty332_good:TGood Tryz.prog 332 ty332:=TGood.of (by kernel_rfl) (by kernel_rfl) rfl rfl rfl rfl
def ty337:TyI:={und:=.ptr,size:=1,bytes:=8,zv:=(.pointer none),agg:=false,sh:=[.ptr] }
theorem ty337_good:TGood Tryz.prog 337 ty337:=TGood.of (by kernel_rfl) (by kernel_rfl) rfl rfl rfl rfl
def ty62:TyI:={und:=.arr 3 3,size:=3,bytes:=24,zv:=(.agg #[(.int .i64 0),(.int .i64 0),(.int .i64 0)]),agg:=true,sh:=[.int .i64,.int .i64,.int .i64],eq:=true }
theorem ty62_good:TGood Tryz.prog 62 ty62:=TGood.ofEq (by kernel_rfl) (by kernel_rfl) rfl rfl rfl (eqOK_mono (by kernel_rfl) (by kernel_rfl) ty3_good rfl rfl (by kernel_rfl))
def ty138:TyI:={und:=.arr 3 5,size:=3,bytes:=3,zv:=(.agg #[(.int .u8 0),(.int .u8 0),(.int .u8 0)]),agg:=true,sh:=[.int .u8,.int .u8,.int .u8],eq:=true }
theorem ty138_good:TGood Tryz.prog 138 ty138:=TGood.ofEq (by kernel_rfl) (by kernel_rfl) rfl rfl rfl (eqOK_mono (by kernel_rfl) (by kernel_rfl) ty5_good rfl rfl (by kernel_rfl))
def ty139:TyI:={und:=.arr 3 5,size:=3,bytes:=3,zv:=(.agg #[(.int .u8 0),(.int .u8 0),(.int .u8 0)]),agg:=true,sh:=[.int .u8,.int .u8,.int .u8],eq:=true }
theorem ty139_good:TGood Tryz.prog 139 ty139:=TGood.ofEq (by kernel_rfl) (by kernel_rfl) rfl rfl rfl (eqOK_mono (by kernel_rfl) (by kernel_rfl) ty5_good rfl rfl (by kernel_rfl))
def ty140:TyI:={und:=.struct [(139,0),(9,3)],size:=4,bytes:=24,zv:=(.agg #[(.int .u8 0),(.int .u8 0),(.int .u8 0),(.string ⟨#[]⟩)]),agg:=true,sh:=[.int .u8,.int .u8,.int .u8,.str],eq:=true }
theorem ty140_good:TGood Tryz.prog 140 ty140:=TGood.ofEq (by kernel_rfl) (by kernel_rfl) rfl rfl rfl (eqOK_term (by kernel_rfl) (by kernel_rfl) (by kernel_rfl) (by kernel_rfl) (by kernel_rfl) ty5_good rfl rfl ty139_good rfl rfl (by kernel_rfl) ty9_good rfl rfl (by kernel_rfl))
def ty141:TyI:={und:=.struct [(139,0),(9,3)],size:=4,bytes:=24,zv:=(.agg #[(.int .u8 0),(.int .u8 0),(.int .u8 0),(.string ⟨#[]⟩)]),agg:=true,sh:=[.int .u8,.int .u8,.int .u8,.str],eq:=true }
theorem ty141_good:TGood Tryz.prog 141 ty141:=TGood.ofEq (by kernel_rfl) (by kernel_rfl) rfl rfl rfl (eqOK_term (by kernel_rfl) (by kernel_rfl) (by kernel_rfl) (by kernel_rfl) (by kernel_rfl) ty5_good rfl rfl ty139_good rfl rfl (by kernel_rfl) ty9_good rfl rfl (by kernel_rfl))
def tt:List (Nat×TyI):=[(0,ty0),(2,ty2),(3,ty3),(4,ty4),(5,ty5),(9,ty9),(12,ty12),(13,ty13),(15,ty15),(16,ty16),(17,ty17),(18,ty18),(19,ty19),(21,ty21),(22,ty22),(23,ty23),(24,ty24),(25,ty25),(26,ty26),(27,ty27),(30,ty30),(31,ty31),(32,ty32),(34,ty34),(35,ty35),(36,ty36),(37,ty37),(38,ty38),(39,ty39),(40,ty40),(41,ty41),(42,ty42),(43,ty43),(46,ty46),(47,ty47),(48,ty48),(49,ty49),(51,ty51),(52,ty52),(53,ty53),(54,ty54),(55,ty55),(56,ty56),(57,ty57),(58,ty58),(62,ty62),(65,ty65),(66,ty66),(67,ty67),(72,ty72),(73,ty73),(74,ty74),(75,ty75),(76,ty76),(78,ty78),(79,ty79),(80,ty80),(81,ty81),(82,ty82),(83,ty83),(84,ty84),(90,ty90),(91,ty91),(93,ty93),(95,ty95),(102,ty102),(105,ty105),(110,ty110),(112,ty112),(121,ty121),(122,ty122),(124,ty124),(126,ty126),(127,ty127),(128,ty128),(130,ty130),(131,ty131),(135,ty135),(138,ty138),(139,ty139),(140,ty140),(141,ty141),(142,ty142),(144,ty144),(145,ty145),(150,ty150),(151,ty151),(156,ty156),(157,ty157),(158,ty158),(163,ty163),(166,ty166),(169,ty169),(171,ty171),(197,ty197),(202,ty202),(204,ty204),(205,ty205),(206,ty206),(210,ty210),(223,ty223),(228,ty228),(234,ty234),(243,ty243),(244,ty244),(245,ty245),(247,ty247),(249,ty249),(251,ty251),(255,ty255),(257,ty257),(263,ty263),(268,ty268),(269,ty269),(271,ty271),(290,ty290),(298,ty298),(305,ty305),(306,ty306),(310,ty310),(316,ty316),(319,ty319),(322,ty322),(324,ty324),(326,ty326),(327,ty327),(329,ty329),(331,ty331),(332,ty332),(337,ty337)]
theorem tt_ok:TabOK Tryz.prog tt:=⟨ty0_good,⟨ty2_good,⟨ty3_good,⟨ty4_good,⟨ty5_good,⟨ty9_good,⟨ty12_good,⟨ty13_good,⟨ty15_good,⟨ty16_good,⟨ty17_good,⟨ty18_good,⟨ty19_good,⟨ty21_good,⟨ty22_good,⟨ty23_good,⟨ty24_good,⟨ty25_good,⟨ty26_good,⟨ty27_good,⟨ty30_good,⟨ty31_good,⟨ty32_good,⟨ty34_good,⟨ty35_good,⟨ty36_good,⟨ty37_good,⟨ty38_good,⟨ty39_good,⟨ty40_good,⟨ty41_good,⟨ty42_good,⟨ty43_good,⟨ty46_good,⟨ty47_good,⟨ty48_good,⟨ty49_good,⟨ty51_good,⟨ty52_good,⟨ty53_good,⟨ty54_good,⟨ty55_good,⟨ty56_good,⟨ty57_good,⟨ty58_good,⟨ty62_good,⟨ty65_good,⟨ty66_good,⟨ty67_good,⟨ty72_good,⟨ty73_good,⟨ty74_good,⟨ty75_good,⟨ty76_good,⟨ty78_good,⟨ty79_good,⟨ty80_good,⟨ty81_good,⟨ty82_good,⟨ty83_good,⟨ty84_good,⟨ty90_good,⟨ty91_good,⟨ty93_good,⟨ty95_good,⟨ty102_good,⟨ty105_good,⟨ty110_good,⟨ty112_good,⟨ty121_good,⟨ty122_good,⟨ty124_good,⟨ty126_good,⟨ty127_good,⟨ty128_good,⟨ty130_good,⟨ty131_good,⟨ty135_good,⟨ty138_good,⟨ty139_good,⟨ty140_good,⟨ty141_good,⟨ty142_good,⟨ty144_good,⟨ty145_good,⟨ty150_good,⟨ty151_good,⟨ty156_good,⟨ty157_good,⟨ty158_good,⟨ty163_good,⟨ty166_good,⟨ty169_good,⟨ty171_good,⟨ty197_good,⟨ty202_good,⟨ty204_good,⟨ty205_good,⟨ty206_good,⟨ty210_good,⟨ty223_good,⟨ty228_good,⟨ty234_good,⟨ty243_good,⟨ty244_good,⟨ty245_good,⟨ty247_good,⟨ty249_good,⟨ty251_good,⟨ty255_good,⟨ty257_good,⟨ty263_good,⟨ty268_good,⟨ty269_good,⟨ty271_good,⟨ty290_good,⟨ty298_good,⟨ty305_good,⟨ty306_good,⟨ty310_good,⟨ty316_good,⟨ty319_good,⟨ty322_good,⟨ty324_good,⟨ty326_good,⟨ty327_good,⟨ty329_good,⟨ty331_good,⟨ty332_good,⟨ty337_good,trivial⟩⟩⟩⟩⟩⟩⟩⟩⟩⟩⟩⟩⟩⟩⟩⟩⟩⟩⟩⟩⟩⟩⟩⟩⟩⟩⟩⟩⟩⟩⟩⟩⟩⟩⟩⟩⟩⟩⟩⟩⟩⟩⟩⟩⟩⟩⟩⟩⟩⟩⟩⟩⟩⟩⟩⟩⟩⟩⟩⟩⟩⟩⟩⟩⟩⟩⟩⟩⟩⟩⟩⟩⟩⟩⟩⟩⟩⟩⟩⟩⟩⟩⟩⟩⟩⟩⟩⟩⟩⟩⟩⟩⟩⟩⟩⟩⟩⟩⟩⟩⟩⟩⟩⟩⟩⟩⟩⟩⟩⟩⟩⟩⟩⟩⟩⟩⟩⟩⟩⟩⟩⟩⟩⟩⟩⟩⟩⟩⟩⟩
theorem tt_in:FieldsIn tt:=fieldsIn_of (by kernel_rfl)
end Go.Proofs.YtnlmddaakeigdaaGreatDoor
