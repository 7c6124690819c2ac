/- The types of this place's program, as the symbolic evaluator wants them; each row is asked of the program itself. Written by gentt.py. -/
import Derived.Test.YtjkkidjbppphpaaGreatDoorProg
import Derived.Test.YtjkkidjbppphpaaGreatDoorSx5
set_option linter.unusedVariables false
set_option linter.unusedSimpArgs false
set_option linter.unusedVariables false
namespace Go.Proofs.YtjkkidjbppphpaaGreatDoor
open Go Go.SX
def ty0:TyI:={und:=.tup [],size:=1,bytes:=0,zv:=(.tuple #[]),agg:=false,sh:=[.slice] }
theorem ty0_good:TGood Tryz.prog 0 ty0:=TGood.of (by kernel_rfl) (by kernel_rfl) rfl rfl rfl rfl
def ty2:TyI:={und:=.int .i64,size:=1,bytes:=8,zv:=(.int .i64 0),agg:=false,sh:=[.int .i64] }
theorem ty2_good:TGood Tryz.prog 2 ty2:=TGood.of (by kernel_rfl) (by kernel_rfl) rfl rfl rfl rfl
def ty3:TyI:={und:=.int .i64,size:=1,bytes:=8,zv:=(.int .i64 0),agg:=false,sh:=[.int .i64] }
theorem ty3_good:TGood Tryz.prog 3 ty3:=TGood.of (by kernel_rfl) (by kernel_rfl) rfl rfl rfl rfl
def ty4:TyI:={und:=.bool,size:=1,bytes:=1,zv:=(.bool false),agg:=false,sh:=[.bool] }
theorem ty4_good:TGood Tryz.prog 4 ty4:=TGood.of (by kernel_rfl) (by kernel_rfl) rfl rfl rfl rfl
def ty5:TyI:={und:=.int .u8,size:=1,bytes:=1,zv:=(.int .u8 0),agg:=false,sh:=[.int .u8] }
theorem ty5_good:TGood Tryz.prog 5 ty5:=TGood.of (by kernel_rfl) (by kernel_rfl) rfl rfl rfl rfl
def ty9:TyI:={und:=.str,size:=1,bytes:=16,zv:=(.string ⟨#[]⟩),agg:=false,sh:=[.str] }
theorem ty9_good:TGood Tryz.prog 9 ty9:=TGood.of (by kernel_rfl) (by kernel_rfl) rfl rfl rfl rfl
def ty12:TyI:={und:=.int .u64,size:=1,bytes:=8,zv:=(.int .u64 0),agg:=false,sh:=[.int .u64] }
theorem ty12_good:TGood Tryz.prog 12 ty12:=TGood.of (by kernel_rfl) (by kernel_rfl) rfl rfl rfl rfl
def ty13:TyI:={und:=.struct [(9,0),(12,1)],size:=2,bytes:=24,zv:=(.agg #[(.string ⟨#[]⟩),(.int .u64 0)]),agg:=true,sh:=[.str,.int .u64] }
theorem ty13_good:TGood Tryz.prog 13 ty13:=TGood.of (by kernel_rfl) (by kernel_rfl) rfl rfl rfl rfl
def ty15:TyI:={und:=.ptr,size:=1,bytes:=8,zv:=(.pointer none),agg:=false,sh:=[.ptr] }
theorem ty15_good:TGood Tryz.prog 15 ty15:=TGood.of (by kernel_rfl) (by kernel_rfl) rfl rfl rfl rfl
def ty16:TyI:={und:=.ptr,size:=1,bytes:=8,zv:=(.pointer none),agg:=false,sh:=[.ptr] }
theorem ty16_good:TGood Tryz.prog 16 ty16:=TGood.of (by kernel_rfl) (by kernel_rfl) rfl rfl rfl rfl
def ty17:TyI:={und:=.ptr,size:=1,bytes:=8,zv:=(.pointer none),agg:=false,sh:=[.ptr] }
theorem ty17_good:TGood Tryz.prog 17 ty17:=TGood.of (by kernel_rfl) (by kernel_rfl) rfl rfl rfl rfl
def ty18:TyI:={und:=.struct [(17,0)],size:=1,bytes:=8,zv:=(.agg #[(.pointer none)]),agg:=true,sh:=[.ptr] }
theorem ty18_good:TGood Tryz.prog 18 ty18:=TGood.of (by kernel_rfl) (by kernel_rfl) rfl rfl rfl rfl
def ty19:TyI:={und:=.struct [(17,0)],size:=1,bytes:=8,zv:=(.agg #[(.pointer none)]),agg:=true,sh:=[.ptr] }
theorem ty19_good:TGood Tryz.prog 19 ty19:=TGood.of (by kernel_rfl) (by kernel_rfl) rfl rfl rfl rfl
def ty21:TyI:={und:=.int .i32,size:=1,bytes:=4,zv:=(.int .i32 0),agg:=false,sh:=[.int .i32] }
theorem ty21_good:TGood Tryz.prog 21 ty21:=TGood.of (by kernel_rfl) (by kernel_rfl) rfl rfl rfl rfl
def ty22:TyI:={und:=.slice 194,size:=1,bytes:=24,zv:=(.slice none 0 0),agg:=false,sh:=[.slice] }
theorem ty22_good:TGood Tryz.prog 22 ty22:=TGood.of (by kernel_rfl) (by kernel_rfl) rfl rfl rfl rfl
def ty23:TyI:={und:=.struct [(9,0),(9,1)],size:=2,bytes:=32,zv:=(.agg #[(.string ⟨#[]⟩),(.string ⟨#[]⟩)]),agg:=true,sh:=[.str,.str] }
theorem ty23_good:TGood Tryz.prog 23 ty23:=TGood.of (by kernel_rfl) (by kernel_rfl) rfl rfl rfl rfl
def ty24:TyI:={und:=.struct [(9,0),(9,1)],size:=2,bytes:=32,zv:=(.agg #[(.string ⟨#[]⟩),(.string ⟨#[]⟩)]),agg:=true,sh:=[.str,.str] }
theorem ty24_good:TGood Tryz.prog 24 ty24:=TGood.of (by kernel_rfl) (by kernel_rfl) rfl rfl rfl rfl
def ty25:TyI:={und:=.arr 3 24,size:=6,bytes:=96,zv:=(.agg #[(.string ⟨#[]⟩),(.string ⟨#[]⟩),(.string ⟨#[]⟩),(.string ⟨#[]⟩),(.string ⟨#[]⟩),(.string ⟨#[]⟩)]),agg:=true,sh:=[.str,.str,.str,.str,.str,.str] }
theorem ty25_good:TGood Tryz.prog 25 ty25:=TGood.of (by kernel_rfl) (by kernel_rfl) rfl rfl rfl rfl
def ty26:TyI:={und:=.slice 165,size:=1,bytes:=24,zv:=(.slice none 0 0),agg:=false,sh:=[.slice] }
theorem ty26_good:TGood Tryz.prog 26 ty26:=TGood.of (by kernel_rfl) (by kernel_rfl) rfl rfl rfl rfl
def ty27:TyI:={und:=.struct [(26,0)],size:=1,bytes:=24,zv:=(.agg #[(.slice none 0 0)]),agg:=true,sh:=[.slice] }
theorem ty27_good:TGood Tryz.prog 27 ty27:=TGood.of (by kernel_rfl) (by kernel_rfl) rfl rfl rfl rfl
def ty28:TyI:={und:=.struct [(26,0)],size:=1,bytes:=24,zv:=(.agg #[(.slice none 0 0)]),agg:=true,sh:=[.slice] }
theorem ty28_good:TGood Tryz.prog 28 ty28:=TGood.of (by kernel_rfl) (by kernel_rfl) rfl rfl rfl rfl
def ty29:TyI:={und:=.slice 170,size:=1,bytes:=24,zv:=(.slice none 0 0),agg:=false,sh:=[.slice] }
theorem ty29_good:TGood Tryz.prog 29 ty29:=TGood.of (by kernel_rfl) (by kernel_rfl) rfl rfl rfl rfl
def ty30:TyI:={und:=.slice 170,size:=1,bytes:=24,zv:=(.slice none 0 0),agg:=false,sh:=[.slice] }
theorem ty30_good:TGood Tryz.prog 30 ty30:=TGood.of (by kernel_rfl) (by kernel_rfl) rfl rfl rfl rfl
def ty31:TyI:={und:=.tup [28,30,4],size:=1,bytes:=0,zv:=(.tuple #[(.agg #[(.slice none 0 0)]),(.slice none 0 0),(.bool false)]),agg:=false,sh:=[.slice] }
theorem ty31_good:TGood Tryz.prog 31 ty31:=TGood.of (by kernel_rfl) (by kernel_rfl) rfl rfl rfl rfl
def ty34:TyI:={und:=.slice 284,size:=1,bytes:=24,zv:=(.slice none 0 0),agg:=false,sh:=[.slice] }
theorem ty34_good:TGood Tryz.prog 34 ty34:=TGood.of (by kernel_rfl) (by kernel_rfl) rfl rfl rfl rfl
def ty35:TyI:={und:=.struct [(34,0)],size:=1,bytes:=24,zv:=(.agg #[(.slice none 0 0)]),agg:=true,sh:=[.slice] }
theorem ty35_good:TGood Tryz.prog 35 ty35:=TGood.of (by kernel_rfl) (by kernel_rfl) rfl rfl rfl rfl
def ty36:TyI:={und:=.struct [(34,0)],size:=1,bytes:=24,zv:=(.agg #[(.slice none 0 0)]),agg:=true,sh:=[.slice] }
theorem ty36_good:TGood Tryz.prog 36 ty36:=TGood.of (by kernel_rfl) (by kernel_rfl) rfl rfl rfl rfl
def ty37:TyI:={und:=.struct [(36,0),(4,1)],size:=2,bytes:=32,zv:=(.agg #[(.slice none 0 0),(.bool false)]),agg:=true,sh:=[.slice,.bool] }
theorem ty37_good:TGood Tryz.prog 37 ty37:=TGood.of (by kernel_rfl) (by kernel_rfl) rfl rfl rfl rfl
def ty38:TyI:={und:=.struct [(36,0),(4,1)],size:=2,bytes:=32,zv:=(.agg #[(.slice none 0 0),(.bool false)]),agg:=true,sh:=[.slice,.bool] }
theorem ty38_good:TGood Tryz.prog 38 ty38:=TGood.of (by kernel_rfl) (by kernel_rfl) rfl rfl rfl rfl
def ty39:TyI:={und:=.struct [(38,0),(36,2)],size:=3,bytes:=56,zv:=(.agg #[(.slice none 0 0),(.bool false),(.slice none 0 0)]),agg:=true,sh:=[.slice,.bool,.slice] }
theorem ty39_good:TGood Tryz.prog 39 ty39:=TGood.of (by kernel_rfl) (by kernel_rfl) rfl rfl rfl rfl
def ty40:TyI:={und:=.struct [(38,0),(36,2)],size:=3,bytes:=56,zv:=(.agg #[(.slice none 0 0),(.bool false),(.slice none 0 0)]),agg:=true,sh:=[.slice,.bool,.slice] }
theorem ty40_good:TGood Tryz.prog 40 ty40:=TGood.of (by kernel_rfl) (by kernel_rfl) rfl rfl rfl rfl
def ty41:TyI:={und:=.struct [(40,0),(40,3)],size:=6,bytes:=112,zv:=(.agg #[(.slice none 0 0),(.bool false),(.slice none 0 0),(.slice none 0 0),(.bool false),(.slice none 0 0)]),agg:=true,sh:=[.slice,.bool,.slice,.slice,.bool,.slice] }
theorem ty41_good:TGood Tryz.prog 41 ty41:=TGood.of (by kernel_rfl) (by kernel_rfl) rfl rfl rfl rfl
def ty42:TyI:={und:=.struct [(40,0),(40,3)],size:=6,bytes:=112,zv:=(.agg #[(.slice none 0 0),(.bool false),(.slice none 0 0),(.slice none 0 0),(.bool false),(.slice none 0 0)]),agg:=true,sh:=[.slice,.bool,.slice,.slice,.bool,.slice] }
theorem ty42_good:TGood Tryz.prog 42 ty42:=TGood.of (by kernel_rfl) (by kernel_rfl) rfl rfl rfl rfl
def ty43:TyI:={und:=.arr 3 42,size:=18,bytes:=336,zv:=(.agg #[(.slice none 0 0),(.bool false),(.slice none 0 0),(.slice none 0 0),(.bool false),(.slice none 0 0),(.slice none 0 0),(.bool false),(.slice none 0 0),(.slice none 0 0),(.bool false),(.slice none 0 0),(.slice none 0 0),(.bool false),(.slice none 0 0),(.slice none 0 0),(.bool false),(.slice none 0 0)]),agg:=true,sh:=[.slice,.bool,.slice,.slice,.bool,.slice,.slice,.bool,.slice,.slice,.bool,.slice,.slice,.bool,.slice,.slice,.bool,.slice] }
theorem ty43_good:TGood Tryz.prog 43 ty43:=TGood.of (by kernel_rfl) (by kernel_rfl) rfl rfl rfl rfl
def ty44:TyI:={und:=.slice 284,size:=1,bytes:=24,zv:=(.slice none 0 0),agg:=false,sh:=[.slice] }
theorem ty44_good:TGood Tryz.prog 44 ty44:=TGood.of (by kernel_rfl) (by kernel_rfl) rfl rfl rfl rfl
def ty45:TyI:={und:=.struct [(4,0),(44,1)],size:=2,bytes:=32,zv:=(.agg #[(.bool false),(.slice none 0 0)]),agg:=true,sh:=[.bool,.slice] }
theorem ty45_good:TGood Tryz.prog 45 ty45:=TGood.of (by kernel_rfl) (by kernel_rfl) rfl rfl rfl rfl
def ty46:TyI:={und:=.struct [(4,0),(44,1)],size:=2,bytes:=32,zv:=(.agg #[(.bool false),(.slice none 0 0)]),agg:=true,sh:=[.bool,.slice] }
theorem ty46_good:TGood Tryz.prog 46 ty46:=TGood.of (by kernel_rfl) (by kernel_rfl) rfl rfl rfl rfl
def ty47:TyI:={und:=.struct [(46,0),(44,2)],size:=3,bytes:=56,zv:=(.agg #[(.bool false),(.slice none 0 0),(.slice none 0 0)]),agg:=true,sh:=[.bool,.slice,.slice] }
theorem ty47_good:TGood Tryz.prog 47 ty47:=TGood.of (by kernel_rfl) (by kernel_rfl) rfl rfl rfl rfl
def ty48:TyI:={und:=.struct [(46,0),(44,2)],size:=3,bytes:=56,zv:=(.agg #[(.bool false),(.slice none 0 0),(.slice none 0 0)]),agg:=true,sh:=[.bool,.slice,.slice] }
theorem ty48_good:TGood Tryz.prog 48 ty48:=TGood.of (by kernel_rfl) (by kernel_rfl) rfl rfl rfl rfl
def ty49:TyI:={und:=.struct [(48,0),(48,3)],size:=6,bytes:=112,zv:=(.agg #[(.bool false),(.slice none 0 0),(.slice none 0 0),(.bool false),(.slice none 0 0),(.slice none 0 0)]),agg:=true,sh:=[.bool,.slice,.slice,.bool,.slice,.slice] }
theorem ty49_good:TGood Tryz.prog 49 ty49:=TGood.of (by kernel_rfl) (by kernel_rfl) rfl rfl rfl rfl
def ty50:TyI:={und:=.struct [(48,0),(48,3)],size:=6,bytes:=112,zv:=(.agg #[(.bool false),(.slice none 0 0),(.slice none 0 0),(.bool false),(.slice none 0 0),(.slice none 0 0)]),agg:=true,sh:=[.bool,.slice,.slice,.bool,.slice,.slice] }
theorem ty50_good:TGood Tryz.prog 50 ty50:=TGood.of (by kernel_rfl) (by kernel_rfl) rfl rfl rfl rfl
def ty51:TyI:={und:=.arr 3 50,size:=18,bytes:=336,zv:=(.agg #[(.bool false),(.slice none 0 0),(.slice none 0 0),(.bool false),(.slice none 0 0),(.slice none 0 0),(.bool false),(.slice none 0 0),(.slice none 0 0),(.bool false),(.slice none 0 0),(.slice none 0 0),(.bool false),(.slice none 0 0),(.slice none 0 0),(.bool false),(.slice none 0 0),(.slice none 0 0)]),agg:=true,sh:=[.bool,.slice,.slice,.bool,.slice,.slice,.bool,.slice,.slice,.bool,.slice,.slice,.bool,.slice,.slice,.bool,.slice,.slice] }
theorem ty51_good:TGood Tryz.prog 51 ty51:=TGood.of (by kernel_rfl) (by kernel_rfl) rfl rfl rfl rfl
def ty52:TyI:={und:=.tup [42,50,4],size:=1,bytes:=0,zv:=(.tuple #[(.agg #[(.slice none 0 0),(.bool false),(.slice none 0 0),(.slice none 0 0),(.bool false),(.slice none 0 0)]),(.agg #[(.bool false),(.slice none 0 0),(.slice none 0 0),(.bool false),(.slice none 0 0),(.slice none 0 0)]),(.bool false)]),agg:=false,sh:=[.slice] }
theorem ty52_good:TGood Tryz.prog 52 ty52:=TGood.of (by kernel_rfl) (by kernel_rfl) rfl rfl rfl rfl
def ty58:TyI:={und:=.slice 24,size:=1,bytes:=24,zv:=(.slice none 0 0),agg:=false,sh:=[.slice] }
theorem ty58_good:TGood Tryz.prog 58 ty58:=TGood.of (by kernel_rfl) (by kernel_rfl) rfl rfl rfl rfl
def ty59:TyI:={und:=.slice 42,size:=1,bytes:=24,zv:=(.slice none 0 0),agg:=false,sh:=[.slice] }
theorem ty59_good:TGood Tryz.prog 59 ty59:=TGood.of (by kernel_rfl) (by kernel_rfl) rfl rfl rfl rfl
def ty60:TyI:={und:=.slice 42,size:=1,bytes:=24,zv:=(.slice none 0 0),agg:=false,sh:=[.slice] }
theorem ty60_good:TGood Tryz.prog 60 ty60:=TGood.of (by kernel_rfl) (by kernel_rfl) rfl rfl rfl rfl
def ty61:TyI:={und:=.slice 50,size:=1,bytes:=24,zv:=(.slice none 0 0),agg:=false,sh:=[.slice] }
theorem ty61_good:TGood Tryz.prog 61 ty61:=TGood.of (by kernel_rfl) (by kernel_rfl) rfl rfl rfl rfl
def ty62:TyI:={und:=.tup [60,61,4],size:=1,bytes:=0,zv:=(.tuple #[(.slice none 0 0),(.slice none 0 0),(.bool false)]),agg:=false,sh:=[.slice] }
theorem ty62_good:TGood Tryz.prog 62 ty62:=TGood.of (by kernel_rfl) (by kernel_rfl) rfl rfl rfl rfl
def ty64:TyI:={und:=.arr 3 40,size:=9,bytes:=168,zv:=(.agg #[(.slice none 0 0),(.bool false),(.slice none 0 0),(.slice none 0 0),(.bool false),(.slice none 0 0),(.slice none 0 0),(.bool false),(.slice none 0 0)]),agg:=true,sh:=[.slice,.bool,.slice,.slice,.bool,.slice,.slice,.bool,.slice] }
theorem ty64_good:TGood Tryz.prog 64 ty64:=TGood.of (by kernel_rfl) (by kernel_rfl) rfl rfl rfl rfl
def ty65:TyI:={und:=.arr 3 48,size:=9,bytes:=168,zv:=(.agg #[(.bool false),(.slice none 0 0),(.slice none 0 0),(.bool false),(.slice none 0 0),(.slice none 0 0),(.bool false),(.slice none 0 0),(.slice none 0 0)]),agg:=true,sh:=[.bool,.slice,.slice,.bool,.slice,.slice,.bool,.slice,.slice] }
theorem ty65_good:TGood Tryz.prog 65 ty65:=TGood.of (by kernel_rfl) (by kernel_rfl) rfl rfl rfl rfl
def ty66:TyI:={und:=.tup [64,65,4],size:=1,bytes:=0,zv:=(.tuple #[(.agg #[(.slice none 0 0),(.bool false),(.slice none 0 0),(.slice none 0 0),(.bool false),(.slice none 0 0),(.slice none 0 0),(.bool false),(.slice none 0 0)]),(.agg #[(.bool false),(.slice none 0 0),(.slice none 0 0),(.bool false),(.slice none 0 0),(.slice none 0 0),(.bool false),(.slice none 0 0),(.slice none 0 0)]),(.bool false)]),agg:=false,sh:=[.slice] }
theorem ty66_good:TGood Tryz.prog 66 ty66:=TGood.of (by kernel_rfl) (by kernel_rfl) rfl rfl rfl rfl
def ty68:TyI:={und:=.arr 3 9,size:=3,bytes:=48,zv:=(.agg #[(.string ⟨#[]⟩),(.string ⟨#[]⟩),(.string ⟨#[]⟩)]),agg:=true,sh:=[.str,.str,.str] }
theorem ty68_good:TGood Tryz.prog 68 ty68:=TGood.of (by kernel_rfl) (by kernel_rfl) rfl rfl rfl rfl
def ty70:TyI:={und:=.tup [42,4],size:=1,bytes:=0,zv:=(.tuple #[(.agg #[(.slice none 0 0),(.bool false),(.slice none 0 0),(.slice none 0 0),(.bool false),(.slice none 0 0)]),(.bool false)]),agg:=false,sh:=[.slice] }
theorem ty70_good:TGood Tryz.prog 70 ty70:=TGood.of (by kernel_rfl) (by kernel_rfl) rfl rfl rfl rfl
def ty78:TyI:={und:=.tup [60,60,4],size:=1,bytes:=0,zv:=(.tuple #[(.slice none 0 0),(.slice none 0 0),(.bool false)]),agg:=false,sh:=[.slice] }
theorem ty78_good:TGood Tryz.prog 78 ty78:=TGood.of (by kernel_rfl) (by kernel_rfl) rfl rfl rfl rfl
def ty82:TyI:={und:=.slice 196,size:=1,bytes:=24,zv:=(.slice none 0 0),agg:=false,sh:=[.slice] }
theorem ty82_good:TGood Tryz.prog 82 ty82:=TGood.of (by kernel_rfl) (by kernel_rfl) rfl rfl rfl rfl
def ty84:TyI:={und:=.slice 198,size:=1,bytes:=24,zv:=(.slice none 0 0),agg:=false,sh:=[.slice] }
theorem ty84_good:TGood Tryz.prog 84 ty84:=TGood.of (by kernel_rfl) (by kernel_rfl) rfl rfl rfl rfl
def ty85:TyI:={und:=.slice 90,size:=1,bytes:=24,zv:=(.slice none 0 0),agg:=false,sh:=[.slice] }
theorem ty85_good:TGood Tryz.prog 85 ty85:=TGood.of (by kernel_rfl) (by kernel_rfl) rfl rfl rfl rfl
def ty86:TyI:={und:=.tup [84,85],size:=1,bytes:=0,zv:=(.tuple #[(.slice none 0 0),(.slice none 0 0)]),agg:=false,sh:=[.slice] }
theorem ty86_good:TGood Tryz.prog 86 ty86:=TGood.of (by kernel_rfl) (by kernel_rfl) rfl rfl rfl rfl
def ty89:TyI:={und:=.struct [(48,0),(3,3),(30,4)],size:=5,bytes:=88,zv:=(.agg #[(.bool false),(.slice none 0 0),(.slice none 0 0),(.int .i64 0),(.slice none 0 0)]),agg:=true,sh:=[.bool,.slice,.slice,.int .i64,.slice] }
theorem ty89_good:TGood Tryz.prog 89 ty89:=TGood.of (by kernel_rfl) (by kernel_rfl) rfl rfl rfl rfl
def ty90:TyI:={und:=.struct [(48,0),(3,3),(30,4)],size:=5,bytes:=88,zv:=(.agg #[(.bool false),(.slice none 0 0),(.slice none 0 0),(.int .i64 0),(.slice none 0 0)]),agg:=true,sh:=[.bool,.slice,.slice,.int .i64,.slice] }
theorem ty90_good:TGood Tryz.prog 90 ty90:=TGood.of (by kernel_rfl) (by kernel_rfl) rfl rfl rfl rfl
def ty92:TyI:={und:=.tup [28,4],size:=1,bytes:=0,zv:=(.tuple #[(.agg #[(.slice none 0 0)]),(.bool false)]),agg:=false,sh:=[.slice] }
theorem ty92_good:TGood Tryz.prog 92 ty92:=TGood.of (by kernel_rfl) (by kernel_rfl) rfl rfl rfl rfl
def ty94:TyI:={und:=.slice 40,size:=1,bytes:=24,zv:=(.slice none 0 0),agg:=false,sh:=[.slice] }
theorem ty94_good:TGood Tryz.prog 94 ty94:=TGood.of (by kernel_rfl) (by kernel_rfl) rfl rfl rfl rfl
def ty95:TyI:={und:=.tup [94,64],size:=1,bytes:=0,zv:=(.tuple #[(.slice none 0 0),(.agg #[(.slice none 0 0),(.bool false),(.slice none 0 0),(.slice none 0 0),(.bool false),(.slice none 0 0),(.slice none 0 0),(.bool false),(.slice none 0 0)])]),agg:=false,sh:=[.slice] }
theorem ty95_good:TGood Tryz.prog 95 ty95:=TGood.of (by kernel_rfl) (by kernel_rfl) rfl rfl rfl rfl
def ty100:TyI:={und:=.tup [40,48,4],size:=1,bytes:=0,zv:=(.tuple #[(.agg #[(.slice none 0 0),(.bool false),(.slice none 0 0)]),(.agg #[(.bool false),(.slice none 0 0),(.slice none 0 0)]),(.bool false)]),agg:=false,sh:=[.slice] }
theorem ty100_good:TGood Tryz.prog 100 ty100:=TGood.of (by kernel_rfl) (by kernel_rfl) rfl rfl rfl rfl
def ty105:TyI:={und:=.tup [94,4],size:=1,bytes:=0,zv:=(.tuple #[(.slice none 0 0),(.bool false)]),agg:=false,sh:=[.slice] }
theorem ty105_good:TGood Tryz.prog 105 ty105:=TGood.of (by kernel_rfl) (by kernel_rfl) rfl rfl rfl rfl
def ty109:TyI:={und:=.arr 4 9,size:=4,bytes:=64,zv:=(.agg #[(.string ⟨#[]⟩),(.string ⟨#[]⟩),(.string ⟨#[]⟩),(.string ⟨#[]⟩)]),agg:=true,sh:=[.str,.str,.str,.str] }
theorem ty109_good:TGood Tryz.prog 109 ty109:=TGood.of (by kernel_rfl) (by kernel_rfl) rfl rfl rfl rfl
def ty113:TyI:={und:=.tup [60,61],size:=1,bytes:=0,zv:=(.tuple #[(.slice none 0 0),(.slice none 0 0)]),agg:=false,sh:=[.slice] }
theorem ty113_good:TGood Tryz.prog 113 ty113:=TGood.of (by kernel_rfl) (by kernel_rfl) rfl rfl rfl rfl
def ty115:TyI:={und:=.slice 48,size:=1,bytes:=24,zv:=(.slice none 0 0),agg:=false,sh:=[.slice] }
theorem ty115_good:TGood Tryz.prog 115 ty115:=TGood.of (by kernel_rfl) (by kernel_rfl) rfl rfl rfl rfl
def ty116:TyI:={und:=.tup [115,4],size:=1,bytes:=0,zv:=(.tuple #[(.slice none 0 0),(.bool false)]),agg:=false,sh:=[.slice] }
theorem ty116_good:TGood Tryz.prog 116 ty116:=TGood.of (by kernel_rfl) (by kernel_rfl) rfl rfl rfl rfl
def ty121:TyI:={und:=.int .u64,size:=1,bytes:=8,zv:=(.int .u64 0),agg:=false,sh:=[.int .u64] }
theorem ty121_good:TGood Tryz.prog 121 ty121:=TGood.of (by kernel_rfl) (by kernel_rfl) rfl rfl rfl rfl
def ty123:TyI:={und:=.tup [50,4],size:=1,bytes:=0,zv:=(.tuple #[(.agg #[(.bool false),(.slice none 0 0),(.slice none 0 0),(.bool false),(.slice none 0 0),(.slice none 0 0)]),(.bool false)]),agg:=false,sh:=[.slice] }
theorem ty123_good:TGood Tryz.prog 123 ty123:=TGood.of (by kernel_rfl) (by kernel_rfl) rfl rfl rfl rfl
def ty131:TyI:={und:=.slice 9,size:=1,bytes:=24,zv:=(.slice none 0 0),agg:=false,sh:=[.slice] }
theorem ty131_good:TGood Tryz.prog 131 ty131:=TGood.of (by kernel_rfl) (by kernel_rfl) rfl rfl rfl rfl
def ty132:TyI:={und:=.slice 3,size:=1,bytes:=24,zv:=(.slice none 0 0),agg:=false,sh:=[.slice] }
theorem ty132_good:TGood Tryz.prog 132 ty132:=TGood.of (by kernel_rfl) (by kernel_rfl) rfl rfl rfl rfl
def ty133:TyI:={und:=.tup [94,115],size:=1,bytes:=0,zv:=(.tuple #[(.slice none 0 0),(.slice none 0 0)]),agg:=false,sh:=[.slice] }
theorem ty133_good:TGood Tryz.prog 133 ty133:=TGood.of (by kernel_rfl) (by kernel_rfl) rfl rfl rfl rfl
def ty135:TyI:={und:=.tup [40,4],size:=1,bytes:=0,zv:=(.tuple #[(.agg #[(.slice none 0 0),(.bool false),(.slice none 0 0)]),(.bool false)]),agg:=false,sh:=[.slice] }
theorem ty135_good:TGood Tryz.prog 135 ty135:=TGood.of (by kernel_rfl) (by kernel_rfl) rfl rfl rfl rfl
def ty137:TyI:={und:=.tup [48,4],size:=1,bytes:=0,zv:=(.tuple #[(.agg #[(.bool false),(.slice none 0 0),(.slice none 0 0)]),(.bool false)]),agg:=false,sh:=[.slice] }
theorem ty137_good:TGood Tryz.prog 137 ty137:=TGood.of (by kernel_rfl) (by kernel_rfl) rfl rfl rfl rfl
def ty139:TyI:={und:=.tup [94,94,4],size:=1,bytes:=0,zv:=(.tuple #[(.slice none 0 0),(.slice none 0 0),(.bool false)]),agg:=false,sh:=[.slice] }
theorem ty139_good:TGood Tryz.prog 139 ty139:=TGood.of (by kernel_rfl) (by kernel_rfl) rfl rfl rfl rfl
def ty141:TyI:={und:=.tup [115,115,4],size:=1,bytes:=0,zv:=(.tuple #[(.slice none 0 0),(.slice none 0 0),(.bool false)]),agg:=false,sh:=[.slice] }
theorem ty141_good:TGood Tryz.prog 141 ty141:=TGood.of (by kernel_rfl) (by kernel_rfl) rfl rfl rfl rfl
def ty147:TyI:={und:=.tup [30,4],size:=1,bytes:=0,zv:=(.tuple #[(.slice none 0 0),(.bool false)]),agg:=false,sh:=[.slice] }
theorem ty147_good:TGood Tryz.prog 147 ty147:=TGood.of (by kernel_rfl) (by kernel_rfl) rfl rfl rfl rfl
def ty150:TyI:={und:=.int .i64,size:=1,bytes:=8,zv:=(.int .i64 0),agg:=false,sh:=[.int .i64] }
theorem ty150_good:TGood Tryz.prog 150 ty150:=TGood.of (by kernel_rfl) (by kernel_rfl) rfl rfl rfl rfl
def ty151:TyI:={und:=.tup [28,150],size:=1,bytes:=0,zv:=(.tuple #[(.agg #[(.slice none 0 0)]),(.int .i64 0)]),agg:=false,sh:=[.slice] }
theorem ty151_good:TGood Tryz.prog 151 ty151:=TGood.of (by kernel_rfl) (by kernel_rfl) rfl rfl rfl rfl
def ty153:TyI:={und:=.tup [60,150],size:=1,bytes:=0,zv:=(.tuple #[(.slice none 0 0),(.int .i64 0)]),agg:=false,sh:=[.slice] }
theorem ty153_good:TGood Tryz.prog 153 ty153:=TGood.of (by kernel_rfl) (by kernel_rfl) rfl rfl rfl rfl
def ty157:TyI:={und:=.tup [50,150],size:=1,bytes:=0,zv:=(.tuple #[(.agg #[(.bool false),(.slice none 0 0),(.slice none 0 0),(.bool false),(.slice none 0 0),(.slice none 0 0)]),(.int .i64 0)]),agg:=false,sh:=[.slice] }
theorem ty157_good:TGood Tryz.prog 157 ty157:=TGood.of (by kernel_rfl) (by kernel_rfl) rfl rfl rfl rfl
def ty159:TyI:={und:=.tup [42,150],size:=1,bytes:=0,zv:=(.tuple #[(.agg #[(.slice none 0 0),(.bool false),(.slice none 0 0),(.slice none 0 0),(.bool false),(.slice none 0 0)]),(.int .i64 0)]),agg:=false,sh:=[.slice] }
theorem ty159_good:TGood Tryz.prog 159 ty159:=TGood.of (by kernel_rfl) (by kernel_rfl) rfl rfl rfl rfl
def ty164:TyI:={und:=.struct [(163,0),(40,3)],size:=6,bytes:=64,zv:=(.agg #[(.int .u8 0),(.int .u8 0),(.int .u8 0),(.slice none 0 0),(.bool false),(.slice none 0 0)]),agg:=true,sh:=[.int .u8,.int .u8,.int .u8,.slice,.bool,.slice] }
theorem ty164_good:TGood Tryz.prog 164 ty164:=TGood.of (by kernel_rfl) (by kernel_rfl) rfl rfl rfl rfl
def ty165:TyI:={und:=.struct [(163,0),(40,3)],size:=6,bytes:=64,zv:=(.agg #[(.int .u8 0),(.int .u8 0),(.int .u8 0),(.slice none 0 0),(.bool false),(.slice none 0 0)]),agg:=true,sh:=[.int .u8,.int .u8,.int .u8,.slice,.bool,.slice] }
theorem ty165_good:TGood Tryz.prog 165 ty165:=TGood.of (by kernel_rfl) (by kernel_rfl) rfl rfl rfl rfl
def ty169:TyI:={und:=.struct [(163,0),(48,3)],size:=6,bytes:=64,zv:=(.agg #[(.int .u8 0),(.int .u8 0),(.int .u8 0),(.bool false),(.slice none 0 0),(.slice none 0 0)]),agg:=true,sh:=[.int .u8,.int .u8,.int .u8,.bool,.slice,.slice] }
theorem ty169_good:TGood Tryz.prog 169 ty169:=TGood.of (by kernel_rfl) (by kernel_rfl) rfl rfl rfl rfl
def ty170:TyI:={und:=.struct [(163,0),(48,3)],size:=6,bytes:=64,zv:=(.agg #[(.int .u8 0),(.int .u8 0),(.int .u8 0),(.bool false),(.slice none 0 0),(.slice none 0 0)]),agg:=true,sh:=[.int .u8,.int .u8,.int .u8,.bool,.slice,.slice] }
theorem ty170_good:TGood Tryz.prog 170 ty170:=TGood.of (by kernel_rfl) (by kernel_rfl) rfl rfl rfl rfl
def ty173:TyI:={und:=.tup [61,150],size:=1,bytes:=0,zv:=(.tuple #[(.slice none 0 0),(.int .i64 0)]),agg:=false,sh:=[.slice] }
theorem ty173_good:TGood Tryz.prog 173 ty173:=TGood.of (by kernel_rfl) (by kernel_rfl) rfl rfl rfl rfl
def ty183:TyI:={und:=.slice 94,size:=1,bytes:=24,zv:=(.slice none 0 0),agg:=false,sh:=[.slice] }
theorem ty183_good:TGood Tryz.prog 183 ty183:=TGood.of (by kernel_rfl) (by kernel_rfl) rfl rfl rfl rfl
def ty184:TyI:={und:=.slice 94,size:=1,bytes:=24,zv:=(.slice none 0 0),agg:=false,sh:=[.slice] }
theorem ty184_good:TGood Tryz.prog 184 ty184:=TGood.of (by kernel_rfl) (by kernel_rfl) rfl rfl rfl rfl
def ty185:TyI:={und:=.tup [184,150],size:=1,bytes:=0,zv:=(.tuple #[(.slice none 0 0),(.int .i64 0)]),agg:=false,sh:=[.slice] }
theorem ty185_good:TGood Tryz.prog 185 ty185:=TGood.of (by kernel_rfl) (by kernel_rfl) rfl rfl rfl rfl
def ty187:TyI:={und:=.slice 131,size:=1,bytes:=24,zv:=(.slice none 0 0),agg:=false,sh:=[.slice] }
theorem ty187_good:TGood Tryz.prog 187 ty187:=TGood.of (by kernel_rfl) (by kernel_rfl) rfl rfl rfl rfl
def ty190:TyI:={und:=.slice 28,size:=1,bytes:=24,zv:=(.slice none 0 0),agg:=false,sh:=[.slice] }
theorem ty190_good:TGood Tryz.prog 190 ty190:=TGood.of (by kernel_rfl) (by kernel_rfl) rfl rfl rfl rfl
def ty195:TyI:={und:=.struct [(9,0),(3,1),(22,2)],size:=3,bytes:=48,zv:=(.agg #[(.string ⟨#[]⟩),(.int .i64 0),(.slice none 0 0)]),agg:=true,sh:=[.str,.int .i64,.slice] }
theorem ty195_good:TGood Tryz.prog 195 ty195:=TGood.of (by kernel_rfl) (by kernel_rfl) rfl rfl rfl rfl
def ty196:TyI:={und:=.struct [(9,0),(3,1),(22,2)],size:=3,bytes:=48,zv:=(.agg #[(.string ⟨#[]⟩),(.int .i64 0),(.slice none 0 0)]),agg:=true,sh:=[.str,.int .i64,.slice] }
theorem ty196_good:TGood Tryz.prog 196 ty196:=TGood.of (by kernel_rfl) (by kernel_rfl) rfl rfl rfl rfl
def ty197:TyI:={und:=.struct [(40,0),(3,3),(28,4)],size:=5,bytes:=88,zv:=(.agg #[(.slice none 0 0),(.bool false),(.slice none 0 0),(.int .i64 0),(.slice none 0 0)]),agg:=true,sh:=[.slice,.bool,.slice,.int .i64,.slice] }
theorem ty197_good:TGood Tryz.prog 197 ty197:=TGood.of (by kernel_rfl) (by kernel_rfl) rfl rfl rfl rfl
def ty198:TyI:={und:=.struct [(40,0),(3,3),(28,4)],size:=5,bytes:=88,zv:=(.agg #[(.slice none 0 0),(.bool false),(.slice none 0 0),(.int .i64 0),(.slice none 0 0)]),agg:=true,sh:=[.slice,.bool,.slice,.int .i64,.slice] }
theorem ty198_good:TGood Tryz.prog 198 ty198:=TGood.of (by kernel_rfl) (by kernel_rfl) rfl rfl rfl rfl
def ty203:TyI:={und:=.tup [40,150],size:=1,bytes:=0,zv:=(.tuple #[(.agg #[(.slice none 0 0),(.bool false),(.slice none 0 0)]),(.int .i64 0)]),agg:=false,sh:=[.slice] }
theorem ty203_good:TGood Tryz.prog 203 ty203:=TGood.of (by kernel_rfl) (by kernel_rfl) rfl rfl rfl rfl
def ty206:TyI:={und:=.tup [3,4],size:=1,bytes:=0,zv:=(.tuple #[(.int .i64 0),(.bool false)]),agg:=false,sh:=[.slice] }
theorem ty206_good:TGood Tryz.prog 206 ty206:=TGood.of (by kernel_rfl) (by kernel_rfl) rfl rfl rfl rfl
def ty221:TyI:={und:=.arr 3 30,size:=3,bytes:=72,zv:=(.agg #[(.slice none 0 0),(.slice none 0 0),(.slice none 0 0)]),agg:=true,sh:=[.slice,.slice,.slice] }
theorem ty221_good:TGood Tryz.prog 221 ty221:=TGood.of (by kernel_rfl) (by kernel_rfl) rfl rfl rfl rfl
def ty236:TyI:={und:=.tup [132,4],size:=1,bytes:=0,zv:=(.tuple #[(.slice none 0 0),(.bool false)]),agg:=false,sh:=[.slice] }
theorem ty236_good:TGood Tryz.prog 236 ty236:=TGood.of (by kernel_rfl) (by kernel_rfl) rfl rfl rfl rfl
def ty242:TyI:={und:=.map 163 40,size:=1,bytes:=8,zv:=(.map none),agg:=false,sh:=[.map] }
theorem ty242_good:TGood Tryz.prog 242 ty242:=TGood.of (by kernel_rfl) (by kernel_rfl) rfl rfl rfl rfl
def ty243:TyI:={und:=.map 163 40,size:=1,bytes:=8,zv:=(.map none),agg:=false,sh:=[.map] }
theorem ty243_good:TGood Tryz.prog 243 ty243:=TGood.of (by kernel_rfl) (by kernel_rfl) rfl rfl rfl rfl
def ty244:TyI:={und:=.tup [163,4],size:=1,bytes:=0,zv:=(.tuple #[(.agg #[(.int .u8 0),(.int .u8 0),(.int .u8 0)]),(.bool false)]),agg:=false,sh:=[.slice] }
theorem ty244_good:TGood Tryz.prog 244 ty244:=TGood.of (by kernel_rfl) (by kernel_rfl) rfl rfl rfl rfl
def ty250:TyI:={und:=.int .u64,size:=1,bytes:=8,zv:=(.int .u64 0),agg:=false,sh:=[.int .u64] }
theorem ty250_good:TGood Tryz.prog 250 ty250:=TGood.of (by kernel_rfl) (by kernel_rfl) rfl rfl rfl rfl
def ty257:TyI:={und:=.slice 5,size:=1,bytes:=24,zv:=(.slice none 0 0),agg:=false,sh:=[.slice] }
theorem ty257_good:TGood Tryz.prog 257 ty257:=TGood.of (by kernel_rfl) (by kernel_rfl) rfl rfl rfl rfl
def ty258:TyI:={und:=.slice 26,size:=1,bytes:=24,zv:=(.slice none 0 0),agg:=false,sh:=[.slice] }
theorem ty258_good:TGood Tryz.prog 258 ty258:=TGood.of (by kernel_rfl) (by kernel_rfl) rfl rfl rfl rfl
def ty268:TyI:={und:=.tup [46,4],size:=1,bytes:=0,zv:=(.tuple #[(.agg #[(.bool false),(.slice none 0 0)]),(.bool false)]),agg:=false,sh:=[.slice] }
theorem ty268_good:TGood Tryz.prog 268 ty268:=TGood.of (by kernel_rfl) (by kernel_rfl) rfl rfl rfl rfl
def ty270:TyI:={und:=.tup [44,4],size:=1,bytes:=0,zv:=(.tuple #[(.slice none 0 0),(.bool false)]),agg:=false,sh:=[.slice] }
theorem ty270_good:TGood Tryz.prog 270 ty270:=TGood.of (by kernel_rfl) (by kernel_rfl) rfl rfl rfl rfl
def ty274:TyI:={und:=.tup [9,9,4],size:=1,bytes:=0,zv:=(.tuple #[(.string ⟨#[]⟩),(.string ⟨#[]⟩),(.bool false)]),agg:=false,sh:=[.slice] }
theorem ty274_good:TGood Tryz.prog 274 ty274:=TGood.of (by kernel_rfl) (by kernel_rfl) rfl rfl rfl rfl
def ty276:TyI:={und:=.tup [38,150],size:=1,bytes:=0,zv:=(.tuple #[(.agg #[(.slice none 0 0),(.bool false)]),(.int .i64 0)]),agg:=false,sh:=[.slice] }
theorem ty276_good:TGood Tryz.prog 276 ty276:=TGood.of (by kernel_rfl) (by kernel_rfl) rfl rfl rfl rfl
def ty278:TyI:={und:=.tup [36,150],size:=1,bytes:=0,zv:=(.tuple #[(.agg #[(.slice none 0 0)]),(.int .i64 0)]),agg:=false,sh:=[.slice] }
theorem ty278_good:TGood Tryz.prog 278 ty278:=TGood.of (by kernel_rfl) (by kernel_rfl) rfl rfl rfl rfl
def ty284:TyI:={und:=.int .u32,size:=1,bytes:=4,zv:=(.int .u32 0),agg:=false,sh:=[.int .u32] }
theorem ty284_good:TGood Tryz.prog 284 ty284:=TGood.of (by kernel_rfl) (by kernel_rfl) rfl rfl rfl rfl
def ty285:TyI:={und:=.tup [36,36,4],size:=1,bytes:=0,zv:=(.tuple #[(.agg #[(.slice none 0 0)]),(.agg #[(.slice none 0 0)]),(.bool false)]),agg:=false,sh:=[.slice] }
theorem ty285_good:TGood Tryz.prog 285 ty285:=TGood.of (by kernel_rfl) (by kernel_rfl) rfl rfl rfl rfl
def ty287:TyI:={und:=.tup [36,4],size:=1,bytes:=0,zv:=(.tuple #[(.agg #[(.slice none 0 0)]),(.bool false)]),agg:=false,sh:=[.slice] }
theorem ty287_good:TGood Tryz.prog 287 ty287:=TGood.of (by kernel_rfl) (by kernel_rfl) rfl rfl rfl rfl
def ty306:TyI:={und:=.struct [(38,0),(3,2)],size:=3,bytes:=40,zv:=(.agg #[(.slice none 0 0),(.bool false),(.int .i64 0)]),agg:=true,sh:=[.slice,.bool,.int .i64] }
theorem ty306_good:TGood Tryz.prog 306 ty306:=TGood.of (by kernel_rfl) (by kernel_rfl) rfl rfl rfl rfl
def ty307:TyI:={und:=.struct [(38,0),(3,2)],size:=3,bytes:=40,zv:=(.agg #[(.slice none 0 0),(.bool false),(.int .i64 0)]),agg:=true,sh:=[.slice,.bool,.int .i64] }
theorem ty307_good:TGood Tryz.prog 307 ty307:=TGood.of (by kernel_rfl) (by kernel_rfl) rfl rfl rfl rfl
def ty308:TyI:={und:=.tup [307,4],size:=1,bytes:=0,zv:=(.tuple #[(.agg #[(.slice none 0 0),(.bool false),(.int .i64 0)]),(.bool false)]),agg:=false,sh:=[.slice] }
theorem ty308_good:TGood Tryz.prog 308 ty308:=TGood.of (by kernel_rfl) (by kernel_rfl) rfl rfl rfl rfl
def ty316:TyI:={und:=.tup [44,44],size:=1,bytes:=0,zv:=(.tuple #[(.slice none 0 0),(.slice none 0 0)]),agg:=false,sh:=[.slice] }
theorem ty316_good:TGood Tryz.prog 316 ty316:=TGood.of (by kernel_rfl) (by kernel_rfl) rfl rfl rfl rfl
def ty338:TyI:={und:=.int .i64,size:=1,bytes:=8,zv:=(.int .i64 0),agg:=false,sh:=[.int .i64] }
theorem ty338_good:TGood Tryz.prog 338 ty338:=TGood.of (by kernel_rfl) (by kernel_rfl) rfl rfl rfl rfl
def ty339:TyI:={und:=.tup [3,338],size:=1,bytes:=0,zv:=(.tuple #[(.int .i64 0),(.int .i64 0)]),agg:=false,sh:=[.slice] }
theorem ty339_good:TGood Tryz.prog 339 ty339:=TGood.of (by kernel_rfl) (by kernel_rfl) rfl rfl rfl rfl
def ty347:TyI:={und:=.arr 32 5,size:=32,bytes:=32,zv:=(.agg #[(.int .u8 0),(.int .u8 0),(.int .u8 0),(.int .u8 0),(.int .u8 0),(.int .u8 0),(.int .u8 0),(.int .u8 0),(.int .u8 0),(.int .u8 0),(.int .u8 0),(.int .u8 0),(.int .u8 0),(.int .u8 0),(.int .u8 0),(.int .u8 0),(.int .u8 0),(.int .u8 0),(.int .u8 0),(.int .u8 0),(.int .u8 0),(.int .u8 0),(.int .u8 0),(.int .u8 0),(.int .u8 0),(.int .u8 0),(.int .u8 0),(.int .u8 0),(.int .u8 0),(.int .u8 0),(.int .u8 0),(.int .u8 0)]),agg:=true,sh:=[.int .u8,.int .u8,.int .u8,.int .u8,.int .u8,.int .u8,.int .u8,.int .u8,.int .u8,.int .u8,.int .u8,.int .u8,.int .u8,.int .u8,.int .u8,.int .u8,.int .u8,.int .u8,.int .u8,.int .u8,.int .u8,.int .u8,.int .u8,.int .u8,.int .u8,.int .u8,.int .u8,.int .u8,.int .u8,.int .u8,.int .u8,.int .u8] }
theorem ty347_good:TGood Tryz.prog 347 ty347:=TGood.of (by kernel_rfl) (by kernel_rfl) rfl rfl rfl rfl
def ty348:TyI:={und:=.int .u64,size:=1,bytes:=8,zv:=(.int .u64 0),agg:=false,sh:=[.int .u64] }
theorem ty348_good:TGood Tryz.prog 348 ty348:=TGood.of (by kernel_rfl) (by kernel_rfl) rfl rfl rfl rfl
def ty351:TyI:={und:=.ptr,size:=1,bytes:=8,zv:=(.pointer none),agg:=false,sh:=[.ptr] }
theorem ty351_good:TGood Tryz.prog 351 ty351:=TGood.of (by kernel_rfl) (by kernel_rfl) rfl rfl rfl rfl
def ty353:TyI:={und:=.tup [284,284],size:=1,bytes:=0,zv:=(.tuple #[(.int .u32 0),(.int .u32 0)]),agg:=false,sh:=[.slice] }
theorem ty353_good:TGood Tryz.prog 353 ty353:=TGood.of (by kernel_rfl) (by kernel_rfl) rfl rfl rfl rfl
def ty355:TyI:={und:=.ptr,size:=1,bytes:=8,zv:=(.pointer none),agg:=false,sh:=[.ptr] }
theorem ty355_good:TGood Tryz.prog 355 ty355:=TGood.of (by kernel_rfl) (by kernel_rfl) rfl rfl rfl rfl
def ty356:TyI:={und:=.tup [3,3],size:=1,bytes:=0,zv:=(.tuple #[(.int .i64 0),(.int .i64 0)]),agg:=false,sh:=[.slice] }
theorem ty356_good:TGood Tryz.prog 356 ty356:=TGood.of (by kernel_rfl) (by kernel_rfl) rfl rfl rfl rfl
def ty358:TyI:={und:=.struct [(17,0),(17,1),(17,2),(9,3)],size:=4,bytes:=40,zv:=(.agg #[(.pointer none),(.pointer none),(.pointer none),(.string ⟨#[]⟩)]),agg:=true,sh:=[.ptr,.ptr,.ptr,.str] }
theorem ty358_good:TGood Tryz.prog 358 ty358:=TGood.of (by kernel_rfl) (by kernel_rfl) rfl rfl rfl rfl
def ty360:TyI:={und:=.arr 0 16,size:=0,bytes:=0,zv:=(.agg #[]),agg:=true,sh:=[] }
theorem ty360_good:TGood Tryz.prog 360 ty360:=TGood.of (by kernel_rfl) (by kernel_rfl) rfl rfl rfl rfl
def ty361:TyI:={und:=.struct [(360,0)],size:=0,bytes:=0,zv:=(.agg #[]),agg:=true,sh:=[] }
theorem ty361_good:TGood Tryz.prog 361 ty361:=TGood.of (by kernel_rfl) (by kernel_rfl) rfl rfl rfl rfl
def ty366:TyI:={und:=.ptr,size:=1,bytes:=8,zv:=(.pointer none),agg:=false,sh:=[.ptr] }
theorem ty366_good:TGood Tryz.prog 366 ty366:=TGood.of (by kernel_rfl) (by kernel_rfl) rfl rfl rfl rfl
def ty83:TyI:={und:=.arr 3 3,size:=3,bytes:=24,zv:=(.agg #[(.int .i64 0),(.int .i64 0),(.int .i64 0)]),agg:=true,sh:=[.int .i64,.int .i64,.int .i64],eq:=true }
theorem ty83_good:TGood Tryz.prog 83 ty83:=TGood.ofEq (by kernel_rfl) (by kernel_rfl) rfl rfl rfl (eqOK_mono (by kernel_rfl) (by kernel_rfl) ty3_good rfl rfl (by kernel_rfl))
def ty162:TyI:={und:=.arr 3 5,size:=3,bytes:=3,zv:=(.agg #[(.int .u8 0),(.int .u8 0),(.int .u8 0)]),agg:=true,sh:=[.int .u8,.int .u8,.int .u8],eq:=true }
theorem ty162_good:TGood Tryz.prog 162 ty162:=TGood.ofEq (by kernel_rfl) (by kernel_rfl) rfl rfl rfl (eqOK_mono (by kernel_rfl) (by kernel_rfl) ty5_good rfl rfl (by kernel_rfl))
def ty163:TyI:={und:=.arr 3 5,size:=3,bytes:=3,zv:=(.agg #[(.int .u8 0),(.int .u8 0),(.int .u8 0)]),agg:=true,sh:=[.int .u8,.int .u8,.int .u8],eq:=true }
theorem ty163_good:TGood Tryz.prog 163 ty163:=TGood.ofEq (by kernel_rfl) (by kernel_rfl) rfl rfl rfl (eqOK_mono (by kernel_rfl) (by kernel_rfl) ty5_good rfl rfl (by kernel_rfl))
def ty193:TyI:={und:=.struct [(163,0),(9,3)],size:=4,bytes:=24,zv:=(.agg #[(.int .u8 0),(.int .u8 0),(.int .u8 0),(.string ⟨#[]⟩)]),agg:=true,sh:=[.int .u8,.int .u8,.int .u8,.str],eq:=true }
theorem ty193_good:TGood Tryz.prog 193 ty193:=TGood.ofEq (by kernel_rfl) (by kernel_rfl) rfl rfl rfl (eqOK_term (by kernel_rfl) (by kernel_rfl) (by kernel_rfl) (by kernel_rfl) (by kernel_rfl) ty5_good rfl rfl ty163_good rfl rfl (by kernel_rfl) ty9_good rfl rfl (by kernel_rfl))
def ty194:TyI:={und:=.struct [(163,0),(9,3)],size:=4,bytes:=24,zv:=(.agg #[(.int .u8 0),(.int .u8 0),(.int .u8 0),(.string ⟨#[]⟩)]),agg:=true,sh:=[.int .u8,.int .u8,.int .u8,.str],eq:=true }
theorem ty194_good:TGood Tryz.prog 194 ty194:=TGood.ofEq (by kernel_rfl) (by kernel_rfl) rfl rfl rfl (eqOK_term (by kernel_rfl) (by kernel_rfl) (by kernel_rfl) (by kernel_rfl) (by kernel_rfl) ty5_good rfl rfl ty163_good rfl rfl (by kernel_rfl) ty9_good rfl rfl (by kernel_rfl))
def tt:List (Nat×TyI):=[(0,ty0),(2,ty2),(3,ty3),(4,ty4),(5,ty5),(9,ty9),(12,ty12),(13,ty13),(15,ty15),(16,ty16),(17,ty17),(18,ty18),(19,ty19),(21,ty21),(22,ty22),(23,ty23),(24,ty24),(25,ty25),(26,ty26),(27,ty27),(28,ty28),(29,ty29),(30,ty30),(31,ty31),(34,ty34),(35,ty35),(36,ty36),(37,ty37),(38,ty38),(39,ty39),(40,ty40),(41,ty41),(42,ty42),(43,ty43),(44,ty44),(45,ty45),(46,ty46),(47,ty47),(48,ty48),(49,ty49),(50,ty50),(51,ty51),(52,ty52),(58,ty58),(59,ty59),(60,ty60),(61,ty61),(62,ty62),(64,ty64),(65,ty65),(66,ty66),(68,ty68),(70,ty70),(78,ty78),(82,ty82),(83,ty83),(84,ty84),(85,ty85),(86,ty86),(89,ty89),(90,ty90),(92,ty92),(94,ty94),(95,ty95),(100,ty100),(105,ty105),(109,ty109),(113,ty113),(115,ty115),(116,ty116),(121,ty121),(123,ty123),(131,ty131),(132,ty132),(133,ty133),(135,ty135),(137,ty137),(139,ty139),(141,ty141),(147,ty147),(150,ty150),(151,ty151),(153,ty153),(157,ty157),(159,ty159),(162,ty162),(163,ty163),(164,ty164),(165,ty165),(169,ty169),(170,ty170),(173,ty173),(183,ty183),(184,ty184),(185,ty185),(187,ty187),(190,ty190),(193,ty193),(194,ty194),(195,ty195),(196,ty196),(197,ty197),(198,ty198),(203,ty203),(206,ty206),(221,ty221),(236,ty236),(242,ty242),(243,ty243),(244,ty244),(250,ty250),(257,ty257),(258,ty258),(268,ty268),(270,ty270),(274,ty274),(276,ty276),(278,ty278),(284,ty284),(285,ty285),(287,ty287),(306,ty306),(307,ty307),(308,ty308),(316,ty316),(338,ty338),(339,ty339),(347,ty347),(348,ty348),(351,ty351),(353,ty353),(355,ty355),(356,ty356),(358,ty358),(360,ty360),(361,ty361),(366,ty366)]
theorem tt_ok:TabOK Tryz.prog tt:=⟨ty0_good,⟨ty2_good,⟨ty3_good,⟨ty4_good,⟨ty5_good,⟨ty9_good,⟨ty12_good,⟨ty13_good,⟨ty15_good,⟨ty16_good,⟨ty17_good,⟨ty18_good,⟨ty19_good,⟨ty21_good,⟨ty22_good,⟨ty23_good,⟨ty24_good,⟨ty25_good,⟨ty26_good,⟨ty27_good,⟨ty28_good,⟨ty29_good,⟨ty30_good,⟨ty31_good,⟨ty34_good,⟨ty35_good,⟨ty36_good,⟨ty37_good,⟨ty38_good,⟨ty39_good,⟨ty40_good,⟨ty41_good,⟨ty42_good,⟨ty43_good,⟨ty44_good,⟨ty45_good,⟨ty46_good,⟨ty47_good,⟨ty48_good,⟨ty49_good,⟨ty50_good,⟨ty51_good,⟨ty52_good,⟨ty58_good,⟨ty59_good,⟨ty60_good,⟨ty61_good,⟨ty62_good,⟨ty64_good,⟨ty65_good,⟨ty66_good,⟨ty68_good,⟨ty70_good,⟨ty78_good,⟨ty82_good,⟨ty83_good,⟨ty84_good,⟨ty85_good,⟨ty86_good,⟨ty89_good,⟨ty90_good,⟨ty92_good,⟨ty94_good,⟨ty95_good,⟨ty100_good,⟨ty105_good,⟨ty109_good,⟨ty113_good,⟨ty115_good,⟨ty116_good,⟨ty121_good,⟨ty123_good,⟨ty131_good,⟨ty132_good,⟨ty133_good,⟨ty135_good,⟨ty137_good,⟨ty139_good,⟨ty141_good,⟨ty147_good,⟨ty150_good,⟨ty151_good,⟨ty153_good,⟨ty157_good,⟨ty159_good,⟨ty162_good,⟨ty163_good,⟨ty164_good,⟨ty165_good,⟨ty169_good,⟨ty170_good,⟨ty173_good,⟨ty183_good,⟨ty184_good,⟨ty185_good,⟨ty187_good,⟨ty190_good,⟨ty193_good,⟨ty194_good,⟨ty195_good,⟨ty196_good,⟨ty197_good,⟨ty198_good,⟨ty203_good,⟨ty206_good,⟨ty221_good,⟨ty236_good,⟨ty242_good,⟨ty243_good,⟨ty244_good,⟨ty250_good,⟨ty257_good,⟨ty258_good,⟨ty268_good,⟨ty270_good,⟨ty274_good,⟨ty276_good,⟨ty278_good,⟨ty284_good,⟨ty285_good,⟨ty287_good,⟨ty306_good,⟨ty307_good,⟨ty308_good,⟨ty316_good,⟨ty338_good,⟨ty339_good,⟨ty347_good,⟨ty348_good,⟨ty351_good,⟨ty353_good,⟨ty355_good,⟨ty356_good,⟨ty358_good,⟨ty360_good,⟨ty361_good,⟨ty366_good,trivial⟩⟩⟩⟩⟩⟩⟩⟩⟩⟩⟩⟩⟩⟩⟩⟩⟩⟩⟩⟩⟩⟩⟩⟩⟩⟩⟩⟩⟩⟩⟩⟩⟩⟩⟩⟩⟩⟩⟩⟩⟩⟩⟩⟩⟩⟩⟩⟩⟩⟩⟩⟩⟩⟩⟩⟩⟩⟩⟩⟩⟩⟩⟩⟩⟩⟩⟩⟩⟩⟩⟩⟩⟩⟩⟩⟩⟩⟩⟩⟩⟩⟩⟩⟩⟩⟩⟩⟩⟩⟩⟩⟩⟩⟩⟩⟩⟩⟩⟩⟩⟩⟩⟩⟩⟩⟩⟩⟩⟩⟩⟩⟩⟩⟩⟩⟩⟩⟩⟩⟩⟩⟩⟩⟩⟩⟩⟩⟩⟩⟩⟩⟩⟩⟩⟩⟩⟩
theorem tt_in:FieldsIn tt:=fieldsIn_of (by kernel_rfl)
end Go.Proofs.YtjkkidjbppphpaaGreatDoor
