/- The types of this place's program, as the symbolic evaluator wants them; each row is asked of the program itself. Written by gentt.py. -/
import Derived.Test.YthpmkcidkcmlgaaGreatProg
import Derived.Test.YthpmkcidkcmlgaaGreatSx5
set_option linter.unusedVariables false
set_option linter.unusedSimpArgs false
set_option linter.unusedVariables false
namespace Go.Proofs.YthpmkcidkcmlgaaGreat
open Go Go.SX
def ty0:TyI:={und:=.tup [],size:=1,bytes:=0,zv:=(.tuple #[]),agg:=false,sh:=[.slice] }
theorem ty0_good:TGood Tryz.prog 0 ty0:=TGood.of (by kernel_rfl) (by kernel_rfl) rfl rfl rfl rfl
def ty2:TyI:={und:=.int .i64,size:=1,bytes:=8,zv:=(.int .i64 0),agg:=false,sh:=[.int .i64] }
theorem ty2_good:TGood Tryz.prog 2 ty2:=TGood.of (by kernel_rfl) (by kernel_rfl) rfl rfl rfl rfl
def ty3:TyI:={und:=.int .i64,size:=1,bytes:=8,zv:=(.int .i64 0),agg:=false,sh:=[.int .i64] }
theorem ty3_good:TGood Tryz.prog 3 ty3:=TGood.of (by kernel_rfl) (by kernel_rfl) rfl rfl rfl rfl
def ty4:TyI:={und:=.bool,size:=1,bytes:=1,zv:=(.bool false),agg:=false,sh:=[.bool] }
theorem ty4_good:TGood Tryz.prog 4 ty4:=TGood.of (by kernel_rfl) (by kernel_rfl) rfl rfl rfl rfl
def ty5:TyI:={und:=.int .u8,size:=1,bytes:=1,zv:=(.int .u8 0),agg:=false,sh:=[.int .u8] }
theorem ty5_good:TGood Tryz.prog 5 ty5:=TGood.of (by kernel_rfl) (by kernel_rfl) rfl rfl rfl rfl
def ty9:TyI:={und:=.str,size:=1,bytes:=16,zv:=(.string ⟨#[]⟩),agg:=false,sh:=[.str] }
theorem ty9_good:TGood Tryz.prog 9 ty9:=TGood.of (by kernel_rfl) (by kernel_rfl) rfl rfl rfl rfl
def ty12:TyI:={und:=.int .u64,size:=1,bytes:=8,zv:=(.int .u64 0),agg:=false,sh:=[.int .u64] }
theorem ty12_good:TGood Tryz.prog 12 ty12:=TGood.of (by kernel_rfl) (by kernel_rfl) rfl rfl rfl rfl
def ty13:TyI:={und:=.struct [(9,0),(12,1)],size:=2,bytes:=24,zv:=(.agg #[(.string ⟨#[]⟩),(.int .u64 0)]),agg:=true,sh:=[.str,.int .u64] }
theorem ty13_good:TGood Tryz.prog 13 ty13:=TGood.of (by kernel_rfl) (by kernel_rfl) rfl rfl rfl rfl
def ty15:TyI:={und:=.ptr,size:=1,bytes:=8,zv:=(.pointer none),agg:=false,sh:=[.ptr] }
theorem ty15_good:TGood Tryz.prog 15 ty15:=TGood.of (by kernel_rfl) (by kernel_rfl) rfl rfl rfl rfl
def ty16:TyI:={und:=.ptr,size:=1,bytes:=8,zv:=(.pointer none),agg:=false,sh:=[.ptr] }
theorem ty16_good:TGood Tryz.prog 16 ty16:=TGood.of (by kernel_rfl) (by kernel_rfl) rfl rfl rfl rfl
def ty17:TyI:={und:=.ptr,size:=1,bytes:=8,zv:=(.pointer none),agg:=false,sh:=[.ptr] }
theorem ty17_good:TGood Tryz.prog 17 ty17:=TGood.of (by kernel_rfl) (by kernel_rfl) rfl rfl rfl rfl
def ty18:TyI:={und:=.struct [(17,0)],size:=1,bytes:=8,zv:=(.agg #[(.pointer none)]),agg:=true,sh:=[.ptr] }
theorem ty18_good:TGood Tryz.prog 18 ty18:=TGood.of (by kernel_rfl) (by kernel_rfl) rfl rfl rfl rfl
def ty19:TyI:={und:=.struct [(17,0)],size:=1,bytes:=8,zv:=(.agg #[(.pointer none)]),agg:=true,sh:=[.ptr] }
theorem ty19_good:TGood Tryz.prog 19 ty19:=TGood.of (by kernel_rfl) (by kernel_rfl) rfl rfl rfl rfl
def ty21:TyI:={und:=.int .i32,size:=1,bytes:=4,zv:=(.int .i32 0),agg:=false,sh:=[.int .i32] }
theorem ty21_good:TGood Tryz.prog 21 ty21:=TGood.of (by kernel_rfl) (by kernel_rfl) rfl rfl rfl rfl
def ty22:TyI:={und:=.slice 185,size:=1,bytes:=24,zv:=(.slice none 0 0),agg:=false,sh:=[.slice] }
theorem ty22_good:TGood Tryz.prog 22 ty22:=TGood.of (by kernel_rfl) (by kernel_rfl) rfl rfl rfl rfl
def ty23:TyI:={und:=.slice 188,size:=1,bytes:=24,zv:=(.slice none 0 0),agg:=false,sh:=[.slice] }
theorem ty23_good:TGood Tryz.prog 23 ty23:=TGood.of (by kernel_rfl) (by kernel_rfl) rfl rfl rfl rfl
def ty24:TyI:={und:=.struct [(23,0)],size:=1,bytes:=24,zv:=(.agg #[(.slice none 0 0)]),agg:=true,sh:=[.slice] }
theorem ty24_good:TGood Tryz.prog 24 ty24:=TGood.of (by kernel_rfl) (by kernel_rfl) rfl rfl rfl rfl
def ty25:TyI:={und:=.struct [(23,0)],size:=1,bytes:=24,zv:=(.agg #[(.slice none 0 0)]),agg:=true,sh:=[.slice] }
theorem ty25_good:TGood Tryz.prog 25 ty25:=TGood.of (by kernel_rfl) (by kernel_rfl) rfl rfl rfl rfl
def ty26:TyI:={und:=.slice 195,size:=1,bytes:=24,zv:=(.slice none 0 0),agg:=false,sh:=[.slice] }
theorem ty26_good:TGood Tryz.prog 26 ty26:=TGood.of (by kernel_rfl) (by kernel_rfl) rfl rfl rfl rfl
def ty27:TyI:={und:=.slice 195,size:=1,bytes:=24,zv:=(.slice none 0 0),agg:=false,sh:=[.slice] }
theorem ty27_good:TGood Tryz.prog 27 ty27:=TGood.of (by kernel_rfl) (by kernel_rfl) rfl rfl rfl rfl
def ty28:TyI:={und:=.tup [25,27,4],size:=1,bytes:=0,zv:=(.tuple #[(.agg #[(.slice none 0 0)]),(.slice none 0 0),(.bool false)]),agg:=false,sh:=[.slice] }
theorem ty28_good:TGood Tryz.prog 28 ty28:=TGood.of (by kernel_rfl) (by kernel_rfl) rfl rfl rfl rfl
def ty31:TyI:={und:=.slice 100,size:=1,bytes:=24,zv:=(.slice none 0 0),agg:=false,sh:=[.slice] }
theorem ty31_good:TGood Tryz.prog 31 ty31:=TGood.of (by kernel_rfl) (by kernel_rfl) rfl rfl rfl rfl
def ty32:TyI:={und:=.slice 100,size:=1,bytes:=24,zv:=(.slice none 0 0),agg:=false,sh:=[.slice] }
theorem ty32_good:TGood Tryz.prog 32 ty32:=TGood.of (by kernel_rfl) (by kernel_rfl) rfl rfl rfl rfl
def ty33:TyI:={und:=.tup [32,4],size:=1,bytes:=0,zv:=(.tuple #[(.slice none 0 0),(.bool false)]),agg:=false,sh:=[.slice] }
theorem ty33_good:TGood Tryz.prog 33 ty33:=TGood.of (by kernel_rfl) (by kernel_rfl) rfl rfl rfl rfl
def ty35:TyI:={und:=.slice 193,size:=1,bytes:=24,zv:=(.slice none 0 0),agg:=false,sh:=[.slice] }
theorem ty35_good:TGood Tryz.prog 35 ty35:=TGood.of (by kernel_rfl) (by kernel_rfl) rfl rfl rfl rfl
def ty36:TyI:={und:=.slice 193,size:=1,bytes:=24,zv:=(.slice none 0 0),agg:=false,sh:=[.slice] }
theorem ty36_good:TGood Tryz.prog 36 ty36:=TGood.of (by kernel_rfl) (by kernel_rfl) rfl rfl rfl rfl
def ty37:TyI:={und:=.tup [36,4],size:=1,bytes:=0,zv:=(.tuple #[(.slice none 0 0),(.bool false)]),agg:=false,sh:=[.slice] }
theorem ty37_good:TGood Tryz.prog 37 ty37:=TGood.of (by kernel_rfl) (by kernel_rfl) rfl rfl rfl rfl
def ty40:TyI:={und:=.slice 25,size:=1,bytes:=24,zv:=(.slice none 0 0),agg:=false,sh:=[.slice] }
theorem ty40_good:TGood Tryz.prog 40 ty40:=TGood.of (by kernel_rfl) (by kernel_rfl) rfl rfl rfl rfl
def ty42:TyI:={und:=.tup [25,4],size:=1,bytes:=0,zv:=(.tuple #[(.agg #[(.slice none 0 0)]),(.bool false)]),agg:=false,sh:=[.slice] }
theorem ty42_good:TGood Tryz.prog 42 ty42:=TGood.of (by kernel_rfl) (by kernel_rfl) rfl rfl rfl rfl
def ty45:TyI:={und:=.slice 317,size:=1,bytes:=24,zv:=(.slice none 0 0),agg:=false,sh:=[.slice] }
theorem ty45_good:TGood Tryz.prog 45 ty45:=TGood.of (by kernel_rfl) (by kernel_rfl) rfl rfl rfl rfl
def ty46:TyI:={und:=.struct [(45,0)],size:=1,bytes:=24,zv:=(.agg #[(.slice none 0 0)]),agg:=true,sh:=[.slice] }
theorem ty46_good:TGood Tryz.prog 46 ty46:=TGood.of (by kernel_rfl) (by kernel_rfl) rfl rfl rfl rfl
def ty47:TyI:={und:=.struct [(45,0)],size:=1,bytes:=24,zv:=(.agg #[(.slice none 0 0)]),agg:=true,sh:=[.slice] }
theorem ty47_good:TGood Tryz.prog 47 ty47:=TGood.of (by kernel_rfl) (by kernel_rfl) rfl rfl rfl rfl
def ty48:TyI:={und:=.struct [(47,0),(4,1)],size:=2,bytes:=32,zv:=(.agg #[(.slice none 0 0),(.bool false)]),agg:=true,sh:=[.slice,.bool] }
theorem ty48_good:TGood Tryz.prog 48 ty48:=TGood.of (by kernel_rfl) (by kernel_rfl) rfl rfl rfl rfl
def ty49:TyI:={und:=.struct [(47,0),(4,1)],size:=2,bytes:=32,zv:=(.agg #[(.slice none 0 0),(.bool false)]),agg:=true,sh:=[.slice,.bool] }
theorem ty49_good:TGood Tryz.prog 49 ty49:=TGood.of (by kernel_rfl) (by kernel_rfl) rfl rfl rfl rfl
def ty50:TyI:={und:=.struct [(49,0),(47,2)],size:=3,bytes:=56,zv:=(.agg #[(.slice none 0 0),(.bool false),(.slice none 0 0)]),agg:=true,sh:=[.slice,.bool,.slice] }
theorem ty50_good:TGood Tryz.prog 50 ty50:=TGood.of (by kernel_rfl) (by kernel_rfl) rfl rfl rfl rfl
def ty51:TyI:={und:=.struct [(49,0),(47,2)],size:=3,bytes:=56,zv:=(.agg #[(.slice none 0 0),(.bool false),(.slice none 0 0)]),agg:=true,sh:=[.slice,.bool,.slice] }
theorem ty51_good:TGood Tryz.prog 51 ty51:=TGood.of (by kernel_rfl) (by kernel_rfl) rfl rfl rfl rfl
def ty57:TyI:={und:=.slice 213,size:=1,bytes:=24,zv:=(.slice none 0 0),agg:=false,sh:=[.slice] }
theorem ty57_good:TGood Tryz.prog 57 ty57:=TGood.of (by kernel_rfl) (by kernel_rfl) rfl rfl rfl rfl
def ty58:TyI:={und:=.slice 111,size:=1,bytes:=24,zv:=(.slice none 0 0),agg:=false,sh:=[.slice] }
theorem ty58_good:TGood Tryz.prog 58 ty58:=TGood.of (by kernel_rfl) (by kernel_rfl) rfl rfl rfl rfl
def ty59:TyI:={und:=.slice 87,size:=1,bytes:=24,zv:=(.slice none 0 0),agg:=false,sh:=[.slice] }
theorem ty59_good:TGood Tryz.prog 59 ty59:=TGood.of (by kernel_rfl) (by kernel_rfl) rfl rfl rfl rfl
def ty60:TyI:={und:=.slice 94,size:=1,bytes:=24,zv:=(.slice none 0 0),agg:=false,sh:=[.slice] }
theorem ty60_good:TGood Tryz.prog 60 ty60:=TGood.of (by kernel_rfl) (by kernel_rfl) rfl rfl rfl rfl
def ty61:TyI:={und:=.tup [59,60],size:=1,bytes:=0,zv:=(.tuple #[(.slice none 0 0),(.slice none 0 0)]),agg:=false,sh:=[.slice] }
theorem ty61_good:TGood Tryz.prog 61 ty61:=TGood.of (by kernel_rfl) (by kernel_rfl) rfl rfl rfl rfl
def ty63:TyI:={und:=.slice 96,size:=1,bytes:=24,zv:=(.slice none 0 0),agg:=false,sh:=[.slice] }
theorem ty63_good:TGood Tryz.prog 63 ty63:=TGood.of (by kernel_rfl) (by kernel_rfl) rfl rfl rfl rfl
def ty64:TyI:={und:=.slice 96,size:=1,bytes:=24,zv:=(.slice none 0 0),agg:=false,sh:=[.slice] }
theorem ty64_good:TGood Tryz.prog 64 ty64:=TGood.of (by kernel_rfl) (by kernel_rfl) rfl rfl rfl rfl
def ty65:TyI:={und:=.slice 119,size:=1,bytes:=24,zv:=(.slice none 0 0),agg:=false,sh:=[.slice] }
theorem ty65_good:TGood Tryz.prog 65 ty65:=TGood.of (by kernel_rfl) (by kernel_rfl) rfl rfl rfl rfl
def ty66:TyI:={und:=.tup [64,65],size:=1,bytes:=0,zv:=(.tuple #[(.slice none 0 0),(.slice none 0 0)]),agg:=false,sh:=[.slice] }
theorem ty66_good:TGood Tryz.prog 66 ty66:=TGood.of (by kernel_rfl) (by kernel_rfl) rfl rfl rfl rfl
def ty69:TyI:={und:=.tup [27,4],size:=1,bytes:=0,zv:=(.tuple #[(.slice none 0 0),(.bool false)]),agg:=false,sh:=[.slice] }
theorem ty69_good:TGood Tryz.prog 69 ty69:=TGood.of (by kernel_rfl) (by kernel_rfl) rfl rfl rfl rfl
def ty73:TyI:={und:=.slice 22,size:=1,bytes:=24,zv:=(.slice none 0 0),agg:=false,sh:=[.slice] }
theorem ty73_good:TGood Tryz.prog 73 ty73:=TGood.of (by kernel_rfl) (by kernel_rfl) rfl rfl rfl rfl
def ty74:TyI:={und:=.slice 179,size:=1,bytes:=24,zv:=(.slice none 0 0),agg:=false,sh:=[.slice] }
theorem ty74_good:TGood Tryz.prog 74 ty74:=TGood.of (by kernel_rfl) (by kernel_rfl) rfl rfl rfl rfl
def ty75:TyI:={und:=.slice 27,size:=1,bytes:=24,zv:=(.slice none 0 0),agg:=false,sh:=[.slice] }
theorem ty75_good:TGood Tryz.prog 75 ty75:=TGood.of (by kernel_rfl) (by kernel_rfl) rfl rfl rfl rfl
def ty76:TyI:={und:=.tup [40,75,4],size:=1,bytes:=0,zv:=(.tuple #[(.slice none 0 0),(.slice none 0 0),(.bool false)]),agg:=false,sh:=[.slice] }
theorem ty76_good:TGood Tryz.prog 76 ty76:=TGood.of (by kernel_rfl) (by kernel_rfl) rfl rfl rfl rfl
def ty78:TyI:={und:=.tup [32,36],size:=1,bytes:=0,zv:=(.tuple #[(.slice none 0 0),(.slice none 0 0)]),agg:=false,sh:=[.slice] }
theorem ty78_good:TGood Tryz.prog 78 ty78:=TGood.of (by kernel_rfl) (by kernel_rfl) rfl rfl rfl rfl
def ty81:TyI:={und:=.tup [59,4],size:=1,bytes:=0,zv:=(.tuple #[(.slice none 0 0),(.bool false)]),agg:=false,sh:=[.slice] }
theorem ty81_good:TGood Tryz.prog 81 ty81:=TGood.of (by kernel_rfl) (by kernel_rfl) rfl rfl rfl rfl
def ty83:TyI:={und:=.tup [60,4],size:=1,bytes:=0,zv:=(.tuple #[(.slice none 0 0),(.bool false)]),agg:=false,sh:=[.slice] }
theorem ty83_good:TGood Tryz.prog 83 ty83:=TGood.of (by kernel_rfl) (by kernel_rfl) rfl rfl rfl rfl
def ty86:TyI:={und:=.struct [(51,0),(3,3),(25,4)],size:=5,bytes:=88,zv:=(.agg #[(.slice none 0 0),(.bool false),(.slice none 0 0),(.int .i64 0),(.slice none 0 0)]),agg:=true,sh:=[.slice,.bool,.slice,.int .i64,.slice] }
theorem ty86_good:TGood Tryz.prog 86 ty86:=TGood.of (by kernel_rfl) (by kernel_rfl) rfl rfl rfl rfl
def ty87:TyI:={und:=.struct [(51,0),(3,3),(25,4)],size:=5,bytes:=88,zv:=(.agg #[(.slice none 0 0),(.bool false),(.slice none 0 0),(.int .i64 0),(.slice none 0 0)]),agg:=true,sh:=[.slice,.bool,.slice,.int .i64,.slice] }
theorem ty87_good:TGood Tryz.prog 87 ty87:=TGood.of (by kernel_rfl) (by kernel_rfl) rfl rfl rfl rfl
def ty88:TyI:={und:=.slice 317,size:=1,bytes:=24,zv:=(.slice none 0 0),agg:=false,sh:=[.slice] }
theorem ty88_good:TGood Tryz.prog 88 ty88:=TGood.of (by kernel_rfl) (by kernel_rfl) rfl rfl rfl rfl
def ty89:TyI:={und:=.struct [(4,0),(88,1)],size:=2,bytes:=32,zv:=(.agg #[(.bool false),(.slice none 0 0)]),agg:=true,sh:=[.bool,.slice] }
theorem ty89_good:TGood Tryz.prog 89 ty89:=TGood.of (by kernel_rfl) (by kernel_rfl) rfl rfl rfl rfl
def ty90:TyI:={und:=.struct [(4,0),(88,1)],size:=2,bytes:=32,zv:=(.agg #[(.bool false),(.slice none 0 0)]),agg:=true,sh:=[.bool,.slice] }
theorem ty90_good:TGood Tryz.prog 90 ty90:=TGood.of (by kernel_rfl) (by kernel_rfl) rfl rfl rfl rfl
def ty91:TyI:={und:=.struct [(90,0),(88,2)],size:=3,bytes:=56,zv:=(.agg #[(.bool false),(.slice none 0 0),(.slice none 0 0)]),agg:=true,sh:=[.bool,.slice,.slice] }
theorem ty91_good:TGood Tryz.prog 91 ty91:=TGood.of (by kernel_rfl) (by kernel_rfl) rfl rfl rfl rfl
def ty92:TyI:={und:=.struct [(90,0),(88,2)],size:=3,bytes:=56,zv:=(.agg #[(.bool false),(.slice none 0 0),(.slice none 0 0)]),agg:=true,sh:=[.bool,.slice,.slice] }
theorem ty92_good:TGood Tryz.prog 92 ty92:=TGood.of (by kernel_rfl) (by kernel_rfl) rfl rfl rfl rfl
def ty93:TyI:={und:=.struct [(92,0),(3,3),(27,4)],size:=5,bytes:=88,zv:=(.agg #[(.bool false),(.slice none 0 0),(.slice none 0 0),(.int .i64 0),(.slice none 0 0)]),agg:=true,sh:=[.bool,.slice,.slice,.int .i64,.slice] }
theorem ty93_good:TGood Tryz.prog 93 ty93:=TGood.of (by kernel_rfl) (by kernel_rfl) rfl rfl rfl rfl
def ty94:TyI:={und:=.struct [(92,0),(3,3),(27,4)],size:=5,bytes:=88,zv:=(.agg #[(.bool false),(.slice none 0 0),(.slice none 0 0),(.int .i64 0),(.slice none 0 0)]),agg:=true,sh:=[.bool,.slice,.slice,.int .i64,.slice] }
theorem ty94_good:TGood Tryz.prog 94 ty94:=TGood.of (by kernel_rfl) (by kernel_rfl) rfl rfl rfl rfl
def ty95:TyI:={und:=.struct [(51,0),(51,3)],size:=6,bytes:=112,zv:=(.agg #[(.slice none 0 0),(.bool false),(.slice none 0 0),(.slice none 0 0),(.bool false),(.slice none 0 0)]),agg:=true,sh:=[.slice,.bool,.slice,.slice,.bool,.slice] }
theorem ty95_good:TGood Tryz.prog 95 ty95:=TGood.of (by kernel_rfl) (by kernel_rfl) rfl rfl rfl rfl
def ty96:TyI:={und:=.struct [(51,0),(51,3)],size:=6,bytes:=112,zv:=(.agg #[(.slice none 0 0),(.bool false),(.slice none 0 0),(.slice none 0 0),(.bool false),(.slice none 0 0)]),agg:=true,sh:=[.slice,.bool,.slice,.slice,.bool,.slice] }
theorem ty96_good:TGood Tryz.prog 96 ty96:=TGood.of (by kernel_rfl) (by kernel_rfl) rfl rfl rfl rfl
def ty97:TyI:={und:=.tup [96,4],size:=1,bytes:=0,zv:=(.tuple #[(.agg #[(.slice none 0 0),(.bool false),(.slice none 0 0),(.slice none 0 0),(.bool false),(.slice none 0 0)]),(.bool false)]),agg:=false,sh:=[.slice] }
theorem ty97_good:TGood Tryz.prog 97 ty97:=TGood.of (by kernel_rfl) (by kernel_rfl) rfl rfl rfl rfl
def ty100:TyI:={und:=.slice 51,size:=1,bytes:=24,zv:=(.slice none 0 0),agg:=false,sh:=[.slice] }
theorem ty100_good:TGood Tryz.prog 100 ty100:=TGood.of (by kernel_rfl) (by kernel_rfl) rfl rfl rfl rfl
def ty101:TyI:={und:=.tup [32,100,4],size:=1,bytes:=0,zv:=(.tuple #[(.slice none 0 0),(.slice none 0 0),(.bool false)]),agg:=false,sh:=[.slice] }
theorem ty101_good:TGood Tryz.prog 101 ty101:=TGood.of (by kernel_rfl) (by kernel_rfl) rfl rfl rfl rfl
def ty108:TyI:={und:=.arr 3 51,size:=9,bytes:=168,zv:=(.agg #[(.slice none 0 0),(.bool false),(.slice none 0 0),(.slice none 0 0),(.bool false),(.slice none 0 0),(.slice none 0 0),(.bool false),(.slice none 0 0)]),agg:=true,sh:=[.slice,.bool,.slice,.slice,.bool,.slice,.slice,.bool,.slice] }
theorem ty108_good:TGood Tryz.prog 108 ty108:=TGood.of (by kernel_rfl) (by kernel_rfl) rfl rfl rfl rfl
def ty110:TyI:={und:=.struct [(9,0),(9,1)],size:=2,bytes:=32,zv:=(.agg #[(.string ⟨#[]⟩),(.string ⟨#[]⟩)]),agg:=true,sh:=[.str,.str] }
theorem ty110_good:TGood Tryz.prog 110 ty110:=TGood.of (by kernel_rfl) (by kernel_rfl) rfl rfl rfl rfl
def ty111:TyI:={und:=.struct [(9,0),(9,1)],size:=2,bytes:=32,zv:=(.agg #[(.string ⟨#[]⟩),(.string ⟨#[]⟩)]),agg:=true,sh:=[.str,.str] }
theorem ty111_good:TGood Tryz.prog 111 ty111:=TGood.of (by kernel_rfl) (by kernel_rfl) rfl rfl rfl rfl
def ty112:TyI:={und:=.arr 3 111,size:=6,bytes:=96,zv:=(.agg #[(.string ⟨#[]⟩),(.string ⟨#[]⟩),(.string ⟨#[]⟩),(.string ⟨#[]⟩),(.string ⟨#[]⟩),(.string ⟨#[]⟩)]),agg:=true,sh:=[.str,.str,.str,.str,.str,.str] }
theorem ty112_good:TGood Tryz.prog 112 ty112:=TGood.of (by kernel_rfl) (by kernel_rfl) rfl rfl rfl rfl
def ty113:TyI:={und:=.struct [(22,0),(111,1)],size:=3,bytes:=56,zv:=(.agg #[(.slice none 0 0),(.string ⟨#[]⟩),(.string ⟨#[]⟩)]),agg:=true,sh:=[.slice,.str,.str] }
theorem ty113_good:TGood Tryz.prog 113 ty113:=TGood.of (by kernel_rfl) (by kernel_rfl) rfl rfl rfl rfl
def ty114:TyI:={und:=.struct [(22,0),(111,1)],size:=3,bytes:=56,zv:=(.agg #[(.slice none 0 0),(.string ⟨#[]⟩),(.string ⟨#[]⟩)]),agg:=true,sh:=[.slice,.str,.str] }
theorem ty114_good:TGood Tryz.prog 114 ty114:=TGood.of (by kernel_rfl) (by kernel_rfl) rfl rfl rfl rfl
def ty115:TyI:={und:=.arr 3 96,size:=18,bytes:=336,zv:=(.agg #[(.slice none 0 0),(.bool false),(.slice none 0 0),(.slice none 0 0),(.bool false),(.slice none 0 0),(.slice none 0 0),(.bool false),(.slice none 0 0),(.slice none 0 0),(.bool false),(.slice none 0 0),(.slice none 0 0),(.bool false),(.slice none 0 0),(.slice none 0 0),(.bool false),(.slice none 0 0)]),agg:=true,sh:=[.slice,.bool,.slice,.slice,.bool,.slice,.slice,.bool,.slice,.slice,.bool,.slice,.slice,.bool,.slice,.slice,.bool,.slice] }
theorem ty115_good:TGood Tryz.prog 115 ty115:=TGood.of (by kernel_rfl) (by kernel_rfl) rfl rfl rfl rfl
def ty116:TyI:={und:=.struct [(115,0),(3,18)],size:=19,bytes:=344,zv:=(.agg #[(.slice none 0 0),(.bool false),(.slice none 0 0),(.slice none 0 0),(.bool false),(.slice none 0 0),(.slice none 0 0),(.bool false),(.slice none 0 0),(.slice none 0 0),(.bool false),(.slice none 0 0),(.slice none 0 0),(.bool false),(.slice none 0 0),(.slice none 0 0),(.bool false),(.slice none 0 0),(.int .i64 0)]),agg:=true,sh:=[.slice,.bool,.slice,.slice,.bool,.slice,.slice,.bool,.slice,.slice,.bool,.slice,.slice,.bool,.slice,.slice,.bool,.slice,.int .i64] }
theorem ty116_good:TGood Tryz.prog 116 ty116:=TGood.of (by kernel_rfl) (by kernel_rfl) rfl rfl rfl rfl
def ty117:TyI:={und:=.struct [(115,0),(3,18)],size:=19,bytes:=344,zv:=(.agg #[(.slice none 0 0),(.bool false),(.slice none 0 0),(.slice none 0 0),(.bool false),(.slice none 0 0),(.slice none 0 0),(.bool false),(.slice none 0 0),(.slice none 0 0),(.bool false),(.slice none 0 0),(.slice none 0 0),(.bool false),(.slice none 0 0),(.slice none 0 0),(.bool false),(.slice none 0 0),(.int .i64 0)]),agg:=true,sh:=[.slice,.bool,.slice,.slice,.bool,.slice,.slice,.bool,.slice,.slice,.bool,.slice,.slice,.bool,.slice,.slice,.bool,.slice,.int .i64] }
theorem ty117_good:TGood Tryz.prog 117 ty117:=TGood.of (by kernel_rfl) (by kernel_rfl) rfl rfl rfl rfl
def ty118:TyI:={und:=.struct [(92,0),(92,3)],size:=6,bytes:=112,zv:=(.agg #[(.bool false),(.slice none 0 0),(.slice none 0 0),(.bool false),(.slice none 0 0),(.slice none 0 0)]),agg:=true,sh:=[.bool,.slice,.slice,.bool,.slice,.slice] }
theorem ty118_good:TGood Tryz.prog 118 ty118:=TGood.of (by kernel_rfl) (by kernel_rfl) rfl rfl rfl rfl
def ty119:TyI:={und:=.struct [(92,0),(92,3)],size:=6,bytes:=112,zv:=(.agg #[(.bool false),(.slice none 0 0),(.slice none 0 0),(.bool false),(.slice none 0 0),(.slice none 0 0)]),agg:=true,sh:=[.bool,.slice,.slice,.bool,.slice,.slice] }
theorem ty119_good:TGood Tryz.prog 119 ty119:=TGood.of (by kernel_rfl) (by kernel_rfl) rfl rfl rfl rfl
def ty120:TyI:={und:=.arr 3 119,size:=18,bytes:=336,zv:=(.agg #[(.bool false),(.slice none 0 0),(.slice none 0 0),(.bool false),(.slice none 0 0),(.slice none 0 0),(.bool false),(.slice none 0 0),(.slice none 0 0),(.bool false),(.slice none 0 0),(.slice none 0 0),(.bool false),(.slice none 0 0),(.slice none 0 0),(.bool false),(.slice none 0 0),(.slice none 0 0)]),agg:=true,sh:=[.bool,.slice,.slice,.bool,.slice,.slice,.bool,.slice,.slice,.bool,.slice,.slice,.bool,.slice,.slice,.bool,.slice,.slice] }
theorem ty120_good:TGood Tryz.prog 120 ty120:=TGood.of (by kernel_rfl) (by kernel_rfl) rfl rfl rfl rfl
def ty121:TyI:={und:=.struct [(120,0),(3,18)],size:=19,bytes:=344,zv:=(.agg #[(.bool false),(.slice none 0 0),(.slice none 0 0),(.bool false),(.slice none 0 0),(.slice none 0 0),(.bool false),(.slice none 0 0),(.slice none 0 0),(.bool false),(.slice none 0 0),(.slice none 0 0),(.bool false),(.slice none 0 0),(.slice none 0 0),(.bool false),(.slice none 0 0),(.slice none 0 0),(.int .i64 0)]),agg:=true,sh:=[.bool,.slice,.slice,.bool,.slice,.slice,.bool,.slice,.slice,.bool,.slice,.slice,.bool,.slice,.slice,.bool,.slice,.slice,.int .i64] }
theorem ty121_good:TGood Tryz.prog 121 ty121:=TGood.of (by kernel_rfl) (by kernel_rfl) rfl rfl rfl rfl
def ty122:TyI:={und:=.struct [(120,0),(3,18)],size:=19,bytes:=344,zv:=(.agg #[(.bool false),(.slice none 0 0),(.slice none 0 0),(.bool false),(.slice none 0 0),(.slice none 0 0),(.bool false),(.slice none 0 0),(.slice none 0 0),(.bool false),(.slice none 0 0),(.slice none 0 0),(.bool false),(.slice none 0 0),(.slice none 0 0),(.bool false),(.slice none 0 0),(.slice none 0 0),(.int .i64 0)]),agg:=true,sh:=[.bool,.slice,.slice,.bool,.slice,.slice,.bool,.slice,.slice,.bool,.slice,.slice,.bool,.slice,.slice,.bool,.slice,.slice,.int .i64] }
theorem ty122_good:TGood Tryz.prog 122 ty122:=TGood.of (by kernel_rfl) (by kernel_rfl) rfl rfl rfl rfl
def ty123:TyI:={und:=.tup [117,122,4],size:=1,bytes:=0,zv:=(.tuple #[(.agg #[(.slice none 0 0),(.bool false),(.slice none 0 0),(.slice none 0 0),(.bool false),(.slice none 0 0),(.slice none 0 0),(.bool false),(.slice none 0 0),(.slice none 0 0),(.bool false),(.slice none 0 0),(.slice none 0 0),(.bool false),(.slice none 0 0),(.slice none 0 0),(.bool false),(.slice none 0 0),(.int .i64 0)]),(.agg #[(.bool false),(.slice none 0 0),(.slice none 0 0),(.bool false),(.slice none 0 0),(.slice none 0 0),(.bool false),(.slice none 0 0),(.slice none 0 0),(.bool false),(.slice none 0 0),(.slice none 0 0),(.bool false),(.slice none 0 0),(.slice none 0 0),(.bool false),(.slice none 0 0),(.slice none 0 0),(.int .i64 0)]),(.bool false)]),agg:=false,sh:=[.slice] }
theorem ty123_good:TGood Tryz.prog 123 ty123:=TGood.of (by kernel_rfl) (by kernel_rfl) rfl rfl rfl rfl
def ty125:TyI:={und:=.struct [(25,0),(96,1)],size:=7,bytes:=136,zv:=(.agg #[(.slice none 0 0),(.slice none 0 0),(.bool false),(.slice none 0 0),(.slice none 0 0),(.bool false),(.slice none 0 0)]),agg:=true,sh:=[.slice,.slice,.bool,.slice,.slice,.bool,.slice] }
theorem ty125_good:TGood Tryz.prog 125 ty125:=TGood.of (by kernel_rfl) (by kernel_rfl) rfl rfl rfl rfl
def ty126:TyI:={und:=.struct [(25,0),(96,1)],size:=7,bytes:=136,zv:=(.agg #[(.slice none 0 0),(.slice none 0 0),(.bool false),(.slice none 0 0),(.slice none 0 0),(.bool false),(.slice none 0 0)]),agg:=true,sh:=[.slice,.slice,.bool,.slice,.slice,.bool,.slice] }
theorem ty126_good:TGood Tryz.prog 126 ty126:=TGood.of (by kernel_rfl) (by kernel_rfl) rfl rfl rfl rfl
def ty127:TyI:={und:=.struct [(27,0),(119,1)],size:=7,bytes:=136,zv:=(.agg #[(.slice none 0 0),(.bool false),(.slice none 0 0),(.slice none 0 0),(.bool false),(.slice none 0 0),(.slice none 0 0)]),agg:=true,sh:=[.slice,.bool,.slice,.slice,.bool,.slice,.slice] }
theorem ty127_good:TGood Tryz.prog 127 ty127:=TGood.of (by kernel_rfl) (by kernel_rfl) rfl rfl rfl rfl
def ty128:TyI:={und:=.struct [(27,0),(119,1)],size:=7,bytes:=136,zv:=(.agg #[(.slice none 0 0),(.bool false),(.slice none 0 0),(.slice none 0 0),(.bool false),(.slice none 0 0),(.slice none 0 0)]),agg:=true,sh:=[.slice,.bool,.slice,.slice,.bool,.slice,.slice] }
theorem ty128_good:TGood Tryz.prog 128 ty128:=TGood.of (by kernel_rfl) (by kernel_rfl) rfl rfl rfl rfl
def ty129:TyI:={und:=.tup [126,128,4],size:=1,bytes:=0,zv:=(.tuple #[(.agg #[(.slice none 0 0),(.slice none 0 0),(.bool false),(.slice none 0 0),(.slice none 0 0),(.bool false),(.slice none 0 0)]),(.agg #[(.slice none 0 0),(.bool false),(.slice none 0 0),(.slice none 0 0),(.bool false),(.slice none 0 0),(.slice none 0 0)]),(.bool false)]),agg:=false,sh:=[.slice] }
theorem ty129_good:TGood Tryz.prog 129 ty129:=TGood.of (by kernel_rfl) (by kernel_rfl) rfl rfl rfl rfl
def ty131:TyI:={und:=.tup [126,4],size:=1,bytes:=0,zv:=(.tuple #[(.agg #[(.slice none 0 0),(.slice none 0 0),(.bool false),(.slice none 0 0),(.slice none 0 0),(.bool false),(.slice none 0 0)]),(.bool false)]),agg:=false,sh:=[.slice] }
theorem ty131_good:TGood Tryz.prog 131 ty131:=TGood.of (by kernel_rfl) (by kernel_rfl) rfl rfl rfl rfl
def ty133:TyI:={und:=.tup [128,4],size:=1,bytes:=0,zv:=(.tuple #[(.agg #[(.slice none 0 0),(.bool false),(.slice none 0 0),(.slice none 0 0),(.bool false),(.slice none 0 0),(.slice none 0 0)]),(.bool false)]),agg:=false,sh:=[.slice] }
theorem ty133_good:TGood Tryz.prog 133 ty133:=TGood.of (by kernel_rfl) (by kernel_rfl) rfl rfl rfl rfl
def ty137:TyI:={und:=.tup [51,92,4],size:=1,bytes:=0,zv:=(.tuple #[(.agg #[(.slice none 0 0),(.bool false),(.slice none 0 0)]),(.agg #[(.bool false),(.slice none 0 0),(.slice none 0 0)]),(.bool false)]),agg:=false,sh:=[.slice] }
theorem ty137_good:TGood Tryz.prog 137 ty137:=TGood.of (by kernel_rfl) (by kernel_rfl) rfl rfl rfl rfl
def ty158:TyI:={und:=.arr 3 126,size:=21,bytes:=408,zv:=(.agg #[(.slice none 0 0),(.slice none 0 0),(.bool false),(.slice none 0 0),(.slice none 0 0),(.bool false),(.slice none 0 0),(.slice none 0 0),(.slice none 0 0),(.bool false),(.slice none 0 0),(.slice none 0 0),(.bool false),(.slice none 0 0),(.slice none 0 0),(.slice none 0 0),(.bool false),(.slice none 0 0),(.slice none 0 0),(.bool false),(.slice none 0 0)]),agg:=true,sh:=[.slice,.slice,.bool,.slice,.slice,.bool,.slice,.slice,.slice,.bool,.slice,.slice,.bool,.slice,.slice,.slice,.bool,.slice,.slice,.bool,.slice] }
theorem ty158_good:TGood Tryz.prog 158 ty158:=TGood.of (by kernel_rfl) (by kernel_rfl) rfl rfl rfl rfl
def ty160:TyI:={und:=.arr 3 128,size:=21,bytes:=408,zv:=(.agg #[(.slice none 0 0),(.bool false),(.slice none 0 0),(.slice none 0 0),(.bool false),(.slice none 0 0),(.slice none 0 0),(.slice none 0 0),(.bool false),(.slice none 0 0),(.slice none 0 0),(.bool false),(.slice none 0 0),(.slice none 0 0),(.slice none 0 0),(.bool false),(.slice none 0 0),(.slice none 0 0),(.bool false),(.slice none 0 0),(.slice none 0 0)]),agg:=true,sh:=[.slice,.bool,.slice,.slice,.bool,.slice,.slice,.slice,.bool,.slice,.slice,.bool,.slice,.slice,.slice,.bool,.slice,.slice,.bool,.slice,.slice] }
theorem ty160_good:TGood Tryz.prog 160 ty160:=TGood.of (by kernel_rfl) (by kernel_rfl) rfl rfl rfl rfl
def ty169:TyI:={und:=.arr 3 25,size:=3,bytes:=72,zv:=(.agg #[(.slice none 0 0),(.slice none 0 0),(.slice none 0 0)]),agg:=true,sh:=[.slice,.slice,.slice] }
theorem ty169_good:TGood Tryz.prog 169 ty169:=TGood.of (by kernel_rfl) (by kernel_rfl) rfl rfl rfl rfl
def ty174:TyI:={und:=.int .i64,size:=1,bytes:=8,zv:=(.int .i64 0),agg:=false,sh:=[.int .i64] }
theorem ty174_good:TGood Tryz.prog 174 ty174:=TGood.of (by kernel_rfl) (by kernel_rfl) rfl rfl rfl rfl
def ty175:TyI:={und:=.tup [25,174],size:=1,bytes:=0,zv:=(.tuple #[(.agg #[(.slice none 0 0)]),(.int .i64 0)]),agg:=false,sh:=[.slice] }
theorem ty175_good:TGood Tryz.prog 175 ty175:=TGood.of (by kernel_rfl) (by kernel_rfl) rfl rfl rfl rfl
def ty177:TyI:={und:=.tup [32,174],size:=1,bytes:=0,zv:=(.tuple #[(.slice none 0 0),(.int .i64 0)]),agg:=false,sh:=[.slice] }
theorem ty177_good:TGood Tryz.prog 177 ty177:=TGood.of (by kernel_rfl) (by kernel_rfl) rfl rfl rfl rfl
def ty179:TyI:={und:=.slice 9,size:=1,bytes:=24,zv:=(.slice none 0 0),agg:=false,sh:=[.slice] }
theorem ty179_good:TGood Tryz.prog 179 ty179:=TGood.of (by kernel_rfl) (by kernel_rfl) rfl rfl rfl rfl
def ty187:TyI:={und:=.struct [(183,0),(51,3)],size:=6,bytes:=64,zv:=(.agg #[(.int .u8 0),(.int .u8 0),(.int .u8 0),(.slice none 0 0),(.bool false),(.slice none 0 0)]),agg:=true,sh:=[.int .u8,.int .u8,.int .u8,.slice,.bool,.slice] }
theorem ty187_good:TGood Tryz.prog 187 ty187:=TGood.of (by kernel_rfl) (by kernel_rfl) rfl rfl rfl rfl
def ty188:TyI:={und:=.struct [(183,0),(51,3)],size:=6,bytes:=64,zv:=(.agg #[(.int .u8 0),(.int .u8 0),(.int .u8 0),(.slice none 0 0),(.bool false),(.slice none 0 0)]),agg:=true,sh:=[.int .u8,.int .u8,.int .u8,.slice,.bool,.slice] }
theorem ty188_good:TGood Tryz.prog 188 ty188:=TGood.of (by kernel_rfl) (by kernel_rfl) rfl rfl rfl rfl
def ty189:TyI:={und:=.tup [3,3],size:=1,bytes:=0,zv:=(.tuple #[(.int .i64 0),(.int .i64 0)]),agg:=false,sh:=[.slice] }
theorem ty189_good:TGood Tryz.prog 189 ty189:=TGood.of (by kernel_rfl) (by kernel_rfl) rfl rfl rfl rfl
def ty191:TyI:={und:=.tup [51,4],size:=1,bytes:=0,zv:=(.tuple #[(.agg #[(.slice none 0 0),(.bool false),(.slice none 0 0)]),(.bool false)]),agg:=false,sh:=[.slice] }
theorem ty191_good:TGood Tryz.prog 191 ty191:=TGood.of (by kernel_rfl) (by kernel_rfl) rfl rfl rfl rfl
def ty193:TyI:={und:=.slice 92,size:=1,bytes:=24,zv:=(.slice none 0 0),agg:=false,sh:=[.slice] }
theorem ty193_good:TGood Tryz.prog 193 ty193:=TGood.of (by kernel_rfl) (by kernel_rfl) rfl rfl rfl rfl
def ty194:TyI:={und:=.struct [(183,0),(92,3)],size:=6,bytes:=64,zv:=(.agg #[(.int .u8 0),(.int .u8 0),(.int .u8 0),(.bool false),(.slice none 0 0),(.slice none 0 0)]),agg:=true,sh:=[.int .u8,.int .u8,.int .u8,.bool,.slice,.slice] }
theorem ty194_good:TGood Tryz.prog 194 ty194:=TGood.of (by kernel_rfl) (by kernel_rfl) rfl rfl rfl rfl
def ty195:TyI:={und:=.struct [(183,0),(92,3)],size:=6,bytes:=64,zv:=(.agg #[(.int .u8 0),(.int .u8 0),(.int .u8 0),(.bool false),(.slice none 0 0),(.slice none 0 0)]),agg:=true,sh:=[.int .u8,.int .u8,.int .u8,.bool,.slice,.slice] }
theorem ty195_good:TGood Tryz.prog 195 ty195:=TGood.of (by kernel_rfl) (by kernel_rfl) rfl rfl rfl rfl
def ty212:TyI:={und:=.struct [(9,0),(3,1),(22,2)],size:=3,bytes:=48,zv:=(.agg #[(.string ⟨#[]⟩),(.int .i64 0),(.slice none 0 0)]),agg:=true,sh:=[.str,.int .i64,.slice] }
theorem ty212_good:TGood Tryz.prog 212 ty212:=TGood.of (by kernel_rfl) (by kernel_rfl) rfl rfl rfl rfl
def ty213:TyI:={und:=.struct [(9,0),(3,1),(22,2)],size:=3,bytes:=48,zv:=(.agg #[(.string ⟨#[]⟩),(.int .i64 0),(.slice none 0 0)]),agg:=true,sh:=[.str,.int .i64,.slice] }
theorem ty213_good:TGood Tryz.prog 213 ty213:=TGood.of (by kernel_rfl) (by kernel_rfl) rfl rfl rfl rfl
def ty214:TyI:={und:=.tup [96,119,4],size:=1,bytes:=0,zv:=(.tuple #[(.agg #[(.slice none 0 0),(.bool false),(.slice none 0 0),(.slice none 0 0),(.bool false),(.slice none 0 0)]),(.agg #[(.bool false),(.slice none 0 0),(.slice none 0 0),(.bool false),(.slice none 0 0),(.slice none 0 0)]),(.bool false)]),agg:=false,sh:=[.slice] }
theorem ty214_good:TGood Tryz.prog 214 ty214:=TGood.of (by kernel_rfl) (by kernel_rfl) rfl rfl rfl rfl
def ty225:TyI:={und:=.tup [36,193,4],size:=1,bytes:=0,zv:=(.tuple #[(.slice none 0 0),(.slice none 0 0),(.bool false)]),agg:=false,sh:=[.slice] }
theorem ty225_good:TGood Tryz.prog 225 ty225:=TGood.of (by kernel_rfl) (by kernel_rfl) rfl rfl rfl rfl
def ty232:TyI:={und:=.tup [4,4],size:=1,bytes:=0,zv:=(.tuple #[(.bool false),(.bool false)]),agg:=false,sh:=[.slice] }
theorem ty232_good:TGood Tryz.prog 232 ty232:=TGood.of (by kernel_rfl) (by kernel_rfl) rfl rfl rfl rfl
def ty244:TyI:={und:=.tup [92,4],size:=1,bytes:=0,zv:=(.tuple #[(.agg #[(.bool false),(.slice none 0 0),(.slice none 0 0)]),(.bool false)]),agg:=false,sh:=[.slice] }
theorem ty244_good:TGood Tryz.prog 244 ty244:=TGood.of (by kernel_rfl) (by kernel_rfl) rfl rfl rfl rfl
def ty246:TyI:={und:=.tup [51,174],size:=1,bytes:=0,zv:=(.tuple #[(.agg #[(.slice none 0 0),(.bool false),(.slice none 0 0)]),(.int .i64 0)]),agg:=false,sh:=[.slice] }
theorem ty246_good:TGood Tryz.prog 246 ty246:=TGood.of (by kernel_rfl) (by kernel_rfl) rfl rfl rfl rfl
def ty265:TyI:={und:=.arr 2 3,size:=2,bytes:=16,zv:=(.agg #[(.int .i64 0),(.int .i64 0)]),agg:=true,sh:=[.int .i64,.int .i64] }
theorem ty265_good:TGood Tryz.prog 265 ty265:=TGood.of (by kernel_rfl) (by kernel_rfl) rfl rfl rfl rfl
def ty269:TyI:={und:=.int .u64,size:=1,bytes:=8,zv:=(.int .u64 0),agg:=false,sh:=[.int .u64] }
theorem ty269_good:TGood Tryz.prog 269 ty269:=TGood.of (by kernel_rfl) (by kernel_rfl) rfl rfl rfl rfl
def ty271:TyI:={und:=.map 183 51,size:=1,bytes:=8,zv:=(.map none),agg:=false,sh:=[.map] }
theorem ty271_good:TGood Tryz.prog 271 ty271:=TGood.of (by kernel_rfl) (by kernel_rfl) rfl rfl rfl rfl
def ty272:TyI:={und:=.map 183 51,size:=1,bytes:=8,zv:=(.map none),agg:=false,sh:=[.map] }
theorem ty272_good:TGood Tryz.prog 272 ty272:=TGood.of (by kernel_rfl) (by kernel_rfl) rfl rfl rfl rfl
def ty276:TyI:={und:=.tup [183,4],size:=1,bytes:=0,zv:=(.tuple #[(.agg #[(.int .u8 0),(.int .u8 0),(.int .u8 0)]),(.bool false)]),agg:=false,sh:=[.slice] }
theorem ty276_good:TGood Tryz.prog 276 ty276:=TGood.of (by kernel_rfl) (by kernel_rfl) rfl rfl rfl rfl
def ty280:TyI:={und:=.tup [119,174],size:=1,bytes:=0,zv:=(.tuple #[(.agg #[(.bool false),(.slice none 0 0),(.slice none 0 0),(.bool false),(.slice none 0 0),(.slice none 0 0)]),(.int .i64 0)]),agg:=false,sh:=[.slice] }
theorem ty280_good:TGood Tryz.prog 280 ty280:=TGood.of (by kernel_rfl) (by kernel_rfl) rfl rfl rfl rfl
def ty282:TyI:={und:=.tup [96,174],size:=1,bytes:=0,zv:=(.tuple #[(.agg #[(.slice none 0 0),(.bool false),(.slice none 0 0),(.slice none 0 0),(.bool false),(.slice none 0 0)]),(.int .i64 0)]),agg:=false,sh:=[.slice] }
theorem ty282_good:TGood Tryz.prog 282 ty282:=TGood.of (by kernel_rfl) (by kernel_rfl) rfl rfl rfl rfl
def ty299:TyI:={und:=.tup [90,4],size:=1,bytes:=0,zv:=(.tuple #[(.agg #[(.bool false),(.slice none 0 0)]),(.bool false)]),agg:=false,sh:=[.slice] }
theorem ty299_good:TGood Tryz.prog 299 ty299:=TGood.of (by kernel_rfl) (by kernel_rfl) rfl rfl rfl rfl
def ty301:TyI:={und:=.tup [88,4],size:=1,bytes:=0,zv:=(.tuple #[(.slice none 0 0),(.bool false)]),agg:=false,sh:=[.slice] }
theorem ty301_good:TGood Tryz.prog 301 ty301:=TGood.of (by kernel_rfl) (by kernel_rfl) rfl rfl rfl rfl
def ty304:TyI:={und:=.tup [9,9,4],size:=1,bytes:=0,zv:=(.tuple #[(.string ⟨#[]⟩),(.string ⟨#[]⟩),(.bool false)]),agg:=false,sh:=[.slice] }
theorem ty304_good:TGood Tryz.prog 304 ty304:=TGood.of (by kernel_rfl) (by kernel_rfl) rfl rfl rfl rfl
def ty306:TyI:={und:=.tup [49,174],size:=1,bytes:=0,zv:=(.tuple #[(.agg #[(.slice none 0 0),(.bool false)]),(.int .i64 0)]),agg:=false,sh:=[.slice] }
theorem ty306_good:TGood Tryz.prog 306 ty306:=TGood.of (by kernel_rfl) (by kernel_rfl) rfl rfl rfl rfl
def ty308:TyI:={und:=.tup [47,174],size:=1,bytes:=0,zv:=(.tuple #[(.agg #[(.slice none 0 0)]),(.int .i64 0)]),agg:=false,sh:=[.slice] }
theorem ty308_good:TGood Tryz.prog 308 ty308:=TGood.of (by kernel_rfl) (by kernel_rfl) rfl rfl rfl rfl
def ty317:TyI:={und:=.int .u32,size:=1,bytes:=4,zv:=(.int .u32 0),agg:=false,sh:=[.int .u32] }
theorem ty317_good:TGood Tryz.prog 317 ty317:=TGood.of (by kernel_rfl) (by kernel_rfl) rfl rfl rfl rfl
def ty318:TyI:={und:=.tup [47,47,4],size:=1,bytes:=0,zv:=(.tuple #[(.agg #[(.slice none 0 0)]),(.agg #[(.slice none 0 0)]),(.bool false)]),agg:=false,sh:=[.slice] }
theorem ty318_good:TGood Tryz.prog 318 ty318:=TGood.of (by kernel_rfl) (by kernel_rfl) rfl rfl rfl rfl
def ty320:TyI:={und:=.tup [47,4],size:=1,bytes:=0,zv:=(.tuple #[(.agg #[(.slice none 0 0)]),(.bool false)]),agg:=false,sh:=[.slice] }
theorem ty320_good:TGood Tryz.prog 320 ty320:=TGood.of (by kernel_rfl) (by kernel_rfl) rfl rfl rfl rfl
def ty322:TyI:={und:=.int .u64,size:=1,bytes:=8,zv:=(.int .u64 0),agg:=false,sh:=[.int .u64] }
theorem ty322_good:TGood Tryz.prog 322 ty322:=TGood.of (by kernel_rfl) (by kernel_rfl) rfl rfl rfl rfl
def ty328:TyI:={und:=.slice 5,size:=1,bytes:=24,zv:=(.slice none 0 0),agg:=false,sh:=[.slice] }
theorem ty328_good:TGood Tryz.prog 328 ty328:=TGood.of (by kernel_rfl) (by kernel_rfl) rfl rfl rfl rfl
def ty335:TyI:={und:=.slice 23,size:=1,bytes:=24,zv:=(.slice none 0 0),agg:=false,sh:=[.slice] }
theorem ty335_good:TGood Tryz.prog 335 ty335:=TGood.of (by kernel_rfl) (by kernel_rfl) rfl rfl rfl rfl
def ty342:TyI:={und:=.tup [88,88],size:=1,bytes:=0,zv:=(.tuple #[(.slice none 0 0),(.slice none 0 0)]),agg:=false,sh:=[.slice] }
theorem ty342_good:TGood Tryz.prog 342 ty342:=TGood.of (by kernel_rfl) (by kernel_rfl) rfl rfl rfl rfl
def ty350:TyI:={und:=.slice 3,size:=1,bytes:=24,zv:=(.slice none 0 0),agg:=false,sh:=[.slice] }
theorem ty350_good:TGood Tryz.prog 350 ty350:=TGood.of (by kernel_rfl) (by kernel_rfl) rfl rfl rfl rfl
def ty363:TyI:={und:=.int .i64,size:=1,bytes:=8,zv:=(.int .i64 0),agg:=false,sh:=[.int .i64] }
theorem ty363_good:TGood Tryz.prog 363 ty363:=TGood.of (by kernel_rfl) (by kernel_rfl) rfl rfl rfl rfl
def ty364:TyI:={und:=.tup [3,363],size:=1,bytes:=0,zv:=(.tuple #[(.int .i64 0),(.int .i64 0)]),agg:=false,sh:=[.slice] }
theorem ty364_good:TGood Tryz.prog 364 ty364:=TGood.of (by kernel_rfl) (by kernel_rfl) rfl rfl rfl rfl
def ty368:TyI:={und:=.tup [3,4],size:=1,bytes:=0,zv:=(.tuple #[(.int .i64 0),(.bool false)]),agg:=false,sh:=[.slice] }
theorem ty368_good:TGood Tryz.prog 368 ty368:=TGood.of (by kernel_rfl) (by kernel_rfl) rfl rfl rfl rfl
def ty373:TyI:={und:=.int .u64,size:=1,bytes:=8,zv:=(.int .u64 0),agg:=false,sh:=[.int .u64] }
theorem ty373_good:TGood Tryz.prog 373 ty373:=TGood.of (by kernel_rfl) (by kernel_rfl) rfl rfl rfl rfl
def ty376:TyI:={und:=.ptr,size:=1,bytes:=8,zv:=(.pointer none),agg:=false,sh:=[.ptr] }
theorem ty376_good:TGood Tryz.prog 376 ty376:=TGood.of (by kernel_rfl) (by kernel_rfl) rfl rfl rfl rfl
def ty378:TyI:={und:=.tup [317,317],size:=1,bytes:=0,zv:=(.tuple #[(.int .u32 0),(.int .u32 0)]),agg:=false,sh:=[.slice] }
theorem ty378_good:TGood Tryz.prog 378 ty378:=TGood.of (by kernel_rfl) (by kernel_rfl) rfl rfl rfl rfl
def ty380:TyI:={und:=.ptr,size:=1,bytes:=8,zv:=(.pointer none),agg:=false,sh:=[.ptr] }
theorem ty380_good:TGood Tryz.prog 380 ty380:=TGood.of (by kernel_rfl) (by kernel_rfl) rfl rfl rfl rfl
def ty382:TyI:={und:=.struct [(17,0),(17,1),(17,2),(9,3)],size:=4,bytes:=40,zv:=(.agg #[(.pointer none),(.pointer none),(.pointer none),(.string ⟨#[]⟩)]),agg:=true,sh:=[.ptr,.ptr,.ptr,.str] }
theorem ty382_good:TGood Tryz.prog 382 ty382:=TGood.of (by kernel_rfl) (by kernel_rfl) rfl rfl rfl rfl
def ty384:TyI:={und:=.arr 0 16,size:=0,bytes:=0,zv:=(.agg #[]),agg:=true,sh:=[] }
theorem ty384_good:TGood Tryz.prog 384 ty384:=TGood.of (by kernel_rfl) (by kernel_rfl) rfl rfl rfl rfl
def ty385:TyI:={und:=.struct [(384,0)],size:=0,bytes:=0,zv:=(.agg #[]),agg:=true,sh:=[] }
theorem ty385_good:TGood Tryz.prog 385 ty385:=TGood.of (by kernel_rfl) (by kernel_rfl) rfl rfl rfl rfl
def ty390:TyI:={und:=.ptr,size:=1,bytes:=8,zv:=(.pointer none),agg:=false,sh:=[.ptr] }
theorem ty390_good:TGood Tryz.prog 390 ty390:=TGood.of (by kernel_rfl) (by kernel_rfl) rfl rfl rfl rfl
def ty162:TyI:={und:=.arr 3 3,size:=3,bytes:=24,zv:=(.agg #[(.int .i64 0),(.int .i64 0),(.int .i64 0)]),agg:=true,sh:=[.int .i64,.int .i64,.int .i64],eq:=true }
theorem ty162_good:TGood Tryz.prog 162 ty162:=TGood.ofEq (by kernel_rfl) (by kernel_rfl) rfl rfl rfl (eqOK_mono (by kernel_rfl) (by kernel_rfl) ty3_good rfl rfl (by kernel_rfl))
def ty182:TyI:={und:=.arr 3 5,size:=3,bytes:=3,zv:=(.agg #[(.int .u8 0),(.int .u8 0),(.int .u8 0)]),agg:=true,sh:=[.int .u8,.int .u8,.int .u8],eq:=true }
theorem ty182_good:TGood Tryz.prog 182 ty182:=TGood.ofEq (by kernel_rfl) (by kernel_rfl) rfl rfl rfl (eqOK_mono (by kernel_rfl) (by kernel_rfl) ty5_good rfl rfl (by kernel_rfl))
def ty183:TyI:={und:=.arr 3 5,size:=3,bytes:=3,zv:=(.agg #[(.int .u8 0),(.int .u8 0),(.int .u8 0)]),agg:=true,sh:=[.int .u8,.int .u8,.int .u8],eq:=true }
theorem ty183_good:TGood Tryz.prog 183 ty183:=TGood.ofEq (by kernel_rfl) (by kernel_rfl) rfl rfl rfl (eqOK_mono (by kernel_rfl) (by kernel_rfl) ty5_good rfl rfl (by kernel_rfl))
def ty184:TyI:={und:=.struct [(183,0),(9,3)],size:=4,bytes:=24,zv:=(.agg #[(.int .u8 0),(.int .u8 0),(.int .u8 0),(.string ⟨#[]⟩)]),agg:=true,sh:=[.int .u8,.int .u8,.int .u8,.str],eq:=true }
theorem ty184_good:TGood Tryz.prog 184 ty184:=TGood.ofEq (by kernel_rfl) (by kernel_rfl) rfl rfl rfl (eqOK_term (by kernel_rfl) (by kernel_rfl) (by kernel_rfl) (by kernel_rfl) (by kernel_rfl) ty5_good rfl rfl ty183_good rfl rfl (by kernel_rfl) ty9_good rfl rfl (by kernel_rfl))
def ty185:TyI:={und:=.struct [(183,0),(9,3)],size:=4,bytes:=24,zv:=(.agg #[(.int .u8 0),(.int .u8 0),(.int .u8 0),(.string ⟨#[]⟩)]),agg:=true,sh:=[.int .u8,.int .u8,.int .u8,.str],eq:=true }
theorem ty185_good:TGood Tryz.prog 185 ty185:=TGood.ofEq (by kernel_rfl) (by kernel_rfl) rfl rfl rfl (eqOK_term (by kernel_rfl) (by kernel_rfl) (by kernel_rfl) (by kernel_rfl) (by kernel_rfl) ty5_good rfl rfl ty183_good rfl rfl (by kernel_rfl) ty9_good rfl rfl (by kernel_rfl))
def tt:List (Nat×TyI):=[(0,ty0),(2,ty2),(3,ty3),(4,ty4),(5,ty5),(9,ty9),(12,ty12),(13,ty13),(15,ty15),(16,ty16),(17,ty17),(18,ty18),(19,ty19),(21,ty21),(22,ty22),(23,ty23),(24,ty24),(25,ty25),(26,ty26),(27,ty27),(28,ty28),(31,ty31),(32,ty32),(33,ty33),(35,ty35),(36,ty36),(37,ty37),(40,ty40),(42,ty42),(45,ty45),(46,ty46),(47,ty47),(48,ty48),(49,ty49),(50,ty50),(51,ty51),(57,ty57),(58,ty58),(59,ty59),(60,ty60),(61,ty61),(63,ty63),(64,ty64),(65,ty65),(66,ty66),(69,ty69),(73,ty73),(74,ty74),(75,ty75),(76,ty76),(78,ty78),(81,ty81),(83,ty83),(86,ty86),(87,ty87),(88,ty88),(89,ty89),(90,ty90),(91,ty91),(92,ty92),(93,ty93),(94,ty94),(95,ty95),(96,ty96),(97,ty97),(100,ty100),(101,ty101),(108,ty108),(110,ty110),(111,ty111),(112,ty112),(113,ty113),(114,ty114),(115,ty115),(116,ty116),(117,ty117),(118,ty118),(119,ty119),(120,ty120),(121,ty121),(122,ty122),(123,ty123),(125,ty125),(126,ty126),(127,ty127),(128,ty128),(129,ty129),(131,ty131),(133,ty133),(137,ty137),(158,ty158),(160,ty160),(162,ty162),(169,ty169),(174,ty174),(175,ty175),(177,ty177),(179,ty179),(182,ty182),(183,ty183),(184,ty184),(185,ty185),(187,ty187),(188,ty188),(189,ty189),(191,ty191),(193,ty193),(194,ty194),(195,ty195),(212,ty212),(213,ty213),(214,ty214),(225,ty225),(232,ty232),(244,ty244),(246,ty246),(265,ty265),(269,ty269),(271,ty271),(272,ty272),(276,ty276),(280,ty280),(282,ty282),(299,ty299),(301,ty301),(304,ty304),(306,ty306),(308,ty308),(317,ty317),(318,ty318),(320,ty320),(322,ty322),(328,ty328),(335,ty335),(342,ty342),(350,ty350),(363,ty363),(364,ty364),(368,ty368),(373,ty373),(376,ty376),(378,ty378),(380,ty380),(382,ty382),(384,ty384),(385,ty385),(390,ty390)]
theorem tt_ok:TabOK Tryz.prog tt:=⟨ty0_good,⟨ty2_good,⟨ty3_good,⟨ty4_good,⟨ty5_good,⟨ty9_good,⟨ty12_good,⟨ty13_good,⟨ty15_good,⟨ty16_good,⟨ty17_good,⟨ty18_good,⟨ty19_good,⟨ty21_good,⟨ty22_good,⟨ty23_good,⟨ty24_good,⟨ty25_good,⟨ty26_good,⟨ty27_good,⟨ty28_good,⟨ty31_good,⟨ty32_good,⟨ty33_good,⟨ty35_good,⟨ty36_good,⟨ty37_good,⟨ty40_good,⟨ty42_good,⟨ty45_good,⟨ty46_good,⟨ty47_good,⟨ty48_good,⟨ty49_good,⟨ty50_good,⟨ty51_good,⟨ty57_good,⟨ty58_good,⟨ty59_good,⟨ty60_good,⟨ty61_good,⟨ty63_good,⟨ty64_good,⟨ty65_good,⟨ty66_good,⟨ty69_good,⟨ty73_good,⟨ty74_good,⟨ty75_good,⟨ty76_good,⟨ty78_good,⟨ty81_good,⟨ty83_good,⟨ty86_good,⟨ty87_good,⟨ty88_good,⟨ty89_good,⟨ty90_good,⟨ty91_good,⟨ty92_good,⟨ty93_good,⟨ty94_good,⟨ty95_good,⟨ty96_good,⟨ty97_good,⟨ty100_good,⟨ty101_good,⟨ty108_good,⟨ty110_good,⟨ty111_good,⟨ty112_good,⟨ty113_good,⟨ty114_good,⟨ty115_good,⟨ty116_good,⟨ty117_good,⟨ty118_good,⟨ty119_good,⟨ty120_good,⟨ty121_good,⟨ty122_good,⟨ty123_good,⟨ty125_good,⟨ty126_good,⟨ty127_good,⟨ty128_good,⟨ty129_good,⟨ty131_good,⟨ty133_good,⟨ty137_good,⟨ty158_good,⟨ty160_good,⟨ty162_good,⟨ty169_good,⟨ty174_good,⟨ty175_good,⟨ty177_good,⟨ty179_good,⟨ty182_good,⟨ty183_good,⟨ty184_good,⟨ty185_good,⟨ty187_good,⟨ty188_good,⟨ty189_good,⟨ty191_good,⟨ty193_good,⟨ty194_good,⟨ty195_good,⟨ty212_good,⟨ty213_good,⟨ty214_good,⟨ty225_good,⟨ty232_good,⟨ty244_good,⟨ty246_good,⟨ty265_good,⟨ty269_good,⟨ty271_good,⟨ty272_good,⟨ty276_good,⟨ty280_good,⟨ty282_good,⟨ty299_good,⟨ty301_good,⟨ty304_good,⟨ty306_good,⟨ty308_good,⟨ty317_good,⟨ty318_good,⟨ty320_good,⟨ty322_good,⟨ty328_good,⟨ty335_good,⟨ty342_good,⟨ty350_good,⟨ty363_good,⟨ty364_good,⟨ty368_good,⟨ty373_good,⟨ty376_good,⟨ty378_good,⟨ty380_good,⟨ty382_good,⟨ty384_good,⟨ty385_good,⟨ty390_good,trivial⟩⟩⟩⟩⟩⟩⟩⟩⟩⟩⟩⟩⟩⟩⟩⟩⟩⟩⟩⟩⟩⟩⟩⟩⟩⟩⟩⟩⟩⟩⟩⟩⟩⟩⟩⟩⟩⟩⟩⟩⟩⟩⟩⟩⟩⟩⟩⟩⟩⟩⟩⟩⟩⟩⟩⟩⟩⟩⟩⟩⟩⟩⟩⟩⟩⟩⟩⟩⟩⟩⟩⟩⟩⟩⟩⟩⟩⟩⟩⟩⟩⟩⟩⟩⟩⟩⟩⟩⟩⟩⟩⟩⟩⟩⟩⟩⟩⟩⟩⟩⟩⟩⟩⟩⟩⟩⟩⟩⟩⟩⟩⟩⟩⟩⟩⟩⟩⟩⟩⟩⟩⟩⟩⟩⟩⟩⟩⟩⟩⟩⟩⟩⟩⟩⟩⟩⟩⟩⟩⟩⟩⟩⟩⟩⟩⟩⟩
theorem tt_in:FieldsIn tt:=fieldsIn_of (by kernel_rfl)
end Go.Proofs.YthpmkcidkcmlgaaGreat
