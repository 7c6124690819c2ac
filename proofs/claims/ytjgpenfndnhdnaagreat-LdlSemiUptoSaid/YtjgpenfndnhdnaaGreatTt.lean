/- The types of this place's program, as the symbolic evaluator wants them; each row is asked of the program itself. Written by gentt.py. -/
import Derived.Test.YtjgpenfndnhdnaaGreatProg
import Derived.Test.YtjgpenfndnhdnaaGreatSx5
set_option linter.unusedVariables false
set_option linter.unusedSimpArgs false
set_option linter.unusedVariables false
namespace Go.Proofs.YtjgpenfndnhdnaaGreat
open Go Go.SX
def ty0:TyI:={und:=.tup [],size:=1,bytes:=0,zv:=(.tuple #[]),agg:=false,sh:=[.slice] }
theorem ty0_good:TGood Tryz.prog 0 ty0:=TGood.of (by kernel_rfl) (by kernel_rfl) rfl rfl rfl rfl
def ty2:TyI:={und:=.int .i64,size:=1,bytes:=8,zv:=(.int .i64 0),agg:=false,sh:=[.int .i64] }
theorem ty2_good:TGood Tryz.prog 2 ty2:=TGood.of (by kernel_rfl) (by kernel_rfl) rfl rfl rfl rfl
def ty3:TyI:={und:=.int .i64,size:=1,bytes:=8,zv:=(.int .i64 0),agg:=false,sh:=[.int .i64] }
theorem ty3_good:TGood Tryz.prog 3 ty3:=TGood.of (by kernel_rfl) (by kernel_rfl) rfl rfl rfl rfl
def ty4:TyI:={und:=.bool,size:=1,bytes:=1,zv:=(.bool false),agg:=false,sh:=[.bool] }
theorem ty4_good:TGood Tryz.prog 4 ty4:=TGood.of (by kernel_rfl) (by kernel_rfl) rfl rfl rfl rfl
def ty5:TyI:={und:=.int .u8,size:=1,bytes:=1,zv:=(.int .u8 0),agg:=false,sh:=[.int .u8] }
theorem ty5_good:TGood Tryz.prog 5 ty5:=TGood.of (by kernel_rfl) (by kernel_rfl) rfl rfl rfl rfl
def ty9:TyI:={und:=.str,size:=1,bytes:=16,zv:=(.string ⟨#[]⟩),agg:=false,sh:=[.str] }
theorem ty9_good:TGood Tryz.prog 9 ty9:=TGood.of (by kernel_rfl) (by kernel_rfl) rfl rfl rfl rfl
def ty12:TyI:={und:=.int .u64,size:=1,bytes:=8,zv:=(.int .u64 0),agg:=false,sh:=[.int .u64] }
theorem ty12_good:TGood Tryz.prog 12 ty12:=TGood.of (by kernel_rfl) (by kernel_rfl) rfl rfl rfl rfl
def ty13:TyI:={und:=.struct [(9,0),(12,1)],size:=2,bytes:=24,zv:=(.agg #[(.string ⟨#[]⟩),(.int .u64 0)]),agg:=true,sh:=[.str,.int .u64] }
theorem ty13_good:TGood Tryz.prog 13 ty13:=TGood.of (by kernel_rfl) (by kernel_rfl) rfl rfl rfl rfl
def ty15:TyI:={und:=.ptr,size:=1,bytes:=8,zv:=(.pointer none),agg:=false,sh:=[.ptr] }
theorem ty15_good:TGood Tryz.prog 15 ty15:=TGood.of (by kernel_rfl) (by kernel_rfl) rfl rfl rfl rfl
def ty16:TyI:={und:=.ptr,size:=1,bytes:=8,zv:=(.pointer none),agg:=false,sh:=[.ptr] }
theorem ty16_good:TGood Tryz.prog 16 ty16:=TGood.of (by kernel_rfl) (by kernel_rfl) rfl rfl rfl rfl
def ty17:TyI:={und:=.ptr,size:=1,bytes:=8,zv:=(.pointer none),agg:=false,sh:=[.ptr] }
theorem ty17_good:TGood Tryz.prog 17 ty17:=TGood.of (by kernel_rfl) (by kernel_rfl) rfl rfl rfl rfl
def ty18:TyI:={und:=.struct [(17,0)],size:=1,bytes:=8,zv:=(.agg #[(.pointer none)]),agg:=true,sh:=[.ptr] }
theorem ty18_good:TGood Tryz.prog 18 ty18:=TGood.of (by kernel_rfl) (by kernel_rfl) rfl rfl rfl rfl
def ty19:TyI:={und:=.struct [(17,0)],size:=1,bytes:=8,zv:=(.agg #[(.pointer none)]),agg:=true,sh:=[.ptr] }
theorem ty19_good:TGood Tryz.prog 19 ty19:=TGood.of (by kernel_rfl) (by kernel_rfl) rfl rfl rfl rfl
def ty21:TyI:={und:=.int .i32,size:=1,bytes:=4,zv:=(.int .i32 0),agg:=false,sh:=[.int .i32] }
theorem ty21_good:TGood Tryz.prog 21 ty21:=TGood.of (by kernel_rfl) (by kernel_rfl) rfl rfl rfl rfl
def ty22:TyI:={und:=.slice 29,size:=1,bytes:=24,zv:=(.slice none 0 0),agg:=false,sh:=[.slice] }
theorem ty22_good:TGood Tryz.prog 22 ty22:=TGood.of (by kernel_rfl) (by kernel_rfl) rfl rfl rfl rfl
def ty23:TyI:={und:=.slice 105,size:=1,bytes:=24,zv:=(.slice none 0 0),agg:=false,sh:=[.slice] }
theorem ty23_good:TGood Tryz.prog 23 ty23:=TGood.of (by kernel_rfl) (by kernel_rfl) rfl rfl rfl rfl
def ty24:TyI:={und:=.slice 38,size:=1,bytes:=24,zv:=(.slice none 0 0),agg:=false,sh:=[.slice] }
theorem ty24_good:TGood Tryz.prog 24 ty24:=TGood.of (by kernel_rfl) (by kernel_rfl) rfl rfl rfl rfl
def ty25:TyI:={und:=.slice 42,size:=1,bytes:=24,zv:=(.slice none 0 0),agg:=false,sh:=[.slice] }
theorem ty25_good:TGood Tryz.prog 25 ty25:=TGood.of (by kernel_rfl) (by kernel_rfl) rfl rfl rfl rfl
def ty26:TyI:={und:=.tup [24,25,4],size:=1,bytes:=0,zv:=(.tuple #[(.slice none 0 0),(.slice none 0 0),(.bool false)]),agg:=false,sh:=[.slice] }
theorem ty26_good:TGood Tryz.prog 26 ty26:=TGood.of (by kernel_rfl) (by kernel_rfl) rfl rfl rfl rfl
def ty29:TyI:={und:=.slice 118,size:=1,bytes:=24,zv:=(.slice none 0 0),agg:=false,sh:=[.slice] }
theorem ty29_good:TGood Tryz.prog 29 ty29:=TGood.of (by kernel_rfl) (by kernel_rfl) rfl rfl rfl rfl
def ty30:TyI:={und:=.slice 119,size:=1,bytes:=24,zv:=(.slice none 0 0),agg:=false,sh:=[.slice] }
theorem ty30_good:TGood Tryz.prog 30 ty30:=TGood.of (by kernel_rfl) (by kernel_rfl) rfl rfl rfl rfl
def ty31:TyI:={und:=.slice 119,size:=1,bytes:=24,zv:=(.slice none 0 0),agg:=false,sh:=[.slice] }
theorem ty31_good:TGood Tryz.prog 31 ty31:=TGood.of (by kernel_rfl) (by kernel_rfl) rfl rfl rfl rfl
def ty32:TyI:={und:=.slice 120,size:=1,bytes:=24,zv:=(.slice none 0 0),agg:=false,sh:=[.slice] }
theorem ty32_good:TGood Tryz.prog 32 ty32:=TGood.of (by kernel_rfl) (by kernel_rfl) rfl rfl rfl rfl
def ty33:TyI:={und:=.slice 120,size:=1,bytes:=24,zv:=(.slice none 0 0),agg:=false,sh:=[.slice] }
theorem ty33_good:TGood Tryz.prog 33 ty33:=TGood.of (by kernel_rfl) (by kernel_rfl) rfl rfl rfl rfl
def ty34:TyI:={und:=.tup [31,33],size:=1,bytes:=0,zv:=(.tuple #[(.slice none 0 0),(.slice none 0 0)]),agg:=false,sh:=[.slice] }
theorem ty34_good:TGood Tryz.prog 34 ty34:=TGood.of (by kernel_rfl) (by kernel_rfl) rfl rfl rfl rfl
def ty36:TyI:={und:=.slice 136,size:=1,bytes:=24,zv:=(.slice none 0 0),agg:=false,sh:=[.slice] }
theorem ty36_good:TGood Tryz.prog 36 ty36:=TGood.of (by kernel_rfl) (by kernel_rfl) rfl rfl rfl rfl
def ty37:TyI:={und:=.struct [(36,0)],size:=1,bytes:=24,zv:=(.agg #[(.slice none 0 0)]),agg:=true,sh:=[.slice] }
theorem ty37_good:TGood Tryz.prog 37 ty37:=TGood.of (by kernel_rfl) (by kernel_rfl) rfl rfl rfl rfl
def ty38:TyI:={und:=.struct [(36,0)],size:=1,bytes:=24,zv:=(.agg #[(.slice none 0 0)]),agg:=true,sh:=[.slice] }
theorem ty38_good:TGood Tryz.prog 38 ty38:=TGood.of (by kernel_rfl) (by kernel_rfl) rfl rfl rfl rfl
def ty39:TyI:={und:=.tup [38,4],size:=1,bytes:=0,zv:=(.tuple #[(.agg #[(.slice none 0 0)]),(.bool false)]),agg:=false,sh:=[.slice] }
theorem ty39_good:TGood Tryz.prog 39 ty39:=TGood.of (by kernel_rfl) (by kernel_rfl) rfl rfl rfl rfl
def ty41:TyI:={und:=.slice 142,size:=1,bytes:=24,zv:=(.slice none 0 0),agg:=false,sh:=[.slice] }
theorem ty41_good:TGood Tryz.prog 41 ty41:=TGood.of (by kernel_rfl) (by kernel_rfl) rfl rfl rfl rfl
def ty42:TyI:={und:=.slice 142,size:=1,bytes:=24,zv:=(.slice none 0 0),agg:=false,sh:=[.slice] }
theorem ty42_good:TGood Tryz.prog 42 ty42:=TGood.of (by kernel_rfl) (by kernel_rfl) rfl rfl rfl rfl
def ty43:TyI:={und:=.tup [42,4],size:=1,bytes:=0,zv:=(.tuple #[(.slice none 0 0),(.bool false)]),agg:=false,sh:=[.slice] }
theorem ty43_good:TGood Tryz.prog 43 ty43:=TGood.of (by kernel_rfl) (by kernel_rfl) rfl rfl rfl rfl
def ty47:TyI:={und:=.tup [38,42,4],size:=1,bytes:=0,zv:=(.tuple #[(.agg #[(.slice none 0 0)]),(.slice none 0 0),(.bool false)]),agg:=false,sh:=[.slice] }
theorem ty47_good:TGood Tryz.prog 47 ty47:=TGood.of (by kernel_rfl) (by kernel_rfl) rfl rfl rfl rfl
def ty49:TyI:={und:=.tup [31,4],size:=1,bytes:=0,zv:=(.tuple #[(.slice none 0 0),(.bool false)]),agg:=false,sh:=[.slice] }
theorem ty49_good:TGood Tryz.prog 49 ty49:=TGood.of (by kernel_rfl) (by kernel_rfl) rfl rfl rfl rfl
def ty51:TyI:={und:=.tup [33,4],size:=1,bytes:=0,zv:=(.tuple #[(.slice none 0 0),(.bool false)]),agg:=false,sh:=[.slice] }
theorem ty51_good:TGood Tryz.prog 51 ty51:=TGood.of (by kernel_rfl) (by kernel_rfl) rfl rfl rfl rfl
def ty56:TyI:={und:=.slice 260,size:=1,bytes:=24,zv:=(.slice none 0 0),agg:=false,sh:=[.slice] }
theorem ty56_good:TGood Tryz.prog 56 ty56:=TGood.of (by kernel_rfl) (by kernel_rfl) rfl rfl rfl rfl
def ty57:TyI:={und:=.struct [(56,0)],size:=1,bytes:=24,zv:=(.agg #[(.slice none 0 0)]),agg:=true,sh:=[.slice] }
theorem ty57_good:TGood Tryz.prog 57 ty57:=TGood.of (by kernel_rfl) (by kernel_rfl) rfl rfl rfl rfl
def ty58:TyI:={und:=.struct [(56,0)],size:=1,bytes:=24,zv:=(.agg #[(.slice none 0 0)]),agg:=true,sh:=[.slice] }
theorem ty58_good:TGood Tryz.prog 58 ty58:=TGood.of (by kernel_rfl) (by kernel_rfl) rfl rfl rfl rfl
def ty59:TyI:={und:=.struct [(58,0),(4,1)],size:=2,bytes:=32,zv:=(.agg #[(.slice none 0 0),(.bool false)]),agg:=true,sh:=[.slice,.bool] }
theorem ty59_good:TGood Tryz.prog 59 ty59:=TGood.of (by kernel_rfl) (by kernel_rfl) rfl rfl rfl rfl
def ty60:TyI:={und:=.struct [(58,0),(4,1)],size:=2,bytes:=32,zv:=(.agg #[(.slice none 0 0),(.bool false)]),agg:=true,sh:=[.slice,.bool] }
theorem ty60_good:TGood Tryz.prog 60 ty60:=TGood.of (by kernel_rfl) (by kernel_rfl) rfl rfl rfl rfl
def ty61:TyI:={und:=.struct [(60,0),(58,2)],size:=3,bytes:=56,zv:=(.agg #[(.slice none 0 0),(.bool false),(.slice none 0 0)]),agg:=true,sh:=[.slice,.bool,.slice] }
theorem ty61_good:TGood Tryz.prog 61 ty61:=TGood.of (by kernel_rfl) (by kernel_rfl) rfl rfl rfl rfl
def ty62:TyI:={und:=.struct [(60,0),(58,2)],size:=3,bytes:=56,zv:=(.agg #[(.slice none 0 0),(.bool false),(.slice none 0 0)]),agg:=true,sh:=[.slice,.bool,.slice] }
theorem ty62_good:TGood Tryz.prog 62 ty62:=TGood.of (by kernel_rfl) (by kernel_rfl) rfl rfl rfl rfl
def ty68:TyI:={und:=.slice 158,size:=1,bytes:=24,zv:=(.slice none 0 0),agg:=false,sh:=[.slice] }
theorem ty68_good:TGood Tryz.prog 68 ty68:=TGood.of (by kernel_rfl) (by kernel_rfl) rfl rfl rfl rfl
def ty69:TyI:={und:=.slice 170,size:=1,bytes:=24,zv:=(.slice none 0 0),agg:=false,sh:=[.slice] }
theorem ty69_good:TGood Tryz.prog 69 ty69:=TGood.of (by kernel_rfl) (by kernel_rfl) rfl rfl rfl rfl
def ty70:TyI:={und:=.slice 160,size:=1,bytes:=24,zv:=(.slice none 0 0),agg:=false,sh:=[.slice] }
theorem ty70_good:TGood Tryz.prog 70 ty70:=TGood.of (by kernel_rfl) (by kernel_rfl) rfl rfl rfl rfl
def ty71:TyI:={und:=.slice 162,size:=1,bytes:=24,zv:=(.slice none 0 0),agg:=false,sh:=[.slice] }
theorem ty71_good:TGood Tryz.prog 71 ty71:=TGood.of (by kernel_rfl) (by kernel_rfl) rfl rfl rfl rfl
def ty72:TyI:={und:=.tup [70,71],size:=1,bytes:=0,zv:=(.tuple #[(.slice none 0 0),(.slice none 0 0)]),agg:=false,sh:=[.slice] }
theorem ty72_good:TGood Tryz.prog 72 ty72:=TGood.of (by kernel_rfl) (by kernel_rfl) rfl rfl rfl rfl
def ty74:TyI:={und:=.slice 164,size:=1,bytes:=24,zv:=(.slice none 0 0),agg:=false,sh:=[.slice] }
theorem ty74_good:TGood Tryz.prog 74 ty74:=TGood.of (by kernel_rfl) (by kernel_rfl) rfl rfl rfl rfl
def ty75:TyI:={und:=.slice 164,size:=1,bytes:=24,zv:=(.slice none 0 0),agg:=false,sh:=[.slice] }
theorem ty75_good:TGood Tryz.prog 75 ty75:=TGood.of (by kernel_rfl) (by kernel_rfl) rfl rfl rfl rfl
def ty76:TyI:={und:=.slice 166,size:=1,bytes:=24,zv:=(.slice none 0 0),agg:=false,sh:=[.slice] }
theorem ty76_good:TGood Tryz.prog 76 ty76:=TGood.of (by kernel_rfl) (by kernel_rfl) rfl rfl rfl rfl
def ty77:TyI:={und:=.tup [75,76],size:=1,bytes:=0,zv:=(.tuple #[(.slice none 0 0),(.slice none 0 0)]),agg:=false,sh:=[.slice] }
theorem ty77_good:TGood Tryz.prog 77 ty77:=TGood.of (by kernel_rfl) (by kernel_rfl) rfl rfl rfl rfl
def ty83:TyI:={und:=.tup [24,4],size:=1,bytes:=0,zv:=(.tuple #[(.slice none 0 0),(.bool false)]),agg:=false,sh:=[.slice] }
theorem ty83_good:TGood Tryz.prog 83 ty83:=TGood.of (by kernel_rfl) (by kernel_rfl) rfl rfl rfl rfl
def ty85:TyI:={und:=.tup [25,4],size:=1,bytes:=0,zv:=(.tuple #[(.slice none 0 0),(.bool false)]),agg:=false,sh:=[.slice] }
theorem ty85_good:TGood Tryz.prog 85 ty85:=TGood.of (by kernel_rfl) (by kernel_rfl) rfl rfl rfl rfl
def ty90:TyI:={und:=.arr 3 9,size:=3,bytes:=48,zv:=(.agg #[(.string ⟨#[]⟩),(.string ⟨#[]⟩),(.string ⟨#[]⟩)]),agg:=true,sh:=[.str,.str,.str] }
theorem ty90_good:TGood Tryz.prog 90 ty90:=TGood.of (by kernel_rfl) (by kernel_rfl) rfl rfl rfl rfl
def ty91:TyI:={und:=.arr 3 62,size:=9,bytes:=168,zv:=(.agg #[(.slice none 0 0),(.bool false),(.slice none 0 0),(.slice none 0 0),(.bool false),(.slice none 0 0),(.slice none 0 0),(.bool false),(.slice none 0 0)]),agg:=true,sh:=[.slice,.bool,.slice,.slice,.bool,.slice,.slice,.bool,.slice] }
theorem ty91_good:TGood Tryz.prog 91 ty91:=TGood.of (by kernel_rfl) (by kernel_rfl) rfl rfl rfl rfl
def ty92:TyI:={und:=.slice 260,size:=1,bytes:=24,zv:=(.slice none 0 0),agg:=false,sh:=[.slice] }
theorem ty92_good:TGood Tryz.prog 92 ty92:=TGood.of (by kernel_rfl) (by kernel_rfl) rfl rfl rfl rfl
def ty93:TyI:={und:=.struct [(4,0),(92,1)],size:=2,bytes:=32,zv:=(.agg #[(.bool false),(.slice none 0 0)]),agg:=true,sh:=[.bool,.slice] }
theorem ty93_good:TGood Tryz.prog 93 ty93:=TGood.of (by kernel_rfl) (by kernel_rfl) rfl rfl rfl rfl
def ty94:TyI:={und:=.struct [(4,0),(92,1)],size:=2,bytes:=32,zv:=(.agg #[(.bool false),(.slice none 0 0)]),agg:=true,sh:=[.bool,.slice] }
theorem ty94_good:TGood Tryz.prog 94 ty94:=TGood.of (by kernel_rfl) (by kernel_rfl) rfl rfl rfl rfl
def ty95:TyI:={und:=.struct [(94,0),(92,2)],size:=3,bytes:=56,zv:=(.agg #[(.bool false),(.slice none 0 0),(.slice none 0 0)]),agg:=true,sh:=[.bool,.slice,.slice] }
theorem ty95_good:TGood Tryz.prog 95 ty95:=TGood.of (by kernel_rfl) (by kernel_rfl) rfl rfl rfl rfl
def ty96:TyI:={und:=.struct [(94,0),(92,2)],size:=3,bytes:=56,zv:=(.agg #[(.bool false),(.slice none 0 0),(.slice none 0 0)]),agg:=true,sh:=[.bool,.slice,.slice] }
theorem ty96_good:TGood Tryz.prog 96 ty96:=TGood.of (by kernel_rfl) (by kernel_rfl) rfl rfl rfl rfl
def ty97:TyI:={und:=.arr 3 96,size:=9,bytes:=168,zv:=(.agg #[(.bool false),(.slice none 0 0),(.slice none 0 0),(.bool false),(.slice none 0 0),(.slice none 0 0),(.bool false),(.slice none 0 0),(.slice none 0 0)]),agg:=true,sh:=[.bool,.slice,.slice,.bool,.slice,.slice,.bool,.slice,.slice] }
theorem ty97_good:TGood Tryz.prog 97 ty97:=TGood.of (by kernel_rfl) (by kernel_rfl) rfl rfl rfl rfl
def ty98:TyI:={und:=.tup [91,97,4],size:=1,bytes:=0,zv:=(.tuple #[(.agg #[(.slice none 0 0),(.bool false),(.slice none 0 0),(.slice none 0 0),(.bool false),(.slice none 0 0),(.slice none 0 0),(.bool false),(.slice none 0 0)]),(.agg #[(.bool false),(.slice none 0 0),(.slice none 0 0),(.bool false),(.slice none 0 0),(.slice none 0 0),(.bool false),(.slice none 0 0),(.slice none 0 0)]),(.bool false)]),agg:=false,sh:=[.slice] }
theorem ty98_good:TGood Tryz.prog 98 ty98:=TGood.of (by kernel_rfl) (by kernel_rfl) rfl rfl rfl rfl
def ty105:TyI:={und:=.slice 9,size:=1,bytes:=24,zv:=(.slice none 0 0),agg:=false,sh:=[.slice] }
theorem ty105_good:TGood Tryz.prog 105 ty105:=TGood.of (by kernel_rfl) (by kernel_rfl) rfl rfl rfl rfl
def ty107:TyI:={und:=.tup [62,96,4],size:=1,bytes:=0,zv:=(.tuple #[(.agg #[(.slice none 0 0),(.bool false),(.slice none 0 0)]),(.agg #[(.bool false),(.slice none 0 0),(.slice none 0 0)]),(.bool false)]),agg:=false,sh:=[.slice] }
theorem ty107_good:TGood Tryz.prog 107 ty107:=TGood.of (by kernel_rfl) (by kernel_rfl) rfl rfl rfl rfl
def ty110:TyI:={und:=.int .i64,size:=1,bytes:=8,zv:=(.int .i64 0),agg:=false,sh:=[.int .i64] }
theorem ty110_good:TGood Tryz.prog 110 ty110:=TGood.of (by kernel_rfl) (by kernel_rfl) rfl rfl rfl rfl
def ty111:TyI:={und:=.tup [31,110],size:=1,bytes:=0,zv:=(.tuple #[(.slice none 0 0),(.int .i64 0)]),agg:=false,sh:=[.slice] }
theorem ty111_good:TGood Tryz.prog 111 ty111:=TGood.of (by kernel_rfl) (by kernel_rfl) rfl rfl rfl rfl
def ty119:TyI:={und:=.slice 62,size:=1,bytes:=24,zv:=(.slice none 0 0),agg:=false,sh:=[.slice] }
theorem ty119_good:TGood Tryz.prog 119 ty119:=TGood.of (by kernel_rfl) (by kernel_rfl) rfl rfl rfl rfl
def ty120:TyI:={und:=.slice 96,size:=1,bytes:=24,zv:=(.slice none 0 0),agg:=false,sh:=[.slice] }
theorem ty120_good:TGood Tryz.prog 120 ty120:=TGood.of (by kernel_rfl) (by kernel_rfl) rfl rfl rfl rfl
def ty131:TyI:={und:=.tup [38,110],size:=1,bytes:=0,zv:=(.tuple #[(.agg #[(.slice none 0 0)]),(.int .i64 0)]),agg:=false,sh:=[.slice] }
theorem ty131_good:TGood Tryz.prog 131 ty131:=TGood.of (by kernel_rfl) (by kernel_rfl) rfl rfl rfl rfl
def ty135:TyI:={und:=.struct [(116,0),(62,3)],size:=6,bytes:=64,zv:=(.agg #[(.int .u8 0),(.int .u8 0),(.int .u8 0),(.slice none 0 0),(.bool false),(.slice none 0 0)]),agg:=true,sh:=[.int .u8,.int .u8,.int .u8,.slice,.bool,.slice] }
theorem ty135_good:TGood Tryz.prog 135 ty135:=TGood.of (by kernel_rfl) (by kernel_rfl) rfl rfl rfl rfl
def ty136:TyI:={und:=.struct [(116,0),(62,3)],size:=6,bytes:=64,zv:=(.agg #[(.int .u8 0),(.int .u8 0),(.int .u8 0),(.slice none 0 0),(.bool false),(.slice none 0 0)]),agg:=true,sh:=[.int .u8,.int .u8,.int .u8,.slice,.bool,.slice] }
theorem ty136_good:TGood Tryz.prog 136 ty136:=TGood.of (by kernel_rfl) (by kernel_rfl) rfl rfl rfl rfl
def ty137:TyI:={und:=.tup [3,3],size:=1,bytes:=0,zv:=(.tuple #[(.int .i64 0),(.int .i64 0)]),agg:=false,sh:=[.slice] }
theorem ty137_good:TGood Tryz.prog 137 ty137:=TGood.of (by kernel_rfl) (by kernel_rfl) rfl rfl rfl rfl
def ty139:TyI:={und:=.tup [62,4],size:=1,bytes:=0,zv:=(.tuple #[(.agg #[(.slice none 0 0),(.bool false),(.slice none 0 0)]),(.bool false)]),agg:=false,sh:=[.slice] }
theorem ty139_good:TGood Tryz.prog 139 ty139:=TGood.of (by kernel_rfl) (by kernel_rfl) rfl rfl rfl rfl
def ty141:TyI:={und:=.struct [(116,0),(96,3)],size:=6,bytes:=64,zv:=(.agg #[(.int .u8 0),(.int .u8 0),(.int .u8 0),(.bool false),(.slice none 0 0),(.slice none 0 0)]),agg:=true,sh:=[.int .u8,.int .u8,.int .u8,.bool,.slice,.slice] }
theorem ty141_good:TGood Tryz.prog 141 ty141:=TGood.of (by kernel_rfl) (by kernel_rfl) rfl rfl rfl rfl
def ty142:TyI:={und:=.struct [(116,0),(96,3)],size:=6,bytes:=64,zv:=(.agg #[(.int .u8 0),(.int .u8 0),(.int .u8 0),(.bool false),(.slice none 0 0),(.slice none 0 0)]),agg:=true,sh:=[.int .u8,.int .u8,.int .u8,.bool,.slice,.slice] }
theorem ty142_good:TGood Tryz.prog 142 ty142:=TGood.of (by kernel_rfl) (by kernel_rfl) rfl rfl rfl rfl
def ty157:TyI:={und:=.struct [(9,0),(3,1),(29,2)],size:=3,bytes:=48,zv:=(.agg #[(.string ⟨#[]⟩),(.int .i64 0),(.slice none 0 0)]),agg:=true,sh:=[.str,.int .i64,.slice] }
theorem ty157_good:TGood Tryz.prog 157 ty157:=TGood.of (by kernel_rfl) (by kernel_rfl) rfl rfl rfl rfl
def ty158:TyI:={und:=.struct [(9,0),(3,1),(29,2)],size:=3,bytes:=48,zv:=(.agg #[(.string ⟨#[]⟩),(.int .i64 0),(.slice none 0 0)]),agg:=true,sh:=[.str,.int .i64,.slice] }
theorem ty158_good:TGood Tryz.prog 158 ty158:=TGood.of (by kernel_rfl) (by kernel_rfl) rfl rfl rfl rfl
def ty159:TyI:={und:=.struct [(62,0),(3,3),(38,4)],size:=5,bytes:=88,zv:=(.agg #[(.slice none 0 0),(.bool false),(.slice none 0 0),(.int .i64 0),(.slice none 0 0)]),agg:=true,sh:=[.slice,.bool,.slice,.int .i64,.slice] }
theorem ty159_good:TGood Tryz.prog 159 ty159:=TGood.of (by kernel_rfl) (by kernel_rfl) rfl rfl rfl rfl
def ty160:TyI:={und:=.struct [(62,0),(3,3),(38,4)],size:=5,bytes:=88,zv:=(.agg #[(.slice none 0 0),(.bool false),(.slice none 0 0),(.int .i64 0),(.slice none 0 0)]),agg:=true,sh:=[.slice,.bool,.slice,.int .i64,.slice] }
theorem ty160_good:TGood Tryz.prog 160 ty160:=TGood.of (by kernel_rfl) (by kernel_rfl) rfl rfl rfl rfl
def ty161:TyI:={und:=.struct [(96,0),(3,3),(42,4)],size:=5,bytes:=88,zv:=(.agg #[(.bool false),(.slice none 0 0),(.slice none 0 0),(.int .i64 0),(.slice none 0 0)]),agg:=true,sh:=[.bool,.slice,.slice,.int .i64,.slice] }
theorem ty161_good:TGood Tryz.prog 161 ty161:=TGood.of (by kernel_rfl) (by kernel_rfl) rfl rfl rfl rfl
def ty162:TyI:={und:=.struct [(96,0),(3,3),(42,4)],size:=5,bytes:=88,zv:=(.agg #[(.bool false),(.slice none 0 0),(.slice none 0 0),(.int .i64 0),(.slice none 0 0)]),agg:=true,sh:=[.bool,.slice,.slice,.int .i64,.slice] }
theorem ty162_good:TGood Tryz.prog 162 ty162:=TGood.of (by kernel_rfl) (by kernel_rfl) rfl rfl rfl rfl
def ty163:TyI:={und:=.struct [(62,0),(62,3)],size:=6,bytes:=112,zv:=(.agg #[(.slice none 0 0),(.bool false),(.slice none 0 0),(.slice none 0 0),(.bool false),(.slice none 0 0)]),agg:=true,sh:=[.slice,.bool,.slice,.slice,.bool,.slice] }
theorem ty163_good:TGood Tryz.prog 163 ty163:=TGood.of (by kernel_rfl) (by kernel_rfl) rfl rfl rfl rfl
def ty164:TyI:={und:=.struct [(62,0),(62,3)],size:=6,bytes:=112,zv:=(.agg #[(.slice none 0 0),(.bool false),(.slice none 0 0),(.slice none 0 0),(.bool false),(.slice none 0 0)]),agg:=true,sh:=[.slice,.bool,.slice,.slice,.bool,.slice] }
theorem ty164_good:TGood Tryz.prog 164 ty164:=TGood.of (by kernel_rfl) (by kernel_rfl) rfl rfl rfl rfl
def ty165:TyI:={und:=.struct [(96,0),(96,3)],size:=6,bytes:=112,zv:=(.agg #[(.bool false),(.slice none 0 0),(.slice none 0 0),(.bool false),(.slice none 0 0),(.slice none 0 0)]),agg:=true,sh:=[.bool,.slice,.slice,.bool,.slice,.slice] }
theorem ty165_good:TGood Tryz.prog 165 ty165:=TGood.of (by kernel_rfl) (by kernel_rfl) rfl rfl rfl rfl
def ty166:TyI:={und:=.struct [(96,0),(96,3)],size:=6,bytes:=112,zv:=(.agg #[(.bool false),(.slice none 0 0),(.slice none 0 0),(.bool false),(.slice none 0 0),(.slice none 0 0)]),agg:=true,sh:=[.bool,.slice,.slice,.bool,.slice,.slice] }
theorem ty166_good:TGood Tryz.prog 166 ty166:=TGood.of (by kernel_rfl) (by kernel_rfl) rfl rfl rfl rfl
def ty167:TyI:={und:=.tup [164,166,4],size:=1,bytes:=0,zv:=(.tuple #[(.agg #[(.slice none 0 0),(.bool false),(.slice none 0 0),(.slice none 0 0),(.bool false),(.slice none 0 0)]),(.agg #[(.bool false),(.slice none 0 0),(.slice none 0 0),(.bool false),(.slice none 0 0),(.slice none 0 0)]),(.bool false)]),agg:=false,sh:=[.slice] }
theorem ty167_good:TGood Tryz.prog 167 ty167:=TGood.of (by kernel_rfl) (by kernel_rfl) rfl rfl rfl rfl
def ty169:TyI:={und:=.struct [(9,0),(9,1)],size:=2,bytes:=32,zv:=(.agg #[(.string ⟨#[]⟩),(.string ⟨#[]⟩)]),agg:=true,sh:=[.str,.str] }
theorem ty169_good:TGood Tryz.prog 169 ty169:=TGood.of (by kernel_rfl) (by kernel_rfl) rfl rfl rfl rfl
def ty170:TyI:={und:=.struct [(9,0),(9,1)],size:=2,bytes:=32,zv:=(.agg #[(.string ⟨#[]⟩),(.string ⟨#[]⟩)]),agg:=true,sh:=[.str,.str] }
theorem ty170_good:TGood Tryz.prog 170 ty170:=TGood.of (by kernel_rfl) (by kernel_rfl) rfl rfl rfl rfl
def ty180:TyI:={und:=.tup [31,119,4],size:=1,bytes:=0,zv:=(.tuple #[(.slice none 0 0),(.slice none 0 0),(.bool false)]),agg:=false,sh:=[.slice] }
theorem ty180_good:TGood Tryz.prog 180 ty180:=TGood.of (by kernel_rfl) (by kernel_rfl) rfl rfl rfl rfl
def ty186:TyI:={und:=.tup [96,4],size:=1,bytes:=0,zv:=(.tuple #[(.agg #[(.bool false),(.slice none 0 0),(.slice none 0 0)]),(.bool false)]),agg:=false,sh:=[.slice] }
theorem ty186_good:TGood Tryz.prog 186 ty186:=TGood.of (by kernel_rfl) (by kernel_rfl) rfl rfl rfl rfl
def ty188:TyI:={und:=.tup [62,110],size:=1,bytes:=0,zv:=(.tuple #[(.agg #[(.slice none 0 0),(.bool false),(.slice none 0 0)]),(.int .i64 0)]),agg:=false,sh:=[.slice] }
theorem ty188_good:TGood Tryz.prog 188 ty188:=TGood.of (by kernel_rfl) (by kernel_rfl) rfl rfl rfl rfl
def ty191:TyI:={und:=.map 116 62,size:=1,bytes:=8,zv:=(.map none),agg:=false,sh:=[.map] }
theorem ty191_good:TGood Tryz.prog 191 ty191:=TGood.of (by kernel_rfl) (by kernel_rfl) rfl rfl rfl rfl
def ty192:TyI:={und:=.map 116 62,size:=1,bytes:=8,zv:=(.map none),agg:=false,sh:=[.map] }
theorem ty192_good:TGood Tryz.prog 192 ty192:=TGood.of (by kernel_rfl) (by kernel_rfl) rfl rfl rfl rfl
def ty193:TyI:={und:=.tup [116,4],size:=1,bytes:=0,zv:=(.tuple #[(.agg #[(.int .u8 0),(.int .u8 0),(.int .u8 0)]),(.bool false)]),agg:=false,sh:=[.slice] }
theorem ty193_good:TGood Tryz.prog 193 ty193:=TGood.of (by kernel_rfl) (by kernel_rfl) rfl rfl rfl rfl
def ty204:TyI:={und:=.arr 2 3,size:=2,bytes:=16,zv:=(.agg #[(.int .i64 0),(.int .i64 0)]),agg:=true,sh:=[.int .i64,.int .i64] }
theorem ty204_good:TGood Tryz.prog 204 ty204:=TGood.of (by kernel_rfl) (by kernel_rfl) rfl rfl rfl rfl
def ty210:TyI:={und:=.int .u64,size:=1,bytes:=8,zv:=(.int .u64 0),agg:=false,sh:=[.int .u64] }
theorem ty210_good:TGood Tryz.prog 210 ty210:=TGood.of (by kernel_rfl) (by kernel_rfl) rfl rfl rfl rfl
def ty215:TyI:={und:=.tup [166,110],size:=1,bytes:=0,zv:=(.tuple #[(.agg #[(.bool false),(.slice none 0 0),(.slice none 0 0),(.bool false),(.slice none 0 0),(.slice none 0 0)]),(.int .i64 0)]),agg:=false,sh:=[.slice] }
theorem ty215_good:TGood Tryz.prog 215 ty215:=TGood.of (by kernel_rfl) (by kernel_rfl) rfl rfl rfl rfl
def ty217:TyI:={und:=.tup [164,110],size:=1,bytes:=0,zv:=(.tuple #[(.agg #[(.slice none 0 0),(.bool false),(.slice none 0 0),(.slice none 0 0),(.bool false),(.slice none 0 0)]),(.int .i64 0)]),agg:=false,sh:=[.slice] }
theorem ty217_good:TGood Tryz.prog 217 ty217:=TGood.of (by kernel_rfl) (by kernel_rfl) rfl rfl rfl rfl
def ty228:TyI:={und:=.tup [94,4],size:=1,bytes:=0,zv:=(.tuple #[(.agg #[(.bool false),(.slice none 0 0)]),(.bool false)]),agg:=false,sh:=[.slice] }
theorem ty228_good:TGood Tryz.prog 228 ty228:=TGood.of (by kernel_rfl) (by kernel_rfl) rfl rfl rfl rfl
def ty230:TyI:={und:=.tup [92,4],size:=1,bytes:=0,zv:=(.tuple #[(.slice none 0 0),(.bool false)]),agg:=false,sh:=[.slice] }
theorem ty230_good:TGood Tryz.prog 230 ty230:=TGood.of (by kernel_rfl) (by kernel_rfl) rfl rfl rfl rfl
def ty234:TyI:={und:=.tup [9,9,4],size:=1,bytes:=0,zv:=(.tuple #[(.string ⟨#[]⟩),(.string ⟨#[]⟩),(.bool false)]),agg:=false,sh:=[.slice] }
theorem ty234_good:TGood Tryz.prog 234 ty234:=TGood.of (by kernel_rfl) (by kernel_rfl) rfl rfl rfl rfl
def ty236:TyI:={und:=.tup [60,110],size:=1,bytes:=0,zv:=(.tuple #[(.agg #[(.slice none 0 0),(.bool false)]),(.int .i64 0)]),agg:=false,sh:=[.slice] }
theorem ty236_good:TGood Tryz.prog 236 ty236:=TGood.of (by kernel_rfl) (by kernel_rfl) rfl rfl rfl rfl
def ty238:TyI:={und:=.tup [58,110],size:=1,bytes:=0,zv:=(.tuple #[(.agg #[(.slice none 0 0)]),(.int .i64 0)]),agg:=false,sh:=[.slice] }
theorem ty238_good:TGood Tryz.prog 238 ty238:=TGood.of (by kernel_rfl) (by kernel_rfl) rfl rfl rfl rfl
def ty242:TyI:={und:=.slice 36,size:=1,bytes:=24,zv:=(.slice none 0 0),agg:=false,sh:=[.slice] }
theorem ty242_good:TGood Tryz.prog 242 ty242:=TGood.of (by kernel_rfl) (by kernel_rfl) rfl rfl rfl rfl
def ty253:TyI:={und:=.slice 5,size:=1,bytes:=24,zv:=(.slice none 0 0),agg:=false,sh:=[.slice] }
theorem ty253_good:TGood Tryz.prog 253 ty253:=TGood.of (by kernel_rfl) (by kernel_rfl) rfl rfl rfl rfl
def ty257:TyI:={und:=.tup [58,58,4],size:=1,bytes:=0,zv:=(.tuple #[(.agg #[(.slice none 0 0)]),(.agg #[(.slice none 0 0)]),(.bool false)]),agg:=false,sh:=[.slice] }
theorem ty257_good:TGood Tryz.prog 257 ty257:=TGood.of (by kernel_rfl) (by kernel_rfl) rfl rfl rfl rfl
def ty260:TyI:={und:=.int .u32,size:=1,bytes:=4,zv:=(.int .u32 0),agg:=false,sh:=[.int .u32] }
theorem ty260_good:TGood Tryz.prog 260 ty260:=TGood.of (by kernel_rfl) (by kernel_rfl) rfl rfl rfl rfl
def ty261:TyI:={und:=.int .u64,size:=1,bytes:=8,zv:=(.int .u64 0),agg:=false,sh:=[.int .u64] }
theorem ty261_good:TGood Tryz.prog 261 ty261:=TGood.of (by kernel_rfl) (by kernel_rfl) rfl rfl rfl rfl
def ty263:TyI:={und:=.tup [164,4],size:=1,bytes:=0,zv:=(.tuple #[(.agg #[(.slice none 0 0),(.bool false),(.slice none 0 0),(.slice none 0 0),(.bool false),(.slice none 0 0)]),(.bool false)]),agg:=false,sh:=[.slice] }
theorem ty263_good:TGood Tryz.prog 263 ty263:=TGood.of (by kernel_rfl) (by kernel_rfl) rfl rfl rfl rfl
def ty273:TyI:={und:=.tup [58,4],size:=1,bytes:=0,zv:=(.tuple #[(.agg #[(.slice none 0 0)]),(.bool false)]),agg:=false,sh:=[.slice] }
theorem ty273_good:TGood Tryz.prog 273 ty273:=TGood.of (by kernel_rfl) (by kernel_rfl) rfl rfl rfl rfl
def ty275:TyI:={und:=.tup [92,92],size:=1,bytes:=0,zv:=(.tuple #[(.slice none 0 0),(.slice none 0 0)]),agg:=false,sh:=[.slice] }
theorem ty275_good:TGood Tryz.prog 275 ty275:=TGood.of (by kernel_rfl) (by kernel_rfl) rfl rfl rfl rfl
def ty283:TyI:={und:=.slice 3,size:=1,bytes:=24,zv:=(.slice none 0 0),agg:=false,sh:=[.slice] }
theorem ty283_good:TGood Tryz.prog 283 ty283:=TGood.of (by kernel_rfl) (by kernel_rfl) rfl rfl rfl rfl
def ty295:TyI:={und:=.int .i64,size:=1,bytes:=8,zv:=(.int .i64 0),agg:=false,sh:=[.int .i64] }
theorem ty295_good:TGood Tryz.prog 295 ty295:=TGood.of (by kernel_rfl) (by kernel_rfl) rfl rfl rfl rfl
def ty296:TyI:={und:=.tup [3,295],size:=1,bytes:=0,zv:=(.tuple #[(.int .i64 0),(.int .i64 0)]),agg:=false,sh:=[.slice] }
theorem ty296_good:TGood Tryz.prog 296 ty296:=TGood.of (by kernel_rfl) (by kernel_rfl) rfl rfl rfl rfl
def ty300:TyI:={und:=.tup [3,4],size:=1,bytes:=0,zv:=(.tuple #[(.int .i64 0),(.bool false)]),agg:=false,sh:=[.slice] }
theorem ty300_good:TGood Tryz.prog 300 ty300:=TGood.of (by kernel_rfl) (by kernel_rfl) rfl rfl rfl rfl
def ty309:TyI:={und:=.int .u64,size:=1,bytes:=8,zv:=(.int .u64 0),agg:=false,sh:=[.int .u64] }
theorem ty309_good:TGood Tryz.prog 309 ty309:=TGood.of (by kernel_rfl) (by kernel_rfl) rfl rfl rfl rfl
def ty312:TyI:={und:=.ptr,size:=1,bytes:=8,zv:=(.pointer none),agg:=false,sh:=[.ptr] }
theorem ty312_good:TGood Tryz.prog 312 ty312:=TGood.of (by kernel_rfl) (by kernel_rfl) rfl rfl rfl rfl
def ty314:TyI:={und:=.tup [260,260],size:=1,bytes:=0,zv:=(.tuple #[(.int .u32 0),(.int .u32 0)]),agg:=false,sh:=[.slice] }
theorem ty314_good:TGood Tryz.prog 314 ty314:=TGood.of (by kernel_rfl) (by kernel_rfl) rfl rfl rfl rfl
def ty316:TyI:={und:=.ptr,size:=1,bytes:=8,zv:=(.pointer none),agg:=false,sh:=[.ptr] }
theorem ty316_good:TGood Tryz.prog 316 ty316:=TGood.of (by kernel_rfl) (by kernel_rfl) rfl rfl rfl rfl
def ty318:TyI:={und:=.struct [(17,0),(17,1),(17,2),(9,3)],size:=4,bytes:=40,zv:=(.agg #[(.pointer none),(.pointer none),(.pointer none),(.string ⟨#[]⟩)]),agg:=true,sh:=[.ptr,.ptr,.ptr,.str] }
theorem ty318_good:TGood Tryz.prog 318 ty318:=TGood.of (by kernel_rfl) (by kernel_rfl) rfl rfl rfl rfl
def ty320:TyI:={und:=.arr 0 16,size:=0,bytes:=0,zv:=(.agg #[]),agg:=true,sh:=[] }
theorem ty320_good:TGood Tryz.prog 320 ty320:=TGood.of (by kernel_rfl) (by kernel_rfl) rfl rfl rfl rfl
def ty321:TyI:={und:=.struct [(320,0)],size:=0,bytes:=0,zv:=(.agg #[]),agg:=true,sh:=[] }
theorem ty321_good:TGood Tryz.prog 321 ty321:=TGood.of (by kernel_rfl) (by kernel_rfl) rfl rfl rfl rfl
def ty326:TyI:={und:=.ptr,size:=1,bytes:=8,zv:=(.pointer none),agg:=false,sh:=[.ptr] }
theorem ty326_good:TGood Tryz.prog 326 ty326:=TGood.of (by kernel_rfl) (by kernel_rfl) rfl rfl rfl rfl
def ty115:TyI:={und:=.arr 3 5,size:=3,bytes:=3,zv:=(.agg #[(.int .u8 0),(.int .u8 0),(.int .u8 0)]),agg:=true,sh:=[.int .u8,.int .u8,.int .u8],eq:=true }
theorem ty115_good:TGood Tryz.prog 115 ty115:=TGood.ofEq (by kernel_rfl) (by kernel_rfl) rfl rfl rfl (eqOK_mono (by kernel_rfl) (by kernel_rfl) ty5_good rfl rfl (by kernel_rfl))
def ty116:TyI:={und:=.arr 3 5,size:=3,bytes:=3,zv:=(.agg #[(.int .u8 0),(.int .u8 0),(.int .u8 0)]),agg:=true,sh:=[.int .u8,.int .u8,.int .u8],eq:=true }
theorem ty116_good:TGood Tryz.prog 116 ty116:=TGood.ofEq (by kernel_rfl) (by kernel_rfl) rfl rfl rfl (eqOK_mono (by kernel_rfl) (by kernel_rfl) ty5_good rfl rfl (by kernel_rfl))
def ty117:TyI:={und:=.struct [(116,0),(9,3)],size:=4,bytes:=24,zv:=(.agg #[(.int .u8 0),(.int .u8 0),(.int .u8 0),(.string ⟨#[]⟩)]),agg:=true,sh:=[.int .u8,.int .u8,.int .u8,.str],eq:=true }
theorem ty117_good:TGood Tryz.prog 117 ty117:=TGood.ofEq (by kernel_rfl) (by kernel_rfl) rfl rfl rfl (eqOK_term (by kernel_rfl) (by kernel_rfl) (by kernel_rfl) (by kernel_rfl) (by kernel_rfl) ty5_good rfl rfl ty116_good rfl rfl (by kernel_rfl) ty9_good rfl rfl (by kernel_rfl))
def ty118:TyI:={und:=.struct [(116,0),(9,3)],size:=4,bytes:=24,zv:=(.agg #[(.int .u8 0),(.int .u8 0),(.int .u8 0),(.string ⟨#[]⟩)]),agg:=true,sh:=[.int .u8,.int .u8,.int .u8,.str],eq:=true }
theorem ty118_good:TGood Tryz.prog 118 ty118:=TGood.ofEq (by kernel_rfl) (by kernel_rfl) rfl rfl rfl (eqOK_term (by kernel_rfl) (by kernel_rfl) (by kernel_rfl) (by kernel_rfl) (by kernel_rfl) ty5_good rfl rfl ty116_good rfl rfl (by kernel_rfl) ty9_good rfl rfl (by kernel_rfl))
def tt:List (Nat×TyI):=[(0,ty0),(2,ty2),(3,ty3),(4,ty4),(5,ty5),(9,ty9),(12,ty12),(13,ty13),(15,ty15),(16,ty16),(17,ty17),(18,ty18),(19,ty19),(21,ty21),(22,ty22),(23,ty23),(24,ty24),(25,ty25),(26,ty26),(29,ty29),(30,ty30),(31,ty31),(32,ty32),(33,ty33),(34,ty34),(36,ty36),(37,ty37),(38,ty38),(39,ty39),(41,ty41),(42,ty42),(43,ty43),(47,ty47),(49,ty49),(51,ty51),(56,ty56),(57,ty57),(58,ty58),(59,ty59),(60,ty60),(61,ty61),(62,ty62),(68,ty68),(69,ty69),(70,ty70),(71,ty71),(72,ty72),(74,ty74),(75,ty75),(76,ty76),(77,ty77),(83,ty83),(85,ty85),(90,ty90),(91,ty91),(92,ty92),(93,ty93),(94,ty94),(95,ty95),(96,ty96),(97,ty97),(98,ty98),(105,ty105),(107,ty107),(110,ty110),(111,ty111),(115,ty115),(116,ty116),(117,ty117),(118,ty118),(119,ty119),(120,ty120),(131,ty131),(135,ty135),(136,ty136),(137,ty137),(139,ty139),(141,ty141),(142,ty142),(157,ty157),(158,ty158),(159,ty159),(160,ty160),(161,ty161),(162,ty162),(163,ty163),(164,ty164),(165,ty165),(166,ty166),(167,ty167),(169,ty169),(170,ty170),(180,ty180),(186,ty186),(188,ty188),(191,ty191),(192,ty192),(193,ty193),(204,ty204),(210,ty210),(215,ty215),(217,ty217),(228,ty228),(230,ty230),(234,ty234),(236,ty236),(238,ty238),(242,ty242),(253,ty253),(257,ty257),(260,ty260),(261,ty261),(263,ty263),(273,ty273),(275,ty275),(283,ty283),(295,ty295),(296,ty296),(300,ty300),(309,ty309),(312,ty312),(314,ty314),(316,ty316),(318,ty318),(320,ty320),(321,ty321),(326,ty326)]
theorem tt_ok:TabOK Tryz.prog tt:=⟨ty0_good,⟨ty2_good,⟨ty3_good,⟨ty4_good,⟨ty5_good,⟨ty9_good,⟨ty12_good,⟨ty13_good,⟨ty15_good,⟨ty16_good,⟨ty17_good,⟨ty18_good,⟨ty19_good,⟨ty21_good,⟨ty22_good,⟨ty23_good,⟨ty24_good,⟨ty25_good,⟨ty26_good,⟨ty29_good,⟨ty30_good,⟨ty31_good,⟨ty32_good,⟨ty33_good,⟨ty34_good,⟨ty36_good,⟨ty37_good,⟨ty38_good,⟨ty39_good,⟨ty41_good,⟨ty42_good,⟨ty43_good,⟨ty47_good,⟨ty49_good,⟨ty51_good,⟨ty56_good,⟨ty57_good,⟨ty58_good,⟨ty59_good,⟨ty60_good,⟨ty61_good,⟨ty62_good,⟨ty68_good,⟨ty69_good,⟨ty70_good,⟨ty71_good,⟨ty72_good,⟨ty74_good,⟨ty75_good,⟨ty76_good,⟨ty77_good,⟨ty83_good,⟨ty85_good,⟨ty90_good,⟨ty91_good,⟨ty92_good,⟨ty93_good,⟨ty94_good,⟨ty95_good,⟨ty96_good,⟨ty97_good,⟨ty98_good,⟨ty105_good,⟨ty107_good,⟨ty110_good,⟨ty111_good,⟨ty115_good,⟨ty116_good,⟨ty117_good,⟨ty118_good,⟨ty119_good,⟨ty120_good,⟨ty131_good,⟨ty135_good,⟨ty136_good,⟨ty137_good,⟨ty139_good,⟨ty141_good,⟨ty142_good,⟨ty157_good,⟨ty158_good,⟨ty159_good,⟨ty160_good,⟨ty161_good,⟨ty162_good,⟨ty163_good,⟨ty164_good,⟨ty165_good,⟨ty166_good,⟨ty167_good,⟨ty169_good,⟨ty170_good,⟨ty180_good,⟨ty186_good,⟨ty188_good,⟨ty191_good,⟨ty192_good,⟨ty193_good,⟨ty204_good,⟨ty210_good,⟨ty215_good,⟨ty217_good,⟨ty228_good,⟨ty230_good,⟨ty234_good,⟨ty236_good,⟨ty238_good,⟨ty242_good,⟨ty253_good,⟨ty257_good,⟨ty260_good,⟨ty261_good,⟨ty263_good,⟨ty273_good,⟨ty275_good,⟨ty283_good,⟨ty295_good,⟨ty296_good,⟨ty300_good,⟨ty309_good,⟨ty312_good,⟨ty314_good,⟨ty316_good,⟨ty318_good,⟨ty320_good,⟨ty321_good,⟨ty326_good,trivial⟩⟩⟩⟩⟩⟩⟩⟩⟩⟩⟩⟩⟩⟩⟩⟩⟩⟩⟩⟩⟩⟩⟩⟩⟩⟩⟩⟩⟩⟩⟩⟩⟩⟩⟩⟩⟩⟩⟩⟩⟩⟩⟩⟩⟩⟩⟩⟩⟩⟩⟩⟩⟩⟩⟩⟩⟩⟩⟩⟩⟩⟩⟩⟩⟩⟩⟩⟩⟩⟩⟩⟩⟩⟩⟩⟩⟩⟩⟩⟩⟩⟩⟩⟩⟩⟩⟩⟩⟩⟩⟩⟩⟩⟩⟩⟩⟩⟩⟩⟩⟩⟩⟩⟩⟩⟩⟩⟩⟩⟩⟩⟩⟩⟩⟩⟩⟩⟩⟩⟩⟩⟩⟩⟩⟩⟩⟩
theorem tt_in:FieldsIn tt:=fieldsIn_of (by kernel_rfl)
end Go.Proofs.YtjgpenfndnhdnaaGreat
