/- R19 -/
import Derived.Test.YtokefihiadbkbaaGreatDoorTt
set_option linter.unusedVariables false
set_option linter.unusedSimpArgs false
set_option maxRecDepth 100000
namespace Go.Proofs.YtokefihiadbkbaaGreatDoor
open Go Go.SX
def Ip9 (W0:PW) (M:Nat→Prop) (Post:Value→PW→Prop):Prop:=
 ∀(s1:Sl) (W2:PW),
 Ext W0 W2→
 SX.Own W2 131 2 s1 [[.string (ByteArray.mk #[48]),.string (ByteArray.mk #[49])]]→
 Fr W0 W0 s1→
 Aa1 Tryz.prog W0 M 55 [s1.v] W2 fun v3 W4=>
 ∃s5:Sl,
 ∃i6:Int,
 v3 = .tuple ⟨[s5.v,.int .i64 i6]⟩∧
 Aa1 Tryz.prog W0 M 44 [.int .i64 0] W4 fun v7 W8=>
 ∃s9:Sl,
 v7 = .agg ⟨[s9.v]⟩∧
 Aa1 Tryz.prog W0 M 58 [.agg ⟨[s9.v]⟩,.agg ⟨[s9.v]⟩] W8 fun v10 W11=>
 ∃s12:Sl,
 ∃b13:Bool,
 v10 = .tuple ⟨[.agg ⟨[s12.v]⟩,.bool b13]⟩∧
 Aa1 Tryz.prog W0 M 59 [.agg ⟨[s12.v]⟩,.agg ⟨[s9.v]⟩] W11 fun v14 W15=>
 ∃s16:Sl,
 v14 = .agg ⟨[s16.v]⟩∧
 Aa1 Tryz.prog W0 M 18 [.agg ⟨[s16.v]⟩,s5.v] W15 fun v17 W18=>
 ∃s19:Sl,
 ∃b20:Bool,
 v17 = .tuple ⟨[s19.v,.bool b20]⟩∧
 (i6=0→
 (b13=true→
 (b20=true→
 ((s19.2:Int)=3→
 inB s19 0∧
 ∃s21:Sl,
 ∃b22:Bool,
 ∃s23:Sl,
 Aa7 W18 s19 3 0 0 [s21.v,.bool b22,s23.v]∧
 Aa1 Tryz.prog W0 M 60 [.agg ⟨[s21.v,.bool b22,s23.v]⟩] W18 fun v24 W25=>
 ∃i26:Int,
 v24 = .int .i64 i26∧
 (i26=0→
 inB s19 1∧
 ∃s27:Sl,
 ∃b28:Bool,
 ∃s29:Sl,
 Aa7 W25 s19 3 1 0 [s27.v,.bool b28,s29.v]∧
 Aa1 Tryz.prog W0 M 38 [.agg ⟨[s27.v,.bool b28,s29.v]⟩] W25 fun v30 W31=>
 ∃t32:ByteArray,
 v30 = .string t32∧
 (t32=(ByteArray.mk #[45,49,47,50])→
 inB s19 2∧
 ∃s33:Sl,
 ∃b34:Bool,
 ∃s35:Sl,
 Aa7 W31 s19 3 2 0 [s33.v,.bool b34,s35.v]∧
 Aa1 Tryz.prog W0 M 60 [.agg ⟨[s33.v,.bool b34,s35.v]⟩] W31 fun v36 W37=>
 ∃i38:Int,v36 = .int .i64 i38∧∀(W39:PW),Ext W37 W39→Post (.bool (decide (i38=0))) W39)∧
 (¬t32=(ByteArray.mk #[45,49,47,50])→∀(W40:PW),Ext W31 W40→Post (.bool false) W40))∧
 (¬i26=0→∀(W41:PW),Ext W25 W41→Post (.bool false) W41))∧
 (¬(s19.2:Int)=3→∀(W42:PW),Ext W18 W42→Post (.bool false) W42))∧
 (b20=false→∀(W43:PW),Ext W18 W43→Post (.bool false) W43))∧
 (b13=false→∀(W44:PW),Ext W18 W44→Post (.bool false) W44))∧
 (¬i6=0→∀(W45:PW),Ext W18 W45→Post (.bool false) W45)
theorem Ii2 (W0:PW) (M:Nat→Prop) (Post:Value→PW→Prop) (h:Ip9 W0 M Post):Aa0 Tryz.prog 13 [] W0 M Post:=
 Aa3 rfl Aa9 Aa8 Tryz.func13 (cuts:=[]) rfl rfl (Nat.le_of_ble_eq_true rfl) (Eq.mpr (by kernel_rfl) h)
def Jr8 (W0:PW) (M:Nat→Prop) (a0:Sl) (a1:Sl) (a2:Int) (Post:Value→PW→Prop):Prop:=
 Aa1 Tryz.prog W0 M 10 [a0.v,.int .i64 8] W0 fun v1 W2=>
 ∃s3:Sl,
 ∃s4:Sl,
 ∃b5:Bool,
 v1 = .tuple ⟨[.agg ⟨[s3.v]⟩,s4.v,.bool b5]⟩∧
 Aa1 Tryz.prog W0 M 11 [a1.v] W2 fun v6 W7=>
 ∃s8:Sl,
 ∃s9:Sl,
 ∃b10:Bool,
 v6 = .tuple ⟨[s8.v,s9.v,.bool b10]⟩∧
 ((!b5)=true→Aa1 Tryz.prog W0 M 13 [] W7 fun v11 W12=>∃b13:Bool,v11 = .bool b13∧∀(W14:PW),Ext W12 W14→Post (.bool b13) W14)∧
 ((!b5)=false→
 ((!b10)=true→Aa1 Tryz.prog W0 M 13 [] W7 fun v15 W16=>∃b17:Bool,v15 = .bool b17∧∀(W18:PW),Ext W16 W18→Post (.bool b17) W18)∧
 ((!b10)=false→
 Aa1 Tryz.prog W0 M 13 [] W7 fun v19 W20=>
 ∃b21:Bool,
 v19 = .bool b21∧
 ((!b21)=true→Aa1 Tryz.prog W0 M 13 [] W20 fun v22 W23=>∃b24:Bool,v22 = .bool b24∧∀(W25:PW),Ext W23 W25→Post (.bool b24) W25)∧
 ((!b21)=false→
 Aa1 Tryz.prog W0 M 14 [.agg ⟨[s3.v]⟩] W20 fun v26 W27=>
 ∃i28:Int,
 v26 = .int .i64 i28∧
 ((s8.2:Int)<i28→Aa1 Tryz.prog W0 M 13 [] W27 fun v29 W30=>∃b31:Bool,v29 = .bool b31∧∀(W32:PW),Ext W30 W32→Post (.bool b31) W32)∧
 (¬(s8.2:Int)<i28→
 Aa1 Tryz.prog W0 M 16 [s4.v,.int .i64 0] W27 fun v33 W34=>
 ∃i35:Int,
 v33 = .int .i64 i35∧
 I64 (i35+1)∧
 Aa1 Tryz.prog W0 M 16 [s4.v,.int .i64 1] W34 fun v36 W37=>
 ∃i38:Int,
 v36 = .int .i64 i38∧
 I64 (i38+1)∧
 I64 ((i35+1)*(i38+1))∧
 Aa1 Tryz.prog W0 M 16 [s4.v,.int .i64 2] W37 fun v39 W40=>
 ∃i41:Int,
 v39 = .int .i64 i41∧
 I64 (i41+1)∧
 I64 ((i35+1)*(i38+1)*(i41+1))∧
 (60<(i35+1)*(i38+1)*(i41+1)→Aa1 Tryz.prog W0 M 13 [] W40 fun v42 W43=>∃b44:Bool,v42 = .bool b44∧∀(W45:PW),Ext W43 W45→Post (.bool b44) W45)∧
 (¬60<(i35+1)*(i38+1)*(i41+1)→
 Aa1 Tryz.prog W0 M 29 [.int .i64 a2,.int .i64 0,.int .i64 7] W40 fun v46 W47=>
 ∃i48:Int,
 v46 = .int .i64 i48∧
 Aa1 Tryz.prog W0 M 18 [.agg ⟨[s3.v]⟩,s8.v] W47 fun v49 W50=>
 ∃s51:Sl,
 ∃b52:Bool,
 v49 = .tuple ⟨[s51.v,.bool b52]⟩∧
 ∃(F53:List PL→PW→Prop),
 ∃(F54:List PL→PW→Nat),
 F53
 [.val (.int .i64 0),.val (.int .i64 1),.val (.int .i64 0),
 .cells
 [.slice none 0 0,.bool false,.slice none 0 0,.slice none 0 0,.bool false,.slice none 0 0,.slice none 0 0,
 .bool false,.slice none 0 0]]
 W50∧
 ∀(s55:Sl) (b56:Bool) (s57 s58:Sl) (b59:Bool) (s60 s61:Sl) (b62:Bool) (s63:Sl) (i64 i65 i66:Int) (W67:PW),
 F53
 [.val (.int .i64 i64),.val (.int .i64 i65),.val (.int .i64 i66),
 .cells [s55.v,.bool b56,s57.v,s58.v,.bool b59,s60.v,s61.v,.bool b62,s63.v]]
 W67→
 (i66<(s8.2:Int)→
 inB s8 i66∧
 ∃s68:Sl,
 ∃b69:Bool,
 ∃s70:Sl,
 Aa7 W67 s8 6 (Int.toNat i66) 0 [s68.v,.bool b69,s70.v]∧
 (0≤i66∧i66<3)∧
 Int.toNat i66<3∧
 ((True∧
 (Int.toNat i66=0→
 (0≤IntKind.wrap .u64 i66∧IntKind.wrap .u64 i66≤(↑(IntKind.bits .i64):Int))∧
 (bits BinOp.and .i64 (Ah0 i48 (Int.toNat (IntKind.wrap .u64 i66))) (1:Int)=1→
 inB s8 i66∧
 ∃s71:Sl,
 ∃b72:Bool,
 ∃s73:Sl,
 Aa7 W67 s8 6 (Int.toNat i66) 3 [s71.v,.bool b72,s73.v]∧
 (0≤i66∧i66<3)∧
 Int.toNat i66<3∧
 ((True∧
 (Int.toNat i66=0→
 Aa1 Tryz.prog W0 M 30 [.agg ⟨[s3.v]⟩,.int .i64 i66] W67 fun v74 W75=>
 ∃i76:Int,
 v74 = .int .i64 i76∧
 I64 (i65*i76)∧
 I64 (i64+i65*i76)∧
 Aa1 Tryz.prog W0 M 30 [.agg ⟨[s3.v]⟩,.int .i64 i66] W75 fun v77 W78=>
 ∃i79:Int,
 v77 = .int .i64 i79∧
 I64 (i79+1)∧
 I64 (i65*(i79+1))∧
 I64 (i66+1)∧
 stp F53 F54
 [.val (.int .i64 (i64+i65*i76)),.val (.int .i64 (i65*(i79+1))),.val (.int .i64 (i66+1)),
 .cells [s71.v,.bool b72,s73.v,s58.v,.bool b59,s60.v,s61.v,.bool b62,s63.v]]
 W78
 [.val (.int .i64 i64),.val (.int .i64 i65),.val (.int .i64 i66),
 .cells [s55.v,.bool b56,s57.v,s58.v,.bool b59,s60.v,s61.v,.bool b62,s63.v]]
 W67))∧
 (Int.toNat i66=1→
 Aa1 Tryz.prog W0 M 30 [.agg ⟨[s3.v]⟩,.int .i64 i66] W67 fun v80 W81=>
 ∃i82:Int,
 v80 = .int .i64 i82∧
 I64 (i65*i82)∧
 I64 (i64+i65*i82)∧
 Aa1 Tryz.prog W0 M 30 [.agg ⟨[s3.v]⟩,.int .i64 i66] W81 fun v83 W84=>
 ∃i85:Int,
 v83 = .int .i64 i85∧
 I64 (i85+1)∧
 I64 (i65*(i85+1))∧
 I64 (i66+1)∧
 stp F53 F54
 [.val (.int .i64 (i64+i65*i82)),.val (.int .i64 (i65*(i85+1))),.val (.int .i64 (i66+1)),
 .cells [s68.v,.bool b69,s70.v,s71.v,.bool b72,s73.v,s61.v,.bool b62,s63.v]]
 W84
 [.val (.int .i64 i64),.val (.int .i64 i65),.val (.int .i64 i66),
 .cells [s55.v,.bool b56,s57.v,s58.v,.bool b59,s60.v,s61.v,.bool b62,s63.v]]
 W67))∧
 (Int.toNat i66=2→
 Aa1 Tryz.prog W0 M 30 [.agg ⟨[s3.v]⟩,.int .i64 i66] W67 fun v86 W87=>
 ∃i88:Int,
 v86 = .int .i64 i88∧
 I64 (i65*i88)∧
 I64 (i64+i65*i88)∧
 Aa1 Tryz.prog W0 M 30 [.agg ⟨[s3.v]⟩,.int .i64 i66] W87 fun v89 W90=>
 ∃i91:Int,
 v89 = .int .i64 i91∧
 I64 (i91+1)∧
 I64 (i65*(i91+1))∧
 I64 (i66+1)∧
 stp F53 F54
 [.val (.int .i64 (i64+i65*i88)),.val (.int .i64 (i65*(i91+1))),.val (.int .i64 (i66+1)),
 .cells [s68.v,.bool b69,s70.v,s58.v,.bool b59,s60.v,s71.v,.bool b72,s73.v]]
 W90
 [.val (.int .i64 i64),.val (.int .i64 i65),.val (.int .i64 i66),
 .cells [s55.v,.bool b56,s57.v,s58.v,.bool b59,s60.v,s61.v,.bool b62,s63.v]]
 W67))∧
 (¬bits BinOp.and .i64 (Ah0 i48 (Int.toNat (IntKind.wrap .u64 i66))) (1:Int)=1→
 Aa1 Tryz.prog W0 M 30 [.agg ⟨[s3.v]⟩,.int .i64 i66] W67 fun v92 W93=>
 ∃i94:Int,
 v92 = .int .i64 i94∧
 I64 (i94+1)∧
 I64 (i65*(i94+1))∧
 I64 (i66+1)∧
 stp F53 F54
 [.val (.int .i64 i64),.val (.int .i64 (i65*(i94+1))),.val (.int .i64 (i66+1)),
 .cells [s68.v,.bool b69,s70.v,s58.v,.bool b59,s60.v,s61.v,.bool b62,s63.v]]
 W93
 [.val (.int .i64 i64),.val (.int .i64 i65),.val (.int .i64 i66),
 .cells [s55.v,.bool b56,s57.v,s58.v,.bool b59,s60.v,s61.v,.bool b62,s63.v]]
 W67)))∧
 (Int.toNat i66=1→
 (0≤IntKind.wrap .u64 i66∧IntKind.wrap .u64 i66≤(↑(IntKind.bits .i64):Int))∧
 (bits BinOp.and .i64 (Ah0 i48 (Int.toNat (IntKind.wrap .u64 i66))) (1:Int)=1→
 inB s8 i66∧
 ∃s95:Sl,
 ∃b96:Bool,
 ∃s97:Sl,
 Aa7 W67 s8 6 (Int.toNat i66) 3 [s95.v,.bool b96,s97.v]∧
 (0≤i66∧i66<3)∧
 Int.toNat i66<3∧
 ((True∧
 (Int.toNat i66=0→
 Aa1 Tryz.prog W0 M 30 [.agg ⟨[s3.v]⟩,.int .i64 i66] W67 fun v98 W99=>
 ∃i100:Int,
 v98 = .int .i64 i100∧
 I64 (i65*i100)∧
 I64 (i64+i65*i100)∧
 Aa1 Tryz.prog W0 M 30 [.agg ⟨[s3.v]⟩,.int .i64 i66] W99 fun v101 W102=>
 ∃i103:Int,
 v101 = .int .i64 i103∧
 I64 (i103+1)∧
 I64 (i65*(i103+1))∧
 I64 (i66+1)∧
 stp F53 F54
 [.val (.int .i64 (i64+i65*i100)),.val (.int .i64 (i65*(i103+1))),.val (.int .i64 (i66+1)),
 .cells [s95.v,.bool b96,s97.v,s68.v,.bool b69,s70.v,s61.v,.bool b62,s63.v]]
 W102
 [.val (.int .i64 i64),.val (.int .i64 i65),.val (.int .i64 i66),
 .cells [s55.v,.bool b56,s57.v,s58.v,.bool b59,s60.v,s61.v,.bool b62,s63.v]]
 W67))∧
 (Int.toNat i66=1→
 Aa1 Tryz.prog W0 M 30 [.agg ⟨[s3.v]⟩,.int .i64 i66] W67 fun v104 W105=>
 ∃i106:Int,
 v104 = .int .i64 i106∧
 I64 (i65*i106)∧
 I64 (i64+i65*i106)∧
 Aa1 Tryz.prog W0 M 30 [.agg ⟨[s3.v]⟩,.int .i64 i66] W105 fun v107 W108=>
 ∃i109:Int,
 v107 = .int .i64 i109∧
 I64 (i109+1)∧
 I64 (i65*(i109+1))∧
 I64 (i66+1)∧
 stp F53 F54
 [.val (.int .i64 (i64+i65*i106)),.val (.int .i64 (i65*(i109+1))),.val (.int .i64 (i66+1)),
 .cells [s55.v,.bool b56,s57.v,s95.v,.bool b96,s97.v,s61.v,.bool b62,s63.v]]
 W108
 [.val (.int .i64 i64),.val (.int .i64 i65),.val (.int .i64 i66),
 .cells [s55.v,.bool b56,s57.v,s58.v,.bool b59,s60.v,s61.v,.bool b62,s63.v]]
 W67))∧
 (Int.toNat i66=2→
 Aa1 Tryz.prog W0 M 30 [.agg ⟨[s3.v]⟩,.int .i64 i66] W67 fun v110 W111=>
 ∃i112:Int,
 v110 = .int .i64 i112∧
 I64 (i65*i112)∧
 I64 (i64+i65*i112)∧
 Aa1 Tryz.prog W0 M 30 [.agg ⟨[s3.v]⟩,.int .i64 i66] W111 fun v113 W114=>
 ∃i115:Int,
 v113 = .int .i64 i115∧
 I64 (i115+1)∧
 I64 (i65*(i115+1))∧
 I64 (i66+1)∧
 stp F53 F54
 [.val (.int .i64 (i64+i65*i112)),.val (.int .i64 (i65*(i115+1))),.val (.int .i64 (i66+1)),
 .cells [s55.v,.bool b56,s57.v,s68.v,.bool b69,s70.v,s95.v,.bool b96,s97.v]]
 W114
 [.val (.int .i64 i64),.val (.int .i64 i65),.val (.int .i64 i66),
 .cells [s55.v,.bool b56,s57.v,s58.v,.bool b59,s60.v,s61.v,.bool b62,s63.v]]
 W67))∧
 (¬bits BinOp.and .i64 (Ah0 i48 (Int.toNat (IntKind.wrap .u64 i66))) (1:Int)=1→
 Aa1 Tryz.prog W0 M 30 [.agg ⟨[s3.v]⟩,.int .i64 i66] W67 fun v116 W117=>
 ∃i118:Int,
 v116 = .int .i64 i118∧
 I64 (i118+1)∧
 I64 (i65*(i118+1))∧
 I64 (i66+1)∧
 stp F53 F54
 [.val (.int .i64 i64),.val (.int .i64 (i65*(i118+1))),.val (.int .i64 (i66+1)),
 .cells [s55.v,.bool b56,s57.v,s68.v,.bool b69,s70.v,s61.v,.bool b62,s63.v]]
 W117
 [.val (.int .i64 i64),.val (.int .i64 i65),.val (.int .i64 i66),
 .cells [s55.v,.bool b56,s57.v,s58.v,.bool b59,s60.v,s61.v,.bool b62,s63.v]]
 W67)))∧
 (Int.toNat i66=2→
 (0≤IntKind.wrap .u64 i66∧IntKind.wrap .u64 i66≤(↑(IntKind.bits .i64):Int))∧
 (bits BinOp.and .i64 (Ah0 i48 (Int.toNat (IntKind.wrap .u64 i66))) (1:Int)=1→
 inB s8 i66∧
 ∃s119:Sl,
 ∃b120:Bool,
 ∃s121:Sl,
 Aa7 W67 s8 6 (Int.toNat i66) 3 [s119.v,.bool b120,s121.v]∧
 (0≤i66∧i66<3)∧
 Int.toNat i66<3∧
 ((True∧
 (Int.toNat i66=0→
 Aa1 Tryz.prog W0 M 30 [.agg ⟨[s3.v]⟩,.int .i64 i66] W67 fun v122 W123=>
 ∃i124:Int,
 v122 = .int .i64 i124∧
 I64 (i65*i124)∧
 I64 (i64+i65*i124)∧
 Aa1 Tryz.prog W0 M 30 [.agg ⟨[s3.v]⟩,.int .i64 i66] W123 fun v125 W126=>
 ∃i127:Int,
 v125 = .int .i64 i127∧
 I64 (i127+1)∧
 I64 (i65*(i127+1))∧
 I64 (i66+1)∧
 stp F53 F54
 [.val (.int .i64 (i64+i65*i124)),.val (.int .i64 (i65*(i127+1))),.val (.int .i64 (i66+1)),
 .cells [s119.v,.bool b120,s121.v,s58.v,.bool b59,s60.v,s68.v,.bool b69,s70.v]]
 W126
 [.val (.int .i64 i64),.val (.int .i64 i65),.val (.int .i64 i66),
 .cells [s55.v,.bool b56,s57.v,s58.v,.bool b59,s60.v,s61.v,.bool b62,s63.v]]
 W67))∧
 (Int.toNat i66=1→
 Aa1 Tryz.prog W0 M 30 [.agg ⟨[s3.v]⟩,.int .i64 i66] W67 fun v128 W129=>
 ∃i130:Int,
 v128 = .int .i64 i130∧
 I64 (i65*i130)∧
 I64 (i64+i65*i130)∧
 Aa1 Tryz.prog W0 M 30 [.agg ⟨[s3.v]⟩,.int .i64 i66] W129 fun v131 W132=>
 ∃i133:Int,
 v131 = .int .i64 i133∧
 I64 (i133+1)∧
 I64 (i65*(i133+1))∧
 I64 (i66+1)∧
 stp F53 F54
 [.val (.int .i64 (i64+i65*i130)),.val (.int .i64 (i65*(i133+1))),.val (.int .i64 (i66+1)),
 .cells [s55.v,.bool b56,s57.v,s119.v,.bool b120,s121.v,s68.v,.bool b69,s70.v]]
 W132
 [.val (.int .i64 i64),.val (.int .i64 i65),.val (.int .i64 i66),
 .cells [s55.v,.bool b56,s57.v,s58.v,.bool b59,s60.v,s61.v,.bool b62,s63.v]]
 W67))∧
 (Int.toNat i66=2→
 Aa1 Tryz.prog W0 M 30 [.agg ⟨[s3.v]⟩,.int .i64 i66] W67 fun v134 W135=>
 ∃i136:Int,
 v134 = .int .i64 i136∧
 I64 (i65*i136)∧
 I64 (i64+i65*i136)∧
 Aa1 Tryz.prog W0 M 30 [.agg ⟨[s3.v]⟩,.int .i64 i66] W135 fun v137 W138=>
 ∃i139:Int,
 v137 = .int .i64 i139∧
 I64 (i139+1)∧
 I64 (i65*(i139+1))∧
 I64 (i66+1)∧
 stp F53 F54
 [.val (.int .i64 (i64+i65*i136)),.val (.int .i64 (i65*(i139+1))),.val (.int .i64 (i66+1)),
 .cells [s55.v,.bool b56,s57.v,s58.v,.bool b59,s60.v,s119.v,.bool b120,s121.v]]
 W138
 [.val (.int .i64 i64),.val (.int .i64 i65),.val (.int .i64 i66),
 .cells [s55.v,.bool b56,s57.v,s58.v,.bool b59,s60.v,s61.v,.bool b62,s63.v]]
 W67))∧
 (¬bits BinOp.and .i64 (Ah0 i48 (Int.toNat (IntKind.wrap .u64 i66))) (1:Int)=1→
 Aa1 Tryz.prog W0 M 30 [.agg ⟨[s3.v]⟩,.int .i64 i66] W67 fun v140 W141=>
 ∃i142:Int,
 v140 = .int .i64 i142∧
 I64 (i142+1)∧
 I64 (i65*(i142+1))∧
 I64 (i66+1)∧
 stp F53 F54
 [.val (.int .i64 i64),.val (.int .i64 (i65*(i142+1))),.val (.int .i64 (i66+1)),
 .cells [s55.v,.bool b56,s57.v,s58.v,.bool b59,s60.v,s68.v,.bool b69,s70.v]]
 W141
 [.val (.int .i64 i64),.val (.int .i64 i65),.val (.int .i64 i66),
 .cells [s55.v,.bool b56,s57.v,s58.v,.bool b59,s60.v,s61.v,.bool b62,s63.v]]
 W67)))∧
 (¬i66<(s8.2:Int)→
 (b52=true→
 ((s51.2:Int)=i65→
 (i64<(s51.2:Int)→
 inB s51 i64∧
 ∃s143:Sl,
 ∃b144:Bool,
 ∃s145:Sl,
 Aa7 W67 s51 3 (Int.toNat i64) 0 [s143.v,.bool b144,s145.v]∧
 Aa1 Tryz.prog W0 M 31
 [.agg ⟨[s3.v]⟩,.agg ⟨[s55.v,.bool b56,s57.v,s58.v,.bool b59,s60.v,s61.v,.bool b62,s63.v]⟩] W67
 fun v146 W147=>
 ∃s148:Sl,
 ∃b149:Bool,
 ∃s150:Sl,
 v146 = .agg ⟨[s148.v,.bool b149,s150.v]⟩∧
 Ext W67 W147∧
 Aa1 Tryz.prog W0 M 20 [.agg ⟨[s143.v,.bool b144,s145.v]⟩,.agg ⟨[s148.v,.bool b149,s150.v]⟩] W147
 fun v151 W152=>∃i153:Int,v151 = .int .i64 i153∧∀(W154:PW),Ext W152 W154→Post (.bool (decide (i153=0))) W154)∧
 (¬i64<(s51.2:Int)→Ext W67 W67∧∀(W155:PW),Ext W67 W155→Post (.bool false) W155))∧
 (¬(s51.2:Int)=i65→Ext W67 W67∧∀(W156:PW),Ext W67 W156→Post (.bool false) W156))∧
 (b52=false→Ext W67 W67∧∀(W157:PW),Ext W67 W157→Post (.bool false) W157)))))))
theorem Jr7 (W0:PW) (M:Nat→Prop) (a0:Sl) (a1:Sl) (a2:Int) (Post:Value→PW→Prop) (h:Jr8 W0 M a0 a1 a2 Post):Aa0 Tryz.prog 5 [a0.v,a1.v,.int .i64 a2] W0 M Post:=
 Aa3 rfl Aa9 Aa8 Tryz.func5 (cuts:=[]) rfl rfl (Nat.le_of_ble_eq_true rfl) (Eq.mpr (by kernel_rfl) h)
end Go.Proofs.YtokefihiadbkbaaGreatDoor
