/- R19 -/
import Derived.Test.YtokefihiadbkbaaGreatDoorTt
set_option linter.unusedVariables false
set_option linter.unusedSimpArgs false
set_option maxRecDepth 100000
namespace Go.Proofs.YtokefihiadbkbaaGreatDoor
open Go Go.SX
def Ip9 (W0:PW) (M:Nat→Prop) (Post:Value→PW→Prop):Prop:=
 ∀(s1:Sl) (W2:PW),
 Ext W0 W2→
 SX.Own W2 131 2 s1 [[.string (ByteArray.mk #[48]),.string (ByteArray.mk #[49])]]→
 Fr W0 W0 s1→
 Aa1 Tryz.prog W0 M 55 [s1.v] W2 fun v3 W4=>
 ∃s5:Sl,
 ∃i6:Int,
 v3 = .tuple ⟨[s5.v,.int .i64 i6]⟩∧
 Aa1 Tryz.prog W0 M 44 [.int .i64 0] W4 fun v7 W8=>
 ∃s9:Sl,
 v7 = .agg ⟨[s9.v]⟩∧
 Aa1 Tryz.prog W0 M 58 [.agg ⟨[s9.v]⟩,.agg ⟨[s9.v]⟩] W8 fun v10 W11=>
 ∃s12:Sl,
 ∃b13:Bool,
 v10 = .tuple ⟨[.agg ⟨[s12.v]⟩,.bool b13]⟩∧
 Aa1 Tryz.prog W0 M 59 [.agg ⟨[s12.v]⟩,.agg ⟨[s9.v]⟩] W11 fun v14 W15=>
 ∃s16:Sl,
 v14 = .agg ⟨[s16.v]⟩∧
 Aa1 Tryz.prog W0 M 18 [.agg ⟨[s16.v]⟩,s5.v] W15 fun v17 W18=>
 ∃s19:Sl,
 ∃b20:Bool,
 v17 = .tuple ⟨[s19.v,.bool b20]⟩∧
 (i6=0→
 (b13=true→
 (b20=true→
 ((s19.2:Int)=3→
 inB s19 0∧
 ∃s21:Sl,
 ∃b22:Bool,
 ∃s23:Sl,
 Aa7 W18 s19 3 0 0 [s21.v,.bool b22,s23.v]∧
 Aa1 Tryz.prog W0 M 60 [.agg ⟨[s21.v,.bool b22,s23.v]⟩] W18 fun v24 W25=>
 ∃i26:Int,
 v24 = .int .i64 i26∧
 (i26=0→
 inB s19 1∧
 ∃s27:Sl,
 ∃b28:Bool,
 ∃s29:Sl,
 Aa7 W25 s19 3 1 0 [s27.v,.bool b28,s29.v]∧
 Aa1 Tryz.prog W0 M 38 [.agg ⟨[s27.v,.bool b28,s29.v]⟩] W25 fun v30 W31=>
 ∃t32:ByteArray,
 v30 = .string t32∧
 (t32=(ByteArray.mk #[45,49,47,50])→
 inB s19 2∧
 ∃s33:Sl,
 ∃b34:Bool,
 ∃s35:Sl,
 Aa7 W31 s19 3 2 0 [s33.v,.bool b34,s35.v]∧
 Aa1 Tryz.prog W0 M 60 [.agg ⟨[s33.v,.bool b34,s35.v]⟩] W31 fun v36 W37=>
 ∃i38:Int,v36 = .int .i64 i38∧∀(W39:PW),Ext W37 W39→Post (.bool (decide (i38=0))) W39)∧
 (¬t32=(ByteArray.mk #[45,49,47,50])→∀(W40:PW),Ext W31 W40→Post (.bool false) W40))∧
 (¬i26=0→∀(W41:PW),Ext W25 W41→Post (.bool false) W41))∧
 (¬(s19.2:Int)=3→∀(W42:PW),Ext W18 W42→Post (.bool false) W42))∧
 (b20=false→∀(W43:PW),Ext W18 W43→Post (.bool false) W43))∧
 (b13=false→∀(W44:PW),Ext W18 W44→Post (.bool false) W44))∧
 (¬i6=0→∀(W45:PW),Ext W18 W45→Post (.bool false) W45)
theorem Ii2 (W0:PW) (M:Nat→Prop) (Post:Value→PW→Prop) (h:Ip9 W0 M Post):Aa0 Tryz.prog 13 [] W0 M Post:=
 Aa3 rfl Aa9 Aa8 Tryz.func13 (cuts:=[]) rfl rfl (Nat.le_of_ble_eq_true rfl) (Eq.mpr (by kernel_rfl) h)
def Ji8 (W0:PW) (M:Nat→Prop) (a0_0:Sl) (a1:Sl) (Post:Value→PW→Prop):Prop:=
 ∃(F1:List PL→PW→Prop),
 ∃(F2:List PL→PW→Nat),
 F1 [PL.row [],PL.val (Value.int .i64 0)] W0∧
 ∀(l3:List (List Value)) (i4:Int) (W5:PW),
 F1 [PL.row l3,PL.val (Value.int .i64 i4)] W5→
 (i4<(a1.2:Int)→
 Aa1 Tryz.prog W0 M 30 [Value.agg ⟨[a0_0.v]⟩,Value.int .i64 i4] W5 fun v6 W7=>
 ∃i8:Int,
 v6=Value.int .i64 i8∧(List.length l3+List.length [[Value.int .i64 i8]])*8≤140737488355328∧I64 (i4+1)∧stp F1 F2 [PL.row (l3 ++ [[Value.int .i64 i8]]),PL.val (Value.int .i64 (i4+1))] W7 [PL.row l3,PL.val (Value.int .i64 i4)] W5)∧
 (¬i4<(a1.2:Int)→∀(s9:Sl) (W10:PW),Ext W5 W10→SX.Own W10 3 1 s9 l3→Fr W0 W5 s9→∀(W11:PW),Ext W10 W11→Post s9.v W11)
theorem Jh5 (W0:PW) (M:Nat→Prop) (a0_0:Sl) (a1:Sl) (Post:Value→PW→Prop) (h:Ji8 W0 M a0_0 a1 Post):Aa0 Tryz.prog 40 [Value.agg #[a0_0.v],a1.v] W0 M Post:=
 Aa3 rfl Aa9 Aa8 Tryz.func40 (cuts:=[]) rfl rfl (Nat.le_of_ble_eq_true rfl) (Eq.mpr (by kernel_rfl) h)
def Jh7 (W0:PW) (M:Nat→Prop) (a0:Sl) (a1:Sl) (a2_0:Int) (a2_1:Int) (a2_2:Int) (Post:Value→PW→Prop):Prop:=
 Aa1 Tryz.prog W0 M 10 [a0.v,.int .i64 8] W0 fun v1 W2=>
 ∃s3:Sl,
 ∃s4:Sl,
 ∃b5:Bool,
 v1 = .tuple ⟨[.agg ⟨[s3.v]⟩,s4.v,.bool b5]⟩∧
 Aa1 Tryz.prog W0 M 11 [a1.v] W2 fun v6 W7=>
 ∃s8:Sl,
 ∃s9:Sl,
 ∃b10:Bool,
 v6 = .tuple ⟨[s8.v,s9.v,.bool b10]⟩∧
 ((!b5)=true→Aa1 Tryz.prog W0 M 13 [] W7 fun v11 W12=>∃b13:Bool,v11 = .bool b13∧∀(W14:PW),Ext W12 W14→Post (.bool b13) W14)∧
 ((!b5)=false→
 ((!b10)=true→Aa1 Tryz.prog W0 M 13 [] W7 fun v15 W16=>∃b17:Bool,v15 = .bool b17∧∀(W18:PW),Ext W16 W18→Post (.bool b17) W18)∧
 ((!b10)=false→
 Aa1 Tryz.prog W0 M 13 [] W7 fun v19 W20=>
 ∃b21:Bool,
 v19 = .bool b21∧
 ((!b21)=true→Aa1 Tryz.prog W0 M 13 [] W20 fun v22 W23=>∃b24:Bool,v22 = .bool b24∧∀(W25:PW),Ext W23 W25→Post (.bool b24) W25)∧
 ((!b21)=false→
 Aa1 Tryz.prog W0 M 14 [.agg ⟨[s3.v]⟩] W20 fun v26 W27=>
 ∃i28:Int,
 v26 = .int .i64 i28∧
 ((s8.2:Int)<i28→Aa1 Tryz.prog W0 M 13 [] W27 fun v29 W30=>∃b31:Bool,v29 = .bool b31∧∀(W32:PW),Ext W30 W32→Post (.bool b31) W32)∧
 (¬(s8.2:Int)<i28→
 Aa1 Tryz.prog W0 M 16 [s4.v,.int .i64 0] W27 fun v33 W34=>
 ∃i35:Int,
 v33 = .int .i64 i35∧
 I64 (i35+1)∧
 Aa1 Tryz.prog W0 M 16 [s4.v,.int .i64 1] W34 fun v36 W37=>
 ∃i38:Int,
 v36 = .int .i64 i38∧
 I64 (i38+1)∧
 I64 ((i35+1)*(i38+1))∧
 Aa1 Tryz.prog W0 M 16 [s4.v,.int .i64 2] W37 fun v39 W40=>
 ∃i41:Int,
 v39 = .int .i64 i41∧
 I64 (i41+1)∧
 I64 ((i35+1)*(i38+1)*(i41+1))∧
 (60<(i35+1)*(i38+1)*(i41+1)→Aa1 Tryz.prog W0 M 13 [] W40 fun v42 W43=>∃b44:Bool,v42 = .bool b44∧∀(W45:PW),Ext W43 W45→Post (.bool b44) W45)∧
 (¬60<(i35+1)*(i38+1)*(i41+1)→
 Aa1 Tryz.prog W0 M 47 [s8.v,.agg ⟨[.int .i64 a2_0,.int .i64 a2_1,.int .i64 a2_2]⟩] W40 fun v46 W47=>
 ∃s48:Sl,
 ∃s49:Sl,
 ∃b50:Bool,
 ∃s51:Sl,
 ∃s52:Sl,
 ∃b53:Bool,
 ∃s54:Sl,
 ∃s55:Sl,
 ∃b56:Bool,
 ∃s57:Sl,
 v46 = .tuple ⟨[s48.v,.agg ⟨[s49.v,.bool b50,s51.v,s52.v,.bool b53,s54.v,s55.v,.bool b56,s57.v]⟩]⟩∧
 ∃(F58:List PL→PW→Prop),
 ∃(F59:List PL→PW→Nat),
 F58 [.row [],.val (.int .i64 0)] W47∧
 ∀(l60:List (List Value)) (i61:Int) (W62:PW),
 F58 [.row l60,.val (.int .i64 i61)] W62→
 (i61<(s8.2:Int)→
 (0≤i61∧i61<3)∧
 ∃i63:Int,
 As9 [.int .i64 a2_0,.int .i64 a2_1,.int .i64 a2_2] (0+Int.toNat i61*1+0) [.int .i64 i63]∧
 Aa1 Tryz.prog W0 M 29 [.int .i64 i63,.int .i64 0,.int .i64 8] W62 fun v64 W65=>
 ∃i66:Int,
 v64 = .int .i64 i66∧
 Aa1 Tryz.prog W0 M 49 [.int .i64 i66] W65 fun v67 W68=>
 ∃s69:Sl,
 ∃b70:Bool,
 ∃s71:Sl,
 v67 = .agg ⟨[s69.v,.bool b70,s71.v]⟩∧
 Aa1 Tryz.prog W0 M 49 [.int .i64 8] W68 fun v72 W73=>
 ∃s74:Sl,
 ∃b75:Bool,
 ∃s76:Sl,
 v72 = .agg ⟨[s74.v,.bool b75,s76.v]⟩∧
 Aa1 Tryz.prog W0 M 48 [.agg ⟨[s69.v,.bool b70,s71.v]⟩,.agg ⟨[s74.v,.bool b75,s76.v]⟩] W73
 fun v77 W78=>
 ∃s79:Sl,
 ∃b80:Bool,
 ∃s81:Sl,
 ∃b82:Bool,
 v77 = .tuple ⟨[.agg ⟨[s79.v,.bool b80,s81.v]⟩,.bool b82]⟩∧
 (List.length l60+List.length [[s79.v,.bool b80,s81.v]])*56≤140737488355328∧
 I64 (i61+1)∧
 stp F58 F59 [.row (l60 ++ [[s79.v,.bool b80,s81.v]]),.val (.int .i64 (i61+1))] W78 [.row l60,.val (.int .i64 i61)]
 W62)∧
 (¬i61<(s8.2:Int)→
 Aa1 Tryz.prog W0 M 18 [.agg ⟨[s3.v]⟩,s8.v] W62 fun v83 W84=>
 ∃s85:Sl,
 ∃b86:Bool,
 v83 = .tuple ⟨[s85.v,.bool b86]⟩∧
 Aa1 Tryz.prog W0 M 25 [.agg ⟨[s3.v]⟩,s8.v] W84 fun v87 W88=>
 ∃s89:Sl,
 ∃b90:Bool,
 ∃s91:Sl,
 ∃s92:Sl,
 ∃b93:Bool,
 ∃s94:Sl,
 ∃b95:Bool,
 v87 = .tuple ⟨[.agg ⟨[s89.v,.bool b90,s91.v,s92.v,.bool b93,s94.v]⟩,.bool b95]⟩∧
 Aa1 Tryz.prog W0 M 40 [.agg ⟨[s3.v]⟩,s8.v] W88 fun v96 W97=>
 ∃s98:Sl,
 v96=s98.v∧
 ∀(s99:Sl) (W100:PW),
 Ext W97 W100→
 SX.Own W100 42 3 s99 l60→
 Fr W0 W97 s99→
 Aa1 Tryz.prog W0 M 33 [s85.v,s98.v,s99.v] W100 fun v101 W102=>
 ∃s103:Sl,
 ∃b104:Bool,
 ∃s105:Sl,
 ∃b106:Bool,
 v101 = .tuple ⟨[.agg ⟨[s103.v,.bool b104,s105.v]⟩,.bool b106]⟩∧
 (b86=true→
 (b95=true→
 (b106=true→
 Aa1 Tryz.prog W0 M 31
 [.agg ⟨[s3.v]⟩,
 .agg ⟨[s49.v,.bool b50,s51.v,s52.v,.bool b53,s54.v,s55.v,.bool b56,s57.v]⟩]
 W102 fun v107 W108=>
 ∃s109:Sl,
 ∃b110:Bool,
 ∃s111:Sl,
 v107 = .agg ⟨[s109.v,.bool b110,s111.v]⟩∧
 Aa1 Tryz.prog W0 M 20
 [.agg ⟨[s103.v,.bool b104,s105.v]⟩,.agg ⟨[s109.v,.bool b110,s111.v]⟩] W108
 fun v112 W113=>
 ∃i114:Int,
 v112 = .int .i64 i114∧
 (i114=0→
 Aa1 Tryz.prog W0 M 50
 [.agg ⟨[s89.v,.bool b90,s91.v,s92.v,.bool b93,s94.v]⟩,
 .agg ⟨[s103.v,.bool b104,s105.v]⟩]
 W113 fun v115 W116=>∃b117:Bool,v115 = .bool b117∧∀(W118:PW),Ext W116 W118→Post (.bool b117) W118)∧
 (¬i114=0→∀(W119:PW),Ext W113 W119→Post (.bool false) W119))∧
 (b106=false→∀(W120:PW),Ext W102 W120→Post (.bool false) W120))∧
 (b95=false→∀(W121:PW),Ext W102 W121→Post (.bool false) W121))∧
 (b86=false→∀(W122:PW),Ext W102 W122→Post (.bool false) W122)))))))
theorem Jg9 (W0:PW) (M:Nat→Prop) (a0:Sl) (a1:Sl) (a2_0:Int) (a2_1:Int) (a2_2:Int) (Post:Value→PW→Prop) (h:Jh7 W0 M a0 a1 a2_0 a2_1 a2_2 Post):Aa0 Tryz.prog 9 [a0.v,a1.v,.agg #[.int .i64 a2_0,.int .i64 a2_1,.int .i64 a2_2]] W0 M Post:=
 Aa3 rfl Aa9 Aa8 Tryz.func9 (cuts:=[]) rfl rfl (Nat.le_of_ble_eq_true rfl) (Eq.mpr (by kernel_rfl) h)
end Go.Proofs.YtokefihiadbkbaaGreatDoor
