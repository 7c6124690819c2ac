/- R19 -/
import Derived.Test.YtokefihiadbkbaaGreatDoorTt
set_option linter.unusedVariables false
set_option linter.unusedSimpArgs false
set_option maxRecDepth 100000
namespace Go.Proofs.YtokefihiadbkbaaGreatDoor
open Go Go.SX
def Ip9 (W0:PW) (M:Nat→Prop) (Post:Value→PW→Prop):Prop:=
 ∀(s1:Sl) (W2:PW),
 Ext W0 W2→
 SX.Own W2 131 2 s1 [[.string (ByteArray.mk #[48]),.string (ByteArray.mk #[49])]]→
 Fr W0 W0 s1→
 Aa1 Tryz.prog W0 M 55 [s1.v] W2 fun v3 W4=>
 ∃s5:Sl,
 ∃i6:Int,
 v3 = .tuple ⟨[s5.v,.int .i64 i6]⟩∧
 Aa1 Tryz.prog W0 M 44 [.int .i64 0] W4 fun v7 W8=>
 ∃s9:Sl,
 v7 = .agg ⟨[s9.v]⟩∧
 Aa1 Tryz.prog W0 M 58 [.agg ⟨[s9.v]⟩,.agg ⟨[s9.v]⟩] W8 fun v10 W11=>
 ∃s12:Sl,
 ∃b13:Bool,
 v10 = .tuple ⟨[.agg ⟨[s12.v]⟩,.bool b13]⟩∧
 Aa1 Tryz.prog W0 M 59 [.agg ⟨[s12.v]⟩,.agg ⟨[s9.v]⟩] W11 fun v14 W15=>
 ∃s16:Sl,
 v14 = .agg ⟨[s16.v]⟩∧
 Aa1 Tryz.prog W0 M 18 [.agg ⟨[s16.v]⟩,s5.v] W15 fun v17 W18=>
 ∃s19:Sl,
 ∃b20:Bool,
 v17 = .tuple ⟨[s19.v,.bool b20]⟩∧
 (i6=0→
 (b13=true→
 (b20=true→
 ((s19.2:Int)=3→
 inB s19 0∧
 ∃s21:Sl,
 ∃b22:Bool,
 ∃s23:Sl,
 Aa7 W18 s19 3 0 0 [s21.v,.bool b22,s23.v]∧
 Aa1 Tryz.prog W0 M 60 [.agg ⟨[s21.v,.bool b22,s23.v]⟩] W18 fun v24 W25=>
 ∃i26:Int,
 v24 = .int .i64 i26∧
 (i26=0→
 inB s19 1∧
 ∃s27:Sl,
 ∃b28:Bool,
 ∃s29:Sl,
 Aa7 W25 s19 3 1 0 [s27.v,.bool b28,s29.v]∧
 Aa1 Tryz.prog W0 M 38 [.agg ⟨[s27.v,.bool b28,s29.v]⟩] W25 fun v30 W31=>
 ∃t32:ByteArray,
 v30 = .string t32∧
 (t32=(ByteArray.mk #[45,49,47,50])→
 inB s19 2∧
 ∃s33:Sl,
 ∃b34:Bool,
 ∃s35:Sl,
 Aa7 W31 s19 3 2 0 [s33.v,.bool b34,s35.v]∧
 Aa1 Tryz.prog W0 M 60 [.agg ⟨[s33.v,.bool b34,s35.v]⟩] W31 fun v36 W37=>
 ∃i38:Int,v36 = .int .i64 i38∧∀(W39:PW),Ext W37 W39→Post (.bool (decide (i38=0))) W39)∧
 (¬t32=(ByteArray.mk #[45,49,47,50])→∀(W40:PW),Ext W31 W40→Post (.bool false) W40))∧
 (¬i26=0→∀(W41:PW),Ext W25 W41→Post (.bool false) W41))∧
 (¬(s19.2:Int)=3→∀(W42:PW),Ext W18 W42→Post (.bool false) W42))∧
 (b20=false→∀(W43:PW),Ext W18 W43→Post (.bool false) W43))∧
 (b13=false→∀(W44:PW),Ext W18 W44→Post (.bool false) W44))∧
 (¬i6=0→∀(W45:PW),Ext W18 W45→Post (.bool false) W45)
theorem Ii2 (W0:PW) (M:Nat→Prop) (Post:Value→PW→Prop) (h:Ip9 W0 M Post):Aa0 Tryz.prog 13 [] W0 M Post:=
 Aa3 rfl Aa9 Aa8 Tryz.func13 (cuts:=[]) rfl rfl (Nat.le_of_ble_eq_true rfl) (Eq.mpr (by kernel_rfl) h)
def Ji8 (W0:PW) (M:Nat→Prop) (a0_0:Sl) (a1:Sl) (Post:Value→PW→Prop):Prop:=
 ∃(F1:List PL→PW→Prop),
 ∃(F2:List PL→PW→Nat),
 F1 [PL.row [],PL.val (Value.int .i64 0)] W0∧
 ∀(l3:List (List Value)) (i4:Int) (W5:PW),
 F1 [PL.row l3,PL.val (Value.int .i64 i4)] W5→
 (i4<(a1.2:Int)→
 Aa1 Tryz.prog W0 M 30 [Value.agg ⟨[a0_0.v]⟩,Value.int .i64 i4] W5 fun v6 W7=>
 ∃i8:Int,
 v6=Value.int .i64 i8∧(List.length l3+List.length [[Value.int .i64 i8]])*8≤140737488355328∧I64 (i4+1)∧stp F1 F2 [PL.row (l3 ++ [[Value.int .i64 i8]]),PL.val (Value.int .i64 (i4+1))] W7 [PL.row l3,PL.val (Value.int .i64 i4)] W5)∧
 (¬i4<(a1.2:Int)→∀(s9:Sl) (W10:PW),Ext W5 W10→SX.Own W10 3 1 s9 l3→Fr W0 W5 s9→∀(W11:PW),Ext W10 W11→Post s9.v W11)
theorem Jh5 (W0:PW) (M:Nat→Prop) (a0_0:Sl) (a1:Sl) (Post:Value→PW→Prop) (h:Ji8 W0 M a0_0 a1 Post):Aa0 Tryz.prog 40 [Value.agg #[a0_0.v],a1.v] W0 M Post:=
 Aa3 rfl Aa9 Aa8 Tryz.func40 (cuts:=[]) rfl rfl (Nat.le_of_ble_eq_true rfl) (Eq.mpr (by kernel_rfl) h)
def Jt0 (W0:PW) (M:Nat→Prop) (a0:Sl) (a1:Sl) (a2:Int) (Post:Value→PW→Prop):Prop:=
 Aa1 Tryz.prog W0 M 10 [a0.v,.int .i64 8] W0 fun v1 W2=>
 ∃s3:Sl,
 ∃s4:Sl,
 ∃b5:Bool,
 v1 = .tuple ⟨[.agg ⟨[s3.v]⟩,s4.v,.bool b5]⟩∧
 Aa1 Tryz.prog W0 M 11 [a1.v] W2 fun v6 W7=>
 ∃s8:Sl,
 ∃s9:Sl,
 ∃b10:Bool,
 v6 = .tuple ⟨[s8.v,s9.v,.bool b10]⟩∧
 ((!b5)=true→Aa1 Tryz.prog W0 M 13 [] W7 fun v11 W12=>∃b13:Bool,v11 = .bool b13∧∀(W14:PW),Ext W12 W14→Post (.bool b13) W14)∧
 ((!b5)=false→
 ((!b10)=true→Aa1 Tryz.prog W0 M 13 [] W7 fun v15 W16=>∃b17:Bool,v15 = .bool b17∧∀(W18:PW),Ext W16 W18→Post (.bool b17) W18)∧
 ((!b10)=false→
 Aa1 Tryz.prog W0 M 13 [] W7 fun v19 W20=>
 ∃b21:Bool,
 v19 = .bool b21∧
 ((!b21)=true→Aa1 Tryz.prog W0 M 13 [] W20 fun v22 W23=>∃b24:Bool,v22 = .bool b24∧∀(W25:PW),Ext W23 W25→Post (.bool b24) W25)∧
 ((!b21)=false→
 Aa1 Tryz.prog W0 M 14 [.agg ⟨[s3.v]⟩] W20 fun v26 W27=>
 ∃i28:Int,
 v26 = .int .i64 i28∧
 ((s8.2:Int)<i28→Aa1 Tryz.prog W0 M 13 [] W27 fun v29 W30=>∃b31:Bool,v29 = .bool b31∧∀(W32:PW),Ext W30 W32→Post (.bool b31) W32)∧
 (¬(s8.2:Int)<i28→
 ((s8.2:Int)=0→Aa1 Tryz.prog W0 M 13 [] W27 fun v33 W34=>∃b35:Bool,v33 = .bool b35∧∀(W36:PW),Ext W34 W36→Post (.bool b35) W36)∧
 (¬(s8.2:Int)=0→
 Aa1 Tryz.prog W0 M 16 [s4.v,.int .i64 0] W27 fun v37 W38=>
 ∃i39:Int,
 v37 = .int .i64 i39∧
 I64 (i39+1)∧
 Aa1 Tryz.prog W0 M 16 [s4.v,.int .i64 1] W38 fun v40 W41=>
 ∃i42:Int,
 v40 = .int .i64 i42∧
 I64 (i42+1)∧
 I64 ((i39+1)*(i42+1))∧
 Aa1 Tryz.prog W0 M 16 [s4.v,.int .i64 2] W41 fun v43 W44=>
 ∃i45:Int,
 v43 = .int .i64 i45∧
 I64 (i45+1)∧
 I64 ((i39+1)*(i42+1)*(i45+1))∧
 (60<(i39+1)*(i42+1)*(i45+1)→Aa1 Tryz.prog W0 M 13 [] W44 fun v46 W47=>∃b48:Bool,v46 = .bool b48∧∀(W49:PW),Ext W47 W49→Post (.bool b48) W49)∧
 (¬60<(i39+1)*(i42+1)*(i45+1)→
 I64 ((s8.2:Int)-1)∧
 Aa1 Tryz.prog W0 M 29 [.int .i64 a2,.int .i64 0,.int .i64 ((s8.2:Int)-1)] W44 fun v50 W51=>
 ∃i52:Int,
 v50 = .int .i64 i52∧
 Aa1 Tryz.prog W0 M 39 [s8.v,.int .i64 i52] W51 fun v53 W54=>
 ∃s55:Sl,
 ∃s56:Sl,
 ∃b57:Bool,
 v53 = .tuple ⟨[s55.v,s56.v,.bool b57]⟩∧
 Aa1 Tryz.prog W0 M 18 [.agg ⟨[s3.v]⟩,s8.v] W54 fun v58 W59=>
 ∃s60:Sl,
 ∃b61:Bool,
 v58 = .tuple ⟨[s60.v,.bool b61]⟩∧
 Aa1 Tryz.prog W0 M 40 [.agg ⟨[s3.v]⟩,s8.v] W59 fun v62 W63=>
 ∃s64:Sl,
 v62=s64.v∧
 Aa1 Tryz.prog W0 M 35 [s60.v,s64.v,.int .i64 i52] W63 fun v65 W66=>
 ∃s67:Sl,
 ∃s68:Sl,
 ∃b69:Bool,
 v65 = .tuple ⟨[s67.v,s68.v,.bool b69]⟩∧
 Aa1 Tryz.prog W0 M 18 [.agg ⟨[s3.v]⟩,s55.v] W66 fun v70 W71=>
 ∃s72:Sl,
 ∃b73:Bool,
 v70 = .tuple ⟨[s72.v,.bool b73]⟩∧
 Aa1 Tryz.prog W0 M 18 [.agg ⟨[s3.v]⟩,s56.v] W71 fun v74 W75=>
 ∃s76:Sl,
 ∃b77:Bool,
 v74 = .tuple ⟨[s76.v,.bool b77]⟩∧
 ((!b57)=true→∀(W78:PW),Ext W75 W78→Post (.bool false) W78)∧
 ((!b57)=false→
 ((!b69)=true→∀(W79:PW),Ext W75 W79→Post (.bool false) W79)∧
 ((!b69)=false→
 ((!b73)=true→∀(W80:PW),Ext W75 W80→Post (.bool false) W80)∧
 ((!b73)=false→
 ((!b77)=true→∀(W81:PW),Ext W75 W81→Post (.bool false) W81)∧
 ((!b77)=false→
 ((s67.2:Int)≠(s72.2:Int)→∀(W82:PW),Ext W75 W82→Post (.bool false) W82)∧
 (¬(s67.2:Int)≠(s72.2:Int)→
 ((s68.2:Int)≠(s76.2:Int)→∀(W83:PW),Ext W75 W83→Post (.bool false) W83)∧
 (¬(s68.2:Int)≠(s76.2:Int)→
 ∃(F84:List PL→PW→Prop),
 ∃(F85:List PL→PW→Nat),
 F84 [.val (.int .i64 0)] W75∧
 ∀(i86:Int) (W87:PW),
 F84 [.val (.int .i64 i86)] W87→
 (i86<(s67.2:Int)→
 inB s67 i86∧
 ∃s88:Sl,
 ∃b89:Bool,
 ∃s90:Sl,
 Aa7 W87 s67 3 (Int.toNat i86) 0 [s88.v,.bool b89,s90.v]∧
 inB s72 i86∧
 ∃s91:Sl,
 ∃b92:Bool,
 ∃s93:Sl,
 Aa7 W87 s72 3 (Int.toNat i86) 0 [s91.v,.bool b92,s93.v]∧
 Aa1 Tryz.prog W0 M 20
 [.agg ⟨[s88.v,.bool b89,s90.v]⟩,.agg ⟨[s91.v,.bool b92,s93.v]⟩] W87
 fun v94 W95=>
 ∃i96:Int,
 v94 = .int .i64 i96∧
 (i96≠0→∀(W97:PW),Ext W95 W97→Post (.bool false) W97)∧
 (¬i96≠0→
 inB s68 i86∧
 ∃s98:Sl,
 ∃b99:Bool,
 ∃s100:Sl,
 Aa7 W95 s68 3 (Int.toNat i86) 0 [s98.v,.bool b99,s100.v]∧
 inB s76 i86∧
 ∃s101:Sl,
 ∃b102:Bool,
 ∃s103:Sl,
 Aa7 W95 s76 3 (Int.toNat i86) 0 [s101.v,.bool b102,s103.v]∧
 Aa1 Tryz.prog W0 M 20
 [.agg ⟨[s98.v,.bool b99,s100.v]⟩,.agg ⟨[s101.v,.bool b102,s103.v]⟩] W95
 fun v104 W105=>
 ∃i106:Int,
 v104 = .int .i64 i106∧
 (i106≠0→∀(W107:PW),Ext W105 W107→Post (.bool false) W107)∧
 (¬i106≠0→
 I64 (i86+1)∧
 stp F84 F85 [.val (.int .i64 (i86+1))] W105 [.val (.int .i64 i86)] W87)))∧
 (¬i86<(s67.2:Int)→
 Aa1 Tryz.prog W0 M 25 [.agg ⟨[s3.v]⟩,s8.v] W87 fun v108 W109=>
 ∃s110:Sl,
 ∃b111:Bool,
 ∃s112:Sl,
 ∃s113:Sl,
 ∃b114:Bool,
 ∃s115:Sl,
 ∃b116:Bool,
 v108 = .tuple ⟨[.agg ⟨[s110.v,.bool b111,s112.v,s113.v,.bool b114,s115.v]⟩,.bool b116]⟩∧
 Aa1 Tryz.prog W0 M 25 [.agg ⟨[s3.v]⟩,s55.v] W109 fun v117 W118=>
 ∃s119:Sl,
 ∃b120:Bool,
 ∃s121:Sl,
 ∃s122:Sl,
 ∃b123:Bool,
 ∃s124:Sl,
 ∃b125:Bool,
 v117 =
 .tuple
 ⟨[.agg ⟨[s119.v,.bool b120,s121.v,s122.v,.bool b123,s124.v]⟩,.bool b125]⟩∧
 (b116=true→
 (b125=true→
 Aa1 Tryz.prog W0 M 41
 [.agg ⟨[s119.v,.bool b120,s121.v,s122.v,.bool b123,s124.v]⟩,
 .agg ⟨[s110.v,.bool b111,s112.v,s113.v,.bool b114,s115.v]⟩]
 W118 fun v126 W127=>∃b128:Bool,v126 = .bool b128∧∀(W129:PW),Ext W127 W129→Post (.bool b128) W129)∧
 (b125=false→∀(W130:PW),Ext W118 W130→Post (.bool false) W130))∧
 (b116=false→∀(W131:PW),Ext W118 W131→Post (.bool false) W131))))))))))))))
theorem Js9 (W0:PW) (M:Nat→Prop) (a0:Sl) (a1:Sl) (a2:Int) (Post:Value→PW→Prop) (h:Jt0 W0 M a0 a1 a2 Post):Aa0 Tryz.prog 7 [a0.v,a1.v,.int .i64 a2] W0 M Post:=
 Aa3 rfl Aa9 Aa8 Tryz.func7 (cuts:=[]) rfl rfl (Nat.le_of_ble_eq_true rfl) (Eq.mpr (by kernel_rfl) h)
end Go.Proofs.YtokefihiadbkbaaGreatDoor
