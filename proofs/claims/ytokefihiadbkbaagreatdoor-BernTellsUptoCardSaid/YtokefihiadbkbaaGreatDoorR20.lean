/- R20 -/
import Derived.Test.YtokefihiadbkbaaGreatDoorTt
set_option linter.unusedVariables false
set_option linter.unusedSimpArgs false
set_option maxRecDepth 100000
namespace Go.Proofs.YtokefihiadbkbaaGreatDoor
open Go Go.SX
def Ip9 (W0:PW) (M:Nat→Prop) (Post:Value→PW→Prop):Prop:=
 ∀(s1:Sl) (W2:PW),
 Ext W0 W2→
 SX.Own W2 131 2 s1 [[.string (ByteArray.mk #[48]),.string (ByteArray.mk #[49])]]→
 Fr W0 W0 s1→
 Aa1 Tryz.prog W0 M 55 [s1.v] W2 fun v3 W4=>
 ∃s5:Sl,
 ∃i6:Int,
 v3 = .tuple ⟨[s5.v,.int .i64 i6]⟩∧
 Aa1 Tryz.prog W0 M 44 [.int .i64 0] W4 fun v7 W8=>
 ∃s9:Sl,
 v7 = .agg ⟨[s9.v]⟩∧
 Aa1 Tryz.prog W0 M 58 [.agg ⟨[s9.v]⟩,.agg ⟨[s9.v]⟩] W8 fun v10 W11=>
 ∃s12:Sl,
 ∃b13:Bool,
 v10 = .tuple ⟨[.agg ⟨[s12.v]⟩,.bool b13]⟩∧
 Aa1 Tryz.prog W0 M 59 [.agg ⟨[s12.v]⟩,.agg ⟨[s9.v]⟩] W11 fun v14 W15=>
 ∃s16:Sl,
 v14 = .agg ⟨[s16.v]⟩∧
 Aa1 Tryz.prog W0 M 18 [.agg ⟨[s16.v]⟩,s5.v] W15 fun v17 W18=>
 ∃s19:Sl,
 ∃b20:Bool,
 v17 = .tuple ⟨[s19.v,.bool b20]⟩∧
 (i6=0→
 (b13=true→
 (b20=true→
 ((s19.2:Int)=3→
 inB s19 0∧
 ∃s21:Sl,
 ∃b22:Bool,
 ∃s23:Sl,
 Aa7 W18 s19 3 0 0 [s21.v,.bool b22,s23.v]∧
 Aa1 Tryz.prog W0 M 60 [.agg ⟨[s21.v,.bool b22,s23.v]⟩] W18 fun v24 W25=>
 ∃i26:Int,
 v24 = .int .i64 i26∧
 (i26=0→
 inB s19 1∧
 ∃s27:Sl,
 ∃b28:Bool,
 ∃s29:Sl,
 Aa7 W25 s19 3 1 0 [s27.v,.bool b28,s29.v]∧
 Aa1 Tryz.prog W0 M 38 [.agg ⟨[s27.v,.bool b28,s29.v]⟩] W25 fun v30 W31=>
 ∃t32:ByteArray,
 v30 = .string t32∧
 (t32=(ByteArray.mk #[45,49,47,50])→
 inB s19 2∧
 ∃s33:Sl,
 ∃b34:Bool,
 ∃s35:Sl,
 Aa7 W31 s19 3 2 0 [s33.v,.bool b34,s35.v]∧
 Aa1 Tryz.prog W0 M 60 [.agg ⟨[s33.v,.bool b34,s35.v]⟩] W31 fun v36 W37=>
 ∃i38:Int,v36 = .int .i64 i38∧∀(W39:PW),Ext W37 W39→Post (.bool (decide (i38=0))) W39)∧
 (¬t32=(ByteArray.mk #[45,49,47,50])→∀(W40:PW),Ext W31 W40→Post (.bool false) W40))∧
 (¬i26=0→∀(W41:PW),Ext W25 W41→Post (.bool false) W41))∧
 (¬(s19.2:Int)=3→∀(W42:PW),Ext W18 W42→Post (.bool false) W42))∧
 (b20=false→∀(W43:PW),Ext W18 W43→Post (.bool false) W43))∧
 (b13=false→∀(W44:PW),Ext W18 W44→Post (.bool false) W44))∧
 (¬i6=0→∀(W45:PW),Ext W18 W45→Post (.bool false) W45)
theorem Ii2 (W0:PW) (M:Nat→Prop) (Post:Value→PW→Prop) (h:Ip9 W0 M Post):Aa0 Tryz.prog 13 [] W0 M Post:=
 Aa3 rfl Aa9 Aa8 Tryz.func13 (cuts:=[]) rfl rfl (Nat.le_of_ble_eq_true rfl) (Eq.mpr (by kernel_rfl) h)
def Iw1 (W0:PW) (M:Nat→Prop) (a0:Sl) (a1:Sl) (Post:Value→PW→Prop):Prop:=
 ((a0.2:Int)≠(a1.2:Int)→∀(W1:PW),Ext W0 W1→Post (.bool false) W1)∧
 (¬(a0.2:Int)≠(a1.2:Int)→
 ∃(F2:List PL→PW→Prop),
 ∃(F3:List PL→PW→Nat),
 F2 [.val (.int .i64 0)] W0∧
 ∀(i4:Int) (W5:PW),
 F2 [.val (.int .i64 i4)] W5→
 (i4<(a0.2:Int)→
 inB a0 i4∧
 ∃s6:Sl,
 ∃b7:Bool,
 ∃s8:Sl,
 Aa7 W5 a0 3 (Int.toNat i4) 0 [s6.v,.bool b7,s8.v]∧
 inB a1 i4∧
 ∃b9:Bool,
 ∃s10:Sl,
 ∃s11:Sl,
 Aa7 W5 a1 3 (Int.toNat i4) 0 [.bool b9,s10.v,s11.v]∧
 Aa1 Tryz.prog W0 M 37 [.agg ⟨[s6.v,.bool b7,s8.v]⟩,.agg ⟨[.bool b9,s10.v,s11.v]⟩] W5 fun v12 W13=>
 ∃b14:Bool,v12 = .bool b14∧((!b14)=true→∀(W15:PW),Ext W13 W15→Post (.bool false) W15)∧((!b14)=false→I64 (i4+1)∧stp F2 F3 [.val (.int .i64 (i4+1))] W13 [.val (.int .i64 i4)] W5))∧
 (¬i4<(a0.2:Int)→∀(W16:PW),Ext W5 W16→Post (.bool true) W16))
theorem Io5 (W0:PW) (M:Nat→Prop) (a0:Sl) (a1:Sl) (Post:Value→PW→Prop) (h:Iw1 W0 M a0 a1 Post):Aa0 Tryz.prog 26 [a0.v,a1.v] W0 M Post:=
 Aa3 rfl Aa9 Aa8 Tryz.func26 (cuts:=[]) rfl rfl (Nat.le_of_ble_eq_true rfl) (Eq.mpr (by kernel_rfl) h)
def Ks8 (W0:PW) (M:Nat→Prop) (a0:Sl) (a1:Sl) (Post:Value→PW→Prop):Prop:=
 Aa1 Tryz.prog W0 M 10 [a0.v,.int .i64 18] W0 fun v1 W2=>
 ∃s3:Sl,
 ∃s4:Sl,
 ∃b5:Bool,
 v1 = .tuple ⟨[.agg ⟨[s3.v]⟩,s4.v,.bool b5]⟩∧
 ((!b5)=true→Aa1 Tryz.prog W0 M 13 [] W2 fun v6 W7=>∃b8:Bool,v6 = .bool b8∧∀(W9:PW),Ext W7 W9→Post (.bool b8) W9)∧
 ((!b5)=false→
 Aa1 Tryz.prog W0 M 13 [] W2 fun v10 W11=>
 ∃b12:Bool,
 v10 = .bool b12∧
 ((!b12)=true→Aa1 Tryz.prog W0 M 13 [] W11 fun v13 W14=>∃b15:Bool,v13 = .bool b15∧∀(W16:PW),Ext W14 W16→Post (.bool b15) W16)∧
 ((!b12)=false→
 Aa1 Tryz.prog W0 M 22 [a1.v,.int .i64 4] W11 fun v17 W18=>
 ∃b19:Bool,
 v17 = .bool b19∧
 ((!b19)=true→Aa1 Tryz.prog W0 M 13 [] W18 fun v20 W21=>∃b22:Bool,v20 = .bool b22∧∀(W23:PW),Ext W21 W23→Post (.bool b22) W23)∧
 ((!b19)=false→
 Aa1 Tryz.prog W0 M 16 [s4.v,.int .i64 0] W18 fun v24 W25=>
 ∃i26:Int,
 v24 = .int .i64 i26∧
 I64 (i26+1)∧
 Aa1 Tryz.prog W0 M 16 [s4.v,.int .i64 1] W25 fun v27 W28=>
 ∃i29:Int,
 v27 = .int .i64 i29∧
 I64 (i29+1)∧
 I64 ((i26+1)*(i29+1))∧
 Aa1 Tryz.prog W0 M 16 [s4.v,.int .i64 2] W28 fun v30 W31=>
 ∃i32:Int,
 v30 = .int .i64 i32∧
 I64 (i32+1)∧
 I64 ((i26+1)*(i29+1)*(i32+1))∧
 (60<(i26+1)*(i29+1)*(i32+1)→Aa1 Tryz.prog W0 M 13 [] W31 fun v33 W34=>∃b35:Bool,v33 = .bool b35∧∀(W36:PW),Ext W34 W36→Post (.bool b35) W36)∧
 (¬60<(i26+1)*(i29+1)*(i32+1)→
 Aa1 Tryz.prog W0 M 23 [a1.v] W31 fun v37 W38=>
 ∃s39:Sl,
 ∃s40:Sl,
 v37 = .tuple ⟨[s39.v,s40.v]⟩∧
 Aa1 Tryz.prog W0 M 18 [.agg ⟨[s3.v]⟩,s39.v] W38 fun v41 W42=>
 ∃s43:Sl,
 ∃b44:Bool,
 v41 = .tuple ⟨[s43.v,.bool b44]⟩∧
 Aa1 Tryz.prog W0 M 24 [s4.v,s40.v] W42 fun v45 W46=>
 ∃s47:Sl,
 ∃b48:Bool,
 v45 = .tuple ⟨[s47.v,.bool b48]⟩∧
 Aa1 Tryz.prog W0 M 25 [.agg ⟨[s3.v]⟩,s39.v] W46 fun v49 W50=>
 ∃s51:Sl,
 ∃b52:Bool,
 ∃s53:Sl,
 ∃s54:Sl,
 ∃b55:Bool,
 ∃s56:Sl,
 ∃b57:Bool,
 v49 = .tuple ⟨[.agg ⟨[s51.v,.bool b52,s53.v,s54.v,.bool b55,s56.v]⟩,.bool b57]⟩∧
 (b44≠b48→∀(W58:PW),Ext W50 W58→Post (.bool false) W58)∧
 (¬b44≠b48→
 (b57≠b48→∀(W59:PW),Ext W50 W59→Post (.bool false) W59)∧
 (¬b57≠b48→
 Aa1 Tryz.prog W0 M 26 [s43.v,s47.v] W50 fun v60 W61=>
 ∃b62:Bool,
 v60 = .bool b62∧
 ((!b62)=true→∀(W63:PW),Ext W61 W63→Post (.bool false) W63)∧
 ((!b62)=false→
 ((!b48)=true→
 Aa1 Tryz.prog W0 M 27
 [.agg ⟨[s51.v,.bool b52,s53.v,s54.v,.bool b55,s56.v]⟩,
 .agg
 ⟨[.bool false,.slice none 0 0,.slice none 0 0,.bool false,.slice none 0 0,.slice none 0 0]⟩]
 W61 fun v64 W65=>∃b66:Bool,v64 = .bool b66∧∀(W67:PW),Ext W65 W67→Post (.bool b66) W67)∧
 ((!b48)=false→
 Aa1 Tryz.prog W0 M 28 [s47.v] W61 fun v68 W69=>
 ∃b70:Bool,
 ∃s71:Sl,
 ∃s72:Sl,
 ∃b73:Bool,
 ∃s74:Sl,
 ∃s75:Sl,
 v68 = .agg ⟨[.bool b70,s71.v,s72.v,.bool b73,s74.v,s75.v]⟩∧
 Aa1 Tryz.prog W0 M 27
 [.agg ⟨[s51.v,.bool b52,s53.v,s54.v,.bool b55,s56.v]⟩,
 .agg ⟨[.bool b70,s71.v,s72.v,.bool b73,s74.v,s75.v]⟩]
 W69 fun v76 W77=>∃b78:Bool,v76 = .bool b78∧∀(W79:PW),Ext W77 W79→Post (.bool b78) W79))))))))
theorem Ks3 (W0:PW) (M:Nat→Prop) (a0:Sl) (a1:Sl) (Post:Value→PW→Prop) (h:Ks8 W0 M a0 a1 Post):Aa0 Tryz.prog 4 [a0.v,a1.v] W0 M Post:=
 Aa3 rfl Aa9 Aa8 Tryz.func4 (cuts:=[]) rfl rfl (Nat.le_of_ble_eq_true rfl) (Eq.mpr (by kernel_rfl) h)
def Kw9 (W0:PW) (M:Nat→Prop) (a0_0:Bool) (a0_1:Sl) (a0_2:Sl) (a0_3:Bool) (a0_4:Sl) (a0_5:Sl) (Post:Value→PW→Prop):Prop:=
 Aa1 Tryz.prog W0 M 100 [.agg ⟨[.bool a0_3,a0_4.v,a0_5.v]⟩,.agg ⟨[.bool a0_0,a0_1.v,a0_2.v]⟩] W0 fun v1 W2=>
 ∃b3:Bool,∃s4:Sl,∃s5:Sl,v1 = .agg ⟨[.bool b3,s4.v,s5.v]⟩∧∀(W6:PW),Ext W2 W6→Post (.agg ⟨[.bool b3,s4.v,s5.v]⟩) W6
theorem Kt5 (W0:PW) (M:Nat→Prop) (a0_0:Bool) (a0_1:Sl) (a0_2:Sl) (a0_3:Bool) (a0_4:Sl) (a0_5:Sl) (Post:Value→PW→Prop) (h:Kw9 W0 M a0_0 a0_1 a0_2 a0_3 a0_4 a0_5 Post):Aa0 Tryz.prog 85 [.agg #[.bool a0_0,a0_1.v,a0_2.v,.bool a0_3,a0_4.v,a0_5.v]] W0 M Post:=
 Aa3 rfl Aa9 Aa8 Tryz.func85 (cuts:=[]) rfl rfl (Nat.le_of_ble_eq_true rfl) (Eq.mpr (by kernel_rfl) h)
end Go.Proofs.YtokefihiadbkbaaGreatDoor
