/- R17 -/
import Derived.Test.YthpmkcidkcmlgaaGreatTt
set_option linter.unusedVariables false
set_option linter.unusedSimpArgs false
set_option maxRecDepth 100000
set_option linter.unusedVariables false
namespace Go.Proofs.YthpmkcidkcmlgaaGreat
open Go Go.SX
def Rbox_Right (W0:PW) (M:Nat→Prop) (a0:Sl) (Post:Value→PW→Prop):Prop:=
 ∃(F1:List PL→PW→Prop),
 ∃(F2:List PL→PW→Nat),
 F1 [.val (.int .i64 0)] W0∧
 ∀(i3:Int) (W4:PW),
 F1 [.val (.int .i64 i3)] W4→
 (i3<(a0.2:Int)→
 inB a0 i3∧
 ∃s5:Sl,
 ∃b6:Bool,
 ∃s7:Sl,
 ∃s8:Sl,
 ∃b9:Bool,
 ∃s10:Sl,
 ElemAt W4 a0 6 (Int.toNat i3) 0 [s5.v,.bool b6,s7.v,s8.v,.bool b9,s10.v]∧
 callN Tryz.prog W0 M 42 [.agg ⟨[s5.v,.bool b6,s7.v]⟩,.agg ⟨[s8.v,.bool b9,s10.v]⟩] W4 fun v11 W12=>
 ∃i13:Int,v11 = .int .i64 i13∧(0≤i13→∀(W14:PW),Ext W12 W14→Post (.bool false) W14)∧(¬0≤i13→I64 (i3+1)∧stp F1 F2 [.val (.int .i64 (i3+1))] W12 [.val (.int .i64 i3)] W4))∧
 (¬i3<(a0.2:Int)→(1≤(a0.2:Int)→∀(W15:PW),Ext W4 W15→Post (.bool (decide ((a0.2:Int)≤3))) W15)∧(¬1≤(a0.2:Int)→∀(W16:PW),Ext W4 W16→Post (.bool false) W16))
theorem callbox_Right (W0:PW) (M:Nat→Prop) (a0:Sl) (Post:Value→PW→Prop) (h:Rbox_Right W0 M a0 Post):PCallsM Tryz.prog 107 [a0.v] W0 M Post:=
 fn_sound rfl tt_ok tt_in Tryz.func107 (cuts:=[]) rfl rfl (Nat.le_of_ble_eq_true rfl) (Eq.mpr (by kernel_rfl) h)
def Rgram_side (W0:PW) (M:Nat→Prop) (a0:Sl) (a1:Int) (Post:Value→PW→Prop):Prop:=
 callN Tryz.prog W0 M 17 [.int .i64 a1] W0 fun v1 W2=>
 ∃s3:Sl,
 v1 = .agg ⟨[s3.v]⟩∧
 inB a0 a1∧
 ∃s4:Sl,
 ∃b5:Bool,
 ∃s6:Sl,
 ElemAt W2 a0 6 (Int.toNat a1) 0 [s4.v,.bool b5,s6.v]∧
 inB a0 a1∧
 ∃s7:Sl,
 ∃b8:Bool,
 ∃s9:Sl,
 ElemAt W2 a0 6 (Int.toNat a1) 3 [s7.v,.bool b8,s9.v]∧
 callN Tryz.prog W0 M 19 [.agg ⟨[s4.v,.bool b5,s6.v]⟩] W2 fun v10 W11=>
 ∃s12:Sl,
 v10 = .agg ⟨[s12.v]⟩∧
 Ext W2 W11∧
 callN Tryz.prog W0 M 179 [.agg ⟨[s3.v]⟩,.agg ⟨[s12.v]⟩] W11 fun v13 W14=>
 ∃s15:Sl,
 v13 = .agg ⟨[s15.v]⟩∧
 Ext W11 W14∧
 callN Tryz.prog W0 M 19 [.agg ⟨[s7.v,.bool b8,s9.v]⟩] W14 fun v16 W17=>
 ∃s18:Sl,
 v16 = .agg ⟨[s18.v]⟩∧
 callN Tryz.prog W0 M 179 [.agg ⟨[s18.v]⟩,.agg ⟨[s3.v]⟩] W17 fun v19 W20=>
 ∃s21:Sl,
 v19 = .agg ⟨[s21.v]⟩∧
 callN Tryz.prog W0 M 95 [.agg ⟨[s15.v]⟩,.agg ⟨[s21.v]⟩] W20 fun v22 W23=>
 ∃s24:Sl,∃b25:Bool,v22 = .tuple ⟨[.agg ⟨[s24.v]⟩,.bool b25]⟩∧∀(W26:PW),Ext W23 W26→Post (.agg ⟨[s24.v]⟩) W26
theorem callgram_side (W0:PW) (M:Nat→Prop) (a0:Sl) (a1:Int) (Post:Value→PW→Prop) (h:Rgram_side W0 M a0 a1 Post):PCallsM Tryz.prog 108 [a0.v,.int .i64 a1] W0 M Post:=
 fn_sound rfl tt_ok tt_in Tryz.func108 (cuts:=[]) rfl rfl (Nat.le_of_ble_eq_true rfl) (Eq.mpr (by kernel_rfl) h)
def Rgram_Sum (W0:PW) (M:Nat→Prop) (a0:Sl) (a1:Sl) (Post:Value→PW→Prop):Prop:=
 callN Tryz.prog W0 M 107 [a1.v] W0 fun v1 W2=>
 ∃b3:Bool,
 v1 = .bool b3∧
 ((!b3)=true→∀(W4:PW),Ext W2 W4→Post (.tuple ⟨[.agg ⟨[.slice none 0 0]⟩,.bool false]⟩) W4)∧
 ((!b3)=false→
 ∃(F5:List PL→PW→Prop),
 ∃(F6:List PL→PW→Nat),
 F5 [.val (.int .i64 0),.cells [.slice none 0 0]] W2∧
 ∀(s7:Sl) (i8:Int) (W9:PW),
 F5 [.val (.int .i64 i8),.cells [s7.v]] W9→
 (i8<(a0.2:Int)→
 inB a0 i8∧
 ∃s10:Sl,
 ∃b11:Bool,
 ∃s12:Sl,
 ∃i13:Int,
 ∃s14:Sl,
 ElemAt W9 a0 5 (Int.toNat i8) 0 [s10.v,.bool b11,s12.v,.int .i64 i13,s14.v]∧
 (i13<0→∀(W15:PW),Ext W9 W15→Post (.tuple ⟨[.agg ⟨[.slice none 0 0]⟩,.bool false]⟩) W15)∧
 (¬i13<0→
 ((a1.2:Int)<i13→∀(W16:PW),Ext W9 W16→Post (.tuple ⟨[.agg ⟨[.slice none 0 0]⟩,.bool false]⟩) W16)∧
 (¬(a1.2:Int)<i13→I64 (i8+1)∧stp F5 F6 [.val (.int .i64 (i8+1)),.cells [s7.v]] W9 [.val (.int .i64 i8),.cells [s7.v]] W9)))∧
 (¬i8<(a0.2:Int)→
 ∃(F17:List PL→PW→Prop),
 ∃(F18:List PL→PW→Nat),
 F17 [.val (.int .i64 0),.cells [s7.v],.cells [.slice none 0 0]] W9∧
 ∀(s19 s20:Sl) (i21:Int) (W22:PW),
 F17 [.val (.int .i64 i21),.cells [s19.v],.cells [s20.v]] W22→
 (i21<(a0.2:Int)→
 inB a0 i21∧
 ∃s23:Sl,
 ∃b24:Bool,
 ∃s25:Sl,
 ∃i26:Int,
 ∃s27:Sl,
 ElemAt W22 a0 5 (Int.toNat i21) 0 [s23.v,.bool b24,s25.v,.int .i64 i26,s27.v]∧
 callN Tryz.prog W0 M 95 [.agg ⟨[s27.v]⟩,.agg ⟨[s27.v]⟩] W22 fun v28 W29=>
 ∃s30:Sl,
 ∃b31:Bool,
 v28 = .tuple ⟨[.agg ⟨[s30.v]⟩,.bool b31]⟩∧
 (b31=true→
 (0<i26→
 I64 (i26-1)∧
 callN Tryz.prog W0 M 108 [a1.v,.int .i64 (i26-1)] W29 fun v32 W33=>
 ∃s34:Sl,
 v32 = .agg ⟨[s34.v]⟩∧
 callN Tryz.prog W0 M 95 [.agg ⟨[s30.v]⟩,.agg ⟨[s34.v]⟩] W33 fun v35 W36=>
 ∃s37:Sl,
 ∃b38:Bool,
 v35 = .tuple ⟨[.agg ⟨[s37.v]⟩,.bool b38]⟩∧
 ((!b38)=true→∀(W39:PW),Ext W36 W39→Post (.tuple ⟨[.agg ⟨[.slice none 0 0]⟩,.bool false]⟩) W39)∧
 ((!b38)=false→
 callN Tryz.prog W0 M 97 [.agg ⟨[s37.v]⟩,.agg ⟨[s23.v,.bool b24,s25.v]⟩] W36 fun v40 W41=>
 ∃s42:Sl,
 v40 = .agg ⟨[s42.v]⟩∧
 callN Tryz.prog W0 M 96 [.agg ⟨[s20.v]⟩,.agg ⟨[s42.v]⟩] W41 fun v43 W44=>
 ∃s45:Sl,
 v43 = .agg ⟨[s45.v]⟩∧
 I64 (i21+1)∧
 stp F17 F18 [.val (.int .i64 (i21+1)),.cells [s19.v],.cells [s45.v]] W44 [.val (.int .i64 i21),.cells [s19.v],.cells [s20.v]] W22))∧
 (¬0<i26→
 ((!b31)=true→∀(W46:PW),Ext W29 W46→Post (.tuple ⟨[.agg ⟨[.slice none 0 0]⟩,.bool false]⟩) W46)∧
 ((!b31)=false→
 callN Tryz.prog W0 M 97 [.agg ⟨[s30.v]⟩,.agg ⟨[s23.v,.bool b24,s25.v]⟩] W29 fun v47 W48=>
 ∃s49:Sl,
 v47 = .agg ⟨[s49.v]⟩∧
 callN Tryz.prog W0 M 96 [.agg ⟨[s20.v]⟩,.agg ⟨[s49.v]⟩] W48 fun v50 W51=>
 ∃s52:Sl,
 v50 = .agg ⟨[s52.v]⟩∧
 I64 (i21+1)∧stp F17 F18 [.val (.int .i64 (i21+1)),.cells [s19.v],.cells [s52.v]] W51 [.val (.int .i64 i21),.cells [s19.v],.cells [s20.v]] W22)))∧
 (b31=false→
 ((!b31)=true→∀(W53:PW),Ext W29 W53→Post (.tuple ⟨[.agg ⟨[.slice none 0 0]⟩,.bool false]⟩) W53)∧
 ((!b31)=false→
 callN Tryz.prog W0 M 97 [.agg ⟨[s30.v]⟩,.agg ⟨[s23.v,.bool b24,s25.v]⟩] W29 fun v54 W55=>
 ∃s56:Sl,
 v54 = .agg ⟨[s56.v]⟩∧
 callN Tryz.prog W0 M 96 [.agg ⟨[s20.v]⟩,.agg ⟨[s56.v]⟩] W55 fun v57 W58=>
 ∃s59:Sl,
 v57 = .agg ⟨[s59.v]⟩∧
 I64 (i21+1)∧stp F17 F18 [.val (.int .i64 (i21+1)),.cells [s19.v],.cells [s59.v]] W58 [.val (.int .i64 i21),.cells [s19.v],.cells [s20.v]] W22)))∧
 (¬i21<(a0.2:Int)→∀(W60:PW),Ext W22 W60→Post (.tuple ⟨[.agg ⟨[s20.v]⟩,.bool true]⟩) W60)))
theorem callgram_Sum (W0:PW) (M:Nat→Prop) (a0:Sl) (a1:Sl) (Post:Value→PW→Prop) (h:Rgram_Sum W0 M a0 a1 Post):PCallsM Tryz.prog 26 [a0.v,a1.v] W0 M Post:=
 fn_sound rfl tt_ok tt_in Tryz.func26 (cuts:=[]) rfl rfl (Nat.le_of_ble_eq_true rfl) (Eq.mpr (by kernel_rfl) h)
end Go.Proofs.YthpmkcidkcmlgaaGreat
