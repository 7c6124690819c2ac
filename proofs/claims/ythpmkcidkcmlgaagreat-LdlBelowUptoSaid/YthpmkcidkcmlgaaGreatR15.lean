/- R15 -/
import Derived.Test.YthpmkcidkcmlgaaGreatTt
set_option linter.unusedVariables false
set_option linter.unusedSimpArgs false
set_option maxRecDepth 100000
set_option linter.unusedVariables false
namespace Go.Proofs.YthpmkcidkcmlgaaGreat
open Go Go.SX
def Rmat_square (W0:PW) (M:Nat→Prop) (a0:Sl) (Post:Value→PW→Prop):Prop:=
 callN Tryz.prog W0 M 94 [a0.v] W0 fun v1 W2=>
 ∃b3:Bool,v1 = .bool b3∧(b3=true→inB a0 0∧∃s4:Sl,ElemAt W2 a0 1 0 0 [s4.v]∧∀(W5:PW),Ext W2 W5→Post (.bool (decide ((a0.2:Int)=(s4.2:Int)))) W5)∧(b3=false→∀(W6:PW),Ext W2 W6→Post (.bool false) W6)
theorem callmat_square (W0:PW) (M:Nat→Prop) (a0:Sl) (Post:Value→PW→Prop) (h:Rmat_square W0 M a0 Post):PCallsM Tryz.prog 123 [a0.v] W0 M Post:=
 fn_sound rfl tt_ok tt_in Tryz.func123 (cuts:=[]) rfl rfl (Nat.le_of_ble_eq_true rfl) (Eq.mpr (by kernel_rfl) h)
def Rmat_copied (W0:PW) (M:Nat→Prop) (a0:Sl) (a1:Sl) (Post:Value→PW→Prop):Prop:=
 ∃(F1:List PL→PW→Prop),
 ∃(F2:List PL→PW→Nat),
 F1 [.row [],.val (.int .i64 0)] W0∧
 ∀(l3:List (List Value)) (i4:Int) (W5:PW),
 F1 [.row l3,.val (.int .i64 i4)] W5→
 (i4<(a0.2:Int)→
 inB a0 i4∧
 ∃s6:Sl,
 ElemAt W5 a0 1 (Int.toNat i4) 0 [s6.v]∧
 callN Tryz.prog W0 M 192 [s6.v] W5 fun v7 W8=>
 ∃s9:Sl,
 v7=s9.v∧
 (i4<(a1.2:Int)→
 inB a1 i4∧
 ∃s10:Sl,
 ElemAt W8 a1 1 (Int.toNat i4) 0 [s10.v]∧
 ∃(l11:List (List Value)),
 RowA W8 3 s10 l11∧
 appN W0 M 51 3 56 s9 l11 W8 fun(s12:Sl) (W13:PW)=>
 (List.length l3+List.length [[s12.v]])*24≤140737488355328∧I64 (i4+1)∧stp F1 F2 [.row (l3 ++ [[s12.v]]),.val (.int .i64 (i4+1))] W13 [.row l3,.val (.int .i64 i4)] W5)∧
 (¬i4<(a1.2:Int)→(List.length l3+List.length [[s9.v]])*24≤140737488355328∧I64 (i4+1)∧stp F1 F2 [.row (l3 ++ [[s9.v]]),.val (.int .i64 (i4+1))] W8 [.row l3,.val (.int .i64 i4)] W5))∧
 (¬i4<(a0.2:Int)→∀(s14:Sl) (W15:PW),Ext W5 W15→SX.Own W15 100 1 s14 l3→Fr W0 W5 s14→∀(W16:PW),Ext W15 W16→Post s14.v W16)
theorem callmat_copied (W0:PW) (M:Nat→Prop) (a0:Sl) (a1:Sl) (Post:Value→PW→Prop) (h:Rmat_copied W0 M a0 a1 Post):PCallsM Tryz.prog 124 [a0.v,a1.v] W0 M Post:=
 fn_sound rfl tt_ok tt_in Tryz.func124 (cuts:=[]) rfl rfl (Nat.le_of_ble_eq_true rfl) (Eq.mpr (by kernel_rfl) h)
def Rmat_pivot (W0:PW) (M:Nat→Prop) (a0:Sl) (a1:Int) (Post:Value→PW→Prop):Prop:=
 ∃(F1:List PL→PW→Prop),
 ∃(F2:List PL→PW→Nat),
 F1 [.val (.int .i64 a1)] W0∧
 ∀(i3:Int) (W4:PW),
 F1 [.val (.int .i64 i3)] W4→
 (i3<(a0.2:Int)→
 inB a0 i3∧
 ∃s5:Sl,
 ElemAt W4 a0 1 (Int.toNat i3) 0 [s5.v]∧
 inB s5 a1∧
 ∃s6:Sl,
 ∃b7:Bool,
 ∃s8:Sl,
 ElemAt W4 s5 3 (Int.toNat a1) 0 [s6.v,.bool b7,s8.v]∧
 callN Tryz.prog W0 M 41 [.agg ⟨[s6.v,.bool b7,s8.v]⟩] W4 fun v9 W10=>
 ∃i11:Int,
 v9 = .int .i64 i11∧
 (i11≠0→
 inB a0 a1∧
 ∃s12:Sl,
 ElemAt W10 a0 1 (Int.toNat a1) 0 [s12.v]∧
 inB a0 i3∧
 ∃s13:Sl,
 ElemAt W10 a0 1 (Int.toNat i3) 0 [s13.v]∧
 inB a0 i3∧
 storeN W0 M a0 (Int.toNat i3*1+0) [s12.v] W10 fun(W14:PW)=>
 inB a0 a1∧storeN W0 M a0 (Int.toNat a1*1+0) [s13.v] W14 fun(W15:PW)=>∀(W16:PW),Ext W15 W16→Post (.tuple ⟨[.bool (decide (i3=a1)),.bool true]⟩) W16)∧
 (¬i11≠0→I64 (i3+1)∧stp F1 F2 [.val (.int .i64 (i3+1))] W10 [.val (.int .i64 i3)] W4))∧
 (¬i3<(a0.2:Int)→∀(W17:PW),Ext W4 W17→Post (.tuple ⟨[.bool false,.bool false]⟩) W17)
theorem callmat_pivot (W0:PW) (M:Nat→Prop) (a0:Sl) (a1:Int) (Post:Value→PW→Prop) (h:Rmat_pivot W0 M a0 a1 Post):PCallsM Tryz.prog 125 [a0.v,.int .i64 a1] W0 M Post:=
 fn_sound rfl tt_ok tt_in Tryz.func125 (cuts:=[]) rfl rfl (Nat.le_of_ble_eq_true rfl) (Eq.mpr (by kernel_rfl) h)
def Rmat_clear (W0:PW) (M:Nat→Prop) (a0:Sl) (a1:Int) (a2:Int) (Post:Value→PW→Prop):Prop:=
 inB a0 a1∧
 ∃s1:Sl,
 ElemAt W0 a0 1 (Int.toNat a1) 0 [s1.v]∧
 inB s1 a2∧
 ∃s2:Sl,
 ∃b3:Bool,
 ∃s4:Sl,
 ElemAt W0 s1 3 (Int.toNat a2) 0 [s2.v,.bool b3,s4.v]∧
 inB a0 a2∧
 ∃s5:Sl,
 ElemAt W0 a0 1 (Int.toNat a2) 0 [s5.v]∧
 inB s5 a2∧
 ∃s6:Sl,
 ∃b7:Bool,
 ∃s8:Sl,
 ElemAt W0 s5 3 (Int.toNat a2) 0 [s6.v,.bool b7,s8.v]∧
 callN Tryz.prog W0 M 87 [.agg ⟨[s2.v,.bool b3,s4.v]⟩,.agg ⟨[s6.v,.bool b7,s8.v]⟩] W0 fun v9 W10=>
 ∃s11:Sl,
 ∃b12:Bool,
 ∃s13:Sl,
 ∃b14:Bool,
 v9 = .tuple ⟨[.agg ⟨[s11.v,.bool b12,s13.v]⟩,.bool b14]⟩∧
 Ext W0 W10∧
 ∃(F15:List PL→PW→Prop),
 ∃(F16:List PL→PW→Nat),
 F15 [.val (.int .i64 a2)] W10∧
 ∀(i17:Int) (W18:PW),
 F15 [.val (.int .i64 i17)] W18→
 inB a0 a1∧
 ∃s19:Sl,
 ElemAt W18 a0 1 (Int.toNat a1) 0 [s19.v]∧
 (i17<(s19.2:Int)→
 callN Tryz.prog W0 M 41 [.agg ⟨[s11.v,.bool b12,s13.v]⟩] W18 fun v20 W21=>
 ∃i22:Int,
 v20 = .int .i64 i22∧
 (i22≠0→
 inB a0 a1∧
 ∃s23:Sl,
 ElemAt W21 a0 1 (Int.toNat a1) 0 [s23.v]∧
 inB a0 a1∧
 ∃s24:Sl,
 ElemAt W21 a0 1 (Int.toNat a1) 0 [s24.v]∧
 inB s24 i17∧
 ∃s25:Sl,
 ∃b26:Bool,
 ∃s27:Sl,
 ElemAt W21 s24 3 (Int.toNat i17) 0 [s25.v,.bool b26,s27.v]∧
 inB a0 a2∧
 ∃s28:Sl,
 ElemAt W21 a0 1 (Int.toNat a2) 0 [s28.v]∧
 inB s28 i17∧
 ∃s29:Sl,
 ∃b30:Bool,
 ∃s31:Sl,
 ElemAt W21 s28 3 (Int.toNat i17) 0 [s29.v,.bool b30,s31.v]∧
 callN Tryz.prog W0 M 74 [.agg ⟨[s11.v,.bool b12,s13.v]⟩,.agg ⟨[s29.v,.bool b30,s31.v]⟩] W21 fun v32 W33=>
 ∃s34:Sl,
 ∃b35:Bool,
 ∃s36:Sl,
 v32 = .agg ⟨[s34.v,.bool b35,s36.v]⟩∧
 Ext W21 W33∧
 callN Tryz.prog W0 M 73 [.agg ⟨[s25.v,.bool b26,s27.v]⟩,.agg ⟨[s34.v,.bool b35,s36.v]⟩] W33 fun v37 W38=>
 ∃s39:Sl,
 ∃b40:Bool,
 ∃s41:Sl,
 v37 = .agg ⟨[s39.v,.bool b40,s41.v]⟩∧
 Ext W33 W38∧
 inB s23 i17∧
 storeN W0 M s23 (Int.toNat i17*3+0) [s39.v,.bool b40,s41.v] W38 fun(W42:PW)=>
 I64 (i17+1)∧stp F15 F16 [.val (.int .i64 (i17+1))] W42 [.val (.int .i64 i17)] W18)∧
 (¬i22≠0→∀(W43:PW),Ext W21 W43→Post (.tuple ⟨[]⟩) W43))∧
 (¬i17<(s19.2:Int)→∀(W44:PW),Ext W18 W44→Post (.tuple ⟨[]⟩) W44)
theorem callmat_clear (W0:PW) (M:Nat→Prop) (a0:Sl) (a1:Int) (a2:Int) (Post:Value→PW→Prop) (h:Rmat_clear W0 M a0 a1 a2 Post):PCallsM Tryz.prog 126 [a0.v,.int .i64 a1,.int .i64 a2] W0 M Post:=
 fn_sound rfl tt_ok tt_in Tryz.func126 (cuts:=[]) rfl rfl (Nat.le_of_ble_eq_true rfl) (Eq.mpr (by kernel_rfl) h)
def Rslices_Clone_rat_Rat_rat_Rat (W0:PW) (M:Nat→Prop) (a0:Sl) (Post:Value→PW→Prop):Prop:=
 (a0.1=none→∀(W1:PW),Ext W0 W1→Post (.slice none 0 0) W1)∧
 (¬a0.1=none→∃(l2:List (List Value)),RowA W0 3 a0 l2∧(0+List.length l2)*56≤140737488355328∧∀(s3:Sl) (W4:PW),Ext W0 W4→SX.Own W4 51 3 s3 ([] ++ l2)→Fr W0 W0 s3→∀(W5:PW),Ext W4 W5→Post s3.v W5)
theorem callslices_Clone_rat_Rat_rat_Rat (W0:PW) (M:Nat→Prop) (a0:Sl) (Post:Value→PW→Prop) (h:Rslices_Clone_rat_Rat_rat_Rat W0 M a0 Post):PCallsM Tryz.prog 192 [a0.v] W0 M Post:=
 fn_sound rfl tt_ok tt_in Tryz.func192 (cuts:=[]) rfl rfl (Nat.le_of_ble_eq_true rfl) (Eq.mpr (by kernel_rfl) h)
def Rmat_Inverse (W0:PW) (M:Nat→Prop) (a0:Sl) (Post:Value→PW→Prop):Prop:=
 callN Tryz.prog W0 M 123 [a0.v] W0 fun v1 W2=>
 ∃b3:Bool,
 v1 = .bool b3∧
 ((!b3)=true→∀(W4:PW),Ext W2 W4→Post (.tuple ⟨[.slice none 0 0,.bool false]⟩) W4)∧
 ((!b3)=false→
 callN Tryz.prog W0 M 121 [.int .i64 (a0.2:Int)] W2 fun v5 W6=>
 ∃s7:Sl,
 v5=s7.v∧
 callN Tryz.prog W0 M 124 [a0.v,s7.v] W6 fun v8 W9=>
 ∃s10:Sl,
 v8=s10.v∧
 ∃(F11:List PL→PW→Prop),
 ∃(F12:List PL→PW→Nat),
 F11 [.val (.int .i64 0)] W9∧
 ∀(i13:Int) (W14:PW),
 F11 [.val (.int .i64 i13)] W14→
 (i13<(a0.2:Int)→
 callN Tryz.prog W0 M 125 [s10.v,.int .i64 i13] W14 fun v15 W16=>
 ∃b17:Bool,
 ∃b18:Bool,
 v15 = .tuple ⟨[.bool b17,.bool b18]⟩∧
 ((!b18)=true→∀(W19:PW),Ext W16 W19→Post (.tuple ⟨[.slice none 0 0,.bool false]⟩) W19)∧
 ((!b18)=false→
 ∃(F20:List PL→PW→Prop),
 ∃(F21:List PL→PW→Nat),
 F20 [.val (.int .i64 0)] W16∧
 ∀(i22:Int) (W23:PW),
 F20 [.val (.int .i64 i22)] W23→
 (i22<(a0.2:Int)→
 (i22≠i13→
 callN Tryz.prog W0 M 126 [s10.v,.int .i64 i22,.int .i64 i13] W23 fun v24 W25=>
 v24 = .tuple ⟨[]⟩∧I64 (i22+1)∧stp F20 F21 [.val (.int .i64 (i22+1))] W25 [.val (.int .i64 i22)] W23)∧
 (¬i22≠i13→I64 (i22+1)∧stp F20 F21 [.val (.int .i64 (i22+1))] W23 [.val (.int .i64 i22)] W23))∧
 (¬i22<(a0.2:Int)→I64 (i13+1)∧stp F11 F12 [.val (.int .i64 (i13+1))] W23 [.val (.int .i64 i13)] W14)))∧
 (¬i13<(a0.2:Int)→
 callN Tryz.prog W0 M 99 [.int .i64 (a0.2:Int),.int .i64 (a0.2:Int)] W14 fun v26 W27=>
 ∃s28:Sl,
 v26=s28.v∧
 ∃(F29:List PL→PW→Prop),
 ∃(F30:List PL→PW→Nat),
 F29 [.val (.int .i64 0)] W27∧
 ∀(i31:Int) (W32:PW),
 F29 [.val (.int .i64 i31)] W32→
 (i31<(s10.2:Int)→
 inB s10 i31∧
 ∃s33:Sl,
 ElemAt W32 s10 1 (Int.toNat i31) 0 [s33.v]∧
 ∃(F34:List PL→PW→Prop),
 ∃(F35:List PL→PW→Nat),
 F34 [.val (.int .i64 0)] W32∧
 ∀(i36:Int) (W37:PW),
 F34 [.val (.int .i64 i36)] W37→
 (i36<(a0.2:Int)→
 inB s28 i31∧
 ∃s38:Sl,
 ElemAt W37 s28 1 (Int.toNat i31) 0 [s38.v]∧
 I64 ((a0.2:Int)+i36)∧
 inB s33 ((a0.2:Int)+i36)∧
 ∃s39:Sl,
 ∃b40:Bool,
 ∃s41:Sl,
 ElemAt W37 s33 3 (Int.toNat ((a0.2:Int)+i36)) 0 [s39.v,.bool b40,s41.v]∧
 inB s33 i31∧
 ∃s42:Sl,
 ∃b43:Bool,
 ∃s44:Sl,
 ElemAt W37 s33 3 (Int.toNat i31) 0 [s42.v,.bool b43,s44.v]∧
 callN Tryz.prog W0 M 87 [.agg ⟨[s39.v,.bool b40,s41.v]⟩,.agg ⟨[s42.v,.bool b43,s44.v]⟩] W37 fun v45 W46=>
 ∃s47:Sl,
 ∃b48:Bool,
 ∃s49:Sl,
 ∃b50:Bool,
 v45 = .tuple ⟨[.agg ⟨[s47.v,.bool b48,s49.v]⟩,.bool b50]⟩∧
 Ext W37 W46∧
 inB s38 i36∧
 storeN W0 M s38 (Int.toNat i36*3+0) [s47.v,.bool b48,s49.v] W46 fun(W51:PW)=>
 I64 (i36+1)∧stp F34 F35 [.val (.int .i64 (i36+1))] W51 [.val (.int .i64 i36)] W37)∧
 (¬i36<(a0.2:Int)→I64 (i31+1)∧stp F29 F30 [.val (.int .i64 (i31+1))] W37 [.val (.int .i64 i31)] W32))∧
 (¬i31<(s10.2:Int)→∀(W52:PW),Ext W32 W52→Post (.tuple ⟨[s28.v,.bool true]⟩) W52)))
theorem callmat_Inverse (W0:PW) (M:Nat→Prop) (a0:Sl) (Post:Value→PW→Prop) (h:Rmat_Inverse W0 M a0 Post):PCallsM Tryz.prog 39 [a0.v] W0 M Post:=
 fn_sound rfl tt_ok tt_in Tryz.func39 (cuts:=[]) rfl rfl (Nat.le_of_ble_eq_true rfl) (Eq.mpr (by kernel_rfl) h)
def Rlaw14_LdlBelow (W0:PW) (M:Nat→Prop) (a0:Sl) (Post:Value→PW→Prop):Prop:=
 callN Tryz.prog W0 M 32 [a0.v] W0 fun v1 W2=>
 ∃s3:Sl,
 v1=s3.v∧
 callN Tryz.prog W0 M 31 [s3.v] W2 fun v4 W5=>
 ∃s6:Sl,
 ∃s7:Sl,
 v4 = .tuple ⟨[s6.v,s7.v]⟩∧
 callN Tryz.prog W0 M 30 [] W5 fun v8 W9=>
 ∃b10:Bool,
 v8 = .bool b10∧
 ((!b10)=true→∀(W11:PW),Ext W9 W11→Post (.bool false) W11)∧
 ((!b10)=false→
 callN Tryz.prog W0 M 37 [s6.v] W9 fun v12 W13=>
 ∃s14:Sl,
 ∃s15:Sl,
 ∃b16:Bool,
 v12 = .tuple ⟨[s14.v,s15.v,.bool b16]⟩∧
 ((!b16)=true→∀(W17:PW),Ext W13 W17→Post (.bool true) W17)∧
 ((!b16)=false→
 callN Tryz.prog W0 M 38 [s6.v] W13 fun v18 W19=>
 ∃b20:Bool,
 v18 = .bool b20∧
 (b20=true→∀(W21:PW),Ext W19 W21→Post (.bool true) W21)∧
 (b20=false→
 callN Tryz.prog W0 M 21 [s14.v] W19 fun v22 W23=>
 ∃s24:Sl,
 ∃b25:Bool,
 v22 = .tuple ⟨[s24.v,.bool b25]⟩∧
 callN Tryz.prog W0 M 39 [s24.v] W23 fun v26 W27=>
 ∃s28:Sl,
 ∃b29:Bool,
 v26 = .tuple ⟨[s28.v,.bool b29]⟩∧
 ((!b29)=true→∀(W30:PW),Ext W27 W30→Post (.bool false) W30)∧
 ((!b29)=false→
 callN Tryz.prog W0 M 40 [s28.v,.int .i64 (s15.2:Int)] W27 fun v31 W32=>
 ∃b33:Bool,
 v31 = .bool b33∧
 ((!b33)=true→∀(W34:PW),Ext W32 W34→Post (.bool false) W34)∧
 ((!b33)=false→
 ∃(F35:List PL→PW→Prop),
 ∃(F36:List PL→PW→Nat),
 F35 [.val (.int .i64 0)] W32∧
 ∀(i37:Int) (W38:PW),
 F35 [.val (.int .i64 i37)] W38→
 (i37<(s15.2:Int)→
 inB s15 i37∧
 ∃s39:Sl,
 ∃b40:Bool,
 ∃s41:Sl,
 ElemAt W38 s15 3 (Int.toNat i37) 0 [s39.v,.bool b40,s41.v]∧
 callN Tryz.prog W0 M 41 [.agg ⟨[s39.v,.bool b40,s41.v]⟩] W38 fun v42 W43=>
 ∃i44:Int,
 v42 = .int .i64 i44∧
 (0≤i44→I64 (i37+1)∧stp F35 F36 [.val (.int .i64 (i37+1))] W43 [.val (.int .i64 i37)] W38)∧
 (¬0≤i44→
 ∃(F45:List PL→PW→Prop),
 ∃(F46:List PL→PW→Nat),
 F45 [.row [],.val (.int .i64 0)] W43∧
 ∀(l47:List (List Value)) (i48:Int) (W49:PW),
 F45 [.row l47,.val (.int .i64 i48)] W49→
 (i48<(s28.2:Int)→
 inB s28 i48∧
 ∃s50:Sl,
 ElemAt W49 s28 1 (Int.toNat i48) 0 [s50.v]∧
 inB s50 i37∧
 ∃s51:Sl,
 ∃b52:Bool,
 ∃s53:Sl,
 ElemAt W49 s50 3 (Int.toNat i37) 0 [s51.v,.bool b52,s53.v]∧
 callN Tryz.prog W0 M 19 [.agg ⟨[s51.v,.bool b52,s53.v]⟩] W49 fun v54 W55=>
 ∃s56:Sl,
 v54 = .agg ⟨[s56.v]⟩∧
 (List.length l47+List.length [[s56.v]])*24≤140737488355328∧
 I64 (i48+1)∧stp F45 F46 [.row (l47 ++ [[s56.v]]),.val (.int .i64 (i48+1))] W55 [.row l47,.val (.int .i64 i48)] W49)∧
 (¬i48<(s28.2:Int)→
 ∀(s57:Sl) (W58:PW),
 Ext W49 W58→
 SX.Own W58 25 1 s57 l47→
 Fr W0 W49 s57→
 callN Tryz.prog W0 M 18 [s57.v,s6.v] W58 fun v59 W60=>
 ∃s61:Sl,
 ∃b62:Bool,
 v59 = .tuple ⟨[.agg ⟨[s61.v]⟩,.bool b62]⟩∧
 (b62=true→
 inB s15 i37∧
 ∃s63:Sl,
 ∃b64:Bool,
 ∃s65:Sl,
 ElemAt W60 s15 3 (Int.toNat i37) 0 [s63.v,.bool b64,s65.v]∧
 callN Tryz.prog W0 M 43
 [.agg ⟨[s61.v]⟩,
 .agg
 {
 toList:=
 [.slice none 0 0,.bool false,.slice none 0 0,.slice none 0 0,.bool false,
 .slice none 0 0,.slice none 0 0,.bool false,.slice none 0 0] }]
 W60 fun v66 W67=>
 ∃s68:Sl,
 ∃b69:Bool,
 ∃s70:Sl,
 v66 = .agg ⟨[s68.v,.bool b69,s70.v]⟩∧
 Ext W60 W67∧
 callN Tryz.prog W0 M 42 [.agg ⟨[s68.v,.bool b69,s70.v]⟩,.agg ⟨[s63.v,.bool b64,s65.v]⟩] W67
 fun v71 W72=>∃i73:Int,v71 = .int .i64 i73∧∀(W74:PW),Ext W72 W74→Post (.bool (decide (i73=0))) W74)∧
 (b62=false→Ext W60 W60∧∀(W75:PW),Ext W60 W75→Post (.bool false) W75))))∧
 (¬i37<(s15.2:Int)→∀(W76:PW),Ext W38 W76→Post (.bool false) W76))))))
theorem calllaw14_LdlBelow (W0:PW) (M:Nat→Prop) (a0:Sl) (Post:Value→PW→Prop) (h:Rlaw14_LdlBelow W0 M a0 Post):PCallsM Tryz.prog 6 [a0.v] W0 M Post:=
 fn_sound rfl tt_ok tt_in Tryz.func6 (cuts:=[]) rfl rfl (Nat.le_of_ble_eq_true rfl) (Eq.mpr (by kernel_rfl) h)
end Go.Proofs.YthpmkcidkcmlgaaGreat
