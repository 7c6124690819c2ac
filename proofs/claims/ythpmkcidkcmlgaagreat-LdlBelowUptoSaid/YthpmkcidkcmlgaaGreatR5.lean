/- R5 -/
import Derived.Test.YthpmkcidkcmlgaaGreatTt
set_option linter.unusedVariables false
set_option linter.unusedSimpArgs false
set_option maxRecDepth 100000
set_option linter.unusedVariables false
namespace Go.Proofs.YthpmkcidkcmlgaaGreat
open Go Go.SX
def Rmat_none (W0:PW) (M:Nat→Prop) (a0:Int) (a1:Int) (Post:Value→PW→Prop):Prop:=
 (a0=a0∧0≤a0∧a0*(↑(24:Nat):Int)≤281474976710656)∧
 ∃(F1:List PL→PW→Prop),
 ∃(F2:List PL→PW→Nat),
 F1 [PL.val (Value.int .i64 0),PL.row (List.replicate (Int.toNat a0) [Value.slice none 0 0])] W0∧
 ∀(l3:List (List Value)) (i4:Int) (W5:PW),
 F1 [PL.val (Value.int .i64 i4),PL.row l3] W5→
 (i4<(↑(List.length (List.replicate (Int.toNat a0) [Value.slice none 0 0])):Int)→
 (a1=a1∧0≤a1∧a1*(↑(56:Nat):Int)≤281474976710656)∧
 (0≤i4∧i4<(↑(List.length l3):Int))∧
 ∀(s6:Sl) (W7:PW),
 Ext W5 W7→
 SX.Own W7 51 3 s6 (List.replicate (Int.toNat a1) [Value.slice none 0 0,Value.bool false,Value.slice none 0 0])→
 Fr W0 W5 s6→Int.toNat i4<List.length l3∧I64 (i4+1)∧stp F1 F2 [PL.val (Value.int .i64 (i4+1)),PL.row (List.set l3 (Int.toNat i4) [s6.v])] W7 [PL.val (Value.int .i64 i4),PL.row l3] W5)∧
 (¬i4<(↑(List.length (List.replicate (Int.toNat a0) [Value.slice none 0 0])):Int)→∀(s8:Sl) (W9:PW),Ext W5 W9→SX.Own W9 100 1 s8 l3→Fr W0 W5 s8→∀(W10:PW),Ext W9 W10→Post s8.v W10)
theorem callmat_none (W0:PW) (M:Nat→Prop) (a0:Int) (a1:Int) (Post:Value→PW→Prop) (h:Rmat_none W0 M a0 a1 Post):PCallsM Tryz.prog 99 [Value.int .i64 a0,Value.int .i64 a1] W0 M Post:=
 fn_sound rfl tt_ok tt_in Tryz.func99 (cuts:=[]) rfl rfl (Nat.le_of_ble_eq_true rfl) (Eq.mpr (by kernel_rfl) h)
def Rmat_even_rat_Rat (W0:PW) (M:Nat→Prop) (a0:Sl) (Post:Value→PW→Prop):Prop:=
 ∃(F1:List PL→PW→Prop),
 ∃(F2:List PL→PW→Nat),
 F1 [.val (.int .i64 0)] W0∧
 ∀(i3:Int) (W4:PW),
 F1 [.val (.int .i64 i3)] W4→
 (i3<(a0.2:Int)→
 inB a0 i3∧
 ∃s5:Sl,
 ElemAt W4 a0 1 (Int.toNat i3) 0 [s5.v]∧
 inB a0 0∧
 ∃s6:Sl,
 ElemAt W4 a0 1 0 0 [s6.v]∧((s5.2:Int)≠(s6.2:Int)→∀(W7:PW),Ext W4 W7→Post (.bool false) W7)∧(¬(s5.2:Int)≠(s6.2:Int)→I64 (i3+1)∧stp F1 F2 [.val (.int .i64 (i3+1))] W4 [.val (.int .i64 i3)] W4))∧
 (¬i3<(a0.2:Int)→
 (1≤(a0.2:Int)→
 ((a0.2:Int)≤12→
 inB a0 0∧
 ∃s8:Sl,
 ElemAt W4 a0 1 0 0 [s8.v]∧
 (1≤(s8.2:Int)→inB a0 0∧∃s9:Sl,ElemAt W4 a0 1 0 0 [s9.v]∧∀(W10:PW),Ext W4 W10→Post (.bool (decide ((s9.2:Int)≤12))) W10)∧(¬1≤(s8.2:Int)→∀(W11:PW),Ext W4 W11→Post (.bool false) W11))∧
 (¬(a0.2:Int)≤12→∀(W12:PW),Ext W4 W12→Post (.bool false) W12))∧
 (¬1≤(a0.2:Int)→∀(W13:PW),Ext W4 W13→Post (.bool false) W13))
theorem callmat_even_rat_Rat (W0:PW) (M:Nat→Prop) (a0:Sl) (Post:Value→PW→Prop) (h:Rmat_even_rat_Rat W0 M a0 Post):PCallsM Tryz.prog 173 [a0.v] W0 M Post:=
 fn_sound rfl tt_ok tt_in Tryz.func173 (cuts:=[]) rfl rfl (Nat.le_of_ble_eq_true rfl) (Eq.mpr (by kernel_rfl) h)
def Rmat_Right (W0:PW) (M:Nat→Prop) (a0:Sl) (Post:Value→PW→Prop):Prop:=
 callN Tryz.prog W0 M 173 [a0.v] W0 fun v1 W2=>∃b3:Bool,v1 = .bool b3∧∀(W4:PW),Ext W2 W4→Post (.bool b3) W4
theorem callmat_Right (W0:PW) (M:Nat→Prop) (a0:Sl) (Post:Value→PW→Prop) (h:Rmat_Right W0 M a0 Post):PCallsM Tryz.prog 94 [a0.v] W0 M Post:=
 fn_sound rfl tt_ok tt_in Tryz.func94 (cuts:=[]) rfl rfl (Nat.le_of_ble_eq_true rfl) (Eq.mpr (by kernel_rfl) h)
def Rmat_One (W0:PW) (M:Nat→Prop) (a0:Int) (Post:Value→PW→Prop):Prop:=
 callN Tryz.prog W0 M 99 [.int .i64 (mn (mx a0 1) 12),.int .i64 (mn (mx a0 1) 12)] W0 fun v1 W2=>
 ∃s3:Sl,
 v1=s3.v∧
 ∃(F4:List PL→PW→Prop),
 ∃(F5:List PL→PW→Nat),
 F4 [.val (.int .i64 0)] W2∧
 ∀(i6:Int) (W7:PW),
 F4 [.val (.int .i64 i6)] W7→
 (i6<(s3.2:Int)→
 inB s3 i6∧
 ∃s8:Sl,
 ElemAt W7 s3 1 (Int.toNat i6) 0 [s8.v]∧
 callN Tryz.prog W0 M 20 [.int .i64 1] W7 fun v9 W10=>
 ∃s11:Sl,
 ∃b12:Bool,
 ∃s13:Sl,
 v9 = .agg ⟨[s11.v,.bool b12,s13.v]⟩∧
 Ext W7 W10∧inB s8 i6∧storeN W0 M s8 (Int.toNat i6*3+0) [s11.v,.bool b12,s13.v] W10 fun(W14:PW)=>I64 (i6+1)∧stp F4 F5 [.val (.int .i64 (i6+1))] W14 [.val (.int .i64 i6)] W7)∧
 (¬i6<(s3.2:Int)→∀(W15:PW),Ext W7 W15→Post s3.v W15)
theorem callmat_One (W0:PW) (M:Nat→Prop) (a0:Int) (Post:Value→PW→Prop) (h:Rmat_One W0 M a0 Post):PCallsM Tryz.prog 121 [.int .i64 a0] W0 M Post:=
 fn_sound rfl tt_ok tt_in Tryz.func121 (cuts:=[]) rfl rfl (Nat.le_of_ble_eq_true rfl) (Eq.mpr (by kernel_rfl) h)
def Rmat_Turn (W0:PW) (M:Nat→Prop) (a0:Sl) (Post:Value→PW→Prop):Prop:=
 callN Tryz.prog W0 M 94 [a0.v] W0 fun v1 W2=>
 ∃b3:Bool,
 v1 = .bool b3∧
 ((!b3)=true→∀(W4:PW),Ext W2 W4→Post (.tuple ⟨[.slice none 0 0,.bool false]⟩) W4)∧
 ((!b3)=false→
 inB a0 0∧
 ∃s5:Sl,
 ElemAt W2 a0 1 0 0 [s5.v]∧
 callN Tryz.prog W0 M 99 [.int .i64 (s5.2:Int),.int .i64 (a0.2:Int)] W2 fun v6 W7=>
 ∃s8:Sl,
 v6=s8.v∧
 ∃(F9:List PL→PW→Prop),
 ∃(F10:List PL→PW→Nat),
 F9 [.val (.int .i64 0)] W7∧
 ∀(i11:Int) (W12:PW),
 F9 [.val (.int .i64 i11)] W12→
 (i11<(a0.2:Int)→
 inB a0 i11∧
 ∃s13:Sl,
 ElemAt W12 a0 1 (Int.toNat i11) 0 [s13.v]∧
 ∃(F14:List PL→PW→Prop),
 ∃(F15:List PL→PW→Nat),
 F14 [.val (.int .i64 0)] W12∧
 ∀(i16:Int) (W17:PW),
 F14 [.val (.int .i64 i16)] W17→
 (i16<(s13.2:Int)→
 inB s13 i16∧
 ∃s18:Sl,
 ∃b19:Bool,
 ∃s20:Sl,
 ElemAt W17 s13 3 (Int.toNat i16) 0 [s18.v,.bool b19,s20.v]∧
 inB s8 i16∧
 ∃s21:Sl,
 ElemAt W17 s8 1 (Int.toNat i16) 0 [s21.v]∧
 inB s21 i11∧
 storeN W0 M s21 (Int.toNat i11*3+0) [s18.v,.bool b19,s20.v] W17 fun(W22:PW)=>I64 (i16+1)∧stp F14 F15 [.val (.int .i64 (i16+1))] W22 [.val (.int .i64 i16)] W17)∧
 (¬i16<(s13.2:Int)→I64 (i11+1)∧stp F9 F10 [.val (.int .i64 (i11+1))] W17 [.val (.int .i64 i11)] W12))∧
 (¬i11<(a0.2:Int)→∀(W23:PW),Ext W12 W23→Post (.tuple ⟨[s8.v,.bool true]⟩) W23))
theorem callmat_Turn (W0:PW) (M:Nat→Prop) (a0:Sl) (Post:Value→PW→Prop) (h:Rmat_Turn W0 M a0 Post):PCallsM Tryz.prog 21 [a0.v] W0 M Post:=
 fn_sound rfl tt_ok tt_in Tryz.func21 (cuts:=[]) rfl rfl (Nat.le_of_ble_eq_true rfl) (Eq.mpr (by kernel_rfl) h)
def Rmat_Same (W0:PW) (M:Nat→Prop) (a0:Sl) (a1:Sl) (Post:Value→PW→Prop):Prop:=
 callN Tryz.prog W0 M 94 [a0.v] W0 fun v1 W2=>
 ∃b3:Bool,
 v1 = .bool b3∧
 (b3=true→
 callN Tryz.prog W0 M 94 [a1.v] W2 fun v4 W5=>
 ∃b6:Bool,
 v4 = .bool b6∧
 (b6=true→callN Tryz.prog W0 M 102 [a0.v,a1.v,.func (Fn.func 103) ⟨[]⟩ ⟨[]⟩] W5 fun v7 W8=>∃b9:Bool,v7 = .bool b9∧∀(W10:PW),Ext W8 W10→Post (.bool b9) W10)∧
 (b6=false→∀(W11:PW),Ext W5 W11→Post (.bool false) W11))∧
 (b3=false→∀(W12:PW),Ext W2 W12→Post (.bool false) W12)
theorem callmat_Same (W0:PW) (M:Nat→Prop) (a0:Sl) (a1:Sl) (Post:Value→PW→Prop) (h:Rmat_Same W0 M a0 a1 Post):PCallsM Tryz.prog 23 [a0.v,a1.v] W0 M Post:=
 fn_sound rfl tt_ok tt_in Tryz.func23 (cuts:=[]) rfl rfl (Nat.le_of_ble_eq_true rfl) (Eq.mpr (by kernel_rfl) h)
def Rmat_Same_1 (W0:PW) (M:Nat→Prop) (a0:Sl) (a1:Sl) (Post:Value→PW→Prop):Prop:=
 callN Tryz.prog W0 M 104 [a0.v,a1.v,.func (Fn.func 105) ⟨[]⟩ ⟨[]⟩] W0 fun v1 W2=>∃b3:Bool,v1 = .bool b3∧∀(W4:PW),Ext W2 W4→Post (.bool b3) W4
theorem callmat_Same_1 (W0:PW) (M:Nat→Prop) (a0:Sl) (a1:Sl) (Post:Value→PW→Prop) (h:Rmat_Same_1 W0 M a0 a1 Post):PCallsM Tryz.prog 103 [a0.v,a1.v] W0 M Post:=
 fn_sound rfl tt_ok tt_in Tryz.func103 (cuts:=[]) rfl rfl (Nat.le_of_ble_eq_true rfl) (Eq.mpr (by kernel_rfl) h)
def Rmat_Same_1_1 (W0:PW) (M:Nat→Prop) (a0_0:Sl) (a0_1:Bool) (a0_2:Sl) (a1_0:Sl) (a1_1:Bool) (a1_2:Sl) (Post:Value→PW→Prop):Prop:=
 callN Tryz.prog W0 M 42 [.agg ⟨[a0_0.v,.bool a0_1,a0_2.v]⟩,.agg ⟨[a1_0.v,.bool a1_1,a1_2.v]⟩] W0 fun v1 W2=>
 ∃i3:Int,v1 = .int .i64 i3∧∀(W4:PW),Ext W2 W4→Post (.bool (decide (i3=0))) W4
theorem callmat_Same_1_1 (W0:PW) (M:Nat→Prop) (a0_0:Sl) (a0_1:Bool) (a0_2:Sl) (a1_0:Sl) (a1_1:Bool) (a1_2:Sl) (Post:Value→PW→Prop) (h:Rmat_Same_1_1 W0 M a0_0 a0_1 a0_2 a1_0 a1_1 a1_2 Post):PCallsM Tryz.prog 105 [.agg #[a0_0.v,.bool a0_1,a0_2.v],.agg #[a1_0.v,.bool a1_1,a1_2.v]] W0 M Post:=
 fn_sound rfl tt_ok tt_in Tryz.func105 (cuts:=[]) rfl rfl (Nat.le_of_ble_eq_true rfl) (Eq.mpr (by kernel_rfl) h)
def Rslices_EqualFunc_mat_Mat_mat_Mat_rat_Rat_rat_Rat (W0:PW) (M:Nat→Prop) (a0:Sl) (a1:Sl) (Post:Value→PW→Prop):Prop:=
 ((a0.2:Int)≠(a1.2:Int)→∀(W1:PW),Ext W0 W1→Post (.bool false) W1)∧
 (¬(a0.2:Int)≠(a1.2:Int)→
 ∃(F2:List PL→PW→Prop),
 ∃(F3:List PL→PW→Nat),
 F2 [.val (.int .i64 0)] W0∧
 ∀(i4:Int) (W5:PW),
 F2 [.val (.int .i64 i4)] W5→
 (i4<(a0.2:Int)→
 inB a0 i4∧
 ∃s6:Sl,
 ElemAt W5 a0 1 (Int.toNat i4) 0 [s6.v]∧
 inB a1 i4∧
 ∃s7:Sl,
 ElemAt W5 a1 1 (Int.toNat i4) 0 [s7.v]∧
 callN Tryz.prog W0 M 103 [s6.v,s7.v] W5 fun v8 W9=>
 ∃b10:Bool,v8 = .bool b10∧((!b10)=true→∀(W11:PW),Ext W9 W11→Post (.bool false) W11)∧((!b10)=false→I64 (i4+1)∧stp F2 F3 [.val (.int .i64 (i4+1))] W9 [.val (.int .i64 i4)] W5))∧
 (¬i4<(a0.2:Int)→∀(W12:PW),Ext W5 W12→Post (.bool true) W12))
theorem callslices_EqualFunc_mat_Mat_mat_Mat_rat_Rat_rat_Rat (W0:PW) (M:Nat→Prop) (a0:Sl) (a1:Sl) (Post:Value→PW→Prop) (h:Rslices_EqualFunc_mat_Mat_mat_Mat_rat_Rat_rat_Rat W0 M a0 a1 Post):PCallsM Tryz.prog 102 [a0.v,a1.v,.func (Fn.func 103) #[] #[]] W0 M Post:=
 fn_sound rfl tt_ok tt_in Tryz.func102 (cuts:=[]) rfl rfl (Nat.le_of_ble_eq_true rfl) (Eq.mpr (by kernel_rfl) h)
def Rslices_EqualFunc_rat_Rat_rat_Rat_rat_Rat_rat_Rat (W0:PW) (M:Nat→Prop) (a0:Sl) (a1:Sl) (Post:Value→PW→Prop):Prop:=
 ((a0.2:Int)≠(a1.2:Int)→∀(W1:PW),Ext W0 W1→Post (.bool false) W1)∧
 (¬(a0.2:Int)≠(a1.2:Int)→
 ∃(F2:List PL→PW→Prop),
 ∃(F3:List PL→PW→Nat),
 F2 [.val (.int .i64 0)] W0∧
 ∀(i4:Int) (W5:PW),
 F2 [.val (.int .i64 i4)] W5→
 (i4<(a0.2:Int)→
 inB a0 i4∧
 ∃s6:Sl,
 ∃b7:Bool,
 ∃s8:Sl,
 ElemAt W5 a0 3 (Int.toNat i4) 0 [s6.v,.bool b7,s8.v]∧
 inB a1 i4∧
 ∃s9:Sl,
 ∃b10:Bool,
 ∃s11:Sl,
 ElemAt W5 a1 3 (Int.toNat i4) 0 [s9.v,.bool b10,s11.v]∧
 callN Tryz.prog W0 M 105 [.agg ⟨[s6.v,.bool b7,s8.v]⟩,.agg ⟨[s9.v,.bool b10,s11.v]⟩] W5 fun v12 W13=>
 ∃b14:Bool,v12 = .bool b14∧((!b14)=true→∀(W15:PW),Ext W13 W15→Post (.bool false) W15)∧((!b14)=false→I64 (i4+1)∧stp F2 F3 [.val (.int .i64 (i4+1))] W13 [.val (.int .i64 i4)] W5))∧
 (¬i4<(a0.2:Int)→∀(W16:PW),Ext W5 W16→Post (.bool true) W16))
theorem callslices_EqualFunc_rat_Rat_rat_Rat_rat_Rat_rat_Rat (W0:PW) (M:Nat→Prop) (a0:Sl) (a1:Sl) (Post:Value→PW→Prop) (h:Rslices_EqualFunc_rat_Rat_rat_Rat_rat_Rat_rat_Rat W0 M a0 a1 Post):PCallsM Tryz.prog 104 [a0.v,a1.v,.func (Fn.func 105) #[] #[]] W0 M Post:=
 fn_sound rfl tt_ok tt_in Tryz.func104 (cuts:=[]) rfl rfl (Nat.le_of_ble_eq_true rfl) (Eq.mpr (by kernel_rfl) h)
def Rlaw11_Shaped (W0:PW) (M:Nat→Prop) (a0:Sl) (a1:Int) (Post:Value→PW→Prop):Prop:=
 callN Tryz.prog W0 M 127 [a0.v,.int .i64 a1,.int .i64 a1] W0 fun v1 W2=>∃b3:Bool,v1 = .bool b3∧∀(W4:PW),Ext W2 W4→Post (.bool b3) W4
theorem calllaw11_Shaped (W0:PW) (M:Nat→Prop) (a0:Sl) (a1:Int) (Post:Value→PW→Prop) (h:Rlaw11_Shaped W0 M a0 a1 Post):PCallsM Tryz.prog 40 [a0.v,.int .i64 a1] W0 M Post:=
 fn_sound rfl tt_ok tt_in Tryz.func40 (cuts:=[]) rfl rfl (Nat.le_of_ble_eq_true rfl) (Eq.mpr (by kernel_rfl) h)
def Rlaw11_shaped (W0:PW) (M:Nat→Prop) (a0:Sl) (a1:Int) (a2:Int) (Post:Value→PW→Prop):Prop:=
 ∃(F1:List PL→PW→Prop),
 ∃(F2:List PL→PW→Nat),
 F1 [.val (.int .i64 0)] W0∧
 ∀(i3:Int) (W4:PW),
 F1 [.val (.int .i64 i3)] W4→
 (i3<(a0.2:Int)→
 inB a0 i3∧
 ∃s5:Sl,ElemAt W4 a0 1 (Int.toNat i3) 0 [s5.v]∧((s5.2:Int)≠a2→∀(W6:PW),Ext W4 W6→Post (.bool false) W6)∧(¬(s5.2:Int)≠a2→I64 (i3+1)∧stp F1 F2 [.val (.int .i64 (i3+1))] W4 [.val (.int .i64 i3)] W4))∧
 (¬i3<(a0.2:Int)→∀(W7:PW),Ext W4 W7→Post (.bool (decide ((a0.2:Int)=a1))) W7)
theorem calllaw11_shaped (W0:PW) (M:Nat→Prop) (a0:Sl) (a1:Int) (a2:Int) (Post:Value→PW→Prop) (h:Rlaw11_shaped W0 M a0 a1 a2 Post):PCallsM Tryz.prog 127 [a0.v,.int .i64 a1,.int .i64 a2] W0 M Post:=
 fn_sound rfl tt_ok tt_in Tryz.func127 (cuts:=[]) rfl rfl (Nat.le_of_ble_eq_true rfl) (Eq.mpr (by kernel_rfl) h)
def Rldl_left (W0:PW) (M:Nat→Prop) (a0:Sl) (a1:Sl) (a2:Sl) (a3:Int) (a4:Int) (Post:Value→PW→Prop):Prop:=
 inB a0 a3∧
 ∃s1:Sl,
 ElemAt W0 a0 1 (Int.toNat a3) 0 [s1.v]∧
 inB s1 a4∧
 ∃s2:Sl,
 ∃b3:Bool,
 ∃s4:Sl,
 ElemAt W0 s1 3 (Int.toNat a4) 0 [s2.v,.bool b3,s4.v]∧
 ∃(F5:List PL→PW→Prop),
 ∃(F6:List PL→PW→Nat),
 F5 [.val (.int .i64 0),.cells [s2.v,.bool b3,s4.v]] W0∧
 ∀(s7:Sl) (b8:Bool) (s9:Sl) (i10:Int) (W11:PW),
 F5 [.val (.int .i64 i10),.cells [s7.v,.bool b8,s9.v]] W11→
 (i10<a4→
 inB a1 a3∧
 ∃s12:Sl,
 ElemAt W11 a1 1 (Int.toNat a3) 0 [s12.v]∧
 inB s12 i10∧
 ∃s13:Sl,
 ∃b14:Bool,
 ∃s15:Sl,
 ElemAt W11 s12 3 (Int.toNat i10) 0 [s13.v,.bool b14,s15.v]∧
 inB a2 i10∧
 ∃s16:Sl,
 ∃b17:Bool,
 ∃s18:Sl,
 ElemAt W11 a2 3 (Int.toNat i10) 0 [s16.v,.bool b17,s18.v]∧
 inB a1 a4∧
 ∃s19:Sl,
 ElemAt W11 a1 1 (Int.toNat a4) 0 [s19.v]∧
 inB s19 i10∧
 ∃s20:Sl,
 ∃b21:Bool,
 ∃s22:Sl,
 ElemAt W11 s19 3 (Int.toNat i10) 0 [s20.v,.bool b21,s22.v]∧
 callN Tryz.prog W0 M 74 [.agg ⟨[s13.v,.bool b14,s15.v]⟩,.agg ⟨[s16.v,.bool b17,s18.v]⟩] W11 fun v23 W24=>
 ∃s25:Sl,
 ∃b26:Bool,
 ∃s27:Sl,
 v23 = .agg ⟨[s25.v,.bool b26,s27.v]⟩∧
 Ext W11 W24∧
 callN Tryz.prog W0 M 74 [.agg ⟨[s25.v,.bool b26,s27.v]⟩,.agg ⟨[s20.v,.bool b21,s22.v]⟩] W24 fun v28 W29=>
 ∃s30:Sl,
 ∃b31:Bool,
 ∃s32:Sl,
 v28 = .agg ⟨[s30.v,.bool b31,s32.v]⟩∧
 Ext W24 W29∧
 callN Tryz.prog W0 M 73 [.agg ⟨[s7.v,.bool b8,s9.v]⟩,.agg ⟨[s30.v,.bool b31,s32.v]⟩] W29 fun v33 W34=>
 ∃s35:Sl,
 ∃b36:Bool,
 ∃s37:Sl,
 v33 = .agg ⟨[s35.v,.bool b36,s37.v]⟩∧
 Ext W29 W34∧
 I64 (i10+1)∧
 stp F5 F6 [.val (.int .i64 (i10+1)),.cells [s35.v,.bool b36,s37.v]] W34 [.val (.int .i64 i10),.cells [s7.v,.bool b8,s9.v]] W11)∧
 (¬i10<a4→∀(W38:PW),Ext W11 W38→Post (.agg ⟨[s7.v,.bool b8,s9.v]⟩) W38)
theorem callldl_left (W0:PW) (M:Nat→Prop) (a0:Sl) (a1:Sl) (a2:Sl) (a3:Int) (a4:Int) (Post:Value→PW→Prop) (h:Rldl_left W0 M a0 a1 a2 a3 a4 Post):PCallsM Tryz.prog 122 [a0.v,a1.v,a2.v,.int .i64 a3,.int .i64 a4] W0 M Post:=
 fn_sound rfl tt_ok tt_in Tryz.func122 (cuts:=[]) rfl rfl (Nat.le_of_ble_eq_true rfl) (Eq.mpr (by kernel_rfl) h)
def Rldl_symmetric (W0:PW) (M:Nat→Prop) (a0:Sl) (Post:Value→PW→Prop):Prop:=
 callN Tryz.prog W0 M 21 [a0.v] W0 fun v1 W2=>
 ∃s3:Sl,
 ∃b4:Bool,
 v1 = .tuple ⟨[s3.v,.bool b4]⟩∧
 (b4=true→callN Tryz.prog W0 M 23 [a0.v,s3.v] W2 fun v5 W6=>∃b7:Bool,v5 = .bool b7∧∀(W8:PW),Ext W6 W8→Post (.bool b7) W8)∧(b4=false→∀(W9:PW),Ext W2 W9→Post (.bool false) W9)
theorem callldl_symmetric (W0:PW) (M:Nat→Prop) (a0:Sl) (Post:Value→PW→Prop) (h:Rldl_symmetric W0 M a0 Post):PCallsM Tryz.prog 120 [a0.v] W0 M Post:=
 fn_sound rfl tt_ok tt_in Tryz.func120 (cuts:=[]) rfl rfl (Nat.le_of_ble_eq_true rfl) (Eq.mpr (by kernel_rfl) h)
end Go.Proofs.YthpmkcidkcmlgaaGreat

set_option maxRecDepth 100000
set_option linter.unusedVariables false
namespace Go.Proofs.YthpmkcidkcmlgaaGreat
open Go Go.SX
def Rldl_Of (W0:PW) (M:Nat→Prop) (a0:Sl) (Post:Value→PW→Prop):Prop:=
 callN Tryz.prog W0 M 120 [a0.v] W0 fun v1 W2=>
 ∃b3:Bool,
 v1 = .bool b3∧
 ((!b3)=true→∀(W4:PW),Ext W2 W4→Post (.tuple ⟨[.slice none 0 0,.slice none 0 0,.bool false]⟩) W4)∧
 ((!b3)=false→
 (callN Tryz.prog W0 M 121 [.int .i64 (a0.2:Int)] W2 fun v5 W6=>
 ∃s7:Sl,
 v5=s7.v∧
 ((a0.2:Int)=(a0.2:Int)∧0≤(a0.2:Int)∧(a0.2:Int)*(↑(56:Nat):Int)≤281474976710656)∧
 ∀(s8:Sl) (W9:PW),
 Ext W6 W9→
 SX.Own W9 51 3 s8 (List.replicate (Int.toNat (a0.2:Int)) [.slice none 0 0,.bool false,.slice none 0 0])→
 Fr W0 W6 s8→
 ∃(F10:List PL→PW→Prop),
 ∃(F11:List PL→PW→Nat),
 F10 [.val (.int .i64 0)] W9∧
 ∀(i12:Int) (W13:PW),
 F10 [.val (.int .i64 i12)] W13→
 (i12<(a0.2:Int)→
 callN Tryz.prog W0 M 122 [a0.v,s7.v,s8.v,.int .i64 i12,.int .i64 i12] W13 fun v14 W15=>
 ∃s16:Sl,
 ∃b17:Bool,
 ∃s18:Sl,
 v14 = .agg ⟨[s16.v,.bool b17,s18.v]⟩∧
 inB s8 i12∧
 storeN W0 M s8 (Int.toNat i12*3+0) [s16.v,.bool b17,s18.v] W15 fun(W19:PW)=>
 I64 (i12+1)∧
 ∃(F20:List PL→PW→Prop),
 ∃(F21:List PL→PW→Nat),
 F20 [.val (.int .i64 (i12+1))] W19∧
 ∀(i22:Int) (W23:PW),
 F20 [.val (.int .i64 i22)] W23→
 (i22<(a0.2:Int)→
 callN Tryz.prog W0 M 122 [a0.v,s7.v,s8.v,.int .i64 i22,.int .i64 i12] W23 fun v24 W25=>
 ∃s26:Sl,
 ∃b27:Bool,
 ∃s28:Sl,
 v24 = .agg ⟨[s26.v,.bool b27,s28.v]⟩∧
 inB s8 i12∧
 ∃s29:Sl,
 ∃b30:Bool,
 ∃s31:Sl,
 ElemAt W25 s8 3 (Int.toNat i12) 0 [s29.v,.bool b30,s31.v]∧
 callN Tryz.prog W0 M 87 [.agg ⟨[s26.v,.bool b27,s28.v]⟩,.agg ⟨[s29.v,.bool b30,s31.v]⟩] W25 fun v32 W33=>
 ∃s34:Sl,
 ∃b35:Bool,
 ∃s36:Sl,
 ∃b37:Bool,
 v32 = .tuple ⟨[.agg ⟨[s34.v,.bool b35,s36.v]⟩,.bool b37]⟩∧
 ∃(F38:List PL→PW→Prop),
 (((!b37)=true→
 callN Tryz.prog W0 M 41 [.agg ⟨[s26.v,.bool b27,s28.v]⟩] W33 fun v39 W40=>
 ∃i41:Int,
 v39 = .int .i64 i41∧
 (i41≠0→∀(W42:PW),Ext W40 W42→Post (.tuple ⟨[.slice none 0 0,.slice none 0 0,.bool false]⟩) W42)∧
 (¬i41≠0→F38 [.val (.bool b37),.val (.bool true)] W40))∧
 ((!b37)=false→F38 [.val (.bool b37),.val (.bool false)] W33))∧
 ∀(b43 b44:Bool) (W45:PW),
 F38 [.val (.bool b43),.val (.bool b44)] W45→
 inB s7 i22∧
 ∃s46:Sl,
 ElemAt W45 s7 1 (Int.toNat i22) 0 [s46.v]∧
 inB s46 i12∧
 storeN W0 M s46 (Int.toNat i12*3+0) [s34.v,.bool b35,s36.v] W45 fun(W47:PW)=>
 I64 (i22+1)∧stp F20 F21 [.val (.int .i64 (i22+1))] W47 [.val (.int .i64 i22)] W23)∧
 (¬i22<(a0.2:Int)→I64 (i12+1)∧stp F10 F11 [.val (.int .i64 (i12+1))] W23 [.val (.int .i64 i12)] W13))∧
 (¬i12<(a0.2:Int)→∀(W48:PW),Ext W13 W48→Post (.tuple ⟨[s7.v,s8.v,.bool true]⟩) W48))∧
 ((a0.2:Int)=(a0.2:Int)∧0≤(a0.2:Int)∧(a0.2:Int)*(↑(56:Nat):Int)≤281474976710656)∧
 callN Tryz.prog W0 M 121 [.int .i64 (a0.2:Int)] W2 fun v49 W50=>
 ∃s51:Sl,
 v49=s51.v∧
 ∀(s52:Sl) (W53:PW),
 Ext W50 W53→
 SX.Own W53 51 3 s52 (List.replicate (Int.toNat (a0.2:Int)) [.slice none 0 0,.bool false,.slice none 0 0])→
 Fr W0 W50 s52→
 ∃(F54:List PL→PW→Prop),
 ∃(F55:List PL→PW→Nat),
 F54 [.val (.int .i64 0)] W53∧
 ∀(i56:Int) (W57:PW),
 F54 [.val (.int .i64 i56)] W57→
 (i56<(a0.2:Int)→
 callN Tryz.prog W0 M 122 [a0.v,s51.v,s52.v,.int .i64 i56,.int .i64 i56] W57 fun v58 W59=>
 ∃s60:Sl,
 ∃b61:Bool,
 ∃s62:Sl,
 v58 = .agg ⟨[s60.v,.bool b61,s62.v]⟩∧
 inB s52 i56∧
 storeN W0 M s52 (Int.toNat i56*3+0) [s60.v,.bool b61,s62.v] W59 fun(W63:PW)=>
 I64 (i56+1)∧
 ∃(F64:List PL→PW→Prop),
 ∃(F65:List PL→PW→Nat),
 F64 [.val (.int .i64 (i56+1))] W63∧
 ∀(i66:Int) (W67:PW),
 F64 [.val (.int .i64 i66)] W67→
 (i66<(a0.2:Int)→
 callN Tryz.prog W0 M 122 [a0.v,s51.v,s52.v,.int .i64 i66,.int .i64 i56] W67 fun v68 W69=>
 ∃s70:Sl,
 ∃b71:Bool,
 ∃s72:Sl,
 v68 = .agg ⟨[s70.v,.bool b71,s72.v]⟩∧
 inB s52 i56∧
 ∃s73:Sl,
 ∃b74:Bool,
 ∃s75:Sl,
 ElemAt W69 s52 3 (Int.toNat i56) 0 [s73.v,.bool b74,s75.v]∧
 callN Tryz.prog W0 M 87 [.agg ⟨[s70.v,.bool b71,s72.v]⟩,.agg ⟨[s73.v,.bool b74,s75.v]⟩] W69 fun v76 W77=>
 ∃s78:Sl,
 ∃b79:Bool,
 ∃s80:Sl,
 ∃b81:Bool,
 v76 = .tuple ⟨[.agg ⟨[s78.v,.bool b79,s80.v]⟩,.bool b81]⟩∧
 ∃(F82:List PL→PW→Prop),
 (((!b81)=true→
 callN Tryz.prog W0 M 41 [.agg ⟨[s70.v,.bool b71,s72.v]⟩] W77 fun v83 W84=>
 ∃i85:Int,
 v83 = .int .i64 i85∧
 (i85≠0→∀(W86:PW),Ext W84 W86→Post (.tuple ⟨[.slice none 0 0,.slice none 0 0,.bool false]⟩) W86)∧
 (¬i85≠0→F82 [.val (.bool b81),.val (.bool true)] W84))∧
 ((!b81)=false→F82 [.val (.bool b81),.val (.bool false)] W77))∧
 ∀(b87 b88:Bool) (W89:PW),
 F82 [.val (.bool b87),.val (.bool b88)] W89→
 inB s51 i66∧
 ∃s90:Sl,
 ElemAt W89 s51 1 (Int.toNat i66) 0 [s90.v]∧
 inB s90 i56∧
 storeN W0 M s90 (Int.toNat i56*3+0) [s78.v,.bool b79,s80.v] W89 fun(W91:PW)=>
 I64 (i66+1)∧stp F64 F65 [.val (.int .i64 (i66+1))] W91 [.val (.int .i64 i66)] W67)∧
 (¬i66<(a0.2:Int)→I64 (i56+1)∧stp F54 F55 [.val (.int .i64 (i56+1))] W67 [.val (.int .i64 i56)] W57))∧
 (¬i56<(a0.2:Int)→∀(W92:PW),Ext W57 W92→Post (.tuple ⟨[s51.v,s52.v,.bool true]⟩) W92))
theorem callldl_Of (W0:PW) (M:Nat→Prop) (a0:Sl) (Post:Value→PW→Prop) (h:Rldl_Of W0 M a0 Post):PCallsM Tryz.prog 37 [a0.v] W0 M Post:=
 fn_sound rfl tt_ok tt_in Tryz.func37 (cuts:=[15,1000005]) rfl rfl (Nat.le_of_ble_eq_true rfl) (Eq.mpr (by kernel_rfl) h)
end Go.Proofs.YthpmkcidkcmlgaaGreat
