/- R5 -/
import Derived.Test.YthpmkcidkcmlgaaGreatTt
set_option linter.unusedVariables false
set_option linter.unusedSimpArgs false
set_option maxRecDepth 100000
set_option linter.unusedVariables false
namespace Go.Proofs.YthpmkcidkcmlgaaGreat
open Go Go.SX
def Rmat_none (W0:PW) (M:Nat→Prop) (a0:Int) (a1:Int) (Post:Value→PW→Prop):Prop:=
 (a0=a0∧0≤a0∧a0*(↑(24:Nat):Int)≤281474976710656)∧
 ∃(F1:List PL→PW→Prop),
 ∃(F2:List PL→PW→Nat),
 F1 [PL.val (Value.int .i64 0),PL.row (List.replicate (Int.toNat a0) [Value.slice none 0 0])] W0∧
 ∀(l3:List (List Value)) (i4:Int) (W5:PW),
 F1 [PL.val (Value.int .i64 i4),PL.row l3] W5→
 (i4<(↑(List.length (List.replicate (Int.toNat a0) [Value.slice none 0 0])):Int)→
 (a1=a1∧0≤a1∧a1*(↑(56:Nat):Int)≤281474976710656)∧
 (0≤i4∧i4<(↑(List.length l3):Int))∧
 ∀(s6:Sl) (W7:PW),
 Ext W5 W7→
 SX.Own W7 51 3 s6 (List.replicate (Int.toNat a1) [Value.slice none 0 0,Value.bool false,Value.slice none 0 0])→
 Fr W0 W5 s6→Int.toNat i4<List.length l3∧I64 (i4+1)∧stp F1 F2 [PL.val (Value.int .i64 (i4+1)),PL.row (List.set l3 (Int.toNat i4) [s6.v])] W7 [PL.val (Value.int .i64 i4),PL.row l3] W5)∧
 (¬i4<(↑(List.length (List.replicate (Int.toNat a0) [Value.slice none 0 0])):Int)→∀(s8:Sl) (W9:PW),Ext W5 W9→SX.Own W9 100 1 s8 l3→Fr W0 W5 s8→∀(W10:PW),Ext W9 W10→Post s8.v W10)
theorem callmat_none (W0:PW) (M:Nat→Prop) (a0:Int) (a1:Int) (Post:Value→PW→Prop) (h:Rmat_none W0 M a0 a1 Post):PCallsM Tryz.prog 99 [Value.int .i64 a0,Value.int .i64 a1] W0 M Post:=
 fn_sound rfl tt_ok tt_in Tryz.func99 (cuts:=[]) rfl rfl (Nat.le_of_ble_eq_true rfl) (Eq.mpr (by kernel_rfl) h)
def Rmat_even_rat_Rat (W0:PW) (M:Nat→Prop) (a0:Sl) (Post:Value→PW→Prop):Prop:=
 ∃(F1:List PL→PW→Prop),
 ∃(F2:List PL→PW→Nat),
 F1 [.val (.int .i64 0)] W0∧
 ∀(i3:Int) (W4:PW),
 F1 [.val (.int .i64 i3)] W4→
 (i3<(a0.2:Int)→
 inB a0 i3∧
 ∃s5:Sl,
 ElemAt W4 a0 1 (Int.toNat i3) 0 [s5.v]∧
 inB a0 0∧
 ∃s6:Sl,
 ElemAt W4 a0 1 0 0 [s6.v]∧((s5.2:Int)≠(s6.2:Int)→∀(W7:PW),Ext W4 W7→Post (.bool false) W7)∧(¬(s5.2:Int)≠(s6.2:Int)→I64 (i3+1)∧stp F1 F2 [.val (.int .i64 (i3+1))] W4 [.val (.int .i64 i3)] W4))∧
 (¬i3<(a0.2:Int)→
 (1≤(a0.2:Int)→
 ((a0.2:Int)≤12→
 inB a0 0∧
 ∃s8:Sl,
 ElemAt W4 a0 1 0 0 [s8.v]∧
 (1≤(s8.2:Int)→inB a0 0∧∃s9:Sl,ElemAt W4 a0 1 0 0 [s9.v]∧∀(W10:PW),Ext W4 W10→Post (.bool (decide ((s9.2:Int)≤12))) W10)∧(¬1≤(s8.2:Int)→∀(W11:PW),Ext W4 W11→Post (.bool false) W11))∧
 (¬(a0.2:Int)≤12→∀(W12:PW),Ext W4 W12→Post (.bool false) W12))∧
 (¬1≤(a0.2:Int)→∀(W13:PW),Ext W4 W13→Post (.bool false) W13))
theorem callmat_even_rat_Rat (W0:PW) (M:Nat→Prop) (a0:Sl) (Post:Value→PW→Prop) (h:Rmat_even_rat_Rat W0 M a0 Post):PCallsM Tryz.prog 173 [a0.v] W0 M Post:=
 fn_sound rfl tt_ok tt_in Tryz.func173 (cuts:=[]) rfl rfl (Nat.le_of_ble_eq_true rfl) (Eq.mpr (by kernel_rfl) h)
def Rmat_Right (W0:PW) (M:Nat→Prop) (a0:Sl) (Post:Value→PW→Prop):Prop:=
 callN Tryz.prog W0 M 173 [a0.v] W0 fun v1 W2=>∃b3:Bool,v1 = .bool b3∧∀(W4:PW),Ext W2 W4→Post (.bool b3) W4
theorem callmat_Right (W0:PW) (M:Nat→Prop) (a0:Sl) (Post:Value→PW→Prop) (h:Rmat_Right W0 M a0 Post):PCallsM Tryz.prog 94 [a0.v] W0 M Post:=
 fn_sound rfl tt_ok tt_in Tryz.func94 (cuts:=[]) rfl rfl (Nat.le_of_ble_eq_true rfl) (Eq.mpr (by kernel_rfl) h)
def Rmat_Turn (W0:PW) (M:Nat→Prop) (a0:Sl) (Post:Value→PW→Prop):Prop:=
 callN Tryz.prog W0 M 94 [a0.v] W0 fun v1 W2=>
 ∃b3:Bool,
 v1 = .bool b3∧
 ((!b3)=true→∀(W4:PW),Ext W2 W4→Post (.tuple ⟨[.slice none 0 0,.bool false]⟩) W4)∧
 ((!b3)=false→
 inB a0 0∧
 ∃s5:Sl,
 ElemAt W2 a0 1 0 0 [s5.v]∧
 callN Tryz.prog W0 M 99 [.int .i64 (s5.2:Int),.int .i64 (a0.2:Int)] W2 fun v6 W7=>
 ∃s8:Sl,
 v6=s8.v∧
 ∃(F9:List PL→PW→Prop),
 ∃(F10:List PL→PW→Nat),
 F9 [.val (.int .i64 0)] W7∧
 ∀(i11:Int) (W12:PW),
 F9 [.val (.int .i64 i11)] W12→
 (i11<(a0.2:Int)→
 inB a0 i11∧
 ∃s13:Sl,
 ElemAt W12 a0 1 (Int.toNat i11) 0 [s13.v]∧
 ∃(F14:List PL→PW→Prop),
 ∃(F15:List PL→PW→Nat),
 F14 [.val (.int .i64 0)] W12∧
 ∀(i16:Int) (W17:PW),
 F14 [.val (.int .i64 i16)] W17→
 (i16<(s13.2:Int)→
 inB s13 i16∧
 ∃s18:Sl,
 ∃b19:Bool,
 ∃s20:Sl,
 ElemAt W17 s13 3 (Int.toNat i16) 0 [s18.v,.bool b19,s20.v]∧
 inB s8 i16∧
 ∃s21:Sl,
 ElemAt W17 s8 1 (Int.toNat i16) 0 [s21.v]∧
 inB s21 i11∧
 storeN W0 M s21 (Int.toNat i11*3+0) [s18.v,.bool b19,s20.v] W17 fun(W22:PW)=>I64 (i16+1)∧stp F14 F15 [.val (.int .i64 (i16+1))] W22 [.val (.int .i64 i16)] W17)∧
 (¬i16<(s13.2:Int)→I64 (i11+1)∧stp F9 F10 [.val (.int .i64 (i11+1))] W17 [.val (.int .i64 i11)] W12))∧
 (¬i11<(a0.2:Int)→∀(W23:PW),Ext W12 W23→Post (.tuple ⟨[s8.v,.bool true]⟩) W23))
theorem callmat_Turn (W0:PW) (M:Nat→Prop) (a0:Sl) (Post:Value→PW→Prop) (h:Rmat_Turn W0 M a0 Post):PCallsM Tryz.prog 21 [a0.v] W0 M Post:=
 fn_sound rfl tt_ok tt_in Tryz.func21 (cuts:=[]) rfl rfl (Nat.le_of_ble_eq_true rfl) (Eq.mpr (by kernel_rfl) h)
def Rmat_Same (W0:PW) (M:Nat→Prop) (a0:Sl) (a1:Sl) (Post:Value→PW→Prop):Prop:=
 callN Tryz.prog W0 M 94 [a0.v] W0 fun v1 W2=>
 ∃b3:Bool,
 v1 = .bool b3∧
 (b3=true→
 callN Tryz.prog W0 M 94 [a1.v] W2 fun v4 W5=>
 ∃b6:Bool,
 v4 = .bool b6∧
 (b6=true→callN Tryz.prog W0 M 102 [a0.v,a1.v,.func (Fn.func 103) ⟨[]⟩ ⟨[]⟩] W5 fun v7 W8=>∃b9:Bool,v7 = .bool b9∧∀(W10:PW),Ext W8 W10→Post (.bool b9) W10)∧
 (b6=false→∀(W11:PW),Ext W5 W11→Post (.bool false) W11))∧
 (b3=false→∀(W12:PW),Ext W2 W12→Post (.bool false) W12)
theorem callmat_Same (W0:PW) (M:Nat→Prop) (a0:Sl) (a1:Sl) (Post:Value→PW→Prop) (h:Rmat_Same W0 M a0 a1 Post):PCallsM Tryz.prog 23 [a0.v,a1.v] W0 M Post:=
 fn_sound rfl tt_ok tt_in Tryz.func23 (cuts:=[]) rfl rfl (Nat.le_of_ble_eq_true rfl) (Eq.mpr (by kernel_rfl) h)
def Rmat_Same_1 (W0:PW) (M:Nat→Prop) (a0:Sl) (a1:Sl) (Post:Value→PW→Prop):Prop:=
 callN Tryz.prog W0 M 104 [a0.v,a1.v,.func (Fn.func 105) ⟨[]⟩ ⟨[]⟩] W0 fun v1 W2=>∃b3:Bool,v1 = .bool b3∧∀(W4:PW),Ext W2 W4→Post (.bool b3) W4
theorem callmat_Same_1 (W0:PW) (M:Nat→Prop) (a0:Sl) (a1:Sl) (Post:Value→PW→Prop) (h:Rmat_Same_1 W0 M a0 a1 Post):PCallsM Tryz.prog 103 [a0.v,a1.v] W0 M Post:=
 fn_sound rfl tt_ok tt_in Tryz.func103 (cuts:=[]) rfl rfl (Nat.le_of_ble_eq_true rfl) (Eq.mpr (by kernel_rfl) h)
def Rmat_Same_1_1 (W0:PW) (M:Nat→Prop) (a0_0:Sl) (a0_1:Bool) (a0_2:Sl) (a1_0:Sl) (a1_1:Bool) (a1_2:Sl) (Post:Value→PW→Prop):Prop:=
 callN Tryz.prog W0 M 42 [.agg ⟨[a0_0.v,.bool a0_1,a0_2.v]⟩,.agg ⟨[a1_0.v,.bool a1_1,a1_2.v]⟩] W0 fun v1 W2=>
 ∃i3:Int,v1 = .int .i64 i3∧∀(W4:PW),Ext W2 W4→Post (.bool (decide (i3=0))) W4
theorem callmat_Same_1_1 (W0:PW) (M:Nat→Prop) (a0_0:Sl) (a0_1:Bool) (a0_2:Sl) (a1_0:Sl) (a1_1:Bool) (a1_2:Sl) (Post:Value→PW→Prop) (h:Rmat_Same_1_1 W0 M a0_0 a0_1 a0_2 a1_0 a1_1 a1_2 Post):PCallsM Tryz.prog 105 [.agg #[a0_0.v,.bool a0_1,a0_2.v],.agg #[a1_0.v,.bool a1_1,a1_2.v]] W0 M Post:=
 fn_sound rfl tt_ok tt_in Tryz.func105 (cuts:=[]) rfl rfl (Nat.le_of_ble_eq_true rfl) (Eq.mpr (by kernel_rfl) h)
def Rslices_EqualFunc_mat_Mat_mat_Mat_rat_Rat_rat_Rat (W0:PW) (M:Nat→Prop) (a0:Sl) (a1:Sl) (Post:Value→PW→Prop):Prop:=
 ((a0.2:Int)≠(a1.2:Int)→∀(W1:PW),Ext W0 W1→Post (.bool false) W1)∧
 (¬(a0.2:Int)≠(a1.2:Int)→
 ∃(F2:List PL→PW→Prop),
 ∃(F3:List PL→PW→Nat),
 F2 [.val (.int .i64 0)] W0∧
 ∀(i4:Int) (W5:PW),
 F2 [.val (.int .i64 i4)] W5→
 (i4<(a0.2:Int)→
 inB a0 i4∧
 ∃s6:Sl,
 ElemAt W5 a0 1 (Int.toNat i4) 0 [s6.v]∧
 inB a1 i4∧
 ∃s7:Sl,
 ElemAt W5 a1 1 (Int.toNat i4) 0 [s7.v]∧
 callN Tryz.prog W0 M 103 [s6.v,s7.v] W5 fun v8 W9=>
 ∃b10:Bool,v8 = .bool b10∧((!b10)=true→∀(W11:PW),Ext W9 W11→Post (.bool false) W11)∧((!b10)=false→I64 (i4+1)∧stp F2 F3 [.val (.int .i64 (i4+1))] W9 [.val (.int .i64 i4)] W5))∧
 (¬i4<(a0.2:Int)→∀(W12:PW),Ext W5 W12→Post (.bool true) W12))
theorem callslices_EqualFunc_mat_Mat_mat_Mat_rat_Rat_rat_Rat (W0:PW) (M:Nat→Prop) (a0:Sl) (a1:Sl) (Post:Value→PW→Prop) (h:Rslices_EqualFunc_mat_Mat_mat_Mat_rat_Rat_rat_Rat W0 M a0 a1 Post):PCallsM Tryz.prog 102 [a0.v,a1.v,.func (Fn.func 103) #[] #[]] W0 M Post:=
 fn_sound rfl tt_ok tt_in Tryz.func102 (cuts:=[]) rfl rfl (Nat.le_of_ble_eq_true rfl) (Eq.mpr (by kernel_rfl) h)
def Rslices_EqualFunc_rat_Rat_rat_Rat_rat_Rat_rat_Rat (W0:PW) (M:Nat→Prop) (a0:Sl) (a1:Sl) (Post:Value→PW→Prop):Prop:=
 ((a0.2:Int)≠(a1.2:Int)→∀(W1:PW),Ext W0 W1→Post (.bool false) W1)∧
 (¬(a0.2:Int)≠(a1.2:Int)→
 ∃(F2:List PL→PW→Prop),
 ∃(F3:List PL→PW→Nat),
 F2 [.val (.int .i64 0)] W0∧
 ∀(i4:Int) (W5:PW),
 F2 [.val (.int .i64 i4)] W5→
 (i4<(a0.2:Int)→
 inB a0 i4∧
 ∃s6:Sl,
 ∃b7:Bool,
 ∃s8:Sl,
 ElemAt W5 a0 3 (Int.toNat i4) 0 [s6.v,.bool b7,s8.v]∧
 inB a1 i4∧
 ∃s9:Sl,
 ∃b10:Bool,
 ∃s11:Sl,
 ElemAt W5 a1 3 (Int.toNat i4) 0 [s9.v,.bool b10,s11.v]∧
 callN Tryz.prog W0 M 105 [.agg ⟨[s6.v,.bool b7,s8.v]⟩,.agg ⟨[s9.v,.bool b10,s11.v]⟩] W5 fun v12 W13=>
 ∃b14:Bool,v12 = .bool b14∧((!b14)=true→∀(W15:PW),Ext W13 W15→Post (.bool false) W15)∧((!b14)=false→I64 (i4+1)∧stp F2 F3 [.val (.int .i64 (i4+1))] W13 [.val (.int .i64 i4)] W5))∧
 (¬i4<(a0.2:Int)→∀(W16:PW),Ext W5 W16→Post (.bool true) W16))
theorem callslices_EqualFunc_rat_Rat_rat_Rat_rat_Rat_rat_Rat (W0:PW) (M:Nat→Prop) (a0:Sl) (a1:Sl) (Post:Value→PW→Prop) (h:Rslices_EqualFunc_rat_Rat_rat_Rat_rat_Rat_rat_Rat W0 M a0 a1 Post):PCallsM Tryz.prog 104 [a0.v,a1.v,.func (Fn.func 105) #[] #[]] W0 M Post:=
 fn_sound rfl tt_ok tt_in Tryz.func104 (cuts:=[]) rfl rfl (Nat.le_of_ble_eq_true rfl) (Eq.mpr (by kernel_rfl) h)
end Go.Proofs.YthpmkcidkcmlgaaGreat
