/- R9 -/
import Derived.Test.YthpmkcidkcmlgaaGreatTt
set_option linter.unusedVariables false
set_option linter.unusedSimpArgs false
set_option maxRecDepth 100000
set_option linter.unusedVariables false
namespace Go.Proofs.YthpmkcidkcmlgaaGreat
open Go Go.SX
def Rmat_Plain (W0:PW) (M:Nat→Prop) (a0:Sl) (Post:Value→PW→Prop):Prop:=
 ∃(F1:List PL→PW→Prop),
 ∃(F2:List PL→PW→Nat),
 F1 [PL.row [],PL.val (Value.int .i64 0)] W0∧
 ∀(l3:List (List Value)) (i4:Int) (W5:PW),
 F1 [PL.row l3,PL.val (Value.int .i64 i4)] W5→
 (i4<(a0.2:Int)→
 inB a0 i4∧
 ∃s6:Sl,
 ElemAt W5 a0 1 (Int.toNat i4) 0 [s6.v]∧
 ∃(F7:List PL→PW→Prop),
 ∃(F8:List PL→PW→Nat),
 F7 [PL.row [],PL.val (Value.int .i64 0)] W5∧
 ∀(l9:List (List Value)) (i10:Int) (W11:PW),
 F7 [PL.row l9,PL.val (Value.int .i64 i10)] W11→
 (i10<(s6.2:Int)→
 inB s6 i10∧
 ∃s12:Sl,
 ∃b13:Bool,
 ∃s14:Sl,
 ElemAt W11 s6 3 (Int.toNat i10) 0 [s12.v,Value.bool b13,s14.v]∧
 callN Tryz.prog W0 M 116 [Value.agg ⟨[s12.v,Value.bool b13,s14.v]⟩] W11 fun v15 W16=>
 ∃t17:ByteArray,
 v15=Value.string t17∧
 (List.length l9+List.length [[Value.string t17]])*16≤140737488355328∧I64 (i10+1)∧stp F7 F8 [PL.row (l9 ++ [[Value.string t17]]),PL.val (Value.int .i64 (i10+1))] W16 [PL.row l9,PL.val (Value.int .i64 i10)] W11)∧
 (¬i10<(s6.2:Int)→
 ∀(s18:Sl) (W19:PW),
 Ext W11 W19→
 SX.Own W19 9 1 s18 l9→
 Fr W0 W11 s18→(List.length l3+List.length [[s18.v]])*24≤140737488355328∧I64 (i4+1)∧stp F1 F2 [PL.row (l3 ++ [[s18.v]]),PL.val (Value.int .i64 (i4+1))] W19 [PL.row l3,PL.val (Value.int .i64 i4)] W5))∧
 (¬i4<(a0.2:Int)→∀(s20:Sl) (W21:PW),Ext W5 W21→SX.Own W21 179 1 s20 l3→Fr W0 W5 s20→∀(W22:PW),Ext W21 W22→Post s20.v W22)
theorem callmat_Plain (W0:PW) (M:Nat→Prop) (a0:Sl) (Post:Value→PW→Prop) (h:Rmat_Plain W0 M a0 Post):PCallsM Tryz.prog 91 [a0.v] W0 M Post:=
 fn_sound rfl tt_ok tt_in Tryz.func91 (cuts:=[]) rfl rfl (Nat.le_of_ble_eq_true rfl) (Eq.mpr (by kernel_rfl) h)
def Rref1_MatPlain (W0:PW) (M:Nat→Prop) (a0:Sl) (Post:Value→PW→Prop):Prop:=
 ∃(F1:List PL→PW→Prop),
 ∃(F2:List PL→PW→Nat),
 F1 [PL.row [],PL.val (Value.int .i64 0)] W0∧
 ∀(l3:List (List Value)) (i4:Int) (W5:PW),
 F1 [PL.row l3,PL.val (Value.int .i64 i4)] W5→
 (i4<(a0.2:Int)→
 ∃(F6:List PL→PW→Prop),
 ∃(F7:List PL→PW→Nat),
 F6 [PL.row [],PL.val (Value.int .i64 0)] W5∧
 ∀(l8:List (List Value)) (i9:Int) (W10:PW),
 F6 [PL.row l8,PL.val (Value.int .i64 i9)] W10→
 inB a0 i4∧
 ∃s11:Sl,
 ElemAt W10 a0 1 (Int.toNat i4) 0 [s11.v]∧
 (i9<(s11.2:Int)→
 inB a0 i4∧
 ∃s12:Sl,
 ElemAt W10 a0 1 (Int.toNat i4) 0 [s12.v]∧
 inB s12 i9∧
 ∃b13:Bool,
 ∃s14:Sl,
 ∃s15:Sl,
 ElemAt W10 s12 3 (Int.toNat i9) 0 [Value.bool b13,s14.v,s15.v]∧
 callN Tryz.prog W0 M 119 [Value.agg ⟨[Value.bool b13,s14.v,s15.v]⟩] W10 fun v16 W17=>
 ∃t18:ByteArray,
 v16=Value.string t18∧
 (List.length l8+List.length [[Value.string t18]])*16≤140737488355328∧I64 (i9+1)∧stp F6 F7 [PL.row (l8 ++ [[Value.string t18]]),PL.val (Value.int .i64 (i9+1))] W17 [PL.row l8,PL.val (Value.int .i64 i9)] W10)∧
 (¬i9<(s11.2:Int)→
 ∀(s19:Sl) (W20:PW),
 Ext W10 W20→
 SX.Own W20 9 1 s19 l8→
 Fr W0 W10 s19→(List.length l3+List.length [[s19.v]])*24≤140737488355328∧I64 (i4+1)∧stp F1 F2 [PL.row (l3 ++ [[s19.v]]),PL.val (Value.int .i64 (i4+1))] W20 [PL.row l3,PL.val (Value.int .i64 i4)] W5))∧
 (¬i4<(a0.2:Int)→∀(s21:Sl) (W22:PW),Ext W5 W22→SX.Own W22 179 1 s21 l3→Fr W0 W5 s21→∀(W23:PW),Ext W22 W23→Post s21.v W23)
theorem callref1_MatPlain (W0:PW) (M:Nat→Prop) (a0:Sl) (Post:Value→PW→Prop) (h:Rref1_MatPlain W0 M a0 Post):PCallsM Tryz.prog 92 [a0.v] W0 M Post:=
 fn_sound rfl tt_ok tt_in Tryz.func92 (cuts:=[]) rfl rfl (Nat.le_of_ble_eq_true rfl) (Eq.mpr (by kernel_rfl) h)
def Rbook_SameTexts (W0:PW) (M:Nat→Prop) (a0:Sl) (a1:Sl) (Post:Value→PW→Prop):Prop:=
 ((a0.2:Int)≠(a1.2:Int)→∀(W1:PW),Ext W0 W1→Post (.bool false) W1)∧
 (¬(a0.2:Int)≠(a1.2:Int)→
 ∃(F2:List PL→PW→Prop),
 ∃(F3:List PL→PW→Nat),
 F2 [.val (.int .i64 0)] W0∧
 ∀(i4:Int) (W5:PW),
 F2 [.val (.int .i64 i4)] W5→
 (i4<(a0.2:Int)→
 inB a0 i4∧
 ∃t6:ByteArray,
 ElemAt W5 a0 1 (Int.toNat i4) 0 [.string t6]∧
 inB a1 i4∧
 ∃t7:ByteArray,ElemAt W5 a1 1 (Int.toNat i4) 0 [.string t7]∧(t6≠t7→∀(W8:PW),Ext W5 W8→Post (.bool false) W8)∧(¬t6≠t7→I64 (i4+1)∧stp F2 F3 [.val (.int .i64 (i4+1))] W5 [.val (.int .i64 i4)] W5))∧
 (¬i4<(a0.2:Int)→∀(W9:PW),Ext W5 W9→Post (.bool true) W9))
theorem callbook_SameTexts (W0:PW) (M:Nat→Prop) (a0:Sl) (a1:Sl) (Post:Value→PW→Prop) (h:Rbook_SameTexts W0 M a0 a1 Post):PCallsM Tryz.prog 170 [a0.v,a1.v] W0 M Post:=
 fn_sound rfl tt_ok tt_in Tryz.func170 (cuts:=[]) rfl rfl (Nat.le_of_ble_eq_true rfl) (Eq.mpr (by kernel_rfl) h)
def Rbook_SameRows (W0:PW) (M:Nat→Prop) (a0:Sl) (a1:Sl) (Post:Value→PW→Prop):Prop:=
 ((a0.2:Int)≠(a1.2:Int)→∀(W1:PW),Ext W0 W1→Post (.bool false) W1)∧
 (¬(a0.2:Int)≠(a1.2:Int)→
 ∃(F2:List PL→PW→Prop),
 ∃(F3:List PL→PW→Nat),
 F2 [.val (.int .i64 0)] W0∧
 ∀(i4:Int) (W5:PW),
 F2 [.val (.int .i64 i4)] W5→
 (i4<(a0.2:Int)→
 inB a0 i4∧
 ∃s6:Sl,
 ElemAt W5 a0 1 (Int.toNat i4) 0 [s6.v]∧
 inB a1 i4∧
 ∃s7:Sl,
 ElemAt W5 a1 1 (Int.toNat i4) 0 [s7.v]∧
 callN Tryz.prog W0 M 170 [s6.v,s7.v] W5 fun v8 W9=>
 ∃b10:Bool,v8 = .bool b10∧((!b10)=true→∀(W11:PW),Ext W9 W11→Post (.bool false) W11)∧((!b10)=false→I64 (i4+1)∧stp F2 F3 [.val (.int .i64 (i4+1))] W9 [.val (.int .i64 i4)] W5))∧
 (¬i4<(a0.2:Int)→∀(W12:PW),Ext W5 W12→Post (.bool true) W12))
theorem callbook_SameRows (W0:PW) (M:Nat→Prop) (a0:Sl) (a1:Sl) (Post:Value→PW→Prop) (h:Rbook_SameRows W0 M a0 a1 Post):PCallsM Tryz.prog 90 [a0.v,a1.v] W0 M Post:=
 fn_sound rfl tt_ok tt_in Tryz.func90 (cuts:=[]) rfl rfl (Nat.le_of_ble_eq_true rfl) (Eq.mpr (by kernel_rfl) h)
def Rlaw11_Is (W0:PW) (M:Nat→Prop) (a0:Sl) (a1:Sl) (Post:Value→PW→Prop):Prop:=
 callN Tryz.prog W0 M 91 [a0.v] W0 fun v1 W2=>
 ∃s3:Sl,
 v1=s3.v∧callN Tryz.prog W0 M 92 [a1.v] W2 fun v4 W5=>∃s6:Sl,v4=s6.v∧callN Tryz.prog W0 M 90 [s3.v,s6.v] W5 fun v7 W8=>∃b9:Bool,v7 = .bool b9∧∀(W10:PW),Ext W8 W10→Post (.bool b9) W10
theorem calllaw11_Is (W0:PW) (M:Nat→Prop) (a0:Sl) (a1:Sl) (Post:Value→PW→Prop) (h:Rlaw11_Is W0 M a0 a1 Post):PCallsM Tryz.prog 16 [a0.v,a1.v] W0 M Post:=
 fn_sound rfl tt_ok tt_in Tryz.func16 (cuts:=[]) rfl rfl (Nat.le_of_ble_eq_true rfl) (Eq.mpr (by kernel_rfl) h)
end Go.Proofs.YthpmkcidkcmlgaaGreat
