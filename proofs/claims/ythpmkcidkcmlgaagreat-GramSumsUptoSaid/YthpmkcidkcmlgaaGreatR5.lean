/- R5 -/
import Derived.Test.YthpmkcidkcmlgaaGreatTt
set_option linter.unusedVariables false
set_option linter.unusedSimpArgs false
set_option maxRecDepth 100000
set_option linter.unusedVariables false
namespace Go.Proofs.YthpmkcidkcmlgaaGreat
open Go Go.SX
def Rmat_none (W0:PW) (M:Nat→Prop) (a0:Int) (a1:Int) (Post:Value→PW→Prop):Prop:=
 (a0=a0∧0≤a0∧a0*(↑(24:Nat):Int)≤281474976710656)∧
 ∃(F1:List PL→PW→Prop),
 ∃(F2:List PL→PW→Nat),
 F1 [PL.val (Value.int .i64 0),PL.row (List.replicate (Int.toNat a0) [Value.slice none 0 0])] W0∧
 ∀(l3:List (List Value)) (i4:Int) (W5:PW),
 F1 [PL.val (Value.int .i64 i4),PL.row l3] W5→
 (i4<(↑(List.length (List.replicate (Int.toNat a0) [Value.slice none 0 0])):Int)→
 (a1=a1∧0≤a1∧a1*(↑(56:Nat):Int)≤281474976710656)∧
 (0≤i4∧i4<(↑(List.length l3):Int))∧
 ∀(s6:Sl) (W7:PW),
 Ext W5 W7→
 SX.Own W7 51 3 s6 (List.replicate (Int.toNat a1) [Value.slice none 0 0,Value.bool false,Value.slice none 0 0])→
 Fr W0 W5 s6→Int.toNat i4<List.length l3∧I64 (i4+1)∧stp F1 F2 [PL.val (Value.int .i64 (i4+1)),PL.row (List.set l3 (Int.toNat i4) [s6.v])] W7 [PL.val (Value.int .i64 i4),PL.row l3] W5)∧
 (¬i4<(↑(List.length (List.replicate (Int.toNat a0) [Value.slice none 0 0])):Int)→∀(s8:Sl) (W9:PW),Ext W5 W9→SX.Own W9 100 1 s8 l3→Fr W0 W5 s8→∀(W10:PW),Ext W9 W10→Post s8.v W10)
theorem callmat_none (W0:PW) (M:Nat→Prop) (a0:Int) (a1:Int) (Post:Value→PW→Prop) (h:Rmat_none W0 M a0 a1 Post):PCallsM Tryz.prog 99 [Value.int .i64 a0,Value.int .i64 a1] W0 M Post:=
 fn_sound rfl tt_ok tt_in Tryz.func99 (cuts:=[]) rfl rfl (Nat.le_of_ble_eq_true rfl) (Eq.mpr (by kernel_rfl) h)
def Rmat_even_rat_Rat (W0:PW) (M:Nat→Prop) (a0:Sl) (Post:Value→PW→Prop):Prop:=
 ∃(F1:List PL→PW→Prop),
 ∃(F2:List PL→PW→Nat),
 F1 [.val (.int .i64 0)] W0∧
 ∀(i3:Int) (W4:PW),
 F1 [.val (.int .i64 i3)] W4→
 (i3<(a0.2:Int)→
 inB a0 i3∧
 ∃s5:Sl,
 ElemAt W4 a0 1 (Int.toNat i3) 0 [s5.v]∧
 inB a0 0∧
 ∃s6:Sl,
 ElemAt W4 a0 1 0 0 [s6.v]∧((s5.2:Int)≠(s6.2:Int)→∀(W7:PW),Ext W4 W7→Post (.bool false) W7)∧(¬(s5.2:Int)≠(s6.2:Int)→I64 (i3+1)∧stp F1 F2 [.val (.int .i64 (i3+1))] W4 [.val (.int .i64 i3)] W4))∧
 (¬i3<(a0.2:Int)→
 (1≤(a0.2:Int)→
 ((a0.2:Int)≤12→
 inB a0 0∧
 ∃s8:Sl,
 ElemAt W4 a0 1 0 0 [s8.v]∧
 (1≤(s8.2:Int)→inB a0 0∧∃s9:Sl,ElemAt W4 a0 1 0 0 [s9.v]∧∀(W10:PW),Ext W4 W10→Post (.bool (decide ((s9.2:Int)≤12))) W10)∧(¬1≤(s8.2:Int)→∀(W11:PW),Ext W4 W11→Post (.bool false) W11))∧
 (¬(a0.2:Int)≤12→∀(W12:PW),Ext W4 W12→Post (.bool false) W12))∧
 (¬1≤(a0.2:Int)→∀(W13:PW),Ext W4 W13→Post (.bool false) W13))
theorem callmat_even_rat_Rat (W0:PW) (M:Nat→Prop) (a0:Sl) (Post:Value→PW→Prop) (h:Rmat_even_rat_Rat W0 M a0 Post):PCallsM Tryz.prog 173 [a0.v] W0 M Post:=
 fn_sound rfl tt_ok tt_in Tryz.func173 (cuts:=[]) rfl rfl (Nat.le_of_ble_eq_true rfl) (Eq.mpr (by kernel_rfl) h)
def Rmat_Right (W0:PW) (M:Nat→Prop) (a0:Sl) (Post:Value→PW→Prop):Prop:=
 callN Tryz.prog W0 M 173 [a0.v] W0 fun v1 W2=>∃b3:Bool,v1 = .bool b3∧∀(W4:PW),Ext W2 W4→Post (.bool b3) W4
theorem callmat_Right (W0:PW) (M:Nat→Prop) (a0:Sl) (Post:Value→PW→Prop) (h:Rmat_Right W0 M a0 Post):PCallsM Tryz.prog 94 [a0.v] W0 M Post:=
 fn_sound rfl tt_ok tt_in Tryz.func94 (cuts:=[]) rfl rfl (Nat.le_of_ble_eq_true rfl) (Eq.mpr (by kernel_rfl) h)
end Go.Proofs.YthpmkcidkcmlgaaGreat
