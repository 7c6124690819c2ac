/- R12 -/
import Derived.Test.YtjgpenfndnhdnaaGreatTt
set_option linter.unusedVariables false
set_option linter.unusedSimpArgs false
set_option maxRecDepth 100000
set_option linter.unusedVariables false
namespace Go.Proofs.YtjgpenfndnhdnaaGreat
open Go Go.SX
def Rref1_MatRight (W0:PW) (M:Nat→Prop) (a0:Sl) (Post:Value→PW→Prop):Prop:=
 ((a0.2:Int)<1→∀(W1:PW),Ext W0 W1→Post (.bool false) W1)∧
 (¬(a0.2:Int)<1→
 (12<(a0.2:Int)→∀(W2:PW),Ext W0 W2→Post (.bool false) W2)∧
 (¬12<(a0.2:Int)→
 inB a0 0∧
 ∃s3:Sl,
 ElemAt W0 a0 1 0 0 [s3.v]∧
 ((s3.2:Int)<1→∀(W4:PW),Ext W0 W4→Post (.bool false) W4)∧
 (¬(s3.2:Int)<1→
 inB a0 0∧
 ∃s5:Sl,
 ElemAt W0 a0 1 0 0 [s5.v]∧
 (12<(s5.2:Int)→∀(W6:PW),Ext W0 W6→Post (.bool false) W6)∧
 (¬12<(s5.2:Int)→
 ∃(F7:List PL→PW→Prop),
 ∃(F8:List PL→PW→Nat),
 F7 [.val (.int .i64 0)] W0∧
 ∀(i9:Int) (W10:PW),
 F7 [.val (.int .i64 i9)] W10→
 (i9<(a0.2:Int)→
 inB a0 i9∧
 ∃s11:Sl,
 ElemAt W10 a0 1 (Int.toNat i9) 0 [s11.v]∧
 inB a0 0∧
 ∃s12:Sl,
 ElemAt W10 a0 1 0 0 [s12.v]∧
 ((s11.2:Int)≠(s12.2:Int)→∀(W13:PW),Ext W10 W13→Post (.bool false) W13)∧(¬(s11.2:Int)≠(s12.2:Int)→I64 (i9+1)∧stp F7 F8 [.val (.int .i64 (i9+1))] W10 [.val (.int .i64 i9)] W10))∧
 (¬i9<(a0.2:Int)→∀(W14:PW),Ext W10 W14→Post (.bool true) W14)))))
theorem callref1_MatRight (W0:PW) (M:Nat→Prop) (a0:Sl) (Post:Value→PW→Prop) (h:Rref1_MatRight W0 M a0 Post):PCallsM Tryz.prog 103 [a0.v] W0 M Post:=
 fn_sound rfl tt_ok tt_in Tryz.func103 (cuts:=[]) rfl rfl (Nat.le_of_ble_eq_true rfl) (Eq.mpr (by kernel_rfl) h)
def Rref1_square (W0:PW) (M:Nat→Prop) (a0:Sl) (Post:Value→PW→Prop):Prop:=
 callN Tryz.prog W0 M 103 [a0.v] W0 fun v1 W2=>
 ∃b3:Bool,v1 = .bool b3∧(b3=true→inB a0 0∧∃s4:Sl,ElemAt W2 a0 1 0 0 [s4.v]∧∀(W5:PW),Ext W2 W5→Post (.bool (decide ((a0.2:Int)=(s4.2:Int)))) W5)∧(b3=false→∀(W6:PW),Ext W2 W6→Post (.bool false) W6)
theorem callref1_square (W0:PW) (M:Nat→Prop) (a0:Sl) (Post:Value→PW→Prop) (h:Rref1_square W0 M a0 Post):PCallsM Tryz.prog 50 [a0.v] W0 M Post:=
 fn_sound rfl tt_ok tt_in Tryz.func50 (cuts:=[]) rfl rfl (Nat.le_of_ble_eq_true rfl) (Eq.mpr (by kernel_rfl) h)
end Go.Proofs.YtjgpenfndnhdnaaGreat
