/- R17 -/
import Derived.Test.YtjgpenfndnhdnaaGreatTt
set_option linter.unusedVariables false
set_option linter.unusedSimpArgs false
set_option maxRecDepth 100000
set_option linter.unusedVariables false
namespace Go.Proofs.YtjgpenfndnhdnaaGreat
open Go Go.SX
def Rbook_Terms (W0:PW) (M:Nat→Prop) (a0:Sl) (a1:Int) (a2:Int) (Post:Value→PW→Prop):Prop:=
 (a1<(a0.2:Int)→∀(W1:PW),Ext W0 W1→Post (.bool false) W1)∧
 (¬a1<(a0.2:Int)→
 ∃(F2:List PL→PW→Prop),
 ∃(F3:List PL→PW→Nat),
 F2 [.val (.int .i64 0)] W0∧
 ∀(i4:Int) (W5:PW),
 F2 [.val (.int .i64 i4)] W5→
 (i4<(a0.2:Int)→
 inB a0 i4∧
 ∃t6:ByteArray,
 ElemAt W5 a0 4 (Int.toNat i4) 3 [.string t6]∧
 (30<(↑(ByteArray.size t6):Int)→∀(W7:PW),Ext W5 W7→Post (.bool false) W7)∧
 (¬30<(↑(ByteArray.size t6):Int)→
 inB a0 i4∧
 ((0:Int)≤0∧(0:Int)<3)∧
 ∃i8:Int,
 ElemAt W5 a0 4 (Int.toNat i4) 0 [.int .u8 i8]∧
 I64 i8∧
 (a2<i8→∀(W9:PW),Ext W5 W9→Post (.bool false) W9)∧
 (¬a2<i8→
 inB a0 i4∧
 ((0:Int)≤1∧(1:Int)<3)∧
 ∃i10:Int,
 ElemAt W5 a0 4 (Int.toNat i4) 1 [.int .u8 i10]∧
 I64 i10∧
 (a2<i10→∀(W11:PW),Ext W5 W11→Post (.bool false) W11)∧
 (¬a2<i10→
 inB a0 i4∧
 ((0:Int)≤2∧(2:Int)<3)∧
 ∃i12:Int,
 ElemAt W5 a0 4 (Int.toNat i4) 2 [.int .u8 i12]∧
 I64 i12∧(a2<i12→∀(W13:PW),Ext W5 W13→Post (.bool false) W13)∧(¬a2<i12→I64 (i4+1)∧stp F2 F3 [.val (.int .i64 (i4+1))] W5 [.val (.int .i64 i4)] W5)))))∧
 (¬i4<(a0.2:Int)→∀(W14:PW),Ext W5 W14→Post (.bool true) W14))
theorem callbook_Terms (W0:PW) (M:Nat→Prop) (a0:Sl) (a1:Int) (a2:Int) (Post:Value→PW→Prop) (h:Rbook_Terms W0 M a0 a1 a2 Post):PCallsM Tryz.prog 56 [a0.v,.int .i64 a1,.int .i64 a2] W0 M Post:=
 fn_sound rfl tt_ok tt_in Tryz.func56 (cuts:=[]) rfl rfl (Nat.le_of_ble_eq_true rfl) (Eq.mpr (by kernel_rfl) h)
def Rbook_Within (W0:PW) (M:Nat→Prop) (a0:Int) (a1:Int) (a2:Int) (Post:Value→PW→Prop):Prop:=
 I64 (a2-a1)∧
 I64 (a2-a1+1)∧
 a2-a1+1≠0∧
 (Int.tmod a0 (a2-a1+1)<0→
 I64 (a2-a1)∧I64 (a2-a1+1)∧I64 (Int.tmod a0 (a2-a1+1)+(a2-a1+1))∧I64 (a1+(Int.tmod a0 (a2-a1+1)+(a2-a1+1)))∧∀(W1:PW),Ext W0 W1→Post (.int .i64 (a1+(Int.tmod a0 (a2-a1+1)+(a2-a1+1)))) W1)∧
 (¬Int.tmod a0 (a2-a1+1)<0→I64 (a1+Int.tmod a0 (a2-a1+1))∧∀(W2:PW),Ext W0 W2→Post (.int .i64 (a1+Int.tmod a0 (a2-a1+1))) W2)
theorem callbook_Within (W0:PW) (M:Nat→Prop) (a0:Int) (a1:Int) (a2:Int) (Post:Value→PW→Prop) (h:Rbook_Within W0 M a0 a1 a2 Post):PCallsM Tryz.prog 36 [.int .i64 a0,.int .i64 a1,.int .i64 a2] W0 M Post:=
 fn_sound rfl tt_ok tt_in Tryz.func36 (cuts:=[]) rfl rfl (Nat.le_of_ble_eq_true rfl) (Eq.mpr (by kernel_rfl) h)
def Rlaw8_Of (W0:PW) (M:Nat→Prop) (a0:Sl) (a1:Int) (Post:Value→PW→Prop):Prop:=
 callN Tryz.prog W0 M 55 [a0.v] W0 fun v1 W2=>
 ∃s3:Sl,
 ∃b4:Bool,
 v1 = .tuple ⟨[s3.v,.bool b4]⟩∧
 ((!b4)=true→∀(W5:PW),Ext W2 W5→Post (.tuple ⟨[.agg ⟨[.slice none 0 0]⟩,.slice none 0 0,.bool false]⟩) W5)∧
 ((!b4)=false→
 callN Tryz.prog W0 M 56 [a0.v,.int .i64 14,.int .i64 a1] W2 fun v6 W7=>
 ∃b8:Bool,
 v6 = .bool b8∧
 ((!b8)=true→∀(W9:PW),Ext W7 W9→Post (.tuple ⟨[.agg ⟨[.slice none 0 0]⟩,.slice none 0 0,.bool false]⟩) W9)∧
 ((!b8)=false→
 callN Tryz.prog W0 M 57 [a0.v] W7 fun v10 W11=>
 ∃s12:Sl,∃i13:Int,v10 = .tuple ⟨[.agg ⟨[s12.v]⟩,.int .i64 i13]⟩∧∀(W14:PW),Ext W11 W14→Post (.tuple ⟨[.agg ⟨[s12.v]⟩,s3.v,.bool true]⟩) W14))
theorem calllaw8_Of (W0:PW) (M:Nat→Prop) (a0:Sl) (a1:Int) (Post:Value→PW→Prop) (h:Rlaw8_Of W0 M a0 a1 Post):PCallsM Tryz.prog 15 [a0.v,.int .i64 a1] W0 M Post:=
 fn_sound rfl tt_ok tt_in Tryz.func15 (cuts:=[]) rfl rfl (Nat.le_of_ble_eq_true rfl) (Eq.mpr (by kernel_rfl) h)
end Go.Proofs.YtjgpenfndnhdnaaGreat
