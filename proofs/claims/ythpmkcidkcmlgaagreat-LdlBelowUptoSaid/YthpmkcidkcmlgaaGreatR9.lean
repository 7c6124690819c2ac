/- R9 -/
import Derived.Test.YthpmkcidkcmlgaaGreatTt
set_option linter.unusedVariables false
set_option linter.unusedSimpArgs false
set_option maxRecDepth 100000
set_option linter.unusedVariables false
namespace Go.Proofs.YthpmkcidkcmlgaaGreat
open Go Go.SX
def Rldl_Semi (W0:PW) (M:Nat→Prop) (a0:Sl) (Post:Value→PW→Prop):Prop:=
 callN Tryz.prog W0 M 37 [a0.v] W0 fun v1 W2=>
 ∃s3:Sl,
 ∃s4:Sl,
 ∃b5:Bool,
 v1 = .tuple ⟨[s3.v,s4.v,.bool b5]⟩∧
 ∃(F6:List PL→PW→Prop),
 ∃(F7:List PL→PW→Nat),
 F6 [.val (.int .i64 0)] W2∧
 ∀(i8:Int) (W9:PW),
 F6 [.val (.int .i64 i8)] W9→
 (i8<(s4.2:Int)→
 inB s4 i8∧
 ∃s10:Sl,
 ∃b11:Bool,
 ∃s12:Sl,
 ElemAt W9 s4 3 (Int.toNat i8) 0 [s10.v,.bool b11,s12.v]∧
 callN Tryz.prog W0 M 41 [.agg ⟨[s10.v,.bool b11,s12.v]⟩] W9 fun v13 W14=>
 ∃i15:Int,v13 = .int .i64 i15∧(i15<0→∀(W16:PW),Ext W14 W16→Post (.bool false) W16)∧(¬i15<0→I64 (i8+1)∧stp F6 F7 [.val (.int .i64 (i8+1))] W14 [.val (.int .i64 i8)] W9))∧
 (¬i8<(s4.2:Int)→∀(W17:PW),Ext W9 W17→Post (.bool b5) W17)
theorem callldl_Semi (W0:PW) (M:Nat→Prop) (a0:Sl) (Post:Value→PW→Prop) (h:Rldl_Semi W0 M a0 Post):PCallsM Tryz.prog 38 [a0.v] W0 M Post:=
 fn_sound rfl tt_ok tt_in Tryz.func38 (cuts:=[]) rfl rfl (Nat.le_of_ble_eq_true rfl) (Eq.mpr (by kernel_rfl) h)
end Go.Proofs.YthpmkcidkcmlgaaGreat
