/- R11 -/
import Derived.Test.YtjgpenfndnhdnaaGreatTt
set_option linter.unusedVariables false
set_option linter.unusedSimpArgs false
set_option maxRecDepth 100000
set_option linter.unusedVariables false
namespace Go.Proofs.YtjgpenfndnhdnaaGreat
open Go Go.SX
def Rref1_Sign (W0:PW) (M:Nat→Prop) (a0_0:Bool) (a0_1:Sl) (Post:Value→PW→Prop):Prop:=
 ((a0_1.2:Int)=0→∀(W1:PW),Ext W0 W1→Post (.int .i64 0) W1)∧(¬(a0_1.2:Int)=0→(a0_0=true→∀(W2:PW),Ext W0 W2→Post (.int .i64 (-1:Int)) W2)∧(a0_0=false→∀(W3:PW),Ext W0 W3→Post (.int .i64 1) W3))
theorem callref1_Sign (W0:PW) (M:Nat→Prop) (a0_0:Bool) (a0_1:Sl) (Post:Value→PW→Prop) (h:Rref1_Sign W0 M a0_0 a0_1 Post):PCallsM Tryz.prog 108 [.agg #[.bool a0_0,a0_1.v]] W0 M Post:=
 fn_sound rfl tt_ok tt_in Tryz.func108 (cuts:=[]) rfl rfl (Nat.le_of_ble_eq_true rfl) (Eq.mpr (by kernel_rfl) h)
end Go.Proofs.YtjgpenfndnhdnaaGreat
