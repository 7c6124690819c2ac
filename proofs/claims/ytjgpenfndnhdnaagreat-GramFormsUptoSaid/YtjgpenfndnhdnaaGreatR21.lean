/- R21 -/
import Derived.Test.YtjgpenfndnhdnaaGreatTt
set_option linter.unusedVariables false
set_option linter.unusedSimpArgs false
set_option maxRecDepth 100000
set_option linter.unusedVariables false
namespace Go.Proofs.YtjgpenfndnhdnaaGreat
open Go Go.SX
def Rlaw12_System (W0:PW) (M:Nat→Prop) (a0:Sl) (a1:Int) (Post:Value→PW→Prop):Prop:=
 (4<(a0.2:Int)→∀(W1:PW),Ext W0 W1→Post (.tuple ⟨[.slice none 0 0,.slice none 0 0,.bool false]⟩) W1)∧
 (¬4<(a0.2:Int)→
 ∃(F2:List PL→PW→Prop),
 ∃(F3:List PL→PW→Nat),
 F2 [.row [],.row [],.val (.int .i64 0)] W0∧
 ∀(l4 l5:List (List Value)) (i6:Int) (W7:PW),
 F2 [.row l4,.row l5,.val (.int .i64 i6)] W7→
 (i6<(a0.2:Int)→
 inB a0 i6∧
 ∃s8:Sl,
 ElemAt W7 a0 1 (Int.toNat i6) 0 [s8.v]∧
 callN Tryz.prog W0 M 15 [s8.v,.int .i64 a1] W7 fun v9 W10=>
 ∃s11:Sl,
 ∃s12:Sl,
 ∃b13:Bool,
 v9 = .tuple ⟨[.agg ⟨[s11.v]⟩,s12.v,.bool b13]⟩∧
 ((!b13)=true→∀(W14:PW),Ext W10 W14→Post (.tuple ⟨[.slice none 0 0,.slice none 0 0,.bool false]⟩) W14)∧
 ((!b13)=false→
 (List.length l4+List.length [[s11.v]])*24≤140737488355328∧
 (List.length l5+List.length [[s12.v]])*24≤140737488355328∧
 I64 (i6+1)∧stp F2 F3 [.row (l4 ++ [[s11.v]]),.row (l5 ++ [[s12.v]]),.val (.int .i64 (i6+1))] W10 [.row l4,.row l5,.val (.int .i64 i6)] W7))∧
 (¬i6<(a0.2:Int)→
 ∀(s15:Sl) (W16:PW),
 Ext W7 W16→SX.Own W16 38 1 s15 l4→Fr W0 W7 s15→∀(s17:Sl) (W18:PW),Ext W16 W18→SX.Own W18 42 1 s17 l5→Fr W0 W16 s17→∀(W19:PW),Ext W18 W19→Post (.tuple ⟨[s15.v,s17.v,.bool true]⟩) W19))
theorem calllaw12_System (W0:PW) (M:Nat→Prop) (a0:Sl) (a1:Int) (Post:Value→PW→Prop) (h:Rlaw12_System W0 M a0 a1 Post):PCallsM Tryz.prog 9 [a0.v,.int .i64 a1] W0 M Post:=
 fn_sound rfl tt_ok tt_in Tryz.func9 (cuts:=[]) rfl rfl (Nat.le_of_ble_eq_true rfl) (Eq.mpr (by kernel_rfl) h)
end Go.Proofs.YtjgpenfndnhdnaaGreat
