/- R14 -/
import Derived.Test.YtokefihiadbkbaaGreatDoorTt
set_option linter.unusedVariables false
set_option linter.unusedSimpArgs false
set_option maxRecDepth 100000
namespace Go.Proofs.YtokefihiadbkbaaGreatDoor
open Go Go.SX
def Dy7 (W0:PW) (M:Nat→Prop) (a0:Sl) (Post:Value→PW→Prop):Prop:=
 ∃(F1:List PL→PW→Prop),
 ∃(F2:List PL→PW→Nat),
 F1 [.val (.int .i64 0)] W0∧
 ∀(i3:Int) (W4:PW),
 F1 [.val (.int .i64 i3)] W4→
 (i3<(a0.2:Int)→
 inB a0 i3∧
 ∃s5:Sl,
 ∃b6:Bool,
 ∃s7:Sl,
 ∃s8:Sl,
 ∃b9:Bool,
 ∃s10:Sl,
 Aa7 W4 a0 6 (Int.toNat i3) 0 [s5.v,.bool b6,s7.v,s8.v,.bool b9,s10.v]∧
 Aa1 Tryz.prog W0 M 20 [.agg ⟨[s5.v,.bool b6,s7.v]⟩,.agg ⟨[s8.v,.bool b9,s10.v]⟩] W4 fun v11 W12=>
 ∃i13:Int,v11 = .int .i64 i13∧(0≤i13→∀(W14:PW),Ext W12 W14→Post (.bool false) W14)∧(¬0≤i13→I64 (i3+1)∧stp F1 F2 [.val (.int .i64 (i3+1))] W12 [.val (.int .i64 i3)] W4))∧
 (¬i3<(a0.2:Int)→(1≤(a0.2:Int)→∀(W15:PW),Ext W4 W15→Post (.bool (decide ((a0.2:Int)≤3))) W15)∧(¬1≤(a0.2:Int)→∀(W16:PW),Ext W4 W16→Post (.bool false) W16))
theorem Ck4 (W0:PW) (M:Nat→Prop) (a0:Sl) (Post:Value→PW→Prop) (h:Dy7 W0 M a0 Post):Aa0 Tryz.prog 108 [a0.v] W0 M Post:=
 Aa3 rfl Aa9 Aa8 Tryz.func108 (cuts:=[]) rfl rfl (Nat.le_of_ble_eq_true rfl) (Eq.mpr (by kernel_rfl) h)
end Go.Proofs.YtokefihiadbkbaaGreatDoor
