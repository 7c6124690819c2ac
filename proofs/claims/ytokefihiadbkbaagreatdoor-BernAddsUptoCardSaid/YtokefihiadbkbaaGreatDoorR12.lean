/- R12 -/
import Derived.Test.YtokefihiadbkbaaGreatDoorTt
set_option linter.unusedVariables false
set_option linter.unusedSimpArgs false
set_option maxRecDepth 100000
namespace Go.Proofs.YtokefihiadbkbaaGreatDoor
open Go Go.SX
def Jv5 (W0:PW) (M:Nat→Prop) (a0:Sl) (a1:Sl) (Post:Value→PW→Prop):Prop:=
 ∃(F1:List PL→PW→Prop),
 ∃(F2:List PL→PW→Nat),
 F1 [.val a0.v,.val (.int .i64 0)] W0∧
 ∀(s3:Sl) (i4:Int) (W5:PW),
 F1 [.val s3.v,.val (.int .i64 i4)] W5→
 (i4<(a1.2:Int)→
 inB a1 i4∧
 ∃i6:Int,
 ∃i7:Int,
 ∃i8:Int,
 ∃b9:Bool,
 ∃s10:Sl,
 ∃s11:Sl,
 Aa7 W5 a1 6 (Int.toNat i4) 0 [.int .u8 i6,.int .u8 i7,.int .u8 i8,.bool b9,s10.v,s11.v]∧
 Aa1 Tryz.prog W0 M 62 [s3.v,.agg ⟨[.int .u8 i6,.int .u8 i7,.int .u8 i8,.bool b9,s10.v,s11.v]⟩] W5 fun v12 W13=>
 ∃s14:Sl,v12=s14.v∧I64 (i4+1)∧stp F1 F2 [.val s14.v,.val (.int .i64 (i4+1))] W13 [.val s3.v,.val (.int .i64 i4)] W5)∧
 (¬i4<(a1.2:Int)→∀(W15:PW),Ext W5 W15→Post s3.v W15)
theorem Jv1 (W0:PW) (M:Nat→Prop) (a0:Sl) (a1:Sl) (Post:Value→PW→Prop) (h:Jv5 W0 M a0 a1 Post):Aa0 Tryz.prog 15 [a0.v,a1.v] W0 M Post:=
 Aa3 rfl Aa9 Aa8 Tryz.func15 (cuts:=[]) rfl rfl (Nat.le_of_ble_eq_true rfl) (Eq.mpr (by kernel_rfl) h)
end Go.Proofs.YtokefihiadbkbaaGreatDoor
