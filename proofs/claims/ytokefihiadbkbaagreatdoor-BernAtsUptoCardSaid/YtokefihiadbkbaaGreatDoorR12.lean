/- R12 -/
import Derived.Test.YtokefihiadbkbaaGreatDoorTt
set_option linter.unusedVariables false
set_option linter.unusedSimpArgs false
set_option maxRecDepth 100000
namespace Go.Proofs.YtokefihiadbkbaaGreatDoor
open Go Go.SX
def Hm6 (W0:PW) (M:Nat→Prop) (a0_0:Bool) (a0_1:Sl) (a0_2:Sl) (Post:Value→PW→Prop):Prop:=
 Aa1 Tryz.prog W0 M 152 [.int .i64 1] W0 fun v1 W2=>
 ∃b3:Bool,
 ∃s4:Sl,
 v1 = .agg ⟨[.bool b3,s4.v]⟩∧
 Aa1 Tryz.prog W0 M 124 [.int .u64 2] W2 fun v5 W6=>
 ∃s7:Sl,
 v5=s7.v∧
 Aa1 Tryz.prog W0 M 88 [.agg ⟨[.bool a0_0,a0_1.v,a0_2.v]⟩,.agg ⟨[.bool b3,s4.v,s7.v]⟩] W6 fun v8 W9=>
 ∃b10:Bool,∃s11:Sl,∃s12:Sl,v8 = .agg ⟨[.bool b10,s11.v,s12.v]⟩∧∀(W13:PW),Ext W9 W13→Post (.agg ⟨[.bool b10,s11.v,s12.v]⟩) W13
theorem Hh7 (W0:PW) (M:Nat→Prop) (a0_0:Bool) (a0_1:Sl) (a0_2:Sl) (Post:Value→PW→Prop) (h:Hm6 W0 M a0_0 a0_1 a0_2 Post):Aa0 Tryz.prog 103 [.agg #[.bool a0_0,a0_1.v,a0_2.v]] W0 M Post:=
 Aa3 rfl Aa9 Aa8 Tryz.func103 (cuts:=[]) rfl rfl (Nat.le_of_ble_eq_true rfl) (Eq.mpr (by kernel_rfl) h)
end Go.Proofs.YtokefihiadbkbaaGreatDoor
