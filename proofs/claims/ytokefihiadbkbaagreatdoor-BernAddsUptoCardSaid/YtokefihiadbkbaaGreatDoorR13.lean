/- R13 -/
import Derived.Test.YtokefihiadbkbaaGreatDoorTt
set_option linter.unusedVariables false
set_option linter.unusedSimpArgs false
set_option maxRecDepth 100000
namespace Go.Proofs.YtokefihiadbkbaaGreatDoor
open Go Go.SX
def Gq5 (W0:PW) (M:Nat→Prop) (a0_0:Sl) (a0_1:Bool) (a0_2:Sl) (a0_3:Sl) (a0_4:Bool) (a0_5:Sl) (Post:Value→PW→Prop):Prop:=
 Aa1 Tryz.prog W0 M 163 [.agg ⟨[a0_3.v,.bool a0_4,a0_5.v]⟩,.agg ⟨[a0_0.v,.bool a0_1,a0_2.v]⟩] W0 fun v1 W2=>
 ∃s3:Sl,∃b4:Bool,∃s5:Sl,v1 = .agg ⟨[s3.v,.bool b4,s5.v]⟩∧∀(W6:PW),Ext W2 W6→Post (.agg ⟨[s3.v,.bool b4,s5.v]⟩) W6
theorem Gk0 (W0:PW) (M:Nat→Prop) (a0_0:Sl) (a0_1:Bool) (a0_2:Sl) (a0_3:Sl) (a0_4:Bool) (a0_5:Sl) (Post:Value→PW→Prop) (h:Gq5 W0 M a0_0 a0_1 a0_2 a0_3 a0_4 a0_5 Post):Aa0 Tryz.prog 113 [.agg #[a0_0.v,.bool a0_1,a0_2.v,a0_3.v,.bool a0_4,a0_5.v]] W0 M Post:=
 Aa3 rfl Aa9 Aa8 Tryz.func113 (cuts:=[]) rfl rfl (Nat.le_of_ble_eq_true rfl) (Eq.mpr (by kernel_rfl) h)
def Eh2 (W0:PW) (M:Nat→Prop) (a0_0:Sl) (a0_1:Bool) (a0_2:Sl) (a1_0:Sl) (a1_1:Bool) (a1_2:Sl) (Post:Value→PW→Prop):Prop:=
 Aa1 Tryz.prog W0 M 20 [.agg ⟨[a0_0.v,.bool a0_1,a0_2.v]⟩,.agg ⟨[a1_0.v,.bool a1_1,a1_2.v]⟩] W0 fun v1 W2=>
 ∃i3:Int,
 v1 = .int .i64 i3∧
 (0<i3→
 ∀(W4:PW),Ext W2 W4→Post (.tuple ⟨[.agg ⟨[.slice none 0 0,.bool false,.slice none 0 0,.slice none 0 0,.bool false,.slice none 0 0]⟩,.bool false]⟩) W4)∧
 (¬0<i3→∀(W5:PW),Ext W2 W5→Post (.tuple ⟨[.agg ⟨[a0_0.v,.bool a0_1,a0_2.v,a1_0.v,.bool a1_1,a1_2.v]⟩,.bool true]⟩) W5)
theorem Ct1 (W0:PW) (M:Nat→Prop) (a0_0:Sl) (a0_1:Bool) (a0_2:Sl) (a1_0:Sl) (a1_1:Bool) (a1_2:Sl) (Post:Value→PW→Prop) (h:Eh2 W0 M a0_0 a0_1 a0_2 a1_0 a1_1 a1_2 Post):Aa0 Tryz.prog 196 [.agg #[a0_0.v,.bool a0_1,a0_2.v],.agg #[a1_0.v,.bool a1_1,a1_2.v]] W0 M Post:=
 Aa3 rfl Aa9 Aa8 Tryz.func196 (cuts:=[]) rfl rfl (Nat.le_of_ble_eq_true rfl) (Eq.mpr (by kernel_rfl) h)
def Dm6 (W0:PW) (M:Nat→Prop) (a0_0:ByteArray) (a0_1:ByteArray) (Post:Value→PW→Prop):Prop:=
 Aa1 Tryz.prog W0 M 57 [.string a0_0] W0 fun v1 W2=>
 ∃s3:Sl,
 ∃b4:Bool,
 ∃s5:Sl,
 ∃i6:Int,
 v1 = .tuple ⟨[.agg ⟨[s3.v,.bool b4,s5.v]⟩,.int .i64 i6]⟩∧
 (i6≠0→
 ∀(W7:PW),Ext W2 W7→Post (.tuple ⟨[.agg ⟨[.slice none 0 0,.bool false,.slice none 0 0,.slice none 0 0,.bool false,.slice none 0 0]⟩,.int .i64 i6]⟩) W7)∧
 (¬i6≠0→
 Aa1 Tryz.prog W0 M 57 [.string a0_1] W2 fun v8 W9=>
 ∃s10:Sl,
 ∃b11:Bool,
 ∃s12:Sl,
 ∃i13:Int,
 v8 = .tuple ⟨[.agg ⟨[s10.v,.bool b11,s12.v]⟩,.int .i64 i13]⟩∧
 (i13≠0→
 ∀(W14:PW),
 Ext W9 W14→
 Post (.tuple ⟨[.agg ⟨[.slice none 0 0,.bool false,.slice none 0 0,.slice none 0 0,.bool false,.slice none 0 0]⟩,.int .i64 i13]⟩) W14)∧
 (¬i13≠0→
 Aa1 Tryz.prog W0 M 196 [.agg ⟨[s3.v,.bool b4,s5.v]⟩,.agg ⟨[s10.v,.bool b11,s12.v]⟩] W9 fun v15 W16=>
 ∃s17:Sl,
 ∃b18:Bool,
 ∃s19:Sl,
 ∃s20:Sl,
 ∃b21:Bool,
 ∃s22:Sl,
 ∃b23:Bool,
 v15 = .tuple ⟨[.agg ⟨[s17.v,.bool b18,s19.v,s20.v,.bool b21,s22.v]⟩,.bool b23]⟩∧
 ((!b23)=true→
 ∀(W24:PW),
 Ext W16 W24→
 Post
 (.tuple
 ⟨[.agg ⟨[.slice none 0 0,.bool false,.slice none 0 0,.slice none 0 0,.bool false,.slice none 0 0]⟩,.int .i64 1]⟩)
 W24)∧
 ((!b23)=false→∀(W25:PW),Ext W16 W25→Post (.tuple ⟨[.agg ⟨[s17.v,.bool b18,s19.v,s20.v,.bool b21,s22.v]⟩,.int .i64 0]⟩) W25)))
theorem Bz8 (W0:PW) (M:Nat→Prop) (a0_0:ByteArray) (a0_1:ByteArray) (Post:Value→PW→Prop) (h:Dm6 W0 M a0_0 a0_1 Post):Aa0 Tryz.prog 148 [.agg #[.string a0_0,.string a0_1]] W0 M Post:=
 Aa3 rfl Aa9 Aa8 Tryz.func148 (cuts:=[]) rfl rfl (Nat.le_of_ble_eq_true rfl) (Eq.mpr (by kernel_rfl) h)
def Br7 (W0:PW) (M:Nat→Prop) (a0_0:ByteArray) (a0_1:ByteArray) (Post:Value→PW→Prop):Prop:=
 Aa1 Tryz.prog W0 M 56 [.string a0_0] W0 fun v1 W2=>
 ∃b3:Bool,
 ∃s4:Sl,
 ∃s5:Sl,
 ∃b6:Bool,
 v1 = .tuple ⟨[.agg ⟨[.bool b3,s4.v,s5.v]⟩,.bool b6]⟩∧
 Aa1 Tryz.prog W0 M 56 [.string a0_1] W2 fun v7 W8=>
 ∃b9:Bool,
 ∃s10:Sl,
 ∃s11:Sl,
 ∃b12:Bool,
 v7 = .tuple ⟨[.agg ⟨[.bool b9,s10.v,s11.v]⟩,.bool b12]⟩∧
 ((!b6)=true→
 ∀(W13:PW),
 Ext W8 W13→
 Post (.tuple ⟨[.agg ⟨[.bool false,.slice none 0 0,.slice none 0 0,.bool false,.slice none 0 0,.slice none 0 0]⟩,.int .i64 2]⟩) W13)∧
 ((!b6)=false→
 ((!b12)=true→
 ∀(W14:PW),
 Ext W8 W14→
 Post (.tuple ⟨[.agg ⟨[.bool false,.slice none 0 0,.slice none 0 0,.bool false,.slice none 0 0,.slice none 0 0]⟩,.int .i64 2]⟩) W14)∧
 ((!b12)=false→
 Aa1 Tryz.prog W0 M 94 [.agg ⟨[.bool b3,s4.v,s5.v]⟩,.agg ⟨[.bool b9,s10.v,s11.v]⟩] W8 fun v15 W16=>
 ∃i17:Int,
 v15 = .int .i64 i17∧
 (0<i17→
 ∀(W18:PW),
 Ext W16 W18→
 Post (.tuple ⟨[.agg ⟨[.bool false,.slice none 0 0,.slice none 0 0,.bool false,.slice none 0 0,.slice none 0 0]⟩,.int .i64 1]⟩)
 W18)∧
 (¬0<i17→∀(W19:PW),Ext W16 W19→Post (.tuple ⟨[.agg ⟨[.bool b3,s4.v,s5.v,.bool b9,s10.v,s11.v]⟩,.int .i64 0]⟩) W19)))
theorem Be5 (W0:PW) (M:Nat→Prop) (a0_0:ByteArray) (a0_1:ByteArray) (Post:Value→PW→Prop) (h:Br7 W0 M a0_0 a0_1 Post):Aa0 Tryz.prog 120 [.agg #[.string a0_0,.string a0_1]] W0 M Post:=
 Aa3 rfl Aa9 Aa8 Tryz.func120 (cuts:=[]) rfl rfl (Nat.le_of_ble_eq_true rfl) (Eq.mpr (by kernel_rfl) h)
end Go.Proofs.YtokefihiadbkbaaGreatDoor
