/- R13 -/
import Derived.Test.YtokefihiadbkbaaGreatDoorTt
set_option linter.unusedVariables false
set_option linter.unusedSimpArgs false
set_option maxRecDepth 100000
namespace Go.Proofs.YtokefihiadbkbaaGreatDoor
open Go Go.SX
def Dv4 (W0:PW) (M:Nat→Prop) (a0_0:Sl) (a0_1:Bool) (a0_2:Sl) (a1_0:Sl) (a1_1:Bool) (a1_2:Sl) (Post:Value→PW→Prop):Prop:=
 Aa1 Tryz.prog W0 M 20 [.agg ⟨[a1_0.v,.bool a1_1,a1_2.v]⟩,.agg ⟨[a0_0.v,.bool a0_1,a0_2.v]⟩] W0 fun v1 W2=>
 ∃i3:Int,v1 = .int .i64 i3∧(i3<0→∀(W4:PW),Ext W2 W4→Post (.agg ⟨[a1_0.v,.bool a1_1,a1_2.v]⟩) W4)∧(¬i3<0→∀(W5:PW),Ext W2 W5→Post (.agg ⟨[a0_0.v,.bool a0_1,a0_2.v]⟩) W5)
theorem Cg1 (W0:PW) (M:Nat→Prop) (a0_0:Sl) (a0_1:Bool) (a0_2:Sl) (a1_0:Sl) (a1_1:Bool) (a1_2:Sl) (Post:Value→PW→Prop) (h:Dv4 W0 M a0_0 a0_1 a0_2 a1_0 a1_1 a1_2 Post):Aa0 Tryz.prog 159 [.agg #[a0_0.v,.bool a0_1,a0_2.v],.agg #[a1_0.v,.bool a1_1,a1_2.v]] W0 M Post:=
 Aa3 rfl Aa9 Aa8 Tryz.func159 (cuts:=[]) rfl rfl (Nat.le_of_ble_eq_true rfl) (Eq.mpr (by kernel_rfl) h)
def Ec5 (W0:PW) (M:Nat→Prop) (a0_0:Sl) (a0_1:Bool) (a0_2:Sl) (a1_0:Sl) (a1_1:Bool) (a1_2:Sl) (Post:Value→PW→Prop):Prop:=
 Aa1 Tryz.prog W0 M 20 [.agg ⟨[a1_0.v,.bool a1_1,a1_2.v]⟩,.agg ⟨[a0_0.v,.bool a0_1,a0_2.v]⟩] W0 fun v1 W2=>
 ∃i3:Int,v1 = .int .i64 i3∧(0<i3→∀(W4:PW),Ext W2 W4→Post (.agg ⟨[a1_0.v,.bool a1_1,a1_2.v]⟩) W4)∧(¬0<i3→∀(W5:PW),Ext W2 W5→Post (.agg ⟨[a0_0.v,.bool a0_1,a0_2.v]⟩) W5)
theorem Ck9 (W0:PW) (M:Nat→Prop) (a0_0:Sl) (a0_1:Bool) (a0_2:Sl) (a1_0:Sl) (a1_1:Bool) (a1_2:Sl) (Post:Value→PW→Prop) (h:Ec5 W0 M a0_0 a0_1 a0_2 a1_0 a1_1 a1_2 Post):Aa0 Tryz.prog 160 [.agg #[a0_0.v,.bool a0_1,a0_2.v],.agg #[a1_0.v,.bool a1_1,a1_2.v]] W0 M Post:=
 Aa3 rfl Aa9 Aa8 Tryz.func160 (cuts:=[]) rfl rfl (Nat.le_of_ble_eq_true rfl) (Eq.mpr (by kernel_rfl) h)
def Ec6 (W0:PW) (M:Nat→Prop) (a0_0:Sl) (a0_1:Bool) (a0_2:Sl) (a0_3:Sl) (a0_4:Bool) (a0_5:Sl) (a1_0:Sl) (a1_1:Bool) (a1_2:Sl) (a1_3:Sl) (a1_4:Bool) (a1_5:Sl) (Post:Value→PW→Prop):Prop:=
 Aa1 Tryz.prog W0 M 159 [.agg ⟨[a0_0.v,.bool a0_1,a0_2.v]⟩,.agg ⟨[a1_0.v,.bool a1_1,a1_2.v]⟩] W0 fun v1 W2=>
 ∃s3:Sl,
 ∃b4:Bool,
 ∃s5:Sl,
 v1 = .agg ⟨[s3.v,.bool b4,s5.v]⟩∧
 Aa1 Tryz.prog W0 M 160 [.agg ⟨[a0_3.v,.bool a0_4,a0_5.v]⟩,.agg ⟨[a1_3.v,.bool a1_4,a1_5.v]⟩] W2 fun v6 W7=>
 ∃s8:Sl,∃b9:Bool,∃s10:Sl,v6 = .agg ⟨[s8.v,.bool b9,s10.v]⟩∧∀(W11:PW),Ext W7 W11→Post (.agg ⟨[s3.v,.bool b4,s5.v,s8.v,.bool b9,s10.v]⟩) W11
theorem Ck6 (W0:PW) (M:Nat→Prop) (a0_0:Sl) (a0_1:Bool) (a0_2:Sl) (a0_3:Sl) (a0_4:Bool) (a0_5:Sl) (a1_0:Sl) (a1_1:Bool) (a1_2:Sl) (a1_3:Sl) (a1_4:Bool) (a1_5:Sl) (Post:Value→PW→Prop) (h:Ec6 W0 M a0_0 a0_1 a0_2 a0_3 a0_4 a0_5 a1_0 a1_1 a1_2 a1_3 a1_4 a1_5 Post):Aa0 Tryz.prog 93 [.agg #[a0_0.v,.bool a0_1,a0_2.v,a0_3.v,.bool a0_4,a0_5.v],.agg #[a1_0.v,.bool a1_1,a1_2.v,a1_3.v,.bool a1_4,a1_5.v]] W0 M Post:=
 Aa3 rfl Aa9 Aa8 Tryz.func93 (cuts:=[]) rfl rfl (Nat.le_of_ble_eq_true rfl) (Eq.mpr (by kernel_rfl) h)
def Fb4 (W0:PW) (M:Nat→Prop) (a0_0:Sl) (a0_1:Bool) (a0_2:Sl) (Post:Value→PW→Prop):Prop:=
 ∀(W1:PW),Ext W0 W1→Post (.agg ⟨[a0_0.v,.bool a0_1,a0_2.v,a0_0.v,.bool a0_1,a0_2.v]⟩) W1
theorem Dk8 (W0:PW) (M:Nat→Prop) (a0_0:Sl) (a0_1:Bool) (a0_2:Sl) (Post:Value→PW→Prop) (h:Fb4 W0 M a0_0 a0_1 a0_2 Post):Aa0 Tryz.prog 92 [.agg #[a0_0.v,.bool a0_1,a0_2.v]] W0 M Post:=
 Aa3 rfl Aa9 Aa8 Tryz.func92 (cuts:=[]) rfl rfl (Nat.le_of_ble_eq_true rfl) (Eq.mpr (by kernel_rfl) h)
def Gq5 (W0:PW) (M:Nat→Prop) (a0_0:Sl) (a0_1:Bool) (a0_2:Sl) (a0_3:Sl) (a0_4:Bool) (a0_5:Sl) (Post:Value→PW→Prop):Prop:=
 Aa1 Tryz.prog W0 M 163 [.agg ⟨[a0_3.v,.bool a0_4,a0_5.v]⟩,.agg ⟨[a0_0.v,.bool a0_1,a0_2.v]⟩] W0 fun v1 W2=>
 ∃s3:Sl,∃b4:Bool,∃s5:Sl,v1 = .agg ⟨[s3.v,.bool b4,s5.v]⟩∧∀(W6:PW),Ext W2 W6→Post (.agg ⟨[s3.v,.bool b4,s5.v]⟩) W6
theorem Gk0 (W0:PW) (M:Nat→Prop) (a0_0:Sl) (a0_1:Bool) (a0_2:Sl) (a0_3:Sl) (a0_4:Bool) (a0_5:Sl) (Post:Value→PW→Prop) (h:Gq5 W0 M a0_0 a0_1 a0_2 a0_3 a0_4 a0_5 Post):Aa0 Tryz.prog 113 [.agg #[a0_0.v,.bool a0_1,a0_2.v,a0_3.v,.bool a0_4,a0_5.v]] W0 M Post:=
 Aa3 rfl Aa9 Aa8 Tryz.func113 (cuts:=[]) rfl rfl (Nat.le_of_ble_eq_true rfl) (Eq.mpr (by kernel_rfl) h)
def Eh2 (W0:PW) (M:Nat→Prop) (a0_0:Sl) (a0_1:Bool) (a0_2:Sl) (a1_0:Sl) (a1_1:Bool) (a1_2:Sl) (Post:Value→PW→Prop):Prop:=
 Aa1 Tryz.prog W0 M 20 [.agg ⟨[a0_0.v,.bool a0_1,a0_2.v]⟩,.agg ⟨[a1_0.v,.bool a1_1,a1_2.v]⟩] W0 fun v1 W2=>
 ∃i3:Int,
 v1 = .int .i64 i3∧
 (0<i3→
 ∀(W4:PW),Ext W2 W4→Post (.tuple ⟨[.agg ⟨[.slice none 0 0,.bool false,.slice none 0 0,.slice none 0 0,.bool false,.slice none 0 0]⟩,.bool false]⟩) W4)∧
 (¬0<i3→∀(W5:PW),Ext W2 W5→Post (.tuple ⟨[.agg ⟨[a0_0.v,.bool a0_1,a0_2.v,a1_0.v,.bool a1_1,a1_2.v]⟩,.bool true]⟩) W5)
theorem Ct1 (W0:PW) (M:Nat→Prop) (a0_0:Sl) (a0_1:Bool) (a0_2:Sl) (a1_0:Sl) (a1_1:Bool) (a1_2:Sl) (Post:Value→PW→Prop) (h:Eh2 W0 M a0_0 a0_1 a0_2 a1_0 a1_1 a1_2 Post):Aa0 Tryz.prog 196 [.agg #[a0_0.v,.bool a0_1,a0_2.v],.agg #[a1_0.v,.bool a1_1,a1_2.v]] W0 M Post:=
 Aa3 rfl Aa9 Aa8 Tryz.func196 (cuts:=[]) rfl rfl (Nat.le_of_ble_eq_true rfl) (Eq.mpr (by kernel_rfl) h)
def Dm6 (W0:PW) (M:Nat→Prop) (a0_0:ByteArray) (a0_1:ByteArray) (Post:Value→PW→Prop):Prop:=
 Aa1 Tryz.prog W0 M 57 [.string a0_0] W0 fun v1 W2=>
 ∃s3:Sl,
 ∃b4:Bool,
 ∃s5:Sl,
 ∃i6:Int,
 v1 = .tuple ⟨[.agg ⟨[s3.v,.bool b4,s5.v]⟩,.int .i64 i6]⟩∧
 (i6≠0→
 ∀(W7:PW),Ext W2 W7→Post (.tuple ⟨[.agg ⟨[.slice none 0 0,.bool false,.slice none 0 0,.slice none 0 0,.bool false,.slice none 0 0]⟩,.int .i64 i6]⟩) W7)∧
 (¬i6≠0→
 Aa1 Tryz.prog W0 M 57 [.string a0_1] W2 fun v8 W9=>
 ∃s10:Sl,
 ∃b11:Bool,
 ∃s12:Sl,
 ∃i13:Int,
 v8 = .tuple ⟨[.agg ⟨[s10.v,.bool b11,s12.v]⟩,.int .i64 i13]⟩∧
 (i13≠0→
 ∀(W14:PW),
 Ext W9 W14→
 Post (.tuple ⟨[.agg ⟨[.slice none 0 0,.bool false,.slice none 0 0,.slice none 0 0,.bool false,.slice none 0 0]⟩,.int .i64 i13]⟩) W14)∧
 (¬i13≠0→
 Aa1 Tryz.prog W0 M 196 [.agg ⟨[s3.v,.bool b4,s5.v]⟩,.agg ⟨[s10.v,.bool b11,s12.v]⟩] W9 fun v15 W16=>
 ∃s17:Sl,
 ∃b18:Bool,
 ∃s19:Sl,
 ∃s20:Sl,
 ∃b21:Bool,
 ∃s22:Sl,
 ∃b23:Bool,
 v15 = .tuple ⟨[.agg ⟨[s17.v,.bool b18,s19.v,s20.v,.bool b21,s22.v]⟩,.bool b23]⟩∧
 ((!b23)=true→
 ∀(W24:PW),
 Ext W16 W24→
 Post
 (.tuple
 ⟨[.agg ⟨[.slice none 0 0,.bool false,.slice none 0 0,.slice none 0 0,.bool false,.slice none 0 0]⟩,.int .i64 1]⟩)
 W24)∧
 ((!b23)=false→∀(W25:PW),Ext W16 W25→Post (.tuple ⟨[.agg ⟨[s17.v,.bool b18,s19.v,s20.v,.bool b21,s22.v]⟩,.int .i64 0]⟩) W25)))
theorem Bz8 (W0:PW) (M:Nat→Prop) (a0_0:ByteArray) (a0_1:ByteArray) (Post:Value→PW→Prop) (h:Dm6 W0 M a0_0 a0_1 Post):Aa0 Tryz.prog 148 [.agg #[.string a0_0,.string a0_1]] W0 M Post:=
 Aa3 rfl Aa9 Aa8 Tryz.func148 (cuts:=[]) rfl rfl (Nat.le_of_ble_eq_true rfl) (Eq.mpr (by kernel_rfl) h)
def Dl4 (W0:PW) (M:Nat→Prop) (a0:Sl) (Post:Value→PW→Prop):Prop:=
 inB a0 0∧
 ∃b1:Bool,
 ∃s2:Sl,
 ∃s3:Sl,
 Aa7 W0 a0 3 0 0 [.bool b1,s2.v,s3.v]∧
 inB a0 0∧
 ∃b4:Bool,
 ∃s5:Sl,
 ∃s6:Sl,
 Aa7 W0 a0 3 0 0 [.bool b4,s5.v,s6.v]∧
 ∃(F7:List PL→PW→Prop),
 ∃(F8:List PL→PW→Nat),
 F7 [.val (.int .i64 1),.cells [.bool b1,s2.v,s3.v,.bool b4,s5.v,s6.v]] W0∧
 ∀(b9:Bool) (s10 s11:Sl) (b12:Bool) (s13 s14:Sl) (i15:Int) (W16:PW),
 F7 [.val (.int .i64 i15),.cells [.bool b9,s10.v,s11.v,.bool b12,s13.v,s14.v]] W16→
 (i15<(a0.2:Int)→
 inB a0 i15∧
 ∃b17:Bool,
 ∃s18:Sl,
 ∃s19:Sl,
 Aa7 W16 a0 3 (Int.toNat i15) 0 [.bool b17,s18.v,s19.v]∧
 Aa1 Tryz.prog W0 M 94 [.agg ⟨[.bool b17,s18.v,s19.v]⟩,.agg ⟨[.bool b9,s10.v,s11.v]⟩] W16 fun v20 W21=>
 ∃i22:Int,
 v20 = .int .i64 i22∧
 (i22<0→
 inB a0 i15∧
 ∃b23:Bool,
 ∃s24:Sl,
 ∃s25:Sl,
 Aa7 W21 a0 3 (Int.toNat i15) 0 [.bool b23,s24.v,s25.v]∧
 inB a0 i15∧
 ∃b26:Bool,
 ∃s27:Sl,
 ∃s28:Sl,
 Aa7 W21 a0 3 (Int.toNat i15) 0 [.bool b26,s27.v,s28.v]∧
 Aa1 Tryz.prog W0 M 94 [.agg ⟨[.bool b26,s27.v,s28.v]⟩,.agg ⟨[.bool b12,s13.v,s14.v]⟩] W21 fun v29 W30=>
 ∃i31:Int,
 v29 = .int .i64 i31∧
 (0<i31→
 inB a0 i15∧
 ∃b32:Bool,
 ∃s33:Sl,
 ∃s34:Sl,
 Aa7 W30 a0 3 (Int.toNat i15) 0 [.bool b32,s33.v,s34.v]∧
 I64 (i15+1)∧
 stp F7 F8 [.val (.int .i64 (i15+1)),.cells [.bool b23,s24.v,s25.v,.bool b32,s33.v,s34.v]] W30
 [.val (.int .i64 i15),.cells [.bool b9,s10.v,s11.v,.bool b12,s13.v,s14.v]] W16)∧
 (¬0<i31→
 I64 (i15+1)∧
 stp F7 F8 [.val (.int .i64 (i15+1)),.cells [.bool b23,s24.v,s25.v,.bool b12,s13.v,s14.v]] W30
 [.val (.int .i64 i15),.cells [.bool b9,s10.v,s11.v,.bool b12,s13.v,s14.v]] W16))∧
 (¬i22<0→
 inB a0 i15∧
 ∃b35:Bool,
 ∃s36:Sl,
 ∃s37:Sl,
 Aa7 W21 a0 3 (Int.toNat i15) 0 [.bool b35,s36.v,s37.v]∧
 Aa1 Tryz.prog W0 M 94 [.agg ⟨[.bool b35,s36.v,s37.v]⟩,.agg ⟨[.bool b12,s13.v,s14.v]⟩] W21 fun v38 W39=>
 ∃i40:Int,
 v38 = .int .i64 i40∧
 (0<i40→
 inB a0 i15∧
 ∃b41:Bool,
 ∃s42:Sl,
 ∃s43:Sl,
 Aa7 W39 a0 3 (Int.toNat i15) 0 [.bool b41,s42.v,s43.v]∧
 I64 (i15+1)∧
 stp F7 F8 [.val (.int .i64 (i15+1)),.cells [.bool b9,s10.v,s11.v,.bool b41,s42.v,s43.v]] W39
 [.val (.int .i64 i15),.cells [.bool b9,s10.v,s11.v,.bool b12,s13.v,s14.v]] W16)∧
 (¬0<i40→
 I64 (i15+1)∧
 stp F7 F8 [.val (.int .i64 (i15+1)),.cells [.bool b9,s10.v,s11.v,.bool b12,s13.v,s14.v]] W39
 [.val (.int .i64 i15),.cells [.bool b9,s10.v,s11.v,.bool b12,s13.v,s14.v]] W16)))∧
 (¬i15<(a0.2:Int)→∀(W44:PW),Ext W16 W44→Post (.agg ⟨[.bool b9,s10.v,s11.v,.bool b12,s13.v,s14.v]⟩) W44)
theorem Cd4 (W0:PW) (M:Nat→Prop) (a0:Sl) (Post:Value→PW→Prop) (h:Dl4 W0 M a0 Post):Aa0 Tryz.prog 28 [a0.v] W0 M Post:=
 Aa3 rfl Aa9 Aa8 Tryz.func28 (cuts:=[]) rfl rfl (Nat.le_of_ble_eq_true rfl) (Eq.mpr (by kernel_rfl) h)
def Br7 (W0:PW) (M:Nat→Prop) (a0_0:ByteArray) (a0_1:ByteArray) (Post:Value→PW→Prop):Prop:=
 Aa1 Tryz.prog W0 M 56 [.string a0_0] W0 fun v1 W2=>
 ∃b3:Bool,
 ∃s4:Sl,
 ∃s5:Sl,
 ∃b6:Bool,
 v1 = .tuple ⟨[.agg ⟨[.bool b3,s4.v,s5.v]⟩,.bool b6]⟩∧
 Aa1 Tryz.prog W0 M 56 [.string a0_1] W2 fun v7 W8=>
 ∃b9:Bool,
 ∃s10:Sl,
 ∃s11:Sl,
 ∃b12:Bool,
 v7 = .tuple ⟨[.agg ⟨[.bool b9,s10.v,s11.v]⟩,.bool b12]⟩∧
 ((!b6)=true→
 ∀(W13:PW),
 Ext W8 W13→
 Post (.tuple ⟨[.agg ⟨[.bool false,.slice none 0 0,.slice none 0 0,.bool false,.slice none 0 0,.slice none 0 0]⟩,.int .i64 2]⟩) W13)∧
 ((!b6)=false→
 ((!b12)=true→
 ∀(W14:PW),
 Ext W8 W14→
 Post (.tuple ⟨[.agg ⟨[.bool false,.slice none 0 0,.slice none 0 0,.bool false,.slice none 0 0,.slice none 0 0]⟩,.int .i64 2]⟩) W14)∧
 ((!b12)=false→
 Aa1 Tryz.prog W0 M 94 [.agg ⟨[.bool b3,s4.v,s5.v]⟩,.agg ⟨[.bool b9,s10.v,s11.v]⟩] W8 fun v15 W16=>
 ∃i17:Int,
 v15 = .int .i64 i17∧
 (0<i17→
 ∀(W18:PW),
 Ext W16 W18→
 Post (.tuple ⟨[.agg ⟨[.bool false,.slice none 0 0,.slice none 0 0,.bool false,.slice none 0 0,.slice none 0 0]⟩,.int .i64 1]⟩)
 W18)∧
 (¬0<i17→∀(W19:PW),Ext W16 W19→Post (.tuple ⟨[.agg ⟨[.bool b3,s4.v,s5.v,.bool b9,s10.v,s11.v]⟩,.int .i64 0]⟩) W19)))
theorem Be5 (W0:PW) (M:Nat→Prop) (a0_0:ByteArray) (a0_1:ByteArray) (Post:Value→PW→Prop) (h:Br7 W0 M a0_0 a0_1 Post):Aa0 Tryz.prog 120 [.agg #[.string a0_0,.string a0_1]] W0 M Post:=
 Aa3 rfl Aa9 Aa8 Tryz.func120 (cuts:=[]) rfl rfl (Nat.le_of_ble_eq_true rfl) (Eq.mpr (by kernel_rfl) h)
def Ew0 (W0:PW) (M:Nat→Prop) (a0_0:Sl) (a0_1:Bool) (a0_2:Sl) (a0_3:Sl) (a0_4:Bool) (a0_5:Sl) (a1_0:Bool) (a1_1:Sl) (a1_2:Sl) (a1_3:Bool) (a1_4:Sl) (a1_5:Sl) (Post:Value→PW→Prop):Prop:=
 Aa1 Tryz.prog W0 M 37 [.agg ⟨[a0_0.v,.bool a0_1,a0_2.v]⟩,.agg ⟨[.bool a1_0,a1_1.v,a1_2.v]⟩] W0 fun v1 W2=>
 ∃b3:Bool,
 v1 = .bool b3∧
 (b3=true→Aa1 Tryz.prog W0 M 37 [.agg ⟨[a0_3.v,.bool a0_4,a0_5.v]⟩,.agg ⟨[.bool a1_3,a1_4.v,a1_5.v]⟩] W2 fun v4 W5=>∃b6:Bool,v4 = .bool b6∧∀(W7:PW),Ext W5 W7→Post (.bool b6) W7)∧
 (b3=false→∀(W8:PW),Ext W2 W8→Post (.bool false) W8)
theorem Df9 (W0:PW) (M:Nat→Prop) (a0_0:Sl) (a0_1:Bool) (a0_2:Sl) (a0_3:Sl) (a0_4:Bool) (a0_5:Sl) (a1_0:Bool) (a1_1:Sl) (a1_2:Sl) (a1_3:Bool) (a1_4:Sl) (a1_5:Sl) (Post:Value→PW→Prop) (h:Ew0 W0 M a0_0 a0_1 a0_2 a0_3 a0_4 a0_5 a1_0 a1_1 a1_2 a1_3 a1_4 a1_5 Post):Aa0 Tryz.prog 27 [.agg #[a0_0.v,.bool a0_1,a0_2.v,a0_3.v,.bool a0_4,a0_5.v],.agg #[.bool a1_0,a1_1.v,a1_2.v,.bool a1_3,a1_4.v,a1_5.v]] W0 M Post:=
 Aa3 rfl Aa9 Aa8 Tryz.func27 (cuts:=[]) rfl rfl (Nat.le_of_ble_eq_true rfl) (Eq.mpr (by kernel_rfl) h)
def Fb5 (W0:PW) (M:Nat→Prop) (a0_0:ByteArray) (a0_1:ByteArray) (Post:Value→PW→Prop):Prop:=
 Aa1 Tryz.prog W0 M 120 [.agg ⟨[.string a0_0,.string a0_1]⟩] W0 fun v1 W2=>
 ∃b3:Bool,
 ∃s4:Sl,
 ∃s5:Sl,
 ∃b6:Bool,
 ∃s7:Sl,
 ∃s8:Sl,
 ∃i9:Int,
 v1 = .tuple ⟨[.agg ⟨[.bool b3,s4.v,s5.v,.bool b6,s7.v,s8.v]⟩,.int .i64 i9]⟩∧
 (i9≠0→
 ∀(W10:PW),
 Ext W2 W10→
 Post
 (.tuple
 {
 toList:=
 [.agg ⟨[.slice none 0 0,.bool false,.slice none 0 0,.slice none 0 0,.bool false,.slice none 0 0]⟩,
 .agg ⟨[.bool false,.slice none 0 0,.slice none 0 0,.bool false,.slice none 0 0,.slice none 0 0]⟩,.bool false] })
 W10)∧
 (¬i9≠0→
 (60<(↑(ByteArray.size a0_0):Int)→
 ∀(W11:PW),
 Ext W2 W11→
 Post
 (.tuple
 {
 toList:=
 [.agg ⟨[.slice none 0 0,.bool false,.slice none 0 0,.slice none 0 0,.bool false,.slice none 0 0]⟩,
 .agg ⟨[.bool false,.slice none 0 0,.slice none 0 0,.bool false,.slice none 0 0,.slice none 0 0]⟩,.bool false] })
 W11)∧
 (¬60<(↑(ByteArray.size a0_0):Int)→
 (60<(↑(ByteArray.size a0_1):Int)→
 ∀(W12:PW),
 Ext W2 W12→
 Post
 (.tuple
 {
 toList:=
 [.agg ⟨[.slice none 0 0,.bool false,.slice none 0 0,.slice none 0 0,.bool false,.slice none 0 0]⟩,
 .agg ⟨[.bool false,.slice none 0 0,.slice none 0 0,.bool false,.slice none 0 0,.slice none 0 0]⟩,.bool false] })
 W12)∧
 (¬60<(↑(ByteArray.size a0_1):Int)→
 Aa1 Tryz.prog W0 M 148 [.agg ⟨[.string a0_0,.string a0_1]⟩] W2 fun v13 W14=>
 ∃s15:Sl,
 ∃b16:Bool,
 ∃s17:Sl,
 ∃s18:Sl,
 ∃b19:Bool,
 ∃s20:Sl,
 ∃i21:Int,
 v13 = .tuple ⟨[.agg ⟨[s15.v,.bool b16,s17.v,s18.v,.bool b19,s20.v]⟩,.int .i64 i21]⟩∧
 ∀(W22:PW),
 Ext W14 W22→Post (.tuple ⟨[.agg ⟨[s15.v,.bool b16,s17.v,s18.v,.bool b19,s20.v]⟩,.agg ⟨[.bool b3,s4.v,s5.v,.bool b6,s7.v,s8.v]⟩,.bool true]⟩) W22)))
theorem Dh3 (W0:PW) (M:Nat→Prop) (a0_0:ByteArray) (a0_1:ByteArray) (Post:Value→PW→Prop) (h:Fb5 W0 M a0_0 a0_1 Post):Aa0 Tryz.prog 79 [.agg #[.string a0_0,.string a0_1]] W0 M Post:=
 Aa3 rfl Aa9 Aa8 Tryz.func79 (cuts:=[]) rfl rfl (Nat.le_of_ble_eq_true rfl) (Eq.mpr (by kernel_rfl) h)
end Go.Proofs.YtokefihiadbkbaaGreatDoor
