/- R2 -/
import Derived.Test.YtahohahjnhfedaaGreatDoorTt
set_option linter.unusedVariables false
set_option linter.unusedSimpArgs false
set_option maxRecDepth 100000
namespace Go.Proofs.YtahohahjnhfedaaGreatDoor
open Go Go.SX
def Af5:ByteArray:=ByteArray.mk #[0,1,2,2,3,3,3,3,4,4,4,4,4,4,4,4,5,5,5,5,5,5,5,5,5,5,5,5,5,5,5,5,6,6,6,6,6,6,6,6,6,6,6,6,6,6,6,6,6,6,6,6,6,6,6,6,6,6,6,6,6,6,6,6,7,7,7,7,7,7,7,7,7,7,7,7,7,7,7,7,7,7,7,7,7,7,7,7,7,7,7,7,7,7,7,7,7,7,7,7,7,7,7,7,7,7,7,7,7,7,7,7,7,7,7,7,7,7,7,7,7,7,7,7,7,7,7,7,8,8,8,8,8,8,8,8,8,8,8,8,8,8,8,8,8,8,8,8,8,8,8,8,8,8,8,8,8,8,8,8,8,8,8,8,8,8,8,8,8,8,8,8,8,8,8,8,8,8,8,8,8,8,8,8,8,8,8,8,8,8,8,8,8,8,8,8,8,8,8,8,8,8,8,8,8,8,8,8,8,8,8,8,8,8,8,8,8,8,8,8,8,8,8,8,8,8,8,8,8,8,8,8,8,8,8,8,8,8,8,8,8,8,8,8,8,8,8,8,8,8,8,8,8,8,8,8]
def Au5 (W0:PW) (M:Nat→Prop) (a0:Int) (Post:Value→PW→Prop):Prop:=
 (65536≤a0→
 (256≤Ah0 a0 16→
 I64 ((16:Int)+8)∧
 (0≤IntKind.wrap .u8 (Ah0 (Ah0 a0 16) 8)∧
 IntKind.wrap .u8 (Ah0 (Ah0 a0 16) 8) <
 (↑(ByteArray.size
 Af5):
 Int))∧
 I64
 (Ae2
 Af5
 (Int.toNat (IntKind.wrap .u8 (Ah0 (Ah0 a0 16) 8))))∧
 I64
 ((16:Int)+8 +
 Ae2
 Af5
 (Int.toNat (IntKind.wrap .u8 (Ah0 (Ah0 a0 16) 8))))∧
 ∀(W1:PW),
 Ext W0 W1→
 Post
 (.int .i64
 ((16:Int)+8 +
 Ae2
 Af5
 (Int.toNat (IntKind.wrap .u8 (Ah0 (Ah0 a0 16) 8)))))
 W1)∧
 (¬256≤Ah0 a0 16→
 (0≤IntKind.wrap .u8 (Ah0 a0 16)∧
 IntKind.wrap .u8 (Ah0 a0 16) <
 (↑(ByteArray.size
 Af5):
 Int))∧
 I64
 (Ae2
 Af5
 (Int.toNat (IntKind.wrap .u8 (Ah0 a0 16))))∧
 I64
 (16 +
 Ae2
 Af5
 (Int.toNat (IntKind.wrap .u8 (Ah0 a0 16))))∧
 ∀(W2:PW),
 Ext W0 W2→
 Post
 (.int .i64
 (16 +
 Ae2
 Af5
 (Int.toNat (IntKind.wrap .u8 (Ah0 a0 16)))))
 W2))∧
 (¬65536≤a0→
 (256≤a0→
 I64 ((0:Int)+8)∧
 (0≤IntKind.wrap .u8 (Ah0 a0 8)∧
 IntKind.wrap .u8 (Ah0 a0 8) <
 (↑(ByteArray.size
 Af5):
 Int))∧
 I64
 (Ae2
 Af5
 (Int.toNat (IntKind.wrap .u8 (Ah0 a0 8))))∧
 I64
 ((0:Int)+8 +
 Ae2
 Af5
 (Int.toNat (IntKind.wrap .u8 (Ah0 a0 8))))∧
 ∀(W3:PW),
 Ext W0 W3→
 Post
 (.int .i64
 ((0:Int)+8 +
 Ae2
 Af5
 (Int.toNat (IntKind.wrap .u8 (Ah0 a0 8)))))
 W3)∧
 (¬256≤a0→
 (0≤IntKind.wrap .u8 a0∧
 IntKind.wrap .u8 a0 <
 (↑(ByteArray.size
 Af5):
 Int))∧
 I64
 (Ae2
 Af5
 (Int.toNat (IntKind.wrap .u8 a0)))∧
 I64
 (0 +
 Ae2
 Af5
 (Int.toNat (IntKind.wrap .u8 a0)))∧
 ∀(W4:PW),
 Ext W0 W4→
 Post
 (.int .i64
 (0 +
 Ae2
 Af5
 (Int.toNat (IntKind.wrap .u8 a0))))
 W4))
theorem Ba5 (W0:PW) (M:Nat→Prop) (a0:Int) (Post:Value→PW→Prop) (h:Au5 W0 M a0 Post):Aa0 Tryz.prog 98 [.int .u32 a0] W0 M Post:=
 Aa3 rfl Aa9 Aa8 Tryz.func98 (cuts:=[]) rfl rfl (Nat.le_of_ble_eq_true rfl) (Eq.mpr (by kernel_rfl) h)
def Eh8 (W0:PW) (M:Nat→Prop) (a0:Int) (Post:Value→PW→Prop):Prop:=
 (a0<0→
 Aa1 Tryz.prog W0 M 78 [.int .u64 (IntKind.wrap .u64 (0-IntKind.wrap .u64 a0))] W0 fun v1 W2=>
 ∃s3:Sl,
 v1 = .agg ⟨[s3.v]⟩∧
 Aa1 Tryz.prog W0 M 73 [.bool true,.agg ⟨[s3.v]⟩] W2 fun v4 W5=>∃s6:Sl,∃b7:Bool,v4 = .agg ⟨[s6.v,.bool b7]⟩∧∀(W8:PW),Ext W5 W8→Post (.agg ⟨[s6.v,.bool b7]⟩) W8)∧
 (¬a0<0→
 Aa1 Tryz.prog W0 M 78 [.int .u64 (IntKind.wrap .u64 a0)] W0 fun v9 W10=>
 ∃s11:Sl,
 v9 = .agg ⟨[s11.v]⟩∧
 Aa1 Tryz.prog W0 M 73 [.bool false,.agg ⟨[s11.v]⟩] W10 fun v12 W13=>∃s14:Sl,∃b15:Bool,v12 = .agg ⟨[s14.v,.bool b15]⟩∧∀(W16:PW),Ext W13 W16→Post (.agg ⟨[s14.v,.bool b15]⟩) W16)
theorem Cq3 (W0:PW) (M:Nat→Prop) (a0:Int) (Post:Value→PW→Prop) (h:Eh8 W0 M a0 Post):Aa0 Tryz.prog 64 [.int .i64 a0] W0 M Post:=
 Aa3 rfl Aa9 Aa8 Tryz.func64 (cuts:=[]) rfl rfl (Nat.le_of_ble_eq_true rfl) (Eq.mpr (by kernel_rfl) h)
def Dm1 (W0:PW) (M:Nat→Prop) (a0:Bool) (a1_0:Sl) (Post:Value→PW→Prop):Prop:=
 (a0=true→Aa1 Tryz.prog W0 M 59 [.agg ⟨[a1_0.v]⟩] W0 fun v1 W2=>∃i3:Int,v1 = .int .i64 i3∧∀(W4:PW),Ext W2 W4→Post (.agg ⟨[a1_0.v,.bool (decide (0<i3))]⟩) W4)∧
 (a0=false→∀(W5:PW),Ext W0 W5→Post (.agg ⟨[a1_0.v,.bool false]⟩) W5)
theorem Cc1 (W0:PW) (M:Nat→Prop) (a0:Bool) (a1_0:Sl) (Post:Value→PW→Prop) (h:Dm1 W0 M a0 a1_0 Post):Aa0 Tryz.prog 73 [.bool a0,.agg #[a1_0.v]] W0 M Post:=
 Aa3 rfl Aa9 Aa8 Tryz.func73 (cuts:=[]) rfl rfl (Nat.le_of_ble_eq_true rfl) (Eq.mpr (by kernel_rfl) h)
def Bx1 (W0:PW) (M:Nat→Prop) (a0_0:Sl) (a0_1:Bool) (Post:Value→PW→Prop):Prop:=
 (a0_1=true→∀(W1:PW),Ext W0 W1→Post (.int .i64 (-1:Int)) W1)∧
 (a0_1=false→
 Aa1 Tryz.prog W0 M 59 [.agg ⟨[a0_0.v]⟩] W0 fun v2 W3=>
 ∃i4:Int,v2 = .int .i64 i4∧(i4=0→∀(W5:PW),Ext W3 W5→Post (.int .i64 0) W5)∧(¬i4=0→∀(W6:PW),Ext W3 W6→Post (.int .i64 1) W6))
theorem Bc9 (W0:PW) (M:Nat→Prop) (a0_0:Sl) (a0_1:Bool) (Post:Value→PW→Prop) (h:Bx1 W0 M a0_0 a0_1 Post):Aa0 Tryz.prog 29 [.agg #[a0_0.v,.bool a0_1]] W0 M Post:=
 Aa3 rfl Aa9 Aa8 Tryz.func29 (cuts:=[]) rfl rfl (Nat.le_of_ble_eq_true rfl) (Eq.mpr (by kernel_rfl) h)
def Cc8 (W0:PW) (M:Nat→Prop) (a0_0:Sl) (a0_1:Bool) (Post:Value→PW→Prop):Prop:=
 ∀(W1:PW),Ext W0 W1→Post (.agg ⟨[a0_0.v]⟩) W1
theorem Bg7 (W0:PW) (M:Nat→Prop) (a0_0:Sl) (a0_1:Bool) (Post:Value→PW→Prop) (h:Cc8 W0 M a0_0 a0_1 Post):Aa0 Tryz.prog 61 [.agg #[a0_0.v,.bool a0_1]] W0 M Post:=
 Aa3 rfl Aa9 Aa8 Tryz.func61 (cuts:=[]) rfl rfl (Nat.le_of_ble_eq_true rfl) (Eq.mpr (by kernel_rfl) h)
def Dx9 (W0:PW) (M:Nat→Prop) (a0_0:Sl) (a0_1:Bool) (a1_0:Sl) (a1_1:Bool) (Post:Value→PW→Prop):Prop:=
 (a0_1=a1_1→
 Aa1 Tryz.prog W0 M 74 [.agg ⟨[a0_0.v]⟩,.agg ⟨[a1_0.v]⟩] W0 fun v1 W2=>
 ∃s3:Sl,
 v1 = .agg ⟨[s3.v]⟩∧
 Aa1 Tryz.prog W0 M 73 [.bool a0_1,.agg ⟨[s3.v]⟩] W2 fun v4 W5=>∃s6:Sl,∃b7:Bool,v4 = .agg ⟨[s6.v,.bool b7]⟩∧∀(W8:PW),Ext W5 W8→Post (.agg ⟨[s6.v,.bool b7]⟩) W8)∧
 (¬a0_1=a1_1→
 Aa1 Tryz.prog W0 M 75 [.agg ⟨[a0_0.v]⟩,.agg ⟨[a1_0.v]⟩] W0 fun v9 W10=>
 ∃s11:Sl,
 ∃b12:Bool,
 v9 = .tuple ⟨[.agg ⟨[s11.v]⟩,.bool b12]⟩∧
 (b12=true→
 Aa1 Tryz.prog W0 M 73 [.bool a0_1,.agg ⟨[s11.v]⟩] W10 fun v13 W14=>∃s15:Sl,∃b16:Bool,v13 = .agg ⟨[s15.v,.bool b16]⟩∧∀(W17:PW),Ext W14 W17→Post (.agg ⟨[s15.v,.bool b16]⟩) W17)∧
 (b12=false→
 Aa1 Tryz.prog W0 M 75 [.agg ⟨[a1_0.v]⟩,.agg ⟨[a0_0.v]⟩] W10 fun v18 W19=>
 ∃s20:Sl,
 ∃b21:Bool,
 v18 = .tuple ⟨[.agg ⟨[s20.v]⟩,.bool b21]⟩∧
 Aa1 Tryz.prog W0 M 73 [.bool a1_1,.agg ⟨[s20.v]⟩] W19 fun v22 W23=>
 ∃s24:Sl,∃b25:Bool,v22 = .agg ⟨[s24.v,.bool b25]⟩∧∀(W26:PW),Ext W23 W26→Post (.agg ⟨[s24.v,.bool b25]⟩) W26))
theorem Cn1 (W0:PW) (M:Nat→Prop) (a0_0:Sl) (a0_1:Bool) (a1_0:Sl) (a1_1:Bool) (Post:Value→PW→Prop) (h:Dx9 W0 M a0_0 a0_1 a1_0 a1_1 Post):Aa0 Tryz.prog 32 [.agg #[a0_0.v,.bool a0_1],.agg #[a1_0.v,.bool a1_1]] W0 M Post:=
 Aa3 rfl Aa9 Aa8 Tryz.func32 (cuts:=[]) rfl rfl (Nat.le_of_ble_eq_true rfl) (Eq.mpr (by kernel_rfl) h)
def Dv2 (W0:PW) (M:Nat→Prop) (a0_0:Sl) (a0_1:Bool) (a1_0:Sl) (a1_1:Bool) (Post:Value→PW→Prop):Prop:=
 Aa1 Tryz.prog W0 M 34 [.agg ⟨[a0_0.v]⟩,.agg ⟨[a1_0.v]⟩] W0 fun v1 W2=>
 ∃s3:Sl,
 v1 = .agg ⟨[s3.v]⟩∧
 Aa1 Tryz.prog W0 M 73 [.bool (decide (a0_1≠a1_1)),.agg ⟨[s3.v]⟩] W2 fun v4 W5=>∃s6:Sl,∃b7:Bool,v4 = .agg ⟨[s6.v,.bool b7]⟩∧∀(W8:PW),Ext W5 W8→Post (.agg ⟨[s6.v,.bool b7]⟩) W8
theorem Cf9 (W0:PW) (M:Nat→Prop) (a0_0:Sl) (a0_1:Bool) (a1_0:Sl) (a1_1:Bool) (Post:Value→PW→Prop) (h:Dv2 W0 M a0_0 a0_1 a1_0 a1_1 Post):Aa0 Tryz.prog 36 [.agg #[a0_0.v,.bool a0_1],.agg #[a1_0.v,.bool a1_1]] W0 M Post:=
 Aa3 rfl Aa9 Aa8 Tryz.func36 (cuts:=[]) rfl rfl (Nat.le_of_ble_eq_true rfl) (Eq.mpr (by kernel_rfl) h)
def Ea9 (W0:PW) (M:Nat→Prop) (a0_0:Sl) (a0_1:Bool) (a1_0:Sl) (a1_1:Bool) (Post:Value→PW→Prop):Prop:=
 (a0_1≠a1_1→
 (a0_1=true→∀(W1:PW),Ext W0 W1→Post (.int .i64 (-1:Int)) W1)∧
 (a0_1=false→
 (a0_1≠a1_1→∀(W2:PW),Ext W0 W2→Post (.int .i64 1) W2)∧
 (¬a0_1≠a1_1→
 (a0_1=true→Aa1 Tryz.prog W0 M 30 [.agg ⟨[a1_0.v]⟩,.agg ⟨[a0_0.v]⟩] W0 fun v3 W4=>∃i5:Int,v3 = .int .i64 i5∧∀(W6:PW),Ext W4 W6→Post (.int .i64 i5) W6)∧
 (a0_1=false→Aa1 Tryz.prog W0 M 30 [.agg ⟨[a0_0.v]⟩,.agg ⟨[a1_0.v]⟩] W0 fun v7 W8=>∃i9:Int,v7 = .int .i64 i9∧∀(W10:PW),Ext W8 W10→Post (.int .i64 i9) W10))))∧
 (¬a0_1≠a1_1→
 (a0_1≠a1_1→∀(W11:PW),Ext W0 W11→Post (.int .i64 1) W11)∧
 (¬a0_1≠a1_1→
 (a0_1=true→Aa1 Tryz.prog W0 M 30 [.agg ⟨[a1_0.v]⟩,.agg ⟨[a0_0.v]⟩] W0 fun v12 W13=>∃i14:Int,v12 = .int .i64 i14∧∀(W15:PW),Ext W13 W15→Post (.int .i64 i14) W15)∧
 (a0_1=false→Aa1 Tryz.prog W0 M 30 [.agg ⟨[a0_0.v]⟩,.agg ⟨[a1_0.v]⟩] W0 fun v16 W17=>∃i18:Int,v16 = .int .i64 i18∧∀(W19:PW),Ext W17 W19→Post (.int .i64 i18) W19)))
theorem Cj6 (W0:PW) (M:Nat→Prop) (a0_0:Sl) (a0_1:Bool) (a1_0:Sl) (a1_1:Bool) (Post:Value→PW→Prop) (h:Ea9 W0 M a0_0 a0_1 a1_0 a1_1 Post):Aa0 Tryz.prog 44 [.agg #[a0_0.v,.bool a0_1],.agg #[a1_0.v,.bool a1_1]] W0 M Post:=
 Aa3 rfl Aa9 Aa8 Tryz.func44 (cuts:=[]) rfl rfl (Nat.le_of_ble_eq_true rfl) (Eq.mpr (by kernel_rfl) h)
def Cw4 (W0:PW) (M:Nat→Prop) (a0_0:Sl) (a0_1:Bool) (a0_2:Sl) (Post:Value→PW→Prop):Prop:=
 Aa1 Tryz.prog W0 M 59 [.agg ⟨[a0_2.v]⟩] W0 fun v1 W2=>
 ∃i3:Int,
 v1 = .int .i64 i3∧
 (i3=0→Aa1 Tryz.prog W0 M 78 [.int .u64 1] W2 fun v4 W5=>∃s6:Sl,v4 = .agg ⟨[s6.v]⟩∧∀(W7:PW),Ext W5 W7→Post (.agg ⟨[s6.v]⟩) W7)∧
 (¬i3=0→∀(W8:PW),Ext W2 W8→Post (.agg ⟨[a0_2.v]⟩) W8)
theorem Bx2 (W0:PW) (M:Nat→Prop) (a0_0:Sl) (a0_1:Bool) (a0_2:Sl) (Post:Value→PW→Prop) (h:Cw4 W0 M a0_0 a0_1 a0_2 Post):Aa0 Tryz.prog 35 [.agg #[a0_0.v,.bool a0_1,a0_2.v]] W0 M Post:=
 Aa3 rfl Aa9 Aa8 Tryz.func35 (cuts:=[]) rfl rfl (Nat.le_of_ble_eq_true rfl) (Eq.mpr (by kernel_rfl) h)
def Co5 (W0:PW) (M:Nat→Prop) (a0_0:Sl) (a0_1:Bool) (a0_2:Sl) (Post:Value→PW→Prop):Prop:=
 Aa1 Tryz.prog W0 M 35 [.agg ⟨[a0_0.v,.bool a0_1,a0_2.v]⟩] W0 fun v1 W2=>
 ∃s3:Sl,
 v1 = .agg ⟨[s3.v]⟩∧
 Aa1 Tryz.prog W0 M 73 [.bool false,.agg ⟨[s3.v]⟩] W2 fun v4 W5=>∃s6:Sl,∃b7:Bool,v4 = .agg ⟨[s6.v,.bool b7]⟩∧∀(W8:PW),Ext W5 W8→Post (.agg ⟨[s6.v,.bool b7]⟩) W8
theorem Bt8 (W0:PW) (M:Nat→Prop) (a0_0:Sl) (a0_1:Bool) (a0_2:Sl) (Post:Value→PW→Prop) (h:Co5 W0 M a0_0 a0_1 a0_2 Post):Aa0 Tryz.prog 76 [.agg #[a0_0.v,.bool a0_1,a0_2.v]] W0 M Post:=
 Aa3 rfl Aa9 Aa8 Tryz.func76 (cuts:=[]) rfl rfl (Nat.le_of_ble_eq_true rfl) (Eq.mpr (by kernel_rfl) h)
def Dk6 (W0:PW) (M:Nat→Prop) (a0_0:Sl) (a0_1:Bool) (a0_2:Sl) (a1_0:Sl) (a1_1:Bool) (a1_2:Sl) (Post:Value→PW→Prop):Prop:=
 Aa1 Tryz.prog W0 M 59 [.agg ⟨[a1_2.v]⟩] W0 fun v1 W2=>
 ∃i3:Int,
 v1 = .int .i64 i3∧
 (i3=0→∀(W4:PW),Ext W2 W4→Post (.agg ⟨[a0_0.v,.bool a0_1]⟩) W4)∧
 (¬i3=0→
 Aa1 Tryz.prog W0 M 76 [.agg ⟨[a1_0.v,.bool a1_1,a1_2.v]⟩] W2 fun v5 W6=>
 ∃s7:Sl,
 ∃b8:Bool,
 v5 = .agg ⟨[s7.v,.bool b8]⟩∧
 Aa1 Tryz.prog W0 M 36 [.agg ⟨[a0_0.v,.bool a0_1]⟩,.agg ⟨[s7.v,.bool b8]⟩] W6 fun v9 W10=>
 ∃s11:Sl,∃b12:Bool,v9 = .agg ⟨[s11.v,.bool b12]⟩∧∀(W13:PW),Ext W10 W13→Post (.agg ⟨[s11.v,.bool b12]⟩) W13)
theorem Ca1 (W0:PW) (M:Nat→Prop) (a0_0:Sl) (a0_1:Bool) (a0_2:Sl) (a1_0:Sl) (a1_1:Bool) (a1_2:Sl) (Post:Value→PW→Prop) (h:Dk6 W0 M a0_0 a0_1 a0_2 a1_0 a1_1 a1_2 Post):Aa0 Tryz.prog 33 [.agg #[a0_0.v,.bool a0_1,a0_2.v],.agg #[a1_0.v,.bool a1_1,a1_2.v]] W0 M Post:=
 Aa3 rfl Aa9 Aa8 Tryz.func33 (cuts:=[]) rfl rfl (Nat.le_of_ble_eq_true rfl) (Eq.mpr (by kernel_rfl) h)
def Et0 (W0:PW) (M:Nat→Prop) (a0_0:Sl) (a0_1:Bool) (a0_2:Sl) (a1_0:Sl) (a1_1:Bool) (a1_2:Sl) (Post:Value→PW→Prop):Prop:=
 Aa1 Tryz.prog W0 M 33 [.agg ⟨[a0_0.v,.bool a0_1,a0_2.v]⟩,.agg ⟨[a1_0.v,.bool a1_1,a1_2.v]⟩] W0 fun v1 W2=>
 ∃s3:Sl,
 ∃b4:Bool,
 v1 = .agg ⟨[s3.v,.bool b4]⟩∧
 Aa1 Tryz.prog W0 M 33 [.agg ⟨[a1_0.v,.bool a1_1,a1_2.v]⟩,.agg ⟨[a0_0.v,.bool a0_1,a0_2.v]⟩] W2 fun v5 W6=>
 ∃s7:Sl,
 ∃b8:Bool,
 v5 = .agg ⟨[s7.v,.bool b8]⟩∧
 Aa1 Tryz.prog W0 M 44 [.agg ⟨[s3.v,.bool b4]⟩,.agg ⟨[s7.v,.bool b8]⟩] W6 fun v9 W10=>∃i11:Int,v9 = .int .i64 i11∧∀(W12:PW),Ext W10 W12→Post (.int .i64 i11) W12
theorem Dk3 (W0:PW) (M:Nat→Prop) (a0_0:Sl) (a0_1:Bool) (a0_2:Sl) (a1_0:Sl) (a1_1:Bool) (a1_2:Sl) (Post:Value→PW→Prop) (h:Et0 W0 M a0_0 a0_1 a0_2 a1_0 a1_1 a1_2 Post):Aa0 Tryz.prog 14 [.agg #[a0_0.v,.bool a0_1,a0_2.v],.agg #[a1_0.v,.bool a1_1,a1_2.v]] W0 M Post:=
 Aa3 rfl Aa9 Aa8 Tryz.func14 (cuts:=[]) rfl rfl (Nat.le_of_ble_eq_true rfl) (Eq.mpr (by kernel_rfl) h)
def Et4 (W0:PW) (M:Nat→Prop) (a0_0:Sl) (a0_1:Bool) (a0_2:Sl) (a1_0:Sl) (a1_1:Bool) (a1_2:Sl) (Post:Value→PW→Prop):Prop:=
 Aa1 Tryz.prog W0 M 30 [.agg ⟨[a0_2.v]⟩,.agg ⟨[a1_2.v]⟩] W0 fun v1 W2=>
 ∃i3:Int,
 v1 = .int .i64 i3∧
 (i3=0→
 Aa1 Tryz.prog W0 M 32 [.agg ⟨[a0_0.v,.bool a0_1]⟩,.agg ⟨[a1_0.v,.bool a1_1]⟩] W2 fun v4 W5=>
 ∃s6:Sl,
 ∃b7:Bool,
 v4 = .agg ⟨[s6.v,.bool b7]⟩∧
 Aa1 Tryz.prog W0 M 31 [.agg ⟨[s6.v,.bool b7]⟩,.agg ⟨[a0_2.v]⟩] W5 fun v8 W9=>
 ∃s10:Sl,∃b11:Bool,∃s12:Sl,v8 = .agg ⟨[s10.v,.bool b11,s12.v]⟩∧∀(W13:PW),Ext W9 W13→Post (.agg ⟨[s10.v,.bool b11,s12.v]⟩) W13)∧
 (¬i3=0→
 Aa1 Tryz.prog W0 M 33 [.agg ⟨[a0_0.v,.bool a0_1,a0_2.v]⟩,.agg ⟨[a1_0.v,.bool a1_1,a1_2.v]⟩] W2 fun v14 W15=>
 ∃s16:Sl,
 ∃b17:Bool,
 v14 = .agg ⟨[s16.v,.bool b17]⟩∧
 Aa1 Tryz.prog W0 M 33 [.agg ⟨[a1_0.v,.bool a1_1,a1_2.v]⟩,.agg ⟨[a0_0.v,.bool a0_1,a0_2.v]⟩] W15 fun v18 W19=>
 ∃s20:Sl,
 ∃b21:Bool,
 v18 = .agg ⟨[s20.v,.bool b21]⟩∧
 Aa1 Tryz.prog W0 M 32 [.agg ⟨[s16.v,.bool b17]⟩,.agg ⟨[s20.v,.bool b21]⟩] W19 fun v22 W23=>
 ∃s24:Sl,
 ∃b25:Bool,
 v22 = .agg ⟨[s24.v,.bool b25]⟩∧
 Aa1 Tryz.prog W0 M 35 [.agg ⟨[a0_0.v,.bool a0_1,a0_2.v]⟩] W23 fun v26 W27=>
 ∃s28:Sl,
 v26 = .agg ⟨[s28.v]⟩∧
 Aa1 Tryz.prog W0 M 35 [.agg ⟨[a1_0.v,.bool a1_1,a1_2.v]⟩] W27 fun v29 W30=>
 ∃s31:Sl,
 v29 = .agg ⟨[s31.v]⟩∧
 Aa1 Tryz.prog W0 M 34 [.agg ⟨[s28.v]⟩,.agg ⟨[s31.v]⟩] W30 fun v32 W33=>
 ∃s34:Sl,
 v32 = .agg ⟨[s34.v]⟩∧
 Aa1 Tryz.prog W0 M 31 [.agg ⟨[s24.v,.bool b25]⟩,.agg ⟨[s34.v]⟩] W33 fun v35 W36=>
 ∃s37:Sl,∃b38:Bool,∃s39:Sl,v35 = .agg ⟨[s37.v,.bool b38,s39.v]⟩∧∀(W40:PW),Ext W36 W40→Post (.agg ⟨[s37.v,.bool b38,s39.v]⟩) W40)
theorem Di2 (W0:PW) (M:Nat→Prop) (a0_0:Sl) (a0_1:Bool) (a0_2:Sl) (a1_0:Sl) (a1_1:Bool) (a1_2:Sl) (Post:Value→PW→Prop) (h:Et4 W0 M a0_0 a0_1 a0_2 a1_0 a1_1 a1_2 Post):Aa0 Tryz.prog 10 [.agg #[a0_0.v,.bool a0_1,a0_2.v],.agg #[a1_0.v,.bool a1_1,a1_2.v]] W0 M Post:=
 Aa3 rfl Aa9 Aa8 Tryz.func10 (cuts:=[]) rfl rfl (Nat.le_of_ble_eq_true rfl) (Eq.mpr (by kernel_rfl) h)
def Fc0 (W0:PW) (M:Nat→Prop) (a0_0:Sl) (a0_1:Bool) (a0_2:Sl) (a1_0:Sl) (a1_1:Bool) (a1_2:Sl) (Post:Value→PW→Prop):Prop:=
 Aa1 Tryz.prog W0 M 36 [.agg ⟨[a0_0.v,.bool a0_1]⟩,.agg ⟨[a1_0.v,.bool a1_1]⟩] W0 fun v1 W2=>
 ∃s3:Sl,
 ∃b4:Bool,
 v1 = .agg ⟨[s3.v,.bool b4]⟩∧
 Aa1 Tryz.prog W0 M 35 [.agg ⟨[a0_0.v,.bool a0_1,a0_2.v]⟩] W2 fun v5 W6=>
 ∃s7:Sl,
 v5 = .agg ⟨[s7.v]⟩∧
 Aa1 Tryz.prog W0 M 35 [.agg ⟨[a1_0.v,.bool a1_1,a1_2.v]⟩] W6 fun v8 W9=>
 ∃s10:Sl,
 v8 = .agg ⟨[s10.v]⟩∧
 Aa1 Tryz.prog W0 M 34 [.agg ⟨[s7.v]⟩,.agg ⟨[s10.v]⟩] W9 fun v11 W12=>
 ∃s13:Sl,
 v11 = .agg ⟨[s13.v]⟩∧
 Aa1 Tryz.prog W0 M 31 [.agg ⟨[s3.v,.bool b4]⟩,.agg ⟨[s13.v]⟩] W12 fun v14 W15=>
 ∃s16:Sl,∃b17:Bool,∃s18:Sl,v14 = .agg ⟨[s16.v,.bool b17,s18.v]⟩∧∀(W19:PW),Ext W15 W19→Post (.agg ⟨[s16.v,.bool b17,s18.v]⟩) W19
theorem Df4 (W0:PW) (M:Nat→Prop) (a0_0:Sl) (a0_1:Bool) (a0_2:Sl) (a1_0:Sl) (a1_1:Bool) (a1_2:Sl) (Post:Value→PW→Prop) (h:Fc0 W0 M a0_0 a0_1 a0_2 a1_0 a1_1 a1_2 Post):Aa0 Tryz.prog 11 [.agg #[a0_0.v,.bool a0_1,a0_2.v],.agg #[a1_0.v,.bool a1_1,a1_2.v]] W0 M Post:=
 Aa3 rfl Aa9 Aa8 Tryz.func11 (cuts:=[]) rfl rfl (Nat.le_of_ble_eq_true rfl) (Eq.mpr (by kernel_rfl) h)
def Gd8 (W0:PW) (M:Nat→Prop) (a0_0:Sl) (a0_1:Bool) (a0_2:Sl) (a1_0:Sl) (a1_1:Bool) (a1_2:Sl) (Post:Value→PW→Prop):Prop:=
 Aa1 Tryz.prog W0 M 7 [.agg ⟨[a1_0.v,.bool a1_1,a1_2.v]⟩] W0 fun v1 W2=>
 ∃i3:Int,
 v1 = .int .i64 i3∧
 (i3=0→∀(W4:PW),Ext W2 W4→Post (.tuple ⟨[.agg ⟨[.slice none 0 0,.bool false,.slice none 0 0]⟩,.bool false]⟩) W4)∧
 (¬i3=0→
 Aa1 Tryz.prog W0 M 7 [.agg ⟨[a1_0.v,.bool a1_1,a1_2.v]⟩] W2 fun v5 W6=>
 ∃i7:Int,
 v5 = .int .i64 i7∧
 Aa1 Tryz.prog W0 M 35 [.agg ⟨[a1_0.v,.bool a1_1,a1_2.v]⟩] W6 fun v8 W9=>
 ∃s10:Sl,
 v8 = .agg ⟨[s10.v]⟩∧
 Aa1 Tryz.prog W0 M 73 [.bool (decide (i7<0)),.agg ⟨[s10.v]⟩] W9 fun v11 W12=>
 ∃s13:Sl,
 ∃b14:Bool,
 v11 = .agg ⟨[s13.v,.bool b14]⟩∧
 Aa1 Tryz.prog W0 M 61 [.agg ⟨[a1_0.v,.bool a1_1]⟩] W12 fun v15 W16=>
 ∃s17:Sl,
 v15 = .agg ⟨[s17.v]⟩∧
 Aa1 Tryz.prog W0 M 31 [.agg ⟨[s13.v,.bool b14]⟩,.agg ⟨[s17.v]⟩] W16 fun v18 W19=>
 ∃s20:Sl,
 ∃b21:Bool,
 ∃s22:Sl,
 v18 = .agg ⟨[s20.v,.bool b21,s22.v]⟩∧
 Aa1 Tryz.prog W0 M 11 [.agg ⟨[a0_0.v,.bool a0_1,a0_2.v]⟩,.agg ⟨[s20.v,.bool b21,s22.v]⟩] W19 fun v23 W24=>
 ∃s25:Sl,∃b26:Bool,∃s27:Sl,v23 = .agg ⟨[s25.v,.bool b26,s27.v]⟩∧∀(W28:PW),Ext W24 W28→Post (.tuple ⟨[.agg ⟨[s25.v,.bool b26,s27.v]⟩,.bool true]⟩) W28)
theorem Gb6 (W0:PW) (M:Nat→Prop) (a0_0:Sl) (a0_1:Bool) (a0_2:Sl) (a1_0:Sl) (a1_1:Bool) (a1_2:Sl) (Post:Value→PW→Prop) (h:Gd8 W0 M a0_0 a0_1 a0_2 a1_0 a1_1 a1_2 Post):Aa0 Tryz.prog 40 [.agg #[a0_0.v,.bool a0_1,a0_2.v],.agg #[a1_0.v,.bool a1_1,a1_2.v]] W0 M Post:=
 Aa3 rfl Aa9 Aa8 Tryz.func40 (cuts:=[]) rfl rfl (Nat.le_of_ble_eq_true rfl) (Eq.mpr (by kernel_rfl) h)
def Cg3 (W0:PW) (M:Nat→Prop) (a0_0:Sl) (a0_1:Bool) (a0_2:Sl) (Post:Value→PW→Prop):Prop:=
 Aa1 Tryz.prog W0 M 29 [.agg ⟨[a0_0.v,.bool a0_1]⟩] W0 fun v1 W2=>∃i3:Int,v1 = .int .i64 i3∧∀(W4:PW),Ext W2 W4→Post (.int .i64 i3) W4
theorem Bm8 (W0:PW) (M:Nat→Prop) (a0_0:Sl) (a0_1:Bool) (a0_2:Sl) (Post:Value→PW→Prop) (h:Cg3 W0 M a0_0 a0_1 a0_2 Post):Aa0 Tryz.prog 7 [.agg #[a0_0.v,.bool a0_1,a0_2.v]] W0 M Post:=
 Aa3 rfl Aa9 Aa8 Tryz.func7 (cuts:=[]) rfl rfl (Nat.le_of_ble_eq_true rfl) (Eq.mpr (by kernel_rfl) h)
def Fe4 (W0:PW) (M:Nat→Prop) (a0:Int) (Post:Value→PW→Prop):Prop:=
 Aa1 Tryz.prog W0 M 64 [.int .i64 a0] W0 fun v1 W2=>∃s3:Sl,∃b4:Bool,v1 = .agg ⟨[s3.v,.bool b4]⟩∧∀(W5:PW),Ext W2 W5→Post (.agg ⟨[s3.v,.bool b4,.slice none 0 0]⟩) W5
theorem Dz9 (W0:PW) (M:Nat→Prop) (a0:Int) (Post:Value→PW→Prop) (h:Fe4 W0 M a0 Post):Aa0 Tryz.prog 23 [.int .i64 a0] W0 M Post:=
 Aa3 rfl Aa9 Aa8 Tryz.func23 (cuts:=[]) rfl rfl (Nat.le_of_ble_eq_true rfl) (Eq.mpr (by kernel_rfl) h)
def Du3 (W0:PW) (M:Nat→Prop) (a0_0:Sl) (a0_1:Bool) (a1_0:Sl) (Post:Value→PW→Prop):Prop:=
 Aa1 Tryz.prog W0 M 59 [.agg ⟨[a1_0.v]⟩] W0 fun v1 W2=>
 ∃i3:Int,
 v1 = .int .i64 i3∧
 (i3<2→∀(W4:PW),Ext W2 W4→Post (.agg ⟨[a0_0.v,.bool a0_1,.slice none 0 0]⟩) W4)∧
 (¬i3<2→
 Aa1 Tryz.prog W0 M 29 [.agg ⟨[a0_0.v,.bool a0_1]⟩] W2 fun v5 W6=>
 ∃i7:Int,
 v5 = .int .i64 i7∧
 (i7=0→∀(W8:PW),Ext W6 W8→Post (.agg ⟨[a0_0.v,.bool a0_1,.slice none 0 0]⟩) W8)∧
 (¬i7=0→
 Aa1 Tryz.prog W0 M 61 [.agg ⟨[a0_0.v,.bool a0_1]⟩] W6 fun v9 W10=>
 ∃s11:Sl,
 v9 = .agg ⟨[s11.v]⟩∧
 Aa1 Tryz.prog W0 M 60 [.agg ⟨[a1_0.v]⟩,.agg ⟨[s11.v]⟩] W10 fun v12 W13=>
 ∃s14:Sl,
 v12 = .agg ⟨[s14.v]⟩∧
 Aa1 Tryz.prog W0 M 59 [.agg ⟨[s14.v]⟩] W13 fun v15 W16=>
 ∃i17:Int,
 v15 = .int .i64 i17∧
 (1<i17→
 Aa1 Tryz.prog W0 M 61 [.agg ⟨[a0_0.v,.bool a0_1]⟩] W16 fun v18 W19=>
 ∃s20:Sl,
 v18 = .agg ⟨[s20.v]⟩∧
 Aa1 Tryz.prog W0 M 72 [.agg ⟨[s20.v]⟩,.agg ⟨[s14.v]⟩] W19 fun v21 W22=>
 ∃s23:Sl,
 ∃s24:Sl,
 ∃b25:Bool,
 v21 = .tuple ⟨[.agg ⟨[s23.v]⟩,.agg ⟨[s24.v]⟩,.bool b25]⟩∧
 Aa1 Tryz.prog W0 M 72 [.agg ⟨[a1_0.v]⟩,.agg ⟨[s14.v]⟩] W22 fun v26 W27=>
 ∃s28:Sl,
 ∃s29:Sl,
 ∃b30:Bool,
 v26 = .tuple ⟨[.agg ⟨[s28.v]⟩,.agg ⟨[s29.v]⟩,.bool b30]⟩∧
 Aa1 Tryz.prog W0 M 29 [.agg ⟨[a0_0.v,.bool a0_1]⟩] W27 fun v31 W32=>
 ∃i33:Int,
 v31 = .int .i64 i33∧
 Aa1 Tryz.prog W0 M 73 [.bool (decide (i33<0)),.agg ⟨[s23.v]⟩] W32 fun v34 W35=>
 ∃s36:Sl,
 ∃b37:Bool,
 v34 = .agg ⟨[s36.v,.bool b37]⟩∧
 Aa1 Tryz.prog W0 M 59 [.agg ⟨[s28.v]⟩] W35 fun v38 W39=>
 ∃i40:Int,
 v38 = .int .i64 i40∧
 (i40<2→∀(W41:PW),Ext W39 W41→Post (.agg ⟨[s36.v,.bool b37,.slice none 0 0]⟩) W41)∧
 (¬i40<2→∀(W42:PW),Ext W39 W42→Post (.agg ⟨[s36.v,.bool b37,s28.v]⟩) W42))∧
 (¬1<i17→
 Aa1 Tryz.prog W0 M 59 [.agg ⟨[a1_0.v]⟩] W16 fun v43 W44=>
 ∃i45:Int,
 v43 = .int .i64 i45∧
 (i45<2→∀(W46:PW),Ext W44 W46→Post (.agg ⟨[a0_0.v,.bool a0_1,.slice none 0 0]⟩) W46)∧(¬i45<2→∀(W47:PW),Ext W44 W47→Post (.agg ⟨[a0_0.v,.bool a0_1,a1_0.v]⟩) W47))))
theorem Cn8 (W0:PW) (M:Nat→Prop) (a0_0:Sl) (a0_1:Bool) (a1_0:Sl) (Post:Value→PW→Prop) (h:Du3 W0 M a0_0 a0_1 a1_0 Post):Aa0 Tryz.prog 31 [.agg #[a0_0.v,.bool a0_1],.agg #[a1_0.v]] W0 M Post:=
 Aa3 rfl Aa9 Aa8 Tryz.func31 (cuts:=[]) rfl rfl (Nat.le_of_ble_eq_true rfl) (Eq.mpr (by kernel_rfl) h)
end Go.Proofs.YtahohahjnhfedaaGreatDoor
