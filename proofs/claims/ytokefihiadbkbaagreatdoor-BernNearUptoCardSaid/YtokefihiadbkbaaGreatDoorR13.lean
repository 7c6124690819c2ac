/- R13 -/
import Derived.Test.YtokefihiadbkbaaGreatDoorTt
set_option linter.unusedVariables false
set_option linter.unusedSimpArgs false
set_option maxRecDepth 100000
namespace Go.Proofs.YtokefihiadbkbaaGreatDoor
open Go Go.SX
def Dv4 (W0:PW) (M:Nat→Prop) (a0_0:Sl) (a0_1:Bool) (a0_2:Sl) (a1_0:Sl) (a1_1:Bool) (a1_2:Sl) (Post:Value→PW→Prop):Prop:=
 Aa1 Tryz.prog W0 M 20 [.agg ⟨[a1_0.v,.bool a1_1,a1_2.v]⟩,.agg ⟨[a0_0.v,.bool a0_1,a0_2.v]⟩] W0 fun v1 W2=>
 ∃i3:Int,v1 = .int .i64 i3∧(i3<0→∀(W4:PW),Ext W2 W4→Post (.agg ⟨[a1_0.v,.bool a1_1,a1_2.v]⟩) W4)∧(¬i3<0→∀(W5:PW),Ext W2 W5→Post (.agg ⟨[a0_0.v,.bool a0_1,a0_2.v]⟩) W5)
theorem Cg1 (W0:PW) (M:Nat→Prop) (a0_0:Sl) (a0_1:Bool) (a0_2:Sl) (a1_0:Sl) (a1_1:Bool) (a1_2:Sl) (Post:Value→PW→Prop) (h:Dv4 W0 M a0_0 a0_1 a0_2 a1_0 a1_1 a1_2 Post):Aa0 Tryz.prog 159 [.agg #[a0_0.v,.bool a0_1,a0_2.v],.agg #[a1_0.v,.bool a1_1,a1_2.v]] W0 M Post:=
 Aa3 rfl Aa9 Aa8 Tryz.func159 (cuts:=[]) rfl rfl (Nat.le_of_ble_eq_true rfl) (Eq.mpr (by kernel_rfl) h)
def Ec5 (W0:PW) (M:Nat→Prop) (a0_0:Sl) (a0_1:Bool) (a0_2:Sl) (a1_0:Sl) (a1_1:Bool) (a1_2:Sl) (Post:Value→PW→Prop):Prop:=
 Aa1 Tryz.prog W0 M 20 [.agg ⟨[a1_0.v,.bool a1_1,a1_2.v]⟩,.agg ⟨[a0_0.v,.bool a0_1,a0_2.v]⟩] W0 fun v1 W2=>
 ∃i3:Int,v1 = .int .i64 i3∧(0<i3→∀(W4:PW),Ext W2 W4→Post (.agg ⟨[a1_0.v,.bool a1_1,a1_2.v]⟩) W4)∧(¬0<i3→∀(W5:PW),Ext W2 W5→Post (.agg ⟨[a0_0.v,.bool a0_1,a0_2.v]⟩) W5)
theorem Ck9 (W0:PW) (M:Nat→Prop) (a0_0:Sl) (a0_1:Bool) (a0_2:Sl) (a1_0:Sl) (a1_1:Bool) (a1_2:Sl) (Post:Value→PW→Prop) (h:Ec5 W0 M a0_0 a0_1 a0_2 a1_0 a1_1 a1_2 Post):Aa0 Tryz.prog 160 [.agg #[a0_0.v,.bool a0_1,a0_2.v],.agg #[a1_0.v,.bool a1_1,a1_2.v]] W0 M Post:=
 Aa3 rfl Aa9 Aa8 Tryz.func160 (cuts:=[]) rfl rfl (Nat.le_of_ble_eq_true rfl) (Eq.mpr (by kernel_rfl) h)
def Cw2 (W0:PW) (M:Nat→Prop) (a0_0:Sl) (a0_1:Bool) (a0_2:Sl) (a1_0:Sl) (a1_1:Bool) (a1_2:Sl) (Post:Value→PW→Prop):Prop:=
 Aa1 Tryz.prog W0 M 159 [.agg ⟨[a0_0.v,.bool a0_1,a0_2.v]⟩,.agg ⟨[a1_0.v,.bool a1_1,a1_2.v]⟩] W0 fun v1 W2=>
 ∃s3:Sl,
 ∃b4:Bool,
 ∃s5:Sl,
 v1 = .agg ⟨[s3.v,.bool b4,s5.v]⟩∧
 Aa1 Tryz.prog W0 M 160 [.agg ⟨[a0_0.v,.bool a0_1,a0_2.v]⟩,.agg ⟨[a1_0.v,.bool a1_1,a1_2.v]⟩] W2 fun v6 W7=>
 ∃s8:Sl,∃b9:Bool,∃s10:Sl,v6 = .agg ⟨[s8.v,.bool b9,s10.v]⟩∧∀(W11:PW),Ext W7 W11→Post (.agg ⟨[s3.v,.bool b4,s5.v,s8.v,.bool b9,s10.v]⟩) W11
theorem Bv4 (W0:PW) (M:Nat→Prop) (a0_0:Sl) (a0_1:Bool) (a0_2:Sl) (a1_0:Sl) (a1_1:Bool) (a1_2:Sl) (Post:Value→PW→Prop) (h:Cw2 W0 M a0_0 a0_1 a0_2 a1_0 a1_1 a1_2 Post):Aa0 Tryz.prog 205 [.agg #[a0_0.v,.bool a0_1,a0_2.v],.agg #[a1_0.v,.bool a1_1,a1_2.v]] W0 M Post:=
 Aa3 rfl Aa9 Aa8 Tryz.func205 (cuts:=[]) rfl rfl (Nat.le_of_ble_eq_true rfl) (Eq.mpr (by kernel_rfl) h)
def Ec6 (W0:PW) (M:Nat→Prop) (a0_0:Sl) (a0_1:Bool) (a0_2:Sl) (a0_3:Sl) (a0_4:Bool) (a0_5:Sl) (a1_0:Sl) (a1_1:Bool) (a1_2:Sl) (a1_3:Sl) (a1_4:Bool) (a1_5:Sl) (Post:Value→PW→Prop):Prop:=
 Aa1 Tryz.prog W0 M 159 [.agg ⟨[a0_0.v,.bool a0_1,a0_2.v]⟩,.agg ⟨[a1_0.v,.bool a1_1,a1_2.v]⟩] W0 fun v1 W2=>
 ∃s3:Sl,
 ∃b4:Bool,
 ∃s5:Sl,
 v1 = .agg ⟨[s3.v,.bool b4,s5.v]⟩∧
 Aa1 Tryz.prog W0 M 160 [.agg ⟨[a0_3.v,.bool a0_4,a0_5.v]⟩,.agg ⟨[a1_3.v,.bool a1_4,a1_5.v]⟩] W2 fun v6 W7=>
 ∃s8:Sl,∃b9:Bool,∃s10:Sl,v6 = .agg ⟨[s8.v,.bool b9,s10.v]⟩∧∀(W11:PW),Ext W7 W11→Post (.agg ⟨[s3.v,.bool b4,s5.v,s8.v,.bool b9,s10.v]⟩) W11
theorem Ck6 (W0:PW) (M:Nat→Prop) (a0_0:Sl) (a0_1:Bool) (a0_2:Sl) (a0_3:Sl) (a0_4:Bool) (a0_5:Sl) (a1_0:Sl) (a1_1:Bool) (a1_2:Sl) (a1_3:Sl) (a1_4:Bool) (a1_5:Sl) (Post:Value→PW→Prop) (h:Ec6 W0 M a0_0 a0_1 a0_2 a0_3 a0_4 a0_5 a1_0 a1_1 a1_2 a1_3 a1_4 a1_5 Post):Aa0 Tryz.prog 93 [.agg #[a0_0.v,.bool a0_1,a0_2.v,a0_3.v,.bool a0_4,a0_5.v],.agg #[a1_0.v,.bool a1_1,a1_2.v,a1_3.v,.bool a1_4,a1_5.v]] W0 M Post:=
 Aa3 rfl Aa9 Aa8 Tryz.func93 (cuts:=[]) rfl rfl (Nat.le_of_ble_eq_true rfl) (Eq.mpr (by kernel_rfl) h)
def En0 (W0:PW) (M:Nat→Prop) (a0_0:Sl) (a0_1:Bool) (a0_2:Sl) (a0_3:Sl) (a0_4:Bool) (a0_5:Sl) (a1_0:Sl) (a1_1:Bool) (a1_2:Sl) (a1_3:Sl) (a1_4:Bool) (a1_5:Sl) (Post:Value→PW→Prop):Prop:=
 Aa1 Tryz.prog W0 M 21 [.agg ⟨[a0_0.v,.bool a0_1,a0_2.v]⟩,.agg ⟨[a1_0.v,.bool a1_1,a1_2.v]⟩] W0 fun v1 W2=>
 ∃s3:Sl,
 ∃b4:Bool,
 ∃s5:Sl,
 v1 = .agg ⟨[s3.v,.bool b4,s5.v]⟩∧
 Aa1 Tryz.prog W0 M 21 [.agg ⟨[a0_3.v,.bool a0_4,a0_5.v]⟩,.agg ⟨[a1_3.v,.bool a1_4,a1_5.v]⟩] W2 fun v6 W7=>
 ∃s8:Sl,∃b9:Bool,∃s10:Sl,v6 = .agg ⟨[s8.v,.bool b9,s10.v]⟩∧∀(W11:PW),Ext W7 W11→Post (.agg ⟨[s3.v,.bool b4,s5.v,s8.v,.bool b9,s10.v]⟩) W11
theorem Cs4 (W0:PW) (M:Nat→Prop) (a0_0:Sl) (a0_1:Bool) (a0_2:Sl) (a0_3:Sl) (a0_4:Bool) (a0_5:Sl) (a1_0:Sl) (a1_1:Bool) (a1_2:Sl) (a1_3:Sl) (a1_4:Bool) (a1_5:Sl) (Post:Value→PW→Prop) (h:En0 W0 M a0_0 a0_1 a0_2 a0_3 a0_4 a0_5 a1_0 a1_1 a1_2 a1_3 a1_4 a1_5 Post):Aa0 Tryz.prog 174 [.agg #[a0_0.v,.bool a0_1,a0_2.v,a0_3.v,.bool a0_4,a0_5.v],.agg #[a1_0.v,.bool a1_1,a1_2.v,a1_3.v,.bool a1_4,a1_5.v]] W0 M Post:=
 Aa3 rfl Aa9 Aa8 Tryz.func174 (cuts:=[]) rfl rfl (Nat.le_of_ble_eq_true rfl) (Eq.mpr (by kernel_rfl) h)
def Er3 (W0:PW) (M:Nat→Prop) (a0_0:Sl) (a0_1:Bool) (a0_2:Sl) (a0_3:Sl) (a0_4:Bool) (a0_5:Sl) (a1_0:Sl) (a1_1:Bool) (a1_2:Sl) (a1_3:Sl) (a1_4:Bool) (a1_5:Sl) (Post:Value→PW→Prop):Prop:=
 Aa1 Tryz.prog W0 M 95 [.agg ⟨[a0_0.v,.bool a0_1,a0_2.v]⟩,.agg ⟨[a1_0.v,.bool a1_1,a1_2.v]⟩] W0 fun v1 W2=>
 ∃s3:Sl,
 ∃b4:Bool,
 ∃s5:Sl,
 v1 = .agg ⟨[s3.v,.bool b4,s5.v]⟩∧
 Aa1 Tryz.prog W0 M 95 [.agg ⟨[a0_3.v,.bool a0_4,a0_5.v]⟩,.agg ⟨[a1_3.v,.bool a1_4,a1_5.v]⟩] W2 fun v6 W7=>
 ∃s8:Sl,
 ∃b9:Bool,
 ∃s10:Sl,
 v6 = .agg ⟨[s8.v,.bool b9,s10.v]⟩∧
 Aa1 Tryz.prog W0 M 205 [.agg ⟨[s3.v,.bool b4,s5.v]⟩,.agg ⟨[s8.v,.bool b9,s10.v]⟩] W7 fun v11 W12=>
 ∃s13:Sl,
 ∃b14:Bool,
 ∃s15:Sl,
 ∃s16:Sl,
 ∃b17:Bool,
 ∃s18:Sl,
 v11 = .agg ⟨[s13.v,.bool b14,s15.v,s16.v,.bool b17,s18.v]⟩∧
 Aa1 Tryz.prog W0 M 95 [.agg ⟨[a0_0.v,.bool a0_1,a0_2.v]⟩,.agg ⟨[a1_3.v,.bool a1_4,a1_5.v]⟩] W12 fun v19 W20=>
 ∃s21:Sl,
 ∃b22:Bool,
 ∃s23:Sl,
 v19 = .agg ⟨[s21.v,.bool b22,s23.v]⟩∧
 Aa1 Tryz.prog W0 M 95 [.agg ⟨[a0_3.v,.bool a0_4,a0_5.v]⟩,.agg ⟨[a1_0.v,.bool a1_1,a1_2.v]⟩] W20 fun v24 W25=>
 ∃s26:Sl,
 ∃b27:Bool,
 ∃s28:Sl,
 v24 = .agg ⟨[s26.v,.bool b27,s28.v]⟩∧
 Aa1 Tryz.prog W0 M 205 [.agg ⟨[s21.v,.bool b22,s23.v]⟩,.agg ⟨[s26.v,.bool b27,s28.v]⟩] W25 fun v29 W30=>
 ∃s31:Sl,
 ∃b32:Bool,
 ∃s33:Sl,
 ∃s34:Sl,
 ∃b35:Bool,
 ∃s36:Sl,
 v29 = .agg ⟨[s31.v,.bool b32,s33.v,s34.v,.bool b35,s36.v]⟩∧
 Aa1 Tryz.prog W0 M 93 [.agg ⟨[s13.v,.bool b14,s15.v,s16.v,.bool b17,s18.v]⟩,.agg ⟨[s31.v,.bool b32,s33.v,s34.v,.bool b35,s36.v]⟩] W30
 fun v37 W38=>
 ∃s39:Sl,
 ∃b40:Bool,
 ∃s41:Sl,
 ∃s42:Sl,
 ∃b43:Bool,
 ∃s44:Sl,
 v37 = .agg ⟨[s39.v,.bool b40,s41.v,s42.v,.bool b43,s44.v]⟩∧
 ∀(W45:PW),Ext W38 W45→Post (.agg ⟨[s39.v,.bool b40,s41.v,s42.v,.bool b43,s44.v]⟩) W45
theorem Cy7 (W0:PW) (M:Nat→Prop) (a0_0:Sl) (a0_1:Bool) (a0_2:Sl) (a0_3:Sl) (a0_4:Bool) (a0_5:Sl) (a1_0:Sl) (a1_1:Bool) (a1_2:Sl) (a1_3:Sl) (a1_4:Bool) (a1_5:Sl) (Post:Value→PW→Prop) (h:Er3 W0 M a0_0 a0_1 a0_2 a0_3 a0_4 a0_5 a1_0 a1_1 a1_2 a1_3 a1_4 a1_5 Post):Aa0 Tryz.prog 172 [.agg #[a0_0.v,.bool a0_1,a0_2.v,a0_3.v,.bool a0_4,a0_5.v],.agg #[a1_0.v,.bool a1_1,a1_2.v,a1_3.v,.bool a1_4,a1_5.v]] W0 M Post:=
 Aa3 rfl Aa9 Aa8 Tryz.func172 (cuts:=[]) rfl rfl (Nat.le_of_ble_eq_true rfl) (Eq.mpr (by kernel_rfl) h)
def Fb4 (W0:PW) (M:Nat→Prop) (a0_0:Sl) (a0_1:Bool) (a0_2:Sl) (Post:Value→PW→Prop):Prop:=
 ∀(W1:PW),Ext W0 W1→Post (.agg ⟨[a0_0.v,.bool a0_1,a0_2.v,a0_0.v,.bool a0_1,a0_2.v]⟩) W1
theorem Dk8 (W0:PW) (M:Nat→Prop) (a0_0:Sl) (a0_1:Bool) (a0_2:Sl) (Post:Value→PW→Prop) (h:Fb4 W0 M a0_0 a0_1 a0_2 Post):Aa0 Tryz.prog 92 [.agg #[a0_0.v,.bool a0_1,a0_2.v]] W0 M Post:=
 Aa3 rfl Aa9 Aa8 Tryz.func92 (cuts:=[]) rfl rfl (Nat.le_of_ble_eq_true rfl) (Eq.mpr (by kernel_rfl) h)
def Da1 (W0:PW) (M:Nat→Prop) (a0_0:Sl) (a0_1:Bool) (a0_2:Sl) (a0_3:Sl) (a0_4:Bool) (a0_5:Sl) (a1:Int) (Post:Value→PW→Prop):Prop:=
 Aa1 Tryz.prog W0 M (96:Nat) [Value.agg ⟨[a0_0.v,Value.bool a0_1,a0_2.v]⟩,Value.int IntKind.i64 a1] W0 fun v1 W2=>
 ∃s3:Sl,
 ∃b4:Bool,
 ∃s5:Sl,
 v1=Value.agg ⟨[s3.v,Value.bool b4,s5.v]⟩∧
 Aa1 Tryz.prog W0 M (96:Nat) [Value.agg ⟨[a0_3.v,Value.bool a0_4,a0_5.v]⟩,Value.int IntKind.i64 a1] W2 fun v6 W7=>
 ∃s8:Sl,
 ∃b9:Bool,
 ∃s10:Sl,
 v6=Value.agg ⟨[s8.v,Value.bool b9,s10.v]⟩∧
 Aa1 Tryz.prog W0 M (205:Nat) [Value.agg ⟨[s3.v,Value.bool b4,s5.v]⟩,Value.agg ⟨[s8.v,Value.bool b9,s10.v]⟩] W7 fun v11 W12=>
 ∃s13:Sl,
 ∃b14:Bool,
 ∃s15:Sl,
 ∃s16:Sl,
 ∃b17:Bool,
 ∃s18:Sl,
 v11=Value.agg ⟨[s13.v,Value.bool b14,s15.v,s16.v,Value.bool b17,s18.v]⟩∧
 ((0:Int)<mn (mx a1 (0:Int)) (255:Int)→
 (2:Int)≠(0:Int)∧
 (Int.tmod (mn (mx a1 (0:Int)) (255:Int)) (2:Int)=(0:Int)→
 Aa1 Tryz.prog W0 M (50:Nat) [Value.agg ⟨[a0_0.v,Value.bool a0_1,a0_2.v,a0_3.v,Value.bool a0_4,a0_5.v]⟩,Value.agg ⟨[Value.slice none (0:Nat) (0:Nat),Value.bool false,Value.slice none (0:Nat) (0:Nat)]⟩] W12
 fun v19 W20=>
 ∃b21:Bool,
 v19=Value.bool b21∧
 (b21=true→∀(W22:PW),Ext W20 W22→Post (Value.agg ⟨[Value.slice none (0:Nat) (0:Nat),Value.bool false,Value.slice none (0:Nat) (0:Nat),s16.v,Value.bool b17,s18.v]⟩) W22)∧
 (b21=false→∀(W23:PW),Ext W20 W23→Post (Value.agg ⟨[s13.v,Value.bool b14,s15.v,s16.v,Value.bool b17,s18.v]⟩) W23))∧
 (¬Int.tmod (mn (mx a1 (0:Int)) (255:Int)) (2:Int)=(0:Int)→∀(W24:PW),Ext W12 W24→Post (Value.agg ⟨[s13.v,Value.bool b14,s15.v,s16.v,Value.bool b17,s18.v]⟩) W24))∧
 (¬(0:Int)<mn (mx a1 (0:Int)) (255:Int)→∀(W25:PW),Ext W12 W25→Post (Value.agg ⟨[s13.v,Value.bool b14,s15.v,s16.v,Value.bool b17,s18.v]⟩) W25)
theorem Cz8 (W0:PW) (M:Nat→Prop) (a0_0:Sl) (a0_1:Bool) (a0_2:Sl) (a0_3:Sl) (a0_4:Bool) (a0_5:Sl) (a1:Int) (Post:Value→PW→Prop) (h:Da1 W0 M a0_0 a0_1 a0_2 a0_3 a0_4 a0_5 a1 Post):Aa0 Tryz.prog 173 [Value.agg #[a0_0.v,Value.bool a0_1,a0_2.v,a0_3.v,Value.bool a0_4,a0_5.v],Value.int IntKind.i64 a1] W0 M Post:=
 Aa3 rfl Aa9 Aa8 Tryz.func173 (cuts:=[]) rfl rfl (Nat.le_of_ble_eq_true rfl) (Eq.mpr (by kernel_rfl) h)
def Eq3 (W0:PW) (M:Nat→Prop) (a0_0:Sl) (a0_1:Bool) (a0_2:Sl) (a0_3:Sl) (a0_4:Bool) (a0_5:Sl) (a1_0:Sl) (a1_1:Bool) (a1_2:Sl) (Post:Value→PW→Prop):Prop:=
 Aa1 Tryz.prog W0 M 20 [.agg ⟨[a0_0.v,.bool a0_1,a0_2.v]⟩,.agg ⟨[a1_0.v,.bool a1_1,a1_2.v]⟩] W0 fun v1 W2=>
 ∃i3:Int,
 v1 = .int .i64 i3∧
 (i3≤0→
 Aa1 Tryz.prog W0 M 20 [.agg ⟨[a1_0.v,.bool a1_1,a1_2.v]⟩,.agg ⟨[a0_3.v,.bool a0_4,a0_5.v]⟩] W2 fun v4 W5=>
 ∃i6:Int,v4 = .int .i64 i6∧∀(W7:PW),Ext W5 W7→Post (.bool (decide (i6≤0))) W7)∧
 (¬i3≤0→∀(W8:PW),Ext W2 W8→Post (.bool false) W8)
theorem Cu8 (W0:PW) (M:Nat→Prop) (a0_0:Sl) (a0_1:Bool) (a0_2:Sl) (a0_3:Sl) (a0_4:Bool) (a0_5:Sl) (a1_0:Sl) (a1_1:Bool) (a1_2:Sl) (Post:Value→PW→Prop) (h:Eq3 W0 M a0_0 a0_1 a0_2 a0_3 a0_4 a0_5 a1_0 a1_1 a1_2 Post):Aa0 Tryz.prog 50 [.agg #[a0_0.v,.bool a0_1,a0_2.v,a0_3.v,.bool a0_4,a0_5.v],.agg #[a1_0.v,.bool a1_1,a1_2.v]] W0 M Post:=
 Aa3 rfl Aa9 Aa8 Tryz.func50 (cuts:=[]) rfl rfl (Nat.le_of_ble_eq_true rfl) (Eq.mpr (by kernel_rfl) h)
def Gq5 (W0:PW) (M:Nat→Prop) (a0_0:Sl) (a0_1:Bool) (a0_2:Sl) (a0_3:Sl) (a0_4:Bool) (a0_5:Sl) (Post:Value→PW→Prop):Prop:=
 Aa1 Tryz.prog W0 M 163 [.agg ⟨[a0_3.v,.bool a0_4,a0_5.v]⟩,.agg ⟨[a0_0.v,.bool a0_1,a0_2.v]⟩] W0 fun v1 W2=>
 ∃s3:Sl,∃b4:Bool,∃s5:Sl,v1 = .agg ⟨[s3.v,.bool b4,s5.v]⟩∧∀(W6:PW),Ext W2 W6→Post (.agg ⟨[s3.v,.bool b4,s5.v]⟩) W6
theorem Gk0 (W0:PW) (M:Nat→Prop) (a0_0:Sl) (a0_1:Bool) (a0_2:Sl) (a0_3:Sl) (a0_4:Bool) (a0_5:Sl) (Post:Value→PW→Prop) (h:Gq5 W0 M a0_0 a0_1 a0_2 a0_3 a0_4 a0_5 Post):Aa0 Tryz.prog 113 [.agg #[a0_0.v,.bool a0_1,a0_2.v,a0_3.v,.bool a0_4,a0_5.v]] W0 M Post:=
 Aa3 rfl Aa9 Aa8 Tryz.func113 (cuts:=[]) rfl rfl (Nat.le_of_ble_eq_true rfl) (Eq.mpr (by kernel_rfl) h)
def Eh2 (W0:PW) (M:Nat→Prop) (a0_0:Sl) (a0_1:Bool) (a0_2:Sl) (a1_0:Sl) (a1_1:Bool) (a1_2:Sl) (Post:Value→PW→Prop):Prop:=
 Aa1 Tryz.prog W0 M 20 [.agg ⟨[a0_0.v,.bool a0_1,a0_2.v]⟩,.agg ⟨[a1_0.v,.bool a1_1,a1_2.v]⟩] W0 fun v1 W2=>
 ∃i3:Int,
 v1 = .int .i64 i3∧
 (0<i3→
 ∀(W4:PW),Ext W2 W4→Post (.tuple ⟨[.agg ⟨[.slice none 0 0,.bool false,.slice none 0 0,.slice none 0 0,.bool false,.slice none 0 0]⟩,.bool false]⟩) W4)∧
 (¬0<i3→∀(W5:PW),Ext W2 W5→Post (.tuple ⟨[.agg ⟨[a0_0.v,.bool a0_1,a0_2.v,a1_0.v,.bool a1_1,a1_2.v]⟩,.bool true]⟩) W5)
theorem Ct1 (W0:PW) (M:Nat→Prop) (a0_0:Sl) (a0_1:Bool) (a0_2:Sl) (a1_0:Sl) (a1_1:Bool) (a1_2:Sl) (Post:Value→PW→Prop) (h:Eh2 W0 M a0_0 a0_1 a0_2 a1_0 a1_1 a1_2 Post):Aa0 Tryz.prog 196 [.agg #[a0_0.v,.bool a0_1,a0_2.v],.agg #[a1_0.v,.bool a1_1,a1_2.v]] W0 M Post:=
 Aa3 rfl Aa9 Aa8 Tryz.func196 (cuts:=[]) rfl rfl (Nat.le_of_ble_eq_true rfl) (Eq.mpr (by kernel_rfl) h)
def Dm6 (W0:PW) (M:Nat→Prop) (a0_0:ByteArray) (a0_1:ByteArray) (Post:Value→PW→Prop):Prop:=
 Aa1 Tryz.prog W0 M 57 [.string a0_0] W0 fun v1 W2=>
 ∃s3:Sl,
 ∃b4:Bool,
 ∃s5:Sl,
 ∃i6:Int,
 v1 = .tuple ⟨[.agg ⟨[s3.v,.bool b4,s5.v]⟩,.int .i64 i6]⟩∧
 (i6≠0→
 ∀(W7:PW),Ext W2 W7→Post (.tuple ⟨[.agg ⟨[.slice none 0 0,.bool false,.slice none 0 0,.slice none 0 0,.bool false,.slice none 0 0]⟩,.int .i64 i6]⟩) W7)∧
 (¬i6≠0→
 Aa1 Tryz.prog W0 M 57 [.string a0_1] W2 fun v8 W9=>
 ∃s10:Sl,
 ∃b11:Bool,
 ∃s12:Sl,
 ∃i13:Int,
 v8 = .tuple ⟨[.agg ⟨[s10.v,.bool b11,s12.v]⟩,.int .i64 i13]⟩∧
 (i13≠0→
 ∀(W14:PW),
 Ext W9 W14→
 Post (.tuple ⟨[.agg ⟨[.slice none 0 0,.bool false,.slice none 0 0,.slice none 0 0,.bool false,.slice none 0 0]⟩,.int .i64 i13]⟩) W14)∧
 (¬i13≠0→
 Aa1 Tryz.prog W0 M 196 [.agg ⟨[s3.v,.bool b4,s5.v]⟩,.agg ⟨[s10.v,.bool b11,s12.v]⟩] W9 fun v15 W16=>
 ∃s17:Sl,
 ∃b18:Bool,
 ∃s19:Sl,
 ∃s20:Sl,
 ∃b21:Bool,
 ∃s22:Sl,
 ∃b23:Bool,
 v15 = .tuple ⟨[.agg ⟨[s17.v,.bool b18,s19.v,s20.v,.bool b21,s22.v]⟩,.bool b23]⟩∧
 ((!b23)=true→
 ∀(W24:PW),
 Ext W16 W24→
 Post
 (.tuple
 ⟨[.agg ⟨[.slice none 0 0,.bool false,.slice none 0 0,.slice none 0 0,.bool false,.slice none 0 0]⟩,.int .i64 1]⟩)
 W24)∧
 ((!b23)=false→∀(W25:PW),Ext W16 W25→Post (.tuple ⟨[.agg ⟨[s17.v,.bool b18,s19.v,s20.v,.bool b21,s22.v]⟩,.int .i64 0]⟩) W25)))
theorem Bz8 (W0:PW) (M:Nat→Prop) (a0_0:ByteArray) (a0_1:ByteArray) (Post:Value→PW→Prop) (h:Dm6 W0 M a0_0 a0_1 Post):Aa0 Tryz.prog 148 [.agg #[.string a0_0,.string a0_1]] W0 M Post:=
 Aa3 rfl Aa9 Aa8 Tryz.func148 (cuts:=[]) rfl rfl (Nat.le_of_ble_eq_true rfl) (Eq.mpr (by kernel_rfl) h)
def Br7 (W0:PW) (M:Nat→Prop) (a0_0:ByteArray) (a0_1:ByteArray) (Post:Value→PW→Prop):Prop:=
 Aa1 Tryz.prog W0 M 56 [.string a0_0] W0 fun v1 W2=>
 ∃b3:Bool,
 ∃s4:Sl,
 ∃s5:Sl,
 ∃b6:Bool,
 v1 = .tuple ⟨[.agg ⟨[.bool b3,s4.v,s5.v]⟩,.bool b6]⟩∧
 Aa1 Tryz.prog W0 M 56 [.string a0_1] W2 fun v7 W8=>
 ∃b9:Bool,
 ∃s10:Sl,
 ∃s11:Sl,
 ∃b12:Bool,
 v7 = .tuple ⟨[.agg ⟨[.bool b9,s10.v,s11.v]⟩,.bool b12]⟩∧
 ((!b6)=true→
 ∀(W13:PW),
 Ext W8 W13→
 Post (.tuple ⟨[.agg ⟨[.bool false,.slice none 0 0,.slice none 0 0,.bool false,.slice none 0 0,.slice none 0 0]⟩,.int .i64 2]⟩) W13)∧
 ((!b6)=false→
 ((!b12)=true→
 ∀(W14:PW),
 Ext W8 W14→
 Post (.tuple ⟨[.agg ⟨[.bool false,.slice none 0 0,.slice none 0 0,.bool false,.slice none 0 0,.slice none 0 0]⟩,.int .i64 2]⟩) W14)∧
 ((!b12)=false→
 Aa1 Tryz.prog W0 M 94 [.agg ⟨[.bool b3,s4.v,s5.v]⟩,.agg ⟨[.bool b9,s10.v,s11.v]⟩] W8 fun v15 W16=>
 ∃i17:Int,
 v15 = .int .i64 i17∧
 (0<i17→
 ∀(W18:PW),
 Ext W16 W18→
 Post (.tuple ⟨[.agg ⟨[.bool false,.slice none 0 0,.slice none 0 0,.bool false,.slice none 0 0,.slice none 0 0]⟩,.int .i64 1]⟩)
 W18)∧
 (¬0<i17→∀(W19:PW),Ext W16 W19→Post (.tuple ⟨[.agg ⟨[.bool b3,s4.v,s5.v,.bool b9,s10.v,s11.v]⟩,.int .i64 0]⟩) W19)))
theorem Be5 (W0:PW) (M:Nat→Prop) (a0_0:ByteArray) (a0_1:ByteArray) (Post:Value→PW→Prop) (h:Br7 W0 M a0_0 a0_1 Post):Aa0 Tryz.prog 120 [.agg #[.string a0_0,.string a0_1]] W0 M Post:=
 Aa3 rfl Aa9 Aa8 Tryz.func120 (cuts:=[]) rfl rfl (Nat.le_of_ble_eq_true rfl) (Eq.mpr (by kernel_rfl) h)
end Go.Proofs.YtokefihiadbkbaaGreatDoor
