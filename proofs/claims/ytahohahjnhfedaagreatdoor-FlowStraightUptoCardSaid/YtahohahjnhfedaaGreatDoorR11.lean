/- R11 -/
import Derived.Test.YtahohahjnhfedaaGreatDoorTt
set_option linter.unusedVariables false
set_option linter.unusedSimpArgs false
set_option maxRecDepth 100000
namespace Go.Proofs.YtahohahjnhfedaaGreatDoor
open Go Go.SX
def Dv4 (W0:PW) (M:Nat→Prop) (a0_0:Sl) (a0_1:Bool) (a0_2:Sl) (a1_0:Sl) (a1_1:Bool) (a1_2:Sl) (Post:Value→PW→Prop):Prop:=
 Aa1 Tryz.prog W0 M 14 [.agg ⟨[a1_0.v,.bool a1_1,a1_2.v]⟩,.agg ⟨[a0_0.v,.bool a0_1,a0_2.v]⟩] W0 fun v1 W2=>
 ∃i3:Int,v1 = .int .i64 i3∧(i3<0→∀(W4:PW),Ext W2 W4→Post (.agg ⟨[a1_0.v,.bool a1_1,a1_2.v]⟩) W4)∧(¬i3<0→∀(W5:PW),Ext W2 W5→Post (.agg ⟨[a0_0.v,.bool a0_1,a0_2.v]⟩) W5)
theorem Cg1 (W0:PW) (M:Nat→Prop) (a0_0:Sl) (a0_1:Bool) (a0_2:Sl) (a1_0:Sl) (a1_1:Bool) (a1_2:Sl) (Post:Value→PW→Prop) (h:Dv4 W0 M a0_0 a0_1 a0_2 a1_0 a1_1 a1_2 Post):Aa0 Tryz.prog 80 [.agg #[a0_0.v,.bool a0_1,a0_2.v],.agg #[a1_0.v,.bool a1_1,a1_2.v]] W0 M Post:=
 Aa3 rfl Aa9 Aa8 Tryz.func80 (cuts:=[]) rfl rfl (Nat.le_of_ble_eq_true rfl) (Eq.mpr (by kernel_rfl) h)
def Ec5 (W0:PW) (M:Nat→Prop) (a0_0:Sl) (a0_1:Bool) (a0_2:Sl) (a1_0:Sl) (a1_1:Bool) (a1_2:Sl) (Post:Value→PW→Prop):Prop:=
 Aa1 Tryz.prog W0 M 14 [.agg ⟨[a1_0.v,.bool a1_1,a1_2.v]⟩,.agg ⟨[a0_0.v,.bool a0_1,a0_2.v]⟩] W0 fun v1 W2=>
 ∃i3:Int,v1 = .int .i64 i3∧(0<i3→∀(W4:PW),Ext W2 W4→Post (.agg ⟨[a1_0.v,.bool a1_1,a1_2.v]⟩) W4)∧(¬0<i3→∀(W5:PW),Ext W2 W5→Post (.agg ⟨[a0_0.v,.bool a0_1,a0_2.v]⟩) W5)
theorem Ck9 (W0:PW) (M:Nat→Prop) (a0_0:Sl) (a0_1:Bool) (a0_2:Sl) (a1_0:Sl) (a1_1:Bool) (a1_2:Sl) (Post:Value→PW→Prop) (h:Ec5 W0 M a0_0 a0_1 a0_2 a1_0 a1_1 a1_2 Post):Aa0 Tryz.prog 81 [.agg #[a0_0.v,.bool a0_1,a0_2.v],.agg #[a1_0.v,.bool a1_1,a1_2.v]] W0 M Post:=
 Aa3 rfl Aa9 Aa8 Tryz.func81 (cuts:=[]) rfl rfl (Nat.le_of_ble_eq_true rfl) (Eq.mpr (by kernel_rfl) h)
def Cw2 (W0:PW) (M:Nat→Prop) (a0_0:Sl) (a0_1:Bool) (a0_2:Sl) (a1_0:Sl) (a1_1:Bool) (a1_2:Sl) (Post:Value→PW→Prop):Prop:=
 Aa1 Tryz.prog W0 M 80 [.agg ⟨[a0_0.v,.bool a0_1,a0_2.v]⟩,.agg ⟨[a1_0.v,.bool a1_1,a1_2.v]⟩] W0 fun v1 W2=>
 ∃s3:Sl,
 ∃b4:Bool,
 ∃s5:Sl,
 v1 = .agg ⟨[s3.v,.bool b4,s5.v]⟩∧
 Aa1 Tryz.prog W0 M 81 [.agg ⟨[a0_0.v,.bool a0_1,a0_2.v]⟩,.agg ⟨[a1_0.v,.bool a1_1,a1_2.v]⟩] W2 fun v6 W7=>
 ∃s8:Sl,∃b9:Bool,∃s10:Sl,v6 = .agg ⟨[s8.v,.bool b9,s10.v]⟩∧∀(W11:PW),Ext W7 W11→Post (.agg ⟨[s3.v,.bool b4,s5.v,s8.v,.bool b9,s10.v]⟩) W11
theorem Bv4 (W0:PW) (M:Nat→Prop) (a0_0:Sl) (a0_1:Bool) (a0_2:Sl) (a1_0:Sl) (a1_1:Bool) (a1_2:Sl) (Post:Value→PW→Prop) (h:Cw2 W0 M a0_0 a0_1 a0_2 a1_0 a1_1 a1_2 Post):Aa0 Tryz.prog 85 [.agg #[a0_0.v,.bool a0_1,a0_2.v],.agg #[a1_0.v,.bool a1_1,a1_2.v]] W0 M Post:=
 Aa3 rfl Aa9 Aa8 Tryz.func85 (cuts:=[]) rfl rfl (Nat.le_of_ble_eq_true rfl) (Eq.mpr (by kernel_rfl) h)
def Ec6 (W0:PW) (M:Nat→Prop) (a0_0:Sl) (a0_1:Bool) (a0_2:Sl) (a0_3:Sl) (a0_4:Bool) (a0_5:Sl) (a1_0:Sl) (a1_1:Bool) (a1_2:Sl) (a1_3:Sl) (a1_4:Bool) (a1_5:Sl) (Post:Value→PW→Prop):Prop:=
 Aa1 Tryz.prog W0 M 80 [.agg ⟨[a0_0.v,.bool a0_1,a0_2.v]⟩,.agg ⟨[a1_0.v,.bool a1_1,a1_2.v]⟩] W0 fun v1 W2=>
 ∃s3:Sl,
 ∃b4:Bool,
 ∃s5:Sl,
 v1 = .agg ⟨[s3.v,.bool b4,s5.v]⟩∧
 Aa1 Tryz.prog W0 M 81 [.agg ⟨[a0_3.v,.bool a0_4,a0_5.v]⟩,.agg ⟨[a1_3.v,.bool a1_4,a1_5.v]⟩] W2 fun v6 W7=>
 ∃s8:Sl,∃b9:Bool,∃s10:Sl,v6 = .agg ⟨[s8.v,.bool b9,s10.v]⟩∧∀(W11:PW),Ext W7 W11→Post (.agg ⟨[s3.v,.bool b4,s5.v,s8.v,.bool b9,s10.v]⟩) W11
theorem Ck6 (W0:PW) (M:Nat→Prop) (a0_0:Sl) (a0_1:Bool) (a0_2:Sl) (a0_3:Sl) (a0_4:Bool) (a0_5:Sl) (a1_0:Sl) (a1_1:Bool) (a1_2:Sl) (a1_3:Sl) (a1_4:Bool) (a1_5:Sl) (Post:Value→PW→Prop) (h:Ec6 W0 M a0_0 a0_1 a0_2 a0_3 a0_4 a0_5 a1_0 a1_1 a1_2 a1_3 a1_4 a1_5 Post):Aa0 Tryz.prog 38 [.agg #[a0_0.v,.bool a0_1,a0_2.v,a0_3.v,.bool a0_4,a0_5.v],.agg #[a1_0.v,.bool a1_1,a1_2.v,a1_3.v,.bool a1_4,a1_5.v]] W0 M Post:=
 Aa3 rfl Aa9 Aa8 Tryz.func38 (cuts:=[]) rfl rfl (Nat.le_of_ble_eq_true rfl) (Eq.mpr (by kernel_rfl) h)
def En0 (W0:PW) (M:Nat→Prop) (a0_0:Sl) (a0_1:Bool) (a0_2:Sl) (a0_3:Sl) (a0_4:Bool) (a0_5:Sl) (a1_0:Sl) (a1_1:Bool) (a1_2:Sl) (a1_3:Sl) (a1_4:Bool) (a1_5:Sl) (Post:Value→PW→Prop):Prop:=
 Aa1 Tryz.prog W0 M 10 [.agg ⟨[a0_0.v,.bool a0_1,a0_2.v]⟩,.agg ⟨[a1_0.v,.bool a1_1,a1_2.v]⟩] W0 fun v1 W2=>
 ∃s3:Sl,
 ∃b4:Bool,
 ∃s5:Sl,
 v1 = .agg ⟨[s3.v,.bool b4,s5.v]⟩∧
 Aa1 Tryz.prog W0 M 10 [.agg ⟨[a0_3.v,.bool a0_4,a0_5.v]⟩,.agg ⟨[a1_3.v,.bool a1_4,a1_5.v]⟩] W2 fun v6 W7=>
 ∃s8:Sl,∃b9:Bool,∃s10:Sl,v6 = .agg ⟨[s8.v,.bool b9,s10.v]⟩∧∀(W11:PW),Ext W7 W11→Post (.agg ⟨[s3.v,.bool b4,s5.v,s8.v,.bool b9,s10.v]⟩) W11
theorem Cs4 (W0:PW) (M:Nat→Prop) (a0_0:Sl) (a0_1:Bool) (a0_2:Sl) (a0_3:Sl) (a0_4:Bool) (a0_5:Sl) (a1_0:Sl) (a1_1:Bool) (a1_2:Sl) (a1_3:Sl) (a1_4:Bool) (a1_5:Sl) (Post:Value→PW→Prop) (h:En0 W0 M a0_0 a0_1 a0_2 a0_3 a0_4 a0_5 a1_0 a1_1 a1_2 a1_3 a1_4 a1_5 Post):Aa0 Tryz.prog 42 [.agg #[a0_0.v,.bool a0_1,a0_2.v,a0_3.v,.bool a0_4,a0_5.v],.agg #[a1_0.v,.bool a1_1,a1_2.v,a1_3.v,.bool a1_4,a1_5.v]] W0 M Post:=
 Aa3 rfl Aa9 Aa8 Tryz.func42 (cuts:=[]) rfl rfl (Nat.le_of_ble_eq_true rfl) (Eq.mpr (by kernel_rfl) h)
def Er3 (W0:PW) (M:Nat→Prop) (a0_0:Sl) (a0_1:Bool) (a0_2:Sl) (a0_3:Sl) (a0_4:Bool) (a0_5:Sl) (a1_0:Sl) (a1_1:Bool) (a1_2:Sl) (a1_3:Sl) (a1_4:Bool) (a1_5:Sl) (Post:Value→PW→Prop):Prop:=
 Aa1 Tryz.prog W0 M 11 [.agg ⟨[a0_0.v,.bool a0_1,a0_2.v]⟩,.agg ⟨[a1_0.v,.bool a1_1,a1_2.v]⟩] W0 fun v1 W2=>
 ∃s3:Sl,
 ∃b4:Bool,
 ∃s5:Sl,
 v1 = .agg ⟨[s3.v,.bool b4,s5.v]⟩∧
 Aa1 Tryz.prog W0 M 11 [.agg ⟨[a0_3.v,.bool a0_4,a0_5.v]⟩,.agg ⟨[a1_3.v,.bool a1_4,a1_5.v]⟩] W2 fun v6 W7=>
 ∃s8:Sl,
 ∃b9:Bool,
 ∃s10:Sl,
 v6 = .agg ⟨[s8.v,.bool b9,s10.v]⟩∧
 Aa1 Tryz.prog W0 M 85 [.agg ⟨[s3.v,.bool b4,s5.v]⟩,.agg ⟨[s8.v,.bool b9,s10.v]⟩] W7 fun v11 W12=>
 ∃s13:Sl,
 ∃b14:Bool,
 ∃s15:Sl,
 ∃s16:Sl,
 ∃b17:Bool,
 ∃s18:Sl,
 v11 = .agg ⟨[s13.v,.bool b14,s15.v,s16.v,.bool b17,s18.v]⟩∧
 Aa1 Tryz.prog W0 M 11 [.agg ⟨[a0_0.v,.bool a0_1,a0_2.v]⟩,.agg ⟨[a1_3.v,.bool a1_4,a1_5.v]⟩] W12 fun v19 W20=>
 ∃s21:Sl,
 ∃b22:Bool,
 ∃s23:Sl,
 v19 = .agg ⟨[s21.v,.bool b22,s23.v]⟩∧
 Aa1 Tryz.prog W0 M 11 [.agg ⟨[a0_3.v,.bool a0_4,a0_5.v]⟩,.agg ⟨[a1_0.v,.bool a1_1,a1_2.v]⟩] W20 fun v24 W25=>
 ∃s26:Sl,
 ∃b27:Bool,
 ∃s28:Sl,
 v24 = .agg ⟨[s26.v,.bool b27,s28.v]⟩∧
 Aa1 Tryz.prog W0 M 85 [.agg ⟨[s21.v,.bool b22,s23.v]⟩,.agg ⟨[s26.v,.bool b27,s28.v]⟩] W25 fun v29 W30=>
 ∃s31:Sl,
 ∃b32:Bool,
 ∃s33:Sl,
 ∃s34:Sl,
 ∃b35:Bool,
 ∃s36:Sl,
 v29 = .agg ⟨[s31.v,.bool b32,s33.v,s34.v,.bool b35,s36.v]⟩∧
 Aa1 Tryz.prog W0 M 38 [.agg ⟨[s13.v,.bool b14,s15.v,s16.v,.bool b17,s18.v]⟩,.agg ⟨[s31.v,.bool b32,s33.v,s34.v,.bool b35,s36.v]⟩] W30
 fun v37 W38=>
 ∃s39:Sl,
 ∃b40:Bool,
 ∃s41:Sl,
 ∃s42:Sl,
 ∃b43:Bool,
 ∃s44:Sl,
 v37 = .agg ⟨[s39.v,.bool b40,s41.v,s42.v,.bool b43,s44.v]⟩∧
 ∀(W45:PW),Ext W38 W45→Post (.agg ⟨[s39.v,.bool b40,s41.v,s42.v,.bool b43,s44.v]⟩) W45
theorem Cy7 (W0:PW) (M:Nat→Prop) (a0_0:Sl) (a0_1:Bool) (a0_2:Sl) (a0_3:Sl) (a0_4:Bool) (a0_5:Sl) (a1_0:Sl) (a1_1:Bool) (a1_2:Sl) (a1_3:Sl) (a1_4:Bool) (a1_5:Sl) (Post:Value→PW→Prop) (h:Er3 W0 M a0_0 a0_1 a0_2 a0_3 a0_4 a0_5 a1_0 a1_1 a1_2 a1_3 a1_4 a1_5 Post):Aa0 Tryz.prog 45 [.agg #[a0_0.v,.bool a0_1,a0_2.v,a0_3.v,.bool a0_4,a0_5.v],.agg #[a1_0.v,.bool a1_1,a1_2.v,a1_3.v,.bool a1_4,a1_5.v]] W0 M Post:=
 Aa3 rfl Aa9 Aa8 Tryz.func45 (cuts:=[]) rfl rfl (Nat.le_of_ble_eq_true rfl) (Eq.mpr (by kernel_rfl) h)
def Hv4 (W0:PW) (M:Nat→Prop) (a0_0:Sl) (a0_1:Bool) (a0_2:Sl) (a0_3:Sl) (a0_4:Bool) (a0_5:Sl) (a1_0:Sl) (a1_1:Bool) (a1_2:Sl) (Post:Value→PW→Prop):Prop:=
 Aa1 Tryz.prog W0 M 11 [.agg ⟨[a0_0.v,.bool a0_1,a0_2.v]⟩,.agg ⟨[a1_0.v,.bool a1_1,a1_2.v]⟩] W0 fun v1 W2=>
 ∃s3:Sl,
 ∃b4:Bool,
 ∃s5:Sl,
 v1 = .agg ⟨[s3.v,.bool b4,s5.v]⟩∧
 Aa1 Tryz.prog W0 M 11 [.agg ⟨[a0_3.v,.bool a0_4,a0_5.v]⟩,.agg ⟨[a1_0.v,.bool a1_1,a1_2.v]⟩] W2 fun v6 W7=>
 ∃s8:Sl,
 ∃b9:Bool,
 ∃s10:Sl,
 v6 = .agg ⟨[s8.v,.bool b9,s10.v]⟩∧
 Aa1 Tryz.prog W0 M 85 [.agg ⟨[s3.v,.bool b4,s5.v]⟩,.agg ⟨[s8.v,.bool b9,s10.v]⟩] W7 fun v11 W12=>
 ∃s13:Sl,
 ∃b14:Bool,
 ∃s15:Sl,
 ∃s16:Sl,
 ∃b17:Bool,∃s18:Sl,v11 = .agg ⟨[s13.v,.bool b14,s15.v,s16.v,.bool b17,s18.v]⟩∧∀(W19:PW),Ext W12 W19→Post (.agg ⟨[s13.v,.bool b14,s15.v,s16.v,.bool b17,s18.v]⟩) W19
theorem Hu3 (W0:PW) (M:Nat→Prop) (a0_0:Sl) (a0_1:Bool) (a0_2:Sl) (a0_3:Sl) (a0_4:Bool) (a0_5:Sl) (a1_0:Sl) (a1_1:Bool) (a1_2:Sl) (Post:Value→PW→Prop) (h:Hv4 W0 M a0_0 a0_1 a0_2 a0_3 a0_4 a0_5 a1_0 a1_1 a1_2 Post):Aa0 Tryz.prog 43 [.agg #[a0_0.v,.bool a0_1,a0_2.v,a0_3.v,.bool a0_4,a0_5.v],.agg #[a1_0.v,.bool a1_1,a1_2.v]] W0 M Post:=
 Aa3 rfl Aa9 Aa8 Tryz.func43 (cuts:=[]) rfl rfl (Nat.le_of_ble_eq_true rfl) (Eq.mpr (by kernel_rfl) h)
def Fb4 (W0:PW) (M:Nat→Prop) (a0_0:Sl) (a0_1:Bool) (a0_2:Sl) (Post:Value→PW→Prop):Prop:=
 ∀(W1:PW),Ext W0 W1→Post (.agg ⟨[a0_0.v,.bool a0_1,a0_2.v,a0_0.v,.bool a0_1,a0_2.v]⟩) W1
theorem Dk8 (W0:PW) (M:Nat→Prop) (a0_0:Sl) (a0_1:Bool) (a0_2:Sl) (Post:Value→PW→Prop) (h:Fb4 W0 M a0_0 a0_1 a0_2 Post):Aa0 Tryz.prog 119 [.agg #[a0_0.v,.bool a0_1,a0_2.v]] W0 M Post:=
 Aa3 rfl Aa9 Aa8 Tryz.func119 (cuts:=[]) rfl rfl (Nat.le_of_ble_eq_true rfl) (Eq.mpr (by kernel_rfl) h)
def Da1 (W0:PW) (M:Nat→Prop) (a0_0:Sl) (a0_1:Bool) (a0_2:Sl) (a0_3:Sl) (a0_4:Bool) (a0_5:Sl) (a1:Int) (Post:Value→PW→Prop):Prop:=
 Aa1 Tryz.prog W0 M (149:Nat) [Value.agg ⟨[a0_0.v,Value.bool a0_1,a0_2.v]⟩,Value.int IntKind.i64 a1] W0 fun v1 W2=>
 ∃s3:Sl,
 ∃b4:Bool,
 ∃s5:Sl,
 v1=Value.agg ⟨[s3.v,Value.bool b4,s5.v]⟩∧
 Aa1 Tryz.prog W0 M (149:Nat) [Value.agg ⟨[a0_3.v,Value.bool a0_4,a0_5.v]⟩,Value.int IntKind.i64 a1] W2 fun v6 W7=>
 ∃s8:Sl,
 ∃b9:Bool,
 ∃s10:Sl,
 v6=Value.agg ⟨[s8.v,Value.bool b9,s10.v]⟩∧
 Aa1 Tryz.prog W0 M (85:Nat) [Value.agg ⟨[s3.v,Value.bool b4,s5.v]⟩,Value.agg ⟨[s8.v,Value.bool b9,s10.v]⟩] W7 fun v11 W12=>
 ∃s13:Sl,
 ∃b14:Bool,
 ∃s15:Sl,
 ∃s16:Sl,
 ∃b17:Bool,
 ∃s18:Sl,
 v11=Value.agg ⟨[s13.v,Value.bool b14,s15.v,s16.v,Value.bool b17,s18.v]⟩∧
 ((0:Int)<mn (mx a1 (0:Int)) (255:Int)→
 (2:Int)≠(0:Int)∧
 (Int.tmod (mn (mx a1 (0:Int)) (255:Int)) (2:Int)=(0:Int)→
 Aa1 Tryz.prog W0 M (150:Nat) [Value.agg ⟨[a0_0.v,Value.bool a0_1,a0_2.v,a0_3.v,Value.bool a0_4,a0_5.v]⟩,Value.agg ⟨[Value.slice none (0:Nat) (0:Nat),Value.bool false,Value.slice none (0:Nat) (0:Nat)]⟩] W12
 fun v19 W20=>
 ∃b21:Bool,
 v19=Value.bool b21∧
 (b21=true→∀(W22:PW),Ext W20 W22→Post (Value.agg ⟨[Value.slice none (0:Nat) (0:Nat),Value.bool false,Value.slice none (0:Nat) (0:Nat),s16.v,Value.bool b17,s18.v]⟩) W22)∧
 (b21=false→∀(W23:PW),Ext W20 W23→Post (Value.agg ⟨[s13.v,Value.bool b14,s15.v,s16.v,Value.bool b17,s18.v]⟩) W23))∧
 (¬Int.tmod (mn (mx a1 (0:Int)) (255:Int)) (2:Int)=(0:Int)→∀(W24:PW),Ext W12 W24→Post (Value.agg ⟨[s13.v,Value.bool b14,s15.v,s16.v,Value.bool b17,s18.v]⟩) W24))∧
 (¬(0:Int)<mn (mx a1 (0:Int)) (255:Int)→∀(W25:PW),Ext W12 W25→Post (Value.agg ⟨[s13.v,Value.bool b14,s15.v,s16.v,Value.bool b17,s18.v]⟩) W25)
theorem Cz8 (W0:PW) (M:Nat→Prop) (a0_0:Sl) (a0_1:Bool) (a0_2:Sl) (a0_3:Sl) (a0_4:Bool) (a0_5:Sl) (a1:Int) (Post:Value→PW→Prop) (h:Da1 W0 M a0_0 a0_1 a0_2 a0_3 a0_4 a0_5 a1 Post):Aa0 Tryz.prog 120 [Value.agg #[a0_0.v,Value.bool a0_1,a0_2.v,a0_3.v,Value.bool a0_4,a0_5.v],Value.int IntKind.i64 a1] W0 M Post:=
 Aa3 rfl Aa9 Aa8 Tryz.func120 (cuts:=[]) rfl rfl (Nat.le_of_ble_eq_true rfl) (Eq.mpr (by kernel_rfl) h)
def Eq3 (W0:PW) (M:Nat→Prop) (a0_0:Sl) (a0_1:Bool) (a0_2:Sl) (a0_3:Sl) (a0_4:Bool) (a0_5:Sl) (a1_0:Sl) (a1_1:Bool) (a1_2:Sl) (Post:Value→PW→Prop):Prop:=
 Aa1 Tryz.prog W0 M 14 [.agg ⟨[a0_0.v,.bool a0_1,a0_2.v]⟩,.agg ⟨[a1_0.v,.bool a1_1,a1_2.v]⟩] W0 fun v1 W2=>
 ∃i3:Int,
 v1 = .int .i64 i3∧
 (i3≤0→
 Aa1 Tryz.prog W0 M 14 [.agg ⟨[a1_0.v,.bool a1_1,a1_2.v]⟩,.agg ⟨[a0_3.v,.bool a0_4,a0_5.v]⟩] W2 fun v4 W5=>
 ∃i6:Int,v4 = .int .i64 i6∧∀(W7:PW),Ext W5 W7→Post (.bool (decide (i6≤0))) W7)∧
 (¬i3≤0→∀(W8:PW),Ext W2 W8→Post (.bool false) W8)
theorem Cu8 (W0:PW) (M:Nat→Prop) (a0_0:Sl) (a0_1:Bool) (a0_2:Sl) (a0_3:Sl) (a0_4:Bool) (a0_5:Sl) (a1_0:Sl) (a1_1:Bool) (a1_2:Sl) (Post:Value→PW→Prop) (h:Eq3 W0 M a0_0 a0_1 a0_2 a0_3 a0_4 a0_5 a1_0 a1_1 a1_2 Post):Aa0 Tryz.prog 150 [.agg #[a0_0.v,.bool a0_1,a0_2.v,a0_3.v,.bool a0_4,a0_5.v],.agg #[a1_0.v,.bool a1_1,a1_2.v]] W0 M Post:=
 Aa3 rfl Aa9 Aa8 Tryz.func150 (cuts:=[]) rfl rfl (Nat.le_of_ble_eq_true rfl) (Eq.mpr (by kernel_rfl) h)
def Eh2 (W0:PW) (M:Nat→Prop) (a0_0:Sl) (a0_1:Bool) (a0_2:Sl) (a1_0:Sl) (a1_1:Bool) (a1_2:Sl) (Post:Value→PW→Prop):Prop:=
 Aa1 Tryz.prog W0 M 14 [.agg ⟨[a0_0.v,.bool a0_1,a0_2.v]⟩,.agg ⟨[a1_0.v,.bool a1_1,a1_2.v]⟩] W0 fun v1 W2=>
 ∃i3:Int,
 v1 = .int .i64 i3∧
 (0<i3→
 ∀(W4:PW),Ext W2 W4→Post (.tuple ⟨[.agg ⟨[.slice none 0 0,.bool false,.slice none 0 0,.slice none 0 0,.bool false,.slice none 0 0]⟩,.bool false]⟩) W4)∧
 (¬0<i3→∀(W5:PW),Ext W2 W5→Post (.tuple ⟨[.agg ⟨[a0_0.v,.bool a0_1,a0_2.v,a1_0.v,.bool a1_1,a1_2.v]⟩,.bool true]⟩) W5)
theorem Ct1 (W0:PW) (M:Nat→Prop) (a0_0:Sl) (a0_1:Bool) (a0_2:Sl) (a1_0:Sl) (a1_1:Bool) (a1_2:Sl) (Post:Value→PW→Prop) (h:Eh2 W0 M a0_0 a0_1 a0_2 a1_0 a1_1 a1_2 Post):Aa0 Tryz.prog 125 [.agg #[a0_0.v,.bool a0_1,a0_2.v],.agg #[a1_0.v,.bool a1_1,a1_2.v]] W0 M Post:=
 Aa3 rfl Aa9 Aa8 Tryz.func125 (cuts:=[]) rfl rfl (Nat.le_of_ble_eq_true rfl) (Eq.mpr (by kernel_rfl) h)
def Dm6 (W0:PW) (M:Nat→Prop) (a0_0:ByteArray) (a0_1:ByteArray) (Post:Value→PW→Prop):Prop:=
 Aa1 Tryz.prog W0 M 20 [.string a0_0] W0 fun v1 W2=>
 ∃s3:Sl,
 ∃b4:Bool,
 ∃s5:Sl,
 ∃i6:Int,
 v1 = .tuple ⟨[.agg ⟨[s3.v,.bool b4,s5.v]⟩,.int .i64 i6]⟩∧
 (i6≠0→
 ∀(W7:PW),Ext W2 W7→Post (.tuple ⟨[.agg ⟨[.slice none 0 0,.bool false,.slice none 0 0,.slice none 0 0,.bool false,.slice none 0 0]⟩,.int .i64 i6]⟩) W7)∧
 (¬i6≠0→
 Aa1 Tryz.prog W0 M 20 [.string a0_1] W2 fun v8 W9=>
 ∃s10:Sl,
 ∃b11:Bool,
 ∃s12:Sl,
 ∃i13:Int,
 v8 = .tuple ⟨[.agg ⟨[s10.v,.bool b11,s12.v]⟩,.int .i64 i13]⟩∧
 (i13≠0→
 ∀(W14:PW),
 Ext W9 W14→
 Post (.tuple ⟨[.agg ⟨[.slice none 0 0,.bool false,.slice none 0 0,.slice none 0 0,.bool false,.slice none 0 0]⟩,.int .i64 i13]⟩) W14)∧
 (¬i13≠0→
 Aa1 Tryz.prog W0 M 125 [.agg ⟨[s3.v,.bool b4,s5.v]⟩,.agg ⟨[s10.v,.bool b11,s12.v]⟩] W9 fun v15 W16=>
 ∃s17:Sl,
 ∃b18:Bool,
 ∃s19:Sl,
 ∃s20:Sl,
 ∃b21:Bool,
 ∃s22:Sl,
 ∃b23:Bool,
 v15 = .tuple ⟨[.agg ⟨[s17.v,.bool b18,s19.v,s20.v,.bool b21,s22.v]⟩,.bool b23]⟩∧
 ((!b23)=true→
 ∀(W24:PW),
 Ext W16 W24→
 Post
 (.tuple
 ⟨[.agg ⟨[.slice none 0 0,.bool false,.slice none 0 0,.slice none 0 0,.bool false,.slice none 0 0]⟩,.int .i64 1]⟩)
 W24)∧
 ((!b23)=false→∀(W25:PW),Ext W16 W25→Post (.tuple ⟨[.agg ⟨[s17.v,.bool b18,s19.v,s20.v,.bool b21,s22.v]⟩,.int .i64 0]⟩) W25)))
theorem Bz8 (W0:PW) (M:Nat→Prop) (a0_0:ByteArray) (a0_1:ByteArray) (Post:Value→PW→Prop) (h:Dm6 W0 M a0_0 a0_1 Post):Aa0 Tryz.prog 92 [.agg #[.string a0_0,.string a0_1]] W0 M Post:=
 Aa3 rfl Aa9 Aa8 Tryz.func92 (cuts:=[]) rfl rfl (Nat.le_of_ble_eq_true rfl) (Eq.mpr (by kernel_rfl) h)
def Br7 (W0:PW) (M:Nat→Prop) (a0_0:ByteArray) (a0_1:ByteArray) (Post:Value→PW→Prop):Prop:=
 Aa1 Tryz.prog W0 M 19 [.string a0_0] W0 fun v1 W2=>
 ∃b3:Bool,
 ∃s4:Sl,
 ∃s5:Sl,
 ∃b6:Bool,
 v1 = .tuple ⟨[.agg ⟨[.bool b3,s4.v,s5.v]⟩,.bool b6]⟩∧
 Aa1 Tryz.prog W0 M 19 [.string a0_1] W2 fun v7 W8=>
 ∃b9:Bool,
 ∃s10:Sl,
 ∃s11:Sl,
 ∃b12:Bool,
 v7 = .tuple ⟨[.agg ⟨[.bool b9,s10.v,s11.v]⟩,.bool b12]⟩∧
 ((!b6)=true→
 ∀(W13:PW),
 Ext W8 W13→
 Post (.tuple ⟨[.agg ⟨[.bool false,.slice none 0 0,.slice none 0 0,.bool false,.slice none 0 0,.slice none 0 0]⟩,.int .i64 2]⟩) W13)∧
 ((!b6)=false→
 ((!b12)=true→
 ∀(W14:PW),
 Ext W8 W14→
 Post (.tuple ⟨[.agg ⟨[.bool false,.slice none 0 0,.slice none 0 0,.bool false,.slice none 0 0,.slice none 0 0]⟩,.int .i64 2]⟩) W14)∧
 ((!b12)=false→
 Aa1 Tryz.prog W0 M 48 [.agg ⟨[.bool b3,s4.v,s5.v]⟩,.agg ⟨[.bool b9,s10.v,s11.v]⟩] W8 fun v15 W16=>
 ∃i17:Int,
 v15 = .int .i64 i17∧
 (0<i17→
 ∀(W18:PW),
 Ext W16 W18→
 Post (.tuple ⟨[.agg ⟨[.bool false,.slice none 0 0,.slice none 0 0,.bool false,.slice none 0 0,.slice none 0 0]⟩,.int .i64 1]⟩)
 W18)∧
 (¬0<i17→∀(W19:PW),Ext W16 W19→Post (.tuple ⟨[.agg ⟨[.bool b3,s4.v,s5.v,.bool b9,s10.v,s11.v]⟩,.int .i64 0]⟩) W19)))
theorem Be5 (W0:PW) (M:Nat→Prop) (a0_0:ByteArray) (a0_1:ByteArray) (Post:Value→PW→Prop) (h:Br7 W0 M a0_0 a0_1 Post):Aa0 Tryz.prog 47 [.agg #[.string a0_0,.string a0_1]] W0 M Post:=
 Aa3 rfl Aa9 Aa8 Tryz.func47 (cuts:=[]) rfl rfl (Nat.le_of_ble_eq_true rfl) (Eq.mpr (by kernel_rfl) h)
def Dg2 (W0:PW) (M:Nat→Prop) (a0_0:Sl) (a1_0:Sl) (a1_1:Bool) (a1_2:Sl) (a1_3:Sl) (a1_4:Bool) (a1_5:Sl) (a1_6:Sl) (a1_7:Bool) (a1_8:Sl) (a1_9:Sl) (a1_10:Bool) (a1_11:Sl) (a1_12:Sl) (a1_13:Bool) (a1_14:Sl) (a1_15:Sl) (a1_16:Bool) (a1_17:Sl) (Post:Value→PW→Prop):Prop:=
 Aa1 Tryz.prog W0 M 118 [Value.agg ⟨[a0_0.v]⟩] W0 fun v1 W2=>
 ∃s3:Sl,
 v1=s3.v∧
 ∃(F4:List PL→PW→Prop),
 ∃(F5:List PL→PW→Nat),
 F4 [PL.val (Value.int .i64 0),PL.cells [Value.slice none 0 0,Value.bool false,Value.slice none 0 0,Value.slice none 0 0,Value.bool false,Value.slice none 0 0]] W2∧
 ∀(s6:Sl) (b7:Bool) (s8 s9:Sl) (b10:Bool) (s11:Sl) (i12:Int) (W13:PW),
 F4 [PL.val (Value.int .i64 i12),PL.cells [s6.v,Value.bool b7,s8.v,s9.v,Value.bool b10,s11.v]] W13→
 (i12<(s3.2:Int)→
 inB s3 i12∧
 ∃i14:Int,
 ∃i15:Int,
 ∃i16:Int,
 ∃s17:Sl,
 ∃b18:Bool,
 ∃s19:Sl,
 Aa7 W13 s3 6 (Int.toNat i12) 0 [Value.int .u8 i14,Value.int .u8 i15,Value.int .u8 i16,s17.v,Value.bool b18,s19.v]∧
 Aa1 Tryz.prog W0 M 119 [Value.agg ⟨[s17.v,Value.bool b18,s19.v]⟩] W13 fun v20 W21=>
 ∃s22:Sl,
 ∃b23:Bool,
 ∃s24:Sl,
 ∃s25:Sl,
 ∃b26:Bool,
 ∃s27:Sl,
 v20=Value.agg ⟨[s22.v,Value.bool b23,s24.v,s25.v,Value.bool b26,s27.v]⟩∧
 ∃(F28:List PL→PW→Prop),
 ∃(F29:List PL→PW→Nat),
 F28 [PL.val (Value.int .i64 0),PL.cells [s22.v,Value.bool b23,s24.v,s25.v,Value.bool b26,s27.v]] W21∧
 ∀(s30:Sl) (b31:Bool) (s32 s33:Sl) (b34:Bool) (s35:Sl) (i36:Int) (W37:PW),
 F28 [PL.val (Value.int .i64 i36),PL.cells [s30.v,Value.bool b31,s32.v,s33.v,Value.bool b34,s35.v]] W37→
 (i36<3→
 (0≤i36∧i36<3)∧
 ∃i38:Int,
 List.take 1 (List.drop (Int.toNat i36*1) [Value.int .u8 i14,Value.int .u8 i15,Value.int .u8 i16]) = [Value.int .u8 i38]∧
 (0<i38→
 (0≤i36∧i36<3)∧
 ∃s39:Sl,
 ∃b40:Bool,
 ∃s41:Sl,
 ∃s42:Sl,
 ∃b43:Bool,
 ∃s44:Sl,
 As9
 [a1_0.v,Value.bool a1_1,a1_2.v,a1_3.v,Value.bool a1_4,a1_5.v,a1_6.v,Value.bool a1_7,a1_8.v,a1_9.v,Value.bool a1_10,a1_11.v,a1_12.v,Value.bool a1_13,a1_14.v,a1_15.v,
 Value.bool a1_16,a1_17.v]
 (0+Int.toNat i36*6+0) [s39.v,Value.bool b40,s41.v,s42.v,Value.bool b43,s44.v]∧
 I64 i38∧
 Aa1 Tryz.prog W0 M 120 [Value.agg ⟨[s39.v,Value.bool b40,s41.v,s42.v,Value.bool b43,s44.v]⟩,Value.int .i64 i38] W37 fun v45 W46=>
 ∃s47:Sl,
 ∃b48:Bool,
 ∃s49:Sl,
 ∃s50:Sl,
 ∃b51:Bool,
 ∃s52:Sl,
 v45=Value.agg ⟨[s47.v,Value.bool b48,s49.v,s50.v,Value.bool b51,s52.v]⟩∧
 Aa1 Tryz.prog W0 M 45
 [Value.agg ⟨[s30.v,Value.bool b31,s32.v,s33.v,Value.bool b34,s35.v]⟩,Value.agg ⟨[s47.v,Value.bool b48,s49.v,s50.v,Value.bool b51,s52.v]⟩] W46
 fun v53 W54=>
 ∃s55:Sl,
 ∃b56:Bool,
 ∃s57:Sl,
 ∃s58:Sl,
 ∃b59:Bool,
 ∃s60:Sl,
 v53=Value.agg ⟨[s55.v,Value.bool b56,s57.v,s58.v,Value.bool b59,s60.v]⟩∧
 I64 (i36+1)∧
 stp F28 F29 [PL.val (Value.int .i64 (i36+1)),PL.cells [s55.v,Value.bool b56,s57.v,s58.v,Value.bool b59,s60.v]] W54
 [PL.val (Value.int .i64 i36),PL.cells [s30.v,Value.bool b31,s32.v,s33.v,Value.bool b34,s35.v]] W37)∧
 (¬0<i38→
 I64 (i36+1)∧
 stp F28 F29 [PL.val (Value.int .i64 (i36+1)),PL.cells [s30.v,Value.bool b31,s32.v,s33.v,Value.bool b34,s35.v]] W37
 [PL.val (Value.int .i64 i36),PL.cells [s30.v,Value.bool b31,s32.v,s33.v,Value.bool b34,s35.v]] W37))∧
 (¬i36<3→
 Aa1 Tryz.prog W0 M 42 [Value.agg ⟨[s6.v,Value.bool b7,s8.v,s9.v,Value.bool b10,s11.v]⟩,Value.agg ⟨[s30.v,Value.bool b31,s32.v,s33.v,Value.bool b34,s35.v]⟩] W37
 fun v61 W62=>
 ∃s63:Sl,
 ∃b64:Bool,
 ∃s65:Sl,
 ∃s66:Sl,
 ∃b67:Bool,
 ∃s68:Sl,
 v61=Value.agg ⟨[s63.v,Value.bool b64,s65.v,s66.v,Value.bool b67,s68.v]⟩∧
 I64 (i12+1)∧
 stp F4 F5 [PL.val (Value.int .i64 (i12+1)),PL.cells [s63.v,Value.bool b64,s65.v,s66.v,Value.bool b67,s68.v]] W62
 [PL.val (Value.int .i64 i12),PL.cells [s6.v,Value.bool b7,s8.v,s9.v,Value.bool b10,s11.v]] W13))∧
 (¬i12<(s3.2:Int)→∀(W69:PW),Ext W13 W69→Post (Value.agg ⟨[s6.v,Value.bool b7,s8.v,s9.v,Value.bool b10,s11.v]⟩) W69)
theorem Bz6 (W0:PW) (M:Nat→Prop) (a0_0:Sl) (a1_0:Sl) (a1_1:Bool) (a1_2:Sl) (a1_3:Sl) (a1_4:Bool) (a1_5:Sl) (a1_6:Sl) (a1_7:Bool) (a1_8:Sl) (a1_9:Sl) (a1_10:Bool) (a1_11:Sl) (a1_12:Sl) (a1_13:Bool) (a1_14:Sl) (a1_15:Sl) (a1_16:Bool) (a1_17:Sl) (Post:Value→PW→Prop) (h:Dg2 W0 M a0_0 a1_0 a1_1 a1_2 a1_3 a1_4 a1_5 a1_6 a1_7 a1_8 a1_9 a1_10 a1_11 a1_12 a1_13 a1_14 a1_15 a1_16 a1_17 Post):Aa0 Tryz.prog 83 [Value.agg #[a0_0.v],Value.agg #[a1_0.v,Value.bool a1_1,a1_2.v,a1_3.v,Value.bool a1_4,a1_5.v,a1_6.v,Value.bool a1_7,a1_8.v,a1_9.v,Value.bool a1_10,a1_11.v,a1_12.v,Value.bool a1_13,a1_14.v,a1_15.v,Value.bool a1_16,a1_17.v]] W0 M Post:=
 Aa3 rfl Aa9 Aa8 Tryz.func83 (cuts:=[]) rfl rfl (Nat.le_of_ble_eq_true rfl) (Eq.mpr (by kernel_rfl) h)
end Go.Proofs.YtahohahjnhfedaaGreatDoor
