/- R16 -/
import Derived.Test.YtokefihiadbkbaaGreatDoorTt
set_option linter.unusedVariables false
set_option linter.unusedSimpArgs false
set_option maxRecDepth 100000
namespace Go.Proofs.YtokefihiadbkbaaGreatDoor
open Go Go.SX
def Gc7 (W0:PW) (M:Nat→Prop) (a0_0:Sl) (a0_1:Bool) (a0_2:Sl) (Post:Value→PW→Prop):Prop:=
 Aa1 Tryz.prog W0 M 49 [.int .i64 2] W0 fun v1 W2=>
 ∃s3:Sl,
 ∃b4:Bool,
 ∃s5:Sl,
 v1 = .agg ⟨[s3.v,.bool b4,s5.v]⟩∧
 Aa1 Tryz.prog W0 M 48 [.agg ⟨[a0_0.v,.bool a0_1,a0_2.v]⟩,.agg ⟨[s3.v,.bool b4,s5.v]⟩] W2 fun v6 W7=>
 ∃s8:Sl,∃b9:Bool,∃s10:Sl,∃b11:Bool,v6 = .tuple ⟨[.agg ⟨[s8.v,.bool b9,s10.v]⟩,.bool b11]⟩∧∀(W12:PW),Ext W7 W12→Post (.agg ⟨[s8.v,.bool b9,s10.v]⟩) W12
theorem Fz1 (W0:PW) (M:Nat→Prop) (a0_0:Sl) (a0_1:Bool) (a0_2:Sl) (Post:Value→PW→Prop) (h:Gc7 W0 M a0_0 a0_1 a0_2 Post):Aa0 Tryz.prog 171 [.agg #[a0_0.v,.bool a0_1,a0_2.v]] W0 M Post:=
 Aa3 rfl Aa9 Aa8 Tryz.func171 (cuts:=[]) rfl rfl (Nat.le_of_ble_eq_true rfl) (Eq.mpr (by kernel_rfl) h)
def Gd1 (W0:PW) (M:Nat→Prop) (a0_0:Sl) (a0_1:Bool) (a0_2:Sl) (a0_3:Sl) (a0_4:Bool) (a0_5:Sl) (Post:Value→PW→Prop):Prop:=
 Aa1 Tryz.prog W0 M 21 [.agg ⟨[a0_0.v,.bool a0_1,a0_2.v]⟩,.agg ⟨[a0_3.v,.bool a0_4,a0_5.v]⟩] W0 fun v1 W2=>
 ∃s3:Sl,
 ∃b4:Bool,
 ∃s5:Sl,
 v1 = .agg ⟨[s3.v,.bool b4,s5.v]⟩∧
 Aa1 Tryz.prog W0 M 171 [.agg ⟨[s3.v,.bool b4,s5.v]⟩] W2 fun v6 W7=>
 ∃s8:Sl,∃b9:Bool,∃s10:Sl,v6 = .agg ⟨[s8.v,.bool b9,s10.v]⟩∧∀(W11:PW),Ext W7 W11→Post (.agg ⟨[s8.v,.bool b9,s10.v]⟩) W11
theorem Ga3 (W0:PW) (M:Nat→Prop) (a0_0:Sl) (a0_1:Bool) (a0_2:Sl) (a0_3:Sl) (a0_4:Bool) (a0_5:Sl) (Post:Value→PW→Prop) (h:Gd1 W0 M a0_0 a0_1 a0_2 a0_3 a0_4 a0_5 Post):Aa0 Tryz.prog 110 [.agg #[a0_0.v,.bool a0_1,a0_2.v,a0_3.v,.bool a0_4,a0_5.v]] W0 M Post:=
 Aa3 rfl Aa9 Aa8 Tryz.func110 (cuts:=[]) rfl rfl (Nat.le_of_ble_eq_true rfl) (Eq.mpr (by kernel_rfl) h)
def Ga4 (W0:PW) (M:Nat→Prop) (a0_0:Sl) (a0_1:Bool) (a0_2:Sl) (a0_3:Sl) (a0_4:Bool) (a0_5:Sl) (a1_0:Sl) (a1_1:Bool) (a1_2:Sl) (a1_3:Sl) (a1_4:Bool) (a1_5:Sl) (Post:Value→PW→Prop):Prop:=
 Aa1 Tryz.prog W0 M 20 [.agg ⟨[a1_0.v,.bool a1_1,a1_2.v]⟩,.agg ⟨[a0_0.v,.bool a0_1,a0_2.v]⟩] W0 fun v1 W2=>
 ∃i3:Int,
 v1 = .int .i64 i3∧
 (i3≤0→
 Aa1 Tryz.prog W0 M 20 [.agg ⟨[a0_3.v,.bool a0_4,a0_5.v]⟩,.agg ⟨[a1_3.v,.bool a1_4,a1_5.v]⟩] W2 fun v4 W5=>
 ∃i6:Int,v4 = .int .i64 i6∧∀(W7:PW),Ext W5 W7→Post (.bool (decide (i6≤0))) W7)∧
 (¬i3≤0→∀(W8:PW),Ext W2 W8→Post (.bool false) W8)
theorem Fy3 (W0:PW) (M:Nat→Prop) (a0_0:Sl) (a0_1:Bool) (a0_2:Sl) (a0_3:Sl) (a0_4:Bool) (a0_5:Sl) (a1_0:Sl) (a1_1:Bool) (a1_2:Sl) (a1_3:Sl) (a1_4:Bool) (a1_5:Sl) (Post:Value→PW→Prop) (h:Ga4 W0 M a0_0 a0_1 a0_2 a0_3 a0_4 a0_5 a1_0 a1_1 a1_2 a1_3 a1_4 a1_5 Post):Aa0 Tryz.prog 41 [.agg #[a0_0.v,.bool a0_1,a0_2.v,a0_3.v,.bool a0_4,a0_5.v],.agg #[a1_0.v,.bool a1_1,a1_2.v,a1_3.v,.bool a1_4,a1_5.v]] W0 M Post:=
 Aa3 rfl Aa9 Aa8 Tryz.func41 (cuts:=[]) rfl rfl (Nat.le_of_ble_eq_true rfl) (Eq.mpr (by kernel_rfl) h)
def Gc6 (W0:PW) (M:Nat→Prop) (a0:Sl) (a1:Int) (Post:Value→PW→Prop):Prop:=
 Aa1 Tryz.prog W0 M 108 [a0.v] W0 fun v1 W2=>
 ∃b3:Bool,
 v1 = .bool b3∧
 ((!b3)=true→∀(W4:PW),Ext W2 W4→Post (.tuple ⟨[.slice none 0 0,.slice none 0 0,.bool false]⟩) W4)∧
 ((!b3)=false→
 (a1<0→∀(W5:PW),Ext W2 W5→Post (.tuple ⟨[.slice none 0 0,.slice none 0 0,.bool false]⟩) W5)∧
 (¬a1<0→
 ((a0.2:Int)≤a1→∀(W6:PW),Ext W2 W6→Post (.tuple ⟨[.slice none 0 0,.slice none 0 0,.bool false]⟩) W6)∧
 (¬(a0.2:Int)≤a1→
 Aa1 Tryz.prog W0 M 109 [a0.v] W2 fun v7 W8=>
 ∃s9:Sl,
 v7=s9.v∧
 Aa1 Tryz.prog W0 M 109 [a0.v] W8 fun v10 W11=>
 ∃s12:Sl,
 v10=s12.v∧
 inB a0 a1∧
 ∃s13:Sl,
 ∃b14:Bool,
 ∃s15:Sl,
 ∃s16:Sl,
 ∃b17:Bool,
 ∃s18:Sl,
 Aa7 W11 a0 6 (Int.toNat a1) 0 [s13.v,.bool b14,s15.v,s16.v,.bool b17,s18.v]∧
 Aa1 Tryz.prog W0 M 110 [.agg ⟨[s13.v,.bool b14,s15.v,s16.v,.bool b17,s18.v]⟩] W11 fun v19 W20=>
 ∃s21:Sl,
 ∃b22:Bool,
 ∃s23:Sl,
 v19 = .agg ⟨[s21.v,.bool b22,s23.v]⟩∧
 inB s9 a1∧
 An9 W0 M s9 (Int.toNat a1*6+3) [s21.v,.bool b22,s23.v] W20 fun(W24:PW)=>
 inB s12 a1∧An9 W0 M s12 (Int.toNat a1*6+0) [s21.v,.bool b22,s23.v] W24 fun(W25:PW)=>∀(W26:PW),Ext W25 W26→Post (.tuple ⟨[s9.v,s12.v,.bool true]⟩) W26)))
theorem Fz2 (W0:PW) (M:Nat→Prop) (a0:Sl) (a1:Int) (Post:Value→PW→Prop) (h:Gc6 W0 M a0 a1 Post):Aa0 Tryz.prog 39 [a0.v,.int .i64 a1] W0 M Post:=
 Aa3 rfl Aa9 Aa8 Tryz.func39 (cuts:=[]) rfl rfl (Nat.le_of_ble_eq_true rfl) (Eq.mpr (by kernel_rfl) h)
def Fx0 (W0:PW) (M:Nat→Prop) (a0:Sl) (Post:Value→PW→Prop):Prop:=
 (a0.1=none→∀(W1:PW),Ext W0 W1→Post (.slice none 0 0) W1)∧
 (¬a0.1=none→∃(l2:List (List Value)),Bf9 W0 6 a0 l2∧(0+List.length l2)*112≤140737488355328∧∀(s3:Sl) (W4:PW),Ext W0 W4→SX.Own W4 69 6 s3 ([] ++ l2)→Fr W0 W0 s3→∀(W5:PW),Ext W4 W5→Post s3.v W5)
theorem Fw9 (W0:PW) (M:Nat→Prop) (a0:Sl) (Post:Value→PW→Prop) (h:Fx0 W0 M a0 Post):Aa0 Tryz.prog 109 [a0.v] W0 M Post:=
 Aa3 rfl Aa9 Aa8 Tryz.func109 (cuts:=[]) rfl rfl (Nat.le_of_ble_eq_true rfl) (Eq.mpr (by kernel_rfl) h)
def Db8 (W0:PW) (M:Nat→Prop) (a0_0:Sl) (a1:Sl) (Post:Value→PW→Prop):Prop:=
 Aa1 Tryz.prog W0 M 108 [a1.v] W0 fun v1 W2=>
 ∃b3:Bool,
 v1 = .bool b3∧
 (b3=true→Aa1 Tryz.prog W0 M 14 [.agg ⟨[a0_0.v]⟩] W2 fun v4 W5=>∃i6:Int,v4 = .int .i64 i6∧∀(W7:PW),Ext W5 W7→Post (.bool (decide (i6≤(a1.2:Int)))) W7)∧
 (b3=false→∀(W8:PW),Ext W2 W8→Post (.bool false) W8)
theorem Bw2 (W0:PW) (M:Nat→Prop) (a0_0:Sl) (a1:Sl) (Post:Value→PW→Prop) (h:Db8 W0 M a0_0 a1 Post):Aa0 Tryz.prog 64 [.agg #[a0_0.v],a1.v] W0 M Post:=
 Aa3 rfl Aa9 Aa8 Tryz.func64 (cuts:=[]) rfl rfl (Nat.le_of_ble_eq_true rfl) (Eq.mpr (by kernel_rfl) h)
end Go.Proofs.YtokefihiadbkbaaGreatDoor
