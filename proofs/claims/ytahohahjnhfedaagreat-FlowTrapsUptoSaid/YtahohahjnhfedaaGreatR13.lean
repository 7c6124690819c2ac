/- R13 -/
import Derived.Test.YtahohahjnhfedaaGreatTt
set_option linter.unusedVariables false
set_option linter.unusedSimpArgs false
set_option maxRecDepth 100000
namespace Go.Proofs.YtahohahjnhfedaaGreat
open Go Go.SX
def Dv4 (W0:PW) (M:Nat→Prop) (a0_0:Sl) (a0_1:Bool) (a0_2:Sl) (a1_0:Sl) (a1_1:Bool) (a1_2:Sl) (Post:Value→PW→Prop):Prop:=
 Aa1 Tryz.prog W0 M 129 [.agg ⟨[a1_0.v,.bool a1_1,a1_2.v]⟩,.agg ⟨[a0_0.v,.bool a0_1,a0_2.v]⟩] W0 fun v1 W2=>
 ∃i3:Int,v1 = .int .i64 i3∧(i3<0→∀(W4:PW),Ext W2 W4→Post (.agg ⟨[a1_0.v,.bool a1_1,a1_2.v]⟩) W4)∧(¬i3<0→∀(W5:PW),Ext W2 W5→Post (.agg ⟨[a0_0.v,.bool a0_1,a0_2.v]⟩) W5)
theorem Cg1 (W0:PW) (M:Nat→Prop) (a0_0:Sl) (a0_1:Bool) (a0_2:Sl) (a1_0:Sl) (a1_1:Bool) (a1_2:Sl) (Post:Value→PW→Prop) (h:Dv4 W0 M a0_0 a0_1 a0_2 a1_0 a1_1 a1_2 Post):Aa0 Tryz.prog 168 [.agg #[a0_0.v,.bool a0_1,a0_2.v],.agg #[a1_0.v,.bool a1_1,a1_2.v]] W0 M Post:=
 Aa3 rfl Aa9 Aa8 Tryz.func168 (cuts:=[]) rfl rfl (Nat.le_of_ble_eq_true rfl) (Eq.mpr (by kernel_rfl) h)
def Ec5 (W0:PW) (M:Nat→Prop) (a0_0:Sl) (a0_1:Bool) (a0_2:Sl) (a1_0:Sl) (a1_1:Bool) (a1_2:Sl) (Post:Value→PW→Prop):Prop:=
 Aa1 Tryz.prog W0 M 129 [.agg ⟨[a1_0.v,.bool a1_1,a1_2.v]⟩,.agg ⟨[a0_0.v,.bool a0_1,a0_2.v]⟩] W0 fun v1 W2=>
 ∃i3:Int,v1 = .int .i64 i3∧(0<i3→∀(W4:PW),Ext W2 W4→Post (.agg ⟨[a1_0.v,.bool a1_1,a1_2.v]⟩) W4)∧(¬0<i3→∀(W5:PW),Ext W2 W5→Post (.agg ⟨[a0_0.v,.bool a0_1,a0_2.v]⟩) W5)
theorem Ck9 (W0:PW) (M:Nat→Prop) (a0_0:Sl) (a0_1:Bool) (a0_2:Sl) (a1_0:Sl) (a1_1:Bool) (a1_2:Sl) (Post:Value→PW→Prop) (h:Ec5 W0 M a0_0 a0_1 a0_2 a1_0 a1_1 a1_2 Post):Aa0 Tryz.prog 169 [.agg #[a0_0.v,.bool a0_1,a0_2.v],.agg #[a1_0.v,.bool a1_1,a1_2.v]] W0 M Post:=
 Aa3 rfl Aa9 Aa8 Tryz.func169 (cuts:=[]) rfl rfl (Nat.le_of_ble_eq_true rfl) (Eq.mpr (by kernel_rfl) h)
def Cw2 (W0:PW) (M:Nat→Prop) (a0_0:Sl) (a0_1:Bool) (a0_2:Sl) (a1_0:Sl) (a1_1:Bool) (a1_2:Sl) (Post:Value→PW→Prop):Prop:=
 Aa1 Tryz.prog W0 M 168 [.agg ⟨[a0_0.v,.bool a0_1,a0_2.v]⟩,.agg ⟨[a1_0.v,.bool a1_1,a1_2.v]⟩] W0 fun v1 W2=>
 ∃s3:Sl,
 ∃b4:Bool,
 ∃s5:Sl,
 v1 = .agg ⟨[s3.v,.bool b4,s5.v]⟩∧
 Aa1 Tryz.prog W0 M 169 [.agg ⟨[a0_0.v,.bool a0_1,a0_2.v]⟩,.agg ⟨[a1_0.v,.bool a1_1,a1_2.v]⟩] W2 fun v6 W7=>
 ∃s8:Sl,∃b9:Bool,∃s10:Sl,v6 = .agg ⟨[s8.v,.bool b9,s10.v]⟩∧∀(W11:PW),Ext W7 W11→Post (.agg ⟨[s3.v,.bool b4,s5.v,s8.v,.bool b9,s10.v]⟩) W11
theorem Bv4 (W0:PW) (M:Nat→Prop) (a0_0:Sl) (a0_1:Bool) (a0_2:Sl) (a1_0:Sl) (a1_1:Bool) (a1_2:Sl) (Post:Value→PW→Prop) (h:Cw2 W0 M a0_0 a0_1 a0_2 a1_0 a1_1 a1_2 Post):Aa0 Tryz.prog 117 [.agg #[a0_0.v,.bool a0_1,a0_2.v],.agg #[a1_0.v,.bool a1_1,a1_2.v]] W0 M Post:=
 Aa3 rfl Aa9 Aa8 Tryz.func117 (cuts:=[]) rfl rfl (Nat.le_of_ble_eq_true rfl) (Eq.mpr (by kernel_rfl) h)
def Ec6 (W0:PW) (M:Nat→Prop) (a0_0:Sl) (a0_1:Bool) (a0_2:Sl) (a0_3:Sl) (a0_4:Bool) (a0_5:Sl) (a1_0:Sl) (a1_1:Bool) (a1_2:Sl) (a1_3:Sl) (a1_4:Bool) (a1_5:Sl) (Post:Value→PW→Prop):Prop:=
 Aa1 Tryz.prog W0 M 168 [.agg ⟨[a0_0.v,.bool a0_1,a0_2.v]⟩,.agg ⟨[a1_0.v,.bool a1_1,a1_2.v]⟩] W0 fun v1 W2=>
 ∃s3:Sl,
 ∃b4:Bool,
 ∃s5:Sl,
 v1 = .agg ⟨[s3.v,.bool b4,s5.v]⟩∧
 Aa1 Tryz.prog W0 M 169 [.agg ⟨[a0_3.v,.bool a0_4,a0_5.v]⟩,.agg ⟨[a1_3.v,.bool a1_4,a1_5.v]⟩] W2 fun v6 W7=>
 ∃s8:Sl,∃b9:Bool,∃s10:Sl,v6 = .agg ⟨[s8.v,.bool b9,s10.v]⟩∧∀(W11:PW),Ext W7 W11→Post (.agg ⟨[s3.v,.bool b4,s5.v,s8.v,.bool b9,s10.v]⟩) W11
theorem Ck6 (W0:PW) (M:Nat→Prop) (a0_0:Sl) (a0_1:Bool) (a0_2:Sl) (a0_3:Sl) (a0_4:Bool) (a0_5:Sl) (a1_0:Sl) (a1_1:Bool) (a1_2:Sl) (a1_3:Sl) (a1_4:Bool) (a1_5:Sl) (Post:Value→PW→Prop) (h:Ec6 W0 M a0_0 a0_1 a0_2 a0_3 a0_4 a0_5 a1_0 a1_1 a1_2 a1_3 a1_4 a1_5 Post):Aa0 Tryz.prog 128 [.agg #[a0_0.v,.bool a0_1,a0_2.v,a0_3.v,.bool a0_4,a0_5.v],.agg #[a1_0.v,.bool a1_1,a1_2.v,a1_3.v,.bool a1_4,a1_5.v]] W0 M Post:=
 Aa3 rfl Aa9 Aa8 Tryz.func128 (cuts:=[]) rfl rfl (Nat.le_of_ble_eq_true rfl) (Eq.mpr (by kernel_rfl) h)
def En0 (W0:PW) (M:Nat→Prop) (a0_0:Sl) (a0_1:Bool) (a0_2:Sl) (a0_3:Sl) (a0_4:Bool) (a0_5:Sl) (a1_0:Sl) (a1_1:Bool) (a1_2:Sl) (a1_3:Sl) (a1_4:Bool) (a1_5:Sl) (Post:Value→PW→Prop):Prop:=
 Aa1 Tryz.prog W0 M 116 [.agg ⟨[a0_0.v,.bool a0_1,a0_2.v]⟩,.agg ⟨[a1_0.v,.bool a1_1,a1_2.v]⟩] W0 fun v1 W2=>
 ∃s3:Sl,
 ∃b4:Bool,
 ∃s5:Sl,
 v1 = .agg ⟨[s3.v,.bool b4,s5.v]⟩∧
 Aa1 Tryz.prog W0 M 116 [.agg ⟨[a0_3.v,.bool a0_4,a0_5.v]⟩,.agg ⟨[a1_3.v,.bool a1_4,a1_5.v]⟩] W2 fun v6 W7=>
 ∃s8:Sl,∃b9:Bool,∃s10:Sl,v6 = .agg ⟨[s8.v,.bool b9,s10.v]⟩∧∀(W11:PW),Ext W7 W11→Post (.agg ⟨[s3.v,.bool b4,s5.v,s8.v,.bool b9,s10.v]⟩) W11
theorem Cs4 (W0:PW) (M:Nat→Prop) (a0_0:Sl) (a0_1:Bool) (a0_2:Sl) (a0_3:Sl) (a0_4:Bool) (a0_5:Sl) (a1_0:Sl) (a1_1:Bool) (a1_2:Sl) (a1_3:Sl) (a1_4:Bool) (a1_5:Sl) (Post:Value→PW→Prop) (h:En0 W0 M a0_0 a0_1 a0_2 a0_3 a0_4 a0_5 a1_0 a1_1 a1_2 a1_3 a1_4 a1_5 Post):Aa0 Tryz.prog 44 [.agg #[a0_0.v,.bool a0_1,a0_2.v,a0_3.v,.bool a0_4,a0_5.v],.agg #[a1_0.v,.bool a1_1,a1_2.v,a1_3.v,.bool a1_4,a1_5.v]] W0 M Post:=
 Aa3 rfl Aa9 Aa8 Tryz.func44 (cuts:=[]) rfl rfl (Nat.le_of_ble_eq_true rfl) (Eq.mpr (by kernel_rfl) h)
def Er3 (W0:PW) (M:Nat→Prop) (a0_0:Sl) (a0_1:Bool) (a0_2:Sl) (a0_3:Sl) (a0_4:Bool) (a0_5:Sl) (a1_0:Sl) (a1_1:Bool) (a1_2:Sl) (a1_3:Sl) (a1_4:Bool) (a1_5:Sl) (Post:Value→PW→Prop):Prop:=
 Aa1 Tryz.prog W0 M 42 [.agg ⟨[a0_0.v,.bool a0_1,a0_2.v]⟩,.agg ⟨[a1_0.v,.bool a1_1,a1_2.v]⟩] W0 fun v1 W2=>
 ∃s3:Sl,
 ∃b4:Bool,
 ∃s5:Sl,
 v1 = .agg ⟨[s3.v,.bool b4,s5.v]⟩∧
 Aa1 Tryz.prog W0 M 42 [.agg ⟨[a0_3.v,.bool a0_4,a0_5.v]⟩,.agg ⟨[a1_3.v,.bool a1_4,a1_5.v]⟩] W2 fun v6 W7=>
 ∃s8:Sl,
 ∃b9:Bool,
 ∃s10:Sl,
 v6 = .agg ⟨[s8.v,.bool b9,s10.v]⟩∧
 Aa1 Tryz.prog W0 M 117 [.agg ⟨[s3.v,.bool b4,s5.v]⟩,.agg ⟨[s8.v,.bool b9,s10.v]⟩] W7 fun v11 W12=>
 ∃s13:Sl,
 ∃b14:Bool,
 ∃s15:Sl,
 ∃s16:Sl,
 ∃b17:Bool,
 ∃s18:Sl,
 v11 = .agg ⟨[s13.v,.bool b14,s15.v,s16.v,.bool b17,s18.v]⟩∧
 Aa1 Tryz.prog W0 M 42 [.agg ⟨[a0_0.v,.bool a0_1,a0_2.v]⟩,.agg ⟨[a1_3.v,.bool a1_4,a1_5.v]⟩] W12 fun v19 W20=>
 ∃s21:Sl,
 ∃b22:Bool,
 ∃s23:Sl,
 v19 = .agg ⟨[s21.v,.bool b22,s23.v]⟩∧
 Aa1 Tryz.prog W0 M 42 [.agg ⟨[a0_3.v,.bool a0_4,a0_5.v]⟩,.agg ⟨[a1_0.v,.bool a1_1,a1_2.v]⟩] W20 fun v24 W25=>
 ∃s26:Sl,
 ∃b27:Bool,
 ∃s28:Sl,
 v24 = .agg ⟨[s26.v,.bool b27,s28.v]⟩∧
 Aa1 Tryz.prog W0 M 117 [.agg ⟨[s21.v,.bool b22,s23.v]⟩,.agg ⟨[s26.v,.bool b27,s28.v]⟩] W25 fun v29 W30=>
 ∃s31:Sl,
 ∃b32:Bool,
 ∃s33:Sl,
 ∃s34:Sl,
 ∃b35:Bool,
 ∃s36:Sl,
 v29 = .agg ⟨[s31.v,.bool b32,s33.v,s34.v,.bool b35,s36.v]⟩∧
 Aa1 Tryz.prog W0 M 128 [.agg ⟨[s13.v,.bool b14,s15.v,s16.v,.bool b17,s18.v]⟩,.agg ⟨[s31.v,.bool b32,s33.v,s34.v,.bool b35,s36.v]⟩] W30
 fun v37 W38=>
 ∃s39:Sl,
 ∃b40:Bool,
 ∃s41:Sl,
 ∃s42:Sl,
 ∃b43:Bool,
 ∃s44:Sl,
 v37 = .agg ⟨[s39.v,.bool b40,s41.v,s42.v,.bool b43,s44.v]⟩∧
 ∀(W45:PW),Ext W38 W45→Post (.agg ⟨[s39.v,.bool b40,s41.v,s42.v,.bool b43,s44.v]⟩) W45
theorem Cy7 (W0:PW) (M:Nat→Prop) (a0_0:Sl) (a0_1:Bool) (a0_2:Sl) (a0_3:Sl) (a0_4:Bool) (a0_5:Sl) (a1_0:Sl) (a1_1:Bool) (a1_2:Sl) (a1_3:Sl) (a1_4:Bool) (a1_5:Sl) (Post:Value→PW→Prop) (h:Er3 W0 M a0_0 a0_1 a0_2 a0_3 a0_4 a0_5 a1_0 a1_1 a1_2 a1_3 a1_4 a1_5 Post):Aa0 Tryz.prog 55 [.agg #[a0_0.v,.bool a0_1,a0_2.v,a0_3.v,.bool a0_4,a0_5.v],.agg #[a1_0.v,.bool a1_1,a1_2.v,a1_3.v,.bool a1_4,a1_5.v]] W0 M Post:=
 Aa3 rfl Aa9 Aa8 Tryz.func55 (cuts:=[]) rfl rfl (Nat.le_of_ble_eq_true rfl) (Eq.mpr (by kernel_rfl) h)
def Hv4 (W0:PW) (M:Nat→Prop) (a0_0:Sl) (a0_1:Bool) (a0_2:Sl) (a0_3:Sl) (a0_4:Bool) (a0_5:Sl) (a1_0:Sl) (a1_1:Bool) (a1_2:Sl) (Post:Value→PW→Prop):Prop:=
 Aa1 Tryz.prog W0 M 42 [.agg ⟨[a0_0.v,.bool a0_1,a0_2.v]⟩,.agg ⟨[a1_0.v,.bool a1_1,a1_2.v]⟩] W0 fun v1 W2=>
 ∃s3:Sl,
 ∃b4:Bool,
 ∃s5:Sl,
 v1 = .agg ⟨[s3.v,.bool b4,s5.v]⟩∧
 Aa1 Tryz.prog W0 M 42 [.agg ⟨[a0_3.v,.bool a0_4,a0_5.v]⟩,.agg ⟨[a1_0.v,.bool a1_1,a1_2.v]⟩] W2 fun v6 W7=>
 ∃s8:Sl,
 ∃b9:Bool,
 ∃s10:Sl,
 v6 = .agg ⟨[s8.v,.bool b9,s10.v]⟩∧
 Aa1 Tryz.prog W0 M 117 [.agg ⟨[s3.v,.bool b4,s5.v]⟩,.agg ⟨[s8.v,.bool b9,s10.v]⟩] W7 fun v11 W12=>
 ∃s13:Sl,
 ∃b14:Bool,
 ∃s15:Sl,
 ∃s16:Sl,
 ∃b17:Bool,∃s18:Sl,v11 = .agg ⟨[s13.v,.bool b14,s15.v,s16.v,.bool b17,s18.v]⟩∧∀(W19:PW),Ext W12 W19→Post (.agg ⟨[s13.v,.bool b14,s15.v,s16.v,.bool b17,s18.v]⟩) W19
theorem Hu3 (W0:PW) (M:Nat→Prop) (a0_0:Sl) (a0_1:Bool) (a0_2:Sl) (a0_3:Sl) (a0_4:Bool) (a0_5:Sl) (a1_0:Sl) (a1_1:Bool) (a1_2:Sl) (Post:Value→PW→Prop) (h:Hv4 W0 M a0_0 a0_1 a0_2 a0_3 a0_4 a0_5 a1_0 a1_1 a1_2 Post):Aa0 Tryz.prog 45 [.agg #[a0_0.v,.bool a0_1,a0_2.v,a0_3.v,.bool a0_4,a0_5.v],.agg #[a1_0.v,.bool a1_1,a1_2.v]] W0 M Post:=
 Aa3 rfl Aa9 Aa8 Tryz.func45 (cuts:=[]) rfl rfl (Nat.le_of_ble_eq_true rfl) (Eq.mpr (by kernel_rfl) h)
def Fb4 (W0:PW) (M:Nat→Prop) (a0_0:Sl) (a0_1:Bool) (a0_2:Sl) (Post:Value→PW→Prop):Prop:=
 ∀(W1:PW),Ext W0 W1→Post (.agg ⟨[a0_0.v,.bool a0_1,a0_2.v,a0_0.v,.bool a0_1,a0_2.v]⟩) W1
theorem Dk8 (W0:PW) (M:Nat→Prop) (a0_0:Sl) (a0_1:Bool) (a0_2:Sl) (Post:Value→PW→Prop) (h:Fb4 W0 M a0_0 a0_1 a0_2 Post):Aa0 Tryz.prog 163 [.agg #[a0_0.v,.bool a0_1,a0_2.v]] W0 M Post:=
 Aa3 rfl Aa9 Aa8 Tryz.func163 (cuts:=[]) rfl rfl (Nat.le_of_ble_eq_true rfl) (Eq.mpr (by kernel_rfl) h)
def Da1 (W0:PW) (M:Nat→Prop) (a0_0:Sl) (a0_1:Bool) (a0_2:Sl) (a0_3:Sl) (a0_4:Bool) (a0_5:Sl) (a1:Int) (Post:Value→PW→Prop):Prop:=
 Aa1 Tryz.prog W0 M (199:Nat) [Value.agg ⟨[a0_0.v,Value.bool a0_1,a0_2.v]⟩,Value.int IntKind.i64 a1] W0 fun v1 W2=>
 ∃s3:Sl,
 ∃b4:Bool,
 ∃s5:Sl,
 v1=Value.agg ⟨[s3.v,Value.bool b4,s5.v]⟩∧
 Aa1 Tryz.prog W0 M (199:Nat) [Value.agg ⟨[a0_3.v,Value.bool a0_4,a0_5.v]⟩,Value.int IntKind.i64 a1] W2 fun v6 W7=>
 ∃s8:Sl,
 ∃b9:Bool,
 ∃s10:Sl,
 v6=Value.agg ⟨[s8.v,Value.bool b9,s10.v]⟩∧
 Aa1 Tryz.prog W0 M (117:Nat) [Value.agg ⟨[s3.v,Value.bool b4,s5.v]⟩,Value.agg ⟨[s8.v,Value.bool b9,s10.v]⟩] W7 fun v11 W12=>
 ∃s13:Sl,
 ∃b14:Bool,
 ∃s15:Sl,
 ∃s16:Sl,
 ∃b17:Bool,
 ∃s18:Sl,
 v11=Value.agg ⟨[s13.v,Value.bool b14,s15.v,s16.v,Value.bool b17,s18.v]⟩∧
 ((0:Int)<mn (mx a1 (0:Int)) (255:Int)→
 (2:Int)≠(0:Int)∧
 (Int.tmod (mn (mx a1 (0:Int)) (255:Int)) (2:Int)=(0:Int)→
 Aa1 Tryz.prog W0 M (200:Nat) [Value.agg ⟨[a0_0.v,Value.bool a0_1,a0_2.v,a0_3.v,Value.bool a0_4,a0_5.v]⟩,Value.agg ⟨[Value.slice none (0:Nat) (0:Nat),Value.bool false,Value.slice none (0:Nat) (0:Nat)]⟩] W12
 fun v19 W20=>
 ∃b21:Bool,
 v19=Value.bool b21∧
 (b21=true→∀(W22:PW),Ext W20 W22→Post (Value.agg ⟨[Value.slice none (0:Nat) (0:Nat),Value.bool false,Value.slice none (0:Nat) (0:Nat),s16.v,Value.bool b17,s18.v]⟩) W22)∧
 (b21=false→∀(W23:PW),Ext W20 W23→Post (Value.agg ⟨[s13.v,Value.bool b14,s15.v,s16.v,Value.bool b17,s18.v]⟩) W23))∧
 (¬Int.tmod (mn (mx a1 (0:Int)) (255:Int)) (2:Int)=(0:Int)→∀(W24:PW),Ext W12 W24→Post (Value.agg ⟨[s13.v,Value.bool b14,s15.v,s16.v,Value.bool b17,s18.v]⟩) W24))∧
 (¬(0:Int)<mn (mx a1 (0:Int)) (255:Int)→∀(W25:PW),Ext W12 W25→Post (Value.agg ⟨[s13.v,Value.bool b14,s15.v,s16.v,Value.bool b17,s18.v]⟩) W25)
theorem Cz8 (W0:PW) (M:Nat→Prop) (a0_0:Sl) (a0_1:Bool) (a0_2:Sl) (a0_3:Sl) (a0_4:Bool) (a0_5:Sl) (a1:Int) (Post:Value→PW→Prop) (h:Da1 W0 M a0_0 a0_1 a0_2 a0_3 a0_4 a0_5 a1 Post):Aa0 Tryz.prog 164 [Value.agg #[a0_0.v,Value.bool a0_1,a0_2.v,a0_3.v,Value.bool a0_4,a0_5.v],Value.int IntKind.i64 a1] W0 M Post:=
 Aa3 rfl Aa9 Aa8 Tryz.func164 (cuts:=[]) rfl rfl (Nat.le_of_ble_eq_true rfl) (Eq.mpr (by kernel_rfl) h)
def Eq3 (W0:PW) (M:Nat→Prop) (a0_0:Sl) (a0_1:Bool) (a0_2:Sl) (a0_3:Sl) (a0_4:Bool) (a0_5:Sl) (a1_0:Sl) (a1_1:Bool) (a1_2:Sl) (Post:Value→PW→Prop):Prop:=
 Aa1 Tryz.prog W0 M 129 [.agg ⟨[a0_0.v,.bool a0_1,a0_2.v]⟩,.agg ⟨[a1_0.v,.bool a1_1,a1_2.v]⟩] W0 fun v1 W2=>
 ∃i3:Int,
 v1 = .int .i64 i3∧
 (i3≤0→
 Aa1 Tryz.prog W0 M 129 [.agg ⟨[a1_0.v,.bool a1_1,a1_2.v]⟩,.agg ⟨[a0_3.v,.bool a0_4,a0_5.v]⟩] W2 fun v4 W5=>
 ∃i6:Int,v4 = .int .i64 i6∧∀(W7:PW),Ext W5 W7→Post (.bool (decide (i6≤0))) W7)∧
 (¬i3≤0→∀(W8:PW),Ext W2 W8→Post (.bool false) W8)
theorem Cu8 (W0:PW) (M:Nat→Prop) (a0_0:Sl) (a0_1:Bool) (a0_2:Sl) (a0_3:Sl) (a0_4:Bool) (a0_5:Sl) (a1_0:Sl) (a1_1:Bool) (a1_2:Sl) (Post:Value→PW→Prop) (h:Eq3 W0 M a0_0 a0_1 a0_2 a0_3 a0_4 a0_5 a1_0 a1_1 a1_2 Post):Aa0 Tryz.prog 200 [.agg #[a0_0.v,.bool a0_1,a0_2.v,a0_3.v,.bool a0_4,a0_5.v],.agg #[a1_0.v,.bool a1_1,a1_2.v]] W0 M Post:=
 Aa3 rfl Aa9 Aa8 Tryz.func200 (cuts:=[]) rfl rfl (Nat.le_of_ble_eq_true rfl) (Eq.mpr (by kernel_rfl) h)
def Eh2 (W0:PW) (M:Nat→Prop) (a0_0:Sl) (a0_1:Bool) (a0_2:Sl) (a1_0:Sl) (a1_1:Bool) (a1_2:Sl) (Post:Value→PW→Prop):Prop:=
 Aa1 Tryz.prog W0 M 129 [.agg ⟨[a0_0.v,.bool a0_1,a0_2.v]⟩,.agg ⟨[a1_0.v,.bool a1_1,a1_2.v]⟩] W0 fun v1 W2=>
 ∃i3:Int,
 v1 = .int .i64 i3∧
 (0<i3→
 ∀(W4:PW),Ext W2 W4→Post (.tuple ⟨[.agg ⟨[.slice none 0 0,.bool false,.slice none 0 0,.slice none 0 0,.bool false,.slice none 0 0]⟩,.bool false]⟩) W4)∧
 (¬0<i3→∀(W5:PW),Ext W2 W5→Post (.tuple ⟨[.agg ⟨[a0_0.v,.bool a0_1,a0_2.v,a1_0.v,.bool a1_1,a1_2.v]⟩,.bool true]⟩) W5)
theorem Ct1 (W0:PW) (M:Nat→Prop) (a0_0:Sl) (a0_1:Bool) (a0_2:Sl) (a1_0:Sl) (a1_1:Bool) (a1_2:Sl) (Post:Value→PW→Prop) (h:Eh2 W0 M a0_0 a0_1 a0_2 a1_0 a1_1 a1_2 Post):Aa0 Tryz.prog 161 [.agg #[a0_0.v,.bool a0_1,a0_2.v],.agg #[a1_0.v,.bool a1_1,a1_2.v]] W0 M Post:=
 Aa3 rfl Aa9 Aa8 Tryz.func161 (cuts:=[]) rfl rfl (Nat.le_of_ble_eq_true rfl) (Eq.mpr (by kernel_rfl) h)
def Dm6 (W0:PW) (M:Nat→Prop) (a0_0:ByteArray) (a0_1:ByteArray) (Post:Value→PW→Prop):Prop:=
 Aa1 Tryz.prog W0 M 29 [.string a0_0] W0 fun v1 W2=>
 ∃s3:Sl,
 ∃b4:Bool,
 ∃s5:Sl,
 ∃i6:Int,
 v1 = .tuple ⟨[.agg ⟨[s3.v,.bool b4,s5.v]⟩,.int .i64 i6]⟩∧
 (i6≠0→
 ∀(W7:PW),Ext W2 W7→Post (.tuple ⟨[.agg ⟨[.slice none 0 0,.bool false,.slice none 0 0,.slice none 0 0,.bool false,.slice none 0 0]⟩,.int .i64 i6]⟩) W7)∧
 (¬i6≠0→
 Aa1 Tryz.prog W0 M 29 [.string a0_1] W2 fun v8 W9=>
 ∃s10:Sl,
 ∃b11:Bool,
 ∃s12:Sl,
 ∃i13:Int,
 v8 = .tuple ⟨[.agg ⟨[s10.v,.bool b11,s12.v]⟩,.int .i64 i13]⟩∧
 (i13≠0→
 ∀(W14:PW),
 Ext W9 W14→
 Post (.tuple ⟨[.agg ⟨[.slice none 0 0,.bool false,.slice none 0 0,.slice none 0 0,.bool false,.slice none 0 0]⟩,.int .i64 i13]⟩) W14)∧
 (¬i13≠0→
 Aa1 Tryz.prog W0 M 161 [.agg ⟨[s3.v,.bool b4,s5.v]⟩,.agg ⟨[s10.v,.bool b11,s12.v]⟩] W9 fun v15 W16=>
 ∃s17:Sl,
 ∃b18:Bool,
 ∃s19:Sl,
 ∃s20:Sl,
 ∃b21:Bool,
 ∃s22:Sl,
 ∃b23:Bool,
 v15 = .tuple ⟨[.agg ⟨[s17.v,.bool b18,s19.v,s20.v,.bool b21,s22.v]⟩,.bool b23]⟩∧
 ((!b23)=true→
 ∀(W24:PW),
 Ext W16 W24→
 Post
 (.tuple
 ⟨[.agg ⟨[.slice none 0 0,.bool false,.slice none 0 0,.slice none 0 0,.bool false,.slice none 0 0]⟩,.int .i64 1]⟩)
 W24)∧
 ((!b23)=false→∀(W25:PW),Ext W16 W25→Post (.tuple ⟨[.agg ⟨[s17.v,.bool b18,s19.v,s20.v,.bool b21,s22.v]⟩,.int .i64 0]⟩) W25)))
theorem Bz8 (W0:PW) (M:Nat→Prop) (a0_0:ByteArray) (a0_1:ByteArray) (Post:Value→PW→Prop) (h:Dm6 W0 M a0_0 a0_1 Post):Aa0 Tryz.prog 107 [.agg #[.string a0_0,.string a0_1]] W0 M Post:=
 Aa3 rfl Aa9 Aa8 Tryz.func107 (cuts:=[]) rfl rfl (Nat.le_of_ble_eq_true rfl) (Eq.mpr (by kernel_rfl) h)
def Dd6 (W0:PW) (M:Nat→Prop) (a0_0:Bool) (a0_1:Sl) (a0_2:Sl) (Post:Value→PW→Prop):Prop:=
 ∀(W1:PW),Ext W0 W1→Post (.agg ⟨[.bool a0_0,a0_1.v,a0_2.v,.bool a0_0,a0_1.v,a0_2.v]⟩) W1
theorem Cd3 (W0:PW) (M:Nat→Prop) (a0_0:Bool) (a0_1:Sl) (a0_2:Sl) (Post:Value→PW→Prop) (h:Dd6 W0 M a0_0 a0_1 a0_2 Post):Aa0 Tryz.prog 47 [.agg #[.bool a0_0,a0_1.v,a0_2.v]] W0 M Post:=
 Aa3 rfl Aa9 Aa8 Tryz.func47 (cuts:=[]) rfl rfl (Nat.le_of_ble_eq_true rfl) (Eq.mpr (by kernel_rfl) h)
def Ch3 (W0:PW) (M:Nat→Prop) (a0_0:Bool) (a0_1:Sl) (a0_2:Sl) (a0_3:Bool) (a0_4:Sl) (a0_5:Sl) (a1_0:Bool) (a1_1:Sl) (a1_2:Sl) (a1_3:Bool) (a1_4:Sl) (a1_5:Sl) (Post:Value→PW→Prop):Prop:=
 Aa1 Tryz.prog W0 M 126 [.agg ⟨[.bool a0_0,a0_1.v,a0_2.v]⟩,.agg ⟨[.bool a1_0,a1_1.v,a1_2.v]⟩] W0 fun v1 W2=>
 ∃b3:Bool,
 ∃s4:Sl,
 ∃s5:Sl,
 v1 = .agg ⟨[.bool b3,s4.v,s5.v]⟩∧
 Aa1 Tryz.prog W0 M 126 [.agg ⟨[.bool a0_3,a0_4.v,a0_5.v]⟩,.agg ⟨[.bool a1_3,a1_4.v,a1_5.v]⟩] W2 fun v6 W7=>
 ∃b8:Bool,∃s9:Sl,∃s10:Sl,v6 = .agg ⟨[.bool b8,s9.v,s10.v]⟩∧∀(W11:PW),Ext W7 W11→Post (.agg ⟨[.bool b3,s4.v,s5.v,.bool b8,s9.v,s10.v]⟩) W11
theorem Bm5 (W0:PW) (M:Nat→Prop) (a0_0:Bool) (a0_1:Sl) (a0_2:Sl) (a0_3:Bool) (a0_4:Sl) (a0_5:Sl) (a1_0:Bool) (a1_1:Sl) (a1_2:Sl) (a1_3:Bool) (a1_4:Sl) (a1_5:Sl) (Post:Value→PW→Prop) (h:Ch3 W0 M a0_0 a0_1 a0_2 a0_3 a0_4 a0_5 a1_0 a1_1 a1_2 a1_3 a1_4 a1_5 Post):Aa0 Tryz.prog 51 [.agg #[.bool a0_0,a0_1.v,a0_2.v,.bool a0_3,a0_4.v,a0_5.v],.agg #[.bool a1_0,a1_1.v,a1_2.v,.bool a1_3,a1_4.v,a1_5.v]] W0 M Post:=
 Aa3 rfl Aa9 Aa8 Tryz.func51 (cuts:=[]) rfl rfl (Nat.le_of_ble_eq_true rfl) (Eq.mpr (by kernel_rfl) h)
def Co2 (W0:PW) (M:Nat→Prop) (a0_0:Bool) (a0_1:Sl) (a0_2:Sl) (a0_3:Bool) (a0_4:Sl) (a0_5:Sl) (a1_0:Bool) (a1_1:Sl) (a1_2:Sl) (a1_3:Bool) (a1_4:Sl) (a1_5:Sl) (Post:Value→PW→Prop):Prop:=
 Aa1 Tryz.prog W0 M 49 [.agg ⟨[.bool a0_0,a0_1.v,a0_2.v]⟩,.agg ⟨[.bool a1_0,a1_1.v,a1_2.v]⟩] W0 fun v1 W2=>
 ∃b3:Bool,
 ∃s4:Sl,
 ∃s5:Sl,
 v1 = .agg ⟨[.bool b3,s4.v,s5.v]⟩∧
 Aa1 Tryz.prog W0 M 49 [.agg ⟨[.bool a0_0,a0_1.v,a0_2.v]⟩,.agg ⟨[.bool a1_3,a1_4.v,a1_5.v]⟩] W2 fun v6 W7=>
 ∃b8:Bool,
 ∃s9:Sl,
 ∃s10:Sl,
 v6 = .agg ⟨[.bool b8,s9.v,s10.v]⟩∧
 Aa1 Tryz.prog W0 M 49 [.agg ⟨[.bool a0_3,a0_4.v,a0_5.v]⟩,.agg ⟨[.bool a1_0,a1_1.v,a1_2.v]⟩] W7 fun v11 W12=>
 ∃b13:Bool,
 ∃s14:Sl,
 ∃s15:Sl,
 v11 = .agg ⟨[.bool b13,s14.v,s15.v]⟩∧
 Aa1 Tryz.prog W0 M 49 [.agg ⟨[.bool a0_3,a0_4.v,a0_5.v]⟩,.agg ⟨[.bool a1_3,a1_4.v,a1_5.v]⟩] W12 fun v16 W17=>
 ∃b18:Bool,
 ∃s19:Sl,
 ∃s20:Sl,
 v16 = .agg ⟨[.bool b18,s19.v,s20.v]⟩∧
 ∀(s21:Sl) (W22:PW),
 Ext W17 W22→
 SX.Own W22 39 3 s21 [[.bool b3,s4.v,s5.v],[.bool b8,s9.v,s10.v],[.bool b13,s14.v,s15.v],[.bool b18,s19.v,s20.v]]→
 Fr W0 W17 s21→
 Aa1 Tryz.prog W0 M 131 [s21.v] W22 fun v23 W24=>
 ∃b25:Bool,
 ∃s26:Sl,
 ∃s27:Sl,
 ∃b28:Bool,
 ∃s29:Sl,
 ∃s30:Sl,v23 = .agg ⟨[.bool b25,s26.v,s27.v,.bool b28,s29.v,s30.v]⟩∧∀(W31:PW),Ext W24 W31→Post (.agg ⟨[.bool b25,s26.v,s27.v,.bool b28,s29.v,s30.v]⟩) W31
theorem Bn0 (W0:PW) (M:Nat→Prop) (a0_0:Bool) (a0_1:Sl) (a0_2:Sl) (a0_3:Bool) (a0_4:Sl) (a0_5:Sl) (a1_0:Bool) (a1_1:Sl) (a1_2:Sl) (a1_3:Bool) (a1_4:Sl) (a1_5:Sl) (Post:Value→PW→Prop) (h:Co2 W0 M a0_0 a0_1 a0_2 a0_3 a0_4 a0_5 a1_0 a1_1 a1_2 a1_3 a1_4 a1_5 Post):Aa0 Tryz.prog 58 [.agg #[.bool a0_0,a0_1.v,a0_2.v,.bool a0_3,a0_4.v,a0_5.v],.agg #[.bool a1_0,a1_1.v,a1_2.v,.bool a1_3,a1_4.v,a1_5.v]] W0 M Post:=
 Aa3 rfl Aa9 Aa8 Tryz.func58 (cuts:=[]) rfl rfl (Nat.le_of_ble_eq_true rfl) (Eq.mpr (by kernel_rfl) h)
def Dl4 (W0:PW) (M:Nat→Prop) (a0:Sl) (Post:Value→PW→Prop):Prop:=
 inB a0 0∧
 ∃b1:Bool,
 ∃s2:Sl,
 ∃s3:Sl,
 Aa7 W0 a0 3 0 0 [.bool b1,s2.v,s3.v]∧
 inB a0 0∧
 ∃b4:Bool,
 ∃s5:Sl,
 ∃s6:Sl,
 Aa7 W0 a0 3 0 0 [.bool b4,s5.v,s6.v]∧
 ∃(F7:List PL→PW→Prop),
 ∃(F8:List PL→PW→Nat),
 F7 [.val (.int .i64 1),.cells [.bool b1,s2.v,s3.v,.bool b4,s5.v,s6.v]] W0∧
 ∀(b9:Bool) (s10 s11:Sl) (b12:Bool) (s13 s14:Sl) (i15:Int) (W16:PW),
 F7 [.val (.int .i64 i15),.cells [.bool b9,s10.v,s11.v,.bool b12,s13.v,s14.v]] W16→
 (i15<(a0.2:Int)→
 inB a0 i15∧
 ∃b17:Bool,
 ∃s18:Sl,
 ∃s19:Sl,
 Aa7 W16 a0 3 (Int.toNat i15) 0 [.bool b17,s18.v,s19.v]∧
 Aa1 Tryz.prog W0 M 130 [.agg ⟨[.bool b17,s18.v,s19.v]⟩,.agg ⟨[.bool b9,s10.v,s11.v]⟩] W16 fun v20 W21=>
 ∃i22:Int,
 v20 = .int .i64 i22∧
 (i22<0→
 inB a0 i15∧
 ∃b23:Bool,
 ∃s24:Sl,
 ∃s25:Sl,
 Aa7 W21 a0 3 (Int.toNat i15) 0 [.bool b23,s24.v,s25.v]∧
 inB a0 i15∧
 ∃b26:Bool,
 ∃s27:Sl,
 ∃s28:Sl,
 Aa7 W21 a0 3 (Int.toNat i15) 0 [.bool b26,s27.v,s28.v]∧
 Aa1 Tryz.prog W0 M 130 [.agg ⟨[.bool b26,s27.v,s28.v]⟩,.agg ⟨[.bool b12,s13.v,s14.v]⟩] W21 fun v29 W30=>
 ∃i31:Int,
 v29 = .int .i64 i31∧
 (0<i31→
 inB a0 i15∧
 ∃b32:Bool,
 ∃s33:Sl,
 ∃s34:Sl,
 Aa7 W30 a0 3 (Int.toNat i15) 0 [.bool b32,s33.v,s34.v]∧
 I64 (i15+1)∧
 stp F7 F8 [.val (.int .i64 (i15+1)),.cells [.bool b23,s24.v,s25.v,.bool b32,s33.v,s34.v]] W30
 [.val (.int .i64 i15),.cells [.bool b9,s10.v,s11.v,.bool b12,s13.v,s14.v]] W16)∧
 (¬0<i31→
 I64 (i15+1)∧
 stp F7 F8 [.val (.int .i64 (i15+1)),.cells [.bool b23,s24.v,s25.v,.bool b12,s13.v,s14.v]] W30
 [.val (.int .i64 i15),.cells [.bool b9,s10.v,s11.v,.bool b12,s13.v,s14.v]] W16))∧
 (¬i22<0→
 inB a0 i15∧
 ∃b35:Bool,
 ∃s36:Sl,
 ∃s37:Sl,
 Aa7 W21 a0 3 (Int.toNat i15) 0 [.bool b35,s36.v,s37.v]∧
 Aa1 Tryz.prog W0 M 130 [.agg ⟨[.bool b35,s36.v,s37.v]⟩,.agg ⟨[.bool b12,s13.v,s14.v]⟩] W21 fun v38 W39=>
 ∃i40:Int,
 v38 = .int .i64 i40∧
 (0<i40→
 inB a0 i15∧
 ∃b41:Bool,
 ∃s42:Sl,
 ∃s43:Sl,
 Aa7 W39 a0 3 (Int.toNat i15) 0 [.bool b41,s42.v,s43.v]∧
 I64 (i15+1)∧
 stp F7 F8 [.val (.int .i64 (i15+1)),.cells [.bool b9,s10.v,s11.v,.bool b41,s42.v,s43.v]] W39
 [.val (.int .i64 i15),.cells [.bool b9,s10.v,s11.v,.bool b12,s13.v,s14.v]] W16)∧
 (¬0<i40→
 I64 (i15+1)∧
 stp F7 F8 [.val (.int .i64 (i15+1)),.cells [.bool b9,s10.v,s11.v,.bool b12,s13.v,s14.v]] W39
 [.val (.int .i64 i15),.cells [.bool b9,s10.v,s11.v,.bool b12,s13.v,s14.v]] W16)))∧
 (¬i15<(a0.2:Int)→∀(W44:PW),Ext W16 W44→Post (.agg ⟨[.bool b9,s10.v,s11.v,.bool b12,s13.v,s14.v]⟩) W44)
theorem Cd4 (W0:PW) (M:Nat→Prop) (a0:Sl) (Post:Value→PW→Prop) (h:Dl4 W0 M a0 Post):Aa0 Tryz.prog 131 [a0.v] W0 M Post:=
 Aa3 rfl Aa9 Aa8 Tryz.func131 (cuts:=[]) rfl rfl (Nat.le_of_ble_eq_true rfl) (Eq.mpr (by kernel_rfl) h)
def Kd8 (W0:PW) (M:Nat→Prop) (a0_0:Bool) (a0_1:Sl) (a0_2:Sl) (a0_3:Bool) (a0_4:Sl) (a0_5:Sl) (a1_0:Bool) (a1_1:Sl) (a1_2:Sl) (Post:Value→PW→Prop):Prop:=
 Aa1 Tryz.prog W0 M 47 [.agg ⟨[.bool a1_0,a1_1.v,a1_2.v]⟩] W0 fun v1 W2=>
 ∃b3:Bool,
 ∃s4:Sl,
 ∃s5:Sl,
 ∃b6:Bool,
 ∃s7:Sl,
 ∃s8:Sl,
 v1 = .agg ⟨[.bool b3,s4.v,s5.v,.bool b6,s7.v,s8.v]⟩∧
 Aa1 Tryz.prog W0 M 58 [.agg ⟨[.bool a0_0,a0_1.v,a0_2.v,.bool a0_3,a0_4.v,a0_5.v]⟩,.agg ⟨[.bool b3,s4.v,s5.v,.bool b6,s7.v,s8.v]⟩] W2 fun v9 W10=>
 ∃b11:Bool,
 ∃s12:Sl,
 ∃s13:Sl,
 ∃b14:Bool,∃s15:Sl,∃s16:Sl,v9 = .agg ⟨[.bool b11,s12.v,s13.v,.bool b14,s15.v,s16.v]⟩∧∀(W17:PW),Ext W10 W17→Post (.agg ⟨[.bool b11,s12.v,s13.v,.bool b14,s15.v,s16.v]⟩) W17
theorem Ka8 (W0:PW) (M:Nat→Prop) (a0_0:Bool) (a0_1:Sl) (a0_2:Sl) (a0_3:Bool) (a0_4:Sl) (a0_5:Sl) (a1_0:Bool) (a1_1:Sl) (a1_2:Sl) (Post:Value→PW→Prop) (h:Kd8 W0 M a0_0 a0_1 a0_2 a0_3 a0_4 a0_5 a1_0 a1_1 a1_2 Post):Aa0 Tryz.prog 52 [.agg #[.bool a0_0,a0_1.v,a0_2.v,.bool a0_3,a0_4.v,a0_5.v],.agg #[.bool a1_0,a1_1.v,a1_2.v]] W0 M Post:=
 Aa3 rfl Aa9 Aa8 Tryz.func52 (cuts:=[]) rfl rfl (Nat.le_of_ble_eq_true rfl) (Eq.mpr (by kernel_rfl) h)
def Bf2 (W0:PW) (M:Nat→Prop) (a0_0:Bool) (a0_1:Sl) (a0_2:Sl) (a0_3:Bool) (a0_4:Sl) (a0_5:Sl) (a1:Int) (Post:Value→PW→Prop):Prop:=
 Aa1 Tryz.prog W0 M (174:Nat) [Value.agg ⟨[Value.bool a0_0,a0_1.v,a0_2.v]⟩,Value.int IntKind.i64 (mn (mx a1 (0:Int)) (255:Int))] W0 fun v1 W2=>
 ∃b3:Bool,
 ∃s4:Sl,
 ∃s5:Sl,
 v1=Value.agg ⟨[Value.bool b3,s4.v,s5.v]⟩∧
 Aa1 Tryz.prog W0 M (174:Nat) [Value.agg ⟨[Value.bool a0_3,a0_4.v,a0_5.v]⟩,Value.int IntKind.i64 (mn (mx a1 (0:Int)) (255:Int))] W2 fun v6 W7=>
 ∃b8:Bool,
 ∃s9:Sl,
 ∃s10:Sl,
 v6=Value.agg ⟨[Value.bool b8,s9.v,s10.v]⟩∧
 ((0:Int)<mn (mx a1 (0:Int)) (255:Int)→
 (2:Int)≠(0:Int)∧
 (Int.tmod (mn (mx a1 (0:Int)) (255:Int)) (2:Int)=(0:Int)→
 Aa1 Tryz.prog W0 M (65:Nat) [Value.agg ⟨[Value.bool a0_0,a0_1.v]⟩] W7 fun v11 W12=>
 ∃i13:Int,
 v11=Value.int IntKind.i64 i13∧
 (i13<(0:Int)→
 Aa1 Tryz.prog W0 M (65:Nat) [Value.agg ⟨[Value.bool a0_3,a0_4.v]⟩] W12 fun v14 W15=>
 ∃i16:Int,
 v14=Value.int IntKind.i64 i16∧
 ((0:Int)<i16→
 Aa1 Tryz.prog W0 M (35:Nat) [Value.int IntKind.i64 (0:Int)] W15 fun v17 W18=>
 ∃b19:Bool,
 ∃s20:Sl,
 ∃s21:Sl,
 v17=Value.agg ⟨[Value.bool b19,s20.v,s21.v]⟩∧
 (List.length [[Value.bool b3,s4.v,s5.v],[Value.bool b8,s9.v,s10.v]]+List.length [[Value.bool b19,s20.v,s21.v]])*(56:Nat)≤(140737488355328:Nat)∧
 ∀(s22:Sl) (W23:PW),
 Ext W18 W23→
 SX.Own W23 (39:Nat) (3:Nat) s22 [[Value.bool b3,s4.v,s5.v],[Value.bool b8,s9.v,s10.v],[Value.bool b19,s20.v,s21.v]]→
 Fr W0 W18 s22→
 Aa1 Tryz.prog W0 M (131:Nat) [s22.v] W23 fun v24 W25=>
 ∃b26:Bool,
 ∃s27:Sl,
 ∃s28:Sl,
 ∃b29:Bool,
 ∃s30:Sl,
 ∃s31:Sl,
 v24=Value.agg ⟨[Value.bool b26,s27.v,s28.v,Value.bool b29,s30.v,s31.v]⟩∧
 ∀(W32:PW),Ext W25 W32→Post (Value.agg ⟨[Value.bool b26,s27.v,s28.v,Value.bool b29,s30.v,s31.v]⟩) W32)∧
 (¬(0:Int)<i16→
 ∀(s33:Sl) (W34:PW),
 Ext W15 W34→
 SX.Own W34 (39:Nat) (3:Nat) s33 [[Value.bool b3,s4.v,s5.v],[Value.bool b8,s9.v,s10.v]]→
 Fr W0 W15 s33→
 Aa1 Tryz.prog W0 M (131:Nat) [s33.v] W34 fun v35 W36=>
 ∃b37:Bool,
 ∃s38:Sl,
 ∃s39:Sl,
 ∃b40:Bool,
 ∃s41:Sl,
 ∃s42:Sl,
 v35=Value.agg ⟨[Value.bool b37,s38.v,s39.v,Value.bool b40,s41.v,s42.v]⟩∧∀(W43:PW),Ext W36 W43→Post (Value.agg ⟨[Value.bool b37,s38.v,s39.v,Value.bool b40,s41.v,s42.v]⟩) W43))∧
 (¬i13<(0:Int)→
 ∀(s44:Sl) (W45:PW),
 Ext W12 W45→
 SX.Own W45 (39:Nat) (3:Nat) s44 [[Value.bool b3,s4.v,s5.v],[Value.bool b8,s9.v,s10.v]]→
 Fr W0 W12 s44→
 Aa1 Tryz.prog W0 M (131:Nat) [s44.v] W45 fun v46 W47=>
 ∃b48:Bool,
 ∃s49:Sl,
 ∃s50:Sl,
 ∃b51:Bool,
 ∃s52:Sl,
 ∃s53:Sl,
 v46=Value.agg ⟨[Value.bool b48,s49.v,s50.v,Value.bool b51,s52.v,s53.v]⟩∧∀(W54:PW),Ext W47 W54→Post (Value.agg ⟨[Value.bool b48,s49.v,s50.v,Value.bool b51,s52.v,s53.v]⟩) W54))∧
 (¬Int.tmod (mn (mx a1 (0:Int)) (255:Int)) (2:Int)=(0:Int)→
 ∀(s55:Sl) (W56:PW),
 Ext W7 W56→
 SX.Own W56 (39:Nat) (3:Nat) s55 [[Value.bool b3,s4.v,s5.v],[Value.bool b8,s9.v,s10.v]]→
 Fr W0 W7 s55→
 Aa1 Tryz.prog W0 M (131:Nat) [s55.v] W56 fun v57 W58=>
 ∃b59:Bool,
 ∃s60:Sl,
 ∃s61:Sl,
 ∃b62:Bool,
 ∃s63:Sl,
 ∃s64:Sl,v57=Value.agg ⟨[Value.bool b59,s60.v,s61.v,Value.bool b62,s63.v,s64.v]⟩∧∀(W65:PW),Ext W58 W65→Post (Value.agg ⟨[Value.bool b59,s60.v,s61.v,Value.bool b62,s63.v,s64.v]⟩) W65))∧
 (¬(0:Int)<mn (mx a1 (0:Int)) (255:Int)→
 ∀(s66:Sl) (W67:PW),
 Ext W7 W67→
 SX.Own W67 (39:Nat) (3:Nat) s66 [[Value.bool b3,s4.v,s5.v],[Value.bool b8,s9.v,s10.v]]→
 Fr W0 W7 s66→
 Aa1 Tryz.prog W0 M (131:Nat) [s66.v] W67 fun v68 W69=>
 ∃b70:Bool,
 ∃s71:Sl,
 ∃s72:Sl,
 ∃b73:Bool,
 ∃s74:Sl,
 ∃s75:Sl,v68=Value.agg ⟨[Value.bool b70,s71.v,s72.v,Value.bool b73,s74.v,s75.v]⟩∧∀(W76:PW),Ext W69 W76→Post (Value.agg ⟨[Value.bool b70,s71.v,s72.v,Value.bool b73,s74.v,s75.v]⟩) W76)
theorem Bn8 (W0:PW) (M:Nat→Prop) (a0_0:Bool) (a0_1:Sl) (a0_2:Sl) (a0_3:Bool) (a0_4:Sl) (a0_5:Sl) (a1:Int) (Post:Value→PW→Prop) (h:Bf2 W0 M a0_0 a0_1 a0_2 a0_3 a0_4 a0_5 a1 Post):Aa0 Tryz.prog 127 [Value.agg #[Value.bool a0_0,a0_1.v,a0_2.v,Value.bool a0_3,a0_4.v,a0_5.v],Value.int IntKind.i64 a1] W0 M Post:=
 Aa3 rfl Aa9 Aa8 Tryz.func127 (cuts:=[]) rfl rfl (Nat.le_of_ble_eq_true rfl) (Eq.mpr (by kernel_rfl) h)
def Bl1 (W0:PW) (M:Nat→Prop) (a0_0:Bool) (a0_1:Sl) (a0_2:Sl) (a1:Int) (Post:Value→PW→Prop):Prop:=
 Aa1 Tryz.prog W0 M 35 [.int .i64 1] W0 fun v1 W2=>
 ∃b3:Bool,
 ∃s4:Sl,
 ∃s5:Sl,
 v1 = .agg ⟨[.bool b3,s4.v,s5.v]⟩∧
 ∃(F6:List PL→PW→Prop),
 ∃(F7:List PL→PW→Nat),
 F6 [.val (.int .i64 0),.cells [.bool b3,s4.v,s5.v]] W2∧
 ∀(b8:Bool) (s9 s10:Sl) (i11:Int) (W12:PW),
 F6 [.val (.int .i64 i11),.cells [.bool b8,s9.v,s10.v]] W12→
 (i11<mn (mx a1 0) 255→
 Aa1 Tryz.prog W0 M 49 [.agg ⟨[.bool b8,s9.v,s10.v]⟩,.agg ⟨[.bool a0_0,a0_1.v,a0_2.v]⟩] W12 fun v13 W14=>
 ∃b15:Bool,
 ∃s16:Sl,
 ∃s17:Sl,
 v13 = .agg ⟨[.bool b15,s16.v,s17.v]⟩∧
 I64 (i11+1)∧stp F6 F7 [.val (.int .i64 (i11+1)),.cells [.bool b15,s16.v,s17.v]] W14 [.val (.int .i64 i11),.cells [.bool b8,s9.v,s10.v]] W12)∧
 (¬i11<mn (mx a1 0) 255→∀(W18:PW),Ext W12 W18→Post (.agg ⟨[.bool b8,s9.v,s10.v]⟩) W18)
theorem Bu3 (W0:PW) (M:Nat→Prop) (a0_0:Bool) (a0_1:Sl) (a0_2:Sl) (a1:Int) (Post:Value→PW→Prop) (h:Bl1 W0 M a0_0 a0_1 a0_2 a1 Post):Aa0 Tryz.prog 174 [.agg #[.bool a0_0,a0_1.v,a0_2.v],.int .i64 a1] W0 M Post:=
 Aa3 rfl Aa9 Aa8 Tryz.func174 (cuts:=[]) rfl rfl (Nat.le_of_ble_eq_true rfl) (Eq.mpr (by kernel_rfl) h)
def Br7 (W0:PW) (M:Nat→Prop) (a0_0:ByteArray) (a0_1:ByteArray) (Post:Value→PW→Prop):Prop:=
 Aa1 Tryz.prog W0 M 28 [.string a0_0] W0 fun v1 W2=>
 ∃b3:Bool,
 ∃s4:Sl,
 ∃s5:Sl,
 ∃b6:Bool,
 v1 = .tuple ⟨[.agg ⟨[.bool b3,s4.v,s5.v]⟩,.bool b6]⟩∧
 Aa1 Tryz.prog W0 M 28 [.string a0_1] W2 fun v7 W8=>
 ∃b9:Bool,
 ∃s10:Sl,
 ∃s11:Sl,
 ∃b12:Bool,
 v7 = .tuple ⟨[.agg ⟨[.bool b9,s10.v,s11.v]⟩,.bool b12]⟩∧
 ((!b6)=true→
 ∀(W13:PW),
 Ext W8 W13→
 Post (.tuple ⟨[.agg ⟨[.bool false,.slice none 0 0,.slice none 0 0,.bool false,.slice none 0 0,.slice none 0 0]⟩,.int .i64 2]⟩) W13)∧
 ((!b6)=false→
 ((!b12)=true→
 ∀(W14:PW),
 Ext W8 W14→
 Post (.tuple ⟨[.agg ⟨[.bool false,.slice none 0 0,.slice none 0 0,.bool false,.slice none 0 0,.slice none 0 0]⟩,.int .i64 2]⟩) W14)∧
 ((!b12)=false→
 Aa1 Tryz.prog W0 M 130 [.agg ⟨[.bool b3,s4.v,s5.v]⟩,.agg ⟨[.bool b9,s10.v,s11.v]⟩] W8 fun v15 W16=>
 ∃i17:Int,
 v15 = .int .i64 i17∧
 (0<i17→
 ∀(W18:PW),
 Ext W16 W18→
 Post (.tuple ⟨[.agg ⟨[.bool false,.slice none 0 0,.slice none 0 0,.bool false,.slice none 0 0,.slice none 0 0]⟩,.int .i64 1]⟩)
 W18)∧
 (¬0<i17→∀(W19:PW),Ext W16 W19→Post (.tuple ⟨[.agg ⟨[.bool b3,s4.v,s5.v,.bool b9,s10.v,s11.v]⟩,.int .i64 0]⟩) W19)))
theorem Be5 (W0:PW) (M:Nat→Prop) (a0_0:ByteArray) (a0_1:ByteArray) (Post:Value→PW→Prop) (h:Br7 W0 M a0_0 a0_1 Post):Aa0 Tryz.prog 106 [.agg #[.string a0_0,.string a0_1]] W0 M Post:=
 Aa3 rfl Aa9 Aa8 Tryz.func106 (cuts:=[]) rfl rfl (Nat.le_of_ble_eq_true rfl) (Eq.mpr (by kernel_rfl) h)
def Ew0 (W0:PW) (M:Nat→Prop) (a0_0:Sl) (a0_1:Bool) (a0_2:Sl) (a0_3:Sl) (a0_4:Bool) (a0_5:Sl) (a1_0:Bool) (a1_1:Sl) (a1_2:Sl) (a1_3:Bool) (a1_4:Sl) (a1_5:Sl) (Post:Value→PW→Prop):Prop:=
 Aa1 Tryz.prog W0 M 19 [.agg ⟨[a0_0.v,.bool a0_1,a0_2.v]⟩,.agg ⟨[.bool a1_0,a1_1.v,a1_2.v]⟩] W0 fun v1 W2=>
 ∃b3:Bool,
 v1 = .bool b3∧
 (b3=true→Aa1 Tryz.prog W0 M 19 [.agg ⟨[a0_3.v,.bool a0_4,a0_5.v]⟩,.agg ⟨[.bool a1_3,a1_4.v,a1_5.v]⟩] W2 fun v4 W5=>∃b6:Bool,v4 = .bool b6∧∀(W7:PW),Ext W5 W7→Post (.bool b6) W7)∧
 (b3=false→∀(W8:PW),Ext W2 W8→Post (.bool false) W8)
theorem Df9 (W0:PW) (M:Nat→Prop) (a0_0:Sl) (a0_1:Bool) (a0_2:Sl) (a0_3:Sl) (a0_4:Bool) (a0_5:Sl) (a1_0:Bool) (a1_1:Sl) (a1_2:Sl) (a1_3:Bool) (a1_4:Sl) (a1_5:Sl) (Post:Value→PW→Prop) (h:Ew0 W0 M a0_0 a0_1 a0_2 a0_3 a0_4 a0_5 a1_0 a1_1 a1_2 a1_3 a1_4 a1_5 Post):Aa0 Tryz.prog 59 [.agg #[a0_0.v,.bool a0_1,a0_2.v,a0_3.v,.bool a0_4,a0_5.v],.agg #[.bool a1_0,a1_1.v,a1_2.v,.bool a1_3,a1_4.v,a1_5.v]] W0 M Post:=
 Aa3 rfl Aa9 Aa8 Tryz.func59 (cuts:=[]) rfl rfl (Nat.le_of_ble_eq_true rfl) (Eq.mpr (by kernel_rfl) h)
def Fb5 (W0:PW) (M:Nat→Prop) (a0_0:ByteArray) (a0_1:ByteArray) (Post:Value→PW→Prop):Prop:=
 Aa1 Tryz.prog W0 M 106 [.agg ⟨[.string a0_0,.string a0_1]⟩] W0 fun v1 W2=>
 ∃b3:Bool,
 ∃s4:Sl,
 ∃s5:Sl,
 ∃b6:Bool,
 ∃s7:Sl,
 ∃s8:Sl,
 ∃i9:Int,
 v1 = .tuple ⟨[.agg ⟨[.bool b3,s4.v,s5.v,.bool b6,s7.v,s8.v]⟩,.int .i64 i9]⟩∧
 (i9≠0→
 ∀(W10:PW),
 Ext W2 W10→
 Post
 (.tuple
 {
 toList:=
 [.agg ⟨[.slice none 0 0,.bool false,.slice none 0 0,.slice none 0 0,.bool false,.slice none 0 0]⟩,
 .agg ⟨[.bool false,.slice none 0 0,.slice none 0 0,.bool false,.slice none 0 0,.slice none 0 0]⟩,.bool false] })
 W10)∧
 (¬i9≠0→
 (60<(↑(ByteArray.size a0_0):Int)→
 ∀(W11:PW),
 Ext W2 W11→
 Post
 (.tuple
 {
 toList:=
 [.agg ⟨[.slice none 0 0,.bool false,.slice none 0 0,.slice none 0 0,.bool false,.slice none 0 0]⟩,
 .agg ⟨[.bool false,.slice none 0 0,.slice none 0 0,.bool false,.slice none 0 0,.slice none 0 0]⟩,.bool false] })
 W11)∧
 (¬60<(↑(ByteArray.size a0_0):Int)→
 (60<(↑(ByteArray.size a0_1):Int)→
 ∀(W12:PW),
 Ext W2 W12→
 Post
 (.tuple
 {
 toList:=
 [.agg ⟨[.slice none 0 0,.bool false,.slice none 0 0,.slice none 0 0,.bool false,.slice none 0 0]⟩,
 .agg ⟨[.bool false,.slice none 0 0,.slice none 0 0,.bool false,.slice none 0 0,.slice none 0 0]⟩,.bool false] })
 W12)∧
 (¬60<(↑(ByteArray.size a0_1):Int)→
 Aa1 Tryz.prog W0 M 107 [.agg ⟨[.string a0_0,.string a0_1]⟩] W2 fun v13 W14=>
 ∃s15:Sl,
 ∃b16:Bool,
 ∃s17:Sl,
 ∃s18:Sl,
 ∃b19:Bool,
 ∃s20:Sl,
 ∃i21:Int,
 v13 = .tuple ⟨[.agg ⟨[s15.v,.bool b16,s17.v,s18.v,.bool b19,s20.v]⟩,.int .i64 i21]⟩∧
 ∀(W22:PW),
 Ext W14 W22→Post (.tuple ⟨[.agg ⟨[s15.v,.bool b16,s17.v,s18.v,.bool b19,s20.v]⟩,.agg ⟨[.bool b3,s4.v,s5.v,.bool b6,s7.v,s8.v]⟩,.bool true]⟩) W22)))
theorem Dh3 (W0:PW) (M:Nat→Prop) (a0_0:ByteArray) (a0_1:ByteArray) (Post:Value→PW→Prop) (h:Fb5 W0 M a0_0 a0_1 Post):Aa0 Tryz.prog 39 [.agg #[.string a0_0,.string a0_1]] W0 M Post:=
 Aa3 rfl Aa9 Aa8 Tryz.func39 (cuts:=[]) rfl rfl (Nat.le_of_ble_eq_true rfl) (Eq.mpr (by kernel_rfl) h)
end Go.Proofs.YtahohahjnhfedaaGreat
