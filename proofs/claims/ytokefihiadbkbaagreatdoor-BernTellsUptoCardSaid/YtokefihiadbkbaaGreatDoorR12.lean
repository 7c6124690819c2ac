/- R12 -/
import Derived.Test.YtokefihiadbkbaaGreatDoorTt
set_option linter.unusedVariables false
set_option linter.unusedSimpArgs false
set_option maxRecDepth 100000
namespace Go.Proofs.YtokefihiadbkbaaGreatDoor
open Go Go.SX
def Jv5 (W0:PW) (M:Nat→Prop) (a0:Sl) (a1:Sl) (Post:Value→PW→Prop):Prop:=
 ∃(F1:List PL→PW→Prop),
 ∃(F2:List PL→PW→Nat),
 F1 [.val a0.v,.val (.int .i64 0)] W0∧
 ∀(s3:Sl) (i4:Int) (W5:PW),
 F1 [.val s3.v,.val (.int .i64 i4)] W5→
 (i4<(a1.2:Int)→
 inB a1 i4∧
 ∃i6:Int,
 ∃i7:Int,
 ∃i8:Int,
 ∃b9:Bool,
 ∃s10:Sl,
 ∃s11:Sl,
 Aa7 W5 a1 6 (Int.toNat i4) 0 [.int .u8 i6,.int .u8 i7,.int .u8 i8,.bool b9,s10.v,s11.v]∧
 Aa1 Tryz.prog W0 M 62 [s3.v,.agg ⟨[.int .u8 i6,.int .u8 i7,.int .u8 i8,.bool b9,s10.v,s11.v]⟩] W5 fun v12 W13=>
 ∃s14:Sl,v12=s14.v∧I64 (i4+1)∧stp F1 F2 [.val s14.v,.val (.int .i64 (i4+1))] W13 [.val s3.v,.val (.int .i64 i4)] W5)∧
 (¬i4<(a1.2:Int)→∀(W15:PW),Ext W5 W15→Post s3.v W15)
theorem Jv1 (W0:PW) (M:Nat→Prop) (a0:Sl) (a1:Sl) (Post:Value→PW→Prop) (h:Jv5 W0 M a0 a1 Post):Aa0 Tryz.prog 15 [a0.v,a1.v] W0 M Post:=
 Aa3 rfl Aa9 Aa8 Tryz.func15 (cuts:=[]) rfl rfl (Nat.le_of_ble_eq_true rfl) (Eq.mpr (by kernel_rfl) h)
def Kt1 (W0:PW) (M:Nat→Prop) (a0:Sl) (a1_0:Bool) (a1_1:Sl) (a1_2:Sl) (Post:Value→PW→Prop):Prop:=
 ∃(F1:List PL→PW→Prop),
 ∃(F2:List PL→PW→Nat),
 F1 [.val (.slice none 0 0),.val (.int .i64 0)] W0∧
 ∀(s3:Sl) (i4:Int) (W5:PW),
 F1 [.val s3.v,.val (.int .i64 i4)] W5→
 (i4<(a0.2:Int)→
 inB a0 i4∧
 ∃i6:Int,
 ∃i7:Int,
 ∃i8:Int,
 Aa7 W5 a0 6 (Int.toNat i4) 0 [.int .u8 i6,.int .u8 i7,.int .u8 i8]∧
 inB a0 i4∧
 ∃b9:Bool,
 ∃s10:Sl,
 ∃s11:Sl,
 Aa7 W5 a0 6 (Int.toNat i4) 3 [.bool b9,s10.v,s11.v]∧
 Aa1 Tryz.prog W0 M 88 [.agg ⟨[.bool b9,s10.v,s11.v]⟩,.agg ⟨[.bool a1_0,a1_1.v,a1_2.v]⟩] W5 fun v12 W13=>
 ∃b14:Bool,
 ∃s15:Sl,
 ∃s16:Sl,
 v12 = .agg ⟨[.bool b14,s15.v,s16.v]⟩∧
 Ext W5 W13∧
 Aa1 Tryz.prog W0 M 62 [s3.v,.agg ⟨[.int .u8 i6,.int .u8 i7,.int .u8 i8,.bool b14,s15.v,s16.v]⟩] W13 fun v17 W18=>
 ∃s19:Sl,v17=s19.v∧Ext W13 W18∧I64 (i4+1)∧stp F1 F2 [.val s19.v,.val (.int .i64 (i4+1))] W18 [.val s3.v,.val (.int .i64 i4)] W5)∧
 (¬i4<(a0.2:Int)→∀(W20:PW),Ext W5 W20→Post s3.v W20)
theorem Ks4 (W0:PW) (M:Nat→Prop) (a0:Sl) (a1_0:Bool) (a1_1:Sl) (a1_2:Sl) (Post:Value→PW→Prop) (h:Kt1 W0 M a0 a1_0 a1_1 a1_2 Post):Aa0 Tryz.prog 83 [a0.v,.agg #[.bool a1_0,a1_1.v,a1_2.v]] W0 M Post:=
 Aa3 rfl Aa9 Aa8 Tryz.func83 (cuts:=[]) rfl rfl (Nat.le_of_ble_eq_true rfl) (Eq.mpr (by kernel_rfl) h)
def Km9 (W0:PW) (M:Nat→Prop) (a0:Int) (Post:Value→PW→Prop):Prop:=
 (a0<0→∀(W1:PW),Ext W0 W1→Post (.slice none 0 0) W1)∧
 (¬a0<0→
 (3≤a0→∀(W2:PW),Ext W0 W2→Post (.slice none 0 0) W2)∧
 (¬3≤a0→
 (0≤a0∧a0<3)∧
 Int.toNat a0<3∧
 ((True∧
 (Int.toNat a0=0→
 Aa1 Tryz.prog W0 M 87 [.int .i64 1] W0 fun v3 W4=>
 ∃b5:Bool,
 ∃s6:Sl,
 ∃s7:Sl,
 v3 = .agg ⟨[.bool b5,s6.v,s7.v]⟩∧
 ∀(s8:Sl) (W9:PW),Ext W4 W9→SX.Own W9 142 6 s8 [[.int .u8 1,.int .u8 0,.int .u8 0,.bool b5,s6.v,s7.v]]→Fr W0 W4 s8→∀(W10:PW),Ext W9 W10→Post s8.v W10))∧
 (Int.toNat a0=1→
 Aa1 Tryz.prog W0 M 87 [.int .i64 1] W0 fun v11 W12=>
 ∃b13:Bool,
 ∃s14:Sl,
 ∃s15:Sl,
 v11 = .agg ⟨[.bool b13,s14.v,s15.v]⟩∧
 ∀(s16:Sl) (W17:PW),Ext W12 W17→SX.Own W17 142 6 s16 [[.int .u8 0,.int .u8 1,.int .u8 0,.bool b13,s14.v,s15.v]]→Fr W0 W12 s16→∀(W18:PW),Ext W17 W18→Post s16.v W18))∧
 (Int.toNat a0=2→
 Aa1 Tryz.prog W0 M 87 [.int .i64 1] W0 fun v19 W20=>
 ∃b21:Bool,
 ∃s22:Sl,
 ∃s23:Sl,
 v19 = .agg ⟨[.bool b21,s22.v,s23.v]⟩∧
 ∀(s24:Sl) (W25:PW),Ext W20 W25→SX.Own W25 142 6 s24 [[.int .u8 0,.int .u8 0,.int .u8 1,.bool b21,s22.v,s23.v]]→Fr W0 W20 s24→∀(W26:PW),Ext W25 W26→Post s24.v W26)))
theorem Kh5 (W0:PW) (M:Nat→Prop) (a0:Int) (Post:Value→PW→Prop) (h:Km9 W0 M a0 Post):Aa0 Tryz.prog 84 [.int .i64 a0] W0 M Post:=
 Aa3 rfl Aa9 Aa8 Tryz.func84 (cuts:=[]) rfl rfl (Nat.le_of_ble_eq_true rfl) (Eq.mpr (by kernel_rfl) h)
def Kj0 (W0:PW) (M:Nat→Prop) (a0_0:Bool) (a0_1:Sl) (a0_2:Sl) (Post:Value→PW→Prop):Prop:=
 Aa1 Tryz.prog W0 M 62 [.slice none 0 0,.agg ⟨[.int .u8 0,.int .u8 0,.int .u8 0,.bool a0_0,a0_1.v,a0_2.v]⟩] W0 fun v1 W2=>
 ∃s3:Sl,v1=s3.v∧∀(W4:PW),Ext W2 W4→Post s3.v W4
theorem Ke4 (W0:PW) (M:Nat→Prop) (a0_0:Bool) (a0_1:Sl) (a0_2:Sl) (Post:Value→PW→Prop) (h:Kj0 W0 M a0_0 a0_1 a0_2 Post):Aa0 Tryz.prog 82 [.agg #[.bool a0_0,a0_1.v,a0_2.v]] W0 M Post:=
 Aa3 rfl Aa9 Aa8 Tryz.func82 (cuts:=[]) rfl rfl (Nat.le_of_ble_eq_true rfl) (Eq.mpr (by kernel_rfl) h)
def Ku8 (W0:PW) (M:Nat→Prop) (a0:Sl) (a1_0:Sl) (a1_1:Sl) (a1_2:Sl) (Post:Value→PW→Prop):Prop:=
 ∃(F1:List PL→PW→Prop),
 ∃(F2:List PL→PW→Nat),
 F1 [.val (.slice none 0 0),.val (.int .i64 0)] W0∧
 ∀(s3:Sl) (i4:Int) (W5:PW),
 F1 [.val s3.v,.val (.int .i64 i4)] W5→
 (i4<(a0.2:Int)→
 inB a0 i4∧
 ∃b6:Bool,
 ∃s7:Sl,
 ∃s8:Sl,
 Aa7 W5 a0 6 (Int.toNat i4) 3 [.bool b6,s7.v,s8.v]∧
 Aa1 Tryz.prog W0 M 82 [.agg ⟨[.bool b6,s7.v,s8.v]⟩] W5 fun v9 W10=>
 ∃s11:Sl,
 v9=s11.v∧
 ∃(F12:List PL→PW→Prop),
 ∃(F13:List PL→PW→Nat),
 F12 [.val s11.v,.val (.int .i64 0)] W10∧
 ∀(s14:Sl) (i15:Int) (W16:PW),
 F12 [.val s14.v,.val (.int .i64 i15)] W16→
 (i15<3→
 ∃(F17:List PL→PW→Prop),
 ∃(F18:List PL→PW→Nat),
 F17 [.val s14.v,.val (.int .i64 0)] W16∧
 ∀(s19:Sl) (i20:Int) (W21:PW),
 F17 [.val s19.v,.val (.int .i64 i20)] W21→
 inB a0 i4∧
 (0≤i15∧i15<3)∧
 ∃i22:Int,
 Aa7 W21 a0 6 (Int.toNat i4) (0+Int.toNat i15*1) [.int .u8 i22]∧
 I64 i22∧
 (i20<i22→
 (0≤i15∧i15<3)∧
 ∃s23:Sl,
 As9 [a1_0.v,a1_1.v,a1_2.v] (0+Int.toNat i15*1+0) [s23.v]∧
 Aa1 Tryz.prog W0 M 151 [s19.v,s23.v] W21 fun v24 W25=>
 ∃s26:Sl,
 ∃b27:Bool,
 v24 = .tuple ⟨[s26.v,.bool b27]⟩∧
 ((!b27)=true→∀(W28:PW),Ext W25 W28→Post (.tuple ⟨[.slice none 0 0,.bool false]⟩) W28)∧
 ((!b27)=false→I64 (i20+1)∧stp F17 F18 [.val s26.v,.val (.int .i64 (i20+1))] W25 [.val s19.v,.val (.int .i64 i20)] W21))∧
 (¬i20<i22→I64 (i15+1)∧stp F12 F13 [.val s19.v,.val (.int .i64 (i15+1))] W21 [.val s14.v,.val (.int .i64 i15)] W16))∧
 (¬i15<3→
 Aa1 Tryz.prog W0 M 15 [s3.v,s14.v] W16 fun v29 W30=>
 ∃s31:Sl,v29=s31.v∧I64 (i4+1)∧stp F1 F2 [.val s31.v,.val (.int .i64 (i4+1))] W30 [.val s3.v,.val (.int .i64 i4)] W5))∧
 (¬i4<(a0.2:Int)→∀(W32:PW),Ext W5 W32→Post (.tuple ⟨[s3.v,.bool true]⟩) W32)
theorem Ks9 (W0:PW) (M:Nat→Prop) (a0:Sl) (a1_0:Sl) (a1_1:Sl) (a1_2:Sl) (Post:Value→PW→Prop) (h:Ku8 W0 M a0 a1_0 a1_1 a1_2 Post):Aa0 Tryz.prog 86 [a0.v,.agg #[a1_0.v,a1_1.v,a1_2.v]] W0 M Post:=
 Aa3 rfl Aa9 Aa8 Tryz.func86 (cuts:=[]) rfl rfl (Nat.le_of_ble_eq_true rfl) (Eq.mpr (by kernel_rfl) h)
end Go.Proofs.YtokefihiadbkbaaGreatDoor
