/- R10 -/
import Derived.Test.YtokefihiadbkbaaGreatDoorTt
set_option linter.unusedVariables false
set_option linter.unusedSimpArgs false
set_option maxRecDepth 100000
namespace Go.Proofs.YtokefihiadbkbaaGreatDoor
open Go Go.SX
def Ak2 (W0:PW) (M:Nat→Prop) (a0:Sl) (Post:Value→PW→Prop):Prop:=
 (a0.1=none→∀(W1:PW),Ext W0 W1→Post (.slice none 0 0) W1)∧
 (¬a0.1=none→∃(l2:List (List Value)),Bf9 W0 6 a0 l2∧(0+List.length l2)*64≤140737488355328∧∀(s3:Sl) (W4:PW),Ext W0 W4→SX.Own W4 138 6 s3 ([] ++ l2)→Fr W0 W0 s3→∀(W5:PW),Ext W4 W5→Post s3.v W5)
theorem Ai9 (W0:PW) (M:Nat→Prop) (a0:Sl) (Post:Value→PW→Prop) (h:Ak2 W0 M a0 Post):Aa0 Tryz.prog 137 [a0.v] W0 M Post:=
 Aa3 rfl Aa9 Aa8 Tryz.func137 (cuts:=[]) rfl rfl (Nat.le_of_ble_eq_true rfl) (Eq.mpr (by kernel_rfl) h)
def Bn7 (W0:PW) (M:Nat→Prop) (a0_0:Sl) (Post:Value→PW→Prop):Prop:=
 Aa1 Tryz.prog W0 M 137 [a0_0.v] W0 fun v1 W2=>∃s3:Sl,v1=s3.v∧∀(W4:PW),Ext W2 W4→Post s3.v W4
theorem Bc4 (W0:PW) (M:Nat→Prop) (a0_0:Sl) (Post:Value→PW→Prop) (h:Bn7 W0 M a0_0 Post):Aa0 Tryz.prog 66 [.agg #[a0_0.v]] W0 M Post:=
 Aa3 rfl Aa9 Aa8 Tryz.func66 (cuts:=[]) rfl rfl (Nat.le_of_ble_eq_true rfl) (Eq.mpr (by kernel_rfl) h)
def En7 (W0:PW) (M:Nat→Prop) (a0_0:Sl) (a1_0:Sl) (Post:Value→PW→Prop):Prop:=
 Cj7 W0 W0 fun(n1:Nat) (W2:PW)=>
 ∃(F3:List PL→PW→Prop),
 ∃(F4:List PL→PW→Nat),
 F3 [.val (.int .i64 0),.cells [.slice none 0 0]] W2∧
 ∀(s5:Sl) (i6:Int) (W7:PW),
 F3 [.val (.int .i64 i6),.cells [s5.v]] W7→
 (i6<(a0_0.2:Int)→
 inB a0_0 i6∧
 ∃i8:Int,
 ∃i9:Int,
 ∃i10:Int,
 ∃s11:Sl,
 ∃b12:Bool,
 ∃s13:Sl,
 Aa7 W7 a0_0 6 (Int.toNat i6) 0 [.int .u8 i8,.int .u8 i9,.int .u8 i10,s11.v,.bool b12,s13.v]∧
 ∃(F14:List PL→PW→Prop),
 ∃(F15:List PL→PW→Nat),
 F14 [.val (.int .i64 0),.cells [s5.v]] W7∧
 ∀(s16:Sl) (i17:Int) (W18:PW),
 F14 [.val (.int .i64 i17),.cells [s16.v]] W18→
 (i17<(a1_0.2:Int)→
 inB a1_0 i17∧
 ∃i19:Int,
 ∃i20:Int,
 ∃i21:Int,
 ∃s22:Sl,
 ∃b23:Bool,
 ∃s24:Sl,
 Aa7 W18 a1_0 6 (Int.toNat i17) 0 [.int .u8 i19,.int .u8 i20,.int .u8 i21,s22.v,.bool b23,s24.v]∧
 Aa1 Tryz.prog W0 M 132 [.agg ⟨[.int .u8 i8,.int .u8 i9,.int .u8 i10]⟩,.agg ⟨[.int .u8 i19,.int .u8 i20,.int .u8 i21]⟩] W18
 fun v25 W26=>
 ∃i27:Int,
 ∃i28:Int,
 ∃i29:Int,
 ∃b30:Bool,
 v25 = .tuple ⟨[.agg ⟨[.int .u8 i27,.int .u8 i28,.int .u8 i29]⟩,.bool b30]⟩∧
 ((!b30)=true→∀(W31:PW),Ext W26 W31→Post (.tuple ⟨[.agg ⟨[.slice none 0 0]⟩,.bool false]⟩) W31)∧
 ((!b30)=false→
 Aa1 Tryz.prog W0 M 95 [.agg ⟨[s11.v,.bool b12,s13.v]⟩,.agg ⟨[s22.v,.bool b23,s24.v]⟩] W26 fun v32 W33=>
 ∃s34:Sl,
 ∃b35:Bool,
 ∃s36:Sl,
 v32 = .agg ⟨[s34.v,.bool b35,s36.v]⟩∧
 Aa1 Tryz.prog W0 M 133 [.map (some n1),.agg ⟨[.int .u8 i27,.int .u8 i28,.int .u8 i29]⟩,.agg ⟨[s34.v,.bool b35,s36.v]⟩] W33
 fun v37 W38=>
 v37 = .tuple ⟨[]⟩∧I64 (i17+1)∧stp F14 F15 [.val (.int .i64 (i17+1)),.cells [s16.v]] W38 [.val (.int .i64 i17),.cells [s16.v]] W18))∧
 (¬i17<(a1_0.2:Int)→I64 (i6+1)∧stp F3 F4 [.val (.int .i64 (i6+1)),.cells [s16.v]] W18 [.val (.int .i64 i6),.cells [s5.v]] W7))∧
 (¬i6<(a0_0.2:Int)→Aa1 Tryz.prog W0 M 134 [.map (some n1)] W7 fun v39 W40=>∃s41:Sl,v39 = .agg ⟨[s41.v]⟩∧∀(W42:PW),Ext W40 W42→Post (.tuple ⟨[.agg ⟨[s41.v]⟩,.bool true]⟩) W42)
theorem Dc0 (W0:PW) (M:Nat→Prop) (a0_0:Sl) (a1_0:Sl) (Post:Value→PW→Prop) (h:En7 W0 M a0_0 a1_0 Post):Aa0 Tryz.prog 58 [.agg #[a0_0.v],.agg #[a1_0.v]] W0 M Post:=
 Aa3 rfl Aa9 Aa8 Tryz.func58 (cuts:=[]) rfl rfl (Nat.le_of_ble_eq_true rfl) (Eq.mpr (by kernel_rfl) h)
def Ek3 (W0:PW) (M:Nat→Prop) (a0:Int) (Post:Value→PW→Prop):Prop:=
 (a0<0→∀(W1:PW),Ext W0 W1→Post (.agg ⟨[.slice none 0 0]⟩) W1)∧
 (¬a0<0→
 (3≤a0→∀(W2:PW),Ext W0 W2→Post (.agg ⟨[.slice none 0 0]⟩) W2)∧
 (¬3≤a0→
 (0≤a0∧a0<3)∧
 Int.toNat a0<3∧
 ((True∧
 (Int.toNat a0=0→
 Aa1 Tryz.prog W0 M 49 [.int .i64 1] W0 fun v3 W4=>
 ∃s5:Sl,
 ∃b6:Bool,
 ∃s7:Sl,
 v3 = .agg ⟨[s5.v,.bool b6,s7.v]⟩∧
 ∀(s8:Sl) (W9:PW),
 Ext W4 W9→
 SX.Own W9 138 6 s8 [[.int .u8 1,.int .u8 0,.int .u8 0,s5.v,.bool b6,s7.v]]→
 Fr W0 W4 s8→Aa1 Tryz.prog W0 M 63 [s8.v] W9 fun v10 W11=>∃s12:Sl,v10 = .agg ⟨[s12.v]⟩∧∀(W13:PW),Ext W11 W13→Post (.agg ⟨[s12.v]⟩) W13))∧
 (Int.toNat a0=1→
 Aa1 Tryz.prog W0 M 49 [.int .i64 1] W0 fun v14 W15=>
 ∃s16:Sl,
 ∃b17:Bool,
 ∃s18:Sl,
 v14 = .agg ⟨[s16.v,.bool b17,s18.v]⟩∧
 ∀(s19:Sl) (W20:PW),
 Ext W15 W20→
 SX.Own W20 138 6 s19 [[.int .u8 0,.int .u8 1,.int .u8 0,s16.v,.bool b17,s18.v]]→
 Fr W0 W15 s19→Aa1 Tryz.prog W0 M 63 [s19.v] W20 fun v21 W22=>∃s23:Sl,v21 = .agg ⟨[s23.v]⟩∧∀(W24:PW),Ext W22 W24→Post (.agg ⟨[s23.v]⟩) W24))∧
 (Int.toNat a0=2→
 Aa1 Tryz.prog W0 M 49 [.int .i64 1] W0 fun v25 W26=>
 ∃s27:Sl,
 ∃b28:Bool,
 ∃s29:Sl,
 v25 = .agg ⟨[s27.v,.bool b28,s29.v]⟩∧
 ∀(s30:Sl) (W31:PW),
 Ext W26 W31→
 SX.Own W31 138 6 s30 [[.int .u8 0,.int .u8 0,.int .u8 1,s27.v,.bool b28,s29.v]]→
 Fr W0 W26 s30→Aa1 Tryz.prog W0 M 63 [s30.v] W31 fun v32 W33=>∃s34:Sl,v32 = .agg ⟨[s34.v]⟩∧∀(W35:PW),Ext W33 W35→Post (.agg ⟨[s34.v]⟩) W35)))
theorem Ct2 (W0:PW) (M:Nat→Prop) (a0:Int) (Post:Value→PW→Prop) (h:Ek3 W0 M a0 Post):Aa0 Tryz.prog 44 [.int .i64 a0] W0 M Post:=
 Aa3 rfl Aa9 Aa8 Tryz.func44 (cuts:=[]) rfl rfl (Nat.le_of_ble_eq_true rfl) (Eq.mpr (by kernel_rfl) h)
def Ei0 (W0:PW) (M:Nat→Prop) (a0_0:Sl) (a1_0:Sl) (Post:Value→PW→Prop):Prop:=
 ∀(s1:Sl) (W2:PW),
 Ext W0 W2→
 SX.Own W2 24 1 s1 [[a0_0.v],[a1_0.v]]→
 Fr W0 W0 s1→
 Aa1 Tryz.prog W0 M 71 [s1.v] W2 fun v3 W4=>
 ∃s5:Sl,v3=s5.v∧Aa1 Tryz.prog W0 M 63 [s5.v] W4 fun v6 W7=>∃s8:Sl,v6 = .agg ⟨[s8.v]⟩∧∀(W9:PW),Ext W7 W9→Post (.agg ⟨[s8.v]⟩) W9
theorem Cw7 (W0:PW) (M:Nat→Prop) (a0_0:Sl) (a1_0:Sl) (Post:Value→PW→Prop) (h:Ei0 W0 M a0_0 a1_0 Post):Aa0 Tryz.prog 19 [.agg #[a0_0.v],.agg #[a1_0.v]] W0 M Post:=
 Aa3 rfl Aa9 Aa8 Tryz.func19 (cuts:=[]) rfl rfl (Nat.le_of_ble_eq_true rfl) (Eq.mpr (by kernel_rfl) h)
def Ed5 (W0:PW) (M:Nat→Prop) (a0_0:Sl) (a1_0:Sl) (Post:Value→PW→Prop):Prop:=
 Aa1 Tryz.prog W0 M 49 [.int .i64 (-1:Int)] W0 fun v1 W2=>
 ∃s3:Sl,
 ∃b4:Bool,
 ∃s5:Sl,
 v1 = .agg ⟨[s3.v,.bool b4,s5.v]⟩∧
 Aa1 Tryz.prog W0 M 43 [.agg ⟨[a1_0.v]⟩,.agg ⟨[s3.v,.bool b4,s5.v]⟩] W2 fun v6 W7=>
 ∃s8:Sl,
 v6 = .agg ⟨[s8.v]⟩∧
 Aa1 Tryz.prog W0 M 19 [.agg ⟨[a0_0.v]⟩,.agg ⟨[s8.v]⟩] W7 fun v9 W10=>∃s11:Sl,v9 = .agg ⟨[s11.v]⟩∧∀(W12:PW),Ext W10 W12→Post (.agg ⟨[s11.v]⟩) W12
theorem Cs5 (W0:PW) (M:Nat→Prop) (a0_0:Sl) (a1_0:Sl) (Post:Value→PW→Prop) (h:Ed5 W0 M a0_0 a1_0 Post):Aa0 Tryz.prog 59 [.agg #[a0_0.v],.agg #[a1_0.v]] W0 M Post:=
 Aa3 rfl Aa9 Aa8 Tryz.func59 (cuts:=[]) rfl rfl (Nat.le_of_ble_eq_true rfl) (Eq.mpr (by kernel_rfl) h)
def Df8 (W0:PW) (M:Nat→Prop) (a0_0:Sl) (a1_0:Sl) (a1_1:Bool) (a1_2:Sl) (Post:Value→PW→Prop):Prop:=
 Aa1 Tryz.prog W0 M 66 [.agg ⟨[a0_0.v]⟩] W0 fun v1 W2=>
 ∃s3:Sl,
 v1=s3.v∧
 ∃(F4:List PL→PW→Prop),
 ∃(F5:List PL→PW→Nat),
 F4 [.val (.int .i64 0)] W2∧
 ∀(i6:Int) (W7:PW),
 F4 [.val (.int .i64 i6)] W7→
 (i6<(s3.2:Int)→
 inB s3 i6∧
 ∃s8:Sl,
 ∃b9:Bool,
 ∃s10:Sl,
 Aa7 W7 s3 6 (Int.toNat i6) 3 [s8.v,.bool b9,s10.v]∧
 Aa1 Tryz.prog W0 M 95 [.agg ⟨[s8.v,.bool b9,s10.v]⟩,.agg ⟨[a1_0.v,.bool a1_1,a1_2.v]⟩] W7 fun v11 W12=>
 ∃s13:Sl,
 ∃b14:Bool,
 ∃s15:Sl,
 v11 = .agg ⟨[s13.v,.bool b14,s15.v]⟩∧
 inB s3 i6∧An9 W0 M s3 (Int.toNat i6*6+3) [s13.v,.bool b14,s15.v] W12 fun(W16:PW)=>I64 (i6+1)∧stp F4 F5 [.val (.int .i64 (i6+1))] W16 [.val (.int .i64 i6)] W7)∧
 (¬i6<(s3.2:Int)→Aa1 Tryz.prog W0 M 63 [s3.v] W7 fun v17 W18=>∃s19:Sl,v17 = .agg ⟨[s19.v]⟩∧∀(W20:PW),Ext W18 W20→Post (.agg ⟨[s19.v]⟩) W20)
theorem Cb6 (W0:PW) (M:Nat→Prop) (a0_0:Sl) (a1_0:Sl) (a1_1:Bool) (a1_2:Sl) (Post:Value→PW→Prop) (h:Df8 W0 M a0_0 a1_0 a1_1 a1_2 Post):Aa0 Tryz.prog 43 [.agg #[a0_0.v],.agg #[a1_0.v,.bool a1_1,a1_2.v]] W0 M Post:=
 Aa3 rfl Aa9 Aa8 Tryz.func43 (cuts:=[]) rfl rfl (Nat.le_of_ble_eq_true rfl) (Eq.mpr (by kernel_rfl) h)
def Aj8 (W0:PW) (M:Nat→Prop) (a0:Sl) (Post:Value→PW→Prop):Prop:=
 ∃(F1:List PL→PW→Prop),
 ∃(F2:List PL→PW→Nat),
 F1 [.val (.int .i64 0),.val (.int .i64 0)] W0∧
 ∀(i3 i4:Int) (W5:PW),
 F1 [.val (.int .i64 i3),.val (.int .i64 i4)] W5→
 (i4<(a0.2:Int)→
 inB a0 i4∧
 ∃s6:Sl,
 Aa7 W5 a0 1 (Int.toNat i4) 0 [s6.v]∧
 I64 (i3+(s6.2:Int))∧
 (i3+(s6.2:Int)<0→False)∧(¬i3+(s6.2:Int)<0→I64 (i4+1)∧stp F1 F2 [.val (.int .i64 (i3+(s6.2:Int))),.val (.int .i64 (i4+1))] W5 [.val (.int .i64 i3),.val (.int .i64 i4)] W5))∧
 (¬i4<(a0.2:Int)→
 Aa1 Tryz.prog W0 M 139 [.slice none 0 0,.int .i64 i3] W5 fun v7 W8=>
 ∃s9:Sl,
 v7=s9.v∧
 ∃(F10:List PL→PW→Prop),
 ∃(F11:List PL→PW→Nat),
 F10 [.val s9.v,.val (.int .i64 0)] W8∧
 ∀(s12:Sl) (i13:Int) (W14:PW),
 F10 [.val s12.v,.val (.int .i64 i13)] W14→
 (i13<(a0.2:Int)→
 inB a0 i13∧
 ∃s15:Sl,
 Aa7 W14 a0 1 (Int.toNat i13) 0 [s15.v]∧
 ∃(l16:List (List Value)),
 Bf9 W14 6 s15 l16∧
 Es7 W0 M 138 6 64 s12 l16 W14 fun(s17:Sl) (W18:PW)=>I64 (i13+1)∧stp F10 F11 [.val s17.v,.val (.int .i64 (i13+1))] W18 [.val s12.v,.val (.int .i64 i13)] W14)∧
 (¬i13<(a0.2:Int)→∀(W19:PW),Ext W14 W19→Post s12.v W19))
theorem Ai2 (W0:PW) (M:Nat→Prop) (a0:Sl) (Post:Value→PW→Prop) (h:Aj8 W0 M a0 Post):Aa0 Tryz.prog 71 [a0.v] W0 M Post:=
 Aa3 rfl Aa9 Aa8 Tryz.func71 (cuts:=[]) rfl rfl (Nat.le_of_ble_eq_true rfl) (Eq.mpr (by kernel_rfl) h)
def Kf5 (W0:PW) (M:Nat→Prop) (a0:Sl) (a1:Sl) (Post:Value→PW→Prop):Prop:=
 ∃(F1:List PL→PW→Prop),
 ∃(F2:List PL→PW→Nat),
 F1 [.val (.slice none 0 0),.val (.int .i64 0)] W0∧
 ∀(s3:Sl) (i4:Int) (W5:PW),
 F1 [.val s3.v,.val (.int .i64 i4)] W5→
 (i4<(a0.2:Int)→
 ∃(F6:List PL→PW→Prop),
 ∃(F7:List PL→PW→Nat),
 F6 [.val s3.v,.val (.int .i64 0)] W5∧
 ∀(s8:Sl) (i9:Int) (W10:PW),
 F6 [.val s8.v,.val (.int .i64 i9)] W10→
 (i9<(a1.2:Int)→
 inB a0 i4∧
 ∃i11:Int,
 ∃i12:Int,
 ∃i13:Int,
 Aa7 W10 a0 6 (Int.toNat i4) 0 [.int .u8 i11,.int .u8 i12,.int .u8 i13]∧
 inB a1 i9∧
 ∃i14:Int,
 ∃i15:Int,
 ∃i16:Int,
 Aa7 W10 a1 6 (Int.toNat i9) 0 [.int .u8 i14,.int .u8 i15,.int .u8 i16]∧
 Aa1 Tryz.prog W0 M 198 [.agg ⟨[.int .u8 i11,.int .u8 i12,.int .u8 i13]⟩,.agg ⟨[.int .u8 i14,.int .u8 i15,.int .u8 i16]⟩] W10 fun v17 W18=>
 ∃i19:Int,
 ∃i20:Int,
 ∃i21:Int,
 ∃b22:Bool,
 v17 = .tuple ⟨[.agg ⟨[.int .u8 i19,.int .u8 i20,.int .u8 i21]⟩,.bool b22]⟩∧
 ((!b22)=true→∀(W23:PW),Ext W18 W23→Post (.tuple ⟨[.slice none 0 0,.bool false]⟩) W23)∧
 ((!b22)=false→
 inB a0 i4∧
 ∃b24:Bool,
 ∃s25:Sl,
 ∃s26:Sl,
 Aa7 W18 a0 6 (Int.toNat i4) 3 [.bool b24,s25.v,s26.v]∧
 inB a1 i9∧
 ∃b27:Bool,
 ∃s28:Sl,
 ∃s29:Sl,
 Aa7 W18 a1 6 (Int.toNat i9) 3 [.bool b27,s28.v,s29.v]∧
 Aa1 Tryz.prog W0 M 88 [.agg ⟨[.bool b24,s25.v,s26.v]⟩,.agg ⟨[.bool b27,s28.v,s29.v]⟩] W18 fun v30 W31=>
 ∃b32:Bool,
 ∃s33:Sl,
 ∃s34:Sl,
 v30 = .agg ⟨[.bool b32,s33.v,s34.v]⟩∧
 Aa1 Tryz.prog W0 M 62 [s8.v,.agg ⟨[.int .u8 i19,.int .u8 i20,.int .u8 i21,.bool b32,s33.v,s34.v]⟩] W31 fun v35 W36=>
 ∃s37:Sl,v35=s37.v∧I64 (i9+1)∧stp F6 F7 [.val s37.v,.val (.int .i64 (i9+1))] W36 [.val s8.v,.val (.int .i64 i9)] W10))∧
 (¬i9<(a1.2:Int)→I64 (i4+1)∧stp F1 F2 [.val s8.v,.val (.int .i64 (i4+1))] W10 [.val s3.v,.val (.int .i64 i4)] W5))∧
 (¬i4<(a0.2:Int)→∀(W38:PW),Ext W5 W38→Post (.tuple ⟨[s3.v,.bool true]⟩) W38)
theorem Kd2 (W0:PW) (M:Nat→Prop) (a0:Sl) (a1:Sl) (Post:Value→PW→Prop) (h:Kf5 W0 M a0 a1 Post):Aa0 Tryz.prog 151 [a0.v,a1.v] W0 M Post:=
 Aa3 rfl Aa9 Aa8 Tryz.func151 (cuts:=[]) rfl rfl (Nat.le_of_ble_eq_true rfl) (Eq.mpr (by kernel_rfl) h)
end Go.Proofs.YtokefihiadbkbaaGreatDoor
