/- R9 -/
import Derived.Test.YtahohahjnhfedaaGreatDoorTt
set_option linter.unusedVariables false
set_option linter.unusedSimpArgs false
set_option maxRecDepth 100000
namespace Go.Proofs.YtahohahjnhfedaaGreatDoor
open Go Go.SX
def Gi7 (W0:PW) (M:Nat→Prop) (a0:Sl) (a1:Sl) (Post:Value→PW→Prop):Prop:=
 ((a0.2:Int)≠(a1.2:Int)→∀(W1:PW),Ext W0 W1→Post (Value.bool false) W1)∧
 (¬(a0.2:Int)≠(a1.2:Int)→
 ∃(F2:List PL→PW→Prop),
 ∃(F3:List PL→PW→Nat),
 F2 [PL.val (Value.int .i64 0)] W0∧
 ∀(i4:Int) (W5:PW),
 F2 [PL.val (Value.int .i64 i4)] W5→
 (i4<(a0.2:Int)→
 inB a0 i4∧
 ∃i6:Int,
 ∃i7:Int,
 ∃i8:Int,
 ∃t9:ByteArray,
 Aa7 W5 a0 4 (Int.toNat i4) 0 [Value.int .u8 i6,Value.int .u8 i7,Value.int .u8 i8,Value.string t9]∧
 inB a1 i4∧
 ∃i10:Int,
 ∃i11:Int,
 ∃i12:Int,
 ∃t13:ByteArray,
 Aa7 W5 a1 4 (Int.toNat i4) 0 [Value.int .u8 i10,Value.int .u8 i11,Value.int .u8 i12,Value.string t13]∧
 ([Value.int .u8 i6,Value.int .u8 i7,Value.int .u8 i8,Value.string t9]≠[Value.int .u8 i10,Value.int .u8 i11,Value.int .u8 i12,Value.string t13]→∀(W14:PW),Ext W5 W14→Post (Value.bool false) W14)∧
 (¬[Value.int .u8 i6,Value.int .u8 i7,Value.int .u8 i8,Value.string t9]≠[Value.int .u8 i10,Value.int .u8 i11,Value.int .u8 i12,Value.string t13]→
 I64 (i4+1)∧stp F2 F3 [PL.val (Value.int .i64 (i4+1))] W5 [PL.val (Value.int .i64 i4)] W5))∧
 (¬i4<(a0.2:Int)→∀(W15:PW),Ext W5 W15→Post (Value.bool true) W15))
theorem Gg8 (W0:PW) (M:Nat→Prop) (a0:Sl) (a1:Sl) (Post:Value→PW→Prop) (h:Gi7 W0 M a0 a1 Post):Aa0 Tryz.prog 65 [a0.v,a1.v] W0 M Post:=
 Aa3 rfl Aa9 Aa8 Tryz.func65 (cuts:=[]) rfl rfl (Nat.le_of_ble_eq_true rfl) (Eq.mpr (by kernel_rfl) h)
def Ga2 (W0:PW) (M:Nat→Prop) (a0:Int) (a1:Int) (a2:Int) (Post:Value→PW→Prop):Prop:=
 I64 (a2-a1)∧
 I64 (a2-a1+1)∧
 a2-a1+1≠0∧
 (Int.tmod a0 (a2-a1+1)<0→
 I64 (a2-a1)∧I64 (a2-a1+1)∧I64 (Int.tmod a0 (a2-a1+1)+(a2-a1+1))∧I64 (a1+(Int.tmod a0 (a2-a1+1)+(a2-a1+1)))∧∀(W1:PW),Ext W0 W1→Post (.int .i64 (a1+(Int.tmod a0 (a2-a1+1)+(a2-a1+1)))) W1)∧
 (¬Int.tmod a0 (a2-a1+1)<0→I64 (a1+Int.tmod a0 (a2-a1+1))∧∀(W2:PW),Ext W0 W2→Post (.int .i64 (a1+Int.tmod a0 (a2-a1+1))) W2)
theorem Fy2 (W0:PW) (M:Nat→Prop) (a0:Int) (a1:Int) (a2:Int) (Post:Value→PW→Prop) (h:Ga2 W0 M a0 a1 a2 Post):Aa0 Tryz.prog 8 [.int .i64 a0,.int .i64 a1,.int .i64 a2] W0 M Post:=
 Aa3 rfl Aa9 Aa8 Tryz.func8 (cuts:=[]) rfl rfl (Nat.le_of_ble_eq_true rfl) (Eq.mpr (by kernel_rfl) h)
def Ko4 (W0:PW) (M:Nat→Prop) (a0_0:Sl) (a1:Sl) (Post:Value→PW→Prop):Prop:=
 Aa1 Tryz.prog W0 M 66 [.agg ⟨[a0_0.v]⟩] W0 fun v1 W2=>
 ∃s3:Sl,
 v1=s3.v∧Aa1 Tryz.prog W0 M 67 [a1.v] W2 fun v4 W5=>∃s6:Sl,v4=s6.v∧Aa1 Tryz.prog W0 M 65 [s3.v,s6.v] W5 fun v7 W8=>∃b9:Bool,v7 = .bool b9∧∀(W10:PW),Ext W8 W10→Post (.bool b9) W10
theorem Kj5 (W0:PW) (M:Nat→Prop) (a0_0:Sl) (a1:Sl) (Post:Value→PW→Prop) (h:Ko4 W0 M a0_0 a1 Post):Aa0 Tryz.prog 24 [.agg #[a0_0.v],a1.v] W0 M Post:=
 Aa3 rfl Aa9 Aa8 Tryz.func24 (cuts:=[]) rfl rfl (Nat.le_of_ble_eq_true rfl) (Eq.mpr (by kernel_rfl) h)
def Ak2 (W0:PW) (M:Nat→Prop) (a0:Sl) (Post:Value→PW→Prop):Prop:=
 (a0.1=none→∀(W1:PW),Ext W0 W1→Post (.slice none 0 0) W1)∧
 (¬a0.1=none→∃(l2:List (List Value)),Bf9 W0 6 a0 l2∧(0+List.length l2)*64≤140737488355328∧∀(s3:Sl) (W4:PW),Ext W0 W4→SX.Own W4 127 6 s3 ([] ++ l2)→Fr W0 W0 s3→∀(W5:PW),Ext W4 W5→Post s3.v W5)
theorem Ai9 (W0:PW) (M:Nat→Prop) (a0:Sl) (Post:Value→PW→Prop) (h:Ak2 W0 M a0 Post):Aa0 Tryz.prog 148 [a0.v] W0 M Post:=
 Aa3 rfl Aa9 Aa8 Tryz.func148 (cuts:=[]) rfl rfl (Nat.le_of_ble_eq_true rfl) (Eq.mpr (by kernel_rfl) h)
def Bn7 (W0:PW) (M:Nat→Prop) (a0_0:Sl) (Post:Value→PW→Prop):Prop:=
 Aa1 Tryz.prog W0 M 148 [a0_0.v] W0 fun v1 W2=>∃s3:Sl,v1=s3.v∧∀(W4:PW),Ext W2 W4→Post s3.v W4
theorem Bc4 (W0:PW) (M:Nat→Prop) (a0_0:Sl) (Post:Value→PW→Prop) (h:Bn7 W0 M a0_0 Post):Aa0 Tryz.prog 118 [.agg #[a0_0.v]] W0 M Post:=
 Aa3 rfl Aa9 Aa8 Tryz.func118 (cuts:=[]) rfl rfl (Nat.le_of_ble_eq_true rfl) (Eq.mpr (by kernel_rfl) h)
def En7 (W0:PW) (M:Nat→Prop) (a0_0:Sl) (a1_0:Sl) (Post:Value→PW→Prop):Prop:=
 Cj7 W0 W0 fun(n1:Nat) (W2:PW)=>
 ∃(F3:List PL→PW→Prop),
 ∃(F4:List PL→PW→Nat),
 F3 [.val (.int .i64 0),.cells [.slice none 0 0]] W2∧
 ∀(s5:Sl) (i6:Int) (W7:PW),
 F3 [.val (.int .i64 i6),.cells [s5.v]] W7→
 (i6<(a0_0.2:Int)→
 inB a0_0 i6∧
 ∃i8:Int,
 ∃i9:Int,
 ∃i10:Int,
 ∃s11:Sl,
 ∃b12:Bool,
 ∃s13:Sl,
 Aa7 W7 a0_0 6 (Int.toNat i6) 0 [.int .u8 i8,.int .u8 i9,.int .u8 i10,s11.v,.bool b12,s13.v]∧
 ∃(F14:List PL→PW→Prop),
 ∃(F15:List PL→PW→Nat),
 F14 [.val (.int .i64 0),.cells [s5.v]] W7∧
 ∀(s16:Sl) (i17:Int) (W18:PW),
 F14 [.val (.int .i64 i17),.cells [s16.v]] W18→
 (i17<(a1_0.2:Int)→
 inB a1_0 i17∧
 ∃i19:Int,
 ∃i20:Int,
 ∃i21:Int,
 ∃s22:Sl,
 ∃b23:Bool,
 ∃s24:Sl,
 Aa7 W18 a1_0 6 (Int.toNat i17) 0 [.int .u8 i19,.int .u8 i20,.int .u8 i21,s22.v,.bool b23,s24.v]∧
 Aa1 Tryz.prog W0 M 133 [.agg ⟨[.int .u8 i8,.int .u8 i9,.int .u8 i10]⟩,.agg ⟨[.int .u8 i19,.int .u8 i20,.int .u8 i21]⟩] W18
 fun v25 W26=>
 ∃i27:Int,
 ∃i28:Int,
 ∃i29:Int,
 ∃b30:Bool,
 v25 = .tuple ⟨[.agg ⟨[.int .u8 i27,.int .u8 i28,.int .u8 i29]⟩,.bool b30]⟩∧
 ((!b30)=true→∀(W31:PW),Ext W26 W31→Post (.tuple ⟨[.agg ⟨[.slice none 0 0]⟩,.bool false]⟩) W31)∧
 ((!b30)=false→
 Aa1 Tryz.prog W0 M 11 [.agg ⟨[s11.v,.bool b12,s13.v]⟩,.agg ⟨[s22.v,.bool b23,s24.v]⟩] W26 fun v32 W33=>
 ∃s34:Sl,
 ∃b35:Bool,
 ∃s36:Sl,
 v32 = .agg ⟨[s34.v,.bool b35,s36.v]⟩∧
 Aa1 Tryz.prog W0 M 103 [.map (some n1),.agg ⟨[.int .u8 i27,.int .u8 i28,.int .u8 i29]⟩,.agg ⟨[s34.v,.bool b35,s36.v]⟩] W33
 fun v37 W38=>
 v37 = .tuple ⟨[]⟩∧I64 (i17+1)∧stp F14 F15 [.val (.int .i64 (i17+1)),.cells [s16.v]] W38 [.val (.int .i64 i17),.cells [s16.v]] W18))∧
 (¬i17<(a1_0.2:Int)→I64 (i6+1)∧stp F3 F4 [.val (.int .i64 (i6+1)),.cells [s16.v]] W18 [.val (.int .i64 i6),.cells [s5.v]] W7))∧
 (¬i6<(a0_0.2:Int)→Aa1 Tryz.prog W0 M 104 [.map (some n1)] W7 fun v39 W40=>∃s41:Sl,v39 = .agg ⟨[s41.v]⟩∧∀(W42:PW),Ext W40 W42→Post (.tuple ⟨[.agg ⟨[s41.v]⟩,.bool true]⟩) W42)
theorem Dc0 (W0:PW) (M:Nat→Prop) (a0_0:Sl) (a1_0:Sl) (Post:Value→PW→Prop) (h:En7 W0 M a0_0 a1_0 Post):Aa0 Tryz.prog 100 [.agg #[a0_0.v],.agg #[a1_0.v]] W0 M Post:=
 Aa3 rfl Aa9 Aa8 Tryz.func100 (cuts:=[]) rfl rfl (Nat.le_of_ble_eq_true rfl) (Eq.mpr (by kernel_rfl) h)
def Gr4 (W0:PW) (M:Nat→Prop) (a0_0:Sl) (a0_1:Bool) (a0_2:Sl) (Post:Value→PW→Prop):Prop:=
 ∀(s1:Sl) (W2:PW),
 Ext W0 W2→
 SX.Own W2 127 6 s1 [[.int .u8 0,.int .u8 0,.int .u8 0,a0_0.v,.bool a0_1,a0_2.v]]→
 Fr W0 W0 s1→Aa1 Tryz.prog W0 M 63 [s1.v] W2 fun v3 W4=>∃s5:Sl,v3 = .agg ⟨[s5.v]⟩∧∀(W6:PW),Ext W4 W6→Post (.agg ⟨[s5.v]⟩) W6
theorem Gk3 (W0:PW) (M:Nat→Prop) (a0_0:Sl) (a0_1:Bool) (a0_2:Sl) (Post:Value→PW→Prop) (h:Gr4 W0 M a0_0 a0_1 a0_2 Post):Aa0 Tryz.prog 22 [.agg #[a0_0.v,.bool a0_1,a0_2.v]] W0 M Post:=
 Aa3 rfl Aa9 Aa8 Tryz.func22 (cuts:=[]) rfl rfl (Nat.le_of_ble_eq_true rfl) (Eq.mpr (by kernel_rfl) h)
def Ek3 (W0:PW) (M:Nat→Prop) (a0:Int) (Post:Value→PW→Prop):Prop:=
 (a0<0→∀(W1:PW),Ext W0 W1→Post (.agg ⟨[.slice none 0 0]⟩) W1)∧
 (¬a0<0→
 (3≤a0→∀(W2:PW),Ext W0 W2→Post (.agg ⟨[.slice none 0 0]⟩) W2)∧
 (¬3≤a0→
 (0≤a0∧a0<3)∧
 Int.toNat a0<3∧
 ((True∧
 (Int.toNat a0=0→
 Aa1 Tryz.prog W0 M 23 [.int .i64 1] W0 fun v3 W4=>
 ∃s5:Sl,
 ∃b6:Bool,
 ∃s7:Sl,
 v3 = .agg ⟨[s5.v,.bool b6,s7.v]⟩∧
 ∀(s8:Sl) (W9:PW),
 Ext W4 W9→
 SX.Own W9 127 6 s8 [[.int .u8 1,.int .u8 0,.int .u8 0,s5.v,.bool b6,s7.v]]→
 Fr W0 W4 s8→Aa1 Tryz.prog W0 M 63 [s8.v] W9 fun v10 W11=>∃s12:Sl,v10 = .agg ⟨[s12.v]⟩∧∀(W13:PW),Ext W11 W13→Post (.agg ⟨[s12.v]⟩) W13))∧
 (Int.toNat a0=1→
 Aa1 Tryz.prog W0 M 23 [.int .i64 1] W0 fun v14 W15=>
 ∃s16:Sl,
 ∃b17:Bool,
 ∃s18:Sl,
 v14 = .agg ⟨[s16.v,.bool b17,s18.v]⟩∧
 ∀(s19:Sl) (W20:PW),
 Ext W15 W20→
 SX.Own W20 127 6 s19 [[.int .u8 0,.int .u8 1,.int .u8 0,s16.v,.bool b17,s18.v]]→
 Fr W0 W15 s19→Aa1 Tryz.prog W0 M 63 [s19.v] W20 fun v21 W22=>∃s23:Sl,v21 = .agg ⟨[s23.v]⟩∧∀(W24:PW),Ext W22 W24→Post (.agg ⟨[s23.v]⟩) W24))∧
 (Int.toNat a0=2→
 Aa1 Tryz.prog W0 M 23 [.int .i64 1] W0 fun v25 W26=>
 ∃s27:Sl,
 ∃b28:Bool,
 ∃s29:Sl,
 v25 = .agg ⟨[s27.v,.bool b28,s29.v]⟩∧
 ∀(s30:Sl) (W31:PW),
 Ext W26 W31→
 SX.Own W31 127 6 s30 [[.int .u8 0,.int .u8 0,.int .u8 1,s27.v,.bool b28,s29.v]]→
 Fr W0 W26 s30→Aa1 Tryz.prog W0 M 63 [s30.v] W31 fun v32 W33=>∃s34:Sl,v32 = .agg ⟨[s34.v]⟩∧∀(W35:PW),Ext W33 W35→Post (.agg ⟨[s34.v]⟩) W35)))
theorem Ct2 (W0:PW) (M:Nat→Prop) (a0:Int) (Post:Value→PW→Prop) (h:Ek3 W0 M a0 Post):Aa0 Tryz.prog 28 [.int .i64 a0] W0 M Post:=
 Aa3 rfl Aa9 Aa8 Tryz.func28 (cuts:=[]) rfl rfl (Nat.le_of_ble_eq_true rfl) (Eq.mpr (by kernel_rfl) h)
def Ei0 (W0:PW) (M:Nat→Prop) (a0_0:Sl) (a1_0:Sl) (Post:Value→PW→Prop):Prop:=
 ∀(s1:Sl) (W2:PW),
 Ext W0 W2→
 SX.Own W2 70 1 s1 [[a0_0.v],[a1_0.v]]→
 Fr W0 W0 s1→
 Aa1 Tryz.prog W0 M 134 [s1.v] W2 fun v3 W4=>
 ∃s5:Sl,v3=s5.v∧Aa1 Tryz.prog W0 M 63 [s5.v] W4 fun v6 W7=>∃s8:Sl,v6 = .agg ⟨[s8.v]⟩∧∀(W9:PW),Ext W7 W9→Post (.agg ⟨[s8.v]⟩) W9
theorem Cw7 (W0:PW) (M:Nat→Prop) (a0_0:Sl) (a1_0:Sl) (Post:Value→PW→Prop) (h:Ei0 W0 M a0_0 a1_0 Post):Aa0 Tryz.prog 102 [.agg #[a0_0.v],.agg #[a1_0.v]] W0 M Post:=
 Aa3 rfl Aa9 Aa8 Tryz.func102 (cuts:=[]) rfl rfl (Nat.le_of_ble_eq_true rfl) (Eq.mpr (by kernel_rfl) h)
def Aj8 (W0:PW) (M:Nat→Prop) (a0:Sl) (Post:Value→PW→Prop):Prop:=
 ∃(F1:List PL→PW→Prop),
 ∃(F2:List PL→PW→Nat),
 F1 [.val (.int .i64 0),.val (.int .i64 0)] W0∧
 ∀(i3 i4:Int) (W5:PW),
 F1 [.val (.int .i64 i3),.val (.int .i64 i4)] W5→
 (i4<(a0.2:Int)→
 inB a0 i4∧
 ∃s6:Sl,
 Aa7 W5 a0 1 (Int.toNat i4) 0 [s6.v]∧
 I64 (i3+(s6.2:Int))∧
 (i3+(s6.2:Int)<0→False)∧(¬i3+(s6.2:Int)<0→I64 (i4+1)∧stp F1 F2 [.val (.int .i64 (i3+(s6.2:Int))),.val (.int .i64 (i4+1))] W5 [.val (.int .i64 i3),.val (.int .i64 i4)] W5))∧
 (¬i4<(a0.2:Int)→
 Aa1 Tryz.prog W0 M 157 [.slice none 0 0,.int .i64 i3] W5 fun v7 W8=>
 ∃s9:Sl,
 v7=s9.v∧
 ∃(F10:List PL→PW→Prop),
 ∃(F11:List PL→PW→Nat),
 F10 [.val s9.v,.val (.int .i64 0)] W8∧
 ∀(s12:Sl) (i13:Int) (W14:PW),
 F10 [.val s12.v,.val (.int .i64 i13)] W14→
 (i13<(a0.2:Int)→
 inB a0 i13∧
 ∃s15:Sl,
 Aa7 W14 a0 1 (Int.toNat i13) 0 [s15.v]∧
 ∃(l16:List (List Value)),
 Bf9 W14 6 s15 l16∧
 Es7 W0 M 127 6 64 s12 l16 W14 fun(s17:Sl) (W18:PW)=>I64 (i13+1)∧stp F10 F11 [.val s17.v,.val (.int .i64 (i13+1))] W18 [.val s12.v,.val (.int .i64 i13)] W14)∧
 (¬i13<(a0.2:Int)→∀(W19:PW),Ext W14 W19→Post s12.v W19))
theorem Ai2 (W0:PW) (M:Nat→Prop) (a0:Sl) (Post:Value→PW→Prop) (h:Aj8 W0 M a0 Post):Aa0 Tryz.prog 134 [a0.v] W0 M Post:=
 Aa3 rfl Aa9 Aa8 Tryz.func134 (cuts:=[]) rfl rfl (Nat.le_of_ble_eq_true rfl) (Eq.mpr (by kernel_rfl) h)
def Hm3 (W0:PW) (M:Nat→Prop) (a0_0:Sl) (a1:Int) (Post:Value→PW→Prop):Prop:=
 (a1<0→∀(W1:PW),Ext W0 W1→Post (.agg ⟨[.slice none 0 0]⟩) W1)∧
 (¬a1<0→
 (3≤a1→∀(W2:PW),Ext W0 W2→Post (.agg ⟨[.slice none 0 0]⟩) W2)∧
 (¬3≤a1→
 ∃(F3:List PL→PW→Prop),
 ∃(F4:List PL→PW→Nat),
 F3 [.row [],.val (.int .i64 0)] W0∧
 ∀(l5:List (List Value)) (i6:Int) (W7:PW),
 F3 [.row l5,.val (.int .i64 i6)] W7→
 (i6<(a0_0.2:Int)→
 inB a0_0 i6∧
 ∃i8:Int,
 ∃i9:Int,
 ∃i10:Int,
 ∃s11:Sl,
 ∃b12:Bool,
 ∃s13:Sl,
 Aa7 W7 a0_0 6 (Int.toNat i6) 0 [.int .u8 i8,.int .u8 i9,.int .u8 i10,s11.v,.bool b12,s13.v]∧
 (0≤a1∧a1<3)∧
 ∃i14:Int,
 As9 [.int .u8 i8,.int .u8 i9,.int .u8 i10,s11.v,.bool b12,s13.v] (0+Int.toNat a1*1+0) [.int .u8 i14]∧
 (0<i14→
 (0≤a1∧a1<3)∧
 ∃i15:Int,
 As9 [.int .u8 i8,.int .u8 i9,.int .u8 i10,s11.v,.bool b12,s13.v] (0+Int.toNat a1*1+0) [.int .u8 i15]∧
 (0≤a1∧a1<3)∧
 Int.toNat a1<3∧
 ((True∧
 (Int.toNat a1=0→
 I64 i14∧
 Aa1 Tryz.prog W0 M 23 [.int .i64 i14] W7 fun v16 W17=>
 ∃s18:Sl,
 ∃b19:Bool,
 ∃s20:Sl,
 v16 = .agg ⟨[s18.v,.bool b19,s20.v]⟩∧
 Aa1 Tryz.prog W0 M 11 [.agg ⟨[s11.v,.bool b12,s13.v]⟩,.agg ⟨[s18.v,.bool b19,s20.v]⟩] W17 fun v21 W22=>
 ∃s23:Sl,
 ∃b24:Bool,
 ∃s25:Sl,
 v21 = .agg ⟨[s23.v,.bool b24,s25.v]⟩∧
 (List.length l5+List.length [[.int .u8 (IntKind.wrap .u8 (i15-1)),.int .u8 i9,.int .u8 i10,s23.v,.bool b24,s25.v]])*64≤140737488355328∧
 I64 (i6+1)∧
 stp F3 F4 [.row (l5 ++ [[.int .u8 (IntKind.wrap .u8 (i15-1)),.int .u8 i9,.int .u8 i10,s23.v,.bool b24,s25.v]]),.val (.int .i64 (i6+1))] W22
 [.row l5,.val (.int .i64 i6)] W7))∧
 (Int.toNat a1=1→
 I64 i14∧
 Aa1 Tryz.prog W0 M 23 [.int .i64 i14] W7 fun v26 W27=>
 ∃s28:Sl,
 ∃b29:Bool,
 ∃s30:Sl,
 v26 = .agg ⟨[s28.v,.bool b29,s30.v]⟩∧
 Aa1 Tryz.prog W0 M 11 [.agg ⟨[s11.v,.bool b12,s13.v]⟩,.agg ⟨[s28.v,.bool b29,s30.v]⟩] W27 fun v31 W32=>
 ∃s33:Sl,
 ∃b34:Bool,
 ∃s35:Sl,
 v31 = .agg ⟨[s33.v,.bool b34,s35.v]⟩∧
 (List.length l5+List.length [[.int .u8 i8,.int .u8 (IntKind.wrap .u8 (i15-1)),.int .u8 i10,s33.v,.bool b34,s35.v]])*64≤140737488355328∧
 I64 (i6+1)∧
 stp F3 F4 [.row (l5 ++ [[.int .u8 i8,.int .u8 (IntKind.wrap .u8 (i15-1)),.int .u8 i10,s33.v,.bool b34,s35.v]]),.val (.int .i64 (i6+1))] W32
 [.row l5,.val (.int .i64 i6)] W7))∧
 (Int.toNat a1=2→
 I64 i14∧
 Aa1 Tryz.prog W0 M 23 [.int .i64 i14] W7 fun v36 W37=>
 ∃s38:Sl,
 ∃b39:Bool,
 ∃s40:Sl,
 v36 = .agg ⟨[s38.v,.bool b39,s40.v]⟩∧
 Aa1 Tryz.prog W0 M 11 [.agg ⟨[s11.v,.bool b12,s13.v]⟩,.agg ⟨[s38.v,.bool b39,s40.v]⟩] W37 fun v41 W42=>
 ∃s43:Sl,
 ∃b44:Bool,
 ∃s45:Sl,
 v41 = .agg ⟨[s43.v,.bool b44,s45.v]⟩∧
 (List.length l5+List.length [[.int .u8 i8,.int .u8 i9,.int .u8 (IntKind.wrap .u8 (i15-1)),s43.v,.bool b44,s45.v]])*64≤140737488355328∧
 I64 (i6+1)∧
 stp F3 F4 [.row (l5 ++ [[.int .u8 i8,.int .u8 i9,.int .u8 (IntKind.wrap .u8 (i15-1)),s43.v,.bool b44,s45.v]]),.val (.int .i64 (i6+1))] W42
 [.row l5,.val (.int .i64 i6)] W7))∧
 (¬0<i14→I64 (i6+1)∧stp F3 F4 [.row l5,.val (.int .i64 (i6+1))] W7 [.row l5,.val (.int .i64 i6)] W7))∧
 (¬i6<(a0_0.2:Int)→
 ∀(s46:Sl) (W47:PW),
 Ext W7 W47→SX.Own W47 127 6 s46 l5→Fr W0 W7 s46→Aa1 Tryz.prog W0 M 63 [s46.v] W47 fun v48 W49=>∃s50:Sl,v48 = .agg ⟨[s50.v]⟩∧∀(W51:PW),Ext W49 W51→Post (.agg ⟨[s50.v]⟩) W51)))
theorem Hh0 (W0:PW) (M:Nat→Prop) (a0_0:Sl) (a1:Int) (Post:Value→PW→Prop) (h:Hm3 W0 M a0_0 a1 Post):Aa0 Tryz.prog 101 [.agg #[a0_0.v],.int .i64 a1] W0 M Post:=
 Aa3 rfl Aa9 Aa8 Tryz.func101 (cuts:=[]) rfl rfl (Nat.le_of_ble_eq_true rfl) (Eq.mpr (by kernel_rfl) h)
def Dy1 (W0:PW) (M:Nat→Prop) (a0_0:Sl) (Post:Value→PW→Prop):Prop:=
 ∃(F1:List PL→PW→Prop),
 ∃(F2:List PL→PW→Nat),
 F1 [.val (.int .i64 0),.val (.int .i64 0)] W0∧
 ∀(i3 i4:Int) (W5:PW),
 F1 [.val (.int .i64 i3),.val (.int .i64 i4)] W5→
 (i4<(a0_0.2:Int)→
 inB a0_0 i4∧
 ∃i6:Int,
 ∃i7:Int,
 ∃i8:Int,
 ∃s9:Sl,
 ∃b10:Bool,
 ∃s11:Sl,
 Aa7 W5 a0_0 6 (Int.toNat i4) 0 [.int .u8 i6,.int .u8 i7,.int .u8 i8,s9.v,.bool b10,s11.v]∧
 Aa1 Tryz.prog W0 M 110 [.agg ⟨[.int .u8 i6,.int .u8 i7,.int .u8 i8]⟩] W5 fun v12 W13=>
 ∃i14:Int,v12 = .int .i64 i14∧I64 (i4+1)∧stp F1 F2 [.val (.int .i64 (mx i3 i14)),.val (.int .i64 (i4+1))] W13 [.val (.int .i64 i3),.val (.int .i64 i4)] W5)∧
 (¬i4<(a0_0.2:Int)→∀(W15:PW),Ext W5 W15→Post (.int .i64 i3) W15)
theorem Cn0 (W0:PW) (M:Nat→Prop) (a0_0:Sl) (Post:Value→PW→Prop) (h:Dy1 W0 M a0_0 Post):Aa0 Tryz.prog 70 [.agg #[a0_0.v]] W0 M Post:=
 Aa3 rfl Aa9 Aa8 Tryz.func70 (cuts:=[]) rfl rfl (Nat.le_of_ble_eq_true rfl) (Eq.mpr (by kernel_rfl) h)
def Kj0 (W0:PW) (M:Nat→Prop) (a0_0:Bool) (a0_1:Sl) (a0_2:Sl) (Post:Value→PW→Prop):Prop:=
 Aa1 Tryz.prog W0 M 68 [.slice none 0 0,.agg ⟨[.int .u8 0,.int .u8 0,.int .u8 0,.bool a0_0,a0_1.v,a0_2.v]⟩] W0 fun v1 W2=>
 ∃s3:Sl,v1=s3.v∧∀(W4:PW),Ext W2 W4→Post s3.v W4
theorem Ke4 (W0:PW) (M:Nat→Prop) (a0_0:Bool) (a0_1:Sl) (a0_2:Sl) (Post:Value→PW→Prop) (h:Kj0 W0 M a0_0 a0_1 a0_2 Post):Aa0 Tryz.prog 25 [.agg #[.bool a0_0,a0_1.v,a0_2.v]] W0 M Post:=
 Aa3 rfl Aa9 Aa8 Tryz.func25 (cuts:=[]) rfl rfl (Nat.le_of_ble_eq_true rfl) (Eq.mpr (by kernel_rfl) h)
end Go.Proofs.YtahohahjnhfedaaGreatDoor
