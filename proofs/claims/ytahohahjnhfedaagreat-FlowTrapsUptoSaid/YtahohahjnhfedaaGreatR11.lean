/- R11 -/
import Derived.Test.YtahohahjnhfedaaGreatTt
set_option linter.unusedVariables false
set_option linter.unusedSimpArgs false
set_option maxRecDepth 100000
namespace Go.Proofs.YtahohahjnhfedaaGreat
open Go Go.SX
def Dy1 (W0:PW) (M:Nat→Prop) (a0_0:Sl) (Post:Value→PW→Prop):Prop:=
 ∃(F1:List PL→PW→Prop),
 ∃(F2:List PL→PW→Nat),
 F1 [.val (.int .i64 0),.val (.int .i64 0)] W0∧
 ∀(i3 i4:Int) (W5:PW),
 F1 [.val (.int .i64 i3),.val (.int .i64 i4)] W5→
 (i4<(a0_0.2:Int)→
 inB a0_0 i4∧
 ∃i6:Int,
 ∃i7:Int,
 ∃i8:Int,
 ∃s9:Sl,
 ∃b10:Bool,
 ∃s11:Sl,
 Aa7 W5 a0_0 6 (Int.toNat i4) 0 [.int .u8 i6,.int .u8 i7,.int .u8 i8,s9.v,.bool b10,s11.v]∧
 Aa1 Tryz.prog W0 M 160 [.agg ⟨[.int .u8 i6,.int .u8 i7,.int .u8 i8]⟩] W5 fun v12 W13=>
 ∃i14:Int,v12 = .int .i64 i14∧I64 (i4+1)∧stp F1 F2 [.val (.int .i64 (mx i3 i14)),.val (.int .i64 (i4+1))] W13 [.val (.int .i64 i3),.val (.int .i64 i4)] W5)∧
 (¬i4<(a0_0.2:Int)→∀(W15:PW),Ext W5 W15→Post (.int .i64 i3) W15)
theorem Cn0 (W0:PW) (M:Nat→Prop) (a0_0:Sl) (Post:Value→PW→Prop) (h:Dy1 W0 M a0_0 Post):Aa0 Tryz.prog 105 [.agg #[a0_0.v]] W0 M Post:=
 Aa3 rfl Aa9 Aa8 Tryz.func105 (cuts:=[]) rfl rfl (Nat.le_of_ble_eq_true rfl) (Eq.mpr (by kernel_rfl) h)
def Gk9 (W0:PW) (M:Nat→Prop) (a0_0:Int) (a0_1:Int) (a0_2:Int) (Post:Value→PW→Prop):Prop:=
 ∃(F1:List PL→PW→Prop),
 ∃(F2:List PL→PW→Nat),
 F1 [.val (.int .i64 0),.val (.int .i64 0)] W0∧
 ∀(i3 i4:Int) (W5:PW),
 F1 [.val (.int .i64 i3),.val (.int .i64 i4)] W5→
 (i4<3→
 (0≤i4∧i4<3)∧
 ∃i6:Int,
 As9 [.int .u8 a0_0,.int .u8 a0_1,.int .u8 a0_2] (0+Int.toNat i4*1+0) [.int .u8 i6]∧
 (0<i6→I64 (i4+1)∧I64 (i4+1)∧stp F1 F2 [.val (.int .i64 (i4+1)),.val (.int .i64 (i4+1))] W5 [.val (.int .i64 i3),.val (.int .i64 i4)] W5)∧
 (¬0<i6→I64 (i4+1)∧stp F1 F2 [.val (.int .i64 i3),.val (.int .i64 (i4+1))] W5 [.val (.int .i64 i3),.val (.int .i64 i4)] W5))∧
 (¬i4<3→∀(W7:PW),Ext W5 W7→Post (.int .i64 i3) W7)
theorem Gh2 (W0:PW) (M:Nat→Prop) (a0_0:Int) (a0_1:Int) (a0_2:Int) (Post:Value→PW→Prop) (h:Gk9 W0 M a0_0 a0_1 a0_2 Post):Aa0 Tryz.prog 182 [.agg #[.int .u8 a0_0,.int .u8 a0_1,.int .u8 a0_2]] W0 M Post:=
 Aa3 rfl Aa9 Aa8 Tryz.func182 (cuts:=[]) rfl rfl (Nat.le_of_ble_eq_true rfl) (Eq.mpr (by kernel_rfl) h)
def Kc3 (W0:PW) (M:Nat→Prop) (a0:Sl) (Post:Value→PW→Prop):Prop:=
 ∃(F1:List PL→PW→Prop),
 ∃(F2:List PL→PW→Nat),
 F1 [.val (.int .i64 (-1:Int)),.val (.int .i64 0)] W0∧
 ∀(i3 i4:Int) (W5:PW),
 F1 [.val (.int .i64 i3),.val (.int .i64 i4)] W5→
 (i4<(a0.2:Int)→
 inB a0 i4∧
 ∃i6:Int,
 ∃i7:Int,
 ∃i8:Int,
 Aa7 W5 a0 6 (Int.toNat i4) 0 [.int .u8 i6,.int .u8 i7,.int .u8 i8]∧
 Aa1 Tryz.prog W0 M 38 [.agg ⟨[.int .u8 i6,.int .u8 i7,.int .u8 i8]⟩] W5 fun v9 W10=>
 ∃i11:Int,v9 = .int .i64 i11∧I64 (i4+1)∧stp F1 F2 [.val (.int .i64 (mx i3 i11)),.val (.int .i64 (i4+1))] W10 [.val (.int .i64 i3),.val (.int .i64 i4)] W5)∧
 (¬i4<(a0.2:Int)→∀(W12:PW),Ext W5 W12→Post (.int .i64 i3) W12)
theorem Ka2 (W0:PW) (M:Nat→Prop) (a0:Sl) (Post:Value→PW→Prop) (h:Kc3 W0 M a0 Post):Aa0 Tryz.prog 9 [a0.v] W0 M Post:=
 Aa3 rfl Aa9 Aa8 Tryz.func9 (cuts:=[]) rfl rfl (Nat.le_of_ble_eq_true rfl) (Eq.mpr (by kernel_rfl) h)
def Gk6 (W0:PW) (M:Nat→Prop) (a0:Sl) (Post:Value→PW→Prop):Prop:=
 ∃(F1:List PL→PW→Prop),
 ∃(F2:List PL→PW→Nat),
 F1 [.val (.int .i64 0),.val (.int .i64 0)] W0∧
 ∀(i3 i4:Int) (W5:PW),
 F1 [.val (.int .i64 i3),.val (.int .i64 i4)] W5→
 (i4<(a0.2:Int)→
 inB a0 i4∧
 ∃i6:Int,
 ∃i7:Int,
 ∃i8:Int,
 Aa7 W5 a0 6 (Int.toNat i4) 0 [.int .u8 i6,.int .u8 i7,.int .u8 i8]∧
 Aa1 Tryz.prog W0 M 182 [.agg ⟨[.int .u8 i6,.int .u8 i7,.int .u8 i8]⟩] W5 fun v9 W10=>
 ∃i11:Int,v9 = .int .i64 i11∧I64 (i4+1)∧stp F1 F2 [.val (.int .i64 (mx i3 i11)),.val (.int .i64 (i4+1))] W10 [.val (.int .i64 i3),.val (.int .i64 i4)] W5)∧
 (¬i4<(a0.2:Int)→∀(W12:PW),Ext W5 W12→Post (.int .i64 i3) W12)
theorem Gh3 (W0:PW) (M:Nat→Prop) (a0:Sl) (Post:Value→PW→Prop) (h:Gk6 W0 M a0 Post):Aa0 Tryz.prog 142 [a0.v] W0 M Post:=
 Aa3 rfl Aa9 Aa8 Tryz.func142 (cuts:=[]) rfl rfl (Nat.le_of_ble_eq_true rfl) (Eq.mpr (by kernel_rfl) h)
def Jv5 (W0:PW) (M:Nat→Prop) (a0:Sl) (a1:Sl) (Post:Value→PW→Prop):Prop:=
 ∃(F1:List PL→PW→Prop),
 ∃(F2:List PL→PW→Nat),
 F1 [.val a0.v,.val (.int .i64 0)] W0∧
 ∀(s3:Sl) (i4:Int) (W5:PW),
 F1 [.val s3.v,.val (.int .i64 i4)] W5→
 (i4<(a1.2:Int)→
 inB a1 i4∧
 ∃i6:Int,
 ∃i7:Int,
 ∃i8:Int,
 ∃b9:Bool,
 ∃s10:Sl,
 ∃s11:Sl,
 Aa7 W5 a1 6 (Int.toNat i4) 0 [.int .u8 i6,.int .u8 i7,.int .u8 i8,.bool b9,s10.v,s11.v]∧
 Aa1 Tryz.prog W0 M 103 [s3.v,.agg ⟨[.int .u8 i6,.int .u8 i7,.int .u8 i8,.bool b9,s10.v,s11.v]⟩] W5 fun v12 W13=>
 ∃s14:Sl,v12=s14.v∧I64 (i4+1)∧stp F1 F2 [.val s14.v,.val (.int .i64 (i4+1))] W13 [.val s3.v,.val (.int .i64 i4)] W5)∧
 (¬i4<(a1.2:Int)→∀(W15:PW),Ext W5 W15→Post s3.v W15)
theorem Jv1 (W0:PW) (M:Nat→Prop) (a0:Sl) (a1:Sl) (Post:Value→PW→Prop) (h:Jv5 W0 M a0 a1 Post):Aa0 Tryz.prog 120 [a0.v,a1.v] W0 M Post:=
 Aa3 rfl Aa9 Aa8 Tryz.func120 (cuts:=[]) rfl rfl (Nat.le_of_ble_eq_true rfl) (Eq.mpr (by kernel_rfl) h)
def Km9 (W0:PW) (M:Nat→Prop) (a0:Int) (Post:Value→PW→Prop):Prop:=
 (a0<0→∀(W1:PW),Ext W0 W1→Post (.slice none 0 0) W1)∧
 (¬a0<0→
 (3≤a0→∀(W2:PW),Ext W0 W2→Post (.slice none 0 0) W2)∧
 (¬3≤a0→
 (0≤a0∧a0<3)∧
 Int.toNat a0<3∧
 ((True∧
 (Int.toNat a0=0→
 Aa1 Tryz.prog W0 M 35 [.int .i64 1] W0 fun v3 W4=>
 ∃b5:Bool,
 ∃s6:Sl,
 ∃s7:Sl,
 v3 = .agg ⟨[.bool b5,s6.v,s7.v]⟩∧
 ∀(s8:Sl) (W9:PW),Ext W4 W9→SX.Own W9 120 6 s8 [[.int .u8 1,.int .u8 0,.int .u8 0,.bool b5,s6.v,s7.v]]→Fr W0 W4 s8→∀(W10:PW),Ext W9 W10→Post s8.v W10))∧
 (Int.toNat a0=1→
 Aa1 Tryz.prog W0 M 35 [.int .i64 1] W0 fun v11 W12=>
 ∃b13:Bool,
 ∃s14:Sl,
 ∃s15:Sl,
 v11 = .agg ⟨[.bool b13,s14.v,s15.v]⟩∧
 ∀(s16:Sl) (W17:PW),Ext W12 W17→SX.Own W17 120 6 s16 [[.int .u8 0,.int .u8 1,.int .u8 0,.bool b13,s14.v,s15.v]]→Fr W0 W12 s16→∀(W18:PW),Ext W17 W18→Post s16.v W18))∧
 (Int.toNat a0=2→
 Aa1 Tryz.prog W0 M 35 [.int .i64 1] W0 fun v19 W20=>
 ∃b21:Bool,
 ∃s22:Sl,
 ∃s23:Sl,
 v19 = .agg ⟨[.bool b21,s22.v,s23.v]⟩∧
 ∀(s24:Sl) (W25:PW),Ext W20 W25→SX.Own W25 120 6 s24 [[.int .u8 0,.int .u8 0,.int .u8 1,.bool b21,s22.v,s23.v]]→Fr W0 W20 s24→∀(W26:PW),Ext W25 W26→Post s24.v W26)))
theorem Kh5 (W0:PW) (M:Nat→Prop) (a0:Int) (Post:Value→PW→Prop) (h:Km9 W0 M a0 Post):Aa0 Tryz.prog 78 [.int .i64 a0] W0 M Post:=
 Aa3 rfl Aa9 Aa8 Tryz.func78 (cuts:=[]) rfl rfl (Nat.le_of_ble_eq_true rfl) (Eq.mpr (by kernel_rfl) h)
def Kj0 (W0:PW) (M:Nat→Prop) (a0_0:Bool) (a0_1:Sl) (a0_2:Sl) (Post:Value→PW→Prop):Prop:=
 Aa1 Tryz.prog W0 M 103 [.slice none 0 0,.agg ⟨[.int .u8 0,.int .u8 0,.int .u8 0,.bool a0_0,a0_1.v,a0_2.v]⟩] W0 fun v1 W2=>
 ∃s3:Sl,v1=s3.v∧∀(W4:PW),Ext W2 W4→Post s3.v W4
theorem Ke4 (W0:PW) (M:Nat→Prop) (a0_0:Bool) (a0_1:Sl) (a0_2:Sl) (Post:Value→PW→Prop) (h:Kj0 W0 M a0_0 a0_1 a0_2 Post):Aa0 Tryz.prog 34 [.agg #[.bool a0_0,a0_1.v,a0_2.v]] W0 M Post:=
 Aa3 rfl Aa9 Aa8 Tryz.func34 (cuts:=[]) rfl rfl (Nat.le_of_ble_eq_true rfl) (Eq.mpr (by kernel_rfl) h)
def Kg5 (W0:PW) (M:Nat→Prop) (a0:Sl) (a1:Int) (Post:Value→PW→Prop):Prop:=
 (4<(a0.2:Int)→∀(W1:PW),Ext W0 W1→Post (.tuple ⟨[.slice none 0 0,.slice none 0 0,.bool false]⟩) W1)∧
 (¬4<(a0.2:Int)→
 ∃(F2:List PL→PW→Prop),
 ∃(F3:List PL→PW→Nat),
 F2 [.row [],.row [],.val (.int .i64 0)] W0∧
 ∀(l4 l5:List (List Value)) (i6:Int) (W7:PW),
 F2 [.row l4,.row l5,.val (.int .i64 i6)] W7→
 (i6<(a0.2:Int)→
 inB a0 i6∧
 ∃s8:Sl,
 Aa7 W7 a0 1 (Int.toNat i6) 0 [s8.v]∧
 Aa1 Tryz.prog W0 M 27 [s8.v,.int .i64 a1] W7 fun v9 W10=>
 ∃s11:Sl,
 ∃s12:Sl,
 ∃b13:Bool,
 v9 = .tuple ⟨[.agg ⟨[s11.v]⟩,s12.v,.bool b13]⟩∧
 ((!b13)=true→∀(W14:PW),Ext W10 W14→Post (.tuple ⟨[.slice none 0 0,.slice none 0 0,.bool false]⟩) W14)∧
 ((!b13)=false→
 (List.length l4+List.length [[s11.v]])*24≤140737488355328∧
 (List.length l5+List.length [[s12.v]])*24≤140737488355328∧
 I64 (i6+1)∧stp F2 F3 [.row (l4 ++ [[s11.v]]),.row (l5 ++ [[s12.v]]),.val (.int .i64 (i6+1))] W10 [.row l4,.row l5,.val (.int .i64 i6)] W7))∧
 (¬i6<(a0.2:Int)→
 ∀(s15:Sl) (W16:PW),
 Ext W7 W16→SX.Own W16 88 1 s15 l4→Fr W0 W7 s15→∀(s17:Sl) (W18:PW),Ext W16 W18→SX.Own W18 47 1 s17 l5→Fr W0 W16 s17→∀(W19:PW),Ext W18 W19→Post (.tuple ⟨[s15.v,s17.v,.bool true]⟩) W19))
theorem Kc1 (W0:PW) (M:Nat→Prop) (a0:Sl) (a1:Int) (Post:Value→PW→Prop) (h:Kg5 W0 M a0 a1 Post):Aa0 Tryz.prog 5 [a0.v,.int .i64 a1] W0 M Post:=
 Aa3 rfl Aa9 Aa8 Tryz.func5 (cuts:=[]) rfl rfl (Nat.le_of_ble_eq_true rfl) (Eq.mpr (by kernel_rfl) h)
end Go.Proofs.YtahohahjnhfedaaGreat
