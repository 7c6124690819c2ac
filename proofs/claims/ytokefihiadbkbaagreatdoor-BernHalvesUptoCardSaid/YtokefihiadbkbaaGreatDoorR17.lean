/- R17 -/
import Derived.Test.YtokefihiadbkbaaGreatDoorTt
set_option linter.unusedVariables false
set_option linter.unusedSimpArgs false
set_option maxRecDepth 100000
namespace Go.Proofs.YtokefihiadbkbaaGreatDoor
open Go Go.SX
def Iq8 (W0:PW) (M:Nat→Prop) (a0:Sl) (Post:Value→PW→Prop):Prop:=
 ∃(F1:List PL→PW→Prop),
 ∃(F2:List PL→PW→Nat),
 F1 [.val (.int .i64 1),.val (.int .i64 0)] W0∧
 ∀(i3 i4:Int) (W5:PW),
 F1 [.val (.int .i64 i3),.val (.int .i64 i4)] W5→
 (i4<(a0.2:Int)→
 inB a0 i4∧
 ∃i6:Int,
 Aa7 W5 a0 1 (Int.toNat i4) 0 [.int .i64 i6]∧
 (i6<0→∀(W7:PW),Ext W5 W7→Post (.tuple ⟨[.int .i64 0,.bool false]⟩) W7)∧
 (¬i6<0→
 (16<i6→∀(W8:PW),Ext W5 W8→Post (.tuple ⟨[.int .i64 0,.bool false]⟩) W8)∧
 (¬16<i6→I64 (i6+1)∧I64 (i3*(i6+1))∧I64 (i4+1)∧stp F1 F2 [.val (.int .i64 (i3*(i6+1))),.val (.int .i64 (i4+1))] W5 [.val (.int .i64 i3),.val (.int .i64 i4)] W5)))∧
 (¬i4<(a0.2:Int)→
 (1≤(a0.2:Int)→∀(W9:PW),Ext W5 W9→Post (.tuple ⟨[.int .i64 i3,.bool (decide ((a0.2:Int)≤3))]⟩) W9)∧(¬1≤(a0.2:Int)→∀(W10:PW),Ext W5 W10→Post (.tuple ⟨[.int .i64 i3,.bool false]⟩) W10))
theorem Ik8 (W0:PW) (M:Nat→Prop) (a0:Sl) (Post:Value→PW→Prop) (h:Iq8 W0 M a0 Post):Aa0 Tryz.prog 65 [a0.v] W0 M Post:=
 Aa3 rfl Aa9 Aa8 Tryz.func65 (cuts:=[]) rfl rfl (Nat.le_of_ble_eq_true rfl) (Eq.mpr (by kernel_rfl) h)
def Ir3 (W0:PW) (M:Nat→Prop) (a0:Sl) (a1:Sl) (a2:Int) (g3:FuncId) (r3_0:Option Addr) (Post:Value→PW→Prop):Prop:=
 ((0:Int)≤0∧0≤a2∧a2≤(a1.3:Int))∧
 ∃(F1:List PL→PW→Prop),
 ∃(F2:List PL→PW→Nat),
 F1 [.val (.int .i64 1),.val (.int .i64 0)] W0∧
 ∀(i3 i4:Int) (W5:PW),
 F1 [.val (.int .i64 i3),.val (.int .i64 i4)] W5→
 (i4<(↑(Int.toNat a2-0):Int)→
 inB (Sl.cut a1 1 0 (Int.toNat a2)) i4∧
 ∃i6:Int,
 Aa7 W5 (Sl.cut a1 1 0 (Int.toNat a2)) 1 (Int.toNat i4) 0 [.int .i64 i6]∧
 I64 (i6+1)∧I64 (i3*(i6+1))∧I64 (i4+1)∧stp F1 F2 [.val (.int .i64 (i3*(i6+1))),.val (.int .i64 (i4+1))] W5 [.val (.int .i64 i3),.val (.int .i64 i4)] W5)∧
 (¬i4<(↑(Int.toNat a2-0):Int)→
 inB a1 a2∧
 ∃i7:Int,
 Aa7 W5 a1 1 (Int.toNat a2) 0 [.int .i64 i7]∧
 I64 (i7+1)∧
 (i7+1=i7+1∧0≤i7+1∧(i7+1)*(↑(56:Nat):Int)≤281474976710656)∧
 ∀(s8:Sl) (W9:PW),
 Ext W5 W9→
 SX.Own W9 42 3 s8 (List.replicate (Int.toNat (i7+1)) [.slice none 0 0,.bool false,.slice none 0 0])→
 Fr W0 W5 s8→
 ∃(F10:List PL→PW→Prop),
 ∃(F11:List PL→PW→Nat),
 F10 [.val (.int .i64 0)] W9∧
 ∀(i12:Int) (W13:PW),
 F10 [.val (.int .i64 i12)] W13→
 (i12<(a0.2:Int)→
 i3≠0∧
 (s8.2:Int)≠0∧
 (Int.tmod (IntKind.wrap .i64 (Int.tdiv i12 i3)) (s8.2:Int)≠0→I64 (i12+1)∧stp F10 F11 [.val (.int .i64 (i12+1))] W13 [.val (.int .i64 i12)] W13)∧
 (¬Int.tmod (IntKind.wrap .i64 (Int.tdiv i12 i3)) (s8.2:Int)≠0→
 ∃(F14:List PL→PW→Prop),
 ∃(F15:List PL→PW→Nat),
 F14 [.val (.int .i64 0)] W13∧
 ∀(i16:Int) (W17:PW),
 F14 [.val (.int .i64 i16)] W17→
 (i16<(s8.2:Int)→
 I64 (i16*i3)∧
 I64 (i12+i16*i3)∧
 inB a0 (i12+i16*i3)∧
 ∃s18:Sl,
 ∃b19:Bool,
 ∃s20:Sl,
 Aa7 W17 a0 3 (Int.toNat (i12+i16*i3)) 0 [s18.v,.bool b19,s20.v]∧
 inB s8 i16∧
 An9 W0 M s8 (Int.toNat i16*3+0) [s18.v,.bool b19,s20.v] W17 fun(W21:PW)=>I64 (i16+1)∧stp F14 F15 [.val (.int .i64 (i16+1))] W21 [.val (.int .i64 i16)] W17)∧
 (¬i16<(s8.2:Int)→
 Aa1 Tryz.prog W0 M g3 [s8.v,.pointer r3_0] W17 fun v22 W23=>
 v22 = .tuple ⟨[]⟩∧
 ∃(F24:List PL→PW→Prop),
 ∃(F25:List PL→PW→Nat),
 F24 [.val (.int .i64 0)] W23∧
 ∀(i26:Int) (W27:PW),
 F24 [.val (.int .i64 i26)] W27→
 (i26<(s8.2:Int)→
 I64 (i26*i3)∧
 I64 (i12+i26*i3)∧
 inB s8 i26∧
 ∃s28:Sl,
 ∃b29:Bool,
 ∃s30:Sl,
 Aa7 W27 s8 3 (Int.toNat i26) 0 [s28.v,.bool b29,s30.v]∧
 inB a0 (i12+i26*i3)∧
 An9 W0 M a0 (Int.toNat (i12+i26*i3)*3+0) [s28.v,.bool b29,s30.v] W27 fun(W31:PW)=>
 I64 (i26+1)∧stp F24 F25 [.val (.int .i64 (i26+1))] W31 [.val (.int .i64 i26)] W27)∧
 (¬i26<(s8.2:Int)→I64 (i12+1)∧stp F10 F11 [.val (.int .i64 (i12+1))] W27 [.val (.int .i64 i12)] W13))))∧
 (¬i12<(a0.2:Int)→∀(W32:PW),Ext W13 W32→Post (.tuple ⟨[]⟩) W32))
theorem Ij7 (W0:PW) (M:Nat→Prop) (a0:Sl) (a1:Sl) (a2:Int) (g3:FuncId) (r3_0:Option Addr) (Post:Value→PW→Prop) (h:Ir3 W0 M a0 a1 a2 g3 r3_0 Post):Aa0 Tryz.prog 67 [a0.v,a1.v,.int .i64 a2,.func (Fn.func g3) #[] #[.pointer r3_0]] W0 M Post:=
 Aa3 rfl Aa9 Aa8 Tryz.func67 (cuts:=[1000008]) rfl rfl (Nat.le_of_ble_eq_true rfl) (Eq.mpr (by kernel_rfl) h)
def Im8 (W0:PW) (M:Nat→Prop) (a0_0:Sl) (a0_1:Bool) (a0_2:Sl) (a1_0:Sl) (a1_1:Bool) (a1_2:Sl) (a2_0:Sl) (a2_1:Bool) (a2_2:Sl) (Post:Value→PW→Prop):Prop:=
 Aa1 Tryz.prog W0 M 163 [.agg ⟨[a1_0.v,.bool a1_1,a1_2.v]⟩,.agg ⟨[a0_0.v,.bool a0_1,a0_2.v]⟩] W0 fun v1 W2=>
 ∃s3:Sl,
 ∃b4:Bool,
 ∃s5:Sl,
 v1 = .agg ⟨[s3.v,.bool b4,s5.v]⟩∧
 Aa1 Tryz.prog W0 M 95 [.agg ⟨[a2_0.v,.bool a2_1,a2_2.v]⟩,.agg ⟨[s3.v,.bool b4,s5.v]⟩] W2 fun v6 W7=>
 ∃s8:Sl,
 ∃b9:Bool,
 ∃s10:Sl,
 v6 = .agg ⟨[s8.v,.bool b9,s10.v]⟩∧
 Aa1 Tryz.prog W0 M 21 [.agg ⟨[a0_0.v,.bool a0_1,a0_2.v]⟩,.agg ⟨[s8.v,.bool b9,s10.v]⟩] W7 fun v11 W12=>
 ∃s13:Sl,∃b14:Bool,∃s15:Sl,v11 = .agg ⟨[s13.v,.bool b14,s15.v]⟩∧∀(W16:PW),Ext W12 W16→Post (.agg ⟨[s13.v,.bool b14,s15.v]⟩) W16
theorem Ih6 (W0:PW) (M:Nat→Prop) (a0_0:Sl) (a0_1:Bool) (a0_2:Sl) (a1_0:Sl) (a1_1:Bool) (a1_2:Sl) (a2_0:Sl) (a2_1:Bool) (a2_2:Sl) (Post:Value→PW→Prop) (h:Im8 W0 M a0_0 a0_1 a0_2 a1_0 a1_1 a1_2 a2_0 a2_1 a2_2 Post):Aa0 Tryz.prog 97 [.agg #[a0_0.v,.bool a0_1,a0_2.v],.agg #[a1_0.v,.bool a1_1,a1_2.v],.agg #[a2_0.v,.bool a2_1,a2_2.v]] W0 M Post:=
 Aa3 rfl Aa9 Aa8 Tryz.func97 (cuts:=[]) rfl rfl (Nat.le_of_ble_eq_true rfl) (Eq.mpr (by kernel_rfl) h)
def Ip1 (W0:PW) (M:Nat→Prop) (a0:Int) (a1:Int) (Post:Value→PW→Prop):Prop:=
 ∃(F1:List PL→PW→Prop),
 ∃(F2:List PL→PW→Nat),
 F1 [.val (.int .i64 1),.val (.int .i64 0)] W0∧
 ∀(i3 i4:Int) (W5:PW),
 F1 [.val (.int .i64 i3),.val (.int .i64 i4)] W5→
 (i4<a1→
 I64 (a0-i4)∧
 I64 (i3*(a0-i4))∧
 I64 (i4+1)∧
 i4+1≠0∧I64 (i4+1)∧stp F1 F2 [.val (.int .i64 (IntKind.wrap .i64 (Int.tdiv (i3*(a0-i4)) (i4+1)))),.val (.int .i64 (i4+1))] W5 [.val (.int .i64 i3),.val (.int .i64 i4)] W5)∧
 (¬i4<a1→
 Aa1 Tryz.prog W0 M 49 [.int .i64 i3] W5 fun v6 W7=>
 ∃s8:Sl,∃b9:Bool,∃s10:Sl,v6 = .agg ⟨[s8.v,.bool b9,s10.v]⟩∧∀(W11:PW),Ext W7 W11→Post (.agg ⟨[s8.v,.bool b9,s10.v]⟩) W11)
theorem Ii8 (W0:PW) (M:Nat→Prop) (a0:Int) (a1:Int) (Post:Value→PW→Prop) (h:Ip1 W0 M a0 a1 Post):Aa0 Tryz.prog 138 [.int .i64 a0,.int .i64 a1] W0 M Post:=
 Aa3 rfl Aa9 Aa8 Tryz.func138 (cuts:=[]) rfl rfl (Nat.le_of_ble_eq_true rfl) (Eq.mpr (by kernel_rfl) h)
def Ik4 (W0:PW) (M:Nat→Prop) (a0:Sl) (c0:Option Addr) (Post:Value→PW→Prop):Prop:=
 ∃(F1:List PL→PW→Prop),
 ∃(F2:List PL→PW→Nat),
 F1 [.val (.int .i64 0)] W0∧
 ∀(i3:Int) (W4:PW),
 F1 [.val (.int .i64 i3)] W4→
 (i3<(a0.2:Int)→
 I64 ((a0.2:Int)-1)∧
 ∃(F5:List PL→PW→Prop),
 ∃(F6:List PL→PW→Nat),
 F5 [.val (.int .i64 ((a0.2:Int)-1))] W4∧
 ∀(i7:Int) (W8:PW),
 F5 [.val (.int .i64 i7)] W8→
 (i3<i7→
 I64 (i7-1)∧
 inB a0 (i7-1)∧
 ∃s9:Sl,
 ∃b10:Bool,
 ∃s11:Sl,
 Aa7 W8 a0 3 (Int.toNat (i7-1)) 0 [s9.v,.bool b10,s11.v]∧
 inB a0 i7∧
 ∃s12:Sl,
 ∃b13:Bool,
 ∃s14:Sl,
 Aa7 W8 a0 3 (Int.toNat i7) 0 [s12.v,.bool b13,s14.v]∧
 ∃s15:Sl,
 ∃b16:Bool,
 ∃s17:Sl,
 Aa7 W8 {A:=c0,n:=1,c:=1 } 1 0 0 [s15.v,.bool b16,s17.v]∧
 Aa1 Tryz.prog W0 M 97 [.agg ⟨[s9.v,.bool b10,s11.v]⟩,.agg ⟨[s12.v,.bool b13,s14.v]⟩,.agg ⟨[s15.v,.bool b16,s17.v]⟩] W8 fun v18 W19=>
 ∃s20:Sl,
 ∃b21:Bool,
 ∃s22:Sl,
 v18 = .agg ⟨[s20.v,.bool b21,s22.v]⟩∧
 inB a0 i7∧An9 W0 M a0 (Int.toNat i7*3+0) [s20.v,.bool b21,s22.v] W19 fun(W23:PW)=>I64 (i7-1)∧stp F5 F6 [.val (.int .i64 (i7-1))] W23 [.val (.int .i64 i7)] W8)∧
 (¬i3<i7→I64 (i3+1)∧stp F1 F2 [.val (.int .i64 (i3+1))] W8 [.val (.int .i64 i3)] W4))∧
 (¬i3<(a0.2:Int)→∀(W24:PW),Ext W4 W24→Post (.tuple ⟨[]⟩) W24)
theorem Ig7 (W0:PW) (M:Nat→Prop) (a0:Sl) (c0:Option Addr) (Post:Value→PW→Prop) (h:Ik4 W0 M a0 c0 Post):Aa0 Tryz.prog 101 [a0.v,.pointer c0] W0 M Post:=
 Aa3 rfl Aa9 Aa8 Tryz.func101 (cuts:=[]) rfl rfl (Nat.le_of_ble_eq_true rfl) (Eq.mpr (by kernel_rfl) h)
def Il0 (W0:PW) (M:Nat→Prop) (a0:Sl) (c0:Option Addr) (Post:Value→PW→Prop):Prop:=
 ∃(F1:List PL→PW→Prop),
 ∃(F2:List PL→PW→Nat),
 F1 [.val (.int .i64 0)] W0∧
 ∀(i3:Int) (W4:PW),
 F1 [.val (.int .i64 i3)] W4→
 (i3<(a0.2:Int)→
 ∃(F5:List PL→PW→Prop),
 ∃(F6:List PL→PW→Nat),
 F5 [.val (.int .i64 0)] W4∧
 ∀(i7:Int) (W8:PW),
 F5 [.val (.int .i64 i7)] W8→
 I64 ((a0.2:Int)-1)∧
 I64 ((a0.2:Int)-1-i3)∧
 (i7<(a0.2:Int)-1-i3→
 inB a0 i7∧
 ∃s9:Sl,
 ∃b10:Bool,
 ∃s11:Sl,
 Aa7 W8 a0 3 (Int.toNat i7) 0 [s9.v,.bool b10,s11.v]∧
 I64 (i7+1)∧
 inB a0 (i7+1)∧
 ∃s12:Sl,
 ∃b13:Bool,
 ∃s14:Sl,
 Aa7 W8 a0 3 (Int.toNat (i7+1)) 0 [s12.v,.bool b13,s14.v]∧
 ∃s15:Sl,
 ∃b16:Bool,
 ∃s17:Sl,
 Aa7 W8 {A:=c0,n:=1,c:=1 } 1 0 0 [s15.v,.bool b16,s17.v]∧
 Aa1 Tryz.prog W0 M 97 [.agg ⟨[s9.v,.bool b10,s11.v]⟩,.agg ⟨[s12.v,.bool b13,s14.v]⟩,.agg ⟨[s15.v,.bool b16,s17.v]⟩] W8 fun v18 W19=>
 ∃s20:Sl,
 ∃b21:Bool,
 ∃s22:Sl,
 v18 = .agg ⟨[s20.v,.bool b21,s22.v]⟩∧
 inB a0 i7∧An9 W0 M a0 (Int.toNat i7*3+0) [s20.v,.bool b21,s22.v] W19 fun(W23:PW)=>I64 (i7+1)∧stp F5 F6 [.val (.int .i64 (i7+1))] W23 [.val (.int .i64 i7)] W8)∧
 (¬i7<(a0.2:Int)-1-i3→I64 (i3+1)∧stp F1 F2 [.val (.int .i64 (i3+1))] W8 [.val (.int .i64 i3)] W4))∧
 (¬i3<(a0.2:Int)→∀(W24:PW),Ext W4 W24→Post (.tuple ⟨[]⟩) W24)
theorem Ig9 (W0:PW) (M:Nat→Prop) (a0:Sl) (c0:Option Addr) (Post:Value→PW→Prop) (h:Il0 W0 M a0 c0 Post):Aa0 Tryz.prog 102 [a0.v,.pointer c0] W0 M Post:=
 Aa3 rfl Aa9 Aa8 Tryz.func102 (cuts:=[]) rfl rfl (Nat.le_of_ble_eq_true rfl) (Eq.mpr (by kernel_rfl) h)
def Ip4 (W0:PW) (M:Nat→Prop) (a0:Sl) (a1:Sl) (a2:Int) (Post:Value→PW→Prop):Prop:=
 Aa1 Tryz.prog W0 M 65 [a1.v] W0 fun v1 W2=>
 ∃i3:Int,
 ∃b4:Bool,
 v1 = .tuple ⟨[.int .i64 i3,.bool b4]⟩∧
 ((!b4)=true→∀(W5:PW),Ext W2 W5→Post (.tuple ⟨[.slice none 0 0,.slice none 0 0,.bool false]⟩) W5)∧
 ((!b4)=false→
 ((a0.2:Int)≠i3→∀(W6:PW),Ext W2 W6→Post (.tuple ⟨[.slice none 0 0,.slice none 0 0,.bool false]⟩) W6)∧
 (¬(a0.2:Int)≠i3→
 (a2<0→∀(W7:PW),Ext W2 W7→Post (.tuple ⟨[.slice none 0 0,.slice none 0 0,.bool false]⟩) W7)∧
 (¬a2<0→
 ((a1.2:Int)≤a2→∀(W8:PW),Ext W2 W8→Post (.tuple ⟨[.slice none 0 0,.slice none 0 0,.bool false]⟩) W8)∧
 (¬(a1.2:Int)≤a2→
 Aa1 Tryz.prog W0 M 49 [.int .i64 1] W2 fun v9 W10=>
 ∃s11:Sl,
 ∃b12:Bool,
 ∃s13:Sl,
 v9 = .agg ⟨[s11.v,.bool b12,s13.v]⟩∧
 Aa1 Tryz.prog W0 M 49 [.int .i64 2] W10 fun v14 W15=>
 ∃s16:Sl,
 ∃b17:Bool,
 ∃s18:Sl,
 v14 = .agg ⟨[s16.v,.bool b17,s18.v]⟩∧
 Aa1 Tryz.prog W0 M 48 [.agg ⟨[s11.v,.bool b12,s13.v]⟩,.agg ⟨[s16.v,.bool b17,s18.v]⟩] W15 fun v19 W20=>
 ∃s21:Sl,
 ∃b22:Bool,
 ∃s23:Sl,
 ∃b24:Bool,
 v19 = .tuple ⟨[.agg ⟨[s21.v,.bool b22,s23.v]⟩,.bool b24]⟩∧
 ∃(l25:List (List Value)),
 Bf9 W20 3 a0 l25∧
 (0+List.length l25)*56≤140737488355328∧
 ∃(l26:List (List Value)),
 Bf9 W20 3 a0 l26∧
 (0+List.length l26)*56≤140737488355328∧
 ∀(x27:Option Addr) (W28:PW),
 Ext W20 W28→
 Aa7 W28 {A:=x27,n:=1,c:=1 } 1 0 0 [s21.v,.bool b22,s23.v]→
 Fr W0 W20 {A:=x27,n:=1,c:=1 }→
 ∀(s29:Sl) (W30:PW),
 Ext W28 W30→
 SX.Own W30 42 3 s29 ([] ++ l25)→
 Fr W0 W28 s29→
 Aa1 Tryz.prog W0 M 67 [s29.v,a1.v,.int .i64 a2,.func (Fn.func 101) ⟨[]⟩ ⟨[.pointer x27]⟩] W30 fun v31 W32=>
 v31 = .tuple ⟨[]⟩∧
 ∀(s33:Sl) (W34:PW),
 Ext W32 W34→
 SX.Own W34 42 3 s33 ([] ++ l26)→
 Fr W0 W32 s33→
 Aa1 Tryz.prog W0 M 67 [s33.v,a1.v,.int .i64 a2,.func (Fn.func 102) ⟨[]⟩ ⟨[.pointer x27]⟩] W34 fun v35 W36=>
 v35 = .tuple ⟨[]⟩∧∀(W37:PW),Ext W36 W37→Post (.tuple ⟨[s29.v,s33.v,.bool true]⟩) W37))))
theorem Ij4 (W0:PW) (M:Nat→Prop) (a0:Sl) (a1:Sl) (a2:Int) (Post:Value→PW→Prop) (h:Ip4 W0 M a0 a1 a2 Post):Aa0 Tryz.prog 35 [a0.v,a1.v,.int .i64 a2] W0 M Post:=
 Aa3 rfl Aa9 Aa8 Tryz.func35 (cuts:=[]) rfl rfl (Nat.le_of_ble_eq_true rfl) (Eq.mpr (by kernel_rfl) h)
end Go.Proofs.YtokefihiadbkbaaGreatDoor
