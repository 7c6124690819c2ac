/- R4 -/
import Derived.Test.YtahohahjnhfedaaGreatDoorTt
set_option linter.unusedVariables false
set_option linter.unusedSimpArgs false
set_option maxRecDepth 100000
namespace Go.Proofs.YtahohahjnhfedaaGreatDoor
open Go Go.SX
def Eb7 (W0:PW) (M:Nat→Prop) (a0:Sl) (Post:Value→PW→Prop):Prop:=
 ∃(F1:List PL→PW→Prop),
 ∃(F2:List PL→PW→Nat),
 F1 [.val (.int .i64 (a0.2:Int))] W0∧
 ∀(i3:Int) (W4:PW),
 F1 [.val (.int .i64 i3)] W4→
 (0<i3→
 I64 (i3-1)∧
 inB a0 (i3-1)∧
 ∃i5:Int,
 Aa7 W4 a0 1 (Int.toNat (i3-1)) 0 [.int .u32 i5]∧
 (i5=0→I64 (i3-1)∧stp F1 F2 [.val (.int .i64 (i3-1))] W4 [.val (.int .i64 i3)] W4)∧
 (¬i5=0→((0:Int)≤0∧0≤i3∧i3≤(a0.3:Int))∧∀(W6:PW),Ext W4 W6→Post (Sl.v (Sl.cut {A:=Sl.A a0,n:=Sl.n a0,c:=Sl.c a0 } (TyI.size Ld1) (Int.toNat 0) (Int.toNat i3))) W6))∧
 (¬0<i3→((0:Int)≤0∧0≤i3∧i3≤(a0.3:Int))∧∀(W7:PW),Ext W4 W7→Post (Sl.v (Sl.cut {A:=Sl.A a0,n:=Sl.n a0,c:=Sl.c a0 } (TyI.size Ld1) (Int.toNat 0) (Int.toNat i3))) W7)
theorem Cl7 (W0:PW) (M:Nat→Prop) (a0:Sl) (Post:Value→PW→Prop) (h:Eb7 W0 M a0 Post):Aa0 Tryz.prog 94 [a0.v] W0 M Post:=
 Aa3 rfl Aa9 Aa8 Tryz.func94 (cuts:=[]) rfl rfl (Nat.le_of_ble_eq_true rfl) (Eq.mpr (by kernel_rfl) h)
def Dj9 (W0:PW) (M:Nat→Prop) (a0:Int) (Post:Value→PW→Prop):Prop:=
 ∀(s1:Sl) (W2:PW),
 Ext W0 W2→
 SX.Own W2 141 1 s1 [[.int .u32 (IntKind.wrap .u32 (bits BinOp.and .u64 a0 4294967295))],[.int .u32 (IntKind.wrap .u32 (Ah0 a0 32))]]→
 Fr W0 W0 s1→Aa1 Tryz.prog W0 M 94 [s1.v] W2 fun v3 W4=>∃s5:Sl,v3=s5.v∧∀(W6:PW),Ext W4 W6→Post s5.v W6
theorem Cb7 (W0:PW) (M:Nat→Prop) (a0:Int) (Post:Value→PW→Prop) (h:Dj9 W0 M a0 Post):Aa0 Tryz.prog 52 [.int .u64 a0] W0 M Post:=
 Aa3 rfl Aa9 Aa8 Tryz.func52 (cuts:=[]) rfl rfl (Nat.le_of_ble_eq_true rfl) (Eq.mpr (by kernel_rfl) h)
def Cv3 (W0:PW) (M:Nat→Prop) (a0:Sl) (a1:Sl) (Post:Value→PW→Prop):Prop:=
 ((a0.2:Int)≠(a1.2:Int)→((a0.2:Int)<(a1.2:Int)→∀(W1:PW),Ext W0 W1→Post (.int .i64 (-1:Int)) W1)∧(¬(a0.2:Int)<(a1.2:Int)→∀(W2:PW),Ext W0 W2→Post (.int .i64 1) W2))∧
 (¬(a0.2:Int)≠(a1.2:Int)→
 I64 ((a0.2:Int)-1)∧
 ∃(F3:List PL→PW→Prop),
 ∃(F4:List PL→PW→Nat),
 F3 [.val (.int .i64 ((a0.2:Int)-1))] W0∧
 ∀(i5:Int) (W6:PW),
 F3 [.val (.int .i64 i5)] W6→
 (0≤i5→
 inB a0 i5∧
 ∃i7:Int,
 Aa7 W6 a0 1 (Int.toNat i5) 0 [.int .u32 i7]∧
 inB a1 i5∧
 ∃i8:Int,
 Aa7 W6 a1 1 (Int.toNat i5) 0 [.int .u32 i8]∧
 (i7<i8→∀(W9:PW),Ext W6 W9→Post (.int .i64 (-1:Int)) W9)∧
 (¬i7<i8→
 inB a0 i5∧
 ∃i10:Int,
 Aa7 W6 a0 1 (Int.toNat i5) 0 [.int .u32 i10]∧
 inB a1 i5∧
 ∃i11:Int,
 Aa7 W6 a1 1 (Int.toNat i5) 0 [.int .u32 i11]∧
 (i11<i10→∀(W12:PW),Ext W6 W12→Post (.int .i64 1) W12)∧(¬i11<i10→I64 (i5-1)∧stp F3 F4 [.val (.int .i64 (i5-1))] W6 [.val (.int .i64 i5)] W6)))∧
 (¬0≤i5→∀(W13:PW),Ext W6 W13→Post (.int .i64 0) W13))
theorem Bs6 (W0:PW) (M:Nat→Prop) (a0:Sl) (a1:Sl) (Post:Value→PW→Prop) (h:Cv3 W0 M a0 a1 Post):Aa0 Tryz.prog 54 [a0.v,a1.v] W0 M Post:=
 Aa3 rfl Aa9 Aa8 Tryz.func54 (cuts:=[]) rfl rfl (Nat.le_of_ble_eq_true rfl) (Eq.mpr (by kernel_rfl) h)
def Bl3 (W0:PW) (M:Nat→Prop) (a0:Sl) (a1:Sl) (Post:Value→PW→Prop):Prop:=
 I64 (mx (a0.2:Int) (a1.2:Int)+1)∧
 (mx (a0.2:Int) (a1.2:Int)+1=mx (a0.2:Int) (a1.2:Int)+1∧0≤mx (a0.2:Int) (a1.2:Int)+1∧(mx (a0.2:Int) (a1.2:Int)+1)*(↑(4:Nat):Int)≤281474976710656)∧
 ∃(F1:List PL→PW→Prop),
 ∃(F2:List PL→PW→Nat),
 F1 [.val (.int .u64 0),.val (.int .i64 0),.row (List.replicate (Int.toNat (mx (a0.2:Int) (a1.2:Int)+1)) [.int .u32 0])] W0∧
 ∀(l3:List (List Value)) (i4 i5:Int) (W6:PW),
 F1 [.val (.int .u64 i4),.val (.int .i64 i5),.row l3] W6→
 (i5<(↑(List.length l3):Int)→
 (i5<(a0.2:Int)→
 inB a0 i5∧
 ∃i7:Int,
 Aa7 W6 a0 1 (Int.toNat i5) 0 [.int .u32 i7]∧
 (i5<(a1.2:Int)→
 inB a1 i5∧
 ∃i8:Int,
 Aa7 W6 a1 1 (Int.toNat i5) 0 [.int .u32 i8]∧
 (0≤i5∧i5<(↑(List.length l3):Int))∧
 Int.toNat i5<List.length l3∧
 I64 (i5+1)∧
 stp F1 F2
 [.val (.int .u64 (Ah0 (IntKind.wrap .u64 (IntKind.wrap .u64 (i4+IntKind.wrap .u64 i7)+IntKind.wrap .u64 i8)) 32)),.val (.int .i64 (i5+1)),
 .row (List.set l3 (Int.toNat i5) [.int .u32 (IntKind.wrap .u32 (bits BinOp.and .u64 (IntKind.wrap .u64 (IntKind.wrap .u64 (i4+IntKind.wrap .u64 i7)+IntKind.wrap .u64 i8)) 4294967295))])]
 W6 [.val (.int .u64 i4),.val (.int .i64 i5),.row l3] W6)∧
 (¬i5<(a1.2:Int)→
 (0≤i5∧i5<(↑(List.length l3):Int))∧
 Int.toNat i5<List.length l3∧
 I64 (i5+1)∧
 stp F1 F2
 [.val (.int .u64 (Ah0 (IntKind.wrap .u64 (i4+IntKind.wrap .u64 i7)) 32)),.val (.int .i64 (i5+1)),
 .row (List.set l3 (Int.toNat i5) [.int .u32 (IntKind.wrap .u32 (bits BinOp.and .u64 (IntKind.wrap .u64 (i4+IntKind.wrap .u64 i7)) 4294967295))])]
 W6 [.val (.int .u64 i4),.val (.int .i64 i5),.row l3] W6))∧
 (¬i5<(a0.2:Int)→
 (i5<(a1.2:Int)→
 inB a1 i5∧
 ∃i9:Int,
 Aa7 W6 a1 1 (Int.toNat i5) 0 [.int .u32 i9]∧
 (0≤i5∧i5<(↑(List.length l3):Int))∧
 Int.toNat i5<List.length l3∧
 I64 (i5+1)∧
 stp F1 F2
 [.val (.int .u64 (Ah0 (IntKind.wrap .u64 (i4+IntKind.wrap .u64 i9)) 32)),.val (.int .i64 (i5+1)),
 .row (List.set l3 (Int.toNat i5) [.int .u32 (IntKind.wrap .u32 (bits BinOp.and .u64 (IntKind.wrap .u64 (i4+IntKind.wrap .u64 i9)) 4294967295))])]
 W6 [.val (.int .u64 i4),.val (.int .i64 i5),.row l3] W6)∧
 (¬i5<(a1.2:Int)→
 (0≤i5∧i5<(↑(List.length l3):Int))∧
 Int.toNat i5<List.length l3∧
 I64 (i5+1)∧
 stp F1 F2 [.val (.int .u64 (Ah0 i4 32)),.val (.int .i64 (i5+1)),.row (List.set l3 (Int.toNat i5) [.int .u32 (IntKind.wrap .u32 (bits BinOp.and .u64 i4 4294967295))])] W6
 [.val (.int .u64 i4),.val (.int .i64 i5),.row l3] W6)))∧
 (¬i5<(↑(List.length l3):Int)→∀(s10:Sl) (W11:PW),Ext W6 W11→SX.Own W11 141 1 s10 l3→Fr W0 W6 s10→Aa1 Tryz.prog W0 M 94 [s10.v] W11 fun v12 W13=>∃s14:Sl,v12=s14.v∧∀(W15:PW),Ext W13 W15→Post s14.v W15)
theorem Bu5 (W0:PW) (M:Nat→Prop) (a0:Sl) (a1:Sl) (Post:Value→PW→Prop) (h:Bl3 W0 M a0 a1 Post):Aa0 Tryz.prog 131 [a0.v,a1.v] W0 M Post:=
 Aa3 rfl Aa9 Aa8 Tryz.func131 (cuts:=[]) rfl rfl (Nat.le_of_ble_eq_true rfl) (Eq.mpr (by kernel_rfl) h)
def Ct8 (W0:PW) (M:Nat→Prop) (a0:Sl) (a1:Sl) (Post:Value→PW→Prop):Prop:=
 ((a0.2:Int)=(a0.2:Int)∧0≤(a0.2:Int)∧(a0.2:Int)*(↑(4:Nat):Int)≤281474976710656)∧
 ∃(F1:List PL→PW→Prop),
 ∃(F2:List PL→PW→Nat),
 F1 [.val (.int .u64 0),.val (.int .i64 0),.row (List.replicate (Int.toNat (a0.2:Int)) [.int .u32 0])] W0∧
 ∀(l3:List (List Value)) (i4 i5:Int) (W6:PW),
 F1 [.val (.int .u64 i4),.val (.int .i64 i5),.row l3] W6→
 (i5<(a0.2:Int)→
 (i5<(a1.2:Int)→
 inB a1 i5∧
 ∃i7:Int,
 Aa7 W6 a1 1 (Int.toNat i5) 0 [.int .u32 i7]∧
 inB a0 i5∧
 ∃i8:Int,
 Aa7 W6 a0 1 (Int.toNat i5) 0 [.int .u32 i8]∧
 (IntKind.wrap .u64 i8<IntKind.wrap .u64 (i4+IntKind.wrap .u64 i7)→
 (0≤i5∧i5<(↑(List.length l3):Int))∧
 Int.toNat i5<List.length l3∧
 I64 (i5+1)∧
 stp F1 F2
 [.val (.int .u64 1),.val (.int .i64 (i5+1)),
 .row (List.set l3 (Int.toNat i5) [.int .u32 (IntKind.wrap .u32 (IntKind.wrap .u64 (IntKind.wrap .u64 (IntKind.wrap .u64 i8+4294967296)-IntKind.wrap .u64 (i4+IntKind.wrap .u64 i7))))])]
 W6 [.val (.int .u64 i4),.val (.int .i64 i5),.row l3] W6)∧
 (¬IntKind.wrap .u64 i8<IntKind.wrap .u64 (i4+IntKind.wrap .u64 i7)→
 (0≤i5∧i5<(↑(List.length l3):Int))∧
 Int.toNat i5<List.length l3∧
 I64 (i5+1)∧
 stp F1 F2
 [.val (.int .u64 0),.val (.int .i64 (i5+1)),
 .row (List.set l3 (Int.toNat i5) [.int .u32 (IntKind.wrap .u32 (IntKind.wrap .u64 (IntKind.wrap .u64 i8-IntKind.wrap .u64 (i4+IntKind.wrap .u64 i7))))])]
 W6 [.val (.int .u64 i4),.val (.int .i64 i5),.row l3] W6))∧
 (¬i5<(a1.2:Int)→
 inB a0 i5∧
 ∃i9:Int,
 Aa7 W6 a0 1 (Int.toNat i5) 0 [.int .u32 i9]∧
 (IntKind.wrap .u64 i9<i4→
 (0≤i5∧i5<(↑(List.length l3):Int))∧
 Int.toNat i5<List.length l3∧
 I64 (i5+1)∧
 stp F1 F2
 [.val (.int .u64 1),.val (.int .i64 (i5+1)),.row (List.set l3 (Int.toNat i5) [.int .u32 (IntKind.wrap .u32 (IntKind.wrap .u64 (IntKind.wrap .u64 (IntKind.wrap .u64 i9+4294967296)-i4)))])] W6
 [.val (.int .u64 i4),.val (.int .i64 i5),.row l3] W6)∧
 (¬IntKind.wrap .u64 i9<i4→
 (0≤i5∧i5<(↑(List.length l3):Int))∧
 Int.toNat i5<List.length l3∧
 I64 (i5+1)∧
 stp F1 F2 [.val (.int .u64 0),.val (.int .i64 (i5+1)),.row (List.set l3 (Int.toNat i5) [.int .u32 (IntKind.wrap .u32 (IntKind.wrap .u64 (IntKind.wrap .u64 i9-i4)))])] W6
 [.val (.int .u64 i4),.val (.int .i64 i5),.row l3] W6)))∧
 (¬i5<(a0.2:Int)→∀(s10:Sl) (W11:PW),Ext W6 W11→SX.Own W11 141 1 s10 l3→Fr W0 W6 s10→Aa1 Tryz.prog W0 M 94 [s10.v] W11 fun v12 W13=>∃s14:Sl,v12=s14.v∧∀(W15:PW),Ext W13 W15→Post s14.v W15)
theorem Bu0 (W0:PW) (M:Nat→Prop) (a0:Sl) (a1:Sl) (Post:Value→PW→Prop) (h:Ct8 W0 M a0 a1 Post):Aa0 Tryz.prog 130 [a0.v,a1.v] W0 M Post:=
 Aa3 rfl Aa9 Aa8 Tryz.func130 (cuts:=[]) rfl rfl (Nat.le_of_ble_eq_true rfl) (Eq.mpr (by kernel_rfl) h)
def Dw5 (W0:PW) (M:Nat→Prop) (a0:Sl) (Post:Value→PW→Prop):Prop:=
 ((a0.2:Int)=0→∀(W1:PW),Ext W0 W1→Post (.int .i64 0) W1)∧
 (¬(a0.2:Int)=0→
 I64 ((a0.2:Int)-1)∧
 I64 (32*((a0.2:Int)-1))∧
 I64 ((a0.2:Int)-1)∧
 inB a0 ((a0.2:Int)-1)∧
 ∃i2:Int,
 Aa7 W0 a0 1 (Int.toNat ((a0.2:Int)-1)) 0 [.int .u32 i2]∧
 ∃(F3:List PL→PW→Prop),
 ∃(F4:List PL→PW→Nat),
 F3 [.val (.int .i64 (32*((a0.2:Int)-1))),.val (.int .u32 i2)] W0∧
 ∀(i5 i6:Int) (W7:PW),
 F3 [.val (.int .i64 i5),.val (.int .u32 i6)] W7→
 (0<i6→I64 (i5+1)∧stp F3 F4 [.val (.int .i64 (i5+1)),.val (.int .u32 (Ah0 i6 1))] W7 [.val (.int .i64 i5),.val (.int .u32 i6)] W7)∧
 (¬0<i6→∀(W8:PW),Ext W7 W8→Post (.int .i64 i5) W8))
theorem Ci5 (W0:PW) (M:Nat→Prop) (a0:Sl) (Post:Value→PW→Prop) (h:Dw5 W0 M a0 Post):Aa0 Tryz.prog 91 [a0.v] W0 M Post:=
 Aa3 rfl Aa9 Aa8 Tryz.func91 (cuts:=[]) rfl rfl (Nat.le_of_ble_eq_true rfl) (Eq.mpr (by kernel_rfl) h)
def Cs0 (W0:PW) (M:Nat→Prop) (a0:Sl) (a1:Int) (Post:Value→PW→Prop):Prop:=
 (32:Int)≠(0:Int)∧
 I64 ((↑a0.2:Int)+IntKind.wrap IntKind.i64 (Int.tdiv a1 (32:Int)))∧
 I64 ((↑a0.2:Int)+IntKind.wrap IntKind.i64 (Int.tdiv a1 (32:Int))+(1:Int))∧
 ((↑a0.2:Int)+IntKind.wrap IntKind.i64 (Int.tdiv a1 (32:Int))+(1:Int)=(↑a0.2:Int)+IntKind.wrap IntKind.i64 (Int.tdiv a1 (32:Int))+(1:Int)∧
 (0:Int)≤(↑a0.2:Int)+IntKind.wrap IntKind.i64 (Int.tdiv a1 (32:Int))+(1:Int)∧((↑a0.2:Int)+IntKind.wrap IntKind.i64 (Int.tdiv a1 (32:Int))+(1:Int))*(↑(4:Nat):Int)≤(281474976710656:Int))∧
 ∃(F1:List PL→PW→Prop),
 ∃(F2:List PL→PW→Nat),
 F1 [PL.val (Value.int IntKind.i64 (0:Int)),PL.row (List.replicate (Int.toNat ((↑a0.2:Int)+IntKind.wrap IntKind.i64 (Int.tdiv a1 (32:Int))+(1:Int))) [Value.int IntKind.u32 (0:Int)])] W0∧
 ∀(l3:List (List Value)) (i4:Int) (W5:PW),
 F1 [PL.val (Value.int IntKind.i64 i4),PL.row l3] W5→
 (i4<(↑a0.2:Int)→
 inB a0 i4∧
 ∃i6:Int,
 Aa7 W5 a0 (1:Nat) (Int.toNat i4) (0:Nat) [Value.int IntKind.u32 i6]∧
 (32:Int)≠(0:Int)∧
 ((0:Int)≤IntKind.wrap IntKind.u64 (Int.tmod a1 (32:Int))∧IntKind.wrap IntKind.u64 (Int.tmod a1 (32:Int))≤(↑(IntKind.bits IntKind.u64):Int))∧
 (32:Int)≠(0:Int)∧
 I64 (i4+IntKind.wrap IntKind.i64 (Int.tdiv a1 (32:Int)))∧
 ((0:Int)≤i4+IntKind.wrap IntKind.i64 (Int.tdiv a1 (32:Int))∧i4+IntKind.wrap IntKind.i64 (Int.tdiv a1 (32:Int))<(↑(List.length l3):Int))∧
 ∃i7:Int,
 Ck3 l3 (Int.toNat (i4+IntKind.wrap IntKind.i64 (Int.tdiv a1 (32:Int)))) (0:Nat) [Value.int IntKind.u32 i7]∧
 ((0:Int)≤i4+IntKind.wrap IntKind.i64 (Int.tdiv a1 (32:Int))∧i4+IntKind.wrap IntKind.i64 (Int.tdiv a1 (32:Int))<(↑(List.length l3):Int))∧
 Int.toNat (i4+IntKind.wrap IntKind.i64 (Int.tdiv a1 (32:Int)))<List.length l3∧
 (32:Int)≠(0:Int)∧
 I64 (i4+IntKind.wrap IntKind.i64 (Int.tdiv a1 (32:Int)))∧
 I64 (i4+IntKind.wrap IntKind.i64 (Int.tdiv a1 (32:Int))+(1:Int))∧
 ((0:Int)≤i4+IntKind.wrap IntKind.i64 (Int.tdiv a1 (32:Int))+(1:Int)∧
 i4+IntKind.wrap IntKind.i64 (Int.tdiv a1 (32:Int))+(1:Int) <
 (↑(List.length
 (List.set l3 (Int.toNat (i4+IntKind.wrap IntKind.i64 (Int.tdiv a1 (32:Int))))
 [Value.int IntKind.u32 (bits BinOp.or IntKind.u32 i7 (IntKind.wrap IntKind.u32 (bits BinOp.and IntKind.u64 (Bc5 IntKind.u64 (IntKind.wrap IntKind.u64 i6) (Int.toNat (IntKind.wrap IntKind.u64 (Int.tmod a1 (32:Int))))) (4294967295:Int))))])):
 Int))∧
 ∃i8:Int,
 Ck3
 (List.set l3 (Int.toNat (i4+IntKind.wrap IntKind.i64 (Int.tdiv a1 (32:Int))))
 [Value.int IntKind.u32 (bits BinOp.or IntKind.u32 i7 (IntKind.wrap IntKind.u32 (bits BinOp.and IntKind.u64 (Bc5 IntKind.u64 (IntKind.wrap IntKind.u64 i6) (Int.toNat (IntKind.wrap IntKind.u64 (Int.tmod a1 (32:Int))))) (4294967295:Int))))])
 (Int.toNat (i4+IntKind.wrap IntKind.i64 (Int.tdiv a1 (32:Int))+(1:Int))) (0:Nat) [Value.int IntKind.u32 i8]∧
 ((0:Int)≤i4+IntKind.wrap IntKind.i64 (Int.tdiv a1 (32:Int))+(1:Int)∧
 i4+IntKind.wrap IntKind.i64 (Int.tdiv a1 (32:Int))+(1:Int) <
 (↑(List.length
 (List.set l3 (Int.toNat (i4+IntKind.wrap IntKind.i64 (Int.tdiv a1 (32:Int))))
 [Value.int IntKind.u32 (bits BinOp.or IntKind.u32 i7 (IntKind.wrap IntKind.u32 (bits BinOp.and IntKind.u64 (Bc5 IntKind.u64 (IntKind.wrap IntKind.u64 i6) (Int.toNat (IntKind.wrap IntKind.u64 (Int.tmod a1 (32:Int))))) (4294967295:Int))))])):
 Int))∧
 Int.toNat (i4+IntKind.wrap IntKind.i64 (Int.tdiv a1 (32:Int))+(1:Int)) <
 List.length
 (List.set l3 (Int.toNat (i4+IntKind.wrap IntKind.i64 (Int.tdiv a1 (32:Int))))
 [Value.int IntKind.u32 (bits BinOp.or IntKind.u32 i7 (IntKind.wrap IntKind.u32 (bits BinOp.and IntKind.u64 (Bc5 IntKind.u64 (IntKind.wrap IntKind.u64 i6) (Int.toNat (IntKind.wrap IntKind.u64 (Int.tmod a1 (32:Int))))) (4294967295:Int))))])∧
 I64 (i4+(1:Int))∧
 stp F1 F2
 [PL.val (Value.int IntKind.i64 (i4+(1:Int))),
 PL.row
 (List.set
 (List.set l3 (Int.toNat (i4+IntKind.wrap IntKind.i64 (Int.tdiv a1 (32:Int))))
 [Value.int IntKind.u32 (bits BinOp.or IntKind.u32 i7 (IntKind.wrap IntKind.u32 (bits BinOp.and IntKind.u64 (Bc5 IntKind.u64 (IntKind.wrap IntKind.u64 i6) (Int.toNat (IntKind.wrap IntKind.u64 (Int.tmod a1 (32:Int))))) (4294967295:Int))))])
 (Int.toNat (i4+IntKind.wrap IntKind.i64 (Int.tdiv a1 (32:Int))+(1:Int)))
 [Value.int IntKind.u32 (bits BinOp.or IntKind.u32 i8 (IntKind.wrap IntKind.u32 (Ah0 (Bc5 IntKind.u64 (IntKind.wrap IntKind.u64 i6) (Int.toNat (IntKind.wrap IntKind.u64 (Int.tmod a1 (32:Int))))) (32:Nat))))])]
 W5 [PL.val (Value.int IntKind.i64 i4),PL.row l3] W5)∧
 (¬i4<(↑a0.2:Int)→∀(s9:Sl) (W10:PW),Ext W5 W10→SX.Own W10 (141:Nat) (1:Nat) s9 l3→Fr W0 W5 s9→Aa1 Tryz.prog W0 M (94:Nat) [s9.v] W10 fun v11 W12=>∃s13:Sl,v11=s13.v∧∀(W14:PW),Ext W12 W14→Post s13.v W14)
theorem Cx1 (W0:PW) (M:Nat→Prop) (a0:Sl) (a1:Int) (Post:Value→PW→Prop) (h:Cs0 W0 M a0 a1 Post):Aa0 Tryz.prog 129 [a0.v,Value.int IntKind.i64 a1] W0 M Post:=
 Aa3 rfl Aa9 Aa8 Tryz.func129 (cuts:=[]) rfl rfl (Nat.le_of_ble_eq_true rfl) (Eq.mpr (by kernel_rfl) h)
def Cz0 (W0:PW) (M:Nat→Prop) (a0:Sl) (a1:Sl) (Post:Value→PW→Prop):Prop:=
 Aa1 Tryz.prog W0 M 91 [a0.v] W0 fun v1 W2=>
 ∃i3:Int,
 v1 = .int .i64 i3∧
 Aa1 Tryz.prog W0 M 91 [a1.v] W2 fun v4 W5=>
 ∃i6:Int,
 v4 = .int .i64 i6∧
 I64 (i3-i6)∧
 ∃(F7:List PL→PW→Prop),
 ∃(F8:List PL→PW→Nat),
 F7 [.val a0.v,.val (.slice none 0 0),.val (.int .i64 (i3-i6))] W5∧
 ∀(s9 s10:Sl) (i11:Int) (W12:PW),
 F7 [.val s9.v,.val s10.v,.val (.int .i64 i11)] W12→
 (0≤i11→
 Aa1 Tryz.prog W0 M 129 [a1.v,.int .i64 i11] W12 fun v13 W14=>
 ∃s15:Sl,
 v13=s15.v∧
 Aa1 Tryz.prog W0 M 54 [s15.v,s9.v] W14 fun v16 W17=>
 ∃i18:Int,
 v16 = .int .i64 i18∧
 (i18≤0→
 Aa1 Tryz.prog W0 M 130 [s9.v,s15.v] W17 fun v19 W20=>
 ∃s21:Sl,
 v19=s21.v∧
 Aa1 Tryz.prog W0 M 52 [.int .u64 1] W20 fun v22 W23=>
 ∃s24:Sl,
 v22=s24.v∧
 Aa1 Tryz.prog W0 M 129 [s24.v,.int .i64 i11] W23 fun v25 W26=>
 ∃s27:Sl,
 v25=s27.v∧
 Aa1 Tryz.prog W0 M 131 [s10.v,s27.v] W26 fun v28 W29=>
 ∃s30:Sl,v28=s30.v∧I64 (i11-1)∧stp F7 F8 [.val s21.v,.val s30.v,.val (.int .i64 (i11-1))] W29 [.val s9.v,.val s10.v,.val (.int .i64 i11)] W12)∧
 (¬i18≤0→I64 (i11-1)∧stp F7 F8 [.val s9.v,.val s10.v,.val (.int .i64 (i11-1))] W17 [.val s9.v,.val s10.v,.val (.int .i64 i11)] W12))∧
 (¬0≤i11→∀(W31:PW),Ext W12 W31→Post (.tuple ⟨[s10.v,s9.v]⟩) W31)
theorem By5 (W0:PW) (M:Nat→Prop) (a0:Sl) (a1:Sl) (Post:Value→PW→Prop) (h:Cz0 W0 M a0 a1 Post):Aa0 Tryz.prog 95 [a0.v,a1.v] W0 M Post:=
 Aa3 rfl Aa9 Aa8 Tryz.func95 (cuts:=[]) rfl rfl (Nat.le_of_ble_eq_true rfl) (Eq.mpr (by kernel_rfl) h)
def Eg2 (W0:PW) (M:Nat→Prop) (a0:Sl) (a1:Sl) (Post:Value→PW→Prop):Prop:=
 ∃(F1:List PL→PW→Prop),
 ∃(F2:List PL→PW→Nat),
 F1 [.val a0.v,.val a1.v] W0∧
 ∀(s3 s4:Sl) (W5:PW),
 F1 [.val s3.v,.val s4.v] W5→
 (0<(s4.2:Int)→
 Aa1 Tryz.prog W0 M 95 [s3.v,s4.v] W5 fun v6 W7=>∃s8:Sl,∃s9:Sl,v6 = .tuple ⟨[s8.v,s9.v]⟩∧stp F1 F2 [.val s4.v,.val s9.v] W7 [.val s3.v,.val s4.v] W5)∧
 (¬0<(s4.2:Int)→∀(W10:PW),Ext W5 W10→Post s3.v W10)
theorem Dc2 (W0:PW) (M:Nat→Prop) (a0:Sl) (a1:Sl) (Post:Value→PW→Prop) (h:Eg2 W0 M a0 a1 Post):Aa0 Tryz.prog 55 [a0.v,a1.v] W0 M Post:=
 Aa3 rfl Aa9 Aa8 Tryz.func55 (cuts:=[]) rfl rfl (Nat.le_of_ble_eq_true rfl) (Eq.mpr (by kernel_rfl) h)
def Ca2 (W0:PW) (M:Nat→Prop) (a0:ByteArray) (Post:Value→PW→Prop):Prop:=
 ∃(F1:List PL→PW→Prop),
 (((↑(ByteArray.size a0):Int)=0→∀(W2:PW),Ext W0 W2→Post (Value.tuple ⟨[Value.slice none 0 0,Value.bool false]⟩) W2)∧
 (¬(↑(ByteArray.size a0):Int)=0→
 (4000<(↑(ByteArray.size a0):Int)→∀(W3:PW),Ext W0 W3→Post (Value.tuple ⟨[Value.slice none 0 0,Value.bool false]⟩) W3)∧
 (¬4000<(↑(ByteArray.size a0):Int)→
 ((0:Int)≤0∧0<(↑(ByteArray.size a0):Int))∧
 (Ae2 a0 0=48→(1<(↑(ByteArray.size a0):Int)→∀(W4:PW),Ext W0 W4→Post (Value.tuple ⟨[Value.slice none 0 0,Value.bool false]⟩) W4)∧(¬1<(↑(ByteArray.size a0):Int)→F1 [] W0))∧(¬Ae2 a0 0=48→F1 [] W0))))∧
 ∀(W5:PW),
 F1 [] W5→
 ∃(F6:List PL→PW→Prop),
 ∃(F7:List PL→PW→Nat),
 F6 [PL.row [],PL.val (Value.int .i64 0)] W5∧
 ∀(l8:List (List Value)) (i9:Int) (W10:PW),
 F6 [PL.row l8,PL.val (Value.int .i64 i9)] W10→
 (i9<(↑(ByteArray.size a0):Int)→
 ∃(F11:List PL→PW→Prop),
 ((0≤i9∧i9<(↑(ByteArray.size a0):Int))∧
 (Ae2 a0 (Int.toNat i9)<48→∀(W12:PW),Ext W10 W12→Post (Value.tuple ⟨[Value.slice none 0 0,Value.bool false]⟩) W12)∧
 (¬Ae2 a0 (Int.toNat i9)<48→
 (0≤i9∧i9<(↑(ByteArray.size a0):Int))∧
 (57<Ae2 a0 (Int.toNat i9)→∀(W13:PW),Ext W10 W13→Post (Value.tuple ⟨[Value.slice none 0 0,Value.bool false]⟩) W13)∧
 (¬57<Ae2 a0 (Int.toNat i9)→F11 [PL.val (Value.string a0),PL.val (Value.int .i64 i9),PL.val (Value.bool false),PL.val (Value.string a0),PL.val (Value.int .i64 i9)] W10)))∧
 ∀(t14:ByteArray) (i15:Int) (b16:Bool) (t17:ByteArray) (i18:Int) (W19:PW),
 F11 [PL.val (Value.string t14),PL.val (Value.int .i64 i15),PL.val (Value.bool b16),PL.val (Value.string t17),PL.val (Value.int .i64 i18)] W19→
 (0≤i9∧i9<(↑(ByteArray.size a0):Int))∧
 ∃(F20:List PL→PW→Prop),
 ∃(F21:List PL→PW→Nat),
 F20 [PL.val (Value.int .u64 (IntKind.wrap .u64 (IntKind.wrap .u8 (Ae2 a0 (Int.toNat i9)-48)))),PL.val (Value.int .i64 0),PL.row l8] W19∧
 ∀(l22:List (List Value)) (i23 i24:Int) (W25:PW),
 F20 [PL.val (Value.int .u64 i23),PL.val (Value.int .i64 i24),PL.row l22] W25→
 (i24<(↑(List.length l22):Int)→
 (0≤i24∧i24<(↑(List.length l22):Int))∧
 ∃i26:Int,
 Ck3 l22 (Int.toNat i24) 0 [Value.int .u32 i26]∧
 (0≤i24∧i24<(↑(List.length l22):Int))∧
 Int.toNat i24<List.length l22∧
 I64 (i24+1)∧
 stp F20 F21
 [PL.val (Value.int .u64 (Ah0 (IntKind.wrap .u64 (i23+IntKind.wrap .u64 (IntKind.wrap .u64 i26*10))) 32)),PL.val (Value.int .i64 (i24+1)),
 PL.row (List.set l22 (Int.toNat i24) [Value.int .u32 (IntKind.wrap .u32 (bits BinOp.and .u64 (IntKind.wrap .u64 (i23+IntKind.wrap .u64 (IntKind.wrap .u64 i26*10))) 4294967295))])]
 W25 [PL.val (Value.int .u64 i23),PL.val (Value.int .i64 i24),PL.row l22] W25)∧
 (¬i24<(↑(List.length l22):Int)→
 (0<i23→
 (List.length l22+List.length [[Value.int .u32 (IntKind.wrap .u32 i23)]])*4≤140737488355328∧
 I64 (i9+1)∧stp F6 F7 [PL.row (l22 ++ [[Value.int .u32 (IntKind.wrap .u32 i23)]]),PL.val (Value.int .i64 (i9+1))] W25 [PL.row l8,PL.val (Value.int .i64 i9)] W10)∧
 (¬0<i23→I64 (i9+1)∧stp F6 F7 [PL.row l22,PL.val (Value.int .i64 (i9+1))] W25 [PL.row l8,PL.val (Value.int .i64 i9)] W10)))∧
 (¬i9<(↑(ByteArray.size a0):Int)→∀(s27:Sl) (W28:PW),Ext W10 W28→SX.Own W28 141 1 s27 l8→Fr W0 W10 s27→∀(W29:PW),Ext W28 W29→Post (Value.tuple ⟨[s27.v,Value.bool true]⟩) W29)
theorem Bi5 (W0:PW) (M:Nat→Prop) (a0:ByteArray) (Post:Value→PW→Prop) (h:Ca2 W0 M a0 Post):Aa0 Tryz.prog 53 [Value.string a0] W0 M Post:=
 Aa3 rfl Aa9 Aa8 Tryz.func53 (cuts:=[3,9]) rfl rfl (Nat.le_of_ble_eq_true rfl) (Eq.mpr (by kernel_rfl) h)
def Cc6 (W0:PW) (M:Nat→Prop) (a0:ByteArray) (Post:Value→PW→Prop):Prop:=
 (0<(↑(ByteArray.size a0):Int)→
 ((0:Int)≤0∧0<(↑(ByteArray.size a0):Int))∧
 (Ae2 a0 0=45→
 ((0:Int)≤1∧1≤(↑(ByteArray.size a0):Int)∧(↑(ByteArray.size a0):Int)≤(↑(ByteArray.size a0):Int))∧
 Aa1 Tryz.prog W0 M 53 [.string (ByteArray.extract a0 1 (Int.toNat (↑(ByteArray.size a0):Int)))] W0 fun v1 W2=>
 ∃s3:Sl,
 ∃b4:Bool,
 v1 = .tuple ⟨[s3.v,.bool b4]⟩∧
 ((!b4)=true→∀(W5:PW),Ext W2 W5→Post (.tuple ⟨[.agg ⟨[.bool false,.slice none 0 0]⟩,.bool false]⟩) W5)∧
 ((!b4)=false→
 ((s3.2:Int)=0→∀(W6:PW),Ext W2 W6→Post (.tuple ⟨[.agg ⟨[.bool false,.slice none 0 0]⟩,.bool false]⟩) W6)∧
 (¬(s3.2:Int)=0→∀(W7:PW),Ext W2 W7→Post (.tuple ⟨[.agg ⟨[.bool true,s3.v]⟩,.bool true]⟩) W7)))∧
 (¬Ae2 a0 0=45→
 Aa1 Tryz.prog W0 M 53 [.string a0] W0 fun v8 W9=>
 ∃s10:Sl,∃b11:Bool,v8 = .tuple ⟨[s10.v,.bool b11]⟩∧∀(W12:PW),Ext W9 W12→Post (.tuple ⟨[.agg ⟨[.bool false,s10.v]⟩,.bool b11]⟩) W12))∧
 (¬0<(↑(ByteArray.size a0):Int)→
 Aa1 Tryz.prog W0 M 53 [.string a0] W0 fun v13 W14=>∃s15:Sl,∃b16:Bool,v13 = .tuple ⟨[s15.v,.bool b16]⟩∧∀(W17:PW),Ext W14 W17→Post (.tuple ⟨[.agg ⟨[.bool false,s15.v]⟩,.bool b16]⟩) W17)
theorem Bi8 (W0:PW) (M:Nat→Prop) (a0:ByteArray) (Post:Value→PW→Prop) (h:Cc6 W0 M a0 Post):Aa0 Tryz.prog 51 [.string a0] W0 M Post:=
 Aa3 rfl Aa9 Aa8 Tryz.func51 (cuts:=[]) rfl rfl (Nat.le_of_ble_eq_true rfl) (Eq.mpr (by kernel_rfl) h)
def Cc3 (W0:PW) (M:Nat→Prop) (a0:ByteArray) (Post:Value→PW→Prop):Prop:=
 ∃(F1:List PL→PW→Prop),
 (∃(F2:List PL→PW→Prop),
 ∃(F3:List PL→PW→Nat),
 F2 [.val (.int .i64 (-1:Int)),.val (.int .i64 0)] W0∧
 ∀(i4 i5:Int) (W6:PW),
 F2 [.val (.int .i64 i4),.val (.int .i64 i5)] W6→
 (i5<(↑(ByteArray.size a0):Int)→
 (i4<0→
 (0≤i5∧i5<(↑(ByteArray.size a0):Int))∧
 (Ae2 a0 (Int.toNat i5)=47→I64 (i5+1)∧stp F2 F3 [.val (.int .i64 i5),.val (.int .i64 (i5+1))] W6 [.val (.int .i64 i4),.val (.int .i64 i5)] W6)∧
 (¬Ae2 a0 (Int.toNat i5)=47→I64 (i5+1)∧stp F2 F3 [.val (.int .i64 i4),.val (.int .i64 (i5+1))] W6 [.val (.int .i64 i4),.val (.int .i64 i5)] W6))∧
 (¬i4<0→F1 [.val (.int .i64 i4)] W6))∧
 (¬i5<(↑(ByteArray.size a0):Int)→F1 [.val (.int .i64 i4)] W6))∧
 ∀(i7:Int) (W8:PW),
 F1 [.val (.int .i64 i7)] W8→
 (i7<0→
 Aa1 Tryz.prog W0 M 51 [.string a0] W8 fun v9 W10=>
 ∃b11:Bool,
 ∃s12:Sl,
 ∃b13:Bool,
 v9 = .tuple ⟨[.agg ⟨[.bool b11,s12.v]⟩,.bool b13]⟩∧
 Aa1 Tryz.prog W0 M 52 [.int .u64 1] W10 fun v14 W15=>∃s16:Sl,v14=s16.v∧∀(W17:PW),Ext W15 W17→Post (.tuple ⟨[.agg ⟨[.bool b11,s12.v,s16.v]⟩,.bool b13]⟩) W17)∧
 (¬i7<0→
 ((0:Int)≤0∧0≤i7∧i7≤(↑(ByteArray.size a0):Int))∧
 Aa1 Tryz.prog W0 M 51 [.string (ByteArray.extract a0 0 (Int.toNat i7))] W8 fun v18 W19=>
 ∃b20:Bool,
 ∃s21:Sl,
 ∃b22:Bool,
 v18 = .tuple ⟨[.agg ⟨[.bool b20,s21.v]⟩,.bool b22]⟩∧
 I64 (i7+1)∧
 (0≤i7+1∧i7+1≤(↑(ByteArray.size a0):Int)∧(↑(ByteArray.size a0):Int)≤(↑(ByteArray.size a0):Int))∧
 Aa1 Tryz.prog W0 M 53 [.string (ByteArray.extract a0 (Int.toNat (i7+1)) (Int.toNat (↑(ByteArray.size a0):Int)))] W19 fun v23 W24=>
 ∃s25:Sl,
 ∃b26:Bool,
 v23 = .tuple ⟨[s25.v,.bool b26]⟩∧
 ∃(F27:List PL→PW→Prop),
 (((!b22)=true→∀(W28:PW),Ext W24 W28→Post (.tuple ⟨[.agg ⟨[.bool false,.slice none 0 0,.slice none 0 0]⟩,.bool false]⟩) W28)∧
 ((!b22)=false→
 ((!b26)=true→∀(W29:PW),Ext W24 W29→Post (.tuple ⟨[.agg ⟨[.bool false,.slice none 0 0,.slice none 0 0]⟩,.bool false]⟩) W29)∧
 ((!b26)=false→
 Aa1 Tryz.prog W0 M 52 [.int .u64 1] W24 fun v30 W31=>
 ∃s32:Sl,
 v30=s32.v∧
 Aa1 Tryz.prog W0 M 54 [s25.v,s32.v] W31 fun v33 W34=>
 ∃i35:Int,
 v33 = .int .i64 i35∧
 (i35≤0→∀(W36:PW),Ext W34 W36→Post (.tuple ⟨[.agg ⟨[.bool false,.slice none 0 0,.slice none 0 0]⟩,.bool false]⟩) W36)∧
 (¬i35≤0→
 Aa1 Tryz.prog W0 M 55 [s25.v,s21.v] W34 fun v37 W38=>
 ∃s39:Sl,
 v37=s39.v∧
 Aa1 Tryz.prog W0 M 52 [.int .u64 1] W38 fun v40 W41=>
 ∃s42:Sl,
 v40=s42.v∧
 Aa1 Tryz.prog W0 M 54 [s39.v,s42.v] W41 fun v43 W44=>
 ∃i45:Int,
 v43 = .int .i64 i45∧
 (i45≠0→∀(W46:PW),Ext W44 W46→Post (.tuple ⟨[.agg ⟨[.bool false,.slice none 0 0,.slice none 0 0]⟩,.bool false]⟩) W46)∧
 (¬i45≠0→F27 [.cells [.bool false,.slice none 0 0,.slice none 0 0]] W44)))))∧
 ∀(b47:Bool) (s48 s49:Sl) (W50:PW),F27 [.cells [.bool b47,s48.v,s49.v]] W50→∀(W51:PW),Ext W50 W51→Post (.tuple ⟨[.agg ⟨[.bool b20,s21.v,s25.v]⟩,.bool true]⟩) W51)
theorem Bj0 (W0:PW) (M:Nat→Prop) (a0:ByteArray) (Post:Value→PW→Prop) (h:Cc3 W0 M a0 Post):Aa0 Tryz.prog 19 [.string a0] W0 M Post:=
 Aa3 rfl Aa9 Aa8 Tryz.func19 (cuts:=[7,14]) rfl rfl (Nat.le_of_ble_eq_true rfl) (Eq.mpr (by kernel_rfl) h)
def Gv5 (W0:PW) (M:Nat→Prop) (a0:ByteArray) (Post:Value→PW→Prop):Prop:=
 Aa1 Tryz.prog W0 M 19 [.string a0] W0 fun v1 W2=>
 ∃b3:Bool,
 ∃s4:Sl,
 ∃s5:Sl,
 ∃b6:Bool,
 v1 = .tuple ⟨[.agg ⟨[.bool b3,s4.v,s5.v]⟩,.bool b6]⟩∧
 ((!b6)=true→
 ∀(W7:PW),
 Ext W2 W7→
 Post (.tuple ⟨[.agg ⟨[.slice none 0 0,.bool false,.slice none 0 0]⟩,.agg ⟨[.bool false,.slice none 0 0,.slice none 0 0]⟩,.bool false]⟩) W7)∧
 ((!b6)=false→
 (100<(↑(ByteArray.size a0):Int)→
 ∀(W8:PW),
 Ext W2 W8→
 Post (.tuple ⟨[.agg ⟨[.slice none 0 0,.bool false,.slice none 0 0]⟩,.agg ⟨[.bool false,.slice none 0 0,.slice none 0 0]⟩,.bool false]⟩) W8)∧
 (¬100<(↑(ByteArray.size a0):Int)→
 Aa1 Tryz.prog W0 M 20 [.string a0] W2 fun v9 W10=>
 ∃s11:Sl,
 ∃b12:Bool,
 ∃s13:Sl,
 ∃i14:Int,
 v9 = .tuple ⟨[.agg ⟨[s11.v,.bool b12,s13.v]⟩,.int .i64 i14]⟩∧
 ∀(W15:PW),Ext W10 W15→Post (.tuple ⟨[.agg ⟨[s11.v,.bool b12,s13.v]⟩,.agg ⟨[.bool b3,s4.v,s5.v]⟩,.bool true]⟩) W15))
theorem Gp5 (W0:PW) (M:Nat→Prop) (a0:ByteArray) (Post:Value→PW→Prop) (h:Gv5 W0 M a0 Post):Aa0 Tryz.prog 5 [.string a0] W0 M Post:=
 Aa3 rfl Aa9 Aa8 Tryz.func5 (cuts:=[]) rfl rfl (Nat.le_of_ble_eq_true rfl) (Eq.mpr (by kernel_rfl) h)
end Go.Proofs.YtahohahjnhfedaaGreatDoor
