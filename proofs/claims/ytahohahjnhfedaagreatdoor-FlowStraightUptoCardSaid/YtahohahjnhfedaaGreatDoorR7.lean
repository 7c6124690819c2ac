/- R7 -/
import Derived.Test.YtahohahjnhfedaaGreatDoorTt
set_option linter.unusedVariables false
set_option linter.unusedSimpArgs false
set_option maxRecDepth 100000
namespace Go.Proofs.YtahohahjnhfedaaGreatDoor
open Go Go.SX
def Cj3 (W0:PW) (M:Nat→Prop) (a0:Sl) (Post:Value→PW→Prop):Prop:=
 ((↑a0.2:Int)=(0:Int)→∀(W1:PW),Ext W0 W1→Post (Value.string (ByteArray.mk #[48])) W1)∧
 (¬(↑a0.2:Int)=(0:Int)→
 ∃(l2:List (List Value)),
 Bf9 W0 (1:Nat) a0 l2∧
 List.length l2*(4:Nat)≤(140737488355328:Nat)∧
 ∀(s3:Sl) (W4:PW),
 Ext W0 W4→
 SX.Own W4 (141:Nat) (1:Nat) s3 l2→
 Fr W0 W0 s3→
 ∃(F5:List PL→PW→Prop),
 ∃(F6:List PL→PW→Nat),
 F5 [PL.row [],PL.val s3.v] W4∧
 ∀(l7:List (List Value)) (s8:Sl) (W9:PW),
 F5 [PL.row l7,PL.val s8.v] W9→
 ((0:Int)<(↑s8.2:Int)→
 I64 ((↑s8.2:Int)-(1:Int))∧
 ∃(F10:List PL→PW→Prop),
 ∃(F11:List PL→PW→Nat),
 F10 [PL.val (Value.int IntKind.u64 (0:Int)),PL.val (Value.int IntKind.i64 ((↑s8.2:Int)-(1:Int)))] W9∧
 ∀(i12 i13:Int) (W14:PW),
 F10 [PL.val (Value.int IntKind.u64 i12),PL.val (Value.int IntKind.i64 i13)] W14→
 ((0:Int)≤i13→
 inB s8 i13∧
 ∃i15:Int,
 Aa7 W14 s8 (1:Nat) (Int.toNat i13) (0:Nat) [Value.int IntKind.u32 i15]∧
 (10:Int)≠(0:Int)∧
 inB s8 i13∧
 An9 W0 M s8 (Int.toNat i13*(1:Nat)+(0:Nat)) [Value.int IntKind.u32 (IntKind.wrap IntKind.u32 (IntKind.wrap IntKind.u64 (Int.tdiv (bits BinOp.or IntKind.u64 (Bc5 IntKind.u64 i12 (32:Nat)) (IntKind.wrap IntKind.u64 i15)) (10:Int))))] W14 fun(W16:PW)=>
 (10:Int)≠(0:Int)∧
 I64 (i13-(1:Int))∧
 stp F10 F11 [PL.val (Value.int IntKind.u64 (Int.tmod (bits BinOp.or IntKind.u64 (Bc5 IntKind.u64 i12 (32:Nat)) (IntKind.wrap IntKind.u64 i15)) (10:Int))),PL.val (Value.int IntKind.i64 (i13-(1:Int)))] W16
 [PL.val (Value.int IntKind.u64 i12),PL.val (Value.int IntKind.i64 i13)] W14)∧
 (¬(0:Int)≤i13→
 (List.length l7+List.length [[Value.int IntKind.u8 (IntKind.wrap IntKind.u8 (IntKind.wrap IntKind.u64 ((48:Int)+i12)))]])*(1:Nat)≤(140737488355328:Nat)∧
 Aa1 Tryz.prog W0 M (94:Nat) [s8.v] W14 fun v17 W18=>
 ∃s19:Sl,v17=s19.v∧stp F5 F6 [PL.row (l7 ++ [[Value.int IntKind.u8 (IntKind.wrap IntKind.u8 (IntKind.wrap IntKind.u64 ((48:Int)+i12)))]]),PL.val s19.v] W18 [PL.row l7,PL.val s8.v] W9))∧
 (¬(0:Int)<(↑s8.2:Int)→
 ∀(s20:Sl) (W21:PW),
 Ext W9 W21→
 SX.Own W21 (5:Nat) (1:Nat) s20 l7→
 Fr W0 W9 s20→
 ∃(F22:List PL→PW→Prop),
 ∃(F23:List PL→PW→Nat),
 F22 [PL.val (Value.int IntKind.i64 (0:Int))] W21∧
 ∀(i24:Int) (W25:PW),
 F22 [PL.val (Value.int IntKind.i64 i24)] W25→
 (2:Int)≠(0:Int)∧
 (i24<IntKind.wrap IntKind.i64 (Int.tdiv (↑s20.2:Int) (2:Int))→
 I64 ((↑s20.2:Int)-(1:Int))∧
 I64 ((↑s20.2:Int)-(1:Int)-i24)∧
 I64 ((↑s20.2:Int)-(1:Int))∧
 I64 ((↑s20.2:Int)-(1:Int)-i24)∧
 inB s20 ((↑s20.2:Int)-(1:Int)-i24)∧
 ∃i26:Int,
 Aa7 W25 s20 (1:Nat) (Int.toNat ((↑s20.2:Int)-(1:Int)-i24)) (0:Nat) [Value.int IntKind.u8 i26]∧
 inB s20 i24∧
 ∃i27:Int,
 Aa7 W25 s20 (1:Nat) (Int.toNat i24) (0:Nat) [Value.int IntKind.u8 i27]∧
 inB s20 i24∧
 An9 W0 M s20 (Int.toNat i24*(1:Nat)+(0:Nat)) [Value.int IntKind.u8 i26] W25 fun(W28:PW)=>
 inB s20 ((↑s20.2:Int)-(1:Int)-i24)∧
 An9 W0 M s20 (Int.toNat ((↑s20.2:Int)-(1:Int)-i24)*(1:Nat)+(0:Nat)) [Value.int IntKind.u8 i27] W28 fun(W29:PW)=>
 I64 (i24+(1:Int))∧stp F22 F23 [PL.val (Value.int IntKind.i64 (i24+(1:Int)))] W29 [PL.val (Value.int IntKind.i64 i24)] W25)∧
 (¬i24<IntKind.wrap IntKind.i64 (Int.tdiv (↑s20.2:Int) (2:Int))→∃(l30:List Int),Row W25 (5:Nat) (1:Nat) s20 (List.map (fun(i31:Int)=>[Value.int IntKind.u8 i31]) l30)∧∀(W32:PW),Ext W25 W32→Post (Value.string (strOfNums l30)) W32)))
theorem Bn1 (W0:PW) (M:Nat→Prop) (a0:Sl) (Post:Value→PW→Prop) (h:Cj3 W0 M a0 Post):Aa0 Tryz.prog 141 [a0.v] W0 M Post:=
 Aa3 rfl Aa9 Aa8 Tryz.func141 (cuts:=[1000005,1000016]) rfl rfl (Nat.le_of_ble_eq_true rfl) (Eq.mpr (by kernel_rfl) h)
def Cn6 (W0:PW) (M:Nat→Prop) (a0_0:Bool) (a0_1:Sl) (Post:Value→PW→Prop):Prop:=
 (a0_0=true→
 Aa1 Tryz.prog W0 M 141 [a0_1.v] W0 fun v1 W2=>
 ∃t3:ByteArray,v1 = .string t3∧(↑(ByteArray.size (ByteArray.mk #[45])):Int)+(↑(ByteArray.size t3):Int)≤9223372036854775807∧∀(W4:PW),Ext W2 W4→Post (.string ((ByteArray.mk #[45]) ++ t3)) W4)∧
 (a0_0=false→Aa1 Tryz.prog W0 M 141 [a0_1.v] W0 fun v5 W6=>∃t7:ByteArray,v5 = .string t7∧∀(W8:PW),Ext W6 W8→Post (.string t7) W8)
theorem Bn4 (W0:PW) (M:Nat→Prop) (a0_0:Bool) (a0_1:Sl) (Post:Value→PW→Prop) (h:Cn6 W0 M a0_0 a0_1 Post):Aa0 Tryz.prog 140 [.agg #[.bool a0_0,a0_1.v]] W0 M Post:=
 Aa3 rfl Aa9 Aa8 Tryz.func140 (cuts:=[]) rfl rfl (Nat.le_of_ble_eq_true rfl) (Eq.mpr (by kernel_rfl) h)
def Ci2 (W0:PW) (M:Nat→Prop) (a0_0:Bool) (a0_1:Sl) (a0_2:Sl) (Post:Value→PW→Prop):Prop:=
 Aa1 Tryz.prog W0 M 89 [.agg ⟨[.bool a0_0,a0_1.v,a0_2.v]⟩] W0 fun v1 W2=>
 ∃s3:Sl,
 v1=s3.v∧
 Aa1 Tryz.prog W0 M 52 [.int .u64 1] W2 fun v4 W5=>
 ∃s6:Sl,
 v4=s6.v∧
 Aa1 Tryz.prog W0 M 54 [s3.v,s6.v] W5 fun v7 W8=>
 ∃i9:Int,
 v7 = .int .i64 i9∧
 (i9=0→Aa1 Tryz.prog W0 M 140 [.agg ⟨[.bool a0_0,a0_1.v]⟩] W8 fun v10 W11=>∃t12:ByteArray,v10 = .string t12∧∀(W13:PW),Ext W11 W13→Post (.string t12) W13)∧
 (¬i9=0→
 Aa1 Tryz.prog W0 M 140 [.agg ⟨[.bool a0_0,a0_1.v]⟩] W8 fun v14 W15=>
 ∃t16:ByteArray,
 v14 = .string t16∧
 (↑(ByteArray.size t16):Int)+(↑(ByteArray.size (ByteArray.mk #[47])):Int)≤9223372036854775807∧
 Aa1 Tryz.prog W0 M 141 [a0_2.v] W15 fun v17 W18=>
 ∃t19:ByteArray,v17 = .string t19∧(↑(ByteArray.size (t16 ++ (ByteArray.mk #[47]))):Int)+(↑(ByteArray.size t19):Int)≤9223372036854775807∧∀(W20:PW),Ext W18 W20→Post (.string (t16 ++ (ByteArray.mk #[47]) ++ t19)) W20)
theorem Bm4 (W0:PW) (M:Nat→Prop) (a0_0:Bool) (a0_1:Sl) (a0_2:Sl) (Post:Value→PW→Prop) (h:Ci2 W0 M a0_0 a0_1 a0_2 Post):Aa0 Tryz.prog 106 [.agg #[.bool a0_0,a0_1.v,a0_2.v]] W0 M Post:=
 Aa3 rfl Aa9 Aa8 Tryz.func106 (cuts:=[]) rfl rfl (Nat.le_of_ble_eq_true rfl) (Eq.mpr (by kernel_rfl) h)
def Ek7 (W0:PW) (M:Nat→Prop) (a0_0:Int) (a0_1:Int) (a0_2:Int) (a1_0:Int) (a1_1:Int) (a1_2:Int) (Post:Value→PW→Prop):Prop:=
 ∃(F1:List PL→PW→Prop),
 ∃(F2:List PL→PW→Nat),
 F1 [PL.val (Value.int .i64 0),PL.cells [Value.int .u8 0,Value.int .u8 0,Value.int .u8 0],PL.cells [Value.int .u8 a0_0,Value.int .u8 a0_1,Value.int .u8 a0_2]] W0∧
 ∀(i3 i4 i5 i6 i7 i8 i9:Int) (W10:PW),
 F1 [PL.val (Value.int .i64 i9),PL.cells [Value.int .u8 i3,Value.int .u8 i4,Value.int .u8 i5],PL.cells [Value.int .u8 i6,Value.int .u8 i7,Value.int .u8 i8]] W10→
 (i9<3→
 (0≤i9∧i9<3)∧
 ∃i11:Int,
 List.take 1 (List.drop (Int.toNat i9*1) [Value.int .u8 a1_0,Value.int .u8 a1_1,Value.int .u8 a1_2]) = [Value.int .u8 i11]∧
 (0≤i9∧i9<3)∧
 ∃i12:Int,
 As9 [Value.int .u8 i6,Value.int .u8 i7,Value.int .u8 i8] (0+Int.toNat i9*1+0) [Value.int .u8 i12]∧
 I64 i12∧
 I64 i11∧
 I64 (i12+i11)∧
 (255<i12+i11→∀(W13:PW),Ext W10 W13→Post (Value.tuple ⟨[Value.agg ⟨[Value.int .u8 0,Value.int .u8 0,Value.int .u8 0]⟩,Value.bool false]⟩) W13)∧
 (¬255<i12+i11→
 (0≤i9∧i9<3)∧
 ∃i14:Int,
 As9 [Value.int .u8 i6,Value.int .u8 i7,Value.int .u8 i8] (0+Int.toNat i9*1+0) [Value.int .u8 i14]∧
 (0≤i9∧i9<3)∧
 Int.toNat i9<3∧
 ((True∧
 (Int.toNat i9=0→
 I64 (i9+1)∧
 stp F1 F2 [PL.val (Value.int .i64 (i9+1)),PL.cells [Value.int .u8 i3,Value.int .u8 i4,Value.int .u8 i5],PL.cells [Value.int .u8 (IntKind.wrap .u8 (i14+i11)),Value.int .u8 i7,Value.int .u8 i8]] W10
 [PL.val (Value.int .i64 i9),PL.cells [Value.int .u8 i3,Value.int .u8 i4,Value.int .u8 i5],PL.cells [Value.int .u8 i6,Value.int .u8 i7,Value.int .u8 i8]] W10))∧
 (Int.toNat i9=1→
 I64 (i9+1)∧
 stp F1 F2 [PL.val (Value.int .i64 (i9+1)),PL.cells [Value.int .u8 i3,Value.int .u8 i4,Value.int .u8 i5],PL.cells [Value.int .u8 i6,Value.int .u8 (IntKind.wrap .u8 (i14+i11)),Value.int .u8 i8]] W10
 [PL.val (Value.int .i64 i9),PL.cells [Value.int .u8 i3,Value.int .u8 i4,Value.int .u8 i5],PL.cells [Value.int .u8 i6,Value.int .u8 i7,Value.int .u8 i8]] W10))∧
 (Int.toNat i9=2→
 I64 (i9+1)∧
 stp F1 F2 [PL.val (Value.int .i64 (i9+1)),PL.cells [Value.int .u8 i3,Value.int .u8 i4,Value.int .u8 i5],PL.cells [Value.int .u8 i6,Value.int .u8 i7,Value.int .u8 (IntKind.wrap .u8 (i14+i11))]] W10
 [PL.val (Value.int .i64 i9),PL.cells [Value.int .u8 i3,Value.int .u8 i4,Value.int .u8 i5],PL.cells [Value.int .u8 i6,Value.int .u8 i7,Value.int .u8 i8]] W10)))∧
 (¬i9<3→∀(W15:PW),Ext W10 W15→Post (Value.tuple ⟨[Value.agg ⟨[Value.int .u8 i6,Value.int .u8 i7,Value.int .u8 i8]⟩,Value.bool true]⟩) W15)
theorem Cw3 (W0:PW) (M:Nat→Prop) (a0_0:Int) (a0_1:Int) (a0_2:Int) (a1_0:Int) (a1_1:Int) (a1_2:Int) (Post:Value→PW→Prop) (h:Ek7 W0 M a0_0 a0_1 a0_2 a1_0 a1_1 a1_2 Post):Aa0 Tryz.prog 133 [Value.agg #[Value.int .u8 a0_0,Value.int .u8 a0_1,Value.int .u8 a0_2],Value.agg #[Value.int .u8 a1_0,Value.int .u8 a1_1,Value.int .u8 a1_2]] W0 M Post:=
 Aa3 rfl Aa9 Aa8 Tryz.func133 (cuts:=[]) rfl rfl (Nat.le_of_ble_eq_true rfl) (Eq.mpr (by kernel_rfl) h)
def Cz1 (W0:PW) (M:Nat→Prop) (a0_0:Int) (a0_1:Int) (a0_2:Int) (Post:Value→PW→Prop):Prop:=
 ∃(F1:List PL→PW→Prop),
 ∃(F2:List PL→PW→Nat),
 F1 [PL.val (Value.int .i64 0),PL.val (Value.int .i64 0)] W0∧
 ∀(i3 i4:Int) (W5:PW),
 F1 [PL.val (Value.int .i64 i3),PL.val (Value.int .i64 i4)] W5→
 (i4<3→
 (0≤i4∧i4<3)∧
 ∃i6:Int,
 List.take 1 (List.drop (Int.toNat i4*1) [Value.int .u8 a0_0,Value.int .u8 a0_1,Value.int .u8 a0_2]) = [Value.int .u8 i6]∧
 I64 i6∧I64 (i3+i6)∧I64 (i4+1)∧stp F1 F2 [PL.val (Value.int .i64 (i3+i6)),PL.val (Value.int .i64 (i4+1))] W5 [PL.val (Value.int .i64 i3),PL.val (Value.int .i64 i4)] W5)∧
 (¬i4<3→∀(W7:PW),Ext W5 W7→Post (Value.int .i64 i3) W7)
theorem Bp2 (W0:PW) (M:Nat→Prop) (a0_0:Int) (a0_1:Int) (a0_2:Int) (Post:Value→PW→Prop) (h:Cz1 W0 M a0_0 a0_1 a0_2 Post):Aa0 Tryz.prog 162 [Value.agg #[Value.int .u8 a0_0,Value.int .u8 a0_1,Value.int .u8 a0_2]] W0 M Post:=
 Aa3 rfl Aa9 Aa8 Tryz.func162 (cuts:=[]) rfl rfl (Nat.le_of_ble_eq_true rfl) (Eq.mpr (by kernel_rfl) h)
def Em6 (W0:PW) (M:Nat→Prop) (a0_0:Int) (a0_1:Int) (a0_2:Int) (a1_0:Int) (a1_1:Int) (a1_2:Int) (Post:Value→PW→Prop):Prop:=
 Aa1 Tryz.prog W0 M 162 [.agg ⟨[.int .u8 a0_0,.int .u8 a0_1,.int .u8 a0_2]⟩] W0 fun v1 W2=>
 ∃i3:Int,
 v1 = .int .i64 i3∧
 Aa1 Tryz.prog W0 M 162 [.agg ⟨[.int .u8 a1_0,.int .u8 a1_1,.int .u8 a1_2]⟩] W2 fun v4 W5=>
 ∃i6:Int,
 v4 = .int .i64 i6∧
 Aa1 Tryz.prog W0 M 161 [.int .i64 i3,.int .i64 i6] W5 fun v7 W8=>
 ∃i9:Int,
 v7 = .int .i64 i9∧
 ∀(s10:Sl) (W11:PW),
 Ext W8 W11→
 Bf9 W11 1 s10 [[.int .u8 a0_0],[.int .u8 a0_1],[.int .u8 a0_2]]→
 Fr W0 W8 s10→
 ∀(s12:Sl) (W13:PW),
 Ext W11 W13→
 Bf9 W13 1 s12 [[.int .u8 a1_0],[.int .u8 a1_1],[.int .u8 a1_2]]→
 Fr W0 W11 s12→
 Aa1 Tryz.prog W0 M 163 [s10.v,s12.v] W13 fun v14 W15=>
 ∃i16:Int,
 v14 = .int .i64 i16∧
 ∀(s17:Sl) (W18:PW),
 Ext W15 W18→
 SX.Own W18 3 1 s17 [[.int .i64 i9],[.int .i64 i16]]→
 Fr W0 W15 s17→Aa1 Tryz.prog W0 M 160 [s17.v] W18 fun v19 W20=>∃i21:Int,v19 = .int .i64 i21∧∀(W22:PW),Ext W20 W22→Post (.int .i64 i21) W22
theorem Cp6 (W0:PW) (M:Nat→Prop) (a0_0:Int) (a0_1:Int) (a0_2:Int) (a1_0:Int) (a1_1:Int) (a1_2:Int) (Post:Value→PW→Prop) (h:Em6 W0 M a0_0 a0_1 a0_2 a1_0 a1_1 a1_2 Post):Aa0 Tryz.prog 137 [.agg #[.int .u8 a0_0,.int .u8 a0_1,.int .u8 a0_2],.agg #[.int .u8 a1_0,.int .u8 a1_1,.int .u8 a1_2]] W0 M Post:=
 Aa3 rfl Aa9 Aa8 Tryz.func137 (cuts:=[]) rfl rfl (Nat.le_of_ble_eq_true rfl) (Eq.mpr (by kernel_rfl) h)
def Bm7 (W0:PW) (M:Nat→Prop) (a0:Int) (a1:Int) (Post:Value→PW→Prop):Prop:=
 Aa1 Tryz.prog W0 M 178 [.int .i64 a0] W0 fun v1 W2=>
 ∃b3:Bool,
 v1 = .bool b3∧
 Aa1 Tryz.prog W0 M 178 [.int .i64 a1] W2 fun v4 W5=>
 ∃b6:Bool,
 v4 = .bool b6∧
 (b3=true→(b6=true→∀(W7:PW),Ext W5 W7→Post (.int .i64 0) W7)∧(b6=false→∀(W8:PW),Ext W5 W8→Post (.int .i64 (-1:Int)) W8))∧
 (b3=false→
 (b6=true→∀(W9:PW),Ext W5 W9→Post (.int .i64 1) W9)∧
 (b6=false→(a0<a1→∀(W10:PW),Ext W5 W10→Post (.int .i64 (-1:Int)) W10)∧(¬a0<a1→(a1<a0→∀(W11:PW),Ext W5 W11→Post (.int .i64 1) W11)∧(¬a1<a0→∀(W12:PW),Ext W5 W12→Post (.int .i64 0) W12))))
theorem Ba9 (W0:PW) (M:Nat→Prop) (a0:Int) (a1:Int) (Post:Value→PW→Prop) (h:Bm7 W0 M a0 a1 Post):Aa0 Tryz.prog 161 [.int .i64 a0,.int .i64 a1] W0 M Post:=
 Aa3 rfl Aa9 Aa8 Tryz.func161 (cuts:=[]) rfl rfl (Nat.le_of_ble_eq_true rfl) (Eq.mpr (by kernel_rfl) h)
def Bd4 (W0:PW) (M:Nat→Prop) (a0:Int) (a1:Int) (Post:Value→PW→Prop):Prop:=
 Aa1 Tryz.prog W0 M 185 [.int .u8 a0] W0 fun v1 W2=>
 ∃b3:Bool,
 v1 = .bool b3∧
 Aa1 Tryz.prog W0 M 185 [.int .u8 a1] W2 fun v4 W5=>
 ∃b6:Bool,
 v4 = .bool b6∧
 (b3=true→(b6=true→∀(W7:PW),Ext W5 W7→Post (.int .i64 0) W7)∧(b6=false→∀(W8:PW),Ext W5 W8→Post (.int .i64 (-1:Int)) W8))∧
 (b3=false→
 (b6=true→∀(W9:PW),Ext W5 W9→Post (.int .i64 1) W9)∧
 (b6=false→(a0<a1→∀(W10:PW),Ext W5 W10→Post (.int .i64 (-1:Int)) W10)∧(¬a0<a1→(a1<a0→∀(W11:PW),Ext W5 W11→Post (.int .i64 1) W11)∧(¬a1<a0→∀(W12:PW),Ext W5 W12→Post (.int .i64 0) W12))))
theorem Aw3 (W0:PW) (M:Nat→Prop) (a0:Int) (a1:Int) (Post:Value→PW→Prop) (h:Bd4 W0 M a0 a1 Post):Aa0 Tryz.prog 179 [.int .u8 a0,.int .u8 a1] W0 M Post:=
 Aa3 rfl Aa9 Aa8 Tryz.func179 (cuts:=[]) rfl rfl (Nat.le_of_ble_eq_true rfl) (Eq.mpr (by kernel_rfl) h)
def Ca4 (W0:PW) (M:Nat→Prop) (a0:Int) (Post:Value→PW→Prop):Prop:=
 ∀(W1:PW),Ext W0 W1→Post (.bool (decide (a0≠a0))) W1
theorem Bi1 (W0:PW) (M:Nat→Prop) (a0:Int) (Post:Value→PW→Prop) (h:Ca4 W0 M a0 Post):Aa0 Tryz.prog 178 [.int .i64 a0] W0 M Post:=
 Aa3 rfl Aa9 Aa8 Tryz.func178 (cuts:=[]) rfl rfl (Nat.le_of_ble_eq_true rfl) (Eq.mpr (by kernel_rfl) h)
def Bm9 (W0:PW) (M:Nat→Prop) (a0:Int) (Post:Value→PW→Prop):Prop:=
 ∀(W1:PW),Ext W0 W1→Post (.bool (decide (a0≠a0))) W1
theorem Bb5 (W0:PW) (M:Nat→Prop) (a0:Int) (Post:Value→PW→Prop) (h:Bm9 W0 M a0 Post):Aa0 Tryz.prog 185 [.int .u8 a0] W0 M Post:=
 Aa3 rfl Aa9 Aa8 Tryz.func185 (cuts:=[]) rfl rfl (Nat.le_of_ble_eq_true rfl) (Eq.mpr (by kernel_rfl) h)
def Dm8 (W0:PW) (M:Nat→Prop) (a0:Sl) (Post:Value→PW→Prop):Prop:=
 ∃(F1:List PL→PW→Prop),
 ∃(F2:List PL→PW→Nat),
 F1 [.val (.int .i64 0)] W0∧
 ∀(i3:Int) (W4:PW),
 F1 [.val (.int .i64 i3)] W4→
 (i3<(a0.2:Int)→
 inB a0 i3∧
 ∃i5:Int,
 Aa7 W4 a0 1 (Int.toNat i3) 0 [.int .i64 i5]∧(i5≠0→∀(W6:PW),Ext W4 W6→Post (.int .i64 i5) W6)∧(¬i5≠0→I64 (i3+1)∧stp F1 F2 [.val (.int .i64 (i3+1))] W4 [.val (.int .i64 i3)] W4))∧
 (¬i3<(a0.2:Int)→∀(W7:PW),Ext W4 W7→Post (.int .i64 0) W7)
theorem Cd0 (W0:PW) (M:Nat→Prop) (a0:Sl) (Post:Value→PW→Prop) (h:Dm8 W0 M a0 Post):Aa0 Tryz.prog 160 [a0.v] W0 M Post:=
 Aa3 rfl Aa9 Aa8 Tryz.func160 (cuts:=[]) rfl rfl (Nat.le_of_ble_eq_true rfl) (Eq.mpr (by kernel_rfl) h)
def Ap3 (W0:PW) (M:Nat→Prop) (a0:Sl) (a1:Sl) (Post:Value→PW→Prop):Prop:=
 ∃(F1:List PL→PW→Prop),
 ∃(F2:List PL→PW→Nat),
 F1 [.val (.int .i64 0)] W0∧
 ∀(i3:Int) (W4:PW),
 F1 [.val (.int .i64 i3)] W4→
 (i3<(a0.2:Int)→
 inB a0 i3∧
 ∃i5:Int,
 Aa7 W4 a0 1 (Int.toNat i3) 0 [.int .u8 i5]∧
 ((a1.2:Int)≤i3→∀(W6:PW),Ext W4 W6→Post (.int .i64 1) W6)∧
 (¬(a1.2:Int)≤i3→
 inB a1 i3∧
 ∃i7:Int,
 Aa7 W4 a1 1 (Int.toNat i3) 0 [.int .u8 i7]∧
 Aa1 Tryz.prog W0 M 179 [.int .u8 i5,.int .u8 i7] W4 fun v8 W9=>
 ∃i10:Int,v8 = .int .i64 i10∧(i10≠0→∀(W11:PW),Ext W9 W11→Post (.int .i64 i10) W11)∧(¬i10≠0→I64 (i3+1)∧stp F1 F2 [.val (.int .i64 (i3+1))] W9 [.val (.int .i64 i3)] W4)))∧
 (¬i3<(a0.2:Int)→((a0.2:Int)<(a1.2:Int)→∀(W12:PW),Ext W4 W12→Post (.int .i64 (-1:Int)) W12)∧(¬(a0.2:Int)<(a1.2:Int)→∀(W13:PW),Ext W4 W13→Post (.int .i64 0) W13))
theorem Am4 (W0:PW) (M:Nat→Prop) (a0:Sl) (a1:Sl) (Post:Value→PW→Prop) (h:Ap3 W0 M a0 a1 Post):Aa0 Tryz.prog 163 [a0.v,a1.v] W0 M Post:=
 Aa3 rfl Aa9 Aa8 Tryz.func163 (cuts:=[]) rfl rfl (Nat.le_of_ble_eq_true rfl) (Eq.mpr (by kernel_rfl) h)
def Bg0 (W0:PW) (M:Nat→Prop) (a0_0:Int) (a0_1:Int) (a0_2:Int) (a0_3:Sl) (a0_4:Bool) (a0_5:Sl) (a1_0:Int) (a1_1:Int) (a1_2:Int) (a1_3:Sl) (a1_4:Bool) (a1_5:Sl) (Post:Value→PW→Prop):Prop:=
 Aa1 Tryz.prog W0 M 137 [.agg ⟨[.int .u8 a0_0,.int .u8 a0_1,.int .u8 a0_2]⟩,.agg ⟨[.int .u8 a1_0,.int .u8 a1_1,.int .u8 a1_2]⟩] W0 fun v1 W2=>
 ∃i3:Int,v1 = .int .i64 i3∧∀(W4:PW),Ext W2 W4→Post (.int .i64 i3) W4
theorem Az1 (W0:PW) (M:Nat→Prop) (a0_0:Int) (a0_1:Int) (a0_2:Int) (a0_3:Sl) (a0_4:Bool) (a0_5:Sl) (a1_0:Int) (a1_1:Int) (a1_2:Int) (a1_3:Sl) (a1_4:Bool) (a1_5:Sl) (Post:Value→PW→Prop) (h:Bg0 W0 M a0_0 a0_1 a0_2 a0_3 a0_4 a0_5 a1_0 a1_1 a1_2 a1_3 a1_4 a1_5 Post):Aa0 Tryz.prog 136 [.agg #[.int .u8 a0_0,.int .u8 a0_1,.int .u8 a0_2,a0_3.v,.bool a0_4,a0_5.v],.agg #[.int .u8 a1_0,.int .u8 a1_1,.int .u8 a1_2,a1_3.v,.bool a1_4,a1_5.v]] W0 M Post:=
 Aa3 rfl Aa9 Aa8 Tryz.func136 (cuts:=[]) rfl rfl (Nat.le_of_ble_eq_true rfl) (Eq.mpr (by kernel_rfl) h)
end Go.Proofs.YtahohahjnhfedaaGreatDoor
