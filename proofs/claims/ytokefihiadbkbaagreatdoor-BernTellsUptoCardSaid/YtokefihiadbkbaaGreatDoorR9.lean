/- R9 -/
import Derived.Test.YtokefihiadbkbaaGreatDoorTt
set_option linter.unusedVariables false
set_option linter.unusedSimpArgs false
set_option maxRecDepth 100000
namespace Go.Proofs.YtokefihiadbkbaaGreatDoor
open Go Go.SX
def Db3 (W0:PW) (M:Nat→Prop) (a0_0:Int) (a0_1:Int) (a0_2:Int) (Post:Value→PW→Prop):Prop:=
 ((0:Int)≤0∧(0:Int)<3)∧I64 a0_0∧((0:Int)≤1∧(1:Int)<3)∧I64 a0_1∧I64 (a0_0+a0_1)∧((0:Int)≤2∧(2:Int)<3)∧I64 a0_2∧I64 (a0_0+a0_1+a0_2)∧∀(W1:PW),Ext W0 W1→Post (.int .i64 (a0_0+a0_1+a0_2)) W1
theorem Bs4 (W0:PW) (M:Nat→Prop) (a0_0:Int) (a0_1:Int) (a0_2:Int) (Post:Value→PW→Prop) (h:Db3 W0 M a0_0 a0_1 a0_2 Post):Aa0 Tryz.prog 175 [.agg #[.int .u8 a0_0,.int .u8 a0_1,.int .u8 a0_2]] W0 M Post:=
 Aa3 rfl Aa9 Aa8 Tryz.func175 (cuts:=[]) rfl rfl (Nat.le_of_ble_eq_true rfl) (Eq.mpr (by kernel_rfl) h)
def Cm6 (W0:PW) (M:Nat→Prop) (a0_0:Int) (a0_1:Int) (a0_2:Int) (a1_0:Int) (a1_1:Int) (a1_2:Int) (Post:Value→PW→Prop):Prop:=
 Aa1 Tryz.prog W0 M 175 [.agg ⟨[.int .u8 a0_0,.int .u8 a0_1,.int .u8 a0_2]⟩] W0 fun v1 W2=>
 ∃i3:Int,
 v1 = .int .i64 i3∧
 Aa1 Tryz.prog W0 M 175 [.agg ⟨[.int .u8 a1_0,.int .u8 a1_1,.int .u8 a1_2]⟩] W2 fun v4 W5=>
 ∃i6:Int,
 v4 = .int .i64 i6∧
 (i3≠i6→
 Aa1 Tryz.prog W0 M 175 [.agg ⟨[.int .u8 a0_0,.int .u8 a0_1,.int .u8 a0_2]⟩] W5 fun v7 W8=>
 ∃i9:Int,
 v7 = .int .i64 i9∧
 Aa1 Tryz.prog W0 M 175 [.agg ⟨[.int .u8 a1_0,.int .u8 a1_1,.int .u8 a1_2]⟩] W8 fun v10 W11=>
 ∃i12:Int,v10 = .int .i64 i12∧(i9<i12→∀(W13:PW),Ext W11 W13→Post (.int .i64 (-1:Int)) W13)∧(¬i9<i12→∀(W14:PW),Ext W11 W14→Post (.int .i64 1) W14))∧
 (¬i3≠i6→
 ∃(F15:List PL→PW→Prop),
 ∃(F16:List PL→PW→Nat),
 F15 [.val (.int .i64 0)] W5∧
 ∀(i17:Int) (W18:PW),
 F15 [.val (.int .i64 i17)] W18→
 (i17<3→
 (0≤i17∧i17<3)∧
 ∃i19:Int,
 As9 [.int .u8 a0_0,.int .u8 a0_1,.int .u8 a0_2] (0+Int.toNat i17*1+0) [.int .u8 i19]∧
 (0≤i17∧i17<3)∧
 ∃i20:Int,
 As9 [.int .u8 a1_0,.int .u8 a1_1,.int .u8 a1_2] (0+Int.toNat i17*1+0) [.int .u8 i20]∧
 (i19<i20→∀(W21:PW),Ext W18 W21→Post (.int .i64 (-1:Int)) W21)∧
 (¬i19<i20→
 (0≤i17∧i17<3)∧
 ∃i22:Int,
 As9 [.int .u8 a0_0,.int .u8 a0_1,.int .u8 a0_2] (0+Int.toNat i17*1+0) [.int .u8 i22]∧
 (0≤i17∧i17<3)∧
 ∃i23:Int,
 As9 [.int .u8 a1_0,.int .u8 a1_1,.int .u8 a1_2] (0+Int.toNat i17*1+0) [.int .u8 i23]∧
 (i23<i22→∀(W24:PW),Ext W18 W24→Post (.int .i64 1) W24)∧(¬i23<i22→I64 (i17+1)∧stp F15 F16 [.val (.int .i64 (i17+1))] W18 [.val (.int .i64 i17)] W18)))∧
 (¬i17<3→∀(W25:PW),Ext W18 W25→Post (.int .i64 0) W25))
theorem Bn9 (W0:PW) (M:Nat→Prop) (a0_0:Int) (a0_1:Int) (a0_2:Int) (a1_0:Int) (a1_1:Int) (a1_2:Int) (Post:Value→PW→Prop) (h:Cm6 W0 M a0_0 a0_1 a0_2 a1_0 a1_1 a1_2 Post):Aa0 Tryz.prog 118 [.agg #[.int .u8 a0_0,.int .u8 a0_1,.int .u8 a0_2],.agg #[.int .u8 a1_0,.int .u8 a1_1,.int .u8 a1_2]] W0 M Post:=
 Aa3 rfl Aa9 Aa8 Tryz.func118 (cuts:=[]) rfl rfl (Nat.le_of_ble_eq_true rfl) (Eq.mpr (by kernel_rfl) h)
def Kf9 (W0:PW) (M:Nat→Prop) (a0_0:Int) (a0_1:Int) (a0_2:Int) (a1_0:Int) (a1_1:Int) (a1_2:Int) (Post:Value→PW→Prop):Prop:=
 ∃(F1:List PL→PW→Prop),
 ∃(F2:List PL→PW→Nat),
 F1 [.val (.int .i64 0),.cells [.int .u8 0,.int .u8 0,.int .u8 0],.cells [.int .u8 0,.int .u8 0,.int .u8 0]] W0∧
 ∀(i3 i4 i5 i6 i7 i8 i9:Int) (W10:PW),
 F1 [.val (.int .i64 i9),.cells [.int .u8 i3,.int .u8 i4,.int .u8 i5],.cells [.int .u8 i6,.int .u8 i7,.int .u8 i8]] W10→
 (i9<3→
 (0≤i9∧i9<3)∧
 ∃i11:Int,
 As9 [.int .u8 a0_0,.int .u8 a0_1,.int .u8 a0_2] (0+Int.toNat i9*1+0) [.int .u8 i11]∧
 I64 i11∧
 (0≤i9∧i9<3)∧
 ∃i12:Int,
 As9 [.int .u8 a1_0,.int .u8 a1_1,.int .u8 a1_2] (0+Int.toNat i9*1+0) [.int .u8 i12]∧
 I64 i12∧
 I64 (i11+i12)∧
 (255<i11+i12→∀(W13:PW),Ext W10 W13→Post (.tuple ⟨[.agg ⟨[.int .u8 0,.int .u8 0,.int .u8 0]⟩,.bool false]⟩) W13)∧
 (¬255<i11+i12→
 (0≤i9∧i9<3)∧
 ∃i14:Int,
 As9 [.int .u8 a0_0,.int .u8 a0_1,.int .u8 a0_2] (0+Int.toNat i9*1+0) [.int .u8 i14]∧
 (0≤i9∧i9<3)∧
 ∃i15:Int,
 As9 [.int .u8 a1_0,.int .u8 a1_1,.int .u8 a1_2] (0+Int.toNat i9*1+0) [.int .u8 i15]∧
 (0≤i9∧i9<3)∧
 Int.toNat i9<3∧
 ((True∧
 (Int.toNat i9=0→
 I64 (i9+1)∧
 stp F1 F2 [.val (.int .i64 (i9+1)),.cells [.int .u8 i3,.int .u8 i4,.int .u8 i5],.cells [.int .u8 (IntKind.wrap .u8 (i14+i15)),.int .u8 i7,.int .u8 i8]]
 W10 [.val (.int .i64 i9),.cells [.int .u8 i3,.int .u8 i4,.int .u8 i5],.cells [.int .u8 i6,.int .u8 i7,.int .u8 i8]] W10))∧
 (Int.toNat i9=1→
 I64 (i9+1)∧
 stp F1 F2 [.val (.int .i64 (i9+1)),.cells [.int .u8 i3,.int .u8 i4,.int .u8 i5],.cells [.int .u8 i6,.int .u8 (IntKind.wrap .u8 (i14+i15)),.int .u8 i8]]
 W10 [.val (.int .i64 i9),.cells [.int .u8 i3,.int .u8 i4,.int .u8 i5],.cells [.int .u8 i6,.int .u8 i7,.int .u8 i8]] W10))∧
 (Int.toNat i9=2→
 I64 (i9+1)∧
 stp F1 F2 [.val (.int .i64 (i9+1)),.cells [.int .u8 i3,.int .u8 i4,.int .u8 i5],.cells [.int .u8 i6,.int .u8 i7,.int .u8 (IntKind.wrap .u8 (i14+i15))]] W10
 [.val (.int .i64 i9),.cells [.int .u8 i3,.int .u8 i4,.int .u8 i5],.cells [.int .u8 i6,.int .u8 i7,.int .u8 i8]] W10)))∧
 (¬i9<3→∀(W16:PW),Ext W10 W16→Post (.tuple ⟨[.agg ⟨[.int .u8 i6,.int .u8 i7,.int .u8 i8]⟩,.bool true]⟩) W16)
theorem Kc9 (W0:PW) (M:Nat→Prop) (a0_0:Int) (a0_1:Int) (a0_2:Int) (a1_0:Int) (a1_1:Int) (a1_2:Int) (Post:Value→PW→Prop) (h:Kf9 W0 M a0_0 a0_1 a0_2 a1_0 a1_1 a1_2 Post):Aa0 Tryz.prog 198 [.agg #[.int .u8 a0_0,.int .u8 a0_1,.int .u8 a0_2],.agg #[.int .u8 a1_0,.int .u8 a1_1,.int .u8 a1_2]] W0 M Post:=
 Aa3 rfl Aa9 Aa8 Tryz.func198 (cuts:=[]) rfl rfl (Nat.le_of_ble_eq_true rfl) (Eq.mpr (by kernel_rfl) h)
def Ho4 (W0:PW) (M:Nat→Prop) (a0:Sl) (a1_0:Int) (a1_1:Int) (a1_2:Int) (a1_3:Bool) (a1_4:Sl) (a1_5:Sl) (Post:Value→PW→Prop):Prop:=
 ∃(F1:List PL→PW→Prop),
 (∃(F2:List PL→PW→Prop),
 ∃(F3:List PL→PW→Nat),
 F2 [PL.val (Value.int .i64 0)] W0∧
 ∀(i4:Int) (W5:PW),
 F2 [PL.val (Value.int .i64 i4)] W5→
 (i4<(a0.2:Int)→
 inB a0 i4∧
 ∃i6:Int,
 ∃i7:Int,
 ∃i8:Int,
 Aa7 W5 a0 6 (Int.toNat i4) 0 [Value.int .u8 i6,Value.int .u8 i7,Value.int .u8 i8]∧
 Aa1 Tryz.prog W0 M 118 [Value.agg ⟨[Value.int .u8 i6,Value.int .u8 i7,Value.int .u8 i8]⟩,Value.agg ⟨[Value.int .u8 a1_0,Value.int .u8 a1_1,Value.int .u8 a1_2]⟩] W5 fun v9 W10=>
 ∃i11:Int,v9=Value.int .i64 i11∧(i11<0→I64 (i4+1)∧stp F2 F3 [PL.val (Value.int .i64 (i4+1))] W10 [PL.val (Value.int .i64 i4)] W5)∧(¬i11<0→F1 [PL.val (Value.int .i64 i4)] W10))∧
 (¬i4<(a0.2:Int)→F1 [PL.val (Value.int .i64 i4)] W5))∧
 ∀(i12:Int) (W13:PW),
 F1 [PL.val (Value.int .i64 i12)] W13→
 (i12<(a0.2:Int)→
 inB a0 i12∧
 ∃i14:Int,
 ∃i15:Int,
 ∃i16:Int,
 Aa7 W13 a0 6 (Int.toNat i12) 0 [Value.int .u8 i14,Value.int .u8 i15,Value.int .u8 i16]∧
 ([Value.int .u8 i14,Value.int .u8 i15,Value.int .u8 i16] = [Value.int .u8 a1_0,Value.int .u8 a1_1,Value.int .u8 a1_2]→
 inB a0 i12∧
 ∃b17:Bool,
 ∃s18:Sl,
 ∃s19:Sl,
 Aa7 W13 a0 6 (Int.toNat i12) 3 [Value.bool b17,s18.v,s19.v]∧
 Aa1 Tryz.prog W0 M 91 [Value.agg ⟨[Value.bool b17,s18.v,s19.v]⟩,Value.agg ⟨[Value.bool a1_3,a1_4.v,a1_5.v]⟩] W13 fun v20 W21=>
 ∃b22:Bool,
 ∃s23:Sl,
 ∃s24:Sl,
 v20=Value.agg ⟨[Value.bool b22,s23.v,s24.v]⟩∧
 ∃(l25:List (List Value)),
 Bf9 W21 6 a0 l25∧
 List.length l25*64≤140737488355328∧
 Aa1 Tryz.prog W0 M 117 [Value.agg ⟨[Value.bool b22,s23.v]⟩] W21 fun v26 W27=>
 ∃i28:Int,
 v26=Value.int .i64 i28∧
 (i28=0→
 I64 (i12+1)∧
 (0≤i12+1∧i12+1≤(a0.2:Int)∧(a0.2:Int)≤(a0.3:Int))∧
 (0≤i12∧i12≤(↑(List.length l25):Int))∧
 ∃(l29:List (List Value)),
 Bf9 W27 6 (Sl.cut a0 6 (Int.toNat (i12+1)) (Int.toNat (a0.2:Int))) l29∧
 (List.length (List.take (Int.toNat i12) l25)+List.length l29)*64≤140737488355328∧
 ∀(s30:Sl) (W31:PW),Ext W27 W31→SX.Own W31 142 6 s30 (List.take (Int.toNat i12) l25 ++ l29)→Fr W0 W27 s30→∀(W32:PW),Ext W31 W32→Post s30.v W32)∧
 (¬i28=0→
 (0≤i12∧i12<(↑(List.length l25):Int))∧
 Int.toNat i12<List.length l25∧∀(s33:Sl) (W34:PW),Ext W27 W34→SX.Own W34 142 6 s33 (Ci8 l25 (Int.toNat i12) 3 [Value.bool b22,s23.v,s24.v])→Fr W0 W27 s33→∀(W35:PW),Ext W34 W35→Post s33.v W35))∧
 (¬[Value.int .u8 i14,Value.int .u8 i15,Value.int .u8 i16] = [Value.int .u8 a1_0,Value.int .u8 a1_1,Value.int .u8 a1_2]→
 Aa1 Tryz.prog W0 M 117 [Value.agg ⟨[Value.bool a1_3,a1_4.v]⟩] W13 fun v36 W37=>
 ∃i38:Int,
 v36=Value.int .i64 i38∧
 (i38=0→∀(W39:PW),Ext W37 W39→Post a0.v W39)∧
 (¬i38=0→
 ((0:Int)≤0∧0≤i12∧i12≤(a0.3:Int))∧
 (0≤i12∧i12≤(a0.2:Int)∧(a0.2:Int)≤(a0.3:Int))∧
 dup 1
 (∃(l40:List (List Value)),
 Bf9 W37 6 (Sl.cut a0 6 0 (Int.toNat i12)) l40∧
 List.length l40*64≤140737488355328∧
 (List.length l40+List.length [[Value.int .u8 a1_0,Value.int .u8 a1_1,Value.int .u8 a1_2,Value.bool a1_3,a1_4.v,a1_5.v]])*64≤140737488355328∧
 ∃(l41:List (List Value)),
 Bf9 W37 6 (Sl.cut a0 6 (Int.toNat i12) (Int.toNat (a0.2:Int))) l41∧
 (List.length (l40 ++ [[Value.int .u8 a1_0,Value.int .u8 a1_1,Value.int .u8 a1_2,Value.bool a1_3,a1_4.v,a1_5.v]])+List.length l41)*64≤140737488355328∧
 ∀(s42:Sl) (W43:PW),
 Ext W37 W43→SX.Own W43 142 6 s42 (l40 ++ [[Value.int .u8 a1_0,Value.int .u8 a1_1,Value.int .u8 a1_2,Value.bool a1_3,a1_4.v,a1_5.v]] ++ l41)→Fr W0 W37 s42→∀(W44:PW),Ext W43 W44→Post s42.v W44))))∧
 (¬i12<(a0.2:Int)→
 Aa1 Tryz.prog W0 M 117 [Value.agg ⟨[Value.bool a1_3,a1_4.v]⟩] W13 fun v45 W46=>
 ∃i47:Int,
 v45=Value.int .i64 i47∧
 (i47=0→∀(W48:PW),Ext W46 W48→Post a0.v W48)∧
 (¬i47=0→
 ((0:Int)≤0∧0≤i12∧i12≤(a0.3:Int))∧
 (0≤i12∧i12≤(a0.2:Int)∧(a0.2:Int)≤(a0.3:Int))∧
 dup 1
 (∃(l49:List (List Value)),
 Bf9 W46 6 (Sl.cut a0 6 0 (Int.toNat i12)) l49∧
 List.length l49*64≤140737488355328∧
 (List.length l49+List.length [[Value.int .u8 a1_0,Value.int .u8 a1_1,Value.int .u8 a1_2,Value.bool a1_3,a1_4.v,a1_5.v]])*64≤140737488355328∧
 ∃(l50:List (List Value)),
 Bf9 W46 6 (Sl.cut a0 6 (Int.toNat i12) (Int.toNat (a0.2:Int))) l50∧
 (List.length (l49 ++ [[Value.int .u8 a1_0,Value.int .u8 a1_1,Value.int .u8 a1_2,Value.bool a1_3,a1_4.v,a1_5.v]])+List.length l50)*64≤140737488355328∧
 ∀(s51:Sl) (W52:PW),
 Ext W46 W52→SX.Own W52 142 6 s51 (l49 ++ [[Value.int .u8 a1_0,Value.int .u8 a1_1,Value.int .u8 a1_2,Value.bool a1_3,a1_4.v,a1_5.v]] ++ l50)→Fr W0 W46 s51→∀(W53:PW),Ext W52 W53→Post s51.v W53)))
theorem Hi1 (W0:PW) (M:Nat→Prop) (a0:Sl) (a1_0:Int) (a1_1:Int) (a1_2:Int) (a1_3:Bool) (a1_4:Sl) (a1_5:Sl) (Post:Value→PW→Prop) (h:Ho4 W0 M a0 a1_0 a1_1 a1_2 a1_3 a1_4 a1_5 Post):Aa0 Tryz.prog 62 [a0.v,Value.agg #[Value.int .u8 a1_0,Value.int .u8 a1_1,Value.int .u8 a1_2,Value.bool a1_3,a1_4.v,a1_5.v]] W0 M Post:=
 Aa3 rfl Aa9 Aa8 Tryz.func62 (cuts:=[4]) rfl rfl (Nat.le_of_ble_eq_true rfl) (Eq.mpr (by kernel_rfl) h)
def Bx4 (W0:PW) (M:Nat→Prop) (a0:Sl) (Post:Value→PW→Prop):Prop:=
 ∃(F1:List PL→PW→Prop),
 ∃(F2:List PL→PW→Nat),
 F1 [.row [],.val (.int .i64 0)] W0∧
 ∀(l3:List (List Value)) (i4:Int) (W5:PW),
 F1 [.row l3,.val (.int .i64 i4)] W5→
 (i4<(a0.2:Int)→
 inB a0 i4∧
 ∃t6:ByteArray,
 Aa7 W5 a0 4 (Int.toNat i4) 3 [.string t6]∧
 Aa1 Tryz.prog W0 M 56 [.string t6] W5 fun v7 W8=>
 ∃b9:Bool,
 ∃s10:Sl,
 ∃s11:Sl,
 ∃b12:Bool,
 v7 = .tuple ⟨[.agg ⟨[.bool b9,s10.v,s11.v]⟩,.bool b12]⟩∧
 ((!b12)=true→∀(W13:PW),Ext W8 W13→Post (.tuple ⟨[.slice none 0 0,.bool false]⟩) W13)∧
 ((!b12)=false→
 Aa1 Tryz.prog W0 M 117 [.agg ⟨[.bool b9,s10.v]⟩] W8 fun v14 W15=>
 ∃i16:Int,
 v14 = .int .i64 i16∧
 (i16=0→∀(W17:PW),Ext W15 W17→Post (.tuple ⟨[.slice none 0 0,.bool false]⟩) W17)∧
 (¬i16=0→
 (0<i4→
 I64 (i4-1)∧
 inB a0 (i4-1)∧
 ∃i18:Int,
 ∃i19:Int,
 ∃i20:Int,
 Aa7 W15 a0 4 (Int.toNat (i4-1)) 0 [.int .u8 i18,.int .u8 i19,.int .u8 i20]∧
 inB a0 i4∧
 ∃i21:Int,
 ∃i22:Int,
 ∃i23:Int,
 Aa7 W15 a0 4 (Int.toNat i4) 0 [.int .u8 i21,.int .u8 i22,.int .u8 i23]∧
 Aa1 Tryz.prog W0 M 118 [.agg ⟨[.int .u8 i18,.int .u8 i19,.int .u8 i20]⟩,.agg ⟨[.int .u8 i21,.int .u8 i22,.int .u8 i23]⟩] W15
 fun v24 W25=>
 ∃i26:Int,
 v24 = .int .i64 i26∧
 (0≤i26→∀(W27:PW),Ext W25 W27→Post (.tuple ⟨[.slice none 0 0,.bool false]⟩) W27)∧
 (¬0≤i26→
 inB a0 i4∧
 ∃i28:Int,
 ∃i29:Int,
 ∃i30:Int,
 Aa7 W25 a0 4 (Int.toNat i4) 0 [.int .u8 i28,.int .u8 i29,.int .u8 i30]∧
 Ext W25 W25∧
 (List.length l3+List.length [[.int .u8 i28,.int .u8 i29,.int .u8 i30,.bool b9,s10.v,s11.v]])*64≤140737488355328∧
 Ext W25 W25∧
 I64 (i4+1)∧
 stp F1 F2 [.row (l3 ++ [[.int .u8 i28,.int .u8 i29,.int .u8 i30,.bool b9,s10.v,s11.v]]),.val (.int .i64 (i4+1))] W25
 [.row l3,.val (.int .i64 i4)] W5))∧
 (¬0<i4→
 inB a0 i4∧
 ∃i31:Int,
 ∃i32:Int,
 ∃i33:Int,
 Aa7 W15 a0 4 (Int.toNat i4) 0 [.int .u8 i31,.int .u8 i32,.int .u8 i33]∧
 Ext W15 W15∧
 (List.length l3+List.length [[.int .u8 i31,.int .u8 i32,.int .u8 i33,.bool b9,s10.v,s11.v]])*64≤140737488355328∧
 Ext W15 W15∧
 I64 (i4+1)∧
 stp F1 F2 [.row (l3 ++ [[.int .u8 i31,.int .u8 i32,.int .u8 i33,.bool b9,s10.v,s11.v]]),.val (.int .i64 (i4+1))] W15 [.row l3,.val (.int .i64 i4)] W5))))∧
 (¬i4<(a0.2:Int)→∀(s34:Sl) (W35:PW),Ext W5 W35→SX.Own W35 142 6 s34 l3→Fr W0 W5 s34→∀(W36:PW),Ext W35 W36→Post (.tuple ⟨[s34.v,.bool true]⟩) W36)
theorem Bf0 (W0:PW) (M:Nat→Prop) (a0:Sl) (Post:Value→PW→Prop) (h:Bx4 W0 M a0 Post):Aa0 Tryz.prog 51 [a0.v] W0 M Post:=
 Aa3 rfl Aa9 Aa8 Tryz.func51 (cuts:=[]) rfl rfl (Nat.le_of_ble_eq_true rfl) (Eq.mpr (by kernel_rfl) h)
def Dh0 (W0:PW) (M:Nat→Prop) (a0:Sl) (a1:Int) (a2:Int) (Post:Value→PW→Prop):Prop:=
 (a1<(a0.2:Int)→∀(W1:PW),Ext W0 W1→Post (.bool false) W1)∧
 (¬a1<(a0.2:Int)→
 ∃(F2:List PL→PW→Prop),
 ∃(F3:List PL→PW→Nat),
 F2 [.val (.int .i64 0)] W0∧
 ∀(i4:Int) (W5:PW),
 F2 [.val (.int .i64 i4)] W5→
 (i4<(a0.2:Int)→
 inB a0 i4∧
 ∃t6:ByteArray,
 Aa7 W5 a0 4 (Int.toNat i4) 3 [.string t6]∧
 (30<(↑(ByteArray.size t6):Int)→∀(W7:PW),Ext W5 W7→Post (.bool false) W7)∧
 (¬30<(↑(ByteArray.size t6):Int)→
 inB a0 i4∧
 ((0:Int)≤0∧(0:Int)<3)∧
 ∃i8:Int,
 Aa7 W5 a0 4 (Int.toNat i4) 0 [.int .u8 i8]∧
 I64 i8∧
 (a2<i8→∀(W9:PW),Ext W5 W9→Post (.bool false) W9)∧
 (¬a2<i8→
 inB a0 i4∧
 ((0:Int)≤1∧(1:Int)<3)∧
 ∃i10:Int,
 Aa7 W5 a0 4 (Int.toNat i4) 1 [.int .u8 i10]∧
 I64 i10∧
 (a2<i10→∀(W11:PW),Ext W5 W11→Post (.bool false) W11)∧
 (¬a2<i10→
 inB a0 i4∧
 ((0:Int)≤2∧(2:Int)<3)∧
 ∃i12:Int,
 Aa7 W5 a0 4 (Int.toNat i4) 2 [.int .u8 i12]∧
 I64 i12∧(a2<i12→∀(W13:PW),Ext W5 W13→Post (.bool false) W13)∧(¬a2<i12→I64 (i4+1)∧stp F2 F3 [.val (.int .i64 (i4+1))] W5 [.val (.int .i64 i4)] W5)))))∧
 (¬i4<(a0.2:Int)→∀(W14:PW),Ext W5 W14→Post (.bool true) W14))
theorem Bz5 (W0:PW) (M:Nat→Prop) (a0:Sl) (a1:Int) (a2:Int) (Post:Value→PW→Prop) (h:Dh0 W0 M a0 a1 a2 Post):Aa0 Tryz.prog 52 [a0.v,.int .i64 a1,.int .i64 a2] W0 M Post:=
 Aa3 rfl Aa9 Aa8 Tryz.func52 (cuts:=[]) rfl rfl (Nat.le_of_ble_eq_true rfl) (Eq.mpr (by kernel_rfl) h)
def Ez3 (W0:PW) (M:Nat→Prop) (a0:Sl) (a1:Int) (Post:Value→PW→Prop):Prop:=
 Aa1 Tryz.prog W0 M 51 [a0.v] W0 fun v1 W2=>
 ∃s3:Sl,
 ∃b4:Bool,
 v1 = .tuple ⟨[s3.v,.bool b4]⟩∧
 ((!b4)=true→∀(W5:PW),Ext W2 W5→Post (.tuple ⟨[.agg ⟨[.slice none 0 0]⟩,.slice none 0 0,.bool false]⟩) W5)∧
 ((!b4)=false→
 Aa1 Tryz.prog W0 M 52 [a0.v,.int .i64 14,.int .i64 a1] W2 fun v6 W7=>
 ∃b8:Bool,
 v6 = .bool b8∧
 ((!b8)=true→∀(W9:PW),Ext W7 W9→Post (.tuple ⟨[.agg ⟨[.slice none 0 0]⟩,.slice none 0 0,.bool false]⟩) W9)∧
 ((!b8)=false→
 Aa1 Tryz.prog W0 M 53 [a0.v] W7 fun v10 W11=>
 ∃s12:Sl,∃i13:Int,v10 = .tuple ⟨[.agg ⟨[s12.v]⟩,.int .i64 i13]⟩∧∀(W14:PW),Ext W11 W14→Post (.tuple ⟨[.agg ⟨[s12.v]⟩,s3.v,.bool true]⟩) W14))
theorem Dg8 (W0:PW) (M:Nat→Prop) (a0:Sl) (a1:Int) (Post:Value→PW→Prop) (h:Ez3 W0 M a0 a1 Post):Aa0 Tryz.prog 10 [a0.v,.int .i64 a1] W0 M Post:=
 Aa3 rfl Aa9 Aa8 Tryz.func10 (cuts:=[]) rfl rfl (Nat.le_of_ble_eq_true rfl) (Eq.mpr (by kernel_rfl) h)
end Go.Proofs.YtokefihiadbkbaaGreatDoor
