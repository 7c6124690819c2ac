/- R8 -/
import Derived.Test.YtahohahjnhfedaaGreatDoorTt
set_option linter.unusedVariables false
set_option linter.unusedSimpArgs false
set_option maxRecDepth 100000
namespace Go.Proofs.YtahohahjnhfedaaGreatDoor
open Go Go.SX
def Cb8 (W0:PW) (M:Nat→Prop) (a0:Option Nat) (a1_0:Int) (a1_1:Int) (a1_2:Int) (a2_0:Sl) (a2_1:Bool) (a2_2:Sl) (Post:Value→PW→Prop):Prop:=
 ∃n1:Nat,
 a0=some n1∧
 Fg5 Tryz.prog 125 W0 n1 (.agg ⟨[.int .u8 a1_0,.int .u8 a1_1,.int .u8 a1_2]⟩) (.agg ⟨[.slice none 0 0,.bool false,.slice none 0 0]⟩) fun(v2:Value)=>
 ∃s3:Sl,
 ∃b4:Bool,
 ∃s5:Sl,
 v2 = .agg ⟨[s3.v,.bool b4,s5.v]⟩∧
 Aa1 Tryz.prog W0 M 10 [.agg ⟨[s3.v,.bool b4,s5.v]⟩,.agg ⟨[a2_0.v,.bool a2_1,a2_2.v]⟩] W0 fun v6 W7=>
 ∃s8:Sl,
 ∃b9:Bool,
 ∃s10:Sl,
 v6 = .agg ⟨[s8.v,.bool b9,s10.v]⟩∧
 ∃n11:Nat,
 a0=some n11∧
 Fq4 Tryz.prog W0 M 125 W7 n11 (.agg ⟨[.int .u8 a1_0,.int .u8 a1_1,.int .u8 a1_2]⟩) (.agg ⟨[s8.v,.bool b9,s10.v]⟩) fun(W12:PW)=>∀(W13:PW),Ext W12 W13→Post (.tuple ⟨[]⟩) W13
theorem Bi9 (W0:PW) (M:Nat→Prop) (a0:Option Nat) (a1_0:Int) (a1_1:Int) (a1_2:Int) (a2_0:Sl) (a2_1:Bool) (a2_2:Sl) (Post:Value→PW→Prop) (h:Cb8 W0 M a0 a1_0 a1_1 a1_2 a2_0 a2_1 a2_2 Post):Aa0 Tryz.prog 103 [.map a0,.agg #[.int .u8 a1_0,.int .u8 a1_1,.int .u8 a1_2],.agg #[a2_0.v,.bool a2_1,a2_2.v]] W0 M Post:=
 Aa3 rfl Aa9 Aa8 Tryz.func103 (cuts:=[]) rfl rfl (Nat.le_of_ble_eq_true rfl) (Eq.mpr (by kernel_rfl) h)
def Br0 (W0:PW) (M:Nat→Prop) (a0:Option Nat) (Post:Value→PW→Prop):Prop:=
 ∃n1:Nat,
 a0=some n1∧
 ∃(x2:Array MapEntry),
 ∃n3:Nat,
 ¬W0.2 n1∧
 (PW.w W0).1[n1]?=some (Obj.map x2 n3)∧
 (n1=n1∧n3=n3)∧
 ∃(F6:List PL→PW→Prop),
 ∃(F7:List PL→PW→Nat),
 F6 [.row [],PL.seen ⟨[]⟩ n3] W0∧
 ∀(x8:Array Nat) (n9:Nat) (x10:Option MapEntry) (l11:List (List Value)) (W12:PW),
 F6 [.row l11,PL.seen (Ae4 x8 x10) n9] W12→
 ∃(x13:Array MapEntry),
 ∃n14:Nat,
 ¬W12.2 n1∧
 (PW.w W12).1[n1]?=some (Obj.map x13 n14)∧
 (∀(x17:MapEntry),x17∈Array.toList x13→x17.3<n3)∧
 n3≤n9∧
 (Array.size (leftOf x13 (Ae4 x8 x10))=0→
 ∀(s18:Sl) (W19:PW),
 Ext W12 W19→
 SX.Own W19 127 6 s18 l11→
 Fr W0 W12 s18→Aa1 Tryz.prog W0 M 135 [s18.v,.func (Fn.func 136) ⟨[]⟩ ⟨[]⟩] W19 fun v20 W21=>v20 = .tuple ⟨[]⟩∧∀(W22:PW),Ext W21 W22→Post (.agg ⟨[s18.v]⟩) W22)∧
 ∀(x23:MapEntry),
 x23∈Array.toList (leftOf x13 (Ae4 x8 x10))→
 (∃(x24:Array MapEntry),¬W12.2 n1∧(PW.w W12).1[n1]?=some (Obj.map x24 n14)∧x23∈Array.toList x24∧List.Nodup (List.map (fun(x27:MapEntry)=>x27.3) (Array.toList x24)))∧
 ∃i28:Int,
 ∃i29:Int,
 ∃i30:Int,
 x23.1 = .agg ⟨[.int .u8 i28,.int .u8 i29,.int .u8 i30]⟩∧
 ∃s31:Sl,
 ∃b32:Bool,
 ∃s33:Sl,
 x23.2 = .agg ⟨[s31.v,.bool b32,s33.v]⟩∧
 Aa1 Tryz.prog W0 M 7 [.agg ⟨[s31.v,.bool b32,s33.v]⟩] W12 fun v34 W35=>
 ∃i36:Int,
 v34 = .int .i64 i36∧
 (i36≠0→
 (List.length l11+List.length [[.int .u8 i28,.int .u8 i29,.int .u8 i30,s31.v,.bool b32,s33.v]])*64≤140737488355328∧
 (n1=n1∧n3=n3)∧
 stp F6 F7 [.row (l11 ++ [[.int .u8 i28,.int .u8 i29,.int .u8 i30,s31.v,.bool b32,s33.v]]),PL.seen ⟨List.concat (Array.toList (Ae4 x8 x10)) x23.3⟩ n14] W35
 [.row l11,PL.seen (Ae4 x8 x10) n9] W12)∧
 (¬i36≠0→(n1=n1∧n3=n3)∧stp F6 F7 [.row l11,PL.seen ⟨List.concat (Array.toList (Ae4 x8 x10)) x23.3⟩ n14] W35 [.row l11,PL.seen (Ae4 x8 x10) n9] W12)
theorem Bf8 (W0:PW) (M:Nat→Prop) (a0:Option Nat) (Post:Value→PW→Prop) (h:Br0 W0 M a0 Post):Aa0 Tryz.prog 104 [.map a0] W0 M Post:=
 Aa3 rfl Aa9 Aa8 Tryz.func104 (cuts:=[]) rfl rfl (Nat.le_of_ble_eq_true rfl) (Eq.mpr (by kernel_rfl) h)
def Ep7 (W0:PW) (M:Nat→Prop) (a0:Sl) (Post:Value→PW→Prop):Prop:=
 Cj7 W0 W0 fun(n1:Nat) (W2:PW)=>
 ∃(F3:List PL→PW→Prop),
 ∃(F4:List PL→PW→Nat),
 F3 [.val (.int .i64 0)] W2∧
 ∀(i5:Int) (W6:PW),
 F3 [.val (.int .i64 i5)] W6→
 (i5<(a0.2:Int)→
 inB a0 i5∧
 ∃i7:Int,
 ∃i8:Int,
 ∃i9:Int,
 ∃s10:Sl,
 ∃b11:Bool,
 ∃s12:Sl,
 Aa7 W6 a0 6 (Int.toNat i5) 0 [.int .u8 i7,.int .u8 i8,.int .u8 i9,s10.v,.bool b11,s12.v]∧
 Aa1 Tryz.prog W0 M 103 [.map (some n1),.agg ⟨[.int .u8 i7,.int .u8 i8,.int .u8 i9]⟩,.agg ⟨[s10.v,.bool b11,s12.v]⟩] W6 fun v13 W14=>
 v13 = .tuple ⟨[]⟩∧I64 (i5+1)∧stp F3 F4 [.val (.int .i64 (i5+1))] W14 [.val (.int .i64 i5)] W6)∧
 (¬i5<(a0.2:Int)→Aa1 Tryz.prog W0 M 104 [.map (some n1)] W6 fun v15 W16=>∃s17:Sl,v15 = .agg ⟨[s17.v]⟩∧∀(W18:PW),Ext W16 W18→Post (.agg ⟨[s17.v]⟩) W18)
theorem Da9 (W0:PW) (M:Nat→Prop) (a0:Sl) (Post:Value→PW→Prop) (h:Ep7 W0 M a0 Post):Aa0 Tryz.prog 63 [a0.v] W0 M Post:=
 Aa3 rfl Aa9 Aa8 Tryz.func63 (cuts:=[]) rfl rfl (Nat.le_of_ble_eq_true rfl) (Eq.mpr (by kernel_rfl) h)
def Gq1 (W0:PW) (M:Nat→Prop) (a0_0:Sl) (Post:Value→PW→Prop):Prop:=
 ∃(F1:List PL→PW→Prop),
 ∃(F2:List PL→PW→Nat),
 F1 [PL.row [],PL.val (Value.int .i64 0)] W0∧
 ∀(l3:List (List Value)) (i4:Int) (W5:PW),
 F1 [PL.row l3,PL.val (Value.int .i64 i4)] W5→
 (i4<(a0_0.2:Int)→
 inB a0_0 i4∧
 ∃i6:Int,
 ∃i7:Int,
 ∃i8:Int,
 ∃s9:Sl,
 ∃b10:Bool,
 ∃s11:Sl,
 Aa7 W5 a0_0 6 (Int.toNat i4) 0 [Value.int .u8 i6,Value.int .u8 i7,Value.int .u8 i8,s9.v,Value.bool b10,s11.v]∧
 Aa1 Tryz.prog W0 M 105 [Value.agg ⟨[s9.v,Value.bool b10,s11.v]⟩] W5 fun v12 W13=>
 ∃t14:ByteArray,
 v12=Value.string t14∧
 (List.length l3+List.length [[Value.int .u8 i6,Value.int .u8 i7,Value.int .u8 i8,Value.string t14]])*24≤140737488355328∧
 I64 (i4+1)∧stp F1 F2 [PL.row (l3 ++ [[Value.int .u8 i6,Value.int .u8 i7,Value.int .u8 i8,Value.string t14]]),PL.val (Value.int .i64 (i4+1))] W13 [PL.row l3,PL.val (Value.int .i64 i4)] W5)∧
 (¬i4<(a0_0.2:Int)→∀(s15:Sl) (W16:PW),Ext W5 W16→SX.Own W16 180 4 s15 l3→Fr W0 W5 s15→∀(W17:PW),Ext W16 W17→Post s15.v W17)
theorem Gl0 (W0:PW) (M:Nat→Prop) (a0_0:Sl) (Post:Value→PW→Prop) (h:Gq1 W0 M a0_0 Post):Aa0 Tryz.prog 66 [Value.agg #[a0_0.v]] W0 M Post:=
 Aa3 rfl Aa9 Aa8 Tryz.func66 (cuts:=[]) rfl rfl (Nat.le_of_ble_eq_true rfl) (Eq.mpr (by kernel_rfl) h)
def Et5 (W0:PW) (M:Nat→Prop) (a0_0:Sl) (a0_1:Bool) (a0_2:Sl) (a1:Int) (Post:Value→PW→Prop):Prop:=
 Aa1 Tryz.prog W0 M 166 [.agg ⟨[a0_0.v,.bool a0_1]⟩,.int .i64 a1] W0 fun v1 W2=>
 ∃s3:Sl,
 ∃b4:Bool,
 v1 = .agg ⟨[s3.v,.bool b4]⟩∧
 Aa1 Tryz.prog W0 M 59 [.agg ⟨[a0_2.v]⟩] W2 fun v5 W6=>
 ∃i7:Int,
 v5 = .int .i64 i7∧
 (0<i7→
 (0<a1→
 Aa1 Tryz.prog W0 M 76 [.agg ⟨[a0_0.v,.bool a0_1,a0_2.v]⟩] W6 fun v8 W9=>
 ∃s10:Sl,
 ∃b11:Bool,
 v8 = .agg ⟨[s10.v,.bool b11]⟩∧
 Aa1 Tryz.prog W0 M 166 [.agg ⟨[s10.v,.bool b11]⟩,.int .i64 a1] W9 fun v12 W13=>
 ∃s14:Sl,
 ∃b15:Bool,
 v12 = .agg ⟨[s14.v,.bool b15]⟩∧
 Aa1 Tryz.prog W0 M 61 [.agg ⟨[s14.v,.bool b15]⟩] W13 fun v16 W17=>∃s18:Sl,v16 = .agg ⟨[s18.v]⟩∧∀(W19:PW),Ext W17 W19→Post (.agg ⟨[s3.v,.bool b4,s18.v]⟩) W19)∧
 (¬0<a1→∀(W20:PW),Ext W6 W20→Post (.agg ⟨[s3.v,.bool b4,.slice none 0 0]⟩) W20))∧
 (¬0<i7→∀(W21:PW),Ext W6 W21→Post (.agg ⟨[s3.v,.bool b4,.slice none 0 0]⟩) W21)
theorem Dk0 (W0:PW) (M:Nat→Prop) (a0_0:Sl) (a0_1:Bool) (a0_2:Sl) (a1:Int) (Post:Value→PW→Prop) (h:Et5 W0 M a0_0 a0_1 a0_2 a1 Post):Aa0 Tryz.prog 149 [.agg #[a0_0.v,.bool a0_1,a0_2.v],.int .i64 a1] W0 M Post:=
 Aa3 rfl Aa9 Aa8 Tryz.func149 (cuts:=[]) rfl rfl (Nat.le_of_ble_eq_true rfl) (Eq.mpr (by kernel_rfl) h)
def Cf2 (W0:PW) (M:Nat→Prop) (a0_0:Sl) (a0_1:Bool) (a1:Int) (Post:Value→PW→Prop):Prop:=
 Aa1 Tryz.prog W0 M 64 [.int .i64 1] W0 fun v1 W2=>
 ∃s3:Sl,
 ∃b4:Bool,
 v1 = .agg ⟨[s3.v,.bool b4]⟩∧
 ∃(F5:List PL→PW→Prop),
 ∃(F6:List PL→PW→Nat),
 F5 [.val (.int .i64 (mn (mx a1 0) 255)),.cells [s3.v,.bool b4],.cells [a0_0.v,.bool a0_1]] W2∧
 ∀(s7:Sl) (b8:Bool) (s9:Sl) (b10:Bool) (i11:Int) (W12:PW),
 F5 [.val (.int .i64 i11),.cells [s7.v,.bool b8],.cells [s9.v,.bool b10]] W12→
 (0<i11→
 (bits BinOp.and .i64 i11 (1:Int)=1→
 Aa1 Tryz.prog W0 M 36 [.agg ⟨[s7.v,.bool b8]⟩,.agg ⟨[s9.v,.bool b10]⟩] W12 fun v13 W14=>
 ∃s15:Sl,
 ∃b16:Bool,
 v13 = .agg ⟨[s15.v,.bool b16]⟩∧
 Aa1 Tryz.prog W0 M 36 [.agg ⟨[s9.v,.bool b10]⟩,.agg ⟨[s9.v,.bool b10]⟩] W14 fun v17 W18=>
 ∃s19:Sl,
 ∃b20:Bool,
 v17 = .agg ⟨[s19.v,.bool b20]⟩∧
 stp F5 F6 [.val (.int .i64 (Ah0 i11 1)),.cells [s15.v,.bool b16],.cells [s19.v,.bool b20]] W18 [.val (.int .i64 i11),.cells [s7.v,.bool b8],.cells [s9.v,.bool b10]] W12)∧
 (¬bits BinOp.and .i64 i11 (1:Int)=1→
 Aa1 Tryz.prog W0 M 36 [.agg ⟨[s9.v,.bool b10]⟩,.agg ⟨[s9.v,.bool b10]⟩] W12 fun v21 W22=>
 ∃s23:Sl,
 ∃b24:Bool,
 v21 = .agg ⟨[s23.v,.bool b24]⟩∧
 stp F5 F6 [.val (.int .i64 (Ah0 i11 1)),.cells [s7.v,.bool b8],.cells [s23.v,.bool b24]] W22 [.val (.int .i64 i11),.cells [s7.v,.bool b8],.cells [s9.v,.bool b10]] W12))∧
 (¬0<i11→∀(W25:PW),Ext W12 W25→Post (.agg ⟨[s7.v,.bool b8]⟩) W25)
theorem Cg5 (W0:PW) (M:Nat→Prop) (a0_0:Sl) (a0_1:Bool) (a1:Int) (Post:Value→PW→Prop) (h:Cf2 W0 M a0_0 a0_1 a1 Post):Aa0 Tryz.prog 166 [.agg #[a0_0.v,.bool a0_1],.int .i64 a1] W0 M Post:=
 Aa3 rfl Aa9 Aa8 Tryz.func166 (cuts:=[]) rfl rfl (Nat.le_of_ble_eq_true rfl) (Eq.mpr (by kernel_rfl) h)
def Db3 (W0:PW) (M:Nat→Prop) (a0_0:Int) (a0_1:Int) (a0_2:Int) (Post:Value→PW→Prop):Prop:=
 ((0:Int)≤0∧(0:Int)<3)∧I64 a0_0∧((0:Int)≤1∧(1:Int)<3)∧I64 a0_1∧I64 (a0_0+a0_1)∧((0:Int)≤2∧(2:Int)<3)∧I64 a0_2∧I64 (a0_0+a0_1+a0_2)∧∀(W1:PW),Ext W0 W1→Post (.int .i64 (a0_0+a0_1+a0_2)) W1
theorem Bs4 (W0:PW) (M:Nat→Prop) (a0_0:Int) (a0_1:Int) (a0_2:Int) (Post:Value→PW→Prop) (h:Db3 W0 M a0_0 a0_1 a0_2 Post):Aa0 Tryz.prog 142 [.agg #[.int .u8 a0_0,.int .u8 a0_1,.int .u8 a0_2]] W0 M Post:=
 Aa3 rfl Aa9 Aa8 Tryz.func142 (cuts:=[]) rfl rfl (Nat.le_of_ble_eq_true rfl) (Eq.mpr (by kernel_rfl) h)
def Cm6 (W0:PW) (M:Nat→Prop) (a0_0:Int) (a0_1:Int) (a0_2:Int) (a1_0:Int) (a1_1:Int) (a1_2:Int) (Post:Value→PW→Prop):Prop:=
 Aa1 Tryz.prog W0 M 142 [.agg ⟨[.int .u8 a0_0,.int .u8 a0_1,.int .u8 a0_2]⟩] W0 fun v1 W2=>
 ∃i3:Int,
 v1 = .int .i64 i3∧
 Aa1 Tryz.prog W0 M 142 [.agg ⟨[.int .u8 a1_0,.int .u8 a1_1,.int .u8 a1_2]⟩] W2 fun v4 W5=>
 ∃i6:Int,
 v4 = .int .i64 i6∧
 (i3≠i6→
 Aa1 Tryz.prog W0 M 142 [.agg ⟨[.int .u8 a0_0,.int .u8 a0_1,.int .u8 a0_2]⟩] W5 fun v7 W8=>
 ∃i9:Int,
 v7 = .int .i64 i9∧
 Aa1 Tryz.prog W0 M 142 [.agg ⟨[.int .u8 a1_0,.int .u8 a1_1,.int .u8 a1_2]⟩] W8 fun v10 W11=>
 ∃i12:Int,v10 = .int .i64 i12∧(i9<i12→∀(W13:PW),Ext W11 W13→Post (.int .i64 (-1:Int)) W13)∧(¬i9<i12→∀(W14:PW),Ext W11 W14→Post (.int .i64 1) W14))∧
 (¬i3≠i6→
 ∃(F15:List PL→PW→Prop),
 ∃(F16:List PL→PW→Nat),
 F15 [.val (.int .i64 0)] W5∧
 ∀(i17:Int) (W18:PW),
 F15 [.val (.int .i64 i17)] W18→
 (i17<3→
 (0≤i17∧i17<3)∧
 ∃i19:Int,
 As9 [.int .u8 a0_0,.int .u8 a0_1,.int .u8 a0_2] (0+Int.toNat i17*1+0) [.int .u8 i19]∧
 (0≤i17∧i17<3)∧
 ∃i20:Int,
 As9 [.int .u8 a1_0,.int .u8 a1_1,.int .u8 a1_2] (0+Int.toNat i17*1+0) [.int .u8 i20]∧
 (i19<i20→∀(W21:PW),Ext W18 W21→Post (.int .i64 (-1:Int)) W21)∧
 (¬i19<i20→
 (0≤i17∧i17<3)∧
 ∃i22:Int,
 As9 [.int .u8 a0_0,.int .u8 a0_1,.int .u8 a0_2] (0+Int.toNat i17*1+0) [.int .u8 i22]∧
 (0≤i17∧i17<3)∧
 ∃i23:Int,
 As9 [.int .u8 a1_0,.int .u8 a1_1,.int .u8 a1_2] (0+Int.toNat i17*1+0) [.int .u8 i23]∧
 (i23<i22→∀(W24:PW),Ext W18 W24→Post (.int .i64 1) W24)∧(¬i23<i22→I64 (i17+1)∧stp F15 F16 [.val (.int .i64 (i17+1))] W18 [.val (.int .i64 i17)] W18)))∧
 (¬i17<3→∀(W25:PW),Ext W18 W25→Post (.int .i64 0) W25))
theorem Bn9 (W0:PW) (M:Nat→Prop) (a0_0:Int) (a0_1:Int) (a0_2:Int) (a1_0:Int) (a1_1:Int) (a1_2:Int) (Post:Value→PW→Prop) (h:Cm6 W0 M a0_0 a0_1 a0_2 a1_0 a1_1 a1_2 Post):Aa0 Tryz.prog 107 [.agg #[.int .u8 a0_0,.int .u8 a0_1,.int .u8 a0_2],.agg #[.int .u8 a1_0,.int .u8 a1_1,.int .u8 a1_2]] W0 M Post:=
 Aa3 rfl Aa9 Aa8 Tryz.func107 (cuts:=[]) rfl rfl (Nat.le_of_ble_eq_true rfl) (Eq.mpr (by kernel_rfl) h)
def Ho4 (W0:PW) (M:Nat→Prop) (a0:Sl) (a1_0:Int) (a1_1:Int) (a1_2:Int) (a1_3:Bool) (a1_4:Sl) (a1_5:Sl) (Post:Value→PW→Prop):Prop:=
 ∃(F1:List PL→PW→Prop),
 (∃(F2:List PL→PW→Prop),
 ∃(F3:List PL→PW→Nat),
 F2 [PL.val (Value.int .i64 0)] W0∧
 ∀(i4:Int) (W5:PW),
 F2 [PL.val (Value.int .i64 i4)] W5→
 (i4<(a0.2:Int)→
 inB a0 i4∧
 ∃i6:Int,
 ∃i7:Int,
 ∃i8:Int,
 Aa7 W5 a0 6 (Int.toNat i4) 0 [Value.int .u8 i6,Value.int .u8 i7,Value.int .u8 i8]∧
 Aa1 Tryz.prog W0 M 107 [Value.agg ⟨[Value.int .u8 i6,Value.int .u8 i7,Value.int .u8 i8]⟩,Value.agg ⟨[Value.int .u8 a1_0,Value.int .u8 a1_1,Value.int .u8 a1_2]⟩] W5 fun v9 W10=>
 ∃i11:Int,v9=Value.int .i64 i11∧(i11<0→I64 (i4+1)∧stp F2 F3 [PL.val (Value.int .i64 (i4+1))] W10 [PL.val (Value.int .i64 i4)] W5)∧(¬i11<0→F1 [PL.val (Value.int .i64 i4)] W10))∧
 (¬i4<(a0.2:Int)→F1 [PL.val (Value.int .i64 i4)] W5))∧
 ∀(i12:Int) (W13:PW),
 F1 [PL.val (Value.int .i64 i12)] W13→
 (i12<(a0.2:Int)→
 inB a0 i12∧
 ∃i14:Int,
 ∃i15:Int,
 ∃i16:Int,
 Aa7 W13 a0 6 (Int.toNat i12) 0 [Value.int .u8 i14,Value.int .u8 i15,Value.int .u8 i16]∧
 ([Value.int .u8 i14,Value.int .u8 i15,Value.int .u8 i16] = [Value.int .u8 a1_0,Value.int .u8 a1_1,Value.int .u8 a1_2]→
 inB a0 i12∧
 ∃b17:Bool,
 ∃s18:Sl,
 ∃s19:Sl,
 Aa7 W13 a0 6 (Int.toNat i12) 3 [Value.bool b17,s18.v,s19.v]∧
 Aa1 Tryz.prog W0 M 108 [Value.agg ⟨[Value.bool b17,s18.v,s19.v]⟩,Value.agg ⟨[Value.bool a1_3,a1_4.v,a1_5.v]⟩] W13 fun v20 W21=>
 ∃b22:Bool,
 ∃s23:Sl,
 ∃s24:Sl,
 v20=Value.agg ⟨[Value.bool b22,s23.v,s24.v]⟩∧
 ∃(l25:List (List Value)),
 Bf9 W21 6 a0 l25∧
 List.length l25*64≤140737488355328∧
 Aa1 Tryz.prog W0 M 109 [Value.agg ⟨[Value.bool b22,s23.v]⟩] W21 fun v26 W27=>
 ∃i28:Int,
 v26=Value.int .i64 i28∧
 (i28=0→
 I64 (i12+1)∧
 (0≤i12+1∧i12+1≤(a0.2:Int)∧(a0.2:Int)≤(a0.3:Int))∧
 (0≤i12∧i12≤(↑(List.length l25):Int))∧
 ∃(l29:List (List Value)),
 Bf9 W27 6 (Sl.cut a0 6 (Int.toNat (i12+1)) (Int.toNat (a0.2:Int))) l29∧
 (List.length (List.take (Int.toNat i12) l25)+List.length l29)*64≤140737488355328∧
 ∀(s30:Sl) (W31:PW),Ext W27 W31→SX.Own W31 135 6 s30 (List.take (Int.toNat i12) l25 ++ l29)→Fr W0 W27 s30→∀(W32:PW),Ext W31 W32→Post s30.v W32)∧
 (¬i28=0→
 (0≤i12∧i12<(↑(List.length l25):Int))∧
 Int.toNat i12<List.length l25∧∀(s33:Sl) (W34:PW),Ext W27 W34→SX.Own W34 135 6 s33 (Ci8 l25 (Int.toNat i12) 3 [Value.bool b22,s23.v,s24.v])→Fr W0 W27 s33→∀(W35:PW),Ext W34 W35→Post s33.v W35))∧
 (¬[Value.int .u8 i14,Value.int .u8 i15,Value.int .u8 i16] = [Value.int .u8 a1_0,Value.int .u8 a1_1,Value.int .u8 a1_2]→
 Aa1 Tryz.prog W0 M 109 [Value.agg ⟨[Value.bool a1_3,a1_4.v]⟩] W13 fun v36 W37=>
 ∃i38:Int,
 v36=Value.int .i64 i38∧
 (i38=0→∀(W39:PW),Ext W37 W39→Post a0.v W39)∧
 (¬i38=0→
 ((0:Int)≤0∧0≤i12∧i12≤(a0.3:Int))∧
 (0≤i12∧i12≤(a0.2:Int)∧(a0.2:Int)≤(a0.3:Int))∧
 dup 1
 (∃(l40:List (List Value)),
 Bf9 W37 6 (Sl.cut a0 6 0 (Int.toNat i12)) l40∧
 List.length l40*64≤140737488355328∧
 (List.length l40+List.length [[Value.int .u8 a1_0,Value.int .u8 a1_1,Value.int .u8 a1_2,Value.bool a1_3,a1_4.v,a1_5.v]])*64≤140737488355328∧
 ∃(l41:List (List Value)),
 Bf9 W37 6 (Sl.cut a0 6 (Int.toNat i12) (Int.toNat (a0.2:Int))) l41∧
 (List.length (l40 ++ [[Value.int .u8 a1_0,Value.int .u8 a1_1,Value.int .u8 a1_2,Value.bool a1_3,a1_4.v,a1_5.v]])+List.length l41)*64≤140737488355328∧
 ∀(s42:Sl) (W43:PW),
 Ext W37 W43→SX.Own W43 135 6 s42 (l40 ++ [[Value.int .u8 a1_0,Value.int .u8 a1_1,Value.int .u8 a1_2,Value.bool a1_3,a1_4.v,a1_5.v]] ++ l41)→Fr W0 W37 s42→∀(W44:PW),Ext W43 W44→Post s42.v W44))))∧
 (¬i12<(a0.2:Int)→
 Aa1 Tryz.prog W0 M 109 [Value.agg ⟨[Value.bool a1_3,a1_4.v]⟩] W13 fun v45 W46=>
 ∃i47:Int,
 v45=Value.int .i64 i47∧
 (i47=0→∀(W48:PW),Ext W46 W48→Post a0.v W48)∧
 (¬i47=0→
 ((0:Int)≤0∧0≤i12∧i12≤(a0.3:Int))∧
 (0≤i12∧i12≤(a0.2:Int)∧(a0.2:Int)≤(a0.3:Int))∧
 dup 1
 (∃(l49:List (List Value)),
 Bf9 W46 6 (Sl.cut a0 6 0 (Int.toNat i12)) l49∧
 List.length l49*64≤140737488355328∧
 (List.length l49+List.length [[Value.int .u8 a1_0,Value.int .u8 a1_1,Value.int .u8 a1_2,Value.bool a1_3,a1_4.v,a1_5.v]])*64≤140737488355328∧
 ∃(l50:List (List Value)),
 Bf9 W46 6 (Sl.cut a0 6 (Int.toNat i12) (Int.toNat (a0.2:Int))) l50∧
 (List.length (l49 ++ [[Value.int .u8 a1_0,Value.int .u8 a1_1,Value.int .u8 a1_2,Value.bool a1_3,a1_4.v,a1_5.v]])+List.length l50)*64≤140737488355328∧
 ∀(s51:Sl) (W52:PW),
 Ext W46 W52→SX.Own W52 135 6 s51 (l49 ++ [[Value.int .u8 a1_0,Value.int .u8 a1_1,Value.int .u8 a1_2,Value.bool a1_3,a1_4.v,a1_5.v]] ++ l50)→Fr W0 W46 s51→∀(W53:PW),Ext W52 W53→Post s51.v W53)))
theorem Hi1 (W0:PW) (M:Nat→Prop) (a0:Sl) (a1_0:Int) (a1_1:Int) (a1_2:Int) (a1_3:Bool) (a1_4:Sl) (a1_5:Sl) (Post:Value→PW→Prop) (h:Ho4 W0 M a0 a1_0 a1_1 a1_2 a1_3 a1_4 a1_5 Post):Aa0 Tryz.prog 68 [a0.v,Value.agg #[Value.int .u8 a1_0,Value.int .u8 a1_1,Value.int .u8 a1_2,Value.bool a1_3,a1_4.v,a1_5.v]] W0 M Post:=
 Aa3 rfl Aa9 Aa8 Tryz.func68 (cuts:=[4]) rfl rfl (Nat.le_of_ble_eq_true rfl) (Eq.mpr (by kernel_rfl) h)
def Ke3 (W0:PW) (M:Nat→Prop) (a0:Sl) (Post:Value→PW→Prop):Prop:=
 ∃(F1:List PL→PW→Prop),
 ∃(F2:List PL→PW→Nat),
 F1 [PL.row [],PL.val (Value.int .i64 0)] W0∧
 ∀(l3:List (List Value)) (i4:Int) (W5:PW),
 F1 [PL.row l3,PL.val (Value.int .i64 i4)] W5→
 (i4<(a0.2:Int)→
 inB a0 i4∧
 ∃i6:Int,
 ∃i7:Int,
 ∃i8:Int,
 Aa7 W5 a0 6 (Int.toNat i4) 0 [Value.int .u8 i6,Value.int .u8 i7,Value.int .u8 i8]∧
 inB a0 i4∧
 ∃b9:Bool,
 ∃s10:Sl,
 ∃s11:Sl,
 Aa7 W5 a0 6 (Int.toNat i4) 3 [Value.bool b9,s10.v,s11.v]∧
 Aa1 Tryz.prog W0 M 106 [Value.agg ⟨[Value.bool b9,s10.v,s11.v]⟩] W5 fun v12 W13=>
 ∃t14:ByteArray,
 v12=Value.string t14∧
 Ext W5 W13∧
 Ext W13 W13∧
 (List.length l3+List.length [[Value.int .u8 i6,Value.int .u8 i7,Value.int .u8 i8,Value.string t14]])*24≤140737488355328∧
 Ext W13 W13∧I64 (i4+1)∧stp F1 F2 [PL.row (l3 ++ [[Value.int .u8 i6,Value.int .u8 i7,Value.int .u8 i8,Value.string t14]]),PL.val (Value.int .i64 (i4+1))] W13 [PL.row l3,PL.val (Value.int .i64 i4)] W5)∧
 (¬i4<(a0.2:Int)→∀(s15:Sl) (W16:PW),Ext W5 W16→SX.Own W16 180 4 s15 l3→Fr W0 W5 s15→∀(W17:PW),Ext W16 W17→Post s15.v W17)
theorem Ka9 (W0:PW) (M:Nat→Prop) (a0:Sl) (Post:Value→PW→Prop) (h:Ke3 W0 M a0 Post):Aa0 Tryz.prog 67 [a0.v] W0 M Post:=
 Aa3 rfl Aa9 Aa8 Tryz.func67 (cuts:=[]) rfl rfl (Nat.le_of_ble_eq_true rfl) (Eq.mpr (by kernel_rfl) h)
end Go.Proofs.YtahohahjnhfedaaGreatDoor
