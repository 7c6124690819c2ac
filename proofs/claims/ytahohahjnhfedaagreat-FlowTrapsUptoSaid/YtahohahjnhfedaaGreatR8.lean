/- R8 -/
import Derived.Test.YtahohahjnhfedaaGreatTt
set_option linter.unusedVariables false
set_option linter.unusedSimpArgs false
set_option maxRecDepth 100000
namespace Go.Proofs.YtahohahjnhfedaaGreat
open Go Go.SX
def Cb8 (W0:PW) (M:Nat→Prop) (a0:Option Nat) (a1_0:Int) (a1_1:Int) (a1_2:Int) (a2_0:Sl) (a2_1:Bool) (a2_2:Sl) (Post:Value→PW→Prop):Prop:=
 ∃n1:Nat,
 a0=some n1∧
 Fg5 Tryz.prog 118 W0 n1 (.agg ⟨[.int .u8 a1_0,.int .u8 a1_1,.int .u8 a1_2]⟩) (.agg ⟨[.slice none 0 0,.bool false,.slice none 0 0]⟩) fun(v2:Value)=>
 ∃s3:Sl,
 ∃b4:Bool,
 ∃s5:Sl,
 v2 = .agg ⟨[s3.v,.bool b4,s5.v]⟩∧
 Aa1 Tryz.prog W0 M 116 [.agg ⟨[s3.v,.bool b4,s5.v]⟩,.agg ⟨[a2_0.v,.bool a2_1,a2_2.v]⟩] W0 fun v6 W7=>
 ∃s8:Sl,
 ∃b9:Bool,
 ∃s10:Sl,
 v6 = .agg ⟨[s8.v,.bool b9,s10.v]⟩∧
 ∃n11:Nat,
 a0=some n11∧
 Fq4 Tryz.prog W0 M 118 W7 n11 (.agg ⟨[.int .u8 a1_0,.int .u8 a1_1,.int .u8 a1_2]⟩) (.agg ⟨[s8.v,.bool b9,s10.v]⟩) fun(W12:PW)=>∀(W13:PW),Ext W12 W13→Post (.tuple ⟨[]⟩) W13
theorem Bi9 (W0:PW) (M:Nat→Prop) (a0:Option Nat) (a1_0:Int) (a1_1:Int) (a1_2:Int) (a2_0:Sl) (a2_1:Bool) (a2_2:Sl) (Post:Value→PW→Prop) (h:Cb8 W0 M a0 a1_0 a1_1 a1_2 a2_0 a2_1 a2_2 Post):Aa0 Tryz.prog 158 [.map a0,.agg #[.int .u8 a1_0,.int .u8 a1_1,.int .u8 a1_2],.agg #[a2_0.v,.bool a2_1,a2_2.v]] W0 M Post:=
 Aa3 rfl Aa9 Aa8 Tryz.func158 (cuts:=[]) rfl rfl (Nat.le_of_ble_eq_true rfl) (Eq.mpr (by kernel_rfl) h)
def Br0 (W0:PW) (M:Nat→Prop) (a0:Option Nat) (Post:Value→PW→Prop):Prop:=
 ∃n1:Nat,
 a0=some n1∧
 ∃(x2:Array MapEntry),
 ∃n3:Nat,
 ¬W0.2 n1∧
 (PW.w W0).1[n1]?=some (Obj.map x2 n3)∧
 (n1=n1∧n3=n3)∧
 ∃(F6:List PL→PW→Prop),
 ∃(F7:List PL→PW→Nat),
 F6 [.row [],PL.seen ⟨[]⟩ n3] W0∧
 ∀(x8:Array Nat) (n9:Nat) (x10:Option MapEntry) (l11:List (List Value)) (W12:PW),
 F6 [.row l11,PL.seen (Ae4 x8 x10) n9] W12→
 ∃(x13:Array MapEntry),
 ∃n14:Nat,
 ¬W12.2 n1∧
 (PW.w W12).1[n1]?=some (Obj.map x13 n14)∧
 (∀(x17:MapEntry),x17∈Array.toList x13→x17.3<n3)∧
 n3≤n9∧
 (Array.size (leftOf x13 (Ae4 x8 x10))=0→
 ∀(s18:Sl) (W19:PW),
 Ext W12 W19→
 SX.Own W19 196 6 s18 l11→
 Fr W0 W12 s18→Aa1 Tryz.prog W0 M 196 [s18.v,.func (Fn.func 197) ⟨[]⟩ ⟨[]⟩] W19 fun v20 W21=>v20 = .tuple ⟨[]⟩∧∀(W22:PW),Ext W21 W22→Post (.agg ⟨[s18.v]⟩) W22)∧
 ∀(x23:MapEntry),
 x23∈Array.toList (leftOf x13 (Ae4 x8 x10))→
 (∃(x24:Array MapEntry),¬W12.2 n1∧(PW.w W12).1[n1]?=some (Obj.map x24 n14)∧x23∈Array.toList x24∧List.Nodup (List.map (fun(x27:MapEntry)=>x27.3) (Array.toList x24)))∧
 ∃i28:Int,
 ∃i29:Int,
 ∃i30:Int,
 x23.1 = .agg ⟨[.int .u8 i28,.int .u8 i29,.int .u8 i30]⟩∧
 ∃s31:Sl,
 ∃b32:Bool,
 ∃s33:Sl,
 x23.2 = .agg ⟨[s31.v,.bool b32,s33.v]⟩∧
 Aa1 Tryz.prog W0 M 62 [.agg ⟨[s31.v,.bool b32,s33.v]⟩] W12 fun v34 W35=>
 ∃i36:Int,
 v34 = .int .i64 i36∧
 (i36≠0→
 (List.length l11+List.length [[.int .u8 i28,.int .u8 i29,.int .u8 i30,s31.v,.bool b32,s33.v]])*64≤140737488355328∧
 (n1=n1∧n3=n3)∧
 stp F6 F7 [.row (l11 ++ [[.int .u8 i28,.int .u8 i29,.int .u8 i30,s31.v,.bool b32,s33.v]]),PL.seen ⟨List.concat (Array.toList (Ae4 x8 x10)) x23.3⟩ n14] W35
 [.row l11,PL.seen (Ae4 x8 x10) n9] W12)∧
 (¬i36≠0→(n1=n1∧n3=n3)∧stp F6 F7 [.row l11,PL.seen ⟨List.concat (Array.toList (Ae4 x8 x10)) x23.3⟩ n14] W35 [.row l11,PL.seen (Ae4 x8 x10) n9] W12)
theorem Bf8 (W0:PW) (M:Nat→Prop) (a0:Option Nat) (Post:Value→PW→Prop) (h:Br0 W0 M a0 Post):Aa0 Tryz.prog 159 [.map a0] W0 M Post:=
 Aa3 rfl Aa9 Aa8 Tryz.func159 (cuts:=[]) rfl rfl (Nat.le_of_ble_eq_true rfl) (Eq.mpr (by kernel_rfl) h)
def Ep7 (W0:PW) (M:Nat→Prop) (a0:Sl) (Post:Value→PW→Prop):Prop:=
 Cj7 W0 W0 fun(n1:Nat) (W2:PW)=>
 ∃(F3:List PL→PW→Prop),
 ∃(F4:List PL→PW→Nat),
 F3 [.val (.int .i64 0)] W2∧
 ∀(i5:Int) (W6:PW),
 F3 [.val (.int .i64 i5)] W6→
 (i5<(a0.2:Int)→
 inB a0 i5∧
 ∃i7:Int,
 ∃i8:Int,
 ∃i9:Int,
 ∃s10:Sl,
 ∃b11:Bool,
 ∃s12:Sl,
 Aa7 W6 a0 6 (Int.toNat i5) 0 [.int .u8 i7,.int .u8 i8,.int .u8 i9,s10.v,.bool b11,s12.v]∧
 Aa1 Tryz.prog W0 M 158 [.map (some n1),.agg ⟨[.int .u8 i7,.int .u8 i8,.int .u8 i9]⟩,.agg ⟨[s10.v,.bool b11,s12.v]⟩] W6 fun v13 W14=>
 v13 = .tuple ⟨[]⟩∧I64 (i5+1)∧stp F3 F4 [.val (.int .i64 (i5+1))] W14 [.val (.int .i64 i5)] W6)∧
 (¬i5<(a0.2:Int)→Aa1 Tryz.prog W0 M 159 [.map (some n1)] W6 fun v15 W16=>∃s17:Sl,v15 = .agg ⟨[s17.v]⟩∧∀(W18:PW),Ext W16 W18→Post (.agg ⟨[s17.v]⟩) W18)
theorem Da9 (W0:PW) (M:Nat→Prop) (a0:Sl) (Post:Value→PW→Prop) (h:Ep7 W0 M a0 Post):Aa0 Tryz.prog 98 [a0.v] W0 M Post:=
 Aa3 rfl Aa9 Aa8 Tryz.func98 (cuts:=[]) rfl rfl (Nat.le_of_ble_eq_true rfl) (Eq.mpr (by kernel_rfl) h)
def Gq1 (W0:PW) (M:Nat→Prop) (a0_0:Sl) (Post:Value→PW→Prop):Prop:=
 ∃(F1:List PL→PW→Prop),
 ∃(F2:List PL→PW→Nat),
 F1 [PL.row [],PL.val (Value.int .i64 0)] W0∧
 ∀(l3:List (List Value)) (i4:Int) (W5:PW),
 F1 [PL.row l3,PL.val (Value.int .i64 i4)] W5→
 (i4<(a0_0.2:Int)→
 inB a0_0 i4∧
 ∃i6:Int,
 ∃i7:Int,
 ∃i8:Int,
 ∃s9:Sl,
 ∃b10:Bool,
 ∃s11:Sl,
 Aa7 W5 a0_0 6 (Int.toNat i4) 0 [Value.int .u8 i6,Value.int .u8 i7,Value.int .u8 i8,s9.v,Value.bool b10,s11.v]∧
 Aa1 Tryz.prog W0 M 67 [Value.agg ⟨[s9.v,Value.bool b10,s11.v]⟩] W5 fun v12 W13=>
 ∃t14:ByteArray,
 v12=Value.string t14∧
 (List.length l3+List.length [[Value.int .u8 i6,Value.int .u8 i7,Value.int .u8 i8,Value.string t14]])*24≤140737488355328∧
 I64 (i4+1)∧stp F1 F2 [PL.row (l3 ++ [[Value.int .u8 i6,Value.int .u8 i7,Value.int .u8 i8,Value.string t14]]),PL.val (Value.int .i64 (i4+1))] W13 [PL.row l3,PL.val (Value.int .i64 i4)] W5)∧
 (¬i4<(a0_0.2:Int)→∀(s15:Sl) (W16:PW),Ext W5 W16→SX.Own W16 237 4 s15 l3→Fr W0 W5 s15→∀(W17:PW),Ext W16 W17→Post s15.v W17)
theorem Gl0 (W0:PW) (M:Nat→Prop) (a0_0:Sl) (Post:Value→PW→Prop) (h:Gq1 W0 M a0_0 Post):Aa0 Tryz.prog 101 [Value.agg #[a0_0.v]] W0 M Post:=
 Aa3 rfl Aa9 Aa8 Tryz.func101 (cuts:=[]) rfl rfl (Nat.le_of_ble_eq_true rfl) (Eq.mpr (by kernel_rfl) h)
def Di5 (W0:PW) (M:Nat→Prop) (a0:Sl) (Post:Value→PW→Prop):Prop:=
 ∃(F1:List PL→PW→Prop),
 ∃(F2:List PL→PW→Nat),
 F1 [.val (.int .i64 0),.cells [.slice none 0 0],.cells [.slice none 0 0]] W0∧
 ∀(s3 s4:Sl) (i5:Int) (W6:PW),
 F1 [.val (.int .i64 i5),.cells [s3.v],.cells [s4.v]] W6→
 (i5<(a0.2:Int)→
 inB a0 i5∧
 ∃i7:Int,
 ∃i8:Int,
 ∃i9:Int,
 ∃t10:ByteArray,
 Aa7 W6 a0 4 (Int.toNat i5) 0 [.int .u8 i7,.int .u8 i8,.int .u8 i9,.string t10]∧
 Aa1 Tryz.prog W0 M 29 [.string t10] W6 fun v11 W12=>
 ∃s13:Sl,
 ∃b14:Bool,
 ∃s15:Sl,
 ∃i16:Int,
 v11 = .tuple ⟨[.agg ⟨[s13.v,.bool b14,s15.v]⟩,.int .i64 i16]⟩∧
 (i16≠0→∀(W17:PW),Ext W12 W17→Post (.tuple ⟨[.agg ⟨[.slice none 0 0]⟩,.int .i64 2]⟩) W17)∧
 (¬i16≠0→
 Aa1 Tryz.prog W0 M 62 [.agg ⟨[s13.v,.bool b14,s15.v]⟩] W12 fun v18 W19=>
 ∃i20:Int,
 v18 = .int .i64 i20∧
 (i20=0→∀(W21:PW),Ext W19 W21→Post (.tuple ⟨[.agg ⟨[.slice none 0 0]⟩,.int .i64 2]⟩) W21)∧
 (¬i20=0→
 (0<i5→
 I64 (i5-1)∧
 inB a0 (i5-1)∧
 ∃i22:Int,
 ∃i23:Int,
 ∃i24:Int,
 Aa7 W19 a0 4 (Int.toNat (i5-1)) 0 [.int .u8 i22,.int .u8 i23,.int .u8 i24]∧
 Aa1 Tryz.prog W0 M 147 [.agg ⟨[.int .u8 i22,.int .u8 i23,.int .u8 i24]⟩,.agg ⟨[.int .u8 i7,.int .u8 i8,.int .u8 i9]⟩] W19
 fun v25 W26=>
 ∃i27:Int,
 v25 = .int .i64 i27∧
 (0≤i27→∀(W28:PW),Ext W26 W28→Post (.tuple ⟨[.agg ⟨[.slice none 0 0]⟩,.int .i64 2]⟩) W28)∧
 (¬0≤i27→
 Es7 W0 M 196 6 64 s4 [[.int .u8 i7,.int .u8 i8,.int .u8 i9,s13.v,.bool b14,s15.v]] W26 fun(s29:Sl) (W30:PW)=>
 I64 (i5+1)∧stp F1 F2 [.val (.int .i64 (i5+1)),.cells [s3.v],.cells [s29.v]] W30 [.val (.int .i64 i5),.cells [s3.v],.cells [s4.v]] W6))∧
 (¬0<i5→
 Es7 W0 M 196 6 64 s4 [[.int .u8 i7,.int .u8 i8,.int .u8 i9,s13.v,.bool b14,s15.v]] W19 fun(s31:Sl) (W32:PW)=>
 I64 (i5+1)∧stp F1 F2 [.val (.int .i64 (i5+1)),.cells [s3.v],.cells [s31.v]] W32 [.val (.int .i64 i5),.cells [s3.v],.cells [s4.v]] W6))))∧
 (¬i5<(a0.2:Int)→∀(W33:PW),Ext W6 W33→Post (.tuple ⟨[.agg ⟨[s4.v]⟩,.int .i64 0]⟩) W33)
theorem Ca9 (W0:PW) (M:Nat→Prop) (a0:Sl) (Post:Value→PW→Prop) (h:Di5 W0 M a0 Post):Aa0 Tryz.prog 85 [a0.v] W0 M Post:=
 Aa3 rfl Aa9 Aa8 Tryz.func85 (cuts:=[]) rfl rfl (Nat.le_of_ble_eq_true rfl) (Eq.mpr (by kernel_rfl) h)
def Et5 (W0:PW) (M:Nat→Prop) (a0_0:Sl) (a0_1:Bool) (a0_2:Sl) (a1:Int) (Post:Value→PW→Prop):Prop:=
 Aa1 Tryz.prog W0 M 218 [.agg ⟨[a0_0.v,.bool a0_1]⟩,.int .i64 a1] W0 fun v1 W2=>
 ∃s3:Sl,
 ∃b4:Bool,
 v1 = .agg ⟨[s3.v,.bool b4]⟩∧
 Aa1 Tryz.prog W0 M 94 [.agg ⟨[a0_2.v]⟩] W2 fun v5 W6=>
 ∃i7:Int,
 v5 = .int .i64 i7∧
 (0<i7→
 (0<a1→
 Aa1 Tryz.prog W0 M 204 [.agg ⟨[a0_0.v,.bool a0_1,a0_2.v]⟩] W6 fun v8 W9=>
 ∃s10:Sl,
 ∃b11:Bool,
 v8 = .agg ⟨[s10.v,.bool b11]⟩∧
 Aa1 Tryz.prog W0 M 218 [.agg ⟨[s10.v,.bool b11]⟩,.int .i64 a1] W9 fun v12 W13=>
 ∃s14:Sl,
 ∃b15:Bool,
 v12 = .agg ⟨[s14.v,.bool b15]⟩∧
 Aa1 Tryz.prog W0 M 96 [.agg ⟨[s14.v,.bool b15]⟩] W13 fun v16 W17=>∃s18:Sl,v16 = .agg ⟨[s18.v]⟩∧∀(W19:PW),Ext W17 W19→Post (.agg ⟨[s3.v,.bool b4,s18.v]⟩) W19)∧
 (¬0<a1→∀(W20:PW),Ext W6 W20→Post (.agg ⟨[s3.v,.bool b4,.slice none 0 0]⟩) W20))∧
 (¬0<i7→∀(W21:PW),Ext W6 W21→Post (.agg ⟨[s3.v,.bool b4,.slice none 0 0]⟩) W21)
theorem Dk0 (W0:PW) (M:Nat→Prop) (a0_0:Sl) (a0_1:Bool) (a0_2:Sl) (a1:Int) (Post:Value→PW→Prop) (h:Et5 W0 M a0_0 a0_1 a0_2 a1 Post):Aa0 Tryz.prog 199 [.agg #[a0_0.v,.bool a0_1,a0_2.v],.int .i64 a1] W0 M Post:=
 Aa3 rfl Aa9 Aa8 Tryz.func199 (cuts:=[]) rfl rfl (Nat.le_of_ble_eq_true rfl) (Eq.mpr (by kernel_rfl) h)
def Cf2 (W0:PW) (M:Nat→Prop) (a0_0:Sl) (a0_1:Bool) (a1:Int) (Post:Value→PW→Prop):Prop:=
 Aa1 Tryz.prog W0 M 99 [.int .i64 1] W0 fun v1 W2=>
 ∃s3:Sl,
 ∃b4:Bool,
 v1 = .agg ⟨[s3.v,.bool b4]⟩∧
 ∃(F5:List PL→PW→Prop),
 ∃(F6:List PL→PW→Nat),
 F5 [.val (.int .i64 (mn (mx a1 0) 255)),.cells [s3.v,.bool b4],.cells [a0_0.v,.bool a0_1]] W2∧
 ∀(s7:Sl) (b8:Bool) (s9:Sl) (b10:Bool) (i11:Int) (W12:PW),
 F5 [.val (.int .i64 i11),.cells [s7.v,.bool b8],.cells [s9.v,.bool b10]] W12→
 (0<i11→
 (bits BinOp.and .i64 i11 (1:Int)=1→
 Aa1 Tryz.prog W0 M 111 [.agg ⟨[s7.v,.bool b8]⟩,.agg ⟨[s9.v,.bool b10]⟩] W12 fun v13 W14=>
 ∃s15:Sl,
 ∃b16:Bool,
 v13 = .agg ⟨[s15.v,.bool b16]⟩∧
 Aa1 Tryz.prog W0 M 111 [.agg ⟨[s9.v,.bool b10]⟩,.agg ⟨[s9.v,.bool b10]⟩] W14 fun v17 W18=>
 ∃s19:Sl,
 ∃b20:Bool,
 v17 = .agg ⟨[s19.v,.bool b20]⟩∧
 stp F5 F6 [.val (.int .i64 (Ah0 i11 1)),.cells [s15.v,.bool b16],.cells [s19.v,.bool b20]] W18 [.val (.int .i64 i11),.cells [s7.v,.bool b8],.cells [s9.v,.bool b10]] W12)∧
 (¬bits BinOp.and .i64 i11 (1:Int)=1→
 Aa1 Tryz.prog W0 M 111 [.agg ⟨[s9.v,.bool b10]⟩,.agg ⟨[s9.v,.bool b10]⟩] W12 fun v21 W22=>
 ∃s23:Sl,
 ∃b24:Bool,
 v21 = .agg ⟨[s23.v,.bool b24]⟩∧
 stp F5 F6 [.val (.int .i64 (Ah0 i11 1)),.cells [s7.v,.bool b8],.cells [s23.v,.bool b24]] W22 [.val (.int .i64 i11),.cells [s7.v,.bool b8],.cells [s9.v,.bool b10]] W12))∧
 (¬0<i11→∀(W25:PW),Ext W12 W25→Post (.agg ⟨[s7.v,.bool b8]⟩) W25)
theorem Cg5 (W0:PW) (M:Nat→Prop) (a0_0:Sl) (a0_1:Bool) (a1:Int) (Post:Value→PW→Prop) (h:Cf2 W0 M a0_0 a0_1 a1 Post):Aa0 Tryz.prog 218 [.agg #[a0_0.v,.bool a0_1],.int .i64 a1] W0 M Post:=
 Aa3 rfl Aa9 Aa8 Tryz.func218 (cuts:=[]) rfl rfl (Nat.le_of_ble_eq_true rfl) (Eq.mpr (by kernel_rfl) h)
end Go.Proofs.YtahohahjnhfedaaGreat
