/- R8 -/
import Derived.Test.YtokefihiadbkbaaGreatDoorTt
set_option linter.unusedVariables false
set_option linter.unusedSimpArgs false
set_option maxRecDepth 100000
namespace Go.Proofs.YtokefihiadbkbaaGreatDoor
open Go Go.SX
def Cb8 (W0:PW) (M:Nat→Prop) (a0:Option Nat) (a1_0:Int) (a1_1:Int) (a1_2:Int) (a2_0:Sl) (a2_1:Bool) (a2_2:Sl) (Post:Value→PW→Prop):Prop:=
 ∃n1:Nat,
 a0=some n1∧
 Fg5 Tryz.prog 136 W0 n1 (.agg ⟨[.int .u8 a1_0,.int .u8 a1_1,.int .u8 a1_2]⟩) (.agg ⟨[.slice none 0 0,.bool false,.slice none 0 0]⟩) fun(v2:Value)=>
 ∃s3:Sl,
 ∃b4:Bool,
 ∃s5:Sl,
 v2 = .agg ⟨[s3.v,.bool b4,s5.v]⟩∧
 Aa1 Tryz.prog W0 M 21 [.agg ⟨[s3.v,.bool b4,s5.v]⟩,.agg ⟨[a2_0.v,.bool a2_1,a2_2.v]⟩] W0 fun v6 W7=>
 ∃s8:Sl,
 ∃b9:Bool,
 ∃s10:Sl,
 v6 = .agg ⟨[s8.v,.bool b9,s10.v]⟩∧
 ∃n11:Nat,
 a0=some n11∧
 Fq4 Tryz.prog W0 M 136 W7 n11 (.agg ⟨[.int .u8 a1_0,.int .u8 a1_1,.int .u8 a1_2]⟩) (.agg ⟨[s8.v,.bool b9,s10.v]⟩) fun(W12:PW)=>∀(W13:PW),Ext W12 W13→Post (.tuple ⟨[]⟩) W13
theorem Bi9 (W0:PW) (M:Nat→Prop) (a0:Option Nat) (a1_0:Int) (a1_1:Int) (a1_2:Int) (a2_0:Sl) (a2_1:Bool) (a2_2:Sl) (Post:Value→PW→Prop) (h:Cb8 W0 M a0 a1_0 a1_1 a1_2 a2_0 a2_1 a2_2 Post):Aa0 Tryz.prog 133 [.map a0,.agg #[.int .u8 a1_0,.int .u8 a1_1,.int .u8 a1_2],.agg #[a2_0.v,.bool a2_1,a2_2.v]] W0 M Post:=
 Aa3 rfl Aa9 Aa8 Tryz.func133 (cuts:=[]) rfl rfl (Nat.le_of_ble_eq_true rfl) (Eq.mpr (by kernel_rfl) h)
def Br0 (W0:PW) (M:Nat→Prop) (a0:Option Nat) (Post:Value→PW→Prop):Prop:=
 ∃n1:Nat,
 a0=some n1∧
 ∃(x2:Array MapEntry),
 ∃n3:Nat,
 ¬W0.2 n1∧
 (PW.w W0).1[n1]?=some (Obj.map x2 n3)∧
 (n1=n1∧n3=n3)∧
 ∃(F6:List PL→PW→Prop),
 ∃(F7:List PL→PW→Nat),
 F6 [.row [],PL.seen ⟨[]⟩ n3] W0∧
 ∀(x8:Array Nat) (n9:Nat) (x10:Option MapEntry) (l11:List (List Value)) (W12:PW),
 F6 [.row l11,PL.seen (Ae4 x8 x10) n9] W12→
 ∃(x13:Array MapEntry),
 ∃n14:Nat,
 ¬W12.2 n1∧
 (PW.w W12).1[n1]?=some (Obj.map x13 n14)∧
 (∀(x17:MapEntry),x17∈Array.toList x13→x17.3<n3)∧
 n3≤n9∧
 (Array.size (leftOf x13 (Ae4 x8 x10))=0→
 ∀(s18:Sl) (W19:PW),
 Ext W12 W19→
 SX.Own W19 138 6 s18 l11→
 Fr W0 W12 s18→Aa1 Tryz.prog W0 M 188 [s18.v,.func (Fn.func 189) ⟨[]⟩ ⟨[]⟩] W19 fun v20 W21=>v20 = .tuple ⟨[]⟩∧∀(W22:PW),Ext W21 W22→Post (.agg ⟨[s18.v]⟩) W22)∧
 ∀(x23:MapEntry),
 x23∈Array.toList (leftOf x13 (Ae4 x8 x10))→
 (∃(x24:Array MapEntry),¬W12.2 n1∧(PW.w W12).1[n1]?=some (Obj.map x24 n14)∧x23∈Array.toList x24∧List.Nodup (List.map (fun(x27:MapEntry)=>x27.3) (Array.toList x24)))∧
 ∃i28:Int,
 ∃i29:Int,
 ∃i30:Int,
 x23.1 = .agg ⟨[.int .u8 i28,.int .u8 i29,.int .u8 i30]⟩∧
 ∃s31:Sl,
 ∃b32:Bool,
 ∃s33:Sl,
 x23.2 = .agg ⟨[s31.v,.bool b32,s33.v]⟩∧
 Aa1 Tryz.prog W0 M 60 [.agg ⟨[s31.v,.bool b32,s33.v]⟩] W12 fun v34 W35=>
 ∃i36:Int,
 v34 = .int .i64 i36∧
 (i36≠0→
 (List.length l11+List.length [[.int .u8 i28,.int .u8 i29,.int .u8 i30,s31.v,.bool b32,s33.v]])*64≤140737488355328∧
 (n1=n1∧n3=n3)∧
 stp F6 F7 [.row (l11 ++ [[.int .u8 i28,.int .u8 i29,.int .u8 i30,s31.v,.bool b32,s33.v]]),PL.seen ⟨List.concat (Array.toList (Ae4 x8 x10)) x23.3⟩ n14] W35
 [.row l11,PL.seen (Ae4 x8 x10) n9] W12)∧
 (¬i36≠0→(n1=n1∧n3=n3)∧stp F6 F7 [.row l11,PL.seen ⟨List.concat (Array.toList (Ae4 x8 x10)) x23.3⟩ n14] W35 [.row l11,PL.seen (Ae4 x8 x10) n9] W12)
theorem Bf8 (W0:PW) (M:Nat→Prop) (a0:Option Nat) (Post:Value→PW→Prop) (h:Br0 W0 M a0 Post):Aa0 Tryz.prog 134 [.map a0] W0 M Post:=
 Aa3 rfl Aa9 Aa8 Tryz.func134 (cuts:=[]) rfl rfl (Nat.le_of_ble_eq_true rfl) (Eq.mpr (by kernel_rfl) h)
def Ep7 (W0:PW) (M:Nat→Prop) (a0:Sl) (Post:Value→PW→Prop):Prop:=
 Cj7 W0 W0 fun(n1:Nat) (W2:PW)=>
 ∃(F3:List PL→PW→Prop),
 ∃(F4:List PL→PW→Nat),
 F3 [.val (.int .i64 0)] W2∧
 ∀(i5:Int) (W6:PW),
 F3 [.val (.int .i64 i5)] W6→
 (i5<(a0.2:Int)→
 inB a0 i5∧
 ∃i7:Int,
 ∃i8:Int,
 ∃i9:Int,
 ∃s10:Sl,
 ∃b11:Bool,
 ∃s12:Sl,
 Aa7 W6 a0 6 (Int.toNat i5) 0 [.int .u8 i7,.int .u8 i8,.int .u8 i9,s10.v,.bool b11,s12.v]∧
 Aa1 Tryz.prog W0 M 133 [.map (some n1),.agg ⟨[.int .u8 i7,.int .u8 i8,.int .u8 i9]⟩,.agg ⟨[s10.v,.bool b11,s12.v]⟩] W6 fun v13 W14=>
 v13 = .tuple ⟨[]⟩∧I64 (i5+1)∧stp F3 F4 [.val (.int .i64 (i5+1))] W14 [.val (.int .i64 i5)] W6)∧
 (¬i5<(a0.2:Int)→Aa1 Tryz.prog W0 M 134 [.map (some n1)] W6 fun v15 W16=>∃s17:Sl,v15 = .agg ⟨[s17.v]⟩∧∀(W18:PW),Ext W16 W18→Post (.agg ⟨[s17.v]⟩) W18)
theorem Da9 (W0:PW) (M:Nat→Prop) (a0:Sl) (Post:Value→PW→Prop) (h:Ep7 W0 M a0 Post):Aa0 Tryz.prog 63 [a0.v] W0 M Post:=
 Aa3 rfl Aa9 Aa8 Tryz.func63 (cuts:=[]) rfl rfl (Nat.le_of_ble_eq_true rfl) (Eq.mpr (by kernel_rfl) h)
def Di5 (W0:PW) (M:Nat→Prop) (a0:Sl) (Post:Value→PW→Prop):Prop:=
 ∃(F1:List PL→PW→Prop),
 ∃(F2:List PL→PW→Nat),
 F1 [.val (.int .i64 0),.cells [.slice none 0 0],.cells [.slice none 0 0]] W0∧
 ∀(s3 s4:Sl) (i5:Int) (W6:PW),
 F1 [.val (.int .i64 i5),.cells [s3.v],.cells [s4.v]] W6→
 (i5<(a0.2:Int)→
 inB a0 i5∧
 ∃i7:Int,
 ∃i8:Int,
 ∃i9:Int,
 ∃t10:ByteArray,
 Aa7 W6 a0 4 (Int.toNat i5) 0 [.int .u8 i7,.int .u8 i8,.int .u8 i9,.string t10]∧
 Aa1 Tryz.prog W0 M 57 [.string t10] W6 fun v11 W12=>
 ∃s13:Sl,
 ∃b14:Bool,
 ∃s15:Sl,
 ∃i16:Int,
 v11 = .tuple ⟨[.agg ⟨[s13.v,.bool b14,s15.v]⟩,.int .i64 i16]⟩∧
 (i16≠0→∀(W17:PW),Ext W12 W17→Post (.tuple ⟨[.agg ⟨[.slice none 0 0]⟩,.int .i64 2]⟩) W17)∧
 (¬i16≠0→
 Aa1 Tryz.prog W0 M 60 [.agg ⟨[s13.v,.bool b14,s15.v]⟩] W12 fun v18 W19=>
 ∃i20:Int,
 v18 = .int .i64 i20∧
 (i20=0→∀(W21:PW),Ext W19 W21→Post (.tuple ⟨[.agg ⟨[.slice none 0 0]⟩,.int .i64 2]⟩) W21)∧
 (¬i20=0→
 (0<i5→
 I64 (i5-1)∧
 inB a0 (i5-1)∧
 ∃i22:Int,
 ∃i23:Int,
 ∃i24:Int,
 Aa7 W19 a0 4 (Int.toNat (i5-1)) 0 [.int .u8 i22,.int .u8 i23,.int .u8 i24]∧
 Aa1 Tryz.prog W0 M 119 [.agg ⟨[.int .u8 i22,.int .u8 i23,.int .u8 i24]⟩,.agg ⟨[.int .u8 i7,.int .u8 i8,.int .u8 i9]⟩] W19
 fun v25 W26=>
 ∃i27:Int,
 v25 = .int .i64 i27∧
 (0≤i27→∀(W28:PW),Ext W26 W28→Post (.tuple ⟨[.agg ⟨[.slice none 0 0]⟩,.int .i64 2]⟩) W28)∧
 (¬0≤i27→
 Es7 W0 M 138 6 64 s4 [[.int .u8 i7,.int .u8 i8,.int .u8 i9,s13.v,.bool b14,s15.v]] W26 fun(s29:Sl) (W30:PW)=>
 I64 (i5+1)∧stp F1 F2 [.val (.int .i64 (i5+1)),.cells [s3.v],.cells [s29.v]] W30 [.val (.int .i64 i5),.cells [s3.v],.cells [s4.v]] W6))∧
 (¬0<i5→
 Es7 W0 M 138 6 64 s4 [[.int .u8 i7,.int .u8 i8,.int .u8 i9,s13.v,.bool b14,s15.v]] W19 fun(s31:Sl) (W32:PW)=>
 I64 (i5+1)∧stp F1 F2 [.val (.int .i64 (i5+1)),.cells [s3.v],.cells [s31.v]] W32 [.val (.int .i64 i5),.cells [s3.v],.cells [s4.v]] W6))))∧
 (¬i5<(a0.2:Int)→∀(W33:PW),Ext W6 W33→Post (.tuple ⟨[.agg ⟨[s4.v]⟩,.int .i64 0]⟩) W33)
theorem Ca9 (W0:PW) (M:Nat→Prop) (a0:Sl) (Post:Value→PW→Prop) (h:Di5 W0 M a0 Post):Aa0 Tryz.prog 53 [a0.v] W0 M Post:=
 Aa3 rfl Aa9 Aa8 Tryz.func53 (cuts:=[]) rfl rfl (Nat.le_of_ble_eq_true rfl) (Eq.mpr (by kernel_rfl) h)
end Go.Proofs.YtokefihiadbkbaaGreatDoor
