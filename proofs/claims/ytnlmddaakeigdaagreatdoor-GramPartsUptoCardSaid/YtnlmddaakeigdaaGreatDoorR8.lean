/- R8 -/
import Derived.Test.YtnlmddaakeigdaaGreatDoorTt
set_option linter.unusedVariables false
set_option linter.unusedSimpArgs false
set_option maxRecDepth 100000
set_option linter.unusedVariables false
namespace Go.Proofs.YtnlmddaakeigdaaGreatDoor
open Go Go.SX
def Rpoly_sums_add (W0:PW) (M:Nat→Prop) (a0:Option Nat) (a1_0:Int) (a1_1:Int) (a1_2:Int) (a2_0:Sl) (a2_1:Bool) (a2_2:Sl) (Post:Value→PW→Prop):Prop:=
 ∃n1:Nat,
 a0=some n1∧
 lookN Tryz.prog 139 W0 n1 (.agg ⟨[.int .u8 a1_0,.int .u8 a1_1,.int .u8 a1_2]⟩) (.agg ⟨[.slice none 0 0,.bool false,.slice none 0 0]⟩) fun(v2:Value)=>
 ∃s3:Sl,
 ∃b4:Bool,
 ∃s5:Sl,
 v2 = .agg ⟨[s3.v,.bool b4,s5.v]⟩∧
 callN Tryz.prog W0 M 70 [.agg ⟨[s3.v,.bool b4,s5.v]⟩,.agg ⟨[a2_0.v,.bool a2_1,a2_2.v]⟩] W0 fun v6 W7=>
 ∃s8:Sl,
 ∃b9:Bool,
 ∃s10:Sl,
 v6 = .agg ⟨[s8.v,.bool b9,s10.v]⟩∧
 ∃n11:Nat,
 a0=some n11∧
 updN Tryz.prog W0 M 139 W7 n11 (.agg ⟨[.int .u8 a1_0,.int .u8 a1_1,.int .u8 a1_2]⟩) (.agg ⟨[s8.v,.bool b9,s10.v]⟩) fun(W12:PW)=>∀(W13:PW),Ext W12 W13→Post (.tuple ⟨[]⟩) W13
theorem callpoly_sums_add (W0:PW) (M:Nat→Prop) (a0:Option Nat) (a1_0:Int) (a1_1:Int) (a1_2:Int) (a2_0:Sl) (a2_1:Bool) (a2_2:Sl) (Post:Value→PW→Prop) (h:Rpoly_sums_add W0 M a0 a1_0 a1_1 a1_2 a2_0 a2_1 a2_2 Post):PCallsM Tryz.prog 119 [.map a0,.agg #[.int .u8 a1_0,.int .u8 a1_1,.int .u8 a1_2],.agg #[a2_0.v,.bool a2_1,a2_2.v]] W0 M Post:=
 fn_sound rfl tt_ok tt_in Tryz.func119 (cuts:=[]) rfl rfl (Nat.le_of_ble_eq_true rfl) (Eq.mpr (by kernel_rfl) h)
def Rpoly_sums_poly (W0:PW) (M:Nat→Prop) (a0:Option Nat) (Post:Value→PW→Prop):Prop:=
 ∃n1:Nat,
 a0=some n1∧
 ∃(x2:Array MapEntry),
 ∃n3:Nat,
 ¬W0.2 n1∧
 (PW.w W0).1[n1]?=some (Obj.map x2 n3)∧
 (n1=n1∧n3=n3)∧
 ∃(F6:List PL→PW→Prop),
 ∃(F7:List PL→PW→Nat),
 F6 [.row [],PL.seen ⟨[]⟩ n3] W0∧
 ∀(x8:Array Nat) (n9:Nat) (x10:Option MapEntry) (l11:List (List Value)) (W12:PW),
 F6 [.row l11,PL.seen (seenNow x8 x10) n9] W12→
 ∃(x13:Array MapEntry),
 ∃n14:Nat,
 ¬W12.2 n1∧
 (PW.w W12).1[n1]?=some (Obj.map x13 n14)∧
 (∀(x17:MapEntry),x17∈Array.toList x13→x17.3<n3)∧
 n3≤n9∧
 (Array.size (leftOf x13 (seenNow x8 x10))=0→
 ∀(s18:Sl) (W19:PW),
 Ext W12 W19→
 SX.Own W19 151 6 s18 l11→
 Fr W0 W12 s18→callN Tryz.prog W0 M 173 [s18.v,.func (Fn.func 174) ⟨[]⟩ ⟨[]⟩] W19 fun v20 W21=>v20 = .tuple ⟨[]⟩∧∀(W22:PW),Ext W21 W22→Post (.agg ⟨[s18.v]⟩) W22)∧
 ∀(x23:MapEntry),
 x23∈Array.toList (leftOf x13 (seenNow x8 x10))→
 (∃(x24:Array MapEntry),¬W12.2 n1∧(PW.w W12).1[n1]?=some (Obj.map x24 n14)∧x23∈Array.toList x24∧List.Nodup (List.map (fun(x27:MapEntry)=>x27.3) (Array.toList x24)))∧
 ∃i28:Int,
 ∃i29:Int,
 ∃i30:Int,
 x23.1 = .agg ⟨[.int .u8 i28,.int .u8 i29,.int .u8 i30]⟩∧
 ∃s31:Sl,
 ∃b32:Bool,
 ∃s33:Sl,
 x23.2 = .agg ⟨[s31.v,.bool b32,s33.v]⟩∧
 callN Tryz.prog W0 M 23 [.agg ⟨[s31.v,.bool b32,s33.v]⟩] W12 fun v34 W35=>
 ∃i36:Int,
 v34 = .int .i64 i36∧
 (i36≠0→
 (List.length l11+List.length [[.int .u8 i28,.int .u8 i29,.int .u8 i30,s31.v,.bool b32,s33.v]])*64≤140737488355328∧
 (n1=n1∧n3=n3)∧
 stp F6 F7 [.row (l11 ++ [[.int .u8 i28,.int .u8 i29,.int .u8 i30,s31.v,.bool b32,s33.v]]),PL.seen ⟨List.concat (Array.toList (seenNow x8 x10)) x23.3⟩ n14] W35
 [.row l11,PL.seen (seenNow x8 x10) n9] W12)∧
 (¬i36≠0→(n1=n1∧n3=n3)∧stp F6 F7 [.row l11,PL.seen ⟨List.concat (Array.toList (seenNow x8 x10)) x23.3⟩ n14] W35 [.row l11,PL.seen (seenNow x8 x10) n9] W12)
theorem callpoly_sums_poly (W0:PW) (M:Nat→Prop) (a0:Option Nat) (Post:Value→PW→Prop) (h:Rpoly_sums_poly W0 M a0 Post):PCallsM Tryz.prog 120 [.map a0] W0 M Post:=
 fn_sound rfl tt_ok tt_in Tryz.func120 (cuts:=[]) rfl rfl (Nat.le_of_ble_eq_true rfl) (Eq.mpr (by kernel_rfl) h)
def Rpoly_New (W0:PW) (M:Nat→Prop) (a0:Sl) (Post:Value→PW→Prop):Prop:=
 newMapN W0 W0 fun(n1:Nat) (W2:PW)=>
 ∃(F3:List PL→PW→Prop),
 ∃(F4:List PL→PW→Nat),
 F3 [.val (.int .i64 0)] W2∧
 ∀(i5:Int) (W6:PW),
 F3 [.val (.int .i64 i5)] W6→
 (i5<(a0.2:Int)→
 inB a0 i5∧
 ∃i7:Int,
 ∃i8:Int,
 ∃i9:Int,
 ∃s10:Sl,
 ∃b11:Bool,
 ∃s12:Sl,
 ElemAt W6 a0 6 (Int.toNat i5) 0 [.int .u8 i7,.int .u8 i8,.int .u8 i9,s10.v,.bool b11,s12.v]∧
 callN Tryz.prog W0 M 119 [.map (some n1),.agg ⟨[.int .u8 i7,.int .u8 i8,.int .u8 i9]⟩,.agg ⟨[s10.v,.bool b11,s12.v]⟩] W6 fun v13 W14=>
 v13 = .tuple ⟨[]⟩∧I64 (i5+1)∧stp F3 F4 [.val (.int .i64 (i5+1))] W14 [.val (.int .i64 i5)] W6)∧
 (¬i5<(a0.2:Int)→callN Tryz.prog W0 M 120 [.map (some n1)] W6 fun v15 W16=>∃s17:Sl,v15 = .agg ⟨[s17.v]⟩∧∀(W18:PW),Ext W16 W18→Post (.agg ⟨[s17.v]⟩) W18)
theorem callpoly_New (W0:PW) (M:Nat→Prop) (a0:Sl) (Post:Value→PW→Prop) (h:Rpoly_New W0 M a0 Post):PCallsM Tryz.prog 66 [a0.v] W0 M Post:=
 fn_sound rfl tt_ok tt_in Tryz.func66 (cuts:=[]) rfl rfl (Nat.le_of_ble_eq_true rfl) (Eq.mpr (by kernel_rfl) h)
def Rpoly_Plain (W0:PW) (M:Nat→Prop) (a0_0:Sl) (Post:Value→PW→Prop):Prop:=
 ∃(F1:List PL→PW→Prop),
 ∃(F2:List PL→PW→Nat),
 F1 [PL.row [],PL.val (Value.int .i64 0)] W0∧
 ∀(l3:List (List Value)) (i4:Int) (W5:PW),
 F1 [PL.row l3,PL.val (Value.int .i64 i4)] W5→
 (i4<(a0_0.2:Int)→
 inB a0_0 i4∧
 ∃i6:Int,
 ∃i7:Int,
 ∃i8:Int,
 ∃s9:Sl,
 ∃b10:Bool,
 ∃s11:Sl,
 ElemAt W5 a0_0 6 (Int.toNat i4) 0 [Value.int .u8 i6,Value.int .u8 i7,Value.int .u8 i8,s9.v,Value.bool b10,s11.v]∧
 callN Tryz.prog W0 M 116 [Value.agg ⟨[s9.v,Value.bool b10,s11.v]⟩] W5 fun v12 W13=>
 ∃t14:ByteArray,
 v12=Value.string t14∧
 (List.length l3+List.length [[Value.int .u8 i6,Value.int .u8 i7,Value.int .u8 i8,Value.string t14]])*24≤140737488355328∧
 I64 (i4+1)∧stp F1 F2 [PL.row (l3 ++ [[Value.int .u8 i6,Value.int .u8 i7,Value.int .u8 i8,Value.string t14]]),PL.val (Value.int .i64 (i4+1))] W13 [PL.row l3,PL.val (Value.int .i64 i4)] W5)∧
 (¬i4<(a0_0.2:Int)→∀(s15:Sl) (W16:PW),Ext W5 W16→SX.Own W16 141 4 s15 l3→Fr W0 W5 s15→∀(W17:PW),Ext W16 W17→Post s15.v W17)
theorem callpoly_Plain (W0:PW) (M:Nat→Prop) (a0_0:Sl) (Post:Value→PW→Prop) (h:Rpoly_Plain W0 M a0_0 Post):PCallsM Tryz.prog 59 [Value.agg #[a0_0.v]] W0 M Post:=
 fn_sound rfl tt_ok tt_in Tryz.func59 (cuts:=[]) rfl rfl (Nat.le_of_ble_eq_true rfl) (Eq.mpr (by kernel_rfl) h)
def Rpoly_Parse (W0:PW) (M:Nat→Prop) (a0:Sl) (Post:Value→PW→Prop):Prop:=
 ∃(F1:List PL→PW→Prop),
 ∃(F2:List PL→PW→Nat),
 F1 [.val (.int .i64 0),.cells [.slice none 0 0],.cells [.slice none 0 0]] W0∧
 ∀(s3 s4:Sl) (i5:Int) (W6:PW),
 F1 [.val (.int .i64 i5),.cells [s3.v],.cells [s4.v]] W6→
 (i5<(a0.2:Int)→
 inB a0 i5∧
 ∃i7:Int,
 ∃i8:Int,
 ∃i9:Int,
 ∃t10:ByteArray,
 ElemAt W6 a0 4 (Int.toNat i5) 0 [.int .u8 i7,.int .u8 i8,.int .u8 i9,.string t10]∧
 callN Tryz.prog W0 M 113 [.string t10] W6 fun v11 W12=>
 ∃s13:Sl,
 ∃b14:Bool,
 ∃s15:Sl,
 ∃i16:Int,
 v11 = .tuple ⟨[.agg ⟨[s13.v,.bool b14,s15.v]⟩,.int .i64 i16]⟩∧
 (i16≠0→∀(W17:PW),Ext W12 W17→Post (.tuple ⟨[.agg ⟨[.slice none 0 0]⟩,.int .i64 2]⟩) W17)∧
 (¬i16≠0→
 callN Tryz.prog W0 M 23 [.agg ⟨[s13.v,.bool b14,s15.v]⟩] W12 fun v18 W19=>
 ∃i20:Int,
 v18 = .int .i64 i20∧
 (i20=0→∀(W21:PW),Ext W19 W21→Post (.tuple ⟨[.agg ⟨[.slice none 0 0]⟩,.int .i64 2]⟩) W21)∧
 (¬i20=0→
 (0<i5→
 I64 (i5-1)∧
 inB a0 (i5-1)∧
 ∃i22:Int,
 ∃i23:Int,
 ∃i24:Int,
 ElemAt W19 a0 4 (Int.toNat (i5-1)) 0 [.int .u8 i22,.int .u8 i23,.int .u8 i24]∧
 callN Tryz.prog W0 M 135 [.agg ⟨[.int .u8 i22,.int .u8 i23,.int .u8 i24]⟩,.agg ⟨[.int .u8 i7,.int .u8 i8,.int .u8 i9]⟩] W19
 fun v25 W26=>
 ∃i27:Int,
 v25 = .int .i64 i27∧
 (0≤i27→∀(W28:PW),Ext W26 W28→Post (.tuple ⟨[.agg ⟨[.slice none 0 0]⟩,.int .i64 2]⟩) W28)∧
 (¬0≤i27→
 appN W0 M 151 6 64 s4 [[.int .u8 i7,.int .u8 i8,.int .u8 i9,s13.v,.bool b14,s15.v]] W26 fun(s29:Sl) (W30:PW)=>
 I64 (i5+1)∧stp F1 F2 [.val (.int .i64 (i5+1)),.cells [s3.v],.cells [s29.v]] W30 [.val (.int .i64 i5),.cells [s3.v],.cells [s4.v]] W6))∧
 (¬0<i5→
 appN W0 M 151 6 64 s4 [[.int .u8 i7,.int .u8 i8,.int .u8 i9,s13.v,.bool b14,s15.v]] W19 fun(s31:Sl) (W32:PW)=>
 I64 (i5+1)∧stp F1 F2 [.val (.int .i64 (i5+1)),.cells [s3.v],.cells [s31.v]] W32 [.val (.int .i64 i5),.cells [s3.v],.cells [s4.v]] W6))))∧
 (¬i5<(a0.2:Int)→∀(W33:PW),Ext W6 W33→Post (.tuple ⟨[.agg ⟨[s4.v]⟩,.int .i64 0]⟩) W33)
theorem callpoly_Parse (W0:PW) (M:Nat→Prop) (a0:Sl) (Post:Value→PW→Prop) (h:Rpoly_Parse W0 M a0 Post):PCallsM Tryz.prog 77 [a0.v] W0 M Post:=
 fn_sound rfl tt_ok tt_in Tryz.func77 (cuts:=[]) rfl rfl (Nat.le_of_ble_eq_true rfl) (Eq.mpr (by kernel_rfl) h)
end Go.Proofs.YtnlmddaakeigdaaGreatDoor
