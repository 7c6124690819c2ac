/- R5 -/
import Derived.Test.YtahohahjnhfedaaGreatDoorTt
set_option linter.unusedVariables false
set_option linter.unusedSimpArgs false
set_option maxRecDepth 100000
namespace Go.Proofs.YtahohahjnhfedaaGreatDoor
open Go Go.SX
def Cl9 (W0:PW) (M:Nat→Prop) (a0_0:Sl) (Post:Value→PW→Prop):Prop:=
 Aa1 Tryz.prog W0 M (112:Nat) [a0_0.v] W0 fun v1 W2=>
 ∃s3:Sl,
 v1=s3.v∧
 ∃(F4:List PL→PW→Prop),
 ∃(F5:List PL→PW→Nat),
 F4 [PL.row [],PL.val s3.v] W2∧
 ∀(l6:List (List Value)) (s7:Sl) (W8:PW),
 F4 [PL.row l6,PL.val s7.v] W8→
 ((0:Int)<(↑s7.2:Int)→
 Aa1 Tryz.prog W0 M (113:Nat) [s7.v,Value.int IntKind.u32 (1000000000:Int)] W8 fun v9 W10=>
 ∃i11:Int,
 v9=Value.int IntKind.u32 i11∧
 ∃(F12:List PL→PW→Prop),
 ∃(F13:List PL→PW→Nat),
 F12 [PL.row l6,PL.val (Value.int IntKind.u32 i11),PL.val (Value.int IntKind.i64 (0:Int))] W10∧
 ∀(l14:List (List Value)) (i15 i16:Int) (W17:PW),
 F12 [PL.row l14,PL.val (Value.int IntKind.u32 i15),PL.val (Value.int IntKind.i64 i16)] W17→
 (i16<(9:Int)→
 (10:Int)≠(0:Int)∧
 (List.length l14+List.length [[Value.int IntKind.u8 (IntKind.wrap IntKind.u8 (IntKind.wrap IntKind.u32 ((48:Int)+Int.tmod i15 (10:Int))))]])*(1:Nat)≤(140737488355328:Nat)∧
 (10:Int)≠(0:Int)∧
 I64 (i16+(1:Int))∧
 stp F12 F13 [PL.row (l14 ++ [[Value.int IntKind.u8 (IntKind.wrap IntKind.u8 (IntKind.wrap IntKind.u32 ((48:Int)+Int.tmod i15 (10:Int))))]]),PL.val (Value.int IntKind.u32 (IntKind.wrap IntKind.u32 (Int.tdiv i15 (10:Int)))),PL.val (Value.int IntKind.i64 (i16+(1:Int)))] W17
 [PL.row l14,PL.val (Value.int IntKind.u32 i15),PL.val (Value.int IntKind.i64 i16)] W17)∧
 (¬i16<(9:Int)→Aa1 Tryz.prog W0 M (77:Nat) [s7.v] W17 fun v18 W19=>∃s20:Sl,v18=Value.agg ⟨[s20.v]⟩∧stp F4 F5 [PL.row l14,PL.val s20.v] W19 [PL.row l6,PL.val s7.v] W8))∧
 (¬(0:Int)<(↑s7.2:Int)→
 ∀(s21:Sl) (W22:PW),
 Ext W8 W22→
 SX.Own W22 (5:Nat) (1:Nat) s21 l6→
 Fr W0 W8 s21→
 ∃(F23:List PL→PW→Prop),
 ∃(F24:List PL→PW→Nat),
 F23 [PL.val s21.v] W22∧
 ∀(s25:Sl) (W26:PW),
 F23 [PL.val s25.v] W26→
 ((0:Int)<(↑s25.2:Int)→
 I64 ((↑s25.2:Int)-(1:Int))∧
 inB s25 ((↑s25.2:Int)-(1:Int))∧
 ∃i27:Int,
 Aa7 W26 s25 (1:Nat) (Int.toNat ((↑s25.2:Int)-(1:Int))) (0:Nat) [Value.int IntKind.u8 i27]∧
 (i27=(48:Int)→
 I64 ((↑s25.2:Int)-(1:Int))∧
 ((0:Int)≤(0:Int)∧(0:Int)≤(↑s25.2:Int)-(1:Int)∧(↑s25.2:Int)-(1:Int)≤(↑s25.3:Int))∧
 stp F23 F24 [PL.val (Sl.v (Sl.cut {A:=Sl.A s25,n:=Sl.n s25,c:=Sl.c s25 } (TyI.size ty5) (Int.toNat (0:Int)) (Int.toNat ((↑s25.2:Int)-(1:Int)))))] W26 [PL.val s25.v] W26)∧
 (¬i27=(48:Int)→
 ((↑s25.2:Int)=(0:Int)→∀(W28:PW),Ext W26 W28→Post (Value.string (ByteArray.mk #[48])) W28)∧
 (¬(↑s25.2:Int)=(0:Int)→
 Aa1 Tryz.prog W0 M (164:Nat) [s25.v] W26 fun v29 W30=>
 v29=Value.tuple ⟨[]⟩∧∃(l31:List Int),Row W30 (5:Nat) (1:Nat) s25 (List.map (fun(i32:Int)=>[Value.int IntKind.u8 i32]) l31)∧∀(W33:PW),Ext W30 W33→Post (Value.string (strOfNums l31)) W33)))∧
 (¬(0:Int)<(↑s25.2:Int)→
 ((↑s25.2:Int)=(0:Int)→∀(W34:PW),Ext W26 W34→Post (Value.string (ByteArray.mk #[48])) W34)∧
 (¬(↑s25.2:Int)=(0:Int)→
 Aa1 Tryz.prog W0 M (164:Nat) [s25.v] W26 fun v35 W36=>
 v35=Value.tuple ⟨[]⟩∧∃(l37:List Int),Row W36 (5:Nat) (1:Nat) s25 (List.map (fun(i38:Int)=>[Value.int IntKind.u8 i38]) l37)∧∀(W39:PW),Ext W36 W39→Post (Value.string (strOfNums l37)) W39)))
theorem Bn2 (W0:PW) (M:Nat→Prop) (a0_0:Sl) (Post:Value→PW→Prop) (h:Cl9 W0 M a0_0 Post):Aa0 Tryz.prog 139 [Value.agg #[a0_0.v]] W0 M Post:=
 Aa3 rfl Aa9 Aa8 Tryz.func139 (cuts:=[1000011]) rfl rfl (Nat.le_of_ble_eq_true rfl) (Eq.mpr (by kernel_rfl) h)
def By6 (W0:PW) (M:Nat→Prop) (a0_0:Sl) (a0_1:Bool) (Post:Value→PW→Prop):Prop:=
 (a0_1=true→
 Aa1 Tryz.prog W0 M 139 [.agg ⟨[a0_0.v]⟩] W0 fun v1 W2=>
 ∃t3:ByteArray,v1 = .string t3∧(↑(ByteArray.size (ByteArray.mk #[45])):Int)+(↑(ByteArray.size t3):Int)≤9223372036854775807∧∀(W4:PW),Ext W2 W4→Post (.string ((ByteArray.mk #[45]) ++ t3)) W4)∧
 (a0_1=false→Aa1 Tryz.prog W0 M 139 [.agg ⟨[a0_0.v]⟩] W0 fun v5 W6=>∃t7:ByteArray,v5 = .string t7∧∀(W8:PW),Ext W6 W8→Post (.string t7) W8)
theorem Bc7 (W0:PW) (M:Nat→Prop) (a0_0:Sl) (a0_1:Bool) (Post:Value→PW→Prop) (h:By6 W0 M a0_0 a0_1 Post):Aa0 Tryz.prog 138 [.agg #[a0_0.v,.bool a0_1]] W0 M Post:=
 Aa3 rfl Aa9 Aa8 Tryz.func138 (cuts:=[]) rfl rfl (Nat.le_of_ble_eq_true rfl) (Eq.mpr (by kernel_rfl) h)
def Cl3 (W0:PW) (M:Nat→Prop) (a0_0:Sl) (a0_1:Bool) (a0_2:Sl) (Post:Value→PW→Prop):Prop:=
 Aa1 Tryz.prog W0 M 59 [.agg ⟨[a0_2.v]⟩] W0 fun v1 W2=>
 ∃i3:Int,
 v1 = .int .i64 i3∧
 (i3=0→Aa1 Tryz.prog W0 M 138 [.agg ⟨[a0_0.v,.bool a0_1]⟩] W2 fun v4 W5=>∃t6:ByteArray,v4 = .string t6∧∀(W7:PW),Ext W5 W7→Post (.string t6) W7)∧
 (¬i3=0→
 Aa1 Tryz.prog W0 M 138 [.agg ⟨[a0_0.v,.bool a0_1]⟩] W2 fun v8 W9=>
 ∃t10:ByteArray,
 v8 = .string t10∧
 (↑(ByteArray.size t10):Int)+(↑(ByteArray.size (ByteArray.mk #[47])):Int)≤9223372036854775807∧
 Aa1 Tryz.prog W0 M 139 [.agg ⟨[a0_2.v]⟩] W9 fun v11 W12=>
 ∃t13:ByteArray,v11 = .string t13∧(↑(ByteArray.size (t10 ++ (ByteArray.mk #[47]))):Int)+(↑(ByteArray.size t13):Int)≤9223372036854775807∧∀(W14:PW),Ext W12 W14→Post (.string (t10 ++ (ByteArray.mk #[47]) ++ t13)) W14)
theorem Bn6 (W0:PW) (M:Nat→Prop) (a0_0:Sl) (a0_1:Bool) (a0_2:Sl) (Post:Value→PW→Prop) (h:Cl3 W0 M a0_0 a0_1 a0_2 Post):Aa0 Tryz.prog 105 [.agg #[a0_0.v,.bool a0_1,a0_2.v]] W0 M Post:=
 Aa3 rfl Aa9 Aa8 Tryz.func105 (cuts:=[]) rfl rfl (Nat.le_of_ble_eq_true rfl) (Eq.mpr (by kernel_rfl) h)
def Ar6 (W0:PW) (M:Nat→Prop) (a0:Sl) (Post:Value→PW→Prop):Prop:=
 I64 ((a0.2:Int)-1)∧
 ∃(F1:List PL→PW→Prop),
 ∃(F2:List PL→PW→Nat),
 F1 [.val (.int .i64 0),.val (.int .i64 ((a0.2:Int)-1))] W0∧
 ∀(i3 i4:Int) (W5:PW),
 F1 [.val (.int .i64 i3),.val (.int .i64 i4)] W5→
 (i3<i4→
 inB a0 i4∧
 ∃i6:Int,
 Aa7 W5 a0 1 (Int.toNat i4) 0 [.int .u8 i6]∧
 inB a0 i3∧
 ∃i7:Int,
 Aa7 W5 a0 1 (Int.toNat i3) 0 [.int .u8 i7]∧
 inB a0 i3∧
 An9 W0 M a0 (Int.toNat i3*1+0) [.int .u8 i6] W5 fun(W8:PW)=>
 inB a0 i4∧
 An9 W0 M a0 (Int.toNat i4*1+0) [.int .u8 i7] W8 fun(W9:PW)=>
 I64 (i3+1)∧I64 (i4-1)∧stp F1 F2 [.val (.int .i64 (i3+1)),.val (.int .i64 (i4-1))] W9 [.val (.int .i64 i3),.val (.int .i64 i4)] W5)∧
 (¬i3<i4→∀(W10:PW),Ext W5 W10→Post (.tuple ⟨[]⟩) W10)
theorem Ao1 (W0:PW) (M:Nat→Prop) (a0:Sl) (Post:Value→PW→Prop) (h:Ar6 W0 M a0 Post):Aa0 Tryz.prog 164 [a0.v] W0 M Post:=
 Aa3 rfl Aa9 Aa8 Tryz.func164 (cuts:=[]) rfl rfl (Nat.le_of_ble_eq_true rfl) (Eq.mpr (by kernel_rfl) h)
end Go.Proofs.YtahohahjnhfedaaGreatDoor
