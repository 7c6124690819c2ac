/- R14 -/
import Derived.Test.YtnlmddaakeigdaaGreatDoorTt
set_option linter.unusedVariables false
set_option linter.unusedSimpArgs false
set_option maxRecDepth 100000
set_option linter.unusedVariables false
namespace Go.Proofs.YtnlmddaakeigdaaGreatDoor
open Go Go.SX
def Rnat_Nat_Zeros (W0:PW) (M:Nat→Prop) (a0_0:Sl) (Post:Value→PW→Prop):Prop:=
 ∃(F1:List PL→PW→Prop),
 ∃(F2:List PL→PW→Nat),
 F1 [.val (.int .i64 0)] W0∧
 ∀(i3:Int) (W4:PW),
 F1 [.val (.int .i64 i3)] W4→
 (i3<(a0_0.2:Int)→
 inB a0_0 i3∧
 ∃i5:Int,
 ElemAt W4 a0_0 1 (Int.toNat i3) 0 [.int .u32 i5]∧
 (i5≠0→I64 (32*i3)∧callN Tryz.prog W0 M 221 [.int .u32 i5] W4 fun v6 W7=>∃i8:Int,v6 = .int .i64 i8∧I64 (32*i3+i8)∧∀(W9:PW),Ext W7 W9→Post (.int .i64 (32*i3+i8)) W9)∧
 (¬i5≠0→I64 (i3+1)∧stp F1 F2 [.val (.int .i64 (i3+1))] W4 [.val (.int .i64 i3)] W4))∧
 (¬i3<(a0_0.2:Int)→∀(W10:PW),Ext W4 W10→Post (.int .i64 0) W10)
theorem callnat_Nat_Zeros (W0:PW) (M:Nat→Prop) (a0_0:Sl) (Post:Value→PW→Prop) (h:Rnat_Nat_Zeros W0 M a0_0 Post):PCallsM Tryz.prog 198 [.agg #[a0_0.v]] W0 M Post:=
 fn_sound rfl tt_ok tt_in Tryz.func198 (cuts:=[]) rfl rfl (Nat.le_of_ble_eq_true rfl) (Eq.mpr (by kernel_rfl) h)
def Rrat_Rat_Num (W0:PW) (M:Nat→Prop) (a0_0:Sl) (a0_1:Bool) (a0_2:Sl) (Post:Value→PW→Prop):Prop:=
 ∀(W1:PW),Ext W0 W1→Post (.agg ⟨[a0_0.v,.bool a0_1]⟩) W1
theorem callrat_Rat_Num (W0:PW) (M:Nat→Prop) (a0_0:Sl) (a0_1:Bool) (a0_2:Sl) (Post:Value→PW→Prop) (h:Rrat_Rat_Num W0 M a0_0 a0_1 a0_2 Post):PCallsM Tryz.prog 200 [.agg #[a0_0.v,.bool a0_1,a0_2.v]] W0 M Post:=
 fn_sound rfl tt_ok tt_in Tryz.func200 (cuts:=[]) rfl rfl (Nat.le_of_ble_eq_true rfl) (Eq.mpr (by kernel_rfl) h)
def Rdyad_odd (W0:PW) (M:Nat→Prop) (a0_0:Sl) (a0_1:Bool) (a1:Int) (Post:Value→PW→Prop):Prop:=
 callN Tryz.prog W0 M 74 [.agg ⟨[a0_0.v,.bool a0_1]⟩] W0 fun v1 W2=>
 ∃i3:Int,
 v1 = .int .i64 i3∧
 (i3=0→∀(W4:PW),Ext W2 W4→Post (.agg ⟨[.slice none 0 0,.bool false,.int .i64 0]⟩) W4)∧
 (¬i3=0→
 callN Tryz.prog W0 M 125 [.agg ⟨[a0_0.v,.bool a0_1]⟩] W2 fun v5 W6=>
 ∃s7:Sl,
 v5 = .agg ⟨[s7.v]⟩∧
 callN Tryz.prog W0 M 198 [.agg ⟨[s7.v]⟩] W6 fun v8 W9=>
 ∃i10:Int,
 v8 = .int .i64 i10∧
 I64 (a1+i10)∧
 callN Tryz.prog W0 M 74 [.agg ⟨[a0_0.v,.bool a0_1]⟩] W9 fun v11 W12=>
 ∃i13:Int,
 v11 = .int .i64 i13∧
 callN Tryz.prog W0 M 125 [.agg ⟨[a0_0.v,.bool a0_1]⟩] W12 fun v14 W15=>
 ∃s16:Sl,
 v14 = .agg ⟨[s16.v]⟩∧
 callN Tryz.prog W0 M 213 [.agg ⟨[s16.v]⟩,.int .i64 i10] W15 fun v17 W18=>
 ∃s19:Sl,
 v17 = .agg ⟨[s19.v]⟩∧
 callN Tryz.prog W0 M 123 [.bool (decide (i13<0)),.agg ⟨[s19.v]⟩] W18 fun v20 W21=>
 ∃s22:Sl,∃b23:Bool,v20 = .agg ⟨[s22.v,.bool b23]⟩∧∀(W24:PW),Ext W21 W24→Post (.agg ⟨[s22.v,.bool b23,.int .i64 (a1+i10)]⟩) W24)
theorem calldyad_odd (W0:PW) (M:Nat→Prop) (a0_0:Sl) (a0_1:Bool) (a1:Int) (Post:Value→PW→Prop) (h:Rdyad_odd W0 M a0_0 a0_1 a1 Post):PCallsM Tryz.prog 199 [.agg #[a0_0.v,.bool a0_1],.int .i64 a1] W0 M Post:=
 fn_sound rfl tt_ok tt_in Tryz.func199 (cuts:=[]) rfl rfl (Nat.le_of_ble_eq_true rfl) (Eq.mpr (by kernel_rfl) h)
def Rdyad_Of (W0:PW) (M:Nat→Prop) (a0_0:Sl) (a0_1:Bool) (a0_2:Sl) (Post:Value→PW→Prop):Prop:=
 callN Tryz.prog W0 M 133 [.agg ⟨[a0_0.v,.bool a0_1,a0_2.v]⟩] W0 fun v1 W2=>
 ∃s3:Sl,
 ∃b4:Bool,
 v1 = .agg ⟨[s3.v,.bool b4]⟩∧
 callN Tryz.prog W0 M 125 [.agg ⟨[s3.v,.bool b4]⟩] W2 fun v5 W6=>
 ∃s7:Sl,
 v5 = .agg ⟨[s7.v]⟩∧
 callN Tryz.prog W0 M 198 [.agg ⟨[s7.v]⟩] W6 fun v8 W9=>
 ∃i10:Int,
 v8 = .int .i64 i10∧
 callN Tryz.prog W0 M 132 [.agg ⟨[s7.v]⟩] W9 fun v11 W12=>
 ∃i13:Int,
 v11 = .int .i64 i13∧
 I64 (i13-1)∧
 (i10≠i13-1→∀(W14:PW),Ext W12 W14→Post (.tuple ⟨[.agg ⟨[.slice none 0 0,.bool false,.int .i64 0]⟩,.bool false]⟩) W14)∧
 (¬i10≠i13-1→
 callN Tryz.prog W0 M 200 [.agg ⟨[a0_0.v,.bool a0_1,a0_2.v]⟩] W12 fun v15 W16=>
 ∃s17:Sl,
 ∃b18:Bool,
 v15 = .agg ⟨[s17.v,.bool b18]⟩∧
 callN Tryz.prog W0 M 198 [.agg ⟨[s7.v]⟩] W16 fun v19 W20=>
 ∃i21:Int,
 v19 = .int .i64 i21∧
 I64 (0-i21)∧
 callN Tryz.prog W0 M 199 [.agg ⟨[s17.v,.bool b18]⟩,.int .i64 (0-i21)] W20 fun v22 W23=>
 ∃s24:Sl,
 ∃b25:Bool,∃i26:Int,v22 = .agg ⟨[s24.v,.bool b25,.int .i64 i26]⟩∧∀(W27:PW),Ext W23 W27→Post (.tuple ⟨[.agg ⟨[s24.v,.bool b25,.int .i64 i26]⟩,.bool true]⟩) W27)
theorem calldyad_Of (W0:PW) (M:Nat→Prop) (a0_0:Sl) (a0_1:Bool) (a0_2:Sl) (Post:Value→PW→Prop) (h:Rdyad_Of W0 M a0_0 a0_1 a0_2 Post):PCallsM Tryz.prog 160 [.agg #[a0_0.v,.bool a0_1,a0_2.v]] W0 M Post:=
 fn_sound rfl tt_ok tt_in Tryz.func160 (cuts:=[]) rfl rfl (Nat.le_of_ble_eq_true rfl) (Eq.mpr (by kernel_rfl) h)
def Rbox_side (W0:PW) (M:Nat→Prop) (a0_0:ByteArray) (a0_1:ByteArray) (Post:Value→PW→Prop):Prop:=
 callN Tryz.prog W0 M 81 [.agg ⟨[.string a0_0,.string a0_1]⟩] W0 fun v1 W2=>
 ∃s3:Sl,
 ∃b4:Bool,
 ∃s5:Sl,
 ∃s6:Sl,
 ∃b7:Bool,
 ∃s8:Sl,
 ∃i9:Int,
 v1 = .tuple ⟨[.agg ⟨[s3.v,.bool b4,s5.v,s6.v,.bool b7,s8.v]⟩,.int .i64 i9]⟩∧
 callN Tryz.prog W0 M 160 [.agg ⟨[s3.v,.bool b4,s5.v]⟩] W2 fun v10 W11=>
 ∃s12:Sl,
 ∃b13:Bool,
 ∃i14:Int,
 ∃b15:Bool,
 v10 = .tuple ⟨[.agg ⟨[s12.v,.bool b13,.int .i64 i14]⟩,.bool b15]⟩∧
 callN Tryz.prog W0 M 160 [.agg ⟨[s6.v,.bool b7,s8.v]⟩] W11 fun v16 W17=>
 ∃s18:Sl,
 ∃b19:Bool,
 ∃i20:Int,
 ∃b21:Bool,
 v16 = .tuple ⟨[.agg ⟨[s18.v,.bool b19,.int .i64 i20]⟩,.bool b21]⟩∧
 (i9≠0→
 ∀(W22:PW),
 Ext W17 W22→
 Post (.tuple ⟨[.agg ⟨[.slice none 0 0,.bool false,.slice none 0 0,.slice none 0 0,.bool false,.slice none 0 0]⟩,.int .i64 i9]⟩) W22)∧
 (¬i9≠0→
 callN Tryz.prog W0 M 41 [.agg ⟨[s3.v,.bool b4,s5.v]⟩,.agg ⟨[s6.v,.bool b7,s8.v]⟩] W17 fun v23 W24=>
 ∃i25:Int,
 v23 = .int .i64 i25∧
 (0≤i25→
 ∀(W26:PW),
 Ext W24 W26→
 Post
 (.tuple
 ⟨[.agg ⟨[.slice none 0 0,.bool false,.slice none 0 0,.slice none 0 0,.bool false,.slice none 0 0]⟩,.int .i64 1]⟩)
 W26)∧
 (¬0≤i25→
 ((!b15)=true→
 ∀(W27:PW),
 Ext W24 W27→
 Post
 (.tuple
 ⟨[.agg ⟨[.slice none 0 0,.bool false,.slice none 0 0,.slice none 0 0,.bool false,.slice none 0 0]⟩,.int .i64 2]⟩)
 W27)∧
 ((!b15)=false→
 ((!b21)=true→
 ∀(W28:PW),
 Ext W24 W28→
 Post
 (.tuple
 ⟨[.agg ⟨[.slice none 0 0,.bool false,.slice none 0 0,.slice none 0 0,.bool false,.slice none 0 0]⟩,.int .i64 2]⟩)
 W28)∧
 ((!b21)=false→∀(W29:PW),Ext W24 W29→Post (.tuple ⟨[.agg ⟨[s3.v,.bool b4,s5.v,s6.v,.bool b7,s8.v]⟩,.int .i64 0]⟩) W29))))
theorem callbox_side (W0:PW) (M:Nat→Prop) (a0_0:ByteArray) (a0_1:ByteArray) (Post:Value→PW→Prop) (h:Rbox_side W0 M a0_0 a0_1 Post):PCallsM Tryz.prog 110 [.agg #[.string a0_0,.string a0_1]] W0 M Post:=
 fn_sound rfl tt_ok tt_in Tryz.func110 (cuts:=[]) rfl rfl (Nat.le_of_ble_eq_true rfl) (Eq.mpr (by kernel_rfl) h)
def Rbox_Parse (W0:PW) (M:Nat→Prop) (a0:Sl) (Post:Value→PW→Prop):Prop:=
 ((a0.2:Int)<1→∀(W1:PW),Ext W0 W1→Post (.tuple ⟨[.slice none 0 0,.int .i64 1]⟩) W1)∧
 (¬(a0.2:Int)<1→
 (3<(a0.2:Int)→∀(W2:PW),Ext W0 W2→Post (.tuple ⟨[.slice none 0 0,.int .i64 1]⟩) W2)∧
 (¬3<(a0.2:Int)→
 ∃(F3:List PL→PW→Prop),
 ∃(F4:List PL→PW→Nat),
 F3 [.row [],.val (.int .i64 0)] W0∧
 ∀(l5:List (List Value)) (i6:Int) (W7:PW),
 F3 [.row l5,.val (.int .i64 i6)] W7→
 (i6<(a0.2:Int)→
 inB a0 i6∧
 ∃t8:ByteArray,
 ∃t9:ByteArray,
 ElemAt W7 a0 2 (Int.toNat i6) 0 [.string t8,.string t9]∧
 callN Tryz.prog W0 M 110 [.agg ⟨[.string t8,.string t9]⟩] W7 fun v10 W11=>
 ∃s12:Sl,
 ∃b13:Bool,
 ∃s14:Sl,
 ∃s15:Sl,
 ∃b16:Bool,
 ∃s17:Sl,
 ∃i18:Int,
 v10 = .tuple ⟨[.agg ⟨[s12.v,.bool b13,s14.v,s15.v,.bool b16,s17.v]⟩,.int .i64 i18]⟩∧
 (i18≠0→∀(W19:PW),Ext W11 W19→Post (.tuple ⟨[.slice none 0 0,.int .i64 i18]⟩) W19)∧
 (¬i18≠0→
 (List.length l5+List.length [[s12.v,.bool b13,s14.v,s15.v,.bool b16,s17.v]])*112≤140737488355328∧
 I64 (i6+1)∧stp F3 F4 [.row (l5 ++ [[s12.v,.bool b13,s14.v,s15.v,.bool b16,s17.v]]),.val (.int .i64 (i6+1))] W11 [.row l5,.val (.int .i64 i6)] W7))∧
 (¬i6<(a0.2:Int)→∀(s20:Sl) (W21:PW),Ext W7 W21→SX.Own W21 79 6 s20 l5→Fr W0 W7 s20→∀(W22:PW),Ext W21 W22→Post (.tuple ⟨[s20.v,.int .i64 0]⟩) W22)))
theorem callbox_Parse (W0:PW) (M:Nat→Prop) (a0:Sl) (Post:Value→PW→Prop) (h:Rbox_Parse W0 M a0 Post):PCallsM Tryz.prog 53 [a0.v] W0 M Post:=
 fn_sound rfl tt_ok tt_in Tryz.func53 (cuts:=[]) rfl rfl (Nat.le_of_ble_eq_true rfl) (Eq.mpr (by kernel_rfl) h)
def Rref1_Bit (W0:PW) (M:Nat→Prop) (a0:Sl) (a1:Int) (Post:Value→PW→Prop):Prop:=
 (a1<(0:Int)→∀(W1:PW),Ext W0 W1→Post (Value.int IntKind.u32 (0:Int)) W1)∧
 (¬a1<(0:Int)→
 (32:Int)≠(0:Int)∧
 ((↑a0.2:Int)≤IntKind.wrap IntKind.i64 (Int.tdiv a1 (32:Int))→∀(W2:PW),Ext W0 W2→Post (Value.int IntKind.u32 (0:Int)) W2)∧
 (¬(↑a0.2:Int)≤IntKind.wrap IntKind.i64 (Int.tdiv a1 (32:Int))→
 (32:Int)≠(0:Int)∧
 inB a0 (IntKind.wrap IntKind.i64 (Int.tdiv a1 (32:Int)))∧
 ∃i3:Int,
 ElemAt W0 a0 (1:Nat) (Int.toNat (IntKind.wrap IntKind.i64 (Int.tdiv a1 (32:Int)))) (0:Nat) [Value.int IntKind.u32 i3]∧
 (32:Int)≠(0:Int)∧
 ((0:Int)≤IntKind.wrap IntKind.u64 (Int.tmod a1 (32:Int))∧IntKind.wrap IntKind.u64 (Int.tmod a1 (32:Int))≤(↑(IntKind.bits IntKind.u32):Int))∧
 ∀(W4:PW),Ext W0 W4→Post (Value.int IntKind.u32 (bits BinOp.and IntKind.u32 (ishr i3 (Int.toNat (IntKind.wrap IntKind.u64 (Int.tmod a1 (32:Int))))) (1:Int))) W4))
theorem callref1_Bit (W0:PW) (M:Nat→Prop) (a0:Sl) (a1:Int) (Post:Value→PW→Prop) (h:Rref1_Bit W0 M a0 a1 Post):PCallsM Tryz.prog 197 [a0.v,Value.int IntKind.i64 a1] W0 M Post:=
 fn_sound rfl tt_ok tt_in Tryz.func197 (cuts:=[]) rfl rfl (Nat.le_of_ble_eq_true rfl) (Eq.mpr (by kernel_rfl) h)
def Rref1_Zeros (W0:PW) (M:Nat→Prop) (a0:Sl) (Post:Value→PW→Prop):Prop:=
 ∃(F1:List PL→PW→Prop),
 ∃(F2:List PL→PW→Nat),
 F1 [.val (.int .i64 0)] W0∧
 ∀(i3:Int) (W4:PW),
 F1 [.val (.int .i64 i3)] W4→
 I64 (32*(a0.2:Int))∧
 (i3<32*(a0.2:Int)→
 callN Tryz.prog W0 M 197 [a0.v,.int .i64 i3] W4 fun v5 W6=>
 ∃i7:Int,v5 = .int .u32 i7∧(i7=0→I64 (i3+1)∧stp F1 F2 [.val (.int .i64 (i3+1))] W6 [.val (.int .i64 i3)] W4)∧(¬i7=0→∀(W8:PW),Ext W6 W8→Post (.int .i64 i3) W8))∧
 (¬i3<32*(a0.2:Int)→∀(W9:PW),Ext W4 W9→Post (.int .i64 i3) W9)
theorem callref1_Zeros (W0:PW) (M:Nat→Prop) (a0:Sl) (Post:Value→PW→Prop) (h:Rref1_Zeros W0 M a0 Post):PCallsM Tryz.prog 158 [a0.v] W0 M Post:=
 fn_sound rfl tt_ok tt_in Tryz.func158 (cuts:=[]) rfl rfl (Nat.le_of_ble_eq_true rfl) (Eq.mpr (by kernel_rfl) h)
def Rref1_Dyadic (W0:PW) (M:Nat→Prop) (a0_0:Bool) (a0_1:Sl) (a0_2:Sl) (Post:Value→PW→Prop):Prop:=
 callN Tryz.prog W0 M 157 [.agg ⟨[.bool a0_0,a0_1.v,a0_2.v]⟩] W0 fun v1 W2=>
 ∃s3:Sl,
 v1=s3.v∧
 callN Tryz.prog W0 M 158 [s3.v] W2 fun v4 W5=>
 ∃i6:Int,
 v4 = .int .i64 i6∧
 callN Tryz.prog W0 M 157 [.agg ⟨[.bool a0_0,a0_1.v,a0_2.v]⟩] W5 fun v7 W8=>
 ∃s9:Sl,v7=s9.v∧callN Tryz.prog W0 M 159 [s9.v] W8 fun v10 W11=>∃i12:Int,v10 = .int .i64 i12∧I64 (i12-1)∧∀(W13:PW),Ext W11 W13→Post (.bool (decide (i6=i12-1))) W13
theorem callref1_Dyadic (W0:PW) (M:Nat→Prop) (a0_0:Bool) (a0_1:Sl) (a0_2:Sl) (Post:Value→PW→Prop) (h:Rref1_Dyadic W0 M a0_0 a0_1 a0_2 Post):PCallsM Tryz.prog 109 [.agg #[.bool a0_0,a0_1.v,a0_2.v]] W0 M Post:=
 fn_sound rfl tt_ok tt_in Tryz.func109 (cuts:=[]) rfl rfl (Nat.le_of_ble_eq_true rfl) (Eq.mpr (by kernel_rfl) h)
def Rref1_BoxParse (W0:PW) (M:Nat→Prop) (a0:Sl) (Post:Value→PW→Prop):Prop:=
 ((a0.2:Int)<1→∀(W1:PW),Ext W0 W1→Post (.tuple ⟨[.slice none 0 0,.int .i64 1]⟩) W1)∧
 (¬(a0.2:Int)<1→
 (3<(a0.2:Int)→∀(W2:PW),Ext W0 W2→Post (.tuple ⟨[.slice none 0 0,.int .i64 1]⟩) W2)∧
 (¬3<(a0.2:Int)→
 ∃(F3:List PL→PW→Prop),
 ∃(F4:List PL→PW→Nat),
 F3 [.row [],.val (.int .i64 0)] W0∧
 ∀(l5:List (List Value)) (i6:Int) (W7:PW),
 F3 [.row l5,.val (.int .i64 i6)] W7→
 (i6<(a0.2:Int)→
 inB a0 i6∧
 ∃t8:ByteArray,
 ∃t9:ByteArray,
 ElemAt W7 a0 2 (Int.toNat i6) 0 [.string t8,.string t9]∧
 callN Tryz.prog W0 M 80 [.agg ⟨[.string t8,.string t9]⟩] W7 fun v10 W11=>
 ∃b12:Bool,
 ∃s13:Sl,
 ∃s14:Sl,
 ∃b15:Bool,
 ∃s16:Sl,
 ∃s17:Sl,
 ∃i18:Int,
 v10 = .tuple ⟨[.agg ⟨[.bool b12,s13.v,s14.v,.bool b15,s16.v,s17.v]⟩,.int .i64 i18]⟩∧
 (i18≠0→∀(W19:PW),Ext W11 W19→Post (.tuple ⟨[.slice none 0 0,.int .i64 i18]⟩) W19)∧
 (¬i18≠0→
 callN Tryz.prog W0 M 107 [.agg ⟨[.bool b12,s13.v,s14.v]⟩,.agg ⟨[.bool b15,s16.v,s17.v]⟩] W11 fun v20 W21=>
 ∃i22:Int,
 v20 = .int .i64 i22∧
 (0≤i22→∀(W23:PW),Ext W21 W23→Post (.tuple ⟨[.slice none 0 0,.int .i64 1]⟩) W23)∧
 (¬0≤i22→
 callN Tryz.prog W0 M 109 [.agg ⟨[.bool b12,s13.v,s14.v]⟩] W21 fun v24 W25=>
 ∃b26:Bool,
 v24 = .bool b26∧
 ((!b26)=true→∀(W27:PW),Ext W25 W27→Post (.tuple ⟨[.slice none 0 0,.int .i64 2]⟩) W27)∧
 ((!b26)=false→
 callN Tryz.prog W0 M 109 [.agg ⟨[.bool b15,s16.v,s17.v]⟩] W25 fun v28 W29=>
 ∃b30:Bool,
 v28 = .bool b30∧
 ((!b30)=true→∀(W31:PW),Ext W29 W31→Post (.tuple ⟨[.slice none 0 0,.int .i64 2]⟩) W31)∧
 ((!b30)=false→
 (List.length l5+List.length [[.bool b12,s13.v,s14.v,.bool b15,s16.v,s17.v]])*112≤140737488355328∧
 I64 (i6+1)∧stp F3 F4 [.row (l5 ++ [[.bool b12,s13.v,s14.v,.bool b15,s16.v,s17.v]]),.val (.int .i64 (i6+1))] W29 [.row l5,.val (.int .i64 i6)] W7)))))∧
 (¬i6<(a0.2:Int)→∀(s32:Sl) (W33:PW),Ext W7 W33→SX.Own W33 82 6 s32 l5→Fr W0 W7 s32→∀(W34:PW),Ext W33 W34→Post (.tuple ⟨[s32.v,.int .i64 0]⟩) W34)))
theorem callref1_BoxParse (W0:PW) (M:Nat→Prop) (a0:Sl) (Post:Value→PW→Prop) (h:Rref1_BoxParse W0 M a0 Post):PCallsM Tryz.prog 52 [a0.v] W0 M Post:=
 fn_sound rfl tt_ok tt_in Tryz.func52 (cuts:=[]) rfl rfl (Nat.le_of_ble_eq_true rfl) (Eq.mpr (by kernel_rfl) h)
def Rbook_Pairs (W0:PW) (M:Nat→Prop) (a0:Sl) (a1:Int) (Post:Value→PW→Prop):Prop:=
 (a1<(a0.2:Int)→∀(W1:PW),Ext W0 W1→Post (.bool false) W1)∧
 (¬a1<(a0.2:Int)→
 ∃(F2:List PL→PW→Prop),
 ∃(F3:List PL→PW→Nat),
 F2 [.val (.int .i64 0)] W0∧
 ∀(i4:Int) (W5:PW),
 F2 [.val (.int .i64 i4)] W5→
 (i4<(a0.2:Int)→
 inB a0 i4∧
 ∃t6:ByteArray,
 ElemAt W5 a0 2 (Int.toNat i4) 0 [.string t6]∧
 (30<(↑(ByteArray.size t6):Int)→∀(W7:PW),Ext W5 W7→Post (.bool false) W7)∧
 (¬30<(↑(ByteArray.size t6):Int)→
 inB a0 i4∧
 ∃t8:ByteArray,
 ElemAt W5 a0 2 (Int.toNat i4) 1 [.string t8]∧
 (30<(↑(ByteArray.size t8):Int)→∀(W9:PW),Ext W5 W9→Post (.bool false) W9)∧(¬30<(↑(ByteArray.size t8):Int)→I64 (i4+1)∧stp F2 F3 [.val (.int .i64 (i4+1))] W5 [.val (.int .i64 i4)] W5)))∧
 (¬i4<(a0.2:Int)→∀(W10:PW),Ext W5 W10→Post (.bool true) W10))
theorem callbook_Pairs (W0:PW) (M:Nat→Prop) (a0:Sl) (a1:Int) (Post:Value→PW→Prop) (h:Rbook_Pairs W0 M a0 a1 Post):PCallsM Tryz.prog 42 [a0.v,.int .i64 a1] W0 M Post:=
 fn_sound rfl tt_ok tt_in Tryz.func42 (cuts:=[]) rfl rfl (Nat.le_of_ble_eq_true rfl) (Eq.mpr (by kernel_rfl) h)
def Rlaw6_Of (W0:PW) (M:Nat→Prop) (a0:Sl) (Post:Value→PW→Prop):Prop:=
 callN Tryz.prog W0 M 42 [a0.v,.int .i64 4] W0 fun v1 W2=>
 ∃b3:Bool,
 v1 = .bool b3∧
 ((!b3)=true→∀(W4:PW),Ext W2 W4→Post (.tuple ⟨[.slice none 0 0,.slice none 0 0,.bool false]⟩) W4)∧
 ((!b3)=false→
 callN Tryz.prog W0 M 52 [a0.v] W2 fun v5 W6=>
 ∃s7:Sl,
 ∃i8:Int,
 v5 = .tuple ⟨[s7.v,.int .i64 i8]⟩∧
 (i8≠0→∀(W9:PW),Ext W6 W9→Post (.tuple ⟨[.slice none 0 0,.slice none 0 0,.bool false]⟩) W9)∧
 (¬i8≠0→
 callN Tryz.prog W0 M 53 [a0.v] W6 fun v10 W11=>
 ∃s12:Sl,∃i13:Int,v10 = .tuple ⟨[s12.v,.int .i64 i13]⟩∧∀(W14:PW),Ext W11 W14→Post (.tuple ⟨[s12.v,s7.v,.bool (decide ((s12.2:Int)=(s7.2:Int)))]⟩) W14))
theorem calllaw6_Of (W0:PW) (M:Nat→Prop) (a0:Sl) (Post:Value→PW→Prop) (h:Rlaw6_Of W0 M a0 Post):PCallsM Tryz.prog 11 [a0.v] W0 M Post:=
 fn_sound rfl tt_ok tt_in Tryz.func11 (cuts:=[]) rfl rfl (Nat.le_of_ble_eq_true rfl) (Eq.mpr (by kernel_rfl) h)
end Go.Proofs.YtnlmddaakeigdaaGreatDoor

set_option maxRecDepth 100000
set_option linter.unusedVariables false
namespace Go.Proofs.YtnlmddaakeigdaaGreatDoor
open Go Go.SX
def Rlaw13_gone (W0:PW) (M:Nat→Prop) (a0:Sl) (a1:Sl) (Post:Value→PW→Prop):Prop:=
 callN Tryz.prog W0 M 16 [a0.v,a1.v] W0 fun v1 W2=>
 ∃s3:Sl,
 ∃b4:Bool,
 v1 = .tuple ⟨[.agg ⟨[s3.v]⟩,.bool b4]⟩∧
 ((!b4)=true→callN Tryz.prog W0 M 59 [.agg ⟨[s3.v]⟩] W2 fun v5 W6=>∃s7:Sl,v5=s7.v∧∀(W8:PW),Ext W6 W8→Post (.bool (decide ((s7.2:Int)=0))) W8)∧
 ((!b4)=false→∀(W9:PW),Ext W2 W9→Post (.bool false) W9)
theorem calllaw13_gone (W0:PW) (M:Nat→Prop) (a0:Sl) (a1:Sl) (Post:Value→PW→Prop) (h:Rlaw13_gone W0 M a0 a1 Post):PCallsM Tryz.prog 14 [a0.v,a1.v] W0 M Post:=
 fn_sound rfl tt_ok tt_in Tryz.func14 (cuts:=[]) rfl rfl (Nat.le_of_ble_eq_true rfl) (Eq.mpr (by kernel_rfl) h)
def Rlaw13_GramParts (W0:PW) (M:Nat→Prop) (a0:Sl) (a1:Sl) (a2:Int) (Post:Value→PW→Prop):Prop:=
 callN Tryz.prog W0 M 11 [a1.v] W0 fun v1 W2=>
 ∃s3:Sl,
 ∃s4:Sl,
 ∃b5:Bool,
 v1 = .tuple ⟨[s3.v,s4.v,.bool b5]⟩∧
 ((!b5)=true→callN Tryz.prog W0 M 12 [] W2 fun v6 W7=>∃b8:Bool,v6 = .bool b8∧∀(W9:PW),Ext W7 W9→Post (.bool b8) W9)∧
 ((!b5)=false→
 callN Tryz.prog W0 M 12 [] W2 fun v10 W11=>
 ∃b12:Bool,
 v10 = .bool b12∧
 ((!b12)=true→callN Tryz.prog W0 M 12 [] W11 fun v13 W14=>∃b15:Bool,v13 = .bool b15∧∀(W16:PW),Ext W14 W16→Post (.bool b15) W16)∧
 ((!b12)=false→
 callN Tryz.prog W0 M 13 [a0.v,.int .i64 6] W11 fun v17 W18=>
 ∃s19:Sl,
 ∃s20:Sl,
 v17 = .tuple ⟨[s19.v,s20.v]⟩∧
 ∃(F21:List PL→PW→Prop),
 ∃(F22:List PL→PW→Nat),
 F21 [.val (.int .i64 0)] W18∧
 ∀(i23:Int) (W24:PW),
 F21 [.val (.int .i64 i23)] W24→
 (i23<(s20.2:Int)→
 inB s20 i23∧
 ∃i25:Int,
 ElemAt W24 s20 5 (Int.toNat i23) 3 [.int .i64 i25]∧
 (i25<0→callN Tryz.prog W0 M 14 [s19.v,s3.v] W24 fun v26 W27=>∃b28:Bool,v26 = .bool b28∧∀(W29:PW),Ext W27 W29→Post (.bool b28) W29)∧
 (¬i25<0→
 inB s20 i23∧
 ∃i30:Int,
 ElemAt W24 s20 5 (Int.toNat i23) 3 [.int .i64 i30]∧
 ((s3.2:Int)<i30→callN Tryz.prog W0 M 14 [s19.v,s3.v] W24 fun v31 W32=>∃b33:Bool,v31 = .bool b33∧∀(W34:PW),Ext W32 W34→Post (.bool b33) W34)∧
 (¬(s3.2:Int)<i30→I64 (i23+1)∧stp F21 F22 [.val (.int .i64 (i23+1))] W24 [.val (.int .i64 i23)] W24)))∧
 (¬i23<(s20.2:Int)→
 callN Tryz.prog W0 M 15 [.int .i64 a2,.int .i64 0,.int .i64 (s19.2:Int)] W24 fun v35 W36=>
 ∃i37:Int,
 v35 = .int .i64 i37∧
 callN Tryz.prog W0 M 16 [s19.v,s3.v] W36 fun v38 W39=>
 ∃s40:Sl,
 ∃b41:Bool,
 v38 = .tuple ⟨[.agg ⟨[s40.v]⟩,.bool b41]⟩∧
 ((0:Int)≤0∧0≤i37∧i37≤(s19.3:Int))∧
 callN Tryz.prog W0 M 16 [Sl.v (Sl.cut {A:=Sl.A s19,n:=Sl.n s19,c:=Sl.c s19 } (TyI.size ty58) (Int.toNat 0) (Int.toNat i37)),s3.v] W39 fun v42 W43=>
 ∃s44:Sl,
 ∃b45:Bool,
 v42 = .tuple ⟨[.agg ⟨[s44.v]⟩,.bool b45]⟩∧
 (0≤i37∧i37≤(s19.2:Int)∧(s19.2:Int)≤(s19.3:Int))∧
 callN Tryz.prog W0 M 16 [Sl.v (Sl.cut {A:=Sl.A s19,n:=Sl.n s19,c:=Sl.c s19 } (TyI.size ty58) (Int.toNat i37) (Int.toNat (↑(Sl.n s19):Int))),s3.v] W43 fun v46 W47=>
 ∃s48:Sl,
 ∃b49:Bool,
 v46 = .tuple ⟨[.agg ⟨[s48.v]⟩,.bool b49]⟩∧
 ∃(F50:List PL→PW→Prop),
 ∃(F51:List PL→PW→Nat),
 F50 [.row [],.val (.int .i64 0)] W47∧
 ∀(l52:List (List Value)) (i53:Int) (W54:PW),
 F50 [.row l52,.val (.int .i64 i53)] W54→
 (i53<(s19.2:Int)→
 inB s19 i53∧
 ∃s55:Sl,
 ∃b56:Bool,
 ∃s57:Sl,
 ∃i58:Int,
 ∃s59:Sl,
 ElemAt W54 s19 5 (Int.toNat i53) 0 [s55.v,.bool b56,s57.v,.int .i64 i58,s59.v]∧
 inB s19 i53∧
 ∃i60:Int,
 ElemAt W54 s19 5 (Int.toNat i53) 3 [.int .i64 i60]∧
 inB s19 i53∧
 ∃s61:Sl,
 ElemAt W54 s19 5 (Int.toNat i53) 4 [s61.v]∧
 Ext W54 W54∧
 (List.length l52 +
 List.length
 [[s55.v,.bool b56,s57.v,.int .i64 i58,s59.v],
 [.slice none 0 0,.bool false,.slice none 0 0,.int .i64 i60,s61.v]]) *
 88≤
 140737488355328∧
 Ext W54 W54∧
 I64 (i53+1)∧
 stp F50 F51
 [.row
 (l52 ++
 [[s55.v,.bool b56,s57.v,.int .i64 i58,s59.v],
 [.slice none 0 0,.bool false,.slice none 0 0,.int .i64 i60,s61.v]]),
 .val (.int .i64 (i53+1))]
 W54 [.row l52,.val (.int .i64 i53)] W54)∧
 (¬i53<(s19.2:Int)→
 ∀(s62:Sl) (W63:PW),
 Ext W54 W63→
 SX.Own W63 58 5 s62 l52→
 Fr W0 W54 s62→
 callN Tryz.prog W0 M 16 [s62.v,s3.v] W63 fun v64 W65=>
 ∃s66:Sl,
 ∃b67:Bool,
 v64 = .tuple ⟨[.agg ⟨[s66.v]⟩,.bool b67]⟩∧
 (b41=true→
 (b45=true→
 (b49=true→
 (b67=true→
 callN Tryz.prog W0 M 18 [.agg ⟨[s44.v]⟩,.agg ⟨[s48.v]⟩] W65 fun v68 W69=>
 ∃s70:Sl,
 v68 = .agg ⟨[s70.v]⟩∧
 callN Tryz.prog W0 M 17 [.agg ⟨[s40.v]⟩,.agg ⟨[s70.v]⟩] W69 fun v71 W72=>
 ∃b73:Bool,
 v71 = .bool b73∧
 (b73=true→
 callN Tryz.prog W0 M 17 [.agg ⟨[s66.v]⟩,.agg ⟨[s40.v]⟩] W72 fun v74 W75=>
 ∃b76:Bool,v74 = .bool b76∧∀(W77:PW),Ext W75 W77→Post (.bool b76) W77)∧
 (b73=false→∀(W78:PW),Ext W72 W78→Post (.bool false) W78))∧
 (b67=false→∀(W79:PW),Ext W65 W79→Post (.bool false) W79))∧
 (b49=false→∀(W80:PW),Ext W65 W80→Post (.bool false) W80))∧
 (b45=false→∀(W81:PW),Ext W65 W81→Post (.bool false) W81))∧
 (b41=false→∀(W82:PW),Ext W65 W82→Post (.bool false) W82)))))
theorem calllaw13_GramParts (W0:PW) (M:Nat→Prop) (a0:Sl) (a1:Sl) (a2:Int) (Post:Value→PW→Prop) (h:Rlaw13_GramParts W0 M a0 a1 a2 Post):PCallsM Tryz.prog 3 [a0.v,a1.v,.int .i64 a2] W0 M Post:=
 fn_sound rfl tt_ok tt_in Tryz.func3 (cuts:=[]) rfl rfl (Nat.le_of_ble_eq_true rfl) (Eq.mpr (by kernel_rfl) h)
end Go.Proofs.YtnlmddaakeigdaaGreatDoor
