/- R12 -/
import Derived.Test.YtahohahjnhfedaaGreatDoorTt
set_option linter.unusedVariables false
set_option linter.unusedSimpArgs false
set_option maxRecDepth 100000
namespace Go.Proofs.YtahohahjnhfedaaGreatDoor
open Go Go.SX
def Dy7 (W0:PW) (M:Nat→Prop) (a0:Sl) (Post:Value→PW→Prop):Prop:=
 ∃(F1:List PL→PW→Prop),
 ∃(F2:List PL→PW→Nat),
 F1 [.val (.int .i64 0)] W0∧
 ∀(i3:Int) (W4:PW),
 F1 [.val (.int .i64 i3)] W4→
 (i3<(a0.2:Int)→
 inB a0 i3∧
 ∃s5:Sl,
 ∃b6:Bool,
 ∃s7:Sl,
 ∃s8:Sl,
 ∃b9:Bool,
 ∃s10:Sl,
 Aa7 W4 a0 6 (Int.toNat i3) 0 [s5.v,.bool b6,s7.v,s8.v,.bool b9,s10.v]∧
 Aa1 Tryz.prog W0 M 14 [.agg ⟨[s5.v,.bool b6,s7.v]⟩,.agg ⟨[s8.v,.bool b9,s10.v]⟩] W4 fun v11 W12=>
 ∃i13:Int,v11 = .int .i64 i13∧(0≤i13→∀(W14:PW),Ext W12 W14→Post (.bool false) W14)∧(¬0≤i13→I64 (i3+1)∧stp F1 F2 [.val (.int .i64 (i3+1))] W12 [.val (.int .i64 i3)] W4))∧
 (¬i3<(a0.2:Int)→(1≤(a0.2:Int)→∀(W15:PW),Ext W4 W15→Post (.bool (decide ((a0.2:Int)≤3))) W15)∧(¬1≤(a0.2:Int)→∀(W16:PW),Ext W4 W16→Post (.bool false) W16))
theorem Ck4 (W0:PW) (M:Nat→Prop) (a0:Sl) (Post:Value→PW→Prop) (h:Dy7 W0 M a0 Post):Aa0 Tryz.prog 79 [a0.v] W0 M Post:=
 Aa3 rfl Aa9 Aa8 Tryz.func79 (cuts:=[]) rfl rfl (Nat.le_of_ble_eq_true rfl) (Eq.mpr (by kernel_rfl) h)
def Cb3 (W0:PW) (M:Nat→Prop) (a0_0:Sl) (Post:Value→PW→Prop):Prop:=
 ∃(F1:List PL→PW→Prop),
 ∃(F2:List PL→PW→Nat),
 F1 [.val (.int .i64 0)] W0∧
 ∀(i3:Int) (W4:PW),
 F1 [.val (.int .i64 i3)] W4→
 (i3<(a0_0.2:Int)→
 inB a0_0 i3∧
 ∃i5:Int,
 Aa7 W4 a0_0 1 (Int.toNat i3) 0 [.int .u32 i5]∧
 (i5≠0→I64 (32*i3)∧Aa1 Tryz.prog W0 M 152 [.int .u32 i5] W4 fun v6 W7=>∃i8:Int,v6 = .int .i64 i8∧I64 (32*i3+i8)∧∀(W9:PW),Ext W7 W9→Post (.int .i64 (32*i3+i8)) W9)∧
 (¬i5≠0→I64 (i3+1)∧stp F1 F2 [.val (.int .i64 (i3+1))] W4 [.val (.int .i64 i3)] W4))∧
 (¬i3<(a0_0.2:Int)→∀(W10:PW),Ext W4 W10→Post (.int .i64 0) W10)
theorem Bi6 (W0:PW) (M:Nat→Prop) (a0_0:Sl) (Post:Value→PW→Prop) (h:Cb3 W0 M a0_0 Post):Aa0 Tryz.prog 126 [.agg #[a0_0.v]] W0 M Post:=
 Aa3 rfl Aa9 Aa8 Tryz.func126 (cuts:=[]) rfl rfl (Nat.le_of_ble_eq_true rfl) (Eq.mpr (by kernel_rfl) h)
def Cq9 (W0:PW) (M:Nat→Prop) (a0_0:Sl) (a0_1:Bool) (a0_2:Sl) (Post:Value→PW→Prop):Prop:=
 ∀(W1:PW),Ext W0 W1→Post (.agg ⟨[a0_0.v,.bool a0_1]⟩) W1
theorem Bs9 (W0:PW) (M:Nat→Prop) (a0_0:Sl) (a0_1:Bool) (a0_2:Sl) (Post:Value→PW→Prop) (h:Cq9 W0 M a0_0 a0_1 a0_2 Post):Aa0 Tryz.prog 128 [.agg #[a0_0.v,.bool a0_1,a0_2.v]] W0 M Post:=
 Aa3 rfl Aa9 Aa8 Tryz.func128 (cuts:=[]) rfl rfl (Nat.le_of_ble_eq_true rfl) (Eq.mpr (by kernel_rfl) h)
def Ej9 (W0:PW) (M:Nat→Prop) (a0_0:Sl) (a0_1:Bool) (a1:Int) (Post:Value→PW→Prop):Prop:=
 Aa1 Tryz.prog W0 M 29 [.agg ⟨[a0_0.v,.bool a0_1]⟩] W0 fun v1 W2=>
 ∃i3:Int,
 v1 = .int .i64 i3∧
 (i3=0→∀(W4:PW),Ext W2 W4→Post (.agg ⟨[.slice none 0 0,.bool false,.int .i64 0]⟩) W4)∧
 (¬i3=0→
 Aa1 Tryz.prog W0 M 61 [.agg ⟨[a0_0.v,.bool a0_1]⟩] W2 fun v5 W6=>
 ∃s7:Sl,
 v5 = .agg ⟨[s7.v]⟩∧
 Aa1 Tryz.prog W0 M 126 [.agg ⟨[s7.v]⟩] W6 fun v8 W9=>
 ∃i10:Int,
 v8 = .int .i64 i10∧
 I64 (a1+i10)∧
 Aa1 Tryz.prog W0 M 29 [.agg ⟨[a0_0.v,.bool a0_1]⟩] W9 fun v11 W12=>
 ∃i13:Int,
 v11 = .int .i64 i13∧
 Aa1 Tryz.prog W0 M 61 [.agg ⟨[a0_0.v,.bool a0_1]⟩] W12 fun v14 W15=>
 ∃s16:Sl,
 v14 = .agg ⟨[s16.v]⟩∧
 Aa1 Tryz.prog W0 M 117 [.agg ⟨[s16.v]⟩,.int .i64 i10] W15 fun v17 W18=>
 ∃s19:Sl,
 v17 = .agg ⟨[s19.v]⟩∧
 Aa1 Tryz.prog W0 M 73 [.bool (decide (i13<0)),.agg ⟨[s19.v]⟩] W18 fun v20 W21=>
 ∃s22:Sl,∃b23:Bool,v20 = .agg ⟨[s22.v,.bool b23]⟩∧∀(W24:PW),Ext W21 W24→Post (.agg ⟨[s22.v,.bool b23,.int .i64 (a1+i10)]⟩) W24)
theorem Da4 (W0:PW) (M:Nat→Prop) (a0_0:Sl) (a0_1:Bool) (a1:Int) (Post:Value→PW→Prop) (h:Ej9 W0 M a0_0 a0_1 a1 Post):Aa0 Tryz.prog 127 [.agg #[a0_0.v,.bool a0_1],.int .i64 a1] W0 M Post:=
 Aa3 rfl Aa9 Aa8 Tryz.func127 (cuts:=[]) rfl rfl (Nat.le_of_ble_eq_true rfl) (Eq.mpr (by kernel_rfl) h)
def Fc2 (W0:PW) (M:Nat→Prop) (a0_0:Sl) (a0_1:Bool) (a0_2:Sl) (Post:Value→PW→Prop):Prop:=
 Aa1 Tryz.prog W0 M 76 [.agg ⟨[a0_0.v,.bool a0_1,a0_2.v]⟩] W0 fun v1 W2=>
 ∃s3:Sl,
 ∃b4:Bool,
 v1 = .agg ⟨[s3.v,.bool b4]⟩∧
 Aa1 Tryz.prog W0 M 61 [.agg ⟨[s3.v,.bool b4]⟩] W2 fun v5 W6=>
 ∃s7:Sl,
 v5 = .agg ⟨[s7.v]⟩∧
 Aa1 Tryz.prog W0 M 126 [.agg ⟨[s7.v]⟩] W6 fun v8 W9=>
 ∃i10:Int,
 v8 = .int .i64 i10∧
 Aa1 Tryz.prog W0 M 59 [.agg ⟨[s7.v]⟩] W9 fun v11 W12=>
 ∃i13:Int,
 v11 = .int .i64 i13∧
 I64 (i13-1)∧
 (i10≠i13-1→∀(W14:PW),Ext W12 W14→Post (.tuple ⟨[.agg ⟨[.slice none 0 0,.bool false,.int .i64 0]⟩,.bool false]⟩) W14)∧
 (¬i10≠i13-1→
 Aa1 Tryz.prog W0 M 128 [.agg ⟨[a0_0.v,.bool a0_1,a0_2.v]⟩] W12 fun v15 W16=>
 ∃s17:Sl,
 ∃b18:Bool,
 v15 = .agg ⟨[s17.v,.bool b18]⟩∧
 Aa1 Tryz.prog W0 M 126 [.agg ⟨[s7.v]⟩] W16 fun v19 W20=>
 ∃i21:Int,
 v19 = .int .i64 i21∧
 I64 (0-i21)∧
 Aa1 Tryz.prog W0 M 127 [.agg ⟨[s17.v,.bool b18]⟩,.int .i64 (0-i21)] W20 fun v22 W23=>
 ∃s24:Sl,
 ∃b25:Bool,∃i26:Int,v22 = .agg ⟨[s24.v,.bool b25,.int .i64 i26]⟩∧∀(W27:PW),Ext W23 W27→Post (.tuple ⟨[.agg ⟨[s24.v,.bool b25,.int .i64 i26]⟩,.bool true]⟩) W27)
theorem Dg7 (W0:PW) (M:Nat→Prop) (a0_0:Sl) (a0_1:Bool) (a0_2:Sl) (Post:Value→PW→Prop) (h:Fc2 W0 M a0_0 a0_1 a0_2 Post):Aa0 Tryz.prog 93 [.agg #[a0_0.v,.bool a0_1,a0_2.v]] W0 M Post:=
 Aa3 rfl Aa9 Aa8 Tryz.func93 (cuts:=[]) rfl rfl (Nat.le_of_ble_eq_true rfl) (Eq.mpr (by kernel_rfl) h)
def Es0 (W0:PW) (M:Nat→Prop) (a0_0:ByteArray) (a0_1:ByteArray) (Post:Value→PW→Prop):Prop:=
 Aa1 Tryz.prog W0 M 92 [.agg ⟨[.string a0_0,.string a0_1]⟩] W0 fun v1 W2=>
 ∃s3:Sl,
 ∃b4:Bool,
 ∃s5:Sl,
 ∃s6:Sl,
 ∃b7:Bool,
 ∃s8:Sl,
 ∃i9:Int,
 v1 = .tuple ⟨[.agg ⟨[s3.v,.bool b4,s5.v,s6.v,.bool b7,s8.v]⟩,.int .i64 i9]⟩∧
 Aa1 Tryz.prog W0 M 93 [.agg ⟨[s3.v,.bool b4,s5.v]⟩] W2 fun v10 W11=>
 ∃s12:Sl,
 ∃b13:Bool,
 ∃i14:Int,
 ∃b15:Bool,
 v10 = .tuple ⟨[.agg ⟨[s12.v,.bool b13,.int .i64 i14]⟩,.bool b15]⟩∧
 Aa1 Tryz.prog W0 M 93 [.agg ⟨[s6.v,.bool b7,s8.v]⟩] W11 fun v16 W17=>
 ∃s18:Sl,
 ∃b19:Bool,
 ∃i20:Int,
 ∃b21:Bool,
 v16 = .tuple ⟨[.agg ⟨[s18.v,.bool b19,.int .i64 i20]⟩,.bool b21]⟩∧
 (i9≠0→
 ∀(W22:PW),
 Ext W17 W22→
 Post (.tuple ⟨[.agg ⟨[.slice none 0 0,.bool false,.slice none 0 0,.slice none 0 0,.bool false,.slice none 0 0]⟩,.int .i64 i9]⟩) W22)∧
 (¬i9≠0→
 Aa1 Tryz.prog W0 M 14 [.agg ⟨[s3.v,.bool b4,s5.v]⟩,.agg ⟨[s6.v,.bool b7,s8.v]⟩] W17 fun v23 W24=>
 ∃i25:Int,
 v23 = .int .i64 i25∧
 (0≤i25→
 ∀(W26:PW),
 Ext W24 W26→
 Post
 (.tuple
 ⟨[.agg ⟨[.slice none 0 0,.bool false,.slice none 0 0,.slice none 0 0,.bool false,.slice none 0 0]⟩,.int .i64 1]⟩)
 W26)∧
 (¬0≤i25→
 ((!b15)=true→
 ∀(W27:PW),
 Ext W24 W27→
 Post
 (.tuple
 ⟨[.agg ⟨[.slice none 0 0,.bool false,.slice none 0 0,.slice none 0 0,.bool false,.slice none 0 0]⟩,.int .i64 2]⟩)
 W27)∧
 ((!b15)=false→
 ((!b21)=true→
 ∀(W28:PW),
 Ext W24 W28→
 Post
 (.tuple
 ⟨[.agg ⟨[.slice none 0 0,.bool false,.slice none 0 0,.slice none 0 0,.bool false,.slice none 0 0]⟩,.int .i64 2]⟩)
 W28)∧
 ((!b21)=false→∀(W29:PW),Ext W24 W29→Post (.tuple ⟨[.agg ⟨[s3.v,.bool b4,s5.v,s6.v,.bool b7,s8.v]⟩,.int .i64 0]⟩) W29))))
theorem Cq0 (W0:PW) (M:Nat→Prop) (a0_0:ByteArray) (a0_1:ByteArray) (Post:Value→PW→Prop) (h:Es0 W0 M a0_0 a0_1 Post):Aa0 Tryz.prog 50 [.agg #[.string a0_0,.string a0_1]] W0 M Post:=
 Aa3 rfl Aa9 Aa8 Tryz.func50 (cuts:=[]) rfl rfl (Nat.le_of_ble_eq_true rfl) (Eq.mpr (by kernel_rfl) h)
def Dz1 (W0:PW) (M:Nat→Prop) (a0:Sl) (Post:Value→PW→Prop):Prop:=
 ((a0.2:Int)<1→∀(W1:PW),Ext W0 W1→Post (.tuple ⟨[.slice none 0 0,.int .i64 1]⟩) W1)∧
 (¬(a0.2:Int)<1→
 (3<(a0.2:Int)→∀(W2:PW),Ext W0 W2→Post (.tuple ⟨[.slice none 0 0,.int .i64 1]⟩) W2)∧
 (¬3<(a0.2:Int)→
 ∃(F3:List PL→PW→Prop),
 ∃(F4:List PL→PW→Nat),
 F3 [.row [],.val (.int .i64 0)] W0∧
 ∀(l5:List (List Value)) (i6:Int) (W7:PW),
 F3 [.row l5,.val (.int .i64 i6)] W7→
 (i6<(a0.2:Int)→
 inB a0 i6∧
 ∃t8:ByteArray,
 ∃t9:ByteArray,
 Aa7 W7 a0 2 (Int.toNat i6) 0 [.string t8,.string t9]∧
 Aa1 Tryz.prog W0 M 50 [.agg ⟨[.string t8,.string t9]⟩] W7 fun v10 W11=>
 ∃s12:Sl,
 ∃b13:Bool,
 ∃s14:Sl,
 ∃s15:Sl,
 ∃b16:Bool,
 ∃s17:Sl,
 ∃i18:Int,
 v10 = .tuple ⟨[.agg ⟨[s12.v,.bool b13,s14.v,s15.v,.bool b16,s17.v]⟩,.int .i64 i18]⟩∧
 (i18≠0→∀(W19:PW),Ext W11 W19→Post (.tuple ⟨[.slice none 0 0,.int .i64 i18]⟩) W19)∧
 (¬i18≠0→
 (List.length l5+List.length [[s12.v,.bool b13,s14.v,s15.v,.bool b16,s17.v]])*112≤140737488355328∧
 I64 (i6+1)∧stp F3 F4 [.row (l5 ++ [[s12.v,.bool b13,s14.v,s15.v,.bool b16,s17.v]]),.val (.int .i64 (i6+1))] W11 [.row l5,.val (.int .i64 i6)] W7))∧
 (¬i6<(a0.2:Int)→∀(s20:Sl) (W21:PW),Ext W7 W21→SX.Own W21 50 6 s20 l5→Fr W0 W7 s20→∀(W22:PW),Ext W21 W22→Post (.tuple ⟨[s20.v,.int .i64 0]⟩) W22)))
theorem Ci3 (W0:PW) (M:Nat→Prop) (a0:Sl) (Post:Value→PW→Prop) (h:Dz1 W0 M a0 Post):Aa0 Tryz.prog 18 [a0.v] W0 M Post:=
 Aa3 rfl Aa9 Aa8 Tryz.func18 (cuts:=[]) rfl rfl (Nat.le_of_ble_eq_true rfl) (Eq.mpr (by kernel_rfl) h)
def Ga7 (W0:PW) (M:Nat→Prop) (a0:Sl) (a1:Int) (Post:Value→PW→Prop):Prop:=
 (a1<(0:Int)→∀(W1:PW),Ext W0 W1→Post (Value.int IntKind.u32 (0:Int)) W1)∧
 (¬a1<(0:Int)→
 (32:Int)≠(0:Int)∧
 ((↑a0.2:Int)≤IntKind.wrap IntKind.i64 (Int.tdiv a1 (32:Int))→∀(W2:PW),Ext W0 W2→Post (Value.int IntKind.u32 (0:Int)) W2)∧
 (¬(↑a0.2:Int)≤IntKind.wrap IntKind.i64 (Int.tdiv a1 (32:Int))→
 (32:Int)≠(0:Int)∧
 inB a0 (IntKind.wrap IntKind.i64 (Int.tdiv a1 (32:Int)))∧
 ∃i3:Int,
 Aa7 W0 a0 (1:Nat) (Int.toNat (IntKind.wrap IntKind.i64 (Int.tdiv a1 (32:Int)))) (0:Nat) [Value.int IntKind.u32 i3]∧
 (32:Int)≠(0:Int)∧
 ((0:Int)≤IntKind.wrap IntKind.u64 (Int.tmod a1 (32:Int))∧IntKind.wrap IntKind.u64 (Int.tmod a1 (32:Int))≤(↑(IntKind.bits IntKind.u32):Int))∧
 ∀(W4:PW),Ext W0 W4→Post (Value.int IntKind.u32 (bits BinOp.and IntKind.u32 (Ah0 i3 (Int.toNat (IntKind.wrap IntKind.u64 (Int.tmod a1 (32:Int))))) (1:Int))) W4))
theorem Ga8 (W0:PW) (M:Nat→Prop) (a0:Sl) (a1:Int) (Post:Value→PW→Prop) (h:Ga7 W0 M a0 a1 Post):Aa0 Tryz.prog 124 [a0.v,Value.int IntKind.i64 a1] W0 M Post:=
 Aa3 rfl Aa9 Aa8 Tryz.func124 (cuts:=[]) rfl rfl (Nat.le_of_ble_eq_true rfl) (Eq.mpr (by kernel_rfl) h)
def Gb8 (W0:PW) (M:Nat→Prop) (a0:Sl) (Post:Value→PW→Prop):Prop:=
 ∃(F1:List PL→PW→Prop),
 ∃(F2:List PL→PW→Nat),
 F1 [.val (.int .i64 0)] W0∧
 ∀(i3:Int) (W4:PW),
 F1 [.val (.int .i64 i3)] W4→
 I64 (32*(a0.2:Int))∧
 (i3<32*(a0.2:Int)→
 Aa1 Tryz.prog W0 M 124 [a0.v,.int .i64 i3] W4 fun v5 W6=>
 ∃i7:Int,v5 = .int .u32 i7∧(i7=0→I64 (i3+1)∧stp F1 F2 [.val (.int .i64 (i3+1))] W6 [.val (.int .i64 i3)] W4)∧(¬i7=0→∀(W8:PW),Ext W6 W8→Post (.int .i64 i3) W8))∧
 (¬i3<32*(a0.2:Int)→∀(W9:PW),Ext W4 W9→Post (.int .i64 i3) W9)
theorem Fy7 (W0:PW) (M:Nat→Prop) (a0:Sl) (Post:Value→PW→Prop) (h:Gb8 W0 M a0 Post):Aa0 Tryz.prog 90 [a0.v] W0 M Post:=
 Aa3 rfl Aa9 Aa8 Tryz.func90 (cuts:=[]) rfl rfl (Nat.le_of_ble_eq_true rfl) (Eq.mpr (by kernel_rfl) h)
def Fz8 (W0:PW) (M:Nat→Prop) (a0_0:Bool) (a0_1:Sl) (a0_2:Sl) (Post:Value→PW→Prop):Prop:=
 Aa1 Tryz.prog W0 M 89 [.agg ⟨[.bool a0_0,a0_1.v,a0_2.v]⟩] W0 fun v1 W2=>
 ∃s3:Sl,
 v1=s3.v∧
 Aa1 Tryz.prog W0 M 90 [s3.v] W2 fun v4 W5=>
 ∃i6:Int,
 v4 = .int .i64 i6∧
 Aa1 Tryz.prog W0 M 89 [.agg ⟨[.bool a0_0,a0_1.v,a0_2.v]⟩] W5 fun v7 W8=>
 ∃s9:Sl,v7=s9.v∧Aa1 Tryz.prog W0 M 91 [s9.v] W8 fun v10 W11=>∃i12:Int,v10 = .int .i64 i12∧I64 (i12-1)∧∀(W13:PW),Ext W11 W13→Post (.bool (decide (i6=i12-1))) W13
theorem Fy0 (W0:PW) (M:Nat→Prop) (a0_0:Bool) (a0_1:Sl) (a0_2:Sl) (Post:Value→PW→Prop) (h:Fz8 W0 M a0_0 a0_1 a0_2 Post):Aa0 Tryz.prog 49 [.agg #[.bool a0_0,a0_1.v,a0_2.v]] W0 M Post:=
 Aa3 rfl Aa9 Aa8 Tryz.func49 (cuts:=[]) rfl rfl (Nat.le_of_ble_eq_true rfl) (Eq.mpr (by kernel_rfl) h)
def Fy5 (W0:PW) (M:Nat→Prop) (a0:Sl) (Post:Value→PW→Prop):Prop:=
 ((a0.2:Int)<1→∀(W1:PW),Ext W0 W1→Post (.tuple ⟨[.slice none 0 0,.int .i64 1]⟩) W1)∧
 (¬(a0.2:Int)<1→
 (3<(a0.2:Int)→∀(W2:PW),Ext W0 W2→Post (.tuple ⟨[.slice none 0 0,.int .i64 1]⟩) W2)∧
 (¬3<(a0.2:Int)→
 ∃(F3:List PL→PW→Prop),
 ∃(F4:List PL→PW→Nat),
 F3 [.row [],.val (.int .i64 0)] W0∧
 ∀(l5:List (List Value)) (i6:Int) (W7:PW),
 F3 [.row l5,.val (.int .i64 i6)] W7→
 (i6<(a0.2:Int)→
 inB a0 i6∧
 ∃t8:ByteArray,
 ∃t9:ByteArray,
 Aa7 W7 a0 2 (Int.toNat i6) 0 [.string t8,.string t9]∧
 Aa1 Tryz.prog W0 M 47 [.agg ⟨[.string t8,.string t9]⟩] W7 fun v10 W11=>
 ∃b12:Bool,
 ∃s13:Sl,
 ∃s14:Sl,
 ∃b15:Bool,
 ∃s16:Sl,
 ∃s17:Sl,
 ∃i18:Int,
 v10 = .tuple ⟨[.agg ⟨[.bool b12,s13.v,s14.v,.bool b15,s16.v,s17.v]⟩,.int .i64 i18]⟩∧
 (i18≠0→∀(W19:PW),Ext W11 W19→Post (.tuple ⟨[.slice none 0 0,.int .i64 i18]⟩) W19)∧
 (¬i18≠0→
 Aa1 Tryz.prog W0 M 48 [.agg ⟨[.bool b12,s13.v,s14.v]⟩,.agg ⟨[.bool b15,s16.v,s17.v]⟩] W11 fun v20 W21=>
 ∃i22:Int,
 v20 = .int .i64 i22∧
 (0≤i22→∀(W23:PW),Ext W21 W23→Post (.tuple ⟨[.slice none 0 0,.int .i64 1]⟩) W23)∧
 (¬0≤i22→
 Aa1 Tryz.prog W0 M 49 [.agg ⟨[.bool b12,s13.v,s14.v]⟩] W21 fun v24 W25=>
 ∃b26:Bool,
 v24 = .bool b26∧
 ((!b26)=true→∀(W27:PW),Ext W25 W27→Post (.tuple ⟨[.slice none 0 0,.int .i64 2]⟩) W27)∧
 ((!b26)=false→
 Aa1 Tryz.prog W0 M 49 [.agg ⟨[.bool b15,s16.v,s17.v]⟩] W25 fun v28 W29=>
 ∃b30:Bool,
 v28 = .bool b30∧
 ((!b30)=true→∀(W31:PW),Ext W29 W31→Post (.tuple ⟨[.slice none 0 0,.int .i64 2]⟩) W31)∧
 ((!b30)=false→
 (List.length l5+List.length [[.bool b12,s13.v,s14.v,.bool b15,s16.v,s17.v]])*112≤140737488355328∧
 I64 (i6+1)∧stp F3 F4 [.row (l5 ++ [[.bool b12,s13.v,s14.v,.bool b15,s16.v,s17.v]]),.val (.int .i64 (i6+1))] W29 [.row l5,.val (.int .i64 i6)] W7)))))∧
 (¬i6<(a0.2:Int)→∀(s32:Sl) (W33:PW),Ext W7 W33→SX.Own W33 100 6 s32 l5→Fr W0 W7 s32→∀(W34:PW),Ext W33 W34→Post (.tuple ⟨[s32.v,.int .i64 0]⟩) W34)))
theorem Fx6 (W0:PW) (M:Nat→Prop) (a0:Sl) (Post:Value→PW→Prop) (h:Fy5 W0 M a0 Post):Aa0 Tryz.prog 17 [a0.v] W0 M Post:=
 Aa3 rfl Aa9 Aa8 Tryz.func17 (cuts:=[]) rfl rfl (Nat.le_of_ble_eq_true rfl) (Eq.mpr (by kernel_rfl) h)
def Gb7 (W0:PW) (M:Nat→Prop) (a0:Sl) (a1:Int) (Post:Value→PW→Prop):Prop:=
 (a1<(a0.2:Int)→∀(W1:PW),Ext W0 W1→Post (.bool false) W1)∧
 (¬a1<(a0.2:Int)→
 ∃(F2:List PL→PW→Prop),
 ∃(F3:List PL→PW→Nat),
 F2 [.val (.int .i64 0)] W0∧
 ∀(i4:Int) (W5:PW),
 F2 [.val (.int .i64 i4)] W5→
 (i4<(a0.2:Int)→
 inB a0 i4∧
 ∃t6:ByteArray,
 Aa7 W5 a0 2 (Int.toNat i4) 0 [.string t6]∧
 (30<(↑(ByteArray.size t6):Int)→∀(W7:PW),Ext W5 W7→Post (.bool false) W7)∧
 (¬30<(↑(ByteArray.size t6):Int)→
 inB a0 i4∧
 ∃t8:ByteArray,
 Aa7 W5 a0 2 (Int.toNat i4) 1 [.string t8]∧
 (30<(↑(ByteArray.size t8):Int)→∀(W9:PW),Ext W5 W9→Post (.bool false) W9)∧(¬30<(↑(ByteArray.size t8):Int)→I64 (i4+1)∧stp F2 F3 [.val (.int .i64 (i4+1))] W5 [.val (.int .i64 i4)] W5)))∧
 (¬i4<(a0.2:Int)→∀(W10:PW),Ext W5 W10→Post (.bool true) W10))
theorem Fy6 (W0:PW) (M:Nat→Prop) (a0:Sl) (a1:Int) (Post:Value→PW→Prop) (h:Gb7 W0 M a0 a1 Post):Aa0 Tryz.prog 16 [a0.v,.int .i64 a1] W0 M Post:=
 Aa3 rfl Aa9 Aa8 Tryz.func16 (cuts:=[]) rfl rfl (Nat.le_of_ble_eq_true rfl) (Eq.mpr (by kernel_rfl) h)
def Gd7 (W0:PW) (M:Nat→Prop) (a0:Sl) (Post:Value→PW→Prop):Prop:=
 Aa1 Tryz.prog W0 M 16 [a0.v,.int .i64 4] W0 fun v1 W2=>
 ∃b3:Bool,
 v1 = .bool b3∧
 ((!b3)=true→∀(W4:PW),Ext W2 W4→Post (.tuple ⟨[.slice none 0 0,.slice none 0 0,.bool false]⟩) W4)∧
 ((!b3)=false→
 Aa1 Tryz.prog W0 M 17 [a0.v] W2 fun v5 W6=>
 ∃s7:Sl,
 ∃i8:Int,
 v5 = .tuple ⟨[s7.v,.int .i64 i8]⟩∧
 (i8≠0→∀(W9:PW),Ext W6 W9→Post (.tuple ⟨[.slice none 0 0,.slice none 0 0,.bool false]⟩) W9)∧
 (¬i8≠0→
 Aa1 Tryz.prog W0 M 18 [a0.v] W6 fun v10 W11=>
 ∃s12:Sl,∃i13:Int,v10 = .tuple ⟨[s12.v,.int .i64 i13]⟩∧∀(W14:PW),Ext W11 W14→Post (.tuple ⟨[s12.v,s7.v,.bool (decide ((s12.2:Int)=(s7.2:Int)))]⟩) W14))
theorem Gb5 (W0:PW) (M:Nat→Prop) (a0:Sl) (Post:Value→PW→Prop) (h:Gd7 W0 M a0 Post):Aa0 Tryz.prog 4 [a0.v] W0 M Post:=
 Aa3 rfl Aa9 Aa8 Tryz.func4 (cuts:=[]) rfl rfl (Nat.le_of_ble_eq_true rfl) (Eq.mpr (by kernel_rfl) h)
end Go.Proofs.YtahohahjnhfedaaGreatDoor
