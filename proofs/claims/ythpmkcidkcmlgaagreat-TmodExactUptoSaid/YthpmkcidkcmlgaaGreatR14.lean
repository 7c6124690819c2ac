/- R14 -/
import Derived.Test.YthpmkcidkcmlgaaGreatTt
set_option linter.unusedVariables false
set_option linter.unusedSimpArgs false
set_option maxRecDepth 100000
set_option linter.unusedVariables false
namespace Go.Proofs.YthpmkcidkcmlgaaGreat
open Go Go.SX
def Rtmod_Right (W0:PW) (M:Nat→Prop) (a0_0:Sl) (a0_1:Bool) (a0_2:Sl) (a0_3:Sl) (a0_4:Bool) (a0_5:Sl) (a0_6:Sl) (a0_7:Bool) (a0_8:Sl) (a0_9:Sl) (a0_10:Bool) (a0_11:Sl) (a0_12:Sl) (a0_13:Bool) (a0_14:Sl) (a0_15:Sl) (a0_16:Bool) (a0_17:Sl) (a0_18:Int) (Post:Value→PW→Prop):Prop:=
 ∃(F1:List PL→PW→Prop),
 ∃(F2:List PL→PW→Nat),
 F1 [.val (.int .i64 0)] W0∧
 ∀(i3:Int) (W4:PW),
 F1 [.val (.int .i64 i3)] W4→
 (i3<3→
 (0≤i3∧i3<3)∧
 ∃s5:Sl,
 ∃b6:Bool,
 ∃s7:Sl,
 ∃s8:Sl,
 ∃b9:Bool,
 ∃s10:Sl,
 List.take 6
 (List.drop (Int.toNat i3*6)
 [a0_0.v,.bool a0_1,a0_2.v,a0_3.v,.bool a0_4,a0_5.v,a0_6.v,.bool a0_7,a0_8.v,a0_9.v,.bool a0_10,a0_11.v,a0_12.v,.bool a0_13,a0_14.v,a0_15.v,.bool a0_16,a0_17.v]) =
 [s5.v,.bool b6,s7.v,s8.v,.bool b9,s10.v]∧
 callN Tryz.prog W0 M 42 [.agg ⟨[s5.v,.bool b6,s7.v]⟩,.agg ⟨[s8.v,.bool b9,s10.v]⟩] W4 fun v11 W12=>
 ∃i13:Int,v11 = .int .i64 i13∧(0<i13→∀(W14:PW),Ext W12 W14→Post (.bool false) W14)∧(¬0<i13→I64 (i3+1)∧stp F1 F2 [.val (.int .i64 (i3+1))] W12 [.val (.int .i64 i3)] W4))∧
 (¬i3<3→(0≤a0_18→∀(W15:PW),Ext W4 W15→Post (.bool (decide (a0_18≤8))) W15)∧(¬0≤a0_18→∀(W16:PW),Ext W4 W16→Post (.bool false) W16))
theorem calltmod_Right (W0:PW) (M:Nat→Prop) (a0_0:Sl) (a0_1:Bool) (a0_2:Sl) (a0_3:Sl) (a0_4:Bool) (a0_5:Sl) (a0_6:Sl) (a0_7:Bool) (a0_8:Sl) (a0_9:Sl) (a0_10:Bool) (a0_11:Sl) (a0_12:Sl) (a0_13:Bool) (a0_14:Sl) (a0_15:Sl) (a0_16:Bool) (a0_17:Sl) (a0_18:Int) (Post:Value→PW→Prop) (h:Rtmod_Right W0 M a0_0 a0_1 a0_2 a0_3 a0_4 a0_5 a0_6 a0_7 a0_8 a0_9 a0_10 a0_11 a0_12 a0_13 a0_14 a0_15 a0_16 a0_17 a0_18 Post):PCallsM Tryz.prog 59 [.agg #[a0_0.v,.bool a0_1,a0_2.v,a0_3.v,.bool a0_4,a0_5.v,a0_6.v,.bool a0_7,a0_8.v,a0_9.v,.bool a0_10,a0_11.v,a0_12.v,.bool a0_13,a0_14.v,a0_15.v,.bool a0_16,a0_17.v,.int .i64 a0_18]] W0 M Post:=
 fn_sound rfl tt_ok tt_in Tryz.func59 (cuts:=[]) rfl rfl (Nat.le_of_ble_eq_true rfl) (Eq.mpr (by kernel_rfl) h)
def Rtmod_Cut (W0:PW) (M:Nat→Prop) (a0_0:Sl) (a0_1:Bool) (a0_2:Sl) (a0_3:Sl) (a0_4:Bool) (a0_5:Sl) (a0_6:Sl) (a0_7:Bool) (a0_8:Sl) (a0_9:Sl) (a0_10:Bool) (a0_11:Sl) (a0_12:Sl) (a0_13:Bool) (a0_14:Sl) (a0_15:Sl) (a0_16:Bool) (a0_17:Sl) (a0_18:Int) (a1_0:Sl) (Post:Value→PW→Prop):Prop:=
 callN Tryz.prog W0 M 59
 [.agg ⟨[a0_0.v,.bool a0_1,a0_2.v,a0_3.v,.bool a0_4,a0_5.v,a0_6.v,.bool a0_7,a0_8.v,a0_9.v,.bool a0_10,a0_11.v,a0_12.v,.bool a0_13,a0_14.v,a0_15.v,.bool a0_16,a0_17.v,.int .i64 a0_18]⟩]
 W0 fun v1 W2=>
 ∃b3:Bool,
 v1 = .bool b3∧
 ((!b3)=true→
 ∀(W4:PW),
 Ext W2 W4→
 Post (.tuple ⟨[.agg ⟨[.slice none 0 0,.slice none 0 0,.bool false,.slice none 0 0,.slice none 0 0,.bool false,.slice none 0 0]⟩,.bool false]⟩)
 W4)∧
 ((!b3)=false→
 callN Tryz.prog W0 M 85 [.agg ⟨[a1_0.v]⟩] W2 fun v5 W6=>
 ∃s7:Sl,
 v5=s7.v∧
 ∃(F8:List PL→PW→Prop),
 ∃(F9:List PL→PW→Nat),
 F8 [.row [],.row [],.val (.int .i64 0)] W6∧
 ∀(l10 l11:List (List Value)) (i12:Int) (W13:PW),
 F8 [.row l10,.row l11,.val (.int .i64 i12)] W13→
 (i12<(s7.2:Int)→
 inB s7 i12∧
 ∃i14:Int,
 ∃i15:Int,
 ∃i16:Int,
 ∃s17:Sl,
 ∃b18:Bool,
 ∃s19:Sl,
 ElemAt W13 s7 6 (Int.toNat i12) 0 [.int .u8 i14,.int .u8 i15,.int .u8 i16,s17.v,.bool b18,s19.v]∧
 callN Tryz.prog W0 M 141 [.agg ⟨[.int .u8 i14,.int .u8 i15,.int .u8 i16]⟩] W13 fun v20 W21=>
 ∃i22:Int,
 v20 = .int .i64 i22∧
 (a0_18<i22→
 (List.length l10+List.length [[.int .u8 i14,.int .u8 i15,.int .u8 i16,s17.v,.bool b18,s19.v]])*64≤140737488355328∧
 I64 (i12+1)∧
 stp F8 F9 [.row (l10 ++ [[.int .u8 i14,.int .u8 i15,.int .u8 i16,s17.v,.bool b18,s19.v]]),.row l11,.val (.int .i64 (i12+1))] W21
 [.row l10,.row l11,.val (.int .i64 i12)] W13)∧
 (¬a0_18<i22→
 (List.length l11+List.length [[.int .u8 i14,.int .u8 i15,.int .u8 i16,s17.v,.bool b18,s19.v]])*64≤140737488355328∧
 I64 (i12+1)∧
 stp F8 F9 [.row l10,.row (l11 ++ [[.int .u8 i14,.int .u8 i15,.int .u8 i16,s17.v,.bool b18,s19.v]]),.val (.int .i64 (i12+1))] W21
 [.row l10,.row l11,.val (.int .i64 i12)] W13))∧
 (¬i12<(s7.2:Int)→
 ∀(s23:Sl) (W24:PW),
 Ext W13 W24→
 SX.Own W24 188 6 s23 l11→
 Fr W0 W13 s23→
 callN Tryz.prog W0 M 93 [s23.v] W24 fun v25 W26=>
 ∃s27:Sl,
 v25 = .agg ⟨[s27.v]⟩∧
 ∀(s28:Sl) (W29:PW),
 Ext W26 W29→
 SX.Own W29 188 6 s28 l10→
 Fr W0 W26 s28→
 callN Tryz.prog W0 M 93 [s28.v] W29 fun v30 W31=>
 ∃s32:Sl,
 v30 = .agg ⟨[s32.v]⟩∧
 callN Tryz.prog W0 M 142
 [.agg ⟨[s32.v]⟩,
 .agg
 {
 toList:=
 [a0_0.v,.bool a0_1,a0_2.v,a0_3.v,.bool a0_4,a0_5.v,a0_6.v,.bool a0_7,a0_8.v,a0_9.v,.bool a0_10,a0_11.v,a0_12.v,.bool a0_13,a0_14.v,a0_15.v,.bool a0_16,
 a0_17.v] }]
 W31 fun v33 W34=>
 ∃s35:Sl,
 ∃b36:Bool,
 ∃s37:Sl,
 ∃s38:Sl,
 ∃b39:Bool,
 ∃s40:Sl,
 v33 = .agg ⟨[s35.v,.bool b36,s37.v,s38.v,.bool b39,s40.v]⟩∧
 ∀(W41:PW),Ext W34 W41→Post (.tuple ⟨[.agg ⟨[s27.v,s35.v,.bool b36,s37.v,s38.v,.bool b39,s40.v]⟩,.bool true]⟩) W41))
theorem calltmod_Cut (W0:PW) (M:Nat→Prop) (a0_0:Sl) (a0_1:Bool) (a0_2:Sl) (a0_3:Sl) (a0_4:Bool) (a0_5:Sl) (a0_6:Sl) (a0_7:Bool) (a0_8:Sl) (a0_9:Sl) (a0_10:Bool) (a0_11:Sl) (a0_12:Sl) (a0_13:Bool) (a0_14:Sl) (a0_15:Sl) (a0_16:Bool) (a0_17:Sl) (a0_18:Int) (a1_0:Sl) (Post:Value→PW→Prop) (h:Rtmod_Cut W0 M a0_0 a0_1 a0_2 a0_3 a0_4 a0_5 a0_6 a0_7 a0_8 a0_9 a0_10 a0_11 a0_12 a0_13 a0_14 a0_15 a0_16 a0_17 a0_18 a1_0 Post):PCallsM Tryz.prog 51 [.agg #[a0_0.v,.bool a0_1,a0_2.v,a0_3.v,.bool a0_4,a0_5.v,a0_6.v,.bool a0_7,a0_8.v,a0_9.v,.bool a0_10,a0_11.v,a0_12.v,.bool a0_13,a0_14.v,a0_15.v,.bool a0_16,a0_17.v,.int .i64 a0_18],.agg #[a1_0.v]] W0 M Post:=
 fn_sound rfl tt_ok tt_in Tryz.func51 (cuts:=[]) rfl rfl (Nat.le_of_ble_eq_true rfl) (Eq.mpr (by kernel_rfl) h)
def Rtmod_Mul (W0:PW) (M:Nat→Prop) (a0_0:Sl) (a0_1:Bool) (a0_2:Sl) (a0_3:Sl) (a0_4:Bool) (a0_5:Sl) (a0_6:Sl) (a0_7:Bool) (a0_8:Sl) (a0_9:Sl) (a0_10:Bool) (a0_11:Sl) (a0_12:Sl) (a0_13:Bool) (a0_14:Sl) (a0_15:Sl) (a0_16:Bool) (a0_17:Sl) (a0_18:Int) (a1_0:Sl) (a1_1:Sl) (a1_2:Bool) (a1_3:Sl) (a1_4:Sl) (a1_5:Bool) (a1_6:Sl) (a2_0:Sl) (a2_1:Sl) (a2_2:Bool) (a2_3:Sl) (a2_4:Sl) (a2_5:Bool) (a2_6:Sl) (Post:Value→PW→Prop):Prop:=
 callN Tryz.prog W0 M 95 [.agg ⟨[a1_0.v]⟩,.agg ⟨[a2_0.v]⟩] W0 fun v1 W2=>
 ∃s3:Sl,
 ∃b4:Bool,
 v1 = .tuple ⟨[.agg ⟨[s3.v]⟩,.bool b4]⟩∧
 callN Tryz.prog W0 M 51
 [.agg
 ⟨[a0_0.v,.bool a0_1,a0_2.v,a0_3.v,.bool a0_4,a0_5.v,a0_6.v,.bool a0_7,a0_8.v,a0_9.v,.bool a0_10,a0_11.v,a0_12.v,.bool a0_13,a0_14.v,a0_15.v,.bool a0_16,a0_17.v,.int .i64 a0_18]⟩,
 .agg ⟨[s3.v]⟩]
 W2 fun v5 W6=>
 ∃s7:Sl,
 ∃s8:Sl,
 ∃b9:Bool,
 ∃s10:Sl,
 ∃s11:Sl,
 ∃b12:Bool,
 ∃s13:Sl,
 ∃b14:Bool,
 v5 = .tuple ⟨[.agg ⟨[s7.v,s8.v,.bool b9,s10.v,s11.v,.bool b12,s13.v]⟩,.bool b14]⟩∧
 ((!b4)=true→
 ∀(W15:PW),
 Ext W6 W15→
 Post
 (.tuple
 {
 toList:=
 [.agg ⟨[.slice none 0 0,.slice none 0 0,.bool false,.slice none 0 0,.slice none 0 0,.bool false,.slice none 0 0]⟩,.bool false] })
 W15)∧
 ((!b4)=false→
 ((!b14)=true→
 ∀(W16:PW),
 Ext W6 W16→
 Post
 (.tuple
 {
 toList:=
 [.agg ⟨[.slice none 0 0,.slice none 0 0,.bool false,.slice none 0 0,.slice none 0 0,.bool false,.slice none 0 0]⟩,.bool false] })
 W16)∧
 ((!b14)=false→
 callN Tryz.prog W0 M 142
 [.agg ⟨[a1_0.v]⟩,
 .agg ⟨[a0_0.v,.bool a0_1,a0_2.v,a0_3.v,.bool a0_4,a0_5.v,a0_6.v,.bool a0_7,a0_8.v,a0_9.v,.bool a0_10,a0_11.v,a0_12.v,.bool a0_13,a0_14.v,a0_15.v,.bool a0_16,a0_17.v]⟩]
 W6 fun v17 W18=>
 ∃s19:Sl,
 ∃b20:Bool,
 ∃s21:Sl,
 ∃s22:Sl,
 ∃b23:Bool,
 ∃s24:Sl,
 v17 = .agg ⟨[s19.v,.bool b20,s21.v,s22.v,.bool b23,s24.v]⟩∧
 callN Tryz.prog W0 M 135 [.agg ⟨[s19.v,.bool b20,s21.v,s22.v,.bool b23,s24.v]⟩,.agg ⟨[a2_1.v,.bool a2_2,a2_3.v,a2_4.v,.bool a2_5,a2_6.v]⟩] W18
 fun v25 W26=>
 ∃s27:Sl,
 ∃b28:Bool,
 ∃s29:Sl,
 ∃s30:Sl,
 ∃b31:Bool,
 ∃s32:Sl,
 v25 = .agg ⟨[s27.v,.bool b28,s29.v,s30.v,.bool b31,s32.v]⟩∧
 callN Tryz.prog W0 M 134 [.agg ⟨[s8.v,.bool b9,s10.v,s11.v,.bool b12,s13.v]⟩,.agg ⟨[s27.v,.bool b28,s29.v,s30.v,.bool b31,s32.v]⟩] W26
 fun v33 W34=>
 ∃s35:Sl,
 ∃b36:Bool,
 ∃s37:Sl,
 ∃s38:Sl,
 ∃b39:Bool,
 ∃s40:Sl,
 v33 = .agg ⟨[s35.v,.bool b36,s37.v,s38.v,.bool b39,s40.v]⟩∧
 callN Tryz.prog W0 M 142
 [.agg ⟨[a2_0.v]⟩,
 .agg
 {
 toList:=
 [a0_0.v,.bool a0_1,a0_2.v,a0_3.v,.bool a0_4,a0_5.v,a0_6.v,.bool a0_7,a0_8.v,a0_9.v,.bool a0_10,a0_11.v,a0_12.v,.bool a0_13,a0_14.v,a0_15.v,
 .bool a0_16,a0_17.v] }]
 W34 fun v41 W42=>
 ∃s43:Sl,
 ∃b44:Bool,
 ∃s45:Sl,
 ∃s46:Sl,
 ∃b47:Bool,
 ∃s48:Sl,
 v41 = .agg ⟨[s43.v,.bool b44,s45.v,s46.v,.bool b47,s48.v]⟩∧
 callN Tryz.prog W0 M 135
 [.agg ⟨[s43.v,.bool b44,s45.v,s46.v,.bool b47,s48.v]⟩,.agg ⟨[a1_1.v,.bool a1_2,a1_3.v,a1_4.v,.bool a1_5,a1_6.v]⟩] W42
 fun v49 W50=>
 ∃s51:Sl,
 ∃b52:Bool,
 ∃s53:Sl,
 ∃s54:Sl,
 ∃b55:Bool,
 ∃s56:Sl,
 v49 = .agg ⟨[s51.v,.bool b52,s53.v,s54.v,.bool b55,s56.v]⟩∧
 callN Tryz.prog W0 M 134
 [.agg ⟨[s35.v,.bool b36,s37.v,s38.v,.bool b39,s40.v]⟩,.agg ⟨[s51.v,.bool b52,s53.v,s54.v,.bool b55,s56.v]⟩] W50
 fun v57 W58=>
 ∃s59:Sl,
 ∃b60:Bool,
 ∃s61:Sl,
 ∃s62:Sl,
 ∃b63:Bool,
 ∃s64:Sl,
 v57 = .agg ⟨[s59.v,.bool b60,s61.v,s62.v,.bool b63,s64.v]⟩∧
 callN Tryz.prog W0 M 135
 [.agg ⟨[a1_1.v,.bool a1_2,a1_3.v,a1_4.v,.bool a1_5,a1_6.v]⟩,
 .agg ⟨[a2_1.v,.bool a2_2,a2_3.v,a2_4.v,.bool a2_5,a2_6.v]⟩]
 W58 fun v65 W66=>
 ∃s67:Sl,
 ∃b68:Bool,
 ∃s69:Sl,
 ∃s70:Sl,
 ∃b71:Bool,
 ∃s72:Sl,
 v65 = .agg ⟨[s67.v,.bool b68,s69.v,s70.v,.bool b71,s72.v]⟩∧
 callN Tryz.prog W0 M 134
 [.agg ⟨[s59.v,.bool b60,s61.v,s62.v,.bool b63,s64.v]⟩,
 .agg ⟨[s67.v,.bool b68,s69.v,s70.v,.bool b71,s72.v]⟩]
 W66 fun v73 W74=>
 ∃s75:Sl,
 ∃b76:Bool,
 ∃s77:Sl,
 ∃s78:Sl,
 ∃b79:Bool,
 ∃s80:Sl,
 v73 = .agg ⟨[s75.v,.bool b76,s77.v,s78.v,.bool b79,s80.v]⟩∧
 ∀(W81:PW),
 Ext W74 W81→Post (.tuple ⟨[.agg ⟨[s7.v,s75.v,.bool b76,s77.v,s78.v,.bool b79,s80.v]⟩,.bool true]⟩) W81))
theorem calltmod_Mul (W0:PW) (M:Nat→Prop) (a0_0:Sl) (a0_1:Bool) (a0_2:Sl) (a0_3:Sl) (a0_4:Bool) (a0_5:Sl) (a0_6:Sl) (a0_7:Bool) (a0_8:Sl) (a0_9:Sl) (a0_10:Bool) (a0_11:Sl) (a0_12:Sl) (a0_13:Bool) (a0_14:Sl) (a0_15:Sl) (a0_16:Bool) (a0_17:Sl) (a0_18:Int) (a1_0:Sl) (a1_1:Sl) (a1_2:Bool) (a1_3:Sl) (a1_4:Sl) (a1_5:Bool) (a1_6:Sl) (a2_0:Sl) (a2_1:Sl) (a2_2:Bool) (a2_3:Sl) (a2_4:Sl) (a2_5:Bool) (a2_6:Sl) (Post:Value→PW→Prop) (h:Rtmod_Mul W0 M a0_0 a0_1 a0_2 a0_3 a0_4 a0_5 a0_6 a0_7 a0_8 a0_9 a0_10 a0_11 a0_12 a0_13 a0_14 a0_15 a0_16 a0_17 a0_18 a1_0 a1_1 a1_2 a1_3 a1_4 a1_5 a1_6 a2_0 a2_1 a2_2 a2_3 a2_4 a2_5 a2_6 Post):PCallsM Tryz.prog 53 [.agg #[a0_0.v,.bool a0_1,a0_2.v,a0_3.v,.bool a0_4,a0_5.v,a0_6.v,.bool a0_7,a0_8.v,a0_9.v,.bool a0_10,a0_11.v,a0_12.v,.bool a0_13,a0_14.v,a0_15.v,.bool a0_16,a0_17.v,.int .i64 a0_18],.agg #[a1_0.v,a1_1.v,.bool a1_2,a1_3.v,a1_4.v,.bool a1_5,a1_6.v],.agg #[a2_0.v,a2_1.v,.bool a2_2,a2_3.v,a2_4.v,.bool a2_5,a2_6.v]] W0 M Post:=
 fn_sound rfl tt_ok tt_in Tryz.func53 (cuts:=[]) rfl rfl (Nat.le_of_ble_eq_true rfl) (Eq.mpr (by kernel_rfl) h)
def Rtmod_Add (W0:PW) (M:Nat→Prop) (a0_0:Sl) (a0_1:Sl) (a0_2:Bool) (a0_3:Sl) (a0_4:Sl) (a0_5:Bool) (a0_6:Sl) (a1_0:Sl) (a1_1:Sl) (a1_2:Bool) (a1_3:Sl) (a1_4:Sl) (a1_5:Bool) (a1_6:Sl) (Post:Value→PW→Prop):Prop:=
 callN Tryz.prog W0 M 96 [.agg ⟨[a0_0.v]⟩,.agg ⟨[a1_0.v]⟩] W0 fun v1 W2=>
 ∃s3:Sl,
 v1 = .agg ⟨[s3.v]⟩∧
 callN Tryz.prog W0 M 134 [.agg ⟨[a0_1.v,.bool a0_2,a0_3.v,a0_4.v,.bool a0_5,a0_6.v]⟩,.agg ⟨[a1_1.v,.bool a1_2,a1_3.v,a1_4.v,.bool a1_5,a1_6.v]⟩] W2 fun v4 W5=>
 ∃s6:Sl,
 ∃b7:Bool,
 ∃s8:Sl,
 ∃s9:Sl,∃b10:Bool,∃s11:Sl,v4 = .agg ⟨[s6.v,.bool b7,s8.v,s9.v,.bool b10,s11.v]⟩∧∀(W12:PW),Ext W5 W12→Post (.agg ⟨[s3.v,s6.v,.bool b7,s8.v,s9.v,.bool b10,s11.v]⟩) W12
theorem calltmod_Add (W0:PW) (M:Nat→Prop) (a0_0:Sl) (a0_1:Sl) (a0_2:Bool) (a0_3:Sl) (a0_4:Sl) (a0_5:Bool) (a0_6:Sl) (a1_0:Sl) (a1_1:Sl) (a1_2:Bool) (a1_3:Sl) (a1_4:Sl) (a1_5:Bool) (a1_6:Sl) (Post:Value→PW→Prop) (h:Rtmod_Add W0 M a0_0 a0_1 a0_2 a0_3 a0_4 a0_5 a0_6 a1_0 a1_1 a1_2 a1_3 a1_4 a1_5 a1_6 Post):PCallsM Tryz.prog 62 [.agg #[a0_0.v,a0_1.v,.bool a0_2,a0_3.v,a0_4.v,.bool a0_5,a0_6.v],.agg #[a1_0.v,a1_1.v,.bool a1_2,a1_3.v,a1_4.v,.bool a1_5,a1_6.v]] W0 M Post:=
 fn_sound rfl tt_ok tt_in Tryz.func62 (cuts:=[]) rfl rfl (Nat.le_of_ble_eq_true rfl) (Eq.mpr (by kernel_rfl) h)
def Rtmod_risen (W0:PW) (M:Nat→Prop) (a0_0:Sl) (Post:Value→PW→Prop):Prop:=
 callN Tryz.prog W0 M 85 [.agg ⟨[a0_0.v]⟩] W0 fun v1 W2=>
 ∃s3:Sl,
 v1=s3.v∧
 ∃(F4:List PL→PW→Prop),
 ∃(F5:List PL→PW→Nat),
 F4 [.val (.int .i64 0),.cells [.slice none 0 0]] W2∧
 ∀(s6:Sl) (i7:Int) (W8:PW),
 F4 [.val (.int .i64 i7),.cells [s6.v]] W8→
 (i7<(s3.2:Int)→
 inB s3 i7∧
 ((0:Int)≤2∧(2:Int)<3)∧
 ∃i9:Int,
 ElemAt W8 s3 6 (Int.toNat i7) 2 [.int .u8 i9]∧
 (i9=255→∀(W10:PW),Ext W8 W10→Post (.tuple ⟨[.agg ⟨[.slice none 0 0]⟩,.bool false]⟩) W10)∧
 (¬i9=255→
 inB s3 i7∧
 ((0:Int)≤2∧(2:Int)<3)∧
 ∃i11:Int,
 ElemAt W8 s3 6 (Int.toNat i7) 2 [.int .u8 i11]∧
 inB s3 i7∧
 ((0:Int)≤2∧(2:Int)<3)∧
 storeN W0 M s3 (Int.toNat i7*6+2) [.int .u8 (IntKind.wrap .u8 (i11+1))] W8 fun(W12:PW)=>
 inB s3 i7∧
 ∃s13:Sl,
 ∃b14:Bool,
 ∃s15:Sl,
 ElemAt W12 s3 6 (Int.toNat i7) 3 [s13.v,.bool b14,s15.v]∧
 inB s3 i7∧
 ((0:Int)≤2∧(2:Int)<3)∧
 ∃i16:Int,
 ElemAt W12 s3 6 (Int.toNat i7) 2 [.int .u8 i16]∧
 I64 i16∧
 callN Tryz.prog W0 M 20 [.int .i64 i16] W12 fun v17 W18=>
 ∃s19:Sl,
 ∃b20:Bool,
 ∃s21:Sl,
 v17 = .agg ⟨[s19.v,.bool b20,s21.v]⟩∧
 Ext W12 W18∧
 callN Tryz.prog W0 M 87 [.agg ⟨[s13.v,.bool b14,s15.v]⟩,.agg ⟨[s19.v,.bool b20,s21.v]⟩] W18 fun v22 W23=>
 ∃s24:Sl,
 ∃b25:Bool,
 ∃s26:Sl,
 ∃b27:Bool,
 v22 = .tuple ⟨[.agg ⟨[s24.v,.bool b25,s26.v]⟩,.bool b27]⟩∧
 Ext W18 W23∧
 inB s3 i7∧
 storeN W0 M s3 (Int.toNat i7*6+3) [s24.v,.bool b25,s26.v] W23 fun(W28:PW)=>
 I64 (i7+1)∧stp F4 F5 [.val (.int .i64 (i7+1)),.cells [s6.v]] W28 [.val (.int .i64 i7),.cells [s6.v]] W8))∧
 (¬i7<(s3.2:Int)→callN Tryz.prog W0 M 93 [s3.v] W8 fun v29 W30=>∃s31:Sl,v29 = .agg ⟨[s31.v]⟩∧∀(W32:PW),Ext W30 W32→Post (.tuple ⟨[.agg ⟨[s31.v]⟩,.bool true]⟩) W32)
theorem calltmod_risen (W0:PW) (M:Nat→Prop) (a0_0:Sl) (Post:Value→PW→Prop) (h:Rtmod_risen W0 M a0_0 Post):PCallsM Tryz.prog 133 [.agg #[a0_0.v]] W0 M Post:=
 fn_sound rfl tt_ok tt_in Tryz.func133 (cuts:=[]) rfl rfl (Nat.le_of_ble_eq_true rfl) (Eq.mpr (by kernel_rfl) h)
def Rtmod_Time (W0:PW) (M:Nat→Prop) (a0_0:Sl) (a0_1:Bool) (a0_2:Sl) (a0_3:Sl) (a0_4:Bool) (a0_5:Sl) (a0_6:Sl) (a0_7:Bool) (a0_8:Sl) (a0_9:Sl) (a0_10:Bool) (a0_11:Sl) (a0_12:Sl) (a0_13:Bool) (a0_14:Sl) (a0_15:Sl) (a0_16:Bool) (a0_17:Sl) (a0_18:Int) (a1_0:Sl) (a1_1:Sl) (a1_2:Bool) (a1_3:Sl) (a1_4:Sl) (a1_5:Bool) (a1_6:Sl) (Post:Value→PW→Prop):Prop:=
 callN Tryz.prog W0 M 133 [.agg ⟨[a1_0.v]⟩] W0 fun v1 W2=>
 ∃s3:Sl,
 ∃b4:Bool,
 v1 = .tuple ⟨[.agg ⟨[s3.v]⟩,.bool b4]⟩∧
 callN Tryz.prog W0 M 51
 [.agg
 ⟨[a0_0.v,.bool a0_1,a0_2.v,a0_3.v,.bool a0_4,a0_5.v,a0_6.v,.bool a0_7,a0_8.v,a0_9.v,.bool a0_10,a0_11.v,a0_12.v,.bool a0_13,a0_14.v,a0_15.v,.bool a0_16,a0_17.v,.int .i64 a0_18]⟩,
 .agg ⟨[s3.v]⟩]
 W2 fun v5 W6=>
 ∃s7:Sl,
 ∃s8:Sl,
 ∃b9:Bool,
 ∃s10:Sl,
 ∃s11:Sl,
 ∃b12:Bool,
 ∃s13:Sl,
 ∃b14:Bool,
 v5 = .tuple ⟨[.agg ⟨[s7.v,s8.v,.bool b9,s10.v,s11.v,.bool b12,s13.v]⟩,.bool b14]⟩∧
 ((!b4)=true→
 ∀(W15:PW),
 Ext W6 W15→
 Post
 (.tuple
 {
 toList:=
 [.agg ⟨[.slice none 0 0,.slice none 0 0,.bool false,.slice none 0 0,.slice none 0 0,.bool false,.slice none 0 0]⟩,.bool false] })
 W15)∧
 ((!b4)=false→
 ((!b14)=true→
 ∀(W16:PW),
 Ext W6 W16→
 Post
 (.tuple
 {
 toList:=
 [.agg ⟨[.slice none 0 0,.slice none 0 0,.bool false,.slice none 0 0,.slice none 0 0,.bool false,.slice none 0 0]⟩,.bool false] })
 W16)∧
 ((!b14)=false→
 ((0:Int)≤2∧(2:Int)<3)∧
 callN Tryz.prog W0 M 41 [.agg ⟨[a0_12.v,.bool a0_13,a0_14.v]⟩] W6 fun v17 W18=>
 ∃i19:Int,
 v17 = .int .i64 i19∧
 (i19≠0→
 ∀(W20:PW),
 Ext W18 W20→
 Post
 (.tuple
 {
 toList:=
 [.agg ⟨[.slice none 0 0,.slice none 0 0,.bool false,.slice none 0 0,.slice none 0 0,.bool false,.slice none 0 0]⟩,
 .bool false] })
 W20)∧
 (¬i19≠0→
 ((0:Int)≤2∧(2:Int)<3)∧
 callN Tryz.prog W0 M 135 [.agg ⟨[a1_1.v,.bool a1_2,a1_3.v,a1_4.v,.bool a1_5,a1_6.v]⟩,.agg ⟨[a0_12.v,.bool a0_13,a0_14.v,a0_15.v,.bool a0_16,a0_17.v]⟩] W18
 fun v21 W22=>
 ∃s23:Sl,
 ∃b24:Bool,
 ∃s25:Sl,
 ∃s26:Sl,
 ∃b27:Bool,
 ∃s28:Sl,
 v21 = .agg ⟨[s23.v,.bool b24,s25.v,s26.v,.bool b27,s28.v]⟩∧
 callN Tryz.prog W0 M 134 [.agg ⟨[s8.v,.bool b9,s10.v,s11.v,.bool b12,s13.v]⟩,.agg ⟨[s23.v,.bool b24,s25.v,s26.v,.bool b27,s28.v]⟩] W22
 fun v29 W30=>
 ∃s31:Sl,
 ∃b32:Bool,
 ∃s33:Sl,
 ∃s34:Sl,
 ∃b35:Bool,
 ∃s36:Sl,
 v29 = .agg ⟨[s31.v,.bool b32,s33.v,s34.v,.bool b35,s36.v]⟩∧
 ∀(W37:PW),Ext W30 W37→Post (.tuple ⟨[.agg ⟨[s7.v,s31.v,.bool b32,s33.v,s34.v,.bool b35,s36.v]⟩,.bool true]⟩) W37)))
theorem calltmod_Time (W0:PW) (M:Nat→Prop) (a0_0:Sl) (a0_1:Bool) (a0_2:Sl) (a0_3:Sl) (a0_4:Bool) (a0_5:Sl) (a0_6:Sl) (a0_7:Bool) (a0_8:Sl) (a0_9:Sl) (a0_10:Bool) (a0_11:Sl) (a0_12:Sl) (a0_13:Bool) (a0_14:Sl) (a0_15:Sl) (a0_16:Bool) (a0_17:Sl) (a0_18:Int) (a1_0:Sl) (a1_1:Sl) (a1_2:Bool) (a1_3:Sl) (a1_4:Sl) (a1_5:Bool) (a1_6:Sl) (Post:Value→PW→Prop) (h:Rtmod_Time W0 M a0_0 a0_1 a0_2 a0_3 a0_4 a0_5 a0_6 a0_7 a0_8 a0_9 a0_10 a0_11 a0_12 a0_13 a0_14 a0_15 a0_16 a0_17 a0_18 a1_0 a1_1 a1_2 a1_3 a1_4 a1_5 a1_6 Post):PCallsM Tryz.prog 47 [.agg #[a0_0.v,.bool a0_1,a0_2.v,a0_3.v,.bool a0_4,a0_5.v,a0_6.v,.bool a0_7,a0_8.v,a0_9.v,.bool a0_10,a0_11.v,a0_12.v,.bool a0_13,a0_14.v,a0_15.v,.bool a0_16,a0_17.v,.int .i64 a0_18],.agg #[a1_0.v,a1_1.v,.bool a1_2,a1_3.v,a1_4.v,.bool a1_5,a1_6.v]] W0 M Post:=
 fn_sound rfl tt_ok tt_in Tryz.func47 (cuts:=[]) rfl rfl (Nat.le_of_ble_eq_true rfl) (Eq.mpr (by kernel_rfl) h)
def Rref1_DomainRight (W0:PW) (M:Nat→Prop) (a0_0:Bool) (a0_1:Sl) (a0_2:Sl) (a0_3:Bool) (a0_4:Sl) (a0_5:Sl) (a0_6:Bool) (a0_7:Sl) (a0_8:Sl) (a0_9:Bool) (a0_10:Sl) (a0_11:Sl) (a0_12:Bool) (a0_13:Sl) (a0_14:Sl) (a0_15:Bool) (a0_16:Sl) (a0_17:Sl) (a0_18:Int) (Post:Value→PW→Prop):Prop:=
 ∃(F1:List PL→PW→Prop),
 ∃(F2:List PL→PW→Nat),
 F1 [.val (.int .i64 0)] W0∧
 ∀(i3:Int) (W4:PW),
 F1 [.val (.int .i64 i3)] W4→
 (i3<3→
 (0≤i3∧i3<3)∧
 ∃b5:Bool,
 ∃s6:Sl,
 ∃s7:Sl,
 BoxAt
 [.bool a0_0,a0_1.v,a0_2.v,.bool a0_3,a0_4.v,a0_5.v,.bool a0_6,a0_7.v,a0_8.v,.bool a0_9,a0_10.v,a0_11.v,.bool a0_12,a0_13.v,a0_14.v,.bool a0_15,a0_16.v,a0_17.v,.int .i64 a0_18]
 (0+Int.toNat i3*6+0) [.bool b5,s6.v,s7.v]∧
 (0≤i3∧i3<3)∧
 ∃b8:Bool,
 ∃s9:Sl,
 ∃s10:Sl,
 BoxAt
 [.bool a0_0,a0_1.v,a0_2.v,.bool a0_3,a0_4.v,a0_5.v,.bool a0_6,a0_7.v,a0_8.v,.bool a0_9,a0_10.v,a0_11.v,.bool a0_12,a0_13.v,a0_14.v,.bool a0_15,a0_16.v,a0_17.v,
 .int .i64 a0_18]
 (0+Int.toNat i3*6+3) [.bool b8,s9.v,s10.v]∧
 callN Tryz.prog W0 M 144 [.agg ⟨[.bool b5,s6.v,s7.v]⟩,.agg ⟨[.bool b8,s9.v,s10.v]⟩] W4 fun v11 W12=>
 ∃i13:Int,v11 = .int .i64 i13∧(0<i13→∀(W14:PW),Ext W12 W14→Post (.bool false) W14)∧(¬0<i13→I64 (i3+1)∧stp F1 F2 [.val (.int .i64 (i3+1))] W12 [.val (.int .i64 i3)] W4))∧
 (¬i3<3→(0≤a0_18→∀(W15:PW),Ext W4 W15→Post (.bool (decide (a0_18≤8))) W15)∧(¬0≤a0_18→∀(W16:PW),Ext W4 W16→Post (.bool false) W16))
theorem callref1_DomainRight (W0:PW) (M:Nat→Prop) (a0_0:Bool) (a0_1:Sl) (a0_2:Sl) (a0_3:Bool) (a0_4:Sl) (a0_5:Sl) (a0_6:Bool) (a0_7:Sl) (a0_8:Sl) (a0_9:Bool) (a0_10:Sl) (a0_11:Sl) (a0_12:Bool) (a0_13:Sl) (a0_14:Sl) (a0_15:Bool) (a0_16:Sl) (a0_17:Sl) (a0_18:Int) (Post:Value→PW→Prop) (h:Rref1_DomainRight W0 M a0_0 a0_1 a0_2 a0_3 a0_4 a0_5 a0_6 a0_7 a0_8 a0_9 a0_10 a0_11 a0_12 a0_13 a0_14 a0_15 a0_16 a0_17 a0_18 Post):PCallsM Tryz.prog 56 [.agg #[.bool a0_0,a0_1.v,a0_2.v,.bool a0_3,a0_4.v,a0_5.v,.bool a0_6,a0_7.v,a0_8.v,.bool a0_9,a0_10.v,a0_11.v,.bool a0_12,a0_13.v,a0_14.v,.bool a0_15,a0_16.v,a0_17.v,.int .i64 a0_18]] W0 M Post:=
 fn_sound rfl tt_ok tt_in Tryz.func56 (cuts:=[]) rfl rfl (Nat.le_of_ble_eq_true rfl) (Eq.mpr (by kernel_rfl) h)
def Rlaw15_Domain (W0:PW) (M:Nat→Prop) (a0_0:ByteArray) (a0_1:ByteArray) (a0_2:ByteArray) (a0_3:ByteArray) (a0_4:ByteArray) (a0_5:ByteArray) (a1:Int) (Post:Value→PW→Prop):Prop:=
 ∃(F1:List PL→PW→Prop),
 ∃(F2:List PL→PW→Nat),
 F1
 [.val (.int .i64 0),
 .cells
 [.slice none 0 0,.bool false,.slice none 0 0,.slice none 0 0,.bool false,.slice none 0 0,.slice none 0 0,.bool false,.slice none 0 0,
 .slice none 0 0,.bool false,.slice none 0 0,.slice none 0 0,.bool false,.slice none 0 0,.slice none 0 0,.bool false,.slice none 0 0,
 .int .i64 0],
 .cells
 [.bool false,.slice none 0 0,.slice none 0 0,.bool false,.slice none 0 0,.slice none 0 0,.bool false,.slice none 0 0,.slice none 0 0,
 .bool false,.slice none 0 0,.slice none 0 0,.bool false,.slice none 0 0,.slice none 0 0,.bool false,.slice none 0 0,.slice none 0 0,
 .int .i64 0],
 .cells
 [.slice none 0 0,.bool false,.slice none 0 0,.slice none 0 0,.bool false,.slice none 0 0,.slice none 0 0,.bool false,.slice none 0 0,
 .slice none 0 0,.bool false,.slice none 0 0,.slice none 0 0,.bool false,.slice none 0 0,.slice none 0 0,.bool false,.slice none 0 0,
 .int .i64 a1],
 .cells
 [.bool false,.slice none 0 0,.slice none 0 0,.bool false,.slice none 0 0,.slice none 0 0,.bool false,.slice none 0 0,.slice none 0 0,
 .bool false,.slice none 0 0,.slice none 0 0,.bool false,.slice none 0 0,.slice none 0 0,.bool false,.slice none 0 0,.slice none 0 0,
 .int .i64 a1]]
 W0∧
 ∀(s3:Sl) (b4:Bool) (s5 s6:Sl) (b7:Bool) (s8 s9:Sl) (b10:Bool) (s11 s12:Sl) (b13:Bool) (s14 s15:Sl) (b16:Bool) (s17 s18:Sl) (b19:Bool) (s20:Sl) (i21:Int) (b22:Bool) (s23 s24:Sl) (b25:Bool) (s26 s27:Sl) (b28:Bool) (s29 s30:Sl) (b31:Bool) (s32 s33:Sl) (b34:Bool) (s35 s36:Sl)
 (b37:Bool) (s38 s39:Sl) (i40:Int) (s41:Sl) (b42:Bool) (s43 s44:Sl) (b45:Bool) (s46 s47:Sl) (b48:Bool) (s49 s50:Sl) (b51:Bool) (s52 s53:Sl) (b54:Bool) (s55 s56:Sl) (b57:Bool) (s58:Sl) (i59:Int) (b60:Bool) (s61 s62:Sl) (b63:Bool) (s64 s65:Sl) (b66:Bool) (s67 s68:Sl) (b69:Bool)
 (s70 s71:Sl) (b72:Bool) (s73 s74:Sl) (b75:Bool) (s76 s77:Sl) (i78 i79:Int) (W80:PW),
 F1
 [.val (.int .i64 i79),
 .cells [s3.v,.bool b4,s5.v,s6.v,.bool b7,s8.v,s9.v,.bool b10,s11.v,s12.v,.bool b13,s14.v,s15.v,.bool b16,s17.v,s18.v,.bool b19,s20.v,.int .i64 i21],
 .cells [.bool b22,s23.v,s24.v,.bool b25,s26.v,s27.v,.bool b28,s29.v,s30.v,.bool b31,s32.v,s33.v,.bool b34,s35.v,s36.v,.bool b37,s38.v,s39.v,.int .i64 i40],
 .cells [s41.v,.bool b42,s43.v,s44.v,.bool b45,s46.v,s47.v,.bool b48,s49.v,s50.v,.bool b51,s52.v,s53.v,.bool b54,s55.v,s56.v,.bool b57,s58.v,.int .i64 i59],
 .cells [.bool b60,s61.v,s62.v,.bool b63,s64.v,s65.v,.bool b66,s67.v,s68.v,.bool b69,s70.v,s71.v,.bool b72,s73.v,s74.v,.bool b75,s76.v,s77.v,.int .i64 i78]]
 W80→
 (i79<3→
 (0≤i79∧i79<3)∧
 ∃t81:ByteArray,
 ∃t82:ByteArray,
 BoxAt [.string a0_0,.string a0_1,.string a0_2,.string a0_3,.string a0_4,.string a0_5] (0+Int.toNat i79*2+0) [.string t81,.string t82]∧
 callN Tryz.prog W0 M 106 [.agg ⟨[.string t81,.string t82]⟩] W80 fun v83 W84=>
 ∃s85:Sl,
 ∃b86:Bool,
 ∃s87:Sl,
 ∃s88:Sl,
 ∃b89:Bool,
 ∃s90:Sl,
 ∃b91:Bool,
 ∃s92:Sl,
 ∃s93:Sl,
 ∃b94:Bool,
 ∃s95:Sl,
 ∃s96:Sl,
 ∃b97:Bool,
 v83 = .tuple ⟨[.agg ⟨[s85.v,.bool b86,s87.v,s88.v,.bool b89,s90.v]⟩,.agg ⟨[.bool b91,s92.v,s93.v,.bool b94,s95.v,s96.v]⟩,.bool b97]⟩∧
 ((!b97)=true→
 ∀(W98:PW),
 Ext W84 W98→
 Post
 (.tuple
 {
 toList:=
 [.agg
 {
 toList:=
 [s41.v,.bool b42,s43.v,s44.v,.bool b45,s46.v,s47.v,.bool b48,s49.v,s50.v,.bool b51,s52.v,s53.v,.bool b54,s55.v,s56.v,.bool b57,s58.v,
 .int .i64 i59] },
 .agg
 {
 toList:=
 [.bool b60,s61.v,s62.v,.bool b63,s64.v,s65.v,.bool b66,s67.v,s68.v,.bool b69,s70.v,s71.v,.bool b72,s73.v,s74.v,.bool b75,s76.v,s77.v,
 .int .i64 i78] },
 .bool false] })
 W98)∧
 ((!b97)=false→
 (0≤i79∧i79<3)∧
 ∃t99:ByteArray,
 BoxAt [.string a0_0,.string a0_1,.string a0_2,.string a0_3,.string a0_4,.string a0_5] (0+Int.toNat i79*2+0) [.string t99]∧
 (16<(↑(ByteArray.size t99):Int)→
 ∀(W100:PW),
 Ext W84 W100→
 Post
 (.tuple
 {
 toList:=
 [.agg
 {
 toList:=
 [s41.v,.bool b42,s43.v,s44.v,.bool b45,s46.v,s47.v,.bool b48,s49.v,s50.v,.bool b51,s52.v,s53.v,.bool b54,s55.v,s56.v,.bool b57,s58.v,
 .int .i64 i59] },
 .agg
 {
 toList:=
 [.bool b60,s61.v,s62.v,.bool b63,s64.v,s65.v,.bool b66,s67.v,s68.v,.bool b69,s70.v,s71.v,.bool b72,s73.v,s74.v,.bool b75,s76.v,s77.v,
 .int .i64 i78] },
 .bool false] })
 W100)∧
 (¬16<(↑(ByteArray.size t99):Int)→
 (0≤i79∧i79<3)∧
 ∃t101:ByteArray,
 BoxAt [.string a0_0,.string a0_1,.string a0_2,.string a0_3,.string a0_4,.string a0_5] (0+Int.toNat i79*2+1) [.string t101]∧
 (16<(↑(ByteArray.size t101):Int)→
 ∀(W102:PW),
 Ext W84 W102→
 Post
 (.tuple
 {
 toList:=
 [.agg
 {
 toList:=
 [s41.v,.bool b42,s43.v,s44.v,.bool b45,s46.v,s47.v,.bool b48,s49.v,s50.v,.bool b51,s52.v,s53.v,.bool b54,s55.v,s56.v,.bool b57,
 s58.v,.int .i64 i59] },
 .agg
 {
 toList:=
 [.bool b60,s61.v,s62.v,.bool b63,s64.v,s65.v,.bool b66,s67.v,s68.v,.bool b69,s70.v,s71.v,.bool b72,s73.v,s74.v,.bool b75,s76.v,
 s77.v,.int .i64 i78] },
 .bool false] })
 W102)∧
 (¬16<(↑(ByteArray.size t101):Int)→
 (0≤i79∧i79<3)∧
 Int.toNat i79<3∧
 ((True∧
 (Int.toNat i79=0→
 (0≤i79∧i79<3)∧
 Int.toNat i79<3∧
 ((True∧
 (Int.toNat i79=0→
 I64 (i79+1)∧
 stp F1 F2
 [.val (.int .i64 (i79+1)),
 .cells
 [s3.v,.bool b4,s5.v,s6.v,.bool b7,s8.v,s9.v,.bool b10,s11.v,s12.v,.bool b13,s14.v,s15.v,.bool b16,s17.v,s18.v,.bool b19,
 s20.v,.int .i64 i21],
 .cells
 [.bool b22,s23.v,s24.v,.bool b25,s26.v,s27.v,.bool b28,s29.v,s30.v,.bool b31,s32.v,s33.v,.bool b34,s35.v,s36.v,.bool b37,s38.v,
 s39.v,.int .i64 i40],
 .cells
 [s85.v,.bool b86,s87.v,s88.v,.bool b89,s90.v,s47.v,.bool b48,s49.v,s50.v,.bool b51,s52.v,s53.v,.bool b54,s55.v,s56.v,.bool b57,
 s58.v,.int .i64 i59],
 .cells
 [.bool b91,s92.v,s93.v,.bool b94,s95.v,s96.v,.bool b66,s67.v,s68.v,.bool b69,s70.v,s71.v,.bool b72,s73.v,s74.v,.bool b75,s76.v,
 s77.v,.int .i64 i78]]
 W84
 [.val (.int .i64 i79),
 .cells
 [s3.v,.bool b4,s5.v,s6.v,.bool b7,s8.v,s9.v,.bool b10,s11.v,s12.v,.bool b13,s14.v,s15.v,.bool b16,s17.v,s18.v,.bool b19,
 s20.v,.int .i64 i21],
 .cells
 [.bool b22,s23.v,s24.v,.bool b25,s26.v,s27.v,.bool b28,s29.v,s30.v,.bool b31,s32.v,s33.v,.bool b34,s35.v,s36.v,.bool b37,s38.v,
 s39.v,.int .i64 i40],
 .cells
 [s41.v,.bool b42,s43.v,s44.v,.bool b45,s46.v,s47.v,.bool b48,s49.v,s50.v,.bool b51,s52.v,s53.v,.bool b54,s55.v,s56.v,.bool b57,
 s58.v,.int .i64 i59],
 .cells
 [.bool b60,s61.v,s62.v,.bool b63,s64.v,s65.v,.bool b66,s67.v,s68.v,.bool b69,s70.v,s71.v,.bool b72,s73.v,s74.v,.bool b75,s76.v,
 s77.v,.int .i64 i78]]
 W80))∧
 (Int.toNat i79=1→
 I64 (i79+1)∧
 stp F1 F2
 [.val (.int .i64 (i79+1)),
 .cells
 [s3.v,.bool b4,s5.v,s6.v,.bool b7,s8.v,s9.v,.bool b10,s11.v,s12.v,.bool b13,s14.v,s15.v,.bool b16,s17.v,s18.v,.bool b19,
 s20.v,.int .i64 i21],
 .cells
 [.bool b22,s23.v,s24.v,.bool b25,s26.v,s27.v,.bool b28,s29.v,s30.v,.bool b31,s32.v,s33.v,.bool b34,s35.v,s36.v,.bool b37,s38.v,
 s39.v,.int .i64 i40],
 .cells
 [s85.v,.bool b86,s87.v,s88.v,.bool b89,s90.v,s47.v,.bool b48,s49.v,s50.v,.bool b51,s52.v,s53.v,.bool b54,s55.v,s56.v,.bool b57,
 s58.v,.int .i64 i59],
 .cells
 [.bool b60,s61.v,s62.v,.bool b63,s64.v,s65.v,.bool b91,s92.v,s93.v,.bool b94,s95.v,s96.v,.bool b72,s73.v,s74.v,.bool b75,s76.v,
 s77.v,.int .i64 i78]]
 W84
 [.val (.int .i64 i79),
 .cells
 [s3.v,.bool b4,s5.v,s6.v,.bool b7,s8.v,s9.v,.bool b10,s11.v,s12.v,.bool b13,s14.v,s15.v,.bool b16,s17.v,s18.v,.bool b19,
 s20.v,.int .i64 i21],
 .cells
 [.bool b22,s23.v,s24.v,.bool b25,s26.v,s27.v,.bool b28,s29.v,s30.v,.bool b31,s32.v,s33.v,.bool b34,s35.v,s36.v,.bool b37,s38.v,
 s39.v,.int .i64 i40],
 .cells
 [s41.v,.bool b42,s43.v,s44.v,.bool b45,s46.v,s47.v,.bool b48,s49.v,s50.v,.bool b51,s52.v,s53.v,.bool b54,s55.v,s56.v,.bool b57,
 s58.v,.int .i64 i59],
 .cells
 [.bool b60,s61.v,s62.v,.bool b63,s64.v,s65.v,.bool b66,s67.v,s68.v,.bool b69,s70.v,s71.v,.bool b72,s73.v,s74.v,.bool b75,s76.v,
 s77.v,.int .i64 i78]]
 W80))∧
 (Int.toNat i79=2→
 I64 (i79+1)∧
 stp F1 F2
 [.val (.int .i64 (i79+1)),
 .cells
 [s3.v,.bool b4,s5.v,s6.v,.bool b7,s8.v,s9.v,.bool b10,s11.v,s12.v,.bool b13,s14.v,s15.v,.bool b16,s17.v,s18.v,.bool b19,
 s20.v,.int .i64 i21],
 .cells
 [.bool b22,s23.v,s24.v,.bool b25,s26.v,s27.v,.bool b28,s29.v,s30.v,.bool b31,s32.v,s33.v,.bool b34,s35.v,s36.v,.bool b37,s38.v,
 s39.v,.int .i64 i40],
 .cells
 [s85.v,.bool b86,s87.v,s88.v,.bool b89,s90.v,s47.v,.bool b48,s49.v,s50.v,.bool b51,s52.v,s53.v,.bool b54,s55.v,s56.v,.bool b57,
 s58.v,.int .i64 i59],
 .cells
 [.bool b60,s61.v,s62.v,.bool b63,s64.v,s65.v,.bool b66,s67.v,s68.v,.bool b69,s70.v,s71.v,.bool b91,s92.v,s93.v,.bool b94,s95.v,
 s96.v,.int .i64 i78]]
 W84
 [.val (.int .i64 i79),
 .cells
 [s3.v,.bool b4,s5.v,s6.v,.bool b7,s8.v,s9.v,.bool b10,s11.v,s12.v,.bool b13,s14.v,s15.v,.bool b16,s17.v,s18.v,.bool b19,
 s20.v,.int .i64 i21],
 .cells
 [.bool b22,s23.v,s24.v,.bool b25,s26.v,s27.v,.bool b28,s29.v,s30.v,.bool b31,s32.v,s33.v,.bool b34,s35.v,s36.v,.bool b37,s38.v,
 s39.v,.int .i64 i40],
 .cells
 [s41.v,.bool b42,s43.v,s44.v,.bool b45,s46.v,s47.v,.bool b48,s49.v,s50.v,.bool b51,s52.v,s53.v,.bool b54,s55.v,s56.v,.bool b57,
 s58.v,.int .i64 i59],
 .cells
 [.bool b60,s61.v,s62.v,.bool b63,s64.v,s65.v,.bool b66,s67.v,s68.v,.bool b69,s70.v,s71.v,.bool b72,s73.v,s74.v,.bool b75,s76.v,
 s77.v,.int .i64 i78]]
 W80)))∧
 (Int.toNat i79=1→
 (0≤i79∧i79<3)∧
 Int.toNat i79<3∧
 ((True∧
 (Int.toNat i79=0→
 I64 (i79+1)∧
 stp F1 F2
 [.val (.int .i64 (i79+1)),
 .cells
 [s3.v,.bool b4,s5.v,s6.v,.bool b7,s8.v,s9.v,.bool b10,s11.v,s12.v,.bool b13,s14.v,s15.v,.bool b16,s17.v,s18.v,.bool b19,
 s20.v,.int .i64 i21],
 .cells
 [.bool b22,s23.v,s24.v,.bool b25,s26.v,s27.v,.bool b28,s29.v,s30.v,.bool b31,s32.v,s33.v,.bool b34,s35.v,s36.v,.bool b37,s38.v,
 s39.v,.int .i64 i40],
 .cells
 [s41.v,.bool b42,s43.v,s44.v,.bool b45,s46.v,s85.v,.bool b86,s87.v,s88.v,.bool b89,s90.v,s53.v,.bool b54,s55.v,s56.v,.bool b57,
 s58.v,.int .i64 i59],
 .cells
 [.bool b91,s92.v,s93.v,.bool b94,s95.v,s96.v,.bool b66,s67.v,s68.v,.bool b69,s70.v,s71.v,.bool b72,s73.v,s74.v,.bool b75,s76.v,
 s77.v,.int .i64 i78]]
 W84
 [.val (.int .i64 i79),
 .cells
 [s3.v,.bool b4,s5.v,s6.v,.bool b7,s8.v,s9.v,.bool b10,s11.v,s12.v,.bool b13,s14.v,s15.v,.bool b16,s17.v,s18.v,.bool b19,
 s20.v,.int .i64 i21],
 .cells
 [.bool b22,s23.v,s24.v,.bool b25,s26.v,s27.v,.bool b28,s29.v,s30.v,.bool b31,s32.v,s33.v,.bool b34,s35.v,s36.v,.bool b37,s38.v,
 s39.v,.int .i64 i40],
 .cells
 [s41.v,.bool b42,s43.v,s44.v,.bool b45,s46.v,s47.v,.bool b48,s49.v,s50.v,.bool b51,s52.v,s53.v,.bool b54,s55.v,s56.v,.bool b57,
 s58.v,.int .i64 i59],
 .cells
 [.bool b60,s61.v,s62.v,.bool b63,s64.v,s65.v,.bool b66,s67.v,s68.v,.bool b69,s70.v,s71.v,.bool b72,s73.v,s74.v,.bool b75,s76.v,
 s77.v,.int .i64 i78]]
 W80))∧
 (Int.toNat i79=1→
 I64 (i79+1)∧
 stp F1 F2
 [.val (.int .i64 (i79+1)),
 .cells
 [s3.v,.bool b4,s5.v,s6.v,.bool b7,s8.v,s9.v,.bool b10,s11.v,s12.v,.bool b13,s14.v,s15.v,.bool b16,s17.v,s18.v,.bool b19,
 s20.v,.int .i64 i21],
 .cells
 [.bool b22,s23.v,s24.v,.bool b25,s26.v,s27.v,.bool b28,s29.v,s30.v,.bool b31,s32.v,s33.v,.bool b34,s35.v,s36.v,.bool b37,s38.v,
 s39.v,.int .i64 i40],
 .cells
 [s41.v,.bool b42,s43.v,s44.v,.bool b45,s46.v,s85.v,.bool b86,s87.v,s88.v,.bool b89,s90.v,s53.v,.bool b54,s55.v,s56.v,.bool b57,
 s58.v,.int .i64 i59],
 .cells
 [.bool b60,s61.v,s62.v,.bool b63,s64.v,s65.v,.bool b91,s92.v,s93.v,.bool b94,s95.v,s96.v,.bool b72,s73.v,s74.v,.bool b75,s76.v,
 s77.v,.int .i64 i78]]
 W84
 [.val (.int .i64 i79),
 .cells
 [s3.v,.bool b4,s5.v,s6.v,.bool b7,s8.v,s9.v,.bool b10,s11.v,s12.v,.bool b13,s14.v,s15.v,.bool b16,s17.v,s18.v,.bool b19,
 s20.v,.int .i64 i21],
 .cells
 [.bool b22,s23.v,s24.v,.bool b25,s26.v,s27.v,.bool b28,s29.v,s30.v,.bool b31,s32.v,s33.v,.bool b34,s35.v,s36.v,.bool b37,s38.v,
 s39.v,.int .i64 i40],
 .cells
 [s41.v,.bool b42,s43.v,s44.v,.bool b45,s46.v,s47.v,.bool b48,s49.v,s50.v,.bool b51,s52.v,s53.v,.bool b54,s55.v,s56.v,.bool b57,
 s58.v,.int .i64 i59],
 .cells
 [.bool b60,s61.v,s62.v,.bool b63,s64.v,s65.v,.bool b66,s67.v,s68.v,.bool b69,s70.v,s71.v,.bool b72,s73.v,s74.v,.bool b75,s76.v,
 s77.v,.int .i64 i78]]
 W80))∧
 (Int.toNat i79=2→
 I64 (i79+1)∧
 stp F1 F2
 [.val (.int .i64 (i79+1)),
 .cells
 [s3.v,.bool b4,s5.v,s6.v,.bool b7,s8.v,s9.v,.bool b10,s11.v,s12.v,.bool b13,s14.v,s15.v,.bool b16,s17.v,s18.v,.bool b19,
 s20.v,.int .i64 i21],
 .cells
 [.bool b22,s23.v,s24.v,.bool b25,s26.v,s27.v,.bool b28,s29.v,s30.v,.bool b31,s32.v,s33.v,.bool b34,s35.v,s36.v,.bool b37,s38.v,
 s39.v,.int .i64 i40],
 .cells
 [s41.v,.bool b42,s43.v,s44.v,.bool b45,s46.v,s85.v,.bool b86,s87.v,s88.v,.bool b89,s90.v,s53.v,.bool b54,s55.v,s56.v,.bool b57,
 s58.v,.int .i64 i59],
 .cells
 [.bool b60,s61.v,s62.v,.bool b63,s64.v,s65.v,.bool b66,s67.v,s68.v,.bool b69,s70.v,s71.v,.bool b91,s92.v,s93.v,.bool b94,s95.v,
 s96.v,.int .i64 i78]]
 W84
 [.val (.int .i64 i79),
 .cells
 [s3.v,.bool b4,s5.v,s6.v,.bool b7,s8.v,s9.v,.bool b10,s11.v,s12.v,.bool b13,s14.v,s15.v,.bool b16,s17.v,s18.v,.bool b19,
 s20.v,.int .i64 i21],
 .cells
 [.bool b22,s23.v,s24.v,.bool b25,s26.v,s27.v,.bool b28,s29.v,s30.v,.bool b31,s32.v,s33.v,.bool b34,s35.v,s36.v,.bool b37,s38.v,
 s39.v,.int .i64 i40],
 .cells
 [s41.v,.bool b42,s43.v,s44.v,.bool b45,s46.v,s47.v,.bool b48,s49.v,s50.v,.bool b51,s52.v,s53.v,.bool b54,s55.v,s56.v,.bool b57,
 s58.v,.int .i64 i59],
 .cells
 [.bool b60,s61.v,s62.v,.bool b63,s64.v,s65.v,.bool b66,s67.v,s68.v,.bool b69,s70.v,s71.v,.bool b72,s73.v,s74.v,.bool b75,s76.v,
 s77.v,.int .i64 i78]]
 W80)))∧
 (Int.toNat i79=2→
 (0≤i79∧i79<3)∧
 Int.toNat i79<3∧
 ((True∧
 (Int.toNat i79=0→
 I64 (i79+1)∧
 stp F1 F2
 [.val (.int .i64 (i79+1)),
 .cells
 [s3.v,.bool b4,s5.v,s6.v,.bool b7,s8.v,s9.v,.bool b10,s11.v,s12.v,.bool b13,s14.v,s15.v,.bool b16,s17.v,s18.v,.bool b19,
 s20.v,.int .i64 i21],
 .cells
 [.bool b22,s23.v,s24.v,.bool b25,s26.v,s27.v,.bool b28,s29.v,s30.v,.bool b31,s32.v,s33.v,.bool b34,s35.v,s36.v,.bool b37,s38.v,
 s39.v,.int .i64 i40],
 .cells
 [s41.v,.bool b42,s43.v,s44.v,.bool b45,s46.v,s47.v,.bool b48,s49.v,s50.v,.bool b51,s52.v,s85.v,.bool b86,s87.v,s88.v,.bool b89,
 s90.v,.int .i64 i59],
 .cells
 [.bool b91,s92.v,s93.v,.bool b94,s95.v,s96.v,.bool b66,s67.v,s68.v,.bool b69,s70.v,s71.v,.bool b72,s73.v,s74.v,.bool b75,s76.v,
 s77.v,.int .i64 i78]]
 W84
 [.val (.int .i64 i79),
 .cells
 [s3.v,.bool b4,s5.v,s6.v,.bool b7,s8.v,s9.v,.bool b10,s11.v,s12.v,.bool b13,s14.v,s15.v,.bool b16,s17.v,s18.v,.bool b19,
 s20.v,.int .i64 i21],
 .cells
 [.bool b22,s23.v,s24.v,.bool b25,s26.v,s27.v,.bool b28,s29.v,s30.v,.bool b31,s32.v,s33.v,.bool b34,s35.v,s36.v,.bool b37,s38.v,
 s39.v,.int .i64 i40],
 .cells
 [s41.v,.bool b42,s43.v,s44.v,.bool b45,s46.v,s47.v,.bool b48,s49.v,s50.v,.bool b51,s52.v,s53.v,.bool b54,s55.v,s56.v,.bool b57,
 s58.v,.int .i64 i59],
 .cells
 [.bool b60,s61.v,s62.v,.bool b63,s64.v,s65.v,.bool b66,s67.v,s68.v,.bool b69,s70.v,s71.v,.bool b72,s73.v,s74.v,.bool b75,s76.v,
 s77.v,.int .i64 i78]]
 W80))∧
 (Int.toNat i79=1→
 I64 (i79+1)∧
 stp F1 F2
 [.val (.int .i64 (i79+1)),
 .cells
 [s3.v,.bool b4,s5.v,s6.v,.bool b7,s8.v,s9.v,.bool b10,s11.v,s12.v,.bool b13,s14.v,s15.v,.bool b16,s17.v,s18.v,.bool b19,
 s20.v,.int .i64 i21],
 .cells
 [.bool b22,s23.v,s24.v,.bool b25,s26.v,s27.v,.bool b28,s29.v,s30.v,.bool b31,s32.v,s33.v,.bool b34,s35.v,s36.v,.bool b37,s38.v,
 s39.v,.int .i64 i40],
 .cells
 [s41.v,.bool b42,s43.v,s44.v,.bool b45,s46.v,s47.v,.bool b48,s49.v,s50.v,.bool b51,s52.v,s85.v,.bool b86,s87.v,s88.v,.bool b89,
 s90.v,.int .i64 i59],
 .cells
 [.bool b60,s61.v,s62.v,.bool b63,s64.v,s65.v,.bool b91,s92.v,s93.v,.bool b94,s95.v,s96.v,.bool b72,s73.v,s74.v,.bool b75,s76.v,
 s77.v,.int .i64 i78]]
 W84
 [.val (.int .i64 i79),
 .cells
 [s3.v,.bool b4,s5.v,s6.v,.bool b7,s8.v,s9.v,.bool b10,s11.v,s12.v,.bool b13,s14.v,s15.v,.bool b16,s17.v,s18.v,.bool b19,
 s20.v,.int .i64 i21],
 .cells
 [.bool b22,s23.v,s24.v,.bool b25,s26.v,s27.v,.bool b28,s29.v,s30.v,.bool b31,s32.v,s33.v,.bool b34,s35.v,s36.v,.bool b37,s38.v,
 s39.v,.int .i64 i40],
 .cells
 [s41.v,.bool b42,s43.v,s44.v,.bool b45,s46.v,s47.v,.bool b48,s49.v,s50.v,.bool b51,s52.v,s53.v,.bool b54,s55.v,s56.v,.bool b57,
 s58.v,.int .i64 i59],
 .cells
 [.bool b60,s61.v,s62.v,.bool b63,s64.v,s65.v,.bool b66,s67.v,s68.v,.bool b69,s70.v,s71.v,.bool b72,s73.v,s74.v,.bool b75,s76.v,
 s77.v,.int .i64 i78]]
 W80))∧
 (Int.toNat i79=2→
 I64 (i79+1)∧
 stp F1 F2
 [.val (.int .i64 (i79+1)),
 .cells
 [s3.v,.bool b4,s5.v,s6.v,.bool b7,s8.v,s9.v,.bool b10,s11.v,s12.v,.bool b13,s14.v,s15.v,.bool b16,s17.v,s18.v,.bool b19,s20.v,
 .int .i64 i21],
 .cells
 [.bool b22,s23.v,s24.v,.bool b25,s26.v,s27.v,.bool b28,s29.v,s30.v,.bool b31,s32.v,s33.v,.bool b34,s35.v,s36.v,.bool b37,s38.v,
 s39.v,.int .i64 i40],
 .cells
 [s41.v,.bool b42,s43.v,s44.v,.bool b45,s46.v,s47.v,.bool b48,s49.v,s50.v,.bool b51,s52.v,s85.v,.bool b86,s87.v,s88.v,.bool b89,
 s90.v,.int .i64 i59],
 .cells
 [.bool b60,s61.v,s62.v,.bool b63,s64.v,s65.v,.bool b66,s67.v,s68.v,.bool b69,s70.v,s71.v,.bool b91,s92.v,s93.v,.bool b94,s95.v,
 s96.v,.int .i64 i78]]
 W84
 [.val (.int .i64 i79),
 .cells
 [s3.v,.bool b4,s5.v,s6.v,.bool b7,s8.v,s9.v,.bool b10,s11.v,s12.v,.bool b13,s14.v,s15.v,.bool b16,s17.v,s18.v,.bool b19,s20.v,
 .int .i64 i21],
 .cells
 [.bool b22,s23.v,s24.v,.bool b25,s26.v,s27.v,.bool b28,s29.v,s30.v,.bool b31,s32.v,s33.v,.bool b34,s35.v,s36.v,.bool b37,s38.v,
 s39.v,.int .i64 i40],
 .cells
 [s41.v,.bool b42,s43.v,s44.v,.bool b45,s46.v,s47.v,.bool b48,s49.v,s50.v,.bool b51,s52.v,s53.v,.bool b54,s55.v,s56.v,.bool b57,
 s58.v,.int .i64 i59],
 .cells
 [.bool b60,s61.v,s62.v,.bool b63,s64.v,s65.v,.bool b66,s67.v,s68.v,.bool b69,s70.v,s71.v,.bool b72,s73.v,s74.v,.bool b75,s76.v,
 s77.v,.int .i64 i78]]
 W80))))))∧
 (¬i79<3→
 ∀(W103:PW),
 Ext W80 W103→
 Post
 (.tuple
 {
 toList:=
 [.agg ⟨[s41.v,.bool b42,s43.v,s44.v,.bool b45,s46.v,s47.v,.bool b48,s49.v,s50.v,.bool b51,s52.v,s53.v,.bool b54,s55.v,s56.v,.bool b57,s58.v,.int .i64 i59]⟩,
 .agg ⟨[.bool b60,s61.v,s62.v,.bool b63,s64.v,s65.v,.bool b66,s67.v,s68.v,.bool b69,s70.v,s71.v,.bool b72,s73.v,s74.v,.bool b75,s76.v,s77.v,.int .i64 i78]⟩,
 .bool true] })
 W103)
theorem calllaw15_Domain (W0:PW) (M:Nat→Prop) (a0_0:ByteArray) (a0_1:ByteArray) (a0_2:ByteArray) (a0_3:ByteArray) (a0_4:ByteArray) (a0_5:ByteArray) (a1:Int) (Post:Value→PW→Prop) (h:Rlaw15_Domain W0 M a0_0 a0_1 a0_2 a0_3 a0_4 a0_5 a1 Post):PCallsM Tryz.prog 44 [.agg #[.string a0_0,.string a0_1,.string a0_2,.string a0_3,.string a0_4,.string a0_5],.int .i64 a1] W0 M Post:=
 fn_sound rfl tt_ok tt_in Tryz.func44 (cuts:=[]) rfl rfl (Nat.le_of_ble_eq_true rfl) (Eq.mpr (by kernel_rfl) h)
def Rlaw15_alive (W0:PW) (M:Nat→Prop) (Post:Value→PW→Prop):Prop:=
 callN Tryz.prog W0 M 44
 [.agg
 {
 toList:=
 [.string (ByteArray.mk #[48]),.string (ByteArray.mk #[50]),.string (ByteArray.mk #[48]),.string (ByteArray.mk #[48]),.string (ByteArray.mk #[48]),
 .string (ByteArray.mk #[49])] },
 .int .i64 1]
 W0 fun v1 W2=>
 ∃s3:Sl,
 ∃b4:Bool,
 ∃s5:Sl,
 ∃s6:Sl,
 ∃b7:Bool,
 ∃s8:Sl,
 ∃s9:Sl,
 ∃b10:Bool,
 ∃s11:Sl,
 ∃s12:Sl,
 ∃b13:Bool,
 ∃s14:Sl,
 ∃s15:Sl,
 ∃b16:Bool,
 ∃s17:Sl,
 ∃s18:Sl,
 ∃b19:Bool,
 ∃s20:Sl,
 ∃i21:Int,
 ∃b22:Bool,
 ∃s23:Sl,
 ∃s24:Sl,
 ∃b25:Bool,
 ∃s26:Sl,
 ∃s27:Sl,
 ∃b28:Bool,
 ∃s29:Sl,
 ∃s30:Sl,
 ∃b31:Bool,
 ∃s32:Sl,
 ∃s33:Sl,
 ∃b34:Bool,
 ∃s35:Sl,
 ∃s36:Sl,
 ∃b37:Bool,
 ∃s38:Sl,
 ∃s39:Sl,
 ∃i40:Int,
 ∃b41:Bool,
 v1 =
 .tuple
 {
 toList:=
 [.agg
 {
 toList:=
 [s3.v,.bool b4,s5.v,s6.v,.bool b7,s8.v,s9.v,.bool b10,s11.v,s12.v,.bool b13,s14.v,s15.v,.bool b16,s17.v,s18.v,.bool b19,s20.v,
 .int .i64 i21] },
 .agg
 {
 toList:=
 [.bool b22,s23.v,s24.v,.bool b25,s26.v,s27.v,.bool b28,s29.v,s30.v,.bool b31,s32.v,s33.v,.bool b34,s35.v,s36.v,.bool b37,s38.v,
 s39.v,.int .i64 i40] },
 .bool b41] }∧
 callN Tryz.prog W0 M 17 [.int .i64 0] W2 fun v42 W43=>
 ∃s44:Sl,
 v42 = .agg ⟨[s44.v]⟩∧
 callN Tryz.prog W0 M 53
 [.agg
 {
 toList:=
 [s3.v,.bool b4,s5.v,s6.v,.bool b7,s8.v,s9.v,.bool b10,s11.v,s12.v,.bool b13,s14.v,s15.v,.bool b16,s17.v,s18.v,.bool b19,s20.v,
 .int .i64 i21] },
 .agg ⟨[s44.v,.slice none 0 0,.bool false,.slice none 0 0,.slice none 0 0,.bool false,.slice none 0 0]⟩,
 .agg ⟨[s44.v,.slice none 0 0,.bool false,.slice none 0 0,.slice none 0 0,.bool false,.slice none 0 0]⟩]
 W43 fun v45 W46=>
 ∃s47:Sl,
 ∃s48:Sl,
 ∃b49:Bool,
 ∃s50:Sl,
 ∃s51:Sl,
 ∃b52:Bool,
 ∃s53:Sl,
 ∃b54:Bool,
 v45 = .tuple ⟨[.agg ⟨[s47.v,s48.v,.bool b49,s50.v,s51.v,.bool b52,s53.v]⟩,.bool b54]⟩∧
 (b41=true→
 (b54=true→
 callN Tryz.prog W0 M 85 [.agg ⟨[s47.v]⟩] W46 fun v55 W56=>
 ∃s57:Sl,
 v55=s57.v∧
 ((s57.2:Int)=0→
 callN Tryz.prog W0 M 132 [.int .i64 0] W56 fun v58 W59=>
 ∃b60:Bool,
 ∃s61:Sl,
 ∃s62:Sl,
 v58 = .agg ⟨[.bool b60,s61.v,s62.v]⟩∧
 callN Tryz.prog W0 M 132 [.int .i64 4] W59 fun v63 W64=>
 ∃b65:Bool,
 ∃s66:Sl,
 ∃s67:Sl,
 v63 = .agg ⟨[.bool b65,s66.v,s67.v]⟩∧
 callN Tryz.prog W0 M 60
 [.agg ⟨[s48.v,.bool b49,s50.v,s51.v,.bool b52,s53.v]⟩,
 .agg ⟨[.bool b60,s61.v,s62.v,.bool b65,s66.v,s67.v]⟩]
 W64 fun v68 W69=>∃b70:Bool,v68 = .bool b70∧∀(W71:PW),Ext W69 W71→Post (.bool b70) W71)∧
 (¬(s57.2:Int)=0→Ext W56 W56∧Ext W56 W56∧∀(W72:PW),Ext W56 W72→Post (.bool false) W72))∧
 (b54=false→Ext W46 W46∧Ext W46 W46∧∀(W73:PW),Ext W46 W73→Post (.bool false) W73))∧
 (b41=false→Ext W46 W46∧Ext W46 W46∧∀(W74:PW),Ext W46 W74→Post (.bool false) W74)
theorem calllaw15_alive (W0:PW) (M:Nat→Prop) (Post:Value→PW→Prop) (h:Rlaw15_alive W0 M Post):PCallsM Tryz.prog 46 [] W0 M Post:=
 fn_sound rfl tt_ok tt_in Tryz.func46 (cuts:=[]) rfl rfl (Nat.le_of_ble_eq_true rfl) (Eq.mpr (by kernel_rfl) h)
end Go.Proofs.YthpmkcidkcmlgaaGreat
