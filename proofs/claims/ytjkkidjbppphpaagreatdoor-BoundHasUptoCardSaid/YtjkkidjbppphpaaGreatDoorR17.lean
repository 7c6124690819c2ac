/- R17 -/
import Derived.Test.YtjkkidjbppphpaaGreatDoorTt
set_option linter.unusedVariables false
set_option linter.unusedSimpArgs false
set_option maxRecDepth 100000
set_option linter.unusedVariables false
namespace Go.Proofs.YtjkkidjbppphpaaGreatDoor
open Go Go.SX
def Rspan_Sub (W0:PW) (M:Nat→Prop) (a0_0:Sl) (a0_1:Bool) (a0_2:Sl) (a0_3:Sl) (a0_4:Bool) (a0_5:Sl) (a1_0:Sl) (a1_1:Bool) (a1_2:Sl) (a1_3:Sl) (a1_4:Bool) (a1_5:Sl) (Post:Value→PW→Prop):Prop:=
 callN Tryz.prog W0 M 184 [.agg ⟨[a0_0.v,.bool a0_1,a0_2.v]⟩,.agg ⟨[a1_3.v,.bool a1_4,a1_5.v]⟩] W0 fun v1 W2=>
 ∃s3:Sl,
 ∃b4:Bool,
 ∃s5:Sl,
 v1 = .agg ⟨[s3.v,.bool b4,s5.v]⟩∧
 callN Tryz.prog W0 M 184 [.agg ⟨[a0_3.v,.bool a0_4,a0_5.v]⟩,.agg ⟨[a1_0.v,.bool a1_1,a1_2.v]⟩] W2 fun v6 W7=>
 ∃s8:Sl,∃b9:Bool,∃s10:Sl,v6 = .agg ⟨[s8.v,.bool b9,s10.v]⟩∧∀(W11:PW),Ext W7 W11→Post (.agg ⟨[s3.v,.bool b4,s5.v,s8.v,.bool b9,s10.v]⟩) W11
theorem callspan_Sub (W0:PW) (M:Nat→Prop) (a0_0:Sl) (a0_1:Bool) (a0_2:Sl) (a0_3:Sl) (a0_4:Bool) (a0_5:Sl) (a1_0:Sl) (a1_1:Bool) (a1_2:Sl) (a1_3:Sl) (a1_4:Bool) (a1_5:Sl) (Post:Value→PW→Prop) (h:Rspan_Sub W0 M a0_0 a0_1 a0_2 a0_3 a0_4 a0_5 a1_0 a1_1 a1_2 a1_3 a1_4 a1_5 Post):PCallsM Tryz.prog 129 [.agg #[a0_0.v,.bool a0_1,a0_2.v,a0_3.v,.bool a0_4,a0_5.v],.agg #[a1_0.v,.bool a1_1,a1_2.v,a1_3.v,.bool a1_4,a1_5.v]] W0 M Post:=
 fn_sound rfl tt_ok tt_in Tryz.func129 (cuts:=[]) rfl rfl (Nat.le_of_ble_eq_true rfl) (Eq.mpr (by kernel_rfl) h)
def Rspan_half (W0:PW) (M:Nat→Prop) (a0_0:Sl) (a0_1:Bool) (a0_2:Sl) (Post:Value→PW→Prop):Prop:=
 callN Tryz.prog W0 M 103 [.int .i64 2] W0 fun v1 W2=>
 ∃s3:Sl,
 ∃b4:Bool,
 ∃s5:Sl,
 v1 = .agg ⟨[s3.v,.bool b4,s5.v]⟩∧
 callN Tryz.prog W0 M 108 [.agg ⟨[a0_0.v,.bool a0_1,a0_2.v]⟩,.agg ⟨[s3.v,.bool b4,s5.v]⟩] W2 fun v6 W7=>
 ∃s8:Sl,∃b9:Bool,∃s10:Sl,∃b11:Bool,v6 = .tuple ⟨[.agg ⟨[s8.v,.bool b9,s10.v]⟩,.bool b11]⟩∧∀(W12:PW),Ext W7 W12→Post (.agg ⟨[s8.v,.bool b9,s10.v]⟩) W12
theorem callspan_half (W0:PW) (M:Nat→Prop) (a0_0:Sl) (a0_1:Bool) (a0_2:Sl) (Post:Value→PW→Prop) (h:Rspan_half W0 M a0_0 a0_1 a0_2 Post):PCallsM Tryz.prog 177 [.agg #[a0_0.v,.bool a0_1,a0_2.v]] W0 M Post:=
 fn_sound rfl tt_ok tt_in Tryz.func177 (cuts:=[]) rfl rfl (Nat.le_of_ble_eq_true rfl) (Eq.mpr (by kernel_rfl) h)
def Rspan_Mid (W0:PW) (M:Nat→Prop) (a0_0:Sl) (a0_1:Bool) (a0_2:Sl) (a0_3:Sl) (a0_4:Bool) (a0_5:Sl) (Post:Value→PW→Prop):Prop:=
 callN Tryz.prog W0 M 48 [.agg ⟨[a0_0.v,.bool a0_1,a0_2.v]⟩,.agg ⟨[a0_3.v,.bool a0_4,a0_5.v]⟩] W0 fun v1 W2=>
 ∃s3:Sl,
 ∃b4:Bool,
 ∃s5:Sl,
 v1 = .agg ⟨[s3.v,.bool b4,s5.v]⟩∧
 callN Tryz.prog W0 M 177 [.agg ⟨[s3.v,.bool b4,s5.v]⟩] W2 fun v6 W7=>
 ∃s8:Sl,∃b9:Bool,∃s10:Sl,v6 = .agg ⟨[s8.v,.bool b9,s10.v]⟩∧∀(W11:PW),Ext W7 W11→Post (.agg ⟨[s8.v,.bool b9,s10.v]⟩) W11
theorem callspan_Mid (W0:PW) (M:Nat→Prop) (a0_0:Sl) (a0_1:Bool) (a0_2:Sl) (a0_3:Sl) (a0_4:Bool) (a0_5:Sl) (Post:Value→PW→Prop) (h:Rspan_Mid W0 M a0_0 a0_1 a0_2 a0_3 a0_4 a0_5 Post):PCallsM Tryz.prog 100 [.agg #[a0_0.v,.bool a0_1,a0_2.v,a0_3.v,.bool a0_4,a0_5.v]] W0 M Post:=
 fn_sound rfl tt_ok tt_in Tryz.func100 (cuts:=[]) rfl rfl (Nat.le_of_ble_eq_true rfl) (Eq.mpr (by kernel_rfl) h)
def Rspan_Within (W0:PW) (M:Nat→Prop) (a0_0:Sl) (a0_1:Bool) (a0_2:Sl) (a0_3:Sl) (a0_4:Bool) (a0_5:Sl) (a1_0:Sl) (a1_1:Bool) (a1_2:Sl) (a1_3:Sl) (a1_4:Bool) (a1_5:Sl) (Post:Value→PW→Prop):Prop:=
 callN Tryz.prog W0 M 47 [.agg ⟨[a1_0.v,.bool a1_1,a1_2.v]⟩,.agg ⟨[a0_0.v,.bool a0_1,a0_2.v]⟩] W0 fun v1 W2=>
 ∃i3:Int,
 v1 = .int .i64 i3∧
 (i3≤0→
 callN Tryz.prog W0 M 47 [.agg ⟨[a0_3.v,.bool a0_4,a0_5.v]⟩,.agg ⟨[a1_3.v,.bool a1_4,a1_5.v]⟩] W2 fun v4 W5=>
 ∃i6:Int,v4 = .int .i64 i6∧∀(W7:PW),Ext W5 W7→Post (.bool (decide (i6≤0))) W7)∧
 (¬i3≤0→∀(W8:PW),Ext W2 W8→Post (.bool false) W8)
theorem callspan_Within (W0:PW) (M:Nat→Prop) (a0_0:Sl) (a0_1:Bool) (a0_2:Sl) (a0_3:Sl) (a0_4:Bool) (a0_5:Sl) (a1_0:Sl) (a1_1:Bool) (a1_2:Sl) (a1_3:Sl) (a1_4:Bool) (a1_5:Sl) (Post:Value→PW→Prop) (h:Rspan_Within W0 M a0_0 a0_1 a0_2 a0_3 a0_4 a0_5 a1_0 a1_1 a1_2 a1_3 a1_4 a1_5 Post):PCallsM Tryz.prog 27 [.agg #[a0_0.v,.bool a0_1,a0_2.v,a0_3.v,.bool a0_4,a0_5.v],.agg #[a1_0.v,.bool a1_1,a1_2.v,a1_3.v,.bool a1_4,a1_5.v]] W0 M Post:=
 fn_sound rfl tt_ok tt_in Tryz.func27 (cuts:=[]) rfl rfl (Nat.le_of_ble_eq_true rfl) (Eq.mpr (by kernel_rfl) h)
def Rspan_Meet (W0:PW) (M:Nat→Prop) (a0_0:Sl) (a0_1:Bool) (a0_2:Sl) (a0_3:Sl) (a0_4:Bool) (a0_5:Sl) (a1_0:Sl) (a1_1:Bool) (a1_2:Sl) (a1_3:Sl) (a1_4:Bool) (a1_5:Sl) (Post:Value→PW→Prop):Prop:=
 callN Tryz.prog W0 M 176 [.agg ⟨[a0_0.v,.bool a0_1,a0_2.v]⟩,.agg ⟨[a1_0.v,.bool a1_1,a1_2.v]⟩] W0 fun v1 W2=>
 ∃s3:Sl,
 ∃b4:Bool,
 ∃s5:Sl,
 v1 = .agg ⟨[s3.v,.bool b4,s5.v]⟩∧
 callN Tryz.prog W0 M 175 [.agg ⟨[a0_3.v,.bool a0_4,a0_5.v]⟩,.agg ⟨[a1_3.v,.bool a1_4,a1_5.v]⟩] W2 fun v6 W7=>
 ∃s8:Sl,
 ∃b9:Bool,
 ∃s10:Sl,
 v6 = .agg ⟨[s8.v,.bool b9,s10.v]⟩∧
 callN Tryz.prog W0 M 168 [.agg ⟨[s3.v,.bool b4,s5.v]⟩,.agg ⟨[s8.v,.bool b9,s10.v]⟩] W7 fun v11 W12=>
 ∃s13:Sl,
 ∃b14:Bool,
 ∃s15:Sl,
 ∃s16:Sl,
 ∃b17:Bool,
 ∃s18:Sl,
 ∃b19:Bool,
 v11 = .tuple ⟨[.agg ⟨[s13.v,.bool b14,s15.v,s16.v,.bool b17,s18.v]⟩,.bool b19]⟩∧
 ∀(W20:PW),Ext W12 W20→Post (.tuple ⟨[.agg ⟨[s13.v,.bool b14,s15.v,s16.v,.bool b17,s18.v]⟩,.bool b19]⟩) W20
theorem callspan_Meet (W0:PW) (M:Nat→Prop) (a0_0:Sl) (a0_1:Bool) (a0_2:Sl) (a0_3:Sl) (a0_4:Bool) (a0_5:Sl) (a1_0:Sl) (a1_1:Bool) (a1_2:Sl) (a1_3:Sl) (a1_4:Bool) (a1_5:Sl) (Post:Value→PW→Prop) (h:Rspan_Meet W0 M a0_0 a0_1 a0_2 a0_3 a0_4 a0_5 a1_0 a1_1 a1_2 a1_3 a1_4 a1_5 Post):PCallsM Tryz.prog 147 [.agg #[a0_0.v,.bool a0_1,a0_2.v,a0_3.v,.bool a0_4,a0_5.v],.agg #[a1_0.v,.bool a1_1,a1_2.v,a1_3.v,.bool a1_4,a1_5.v]] W0 M Post:=
 fn_sound rfl tt_ok tt_in Tryz.func147 (cuts:=[]) rfl rfl (Nat.le_of_ble_eq_true rfl) (Eq.mpr (by kernel_rfl) h)
def Rbox_Mid (W0:PW) (M:Nat→Prop) (a0:Sl) (Post:Value→PW→Prop):Prop:=
 callN Tryz.prog W0 M 98 [a0.v] W0 fun v1 W2=>
 ∃b3:Bool,
 v1 = .bool b3∧
 ((!b3)=true→∀(W4:PW),Ext W2 W4→Post (.slice none 0 0) W4)∧
 ((!b3)=false→
 ∃(F5:List PL→PW→Prop),
 ∃(F6:List PL→PW→Nat),
 F5 [.row [],.val (.int .i64 0)] W2∧
 ∀(l7:List (List Value)) (i8:Int) (W9:PW),
 F5 [.row l7,.val (.int .i64 i8)] W9→
 (i8<(a0.2:Int)→
 inB a0 i8∧
 ∃s10:Sl,
 ∃b11:Bool,
 ∃s12:Sl,
 ∃s13:Sl,
 ∃b14:Bool,
 ∃s15:Sl,
 ElemAt W9 a0 6 (Int.toNat i8) 0 [s10.v,.bool b11,s12.v,s13.v,.bool b14,s15.v]∧
 callN Tryz.prog W0 M 100 [.agg ⟨[s10.v,.bool b11,s12.v,s13.v,.bool b14,s15.v]⟩] W9 fun v16 W17=>
 ∃s18:Sl,
 ∃b19:Bool,
 ∃s20:Sl,
 v16 = .agg ⟨[s18.v,.bool b19,s20.v]⟩∧
 (List.length l7+List.length [[s18.v,.bool b19,s20.v]])*56≤140737488355328∧
 I64 (i8+1)∧stp F5 F6 [.row (l7 ++ [[s18.v,.bool b19,s20.v]]),.val (.int .i64 (i8+1))] W17 [.row l7,.val (.int .i64 i8)] W9)∧
 (¬i8<(a0.2:Int)→∀(s21:Sl) (W22:PW),Ext W9 W22→SX.Own W22 40 3 s21 l7→Fr W0 W9 s21→∀(W23:PW),Ext W22 W23→Post s21.v W23))
theorem callbox_Mid (W0:PW) (M:Nat→Prop) (a0:Sl) (Post:Value→PW→Prop) (h:Rbox_Mid W0 M a0 Post):PCallsM Tryz.prog 127 [a0.v] W0 M Post:=
 fn_sound rfl tt_ok tt_in Tryz.func127 (cuts:=[]) rfl rfl (Nat.le_of_ble_eq_true rfl) (Eq.mpr (by kernel_rfl) h)
def Rbound_Sides (W0:PW) (M:Nat→Prop) (a0_0:Sl) (a1:Sl) (Post:Value→PW→Prop):Prop:=
 callN Tryz.prog W0 M 98 [a1.v] W0 fun v1 W2=>
 ∃b3:Bool,
 v1 = .bool b3∧
 (b3=true→callN Tryz.prog W0 M 23 [.agg ⟨[a0_0.v]⟩] W2 fun v4 W5=>∃i6:Int,v4 = .int .i64 i6∧∀(W7:PW),Ext W5 W7→Post (.bool (decide (i6≤(a1.2:Int)))) W7)∧
 (b3=false→∀(W8:PW),Ext W2 W8→Post (.bool false) W8)
theorem callbound_Sides (W0:PW) (M:Nat→Prop) (a0_0:Sl) (a1:Sl) (Post:Value→PW→Prop) (h:Rbound_Sides W0 M a0_0 a1 Post):PCallsM Tryz.prog 62 [.agg #[a0_0.v],a1.v] W0 M Post:=
 fn_sound rfl tt_ok tt_in Tryz.func62 (cuts:=[]) rfl rfl (Nat.le_of_ble_eq_true rfl) (Eq.mpr (by kernel_rfl) h)
def Rbound_three (W0:PW) (M:Nat→Prop) (a0:Sl) (Post:Value→PW→Prop):Prop:=
 ∃(l1:List (List Value)),
 RowA W0 6 a0 l1∧
 shpsB [Shp.slice,Shp.bool,Shp.slice,Shp.slice,Shp.bool,Shp.slice,Shp.slice,Shp.bool,Shp.slice,Shp.slice,Shp.bool,Shp.slice,Shp.slice,Shp.bool,Shp.slice,Shp.slice,Shp.bool,Shp.slice]
 (setL
 [.slice none 0 0,.bool false,.slice none 0 0,.slice none 0 0,.bool false,.slice none 0 0,.slice none 0 0,.bool false,.slice none 0 0,
 .slice none 0 0,.bool false,.slice none 0 0,.slice none 0 0,.bool false,.slice none 0 0,.slice none 0 0,.bool false,.slice none 0 0]
 0 (List.flatten (List.take 3 l1))) =
 true∧
 ∀(s2:Sl) (b3:Bool) (s4 s5:Sl) (b6:Bool) (s7 s8:Sl) (b9:Bool) (s10 s11:Sl) (b12:Bool) (s13 s14:Sl) (b15:Bool) (s16 s17:Sl) (b18:Bool) (s19:Sl),
 [s2.v,.bool b3,s4.v,s5.v,.bool b6,s7.v,s8.v,.bool b9,s10.v,s11.v,.bool b12,s13.v,s14.v,.bool b15,s16.v,s17.v,.bool b18,s19.v] =
 setL
 [.slice none 0 0,.bool false,.slice none 0 0,.slice none 0 0,.bool false,.slice none 0 0,.slice none 0 0,.bool false,.slice none 0 0,
 .slice none 0 0,.bool false,.slice none 0 0,.slice none 0 0,.bool false,.slice none 0 0,.slice none 0 0,.bool false,.slice none 0 0]
 0 (List.flatten (List.take 3 l1))→
 ∀(W20:PW),Ext W0 W20→Post (.agg ⟨[s2.v,.bool b3,s4.v,s5.v,.bool b6,s7.v,s8.v,.bool b9,s10.v,s11.v,.bool b12,s13.v,s14.v,.bool b15,s16.v,s17.v,.bool b18,s19.v]⟩) W20
theorem callbound_three (W0:PW) (M:Nat→Prop) (a0:Sl) (Post:Value→PW→Prop) (h:Rbound_three W0 M a0 Post):PCallsM Tryz.prog 93 [a0.v] W0 M Post:=
 fn_sound rfl tt_ok tt_in Tryz.func93 (cuts:=[]) rfl rfl (Nat.le_of_ble_eq_true rfl) (Eq.mpr (by kernel_rfl) h)
def Rbound_Natural (W0:PW) (M:Nat→Prop) (a0_0:Sl) (a1:Sl) (Post:Value→PW→Prop):Prop:=
 callN Tryz.prog W0 M 62 [.agg ⟨[a0_0.v]⟩,a1.v] W0 fun v1 W2=>
 ∃b3:Bool,
 v1 = .bool b3∧
 ((!b3)=true→
 ∀(W4:PW),Ext W2 W4→Post (.tuple ⟨[.agg ⟨[.slice none 0 0,.bool false,.slice none 0 0,.slice none 0 0,.bool false,.slice none 0 0]⟩,.bool false]⟩) W4)∧
 ((!b3)=false→
 callN Tryz.prog W0 M 93 [a1.v] W2 fun v5 W6=>
 ∃s7:Sl,
 ∃b8:Bool,
 ∃s9:Sl,
 ∃s10:Sl,
 ∃b11:Bool,
 ∃s12:Sl,
 ∃s13:Sl,
 ∃b14:Bool,
 ∃s15:Sl,
 ∃s16:Sl,
 ∃b17:Bool,
 ∃s18:Sl,
 ∃s19:Sl,
 ∃b20:Bool,
 ∃s21:Sl,
 ∃s22:Sl,
 ∃b23:Bool,
 ∃s24:Sl,
 v5 = .agg ⟨[s7.v,.bool b8,s9.v,s10.v,.bool b11,s12.v,s13.v,.bool b14,s15.v,s16.v,.bool b17,s18.v,s19.v,.bool b20,s21.v,s22.v,.bool b23,s24.v]⟩∧
 callN Tryz.prog W0 M 19
 [.agg ⟨[a0_0.v]⟩,
 .agg ⟨[s7.v,.bool b8,s9.v,s10.v,.bool b11,s12.v,s13.v,.bool b14,s15.v,s16.v,.bool b17,s18.v,s19.v,.bool b20,s21.v,s22.v,.bool b23,s24.v]⟩]
 W6 fun v25 W26=>
 ∃s27:Sl,
 ∃b28:Bool,
 ∃s29:Sl,
 ∃s30:Sl,
 ∃b31:Bool,
 ∃s32:Sl,
 v25 = .agg ⟨[s27.v,.bool b28,s29.v,s30.v,.bool b31,s32.v]⟩∧
 ∀(W33:PW),Ext W26 W33→Post (.tuple ⟨[.agg ⟨[s27.v,.bool b28,s29.v,s30.v,.bool b31,s32.v]⟩,.bool true]⟩) W33)
theorem callbound_Natural (W0:PW) (M:Nat→Prop) (a0_0:Sl) (a1:Sl) (Post:Value→PW→Prop) (h:Rbound_Natural W0 M a0_0 a1 Post):PCallsM Tryz.prog 24 [.agg #[a0_0.v],a1.v] W0 M Post:=
 fn_sound rfl tt_ok tt_in Tryz.func24 (cuts:=[]) rfl rfl (Nat.le_of_ble_eq_true rfl) (Eq.mpr (by kernel_rfl) h)
def Rlaw9_alive (W0:PW) (M:Nat→Prop) (Post:Value→PW→Prop):Prop:=
 ∀(s1:Sl) (W2:PW),
 Ext W0 W2→
 SX.Own W2 24 2 s1 [[.string (ByteArray.mk #[48]),.string (ByteArray.mk #[49])]]→
 Fr W0 W0 s1→
 callN Tryz.prog W0 M 77 [s1.v] W2 fun v3 W4=>
 ∃s5:Sl,
 ∃i6:Int,
 v3 = .tuple ⟨[s5.v,.int .i64 i6]⟩∧
 callN Tryz.prog W0 M 49 [.int .i64 0] W4 fun v7 W8=>
 ∃s9:Sl,
 v7 = .agg ⟨[s9.v]⟩∧
 callN Tryz.prog W0 M 78 [.agg ⟨[s9.v]⟩,.agg ⟨[s9.v]⟩] W8 fun v10 W11=>
 ∃s12:Sl,
 ∃b13:Bool,
 v10 = .tuple ⟨[.agg ⟨[s12.v]⟩,.bool b13]⟩∧
 callN Tryz.prog W0 M 79 [.agg ⟨[s12.v]⟩,.agg ⟨[s9.v]⟩] W11 fun v14 W15=>
 ∃s16:Sl,
 v14 = .agg ⟨[s16.v]⟩∧
 callN Tryz.prog W0 M 24 [.agg ⟨[s16.v]⟩,s5.v] W15 fun v17 W18=>
 ∃s19:Sl,
 ∃b20:Bool,
 ∃s21:Sl,
 ∃s22:Sl,
 ∃b23:Bool,
 ∃s24:Sl,
 ∃b25:Bool,
 v17 = .tuple ⟨[.agg ⟨[s19.v,.bool b20,s21.v,s22.v,.bool b23,s24.v]⟩,.bool b25]⟩∧
 (i6=0→
 (b13=true→
 (b25=true→
 callN Tryz.prog W0 M 80 [.int .i64 (-1:Int)] W18 fun v26 W27=>
 ∃b28:Bool,
 ∃s29:Sl,
 ∃s30:Sl,
 v26 = .agg ⟨[.bool b28,s29.v,s30.v]⟩∧
 callN Tryz.prog W0 M 80 [.int .i64 1] W27 fun v31 W32=>
 ∃b33:Bool,
 ∃s34:Sl,
 ∃s35:Sl,
 v31 = .agg ⟨[.bool b33,s34.v,s35.v]⟩∧
 callN Tryz.prog W0 M 18 [.agg ⟨[s19.v,.bool b20,s21.v,s22.v,.bool b23,s24.v]⟩,.agg ⟨[.bool b28,s29.v,s30.v,.bool b33,s34.v,s35.v]⟩] W32
 fun v36 W37=>∃b38:Bool,v36 = .bool b38∧∀(W39:PW),Ext W37 W39→Post (.bool b38) W39)∧
 (b25=false→∀(W40:PW),Ext W18 W40→Post (.bool false) W40))∧
 (b13=false→∀(W41:PW),Ext W18 W41→Post (.bool false) W41))∧
 (¬i6=0→∀(W42:PW),Ext W18 W42→Post (.bool false) W42)
theorem calllaw9_alive (W0:PW) (M:Nat→Prop) (Post:Value→PW→Prop) (h:Rlaw9_alive W0 M Post):PCallsM Tryz.prog 16 [] W0 M Post:=
 fn_sound rfl tt_ok tt_in Tryz.func16 (cuts:=[]) rfl rfl (Nat.le_of_ble_eq_true rfl) (Eq.mpr (by kernel_rfl) h)
def Rlaw9_Inside (W0:PW) (M:Nat→Prop) (a0:Sl) (a1_0:Int) (a1_1:Int) (a1_2:Int) (Post:Value→PW→Prop):Prop:=
 ∃(F1:List PL→PW→Prop),
 ∃(F2:List PL→PW→Nat),
 F1
 [.row [],.val (.int .i64 0),
 .cells [.slice none 0 0,.bool false,.slice none 0 0,.slice none 0 0,.bool false,.slice none 0 0,.slice none 0 0,.bool false,.slice none 0 0]]
 W0∧
 ∀(s3:Sl) (b4:Bool) (s5 s6:Sl) (b7:Bool) (s8 s9:Sl) (b10:Bool) (s11:Sl) (l12:List (List Value)) (i13:Int) (W14:PW),
 F1 [.row l12,.val (.int .i64 i13),.cells [s3.v,.bool b4,s5.v,s6.v,.bool b7,s8.v,s9.v,.bool b10,s11.v]] W14→
 (i13<(a0.2:Int)→
 (i13<3→
 (0≤i13∧i13<3)∧
 ∃i15:Int,
 BoxAt [.int .i64 a1_0,.int .i64 a1_1,.int .i64 a1_2] (0+Int.toNat i13*1+0) [.int .i64 i15]∧
 callN Tryz.prog W0 M 32 [.int .i64 i15,.int .i64 0,.int .i64 8] W14 fun v16 W17=>
 ∃i18:Int,
 v16 = .int .i64 i18∧
 callN Tryz.prog W0 M 103 [.int .i64 i18] W17 fun v19 W20=>
 ∃s21:Sl,
 ∃b22:Bool,
 ∃s23:Sl,
 v19 = .agg ⟨[s21.v,.bool b22,s23.v]⟩∧
 callN Tryz.prog W0 M 103 [.int .i64 8] W20 fun v24 W25=>
 ∃s26:Sl,
 ∃b27:Bool,
 ∃s28:Sl,
 v24 = .agg ⟨[s26.v,.bool b27,s28.v]⟩∧
 callN Tryz.prog W0 M 108 [.agg ⟨[s21.v,.bool b22,s23.v]⟩,.agg ⟨[s26.v,.bool b27,s28.v]⟩] W25 fun v29 W30=>
 ∃s31:Sl,
 ∃b32:Bool,
 ∃s33:Sl,
 ∃b34:Bool,
 v29 = .tuple ⟨[.agg ⟨[s31.v,.bool b32,s33.v]⟩,.bool b34]⟩∧
 inB a0 i13∧
 ∃s35:Sl,
 ∃b36:Bool,
 ∃s37:Sl,
 ElemAt W30 a0 6 (Int.toNat i13) 0 [s35.v,.bool b36,s37.v]∧
 inB a0 i13∧
 ∃s38:Sl,
 ∃b39:Bool,
 ∃s40:Sl,
 ∃s41:Sl,
 ∃b42:Bool,
 ∃s43:Sl,
 ElemAt W30 a0 6 (Int.toNat i13) 0 [s38.v,.bool b39,s40.v,s41.v,.bool b42,s43.v]∧
 callN Tryz.prog W0 M 109 [.agg ⟨[s38.v,.bool b39,s40.v,s41.v,.bool b42,s43.v]⟩] W30 fun v44 W45=>
 ∃s46:Sl,
 ∃b47:Bool,
 ∃s48:Sl,
 v44 = .agg ⟨[s46.v,.bool b47,s48.v]⟩∧
 Ext W30 W45∧
 callN Tryz.prog W0 M 96 [.agg ⟨[s46.v,.bool b47,s48.v]⟩,.agg ⟨[s31.v,.bool b32,s33.v]⟩] W45 fun v49 W50=>
 ∃s51:Sl,
 ∃b52:Bool,
 ∃s53:Sl,
 v49 = .agg ⟨[s51.v,.bool b52,s53.v]⟩∧
 Ext W45 W50∧
 callN Tryz.prog W0 M 48 [.agg ⟨[s35.v,.bool b36,s37.v]⟩,.agg ⟨[s51.v,.bool b52,s53.v]⟩] W50 fun v54 W55=>
 ∃s56:Sl,
 ∃b57:Bool,
 ∃s58:Sl,
 v54 = .agg ⟨[s56.v,.bool b57,s58.v]⟩∧
 (0≤i13∧i13<3)∧
 Int.toNat i13<3∧
 ((True∧
 (Int.toNat i13=0→
 (0≤i13∧i13<3)∧
 ∃s59:Sl,
 ∃b60:Bool,
 ∃s61:Sl,
 BoxAt [s56.v,.bool b57,s58.v,s6.v,.bool b7,s8.v,s9.v,.bool b10,s11.v] (0+Int.toNat i13*3+0)
 [s59.v,.bool b60,s61.v]∧
 (List.length l12+List.length [[s59.v,.bool b60,s61.v]])*56≤140737488355328∧
 I64 (i13+1)∧
 stp F1 F2
 [.row (l12 ++ [[s59.v,.bool b60,s61.v]]),.val (.int .i64 (i13+1)),
 .cells [s56.v,.bool b57,s58.v,s6.v,.bool b7,s8.v,s9.v,.bool b10,s11.v]]
 W55 [.row l12,.val (.int .i64 i13),.cells [s3.v,.bool b4,s5.v,s6.v,.bool b7,s8.v,s9.v,.bool b10,s11.v]] W14))∧
 (Int.toNat i13=1→
 (0≤i13∧i13<3)∧
 ∃s62:Sl,
 ∃b63:Bool,
 ∃s64:Sl,
 BoxAt [s3.v,.bool b4,s5.v,s56.v,.bool b57,s58.v,s9.v,.bool b10,s11.v] (0+Int.toNat i13*3+0)
 [s62.v,.bool b63,s64.v]∧
 (List.length l12+List.length [[s62.v,.bool b63,s64.v]])*56≤140737488355328∧
 I64 (i13+1)∧
 stp F1 F2
 [.row (l12 ++ [[s62.v,.bool b63,s64.v]]),.val (.int .i64 (i13+1)),
 .cells [s3.v,.bool b4,s5.v,s56.v,.bool b57,s58.v,s9.v,.bool b10,s11.v]]
 W55 [.row l12,.val (.int .i64 i13),.cells [s3.v,.bool b4,s5.v,s6.v,.bool b7,s8.v,s9.v,.bool b10,s11.v]] W14))∧
 (Int.toNat i13=2→
 (0≤i13∧i13<3)∧
 ∃s65:Sl,
 ∃b66:Bool,
 ∃s67:Sl,
 BoxAt [s3.v,.bool b4,s5.v,s6.v,.bool b7,s8.v,s56.v,.bool b57,s58.v] (0+Int.toNat i13*3+0)
 [s65.v,.bool b66,s67.v]∧
 (List.length l12+List.length [[s65.v,.bool b66,s67.v]])*56≤140737488355328∧
 I64 (i13+1)∧
 stp F1 F2
 [.row (l12 ++ [[s65.v,.bool b66,s67.v]]),.val (.int .i64 (i13+1)),
 .cells [s3.v,.bool b4,s5.v,s6.v,.bool b7,s8.v,s56.v,.bool b57,s58.v]]
 W55 [.row l12,.val (.int .i64 i13),.cells [s3.v,.bool b4,s5.v,s6.v,.bool b7,s8.v,s9.v,.bool b10,s11.v]] W14))∧
 (¬i13<3→
 ∀(s68:Sl) (W69:PW),
 Ext W14 W69→SX.Own W69 40 3 s68 l12→Fr W0 W14 s68→∀(W70:PW),Ext W69 W70→Post (.tuple ⟨[s68.v,.agg ⟨[s3.v,.bool b4,s5.v,s6.v,.bool b7,s8.v,s9.v,.bool b10,s11.v]⟩]⟩) W70))∧
 (¬i13<(a0.2:Int)→
 ∀(s71:Sl) (W72:PW),
 Ext W14 W72→SX.Own W72 40 3 s71 l12→Fr W0 W14 s71→∀(W73:PW),Ext W72 W73→Post (.tuple ⟨[s71.v,.agg ⟨[s3.v,.bool b4,s5.v,s6.v,.bool b7,s8.v,s9.v,.bool b10,s11.v]⟩]⟩) W73)
theorem calllaw9_Inside (W0:PW) (M:Nat→Prop) (a0:Sl) (a1_0:Int) (a1_1:Int) (a1_2:Int) (Post:Value→PW→Prop) (h:Rlaw9_Inside W0 M a0 a1_0 a1_1 a1_2 Post):PCallsM Tryz.prog 38 [a0.v,.agg #[.int .i64 a1_0,.int .i64 a1_1,.int .i64 a1_2]] W0 M Post:=
 fn_sound rfl tt_ok tt_in Tryz.func38 (cuts:=[]) rfl rfl (Nat.le_of_ble_eq_true rfl) (Eq.mpr (by kernel_rfl) h)
end Go.Proofs.YtjkkidjbppphpaaGreatDoor
