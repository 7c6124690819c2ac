/- R16 -/
import Derived.Test.YtjgpenfndnhdnaaGreatTt
set_option linter.unusedVariables false
set_option linter.unusedSimpArgs false
set_option maxRecDepth 100000
set_option linter.unusedVariables false
namespace Go.Proofs.YtjgpenfndnhdnaaGreat
open Go Go.SX
def Rpoly_Diff (W0:PW) (M:Nat→Prop) (a0_0:Sl) (a1:Int) (Post:Value→PW→Prop):Prop:=
 (a1<0→∀(W1:PW),Ext W0 W1→Post (.agg ⟨[.slice none 0 0]⟩) W1)∧
 (¬a1<0→
 (3≤a1→∀(W2:PW),Ext W0 W2→Post (.agg ⟨[.slice none 0 0]⟩) W2)∧
 (¬3≤a1→
 ∃(F3:List PL→PW→Prop),
 ∃(F4:List PL→PW→Nat),
 F3 [.row [],.val (.int .i64 0)] W0∧
 ∀(l5:List (List Value)) (i6:Int) (W7:PW),
 F3 [.row l5,.val (.int .i64 i6)] W7→
 (i6<(a0_0.2:Int)→
 inB a0_0 i6∧
 ∃i8:Int,
 ∃i9:Int,
 ∃i10:Int,
 ∃s11:Sl,
 ∃b12:Bool,
 ∃s13:Sl,
 ElemAt W7 a0_0 6 (Int.toNat i6) 0 [.int .u8 i8,.int .u8 i9,.int .u8 i10,s11.v,.bool b12,s13.v]∧
 (0≤a1∧a1<3)∧
 ∃i14:Int,
 BoxAt [.int .u8 i8,.int .u8 i9,.int .u8 i10,s11.v,.bool b12,s13.v] (0+Int.toNat a1*1+0) [.int .u8 i14]∧
 (0<i14→
 (0≤a1∧a1<3)∧
 ∃i15:Int,
 BoxAt [.int .u8 i8,.int .u8 i9,.int .u8 i10,s11.v,.bool b12,s13.v] (0+Int.toNat a1*1+0) [.int .u8 i15]∧
 (0≤a1∧a1<3)∧
 Int.toNat a1<3∧
 ((True∧
 (Int.toNat a1=0→
 I64 i14∧
 callN Tryz.prog W0 M 21 [.int .i64 i14] W7 fun v16 W17=>
 ∃s18:Sl,
 ∃b19:Bool,
 ∃s20:Sl,
 v16 = .agg ⟨[s18.v,.bool b19,s20.v]⟩∧
 callN Tryz.prog W0 M 91 [.agg ⟨[s11.v,.bool b12,s13.v]⟩,.agg ⟨[s18.v,.bool b19,s20.v]⟩] W17 fun v21 W22=>
 ∃s23:Sl,
 ∃b24:Bool,
 ∃s25:Sl,
 v21 = .agg ⟨[s23.v,.bool b24,s25.v]⟩∧
 (List.length l5+List.length [[.int .u8 (IntKind.wrap .u8 (i15-1)),.int .u8 i9,.int .u8 i10,s23.v,.bool b24,s25.v]])*64≤140737488355328∧
 I64 (i6+1)∧
 stp F3 F4 [.row (l5 ++ [[.int .u8 (IntKind.wrap .u8 (i15-1)),.int .u8 i9,.int .u8 i10,s23.v,.bool b24,s25.v]]),.val (.int .i64 (i6+1))] W22
 [.row l5,.val (.int .i64 i6)] W7))∧
 (Int.toNat a1=1→
 I64 i14∧
 callN Tryz.prog W0 M 21 [.int .i64 i14] W7 fun v26 W27=>
 ∃s28:Sl,
 ∃b29:Bool,
 ∃s30:Sl,
 v26 = .agg ⟨[s28.v,.bool b29,s30.v]⟩∧
 callN Tryz.prog W0 M 91 [.agg ⟨[s11.v,.bool b12,s13.v]⟩,.agg ⟨[s28.v,.bool b29,s30.v]⟩] W27 fun v31 W32=>
 ∃s33:Sl,
 ∃b34:Bool,
 ∃s35:Sl,
 v31 = .agg ⟨[s33.v,.bool b34,s35.v]⟩∧
 (List.length l5+List.length [[.int .u8 i8,.int .u8 (IntKind.wrap .u8 (i15-1)),.int .u8 i10,s33.v,.bool b34,s35.v]])*64≤140737488355328∧
 I64 (i6+1)∧
 stp F3 F4 [.row (l5 ++ [[.int .u8 i8,.int .u8 (IntKind.wrap .u8 (i15-1)),.int .u8 i10,s33.v,.bool b34,s35.v]]),.val (.int .i64 (i6+1))] W32
 [.row l5,.val (.int .i64 i6)] W7))∧
 (Int.toNat a1=2→
 I64 i14∧
 callN Tryz.prog W0 M 21 [.int .i64 i14] W7 fun v36 W37=>
 ∃s38:Sl,
 ∃b39:Bool,
 ∃s40:Sl,
 v36 = .agg ⟨[s38.v,.bool b39,s40.v]⟩∧
 callN Tryz.prog W0 M 91 [.agg ⟨[s11.v,.bool b12,s13.v]⟩,.agg ⟨[s38.v,.bool b39,s40.v]⟩] W37 fun v41 W42=>
 ∃s43:Sl,
 ∃b44:Bool,
 ∃s45:Sl,
 v41 = .agg ⟨[s43.v,.bool b44,s45.v]⟩∧
 (List.length l5+List.length [[.int .u8 i8,.int .u8 i9,.int .u8 (IntKind.wrap .u8 (i15-1)),s43.v,.bool b44,s45.v]])*64≤140737488355328∧
 I64 (i6+1)∧
 stp F3 F4 [.row (l5 ++ [[.int .u8 i8,.int .u8 i9,.int .u8 (IntKind.wrap .u8 (i15-1)),s43.v,.bool b44,s45.v]]),.val (.int .i64 (i6+1))] W42
 [.row l5,.val (.int .i64 i6)] W7))∧
 (¬0<i14→I64 (i6+1)∧stp F3 F4 [.row l5,.val (.int .i64 (i6+1))] W7 [.row l5,.val (.int .i64 i6)] W7))∧
 (¬i6<(a0_0.2:Int)→
 ∀(s46:Sl) (W47:PW),
 Ext W7 W47→SX.Own W47 136 6 s46 l5→Fr W0 W7 s46→callN Tryz.prog W0 M 68 [s46.v] W47 fun v48 W49=>∃s50:Sl,v48 = .agg ⟨[s50.v]⟩∧∀(W51:PW),Ext W49 W51→Post (.agg ⟨[s50.v]⟩) W51)))
theorem callpoly_Diff (W0:PW) (M:Nat→Prop) (a0_0:Sl) (a1:Int) (Post:Value→PW→Prop) (h:Rpoly_Diff W0 M a0_0 a1 Post):PCallsM Tryz.prog 129 [.agg #[a0_0.v],.int .i64 a1] W0 M Post:=
 fn_sound rfl tt_ok tt_in Tryz.func129 (cuts:=[]) rfl rfl (Nat.le_of_ble_eq_true rfl) (Eq.mpr (by kernel_rfl) h)
def Rref1_Diff (W0:PW) (M:Nat→Prop) (a0:Sl) (a1:Int) (Post:Value→PW→Prop):Prop:=
 (a1<0→∀(W1:PW),Ext W0 W1→Post (.slice none 0 0) W1)∧
 (¬a1<0→
 (3≤a1→∀(W2:PW),Ext W0 W2→Post (.slice none 0 0) W2)∧
 (¬3≤a1→
 ∃(F3:List PL→PW→Prop),
 ∃(F4:List PL→PW→Nat),
 F3 [.val (.slice none 0 0),.val (.int .i64 0)] W0∧
 ∀(s5:Sl) (i6:Int) (W7:PW),
 F3 [.val s5.v,.val (.int .i64 i6)] W7→
 (i6<(a0.2:Int)→
 inB a0 i6∧
 ∃i8:Int,
 ∃i9:Int,
 ∃i10:Int,
 ElemAt W7 a0 6 (Int.toNat i6) 0 [.int .u8 i8,.int .u8 i9,.int .u8 i10]∧
 (0≤a1∧a1<3)∧
 ∃i11:Int,
 BoxAt [.int .u8 i8,.int .u8 i9,.int .u8 i10] (0+Int.toNat a1*1+0) [.int .u8 i11]∧
 (0<i11→
 (0≤a1∧a1<3)∧
 ∃i12:Int,
 BoxAt [.int .u8 i8,.int .u8 i9,.int .u8 i10] (0+Int.toNat a1*1+0) [.int .u8 i12]∧
 I64 i12∧
 (0≤a1∧a1<3)∧
 ∃i13:Int,
 BoxAt [.int .u8 i8,.int .u8 i9,.int .u8 i10] (0+Int.toNat a1*1+0) [.int .u8 i13]∧
 (0≤a1∧a1<3)∧
 Int.toNat a1<3∧
 ((True∧
 (Int.toNat a1=0→
 inB a0 i6∧
 ∃b14:Bool,
 ∃s15:Sl,
 ∃s16:Sl,
 ElemAt W7 a0 6 (Int.toNat i6) 3 [.bool b14,s15.v,s16.v]∧
 callN Tryz.prog W0 M 85 [.int .i64 i12] W7 fun v17 W18=>
 ∃b19:Bool,
 ∃s20:Sl,
 ∃s21:Sl,
 v17 = .agg ⟨[.bool b19,s20.v,s21.v]⟩∧
 Ext W7 W18∧
 callN Tryz.prog W0 M 106 [.agg ⟨[.bool b14,s15.v,s16.v]⟩,.agg ⟨[.bool b19,s20.v,s21.v]⟩] W18 fun v22 W23=>
 ∃b24:Bool,
 ∃s25:Sl,
 ∃s26:Sl,
 v22 = .agg ⟨[.bool b24,s25.v,s26.v]⟩∧
 callN Tryz.prog W0 M 105 [s5.v,.agg ⟨[.int .u8 (IntKind.wrap .u8 (i13-1)),.int .u8 i9,.int .u8 i10,.bool b24,s25.v,s26.v]⟩] W23
 fun v27 W28=>
 ∃s29:Sl,v27=s29.v∧I64 (i6+1)∧stp F3 F4 [.val s29.v,.val (.int .i64 (i6+1))] W28 [.val s5.v,.val (.int .i64 i6)] W7))∧
 (Int.toNat a1=1→
 inB a0 i6∧
 ∃b30:Bool,
 ∃s31:Sl,
 ∃s32:Sl,
 ElemAt W7 a0 6 (Int.toNat i6) 3 [.bool b30,s31.v,s32.v]∧
 callN Tryz.prog W0 M 85 [.int .i64 i12] W7 fun v33 W34=>
 ∃b35:Bool,
 ∃s36:Sl,
 ∃s37:Sl,
 v33 = .agg ⟨[.bool b35,s36.v,s37.v]⟩∧
 Ext W7 W34∧
 callN Tryz.prog W0 M 106 [.agg ⟨[.bool b30,s31.v,s32.v]⟩,.agg ⟨[.bool b35,s36.v,s37.v]⟩] W34 fun v38 W39=>
 ∃b40:Bool,
 ∃s41:Sl,
 ∃s42:Sl,
 v38 = .agg ⟨[.bool b40,s41.v,s42.v]⟩∧
 callN Tryz.prog W0 M 105 [s5.v,.agg ⟨[.int .u8 i8,.int .u8 (IntKind.wrap .u8 (i13-1)),.int .u8 i10,.bool b40,s41.v,s42.v]⟩] W39
 fun v43 W44=>
 ∃s45:Sl,v43=s45.v∧I64 (i6+1)∧stp F3 F4 [.val s45.v,.val (.int .i64 (i6+1))] W44 [.val s5.v,.val (.int .i64 i6)] W7))∧
 (Int.toNat a1=2→
 inB a0 i6∧
 ∃b46:Bool,
 ∃s47:Sl,
 ∃s48:Sl,
 ElemAt W7 a0 6 (Int.toNat i6) 3 [.bool b46,s47.v,s48.v]∧
 callN Tryz.prog W0 M 85 [.int .i64 i12] W7 fun v49 W50=>
 ∃b51:Bool,
 ∃s52:Sl,
 ∃s53:Sl,
 v49 = .agg ⟨[.bool b51,s52.v,s53.v]⟩∧
 Ext W7 W50∧
 callN Tryz.prog W0 M 106 [.agg ⟨[.bool b46,s47.v,s48.v]⟩,.agg ⟨[.bool b51,s52.v,s53.v]⟩] W50 fun v54 W55=>
 ∃b56:Bool,
 ∃s57:Sl,
 ∃s58:Sl,
 v54 = .agg ⟨[.bool b56,s57.v,s58.v]⟩∧
 callN Tryz.prog W0 M 105 [s5.v,.agg ⟨[.int .u8 i8,.int .u8 i9,.int .u8 (IntKind.wrap .u8 (i13-1)),.bool b56,s57.v,s58.v]⟩] W55
 fun v59 W60=>
 ∃s61:Sl,v59=s61.v∧I64 (i6+1)∧stp F3 F4 [.val s61.v,.val (.int .i64 (i6+1))] W60 [.val s5.v,.val (.int .i64 i6)] W7))∧
 (¬0<i11→I64 (i6+1)∧stp F3 F4 [.val s5.v,.val (.int .i64 (i6+1))] W7 [.val s5.v,.val (.int .i64 i6)] W7))∧
 (¬i6<(a0.2:Int)→∀(W62:PW),Ext W7 W62→Post s5.v W62)))
theorem callref1_Diff (W0:PW) (M:Nat→Prop) (a0:Sl) (a1:Int) (Post:Value→PW→Prop) (h:Rref1_Diff W0 M a0 a1 Post):PCallsM Tryz.prog 88 [a0.v,.int .i64 a1] W0 M Post:=
 fn_sound rfl tt_ok tt_in Tryz.func88 (cuts:=[]) rfl rfl (Nat.le_of_ble_eq_true rfl) (Eq.mpr (by kernel_rfl) h)
end Go.Proofs.YtjgpenfndnhdnaaGreat
