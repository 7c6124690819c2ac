/- R13 -/
import Derived.Test.YthpmkcidkcmlgaaGreatTt
set_option linter.unusedVariables false
set_option linter.unusedSimpArgs false
set_option maxRecDepth 100000
set_option linter.unusedVariables false
namespace Go.Proofs.YthpmkcidkcmlgaaGreat
open Go Go.SX
def Rslices_Clone_poly_Term_poly_Term (W0:PW) (M:Nat→Prop) (a0:Sl) (Post:Value→PW→Prop):Prop:=
 (a0.1=none→∀(W1:PW),Ext W0 W1→Post (.slice none 0 0) W1)∧
 (¬a0.1=none→∃(l2:List (List Value)),RowA W0 6 a0 l2∧(0+List.length l2)*64≤140737488355328∧∀(s3:Sl) (W4:PW),Ext W0 W4→SX.Own W4 188 6 s3 ([] ++ l2)→Fr W0 W0 s3→∀(W5:PW),Ext W4 W5→Post s3.v W5)
theorem callslices_Clone_poly_Term_poly_Term (W0:PW) (M:Nat→Prop) (a0:Sl) (Post:Value→PW→Prop) (h:Rslices_Clone_poly_Term_poly_Term W0 M a0 Post):PCallsM Tryz.prog 164 [a0.v] W0 M Post:=
 fn_sound rfl tt_ok tt_in Tryz.func164 (cuts:=[]) rfl rfl (Nat.le_of_ble_eq_true rfl) (Eq.mpr (by kernel_rfl) h)
def Rpoly_Poly_Terms (W0:PW) (M:Nat→Prop) (a0_0:Sl) (Post:Value→PW→Prop):Prop:=
 callN Tryz.prog W0 M 164 [a0_0.v] W0 fun v1 W2=>∃s3:Sl,v1=s3.v∧∀(W4:PW),Ext W2 W4→Post s3.v W4
theorem callpoly_Poly_Terms (W0:PW) (M:Nat→Prop) (a0_0:Sl) (Post:Value→PW→Prop) (h:Rpoly_Poly_Terms W0 M a0_0 Post):PCallsM Tryz.prog 85 [.agg #[a0_0.v]] W0 M Post:=
 fn_sound rfl tt_ok tt_in Tryz.func85 (cuts:=[]) rfl rfl (Nat.le_of_ble_eq_true rfl) (Eq.mpr (by kernel_rfl) h)
def Rpoly_Mul (W0:PW) (M:Nat→Prop) (a0_0:Sl) (a1_0:Sl) (Post:Value→PW→Prop):Prop:=
 newMapN W0 W0 fun(n1:Nat) (W2:PW)=>
 ∃(F3:List PL→PW→Prop),
 ∃(F4:List PL→PW→Nat),
 F3 [.val (.int .i64 0),.cells [.slice none 0 0]] W2∧
 ∀(s5:Sl) (i6:Int) (W7:PW),
 F3 [.val (.int .i64 i6),.cells [s5.v]] W7→
 (i6<(a0_0.2:Int)→
 inB a0_0 i6∧
 ∃i8:Int,
 ∃i9:Int,
 ∃i10:Int,
 ∃s11:Sl,
 ∃b12:Bool,
 ∃s13:Sl,
 ElemAt W7 a0_0 6 (Int.toNat i6) 0 [.int .u8 i8,.int .u8 i9,.int .u8 i10,s11.v,.bool b12,s13.v]∧
 ∃(F14:List PL→PW→Prop),
 ∃(F15:List PL→PW→Nat),
 F14 [.val (.int .i64 0),.cells [s5.v]] W7∧
 ∀(s16:Sl) (i17:Int) (W18:PW),
 F14 [.val (.int .i64 i17),.cells [s16.v]] W18→
 (i17<(a1_0.2:Int)→
 inB a1_0 i17∧
 ∃i19:Int,
 ∃i20:Int,
 ∃i21:Int,
 ∃s22:Sl,
 ∃b23:Bool,
 ∃s24:Sl,
 ElemAt W18 a1_0 6 (Int.toNat i17) 0 [.int .u8 i19,.int .u8 i20,.int .u8 i21,s22.v,.bool b23,s24.v]∧
 callN Tryz.prog W0 M 174 [.agg ⟨[.int .u8 i8,.int .u8 i9,.int .u8 i10]⟩,.agg ⟨[.int .u8 i19,.int .u8 i20,.int .u8 i21]⟩] W18
 fun v25 W26=>
 ∃i27:Int,
 ∃i28:Int,
 ∃i29:Int,
 ∃b30:Bool,
 v25 = .tuple ⟨[.agg ⟨[.int .u8 i27,.int .u8 i28,.int .u8 i29]⟩,.bool b30]⟩∧
 ((!b30)=true→∀(W31:PW),Ext W26 W31→Post (.tuple ⟨[.agg ⟨[.slice none 0 0]⟩,.bool false]⟩) W31)∧
 ((!b30)=false→
 callN Tryz.prog W0 M 74 [.agg ⟨[s11.v,.bool b12,s13.v]⟩,.agg ⟨[s22.v,.bool b23,s24.v]⟩] W26 fun v32 W33=>
 ∃s34:Sl,
 ∃b35:Bool,
 ∃s36:Sl,
 v32 = .agg ⟨[s34.v,.bool b35,s36.v]⟩∧
 callN Tryz.prog W0 M 171 [.map (some n1),.agg ⟨[.int .u8 i27,.int .u8 i28,.int .u8 i29]⟩,.agg ⟨[s34.v,.bool b35,s36.v]⟩] W33
 fun v37 W38=>
 v37 = .tuple ⟨[]⟩∧I64 (i17+1)∧stp F14 F15 [.val (.int .i64 (i17+1)),.cells [s16.v]] W38 [.val (.int .i64 i17),.cells [s16.v]] W18))∧
 (¬i17<(a1_0.2:Int)→I64 (i6+1)∧stp F3 F4 [.val (.int .i64 (i6+1)),.cells [s16.v]] W18 [.val (.int .i64 i6),.cells [s5.v]] W7))∧
 (¬i6<(a0_0.2:Int)→callN Tryz.prog W0 M 172 [.map (some n1)] W7 fun v39 W40=>∃s41:Sl,v39 = .agg ⟨[s41.v]⟩∧∀(W42:PW),Ext W40 W42→Post (.tuple ⟨[.agg ⟨[s41.v]⟩,.bool true]⟩) W42)
theorem callpoly_Mul (W0:PW) (M:Nat→Prop) (a0_0:Sl) (a1_0:Sl) (Post:Value→PW→Prop) (h:Rpoly_Mul W0 M a0_0 a1_0 Post):PCallsM Tryz.prog 95 [.agg #[a0_0.v],.agg #[a1_0.v]] W0 M Post:=
 fn_sound rfl tt_ok tt_in Tryz.func95 (cuts:=[]) rfl rfl (Nat.le_of_ble_eq_true rfl) (Eq.mpr (by kernel_rfl) h)
def Rpoly_Const (W0:PW) (M:Nat→Prop) (a0_0:Sl) (a0_1:Bool) (a0_2:Sl) (Post:Value→PW→Prop):Prop:=
 ∀(s1:Sl) (W2:PW),
 Ext W0 W2→
 SX.Own W2 188 6 s1 [[.int .u8 0,.int .u8 0,.int .u8 0,a0_0.v,.bool a0_1,a0_2.v]]→
 Fr W0 W0 s1→callN Tryz.prog W0 M 93 [s1.v] W2 fun v3 W4=>∃s5:Sl,v3 = .agg ⟨[s5.v]⟩∧∀(W6:PW),Ext W4 W6→Post (.agg ⟨[s5.v]⟩) W6
theorem callpoly_Const (W0:PW) (M:Nat→Prop) (a0_0:Sl) (a0_1:Bool) (a0_2:Sl) (Post:Value→PW→Prop) (h:Rpoly_Const W0 M a0_0 a0_1 a0_2 Post):PCallsM Tryz.prog 19 [.agg #[a0_0.v,.bool a0_1,a0_2.v]] W0 M Post:=
 fn_sound rfl tt_ok tt_in Tryz.func19 (cuts:=[]) rfl rfl (Nat.le_of_ble_eq_true rfl) (Eq.mpr (by kernel_rfl) h)
def Rpoly_Add (W0:PW) (M:Nat→Prop) (a0_0:Sl) (a1_0:Sl) (Post:Value→PW→Prop):Prop:=
 ∀(s1:Sl) (W2:PW),
 Ext W0 W2→
 SX.Own W2 23 1 s1 [[a0_0.v],[a1_0.v]]→
 Fr W0 W0 s1→
 callN Tryz.prog W0 M 175 [s1.v] W2 fun v3 W4=>
 ∃s5:Sl,v3=s5.v∧callN Tryz.prog W0 M 93 [s5.v] W4 fun v6 W7=>∃s8:Sl,v6 = .agg ⟨[s8.v]⟩∧∀(W9:PW),Ext W7 W9→Post (.agg ⟨[s8.v]⟩) W9
theorem callpoly_Add (W0:PW) (M:Nat→Prop) (a0_0:Sl) (a1_0:Sl) (Post:Value→PW→Prop) (h:Rpoly_Add W0 M a0_0 a1_0 Post):PCallsM Tryz.prog 96 [.agg #[a0_0.v],.agg #[a1_0.v]] W0 M Post:=
 fn_sound rfl tt_ok tt_in Tryz.func96 (cuts:=[]) rfl rfl (Nat.le_of_ble_eq_true rfl) (Eq.mpr (by kernel_rfl) h)
def Rpoly_Scale (W0:PW) (M:Nat→Prop) (a0_0:Sl) (a1_0:Sl) (a1_1:Bool) (a1_2:Sl) (Post:Value→PW→Prop):Prop:=
 callN Tryz.prog W0 M 85 [.agg ⟨[a0_0.v]⟩] W0 fun v1 W2=>
 ∃s3:Sl,
 v1=s3.v∧
 ∃(F4:List PL→PW→Prop),
 ∃(F5:List PL→PW→Nat),
 F4 [.val (.int .i64 0)] W2∧
 ∀(i6:Int) (W7:PW),
 F4 [.val (.int .i64 i6)] W7→
 (i6<(s3.2:Int)→
 inB s3 i6∧
 ∃s8:Sl,
 ∃b9:Bool,
 ∃s10:Sl,
 ElemAt W7 s3 6 (Int.toNat i6) 3 [s8.v,.bool b9,s10.v]∧
 callN Tryz.prog W0 M 74 [.agg ⟨[s8.v,.bool b9,s10.v]⟩,.agg ⟨[a1_0.v,.bool a1_1,a1_2.v]⟩] W7 fun v11 W12=>
 ∃s13:Sl,
 ∃b14:Bool,
 ∃s15:Sl,
 v11 = .agg ⟨[s13.v,.bool b14,s15.v]⟩∧
 inB s3 i6∧storeN W0 M s3 (Int.toNat i6*6+3) [s13.v,.bool b14,s15.v] W12 fun(W16:PW)=>I64 (i6+1)∧stp F4 F5 [.val (.int .i64 (i6+1))] W16 [.val (.int .i64 i6)] W7)∧
 (¬i6<(s3.2:Int)→callN Tryz.prog W0 M 93 [s3.v] W7 fun v17 W18=>∃s19:Sl,v17 = .agg ⟨[s19.v]⟩∧∀(W20:PW),Ext W18 W20→Post (.agg ⟨[s19.v]⟩) W20)
theorem callpoly_Scale (W0:PW) (M:Nat→Prop) (a0_0:Sl) (a1_0:Sl) (a1_1:Bool) (a1_2:Sl) (Post:Value→PW→Prop) (h:Rpoly_Scale W0 M a0_0 a1_0 a1_1 a1_2 Post):PCallsM Tryz.prog 97 [.agg #[a0_0.v],.agg #[a1_0.v,.bool a1_1,a1_2.v]] W0 M Post:=
 fn_sound rfl tt_ok tt_in Tryz.func97 (cuts:=[]) rfl rfl (Nat.le_of_ble_eq_true rfl) (Eq.mpr (by kernel_rfl) h)
def Rslices_Concat_poly_Term_poly_Term (W0:PW) (M:Nat→Prop) (a0:Sl) (Post:Value→PW→Prop):Prop:=
 ∃(F1:List PL→PW→Prop),
 ∃(F2:List PL→PW→Nat),
 F1 [.val (.int .i64 0),.val (.int .i64 0)] W0∧
 ∀(i3 i4:Int) (W5:PW),
 F1 [.val (.int .i64 i3),.val (.int .i64 i4)] W5→
 (i4<(a0.2:Int)→
 inB a0 i4∧
 ∃s6:Sl,
 ElemAt W5 a0 1 (Int.toNat i4) 0 [s6.v]∧
 I64 (i3+(s6.2:Int))∧
 (i3+(s6.2:Int)<0→False)∧(¬i3+(s6.2:Int)<0→I64 (i4+1)∧stp F1 F2 [.val (.int .i64 (i3+(s6.2:Int))),.val (.int .i64 (i4+1))] W5 [.val (.int .i64 i3),.val (.int .i64 i4)] W5))∧
 (¬i4<(a0.2:Int)→
 callN Tryz.prog W0 M 227 [.slice none 0 0,.int .i64 i3] W5 fun v7 W8=>
 ∃s9:Sl,
 v7=s9.v∧
 ∃(F10:List PL→PW→Prop),
 ∃(F11:List PL→PW→Nat),
 F10 [.val s9.v,.val (.int .i64 0)] W8∧
 ∀(s12:Sl) (i13:Int) (W14:PW),
 F10 [.val s12.v,.val (.int .i64 i13)] W14→
 (i13<(a0.2:Int)→
 inB a0 i13∧
 ∃s15:Sl,
 ElemAt W14 a0 1 (Int.toNat i13) 0 [s15.v]∧
 ∃(l16:List (List Value)),
 RowA W14 6 s15 l16∧
 appN W0 M 188 6 64 s12 l16 W14 fun(s17:Sl) (W18:PW)=>I64 (i13+1)∧stp F10 F11 [.val s17.v,.val (.int .i64 (i13+1))] W18 [.val s12.v,.val (.int .i64 i13)] W14)∧
 (¬i13<(a0.2:Int)→∀(W19:PW),Ext W14 W19→Post s12.v W19))
theorem callslices_Concat_poly_Term_poly_Term (W0:PW) (M:Nat→Prop) (a0:Sl) (Post:Value→PW→Prop) (h:Rslices_Concat_poly_Term_poly_Term W0 M a0 Post):PCallsM Tryz.prog 175 [a0.v] W0 M Post:=
 fn_sound rfl tt_ok tt_in Tryz.func175 (cuts:=[]) rfl rfl (Nat.le_of_ble_eq_true rfl) (Eq.mpr (by kernel_rfl) h)
end Go.Proofs.YthpmkcidkcmlgaaGreat

set_option maxRecDepth 100000
set_option linter.unusedVariables false
namespace Go.Proofs.YthpmkcidkcmlgaaGreat
open Go Go.SX
end Go.Proofs.YthpmkcidkcmlgaaGreat

set_option maxRecDepth 100000
set_option linter.unusedVariables false
namespace Go.Proofs.YthpmkcidkcmlgaaGreat
open Go Go.SX
end Go.Proofs.YthpmkcidkcmlgaaGreat

set_option maxRecDepth 100000
set_option linter.unusedVariables false
namespace Go.Proofs.YthpmkcidkcmlgaaGreat
open Go Go.SX
def Rpoly_At (W0:PW) (M:Nat→Prop) (a0_0:Sl) (a1_0:Sl) (a1_1:Bool) (a1_2:Sl) (a1_3:Sl) (a1_4:Bool) (a1_5:Sl) (a1_6:Sl) (a1_7:Bool) (a1_8:Sl) (Post:Value→PW→Prop):Prop:=
 ∃(F1:List PL→PW→Prop),
 ∃(F2:List PL→PW→Nat),
 F1 [PL.val (Value.int .i64 0),PL.cells [Value.slice none 0 0,Value.bool false,Value.slice none 0 0]] W0∧
 ∀(s3:Sl) (b4:Bool) (s5:Sl) (i6:Int) (W7:PW),
 F1 [PL.val (Value.int .i64 i6),PL.cells [s3.v,Value.bool b4,s5.v]] W7→
 (i6<(a0_0.2:Int)→
 inB a0_0 i6∧
 ∃i8:Int,
 ∃i9:Int,
 ∃i10:Int,
 ∃s11:Sl,
 ∃b12:Bool,
 ∃s13:Sl,
 ElemAt W7 a0_0 6 (Int.toNat i6) 0 [Value.int .u8 i8,Value.int .u8 i9,Value.int .u8 i10,s11.v,Value.bool b12,s13.v]∧
 ∃(F14:List PL→PW→Prop),
 ∃(F15:List PL→PW→Nat),
 F14 [PL.val (Value.int .i64 0),PL.cells [s11.v,Value.bool b12,s13.v]] W7∧
 ∀(s16:Sl) (b17:Bool) (s18:Sl) (i19:Int) (W20:PW),
 F14 [PL.val (Value.int .i64 i19),PL.cells [s16.v,Value.bool b17,s18.v]] W20→
 (i19<3→
 (0≤i19∧i19<3)∧
 ∃i21:Int,
 List.take 1 (List.drop (Int.toNat i19*1) [Value.int .u8 i8,Value.int .u8 i9,Value.int .u8 i10]) = [Value.int .u8 i21]∧
 (0≤i19∧i19<3)∧
 ∃s22:Sl,
 ∃b23:Bool,
 ∃s24:Sl,
 BoxAt [a1_0.v,Value.bool a1_1,a1_2.v,a1_3.v,Value.bool a1_4,a1_5.v,a1_6.v,Value.bool a1_7,a1_8.v] (0+Int.toNat i19*3+0) [s22.v,Value.bool b23,s24.v]∧
 I64 i21∧
 callN Tryz.prog W0 M 131 [Value.agg ⟨[s22.v,Value.bool b23,s24.v]⟩,Value.int .i64 i21] W20 fun v25 W26=>
 ∃s27:Sl,
 ∃b28:Bool,
 ∃s29:Sl,
 v25=Value.agg ⟨[s27.v,Value.bool b28,s29.v]⟩∧
 callN Tryz.prog W0 M 74 [Value.agg ⟨[s16.v,Value.bool b17,s18.v]⟩,Value.agg ⟨[s27.v,Value.bool b28,s29.v]⟩] W26 fun v30 W31=>
 ∃s32:Sl,
 ∃b33:Bool,
 ∃s34:Sl,
 v30=Value.agg ⟨[s32.v,Value.bool b33,s34.v]⟩∧
 I64 (i19+1)∧stp F14 F15 [PL.val (Value.int .i64 (i19+1)),PL.cells [s32.v,Value.bool b33,s34.v]] W31 [PL.val (Value.int .i64 i19),PL.cells [s16.v,Value.bool b17,s18.v]] W20)∧
 (¬i19<3→
 callN Tryz.prog W0 M 71 [Value.agg ⟨[s3.v,Value.bool b4,s5.v]⟩,Value.agg ⟨[s16.v,Value.bool b17,s18.v]⟩] W20 fun v35 W36=>
 ∃s37:Sl,
 ∃b38:Bool,
 ∃s39:Sl,
 v35=Value.agg ⟨[s37.v,Value.bool b38,s39.v]⟩∧
 I64 (i6+1)∧stp F1 F2 [PL.val (Value.int .i64 (i6+1)),PL.cells [s37.v,Value.bool b38,s39.v]] W36 [PL.val (Value.int .i64 i6),PL.cells [s3.v,Value.bool b4,s5.v]] W7))∧
 (¬i6<(a0_0.2:Int)→∀(W40:PW),Ext W7 W40→Post (Value.agg ⟨[s3.v,Value.bool b4,s5.v]⟩) W40)
theorem callpoly_At (W0:PW) (M:Nat→Prop) (a0_0:Sl) (a1_0:Sl) (a1_1:Bool) (a1_2:Sl) (a1_3:Sl) (a1_4:Bool) (a1_5:Sl) (a1_6:Sl) (a1_7:Bool) (a1_8:Sl) (Post:Value→PW→Prop) (h:Rpoly_At W0 M a0_0 a1_0 a1_1 a1_2 a1_3 a1_4 a1_5 a1_6 a1_7 a1_8 Post):PCallsM Tryz.prog 43 [Value.agg #[a0_0.v],Value.agg #[a1_0.v,Value.bool a1_1,a1_2.v,a1_3.v,Value.bool a1_4,a1_5.v,a1_6.v,Value.bool a1_7,a1_8.v]] W0 M Post:=
 fn_sound rfl tt_ok tt_in Tryz.func43 (cuts:=[]) rfl rfl (Nat.le_of_ble_eq_true rfl) (Eq.mpr (by kernel_rfl) h)
end Go.Proofs.YthpmkcidkcmlgaaGreat
