/- R14 -/
import Derived.Test.YthpmkcidkcmlgaaGreatTt
set_option linter.unusedVariables false
set_option linter.unusedSimpArgs false
set_option maxRecDepth 100000
set_option linter.unusedVariables false
namespace Go.Proofs.YthpmkcidkcmlgaaGreat
open Go Go.SX
def Rref1_PolyAdd (W0:PW) (M:Nat→Prop) (a0:Sl) (a1:Sl) (Post:Value→PW→Prop):Prop:=
 ∃(F1:List PL→PW→Prop),
 ∃(F2:List PL→PW→Nat),
 F1 [.val a0.v,.val (.int .i64 0)] W0∧
 ∀(s3:Sl) (i4:Int) (W5:PW),
 F1 [.val s3.v,.val (.int .i64 i4)] W5→
 (i4<(a1.2:Int)→
 inB a1 i4∧
 ∃i6:Int,
 ∃i7:Int,
 ∃i8:Int,
 ∃b9:Bool,
 ∃s10:Sl,
 ∃s11:Sl,
 ElemAt W5 a1 6 (Int.toNat i4) 0 [.int .u8 i6,.int .u8 i7,.int .u8 i8,.bool b9,s10.v,s11.v]∧
 callN Tryz.prog W0 M 136 [s3.v,.agg ⟨[.int .u8 i6,.int .u8 i7,.int .u8 i8,.bool b9,s10.v,s11.v]⟩] W5 fun v12 W13=>
 ∃s14:Sl,v12=s14.v∧I64 (i4+1)∧stp F1 F2 [.val s14.v,.val (.int .i64 (i4+1))] W13 [.val s3.v,.val (.int .i64 i4)] W5)∧
 (¬i4<(a1.2:Int)→∀(W15:PW),Ext W5 W15→Post s3.v W15)
theorem callref1_PolyAdd (W0:PW) (M:Nat→Prop) (a0:Sl) (a1:Sl) (Post:Value→PW→Prop) (h:Rref1_PolyAdd W0 M a0 a1 Post):PCallsM Tryz.prog 114 [a0.v,a1.v] W0 M Post:=
 fn_sound rfl tt_ok tt_in Tryz.func114 (cuts:=[]) rfl rfl (Nat.le_of_ble_eq_true rfl) (Eq.mpr (by kernel_rfl) h)
def Rref1_PolyScale (W0:PW) (M:Nat→Prop) (a0:Sl) (a1_0:Bool) (a1_1:Sl) (a1_2:Sl) (Post:Value→PW→Prop):Prop:=
 ∃(F1:List PL→PW→Prop),
 ∃(F2:List PL→PW→Nat),
 F1 [.val (.slice none 0 0),.val (.int .i64 0)] W0∧
 ∀(s3:Sl) (i4:Int) (W5:PW),
 F1 [.val s3.v,.val (.int .i64 i4)] W5→
 (i4<(a0.2:Int)→
 inB a0 i4∧
 ∃i6:Int,
 ∃i7:Int,
 ∃i8:Int,
 ElemAt W5 a0 6 (Int.toNat i4) 0 [.int .u8 i6,.int .u8 i7,.int .u8 i8]∧
 inB a0 i4∧
 ∃b9:Bool,
 ∃s10:Sl,
 ∃s11:Sl,
 ElemAt W5 a0 6 (Int.toNat i4) 3 [.bool b9,s10.v,s11.v]∧
 callN Tryz.prog W0 M 149 [.agg ⟨[.bool b9,s10.v,s11.v]⟩,.agg ⟨[.bool a1_0,a1_1.v,a1_2.v]⟩] W5 fun v12 W13=>
 ∃b14:Bool,
 ∃s15:Sl,
 ∃s16:Sl,
 v12 = .agg ⟨[.bool b14,s15.v,s16.v]⟩∧
 Ext W5 W13∧
 callN Tryz.prog W0 M 136 [s3.v,.agg ⟨[.int .u8 i6,.int .u8 i7,.int .u8 i8,.bool b14,s15.v,s16.v]⟩] W13 fun v17 W18=>
 ∃s19:Sl,v17=s19.v∧Ext W13 W18∧I64 (i4+1)∧stp F1 F2 [.val s19.v,.val (.int .i64 (i4+1))] W18 [.val s3.v,.val (.int .i64 i4)] W5)∧
 (¬i4<(a0.2:Int)→∀(W20:PW),Ext W5 W20→Post s3.v W20)
theorem callref1_PolyScale (W0:PW) (M:Nat→Prop) (a0:Sl) (a1_0:Bool) (a1_1:Sl) (a1_2:Sl) (Post:Value→PW→Prop) (h:Rref1_PolyScale W0 M a0 a1_0 a1_1 a1_2 Post):PCallsM Tryz.prog 65 [a0.v,.agg #[.bool a1_0,a1_1.v,a1_2.v]] W0 M Post:=
 fn_sound rfl tt_ok tt_in Tryz.func65 (cuts:=[]) rfl rfl (Nat.le_of_ble_eq_true rfl) (Eq.mpr (by kernel_rfl) h)
def Rref1_PolySub (W0:PW) (M:Nat→Prop) (a0:Sl) (a1:Sl) (Post:Value→PW→Prop):Prop:=
 callN Tryz.prog W0 M 132 [.int .i64 (-1:Int)] W0 fun v1 W2=>
 ∃b3:Bool,
 ∃s4:Sl,
 ∃s5:Sl,
 v1 = .agg ⟨[.bool b3,s4.v,s5.v]⟩∧
 callN Tryz.prog W0 M 65 [a1.v,.agg ⟨[.bool b3,s4.v,s5.v]⟩] W2 fun v6 W7=>
 ∃s8:Sl,v6=s8.v∧callN Tryz.prog W0 M 114 [a0.v,s8.v] W7 fun v9 W10=>∃s11:Sl,v9=s11.v∧∀(W12:PW),Ext W10 W12→Post s11.v W12
theorem callref1_PolySub (W0:PW) (M:Nat→Prop) (a0:Sl) (a1:Sl) (Post:Value→PW→Prop) (h:Rref1_PolySub W0 M a0 a1 Post):PCallsM Tryz.prog 112 [a0.v,a1.v] W0 M Post:=
 fn_sound rfl tt_ok tt_in Tryz.func112 (cuts:=[]) rfl rfl (Nat.le_of_ble_eq_true rfl) (Eq.mpr (by kernel_rfl) h)
def Rref1_Var (W0:PW) (M:Nat→Prop) (a0:Int) (Post:Value→PW→Prop):Prop:=
 (a0<0→∀(W1:PW),Ext W0 W1→Post (.slice none 0 0) W1)∧
 (¬a0<0→
 (3≤a0→∀(W2:PW),Ext W0 W2→Post (.slice none 0 0) W2)∧
 (¬3≤a0→
 (0≤a0∧a0<3)∧
 Int.toNat a0<3∧
 ((True∧
 (Int.toNat a0=0→
 callN Tryz.prog W0 M 132 [.int .i64 1] W0 fun v3 W4=>
 ∃b5:Bool,
 ∃s6:Sl,
 ∃s7:Sl,
 v3 = .agg ⟨[.bool b5,s6.v,s7.v]⟩∧
 ∀(s8:Sl) (W9:PW),Ext W4 W9→SX.Own W9 195 6 s8 [[.int .u8 1,.int .u8 0,.int .u8 0,.bool b5,s6.v,s7.v]]→Fr W0 W4 s8→∀(W10:PW),Ext W9 W10→Post s8.v W10))∧
 (Int.toNat a0=1→
 callN Tryz.prog W0 M 132 [.int .i64 1] W0 fun v11 W12=>
 ∃b13:Bool,
 ∃s14:Sl,
 ∃s15:Sl,
 v11 = .agg ⟨[.bool b13,s14.v,s15.v]⟩∧
 ∀(s16:Sl) (W17:PW),Ext W12 W17→SX.Own W17 195 6 s16 [[.int .u8 0,.int .u8 1,.int .u8 0,.bool b13,s14.v,s15.v]]→Fr W0 W12 s16→∀(W18:PW),Ext W17 W18→Post s16.v W18))∧
 (Int.toNat a0=2→
 callN Tryz.prog W0 M 132 [.int .i64 1] W0 fun v19 W20=>
 ∃b21:Bool,
 ∃s22:Sl,
 ∃s23:Sl,
 v19 = .agg ⟨[.bool b21,s22.v,s23.v]⟩∧
 ∀(s24:Sl) (W25:PW),Ext W20 W25→SX.Own W25 195 6 s24 [[.int .u8 0,.int .u8 0,.int .u8 1,.bool b21,s22.v,s23.v]]→Fr W0 W20 s24→∀(W26:PW),Ext W25 W26→Post s24.v W26)))
theorem callref1_Var (W0:PW) (M:Nat→Prop) (a0:Int) (Post:Value→PW→Prop) (h:Rref1_Var W0 M a0 Post):PCallsM Tryz.prog 111 [.int .i64 a0] W0 M Post:=
 fn_sound rfl tt_ok tt_in Tryz.func111 (cuts:=[]) rfl rfl (Nat.le_of_ble_eq_true rfl) (Eq.mpr (by kernel_rfl) h)
def Rref1_Const (W0:PW) (M:Nat→Prop) (a0_0:Bool) (a0_1:Sl) (a0_2:Sl) (Post:Value→PW→Prop):Prop:=
 callN Tryz.prog W0 M 136 [.slice none 0 0,.agg ⟨[.int .u8 0,.int .u8 0,.int .u8 0,.bool a0_0,a0_1.v,a0_2.v]⟩] W0 fun v1 W2=>
 ∃s3:Sl,v1=s3.v∧∀(W4:PW),Ext W2 W4→Post s3.v W4
theorem callref1_Const (W0:PW) (M:Nat→Prop) (a0_0:Bool) (a0_1:Sl) (a0_2:Sl) (Post:Value→PW→Prop) (h:Rref1_Const W0 M a0_0 a0_1 a0_2 Post):PCallsM Tryz.prog 113 [.agg #[.bool a0_0,a0_1.v,a0_2.v]] W0 M Post:=
 fn_sound rfl tt_ok tt_in Tryz.func113 (cuts:=[]) rfl rfl (Nat.le_of_ble_eq_true rfl) (Eq.mpr (by kernel_rfl) h)
end Go.Proofs.YthpmkcidkcmlgaaGreat

set_option maxRecDepth 100000
set_option linter.unusedVariables false
namespace Go.Proofs.YthpmkcidkcmlgaaGreat
open Go Go.SX
end Go.Proofs.YthpmkcidkcmlgaaGreat

set_option maxRecDepth 100000
set_option linter.unusedVariables false
namespace Go.Proofs.YthpmkcidkcmlgaaGreat
open Go Go.SX
end Go.Proofs.YthpmkcidkcmlgaaGreat

set_option maxRecDepth 100000
set_option linter.unusedVariables false
namespace Go.Proofs.YthpmkcidkcmlgaaGreat
open Go Go.SX
def Rgram_Form (W0:PW) (M:Nat→Prop) (a0:Sl) (a1:Sl) (Post:Value→PW→Prop):Prop:=
 callN Tryz.prog W0 M 94 [a1.v] W0 fun v1 W2=>
 ∃b3:Bool,
 v1 = .bool b3∧
 ((!b3)=true→∀(W4:PW),Ext W2 W4→Post (.tuple ⟨[.agg ⟨[.slice none 0 0]⟩,.bool false]⟩) W4)∧
 ((!b3)=false→
 inB a1 0∧
 ∃s5:Sl,
 ElemAt W2 a1 1 0 0 [s5.v]∧
 ((a1.2:Int)≠(s5.2:Int)→∀(W6:PW),Ext W2 W6→Post (.tuple ⟨[.agg ⟨[.slice none 0 0]⟩,.bool false]⟩) W6)∧
 (¬(a1.2:Int)≠(s5.2:Int)→
 ((a0.2:Int)≠(a1.2:Int)→∀(W7:PW),Ext W2 W7→Post (.tuple ⟨[.agg ⟨[.slice none 0 0]⟩,.bool false]⟩) W7)∧
 (¬(a0.2:Int)≠(a1.2:Int)→
 ∃(F8:List PL→PW→Prop),
 ∃(F9:List PL→PW→Nat),
 F8 [.val (.int .i64 0),.cells [.slice none 0 0],.cells [.slice none 0 0]] W2∧
 ∀(s10 s11:Sl) (i12:Int) (W13:PW),
 F8 [.val (.int .i64 i12),.cells [s10.v],.cells [s11.v]] W13→
 (i12<(a0.2:Int)→
 inB a0 i12∧
 ∃s14:Sl,
 ElemAt W13 a0 1 (Int.toNat i12) 0 [s14.v]∧
 ∃(F15:List PL→PW→Prop),
 ∃(F16:List PL→PW→Nat),
 F15 [.val (.int .i64 0),.cells [s10.v],.cells [s11.v]] W13∧
 ∀(s17 s18:Sl) (i19:Int) (W20:PW),
 F15 [.val (.int .i64 i19),.cells [s17.v],.cells [s18.v]] W20→
 (i19<(a0.2:Int)→
 inB a0 i19∧
 ∃s21:Sl,
 ElemAt W20 a0 1 (Int.toNat i19) 0 [s21.v]∧
 callN Tryz.prog W0 M 95 [.agg ⟨[s14.v]⟩,.agg ⟨[s21.v]⟩] W20 fun v22 W23=>
 ∃s24:Sl,
 ∃b25:Bool,
 v22 = .tuple ⟨[.agg ⟨[s24.v]⟩,.bool b25]⟩∧
 ((!b25)=true→∀(W26:PW),Ext W23 W26→Post (.tuple ⟨[.agg ⟨[.slice none 0 0]⟩,.bool false]⟩) W26)∧
 ((!b25)=false→
 inB a1 i12∧
 ∃s27:Sl,
 ElemAt W23 a1 1 (Int.toNat i12) 0 [s27.v]∧
 inB s27 i19∧
 ∃s28:Sl,
 ∃b29:Bool,
 ∃s30:Sl,
 ElemAt W23 s27 3 (Int.toNat i19) 0 [s28.v,.bool b29,s30.v]∧
 callN Tryz.prog W0 M 97 [.agg ⟨[s24.v]⟩,.agg ⟨[s28.v,.bool b29,s30.v]⟩] W23 fun v31 W32=>
 ∃s33:Sl,
 v31 = .agg ⟨[s33.v]⟩∧
 Ext W23 W32∧
 callN Tryz.prog W0 M 96 [.agg ⟨[s18.v]⟩,.agg ⟨[s33.v]⟩] W32 fun v34 W35=>
 ∃s36:Sl,
 v34 = .agg ⟨[s36.v]⟩∧
 Ext W32 W35∧
 I64 (i19+1)∧
 stp F15 F16 [.val (.int .i64 (i19+1)),.cells [s17.v],.cells [s36.v]] W35 [.val (.int .i64 i19),.cells [s17.v],.cells [s18.v]] W20))∧
 (¬i19<(a0.2:Int)→I64 (i12+1)∧stp F8 F9 [.val (.int .i64 (i12+1)),.cells [s17.v],.cells [s18.v]] W20 [.val (.int .i64 i12),.cells [s10.v],.cells [s11.v]] W13))∧
 (¬i12<(a0.2:Int)→∀(W37:PW),Ext W13 W37→Post (.tuple ⟨[.agg ⟨[s11.v]⟩,.bool true]⟩) W37))))
theorem callgram_Form (W0:PW) (M:Nat→Prop) (a0:Sl) (a1:Sl) (Post:Value→PW→Prop) (h:Rgram_Form W0 M a0 a1 Post):PCallsM Tryz.prog 18 [a0.v,a1.v] W0 M Post:=
 fn_sound rfl tt_ok tt_in Tryz.func18 (cuts:=[]) rfl rfl (Nat.le_of_ble_eq_true rfl) (Eq.mpr (by kernel_rfl) h)
def Rlaw13_alive (W0:PW) (M:Nat→Prop) (Post:Value→PW→Prop):Prop:=
 ∀(s1:Sl) (W2:PW),
 Ext W0 W2→
 SX.Own W2 9 1 s1 [[.string (ByteArray.mk #[49])],[.string (ByteArray.mk #[49,47,50])]]→
 Fr W0 W0 s1→
 ∀(s3:Sl) (W4:PW),
 Ext W2 W4→
 SX.Own W4 9 1 s3 [[.string (ByteArray.mk #[49,47,50])],[.string (ByteArray.mk #[48])]]→
 Fr W0 W2 s3→
 ∀(s5:Sl) (W6:PW),
 Ext W4 W6→
 SX.Own W6 179 1 s5 [[s1.v],[s3.v]]→
 Fr W0 W4 s5→
 callN Tryz.prog W0 M 81 [s5.v] W6 fun v7 W8=>
 ∃s9:Sl,
 ∃i10:Int,
 v7 = .tuple ⟨[s9.v,.int .i64 i10]⟩∧
 callN Tryz.prog W0 M 17 [.int .i64 0] W8 fun v11 W12=>
 ∃s13:Sl,
 v11 = .agg ⟨[s13.v]⟩∧
 callN Tryz.prog W0 M 20 [.int .i64 1] W12 fun v14 W15=>
 ∃s16:Sl,
 ∃b17:Bool,
 ∃s18:Sl,
 v14 = .agg ⟨[s16.v,.bool b17,s18.v]⟩∧
 callN Tryz.prog W0 M 19 [.agg ⟨[s16.v,.bool b17,s18.v]⟩] W15 fun v19 W20=>
 ∃s21:Sl,
 v19 = .agg ⟨[s21.v]⟩∧
 ∀(s22:Sl) (W23:PW),
 Ext W20 W23→
 SX.Own W23 25 1 s22 [[s13.v],[s21.v]]→
 Fr W0 W20 s22→
 callN Tryz.prog W0 M 18 [s22.v,s9.v] W23 fun v24 W25=>
 ∃s26:Sl,
 ∃b27:Bool,
 v24 = .tuple ⟨[.agg ⟨[s26.v]⟩,.bool b27]⟩∧
 (i10=0→
 (b27=true→
 callN Tryz.prog W0 M 83 [.agg ⟨[s26.v]⟩] W25 fun v28 W29=>
 ∃s30:Sl,
 v28=s30.v∧
 ∀(s31:Sl) (W32:PW),
 Ext W29 W32→
 SX.Own W32 185 4 s31
 [[.int .u8 1,.int .u8 0,.int .u8 0,.string (ByteArray.mk #[49])],
 [.int .u8 2,.int .u8 0,.int .u8 0,.string (ByteArray.mk #[49])]]→
 Fr W0 W29 s31→callN Tryz.prog W0 M 82 [s30.v,s31.v] W32 fun v33 W34=>∃b35:Bool,v33 = .bool b35∧∀(W36:PW),Ext W34 W36→Post (.bool b35) W36)∧
 (b27=false→∀(W37:PW),Ext W25 W37→Post (.bool false) W37))∧
 (¬i10=0→∀(W38:PW),Ext W25 W38→Post (.bool false) W38)
theorem calllaw13_alive (W0:PW) (M:Nat→Prop) (Post:Value→PW→Prop) (h:Rlaw13_alive W0 M Post):PCallsM Tryz.prog 13 [] W0 M Post:=
 fn_sound rfl tt_ok tt_in Tryz.func13 (cuts:=[]) rfl rfl (Nat.le_of_ble_eq_true rfl) (Eq.mpr (by kernel_rfl) h)
end Go.Proofs.YthpmkcidkcmlgaaGreat
