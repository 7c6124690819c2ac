/- R15 -/
import Derived.Test.YthpmkcidkcmlgaaGreatTt
set_option linter.unusedVariables false
set_option linter.unusedSimpArgs false
set_option maxRecDepth 100000
set_option linter.unusedVariables false
namespace Go.Proofs.YthpmkcidkcmlgaaGreat
open Go Go.SX
def Rgram_Form (W0:PW) (M:Nat→Prop) (a0:Sl) (a1:Sl) (Post:Value→PW→Prop):Prop:=
 callN Tryz.prog W0 M 94 [a1.v] W0 fun v1 W2=>
 ∃b3:Bool,
 v1 = .bool b3∧
 ((!b3)=true→∀(W4:PW),Ext W2 W4→Post (.tuple ⟨[.agg ⟨[.slice none 0 0]⟩,.bool false]⟩) W4)∧
 ((!b3)=false→
 inB a1 0∧
 ∃s5:Sl,
 ElemAt W2 a1 1 0 0 [s5.v]∧
 ((a1.2:Int)≠(s5.2:Int)→∀(W6:PW),Ext W2 W6→Post (.tuple ⟨[.agg ⟨[.slice none 0 0]⟩,.bool false]⟩) W6)∧
 (¬(a1.2:Int)≠(s5.2:Int)→
 ((a0.2:Int)≠(a1.2:Int)→∀(W7:PW),Ext W2 W7→Post (.tuple ⟨[.agg ⟨[.slice none 0 0]⟩,.bool false]⟩) W7)∧
 (¬(a0.2:Int)≠(a1.2:Int)→
 ∃(F8:List PL→PW→Prop),
 ∃(F9:List PL→PW→Nat),
 F8 [.val (.int .i64 0),.cells [.slice none 0 0],.cells [.slice none 0 0]] W2∧
 ∀(s10 s11:Sl) (i12:Int) (W13:PW),
 F8 [.val (.int .i64 i12),.cells [s10.v],.cells [s11.v]] W13→
 (i12<(a0.2:Int)→
 inB a0 i12∧
 ∃s14:Sl,
 ElemAt W13 a0 1 (Int.toNat i12) 0 [s14.v]∧
 ∃(F15:List PL→PW→Prop),
 ∃(F16:List PL→PW→Nat),
 F15 [.val (.int .i64 0),.cells [s10.v],.cells [s11.v]] W13∧
 ∀(s17 s18:Sl) (i19:Int) (W20:PW),
 F15 [.val (.int .i64 i19),.cells [s17.v],.cells [s18.v]] W20→
 (i19<(a0.2:Int)→
 inB a0 i19∧
 ∃s21:Sl,
 ElemAt W20 a0 1 (Int.toNat i19) 0 [s21.v]∧
 callN Tryz.prog W0 M 95 [.agg ⟨[s14.v]⟩,.agg ⟨[s21.v]⟩] W20 fun v22 W23=>
 ∃s24:Sl,
 ∃b25:Bool,
 v22 = .tuple ⟨[.agg ⟨[s24.v]⟩,.bool b25]⟩∧
 ((!b25)=true→∀(W26:PW),Ext W23 W26→Post (.tuple ⟨[.agg ⟨[.slice none 0 0]⟩,.bool false]⟩) W26)∧
 ((!b25)=false→
 inB a1 i12∧
 ∃s27:Sl,
 ElemAt W23 a1 1 (Int.toNat i12) 0 [s27.v]∧
 inB s27 i19∧
 ∃s28:Sl,
 ∃b29:Bool,
 ∃s30:Sl,
 ElemAt W23 s27 3 (Int.toNat i19) 0 [s28.v,.bool b29,s30.v]∧
 callN Tryz.prog W0 M 97 [.agg ⟨[s24.v]⟩,.agg ⟨[s28.v,.bool b29,s30.v]⟩] W23 fun v31 W32=>
 ∃s33:Sl,
 v31 = .agg ⟨[s33.v]⟩∧
 Ext W23 W32∧
 callN Tryz.prog W0 M 96 [.agg ⟨[s18.v]⟩,.agg ⟨[s33.v]⟩] W32 fun v34 W35=>
 ∃s36:Sl,
 v34 = .agg ⟨[s36.v]⟩∧
 Ext W32 W35∧
 I64 (i19+1)∧
 stp F15 F16 [.val (.int .i64 (i19+1)),.cells [s17.v],.cells [s36.v]] W35 [.val (.int .i64 i19),.cells [s17.v],.cells [s18.v]] W20))∧
 (¬i19<(a0.2:Int)→I64 (i12+1)∧stp F8 F9 [.val (.int .i64 (i12+1)),.cells [s17.v],.cells [s18.v]] W20 [.val (.int .i64 i12),.cells [s10.v],.cells [s11.v]] W13))∧
 (¬i12<(a0.2:Int)→∀(W37:PW),Ext W13 W37→Post (.tuple ⟨[.agg ⟨[s11.v]⟩,.bool true]⟩) W37))))
theorem callgram_Form (W0:PW) (M:Nat→Prop) (a0:Sl) (a1:Sl) (Post:Value→PW→Prop) (h:Rgram_Form W0 M a0 a1 Post):PCallsM Tryz.prog 18 [a0.v,a1.v] W0 M Post:=
 fn_sound rfl tt_ok tt_in Tryz.func18 (cuts:=[]) rfl rfl (Nat.le_of_ble_eq_true rfl) (Eq.mpr (by kernel_rfl) h)
def Rlaw13_alive (W0:PW) (M:Nat→Prop) (Post:Value→PW→Prop):Prop:=
 ∀(s1:Sl) (W2:PW),
 Ext W0 W2→
 SX.Own W2 9 1 s1 [[.string (ByteArray.mk #[49])],[.string (ByteArray.mk #[49,47,50])]]→
 Fr W0 W0 s1→
 ∀(s3:Sl) (W4:PW),
 Ext W2 W4→
 SX.Own W4 9 1 s3 [[.string (ByteArray.mk #[49,47,50])],[.string (ByteArray.mk #[48])]]→
 Fr W0 W2 s3→
 ∀(s5:Sl) (W6:PW),
 Ext W4 W6→
 SX.Own W6 179 1 s5 [[s1.v],[s3.v]]→
 Fr W0 W4 s5→
 callN Tryz.prog W0 M 81 [s5.v] W6 fun v7 W8=>
 ∃s9:Sl,
 ∃i10:Int,
 v7 = .tuple ⟨[s9.v,.int .i64 i10]⟩∧
 callN Tryz.prog W0 M 17 [.int .i64 0] W8 fun v11 W12=>
 ∃s13:Sl,
 v11 = .agg ⟨[s13.v]⟩∧
 callN Tryz.prog W0 M 20 [.int .i64 1] W12 fun v14 W15=>
 ∃s16:Sl,
 ∃b17:Bool,
 ∃s18:Sl,
 v14 = .agg ⟨[s16.v,.bool b17,s18.v]⟩∧
 callN Tryz.prog W0 M 19 [.agg ⟨[s16.v,.bool b17,s18.v]⟩] W15 fun v19 W20=>
 ∃s21:Sl,
 v19 = .agg ⟨[s21.v]⟩∧
 ∀(s22:Sl) (W23:PW),
 Ext W20 W23→
 SX.Own W23 25 1 s22 [[s13.v],[s21.v]]→
 Fr W0 W20 s22→
 callN Tryz.prog W0 M 18 [s22.v,s9.v] W23 fun v24 W25=>
 ∃s26:Sl,
 ∃b27:Bool,
 v24 = .tuple ⟨[.agg ⟨[s26.v]⟩,.bool b27]⟩∧
 (i10=0→
 (b27=true→
 callN Tryz.prog W0 M 83 [.agg ⟨[s26.v]⟩] W25 fun v28 W29=>
 ∃s30:Sl,
 v28=s30.v∧
 ∀(s31:Sl) (W32:PW),
 Ext W29 W32→
 SX.Own W32 185 4 s31
 [[.int .u8 1,.int .u8 0,.int .u8 0,.string (ByteArray.mk #[49])],
 [.int .u8 2,.int .u8 0,.int .u8 0,.string (ByteArray.mk #[49])]]→
 Fr W0 W29 s31→callN Tryz.prog W0 M 82 [s30.v,s31.v] W32 fun v33 W34=>∃b35:Bool,v33 = .bool b35∧∀(W36:PW),Ext W34 W36→Post (.bool b35) W36)∧
 (b27=false→∀(W37:PW),Ext W25 W37→Post (.bool false) W37))∧
 (¬i10=0→∀(W38:PW),Ext W25 W38→Post (.bool false) W38)
theorem calllaw13_alive (W0:PW) (M:Nat→Prop) (Post:Value→PW→Prop) (h:Rlaw13_alive W0 M Post):PCallsM Tryz.prog 13 [] W0 M Post:=
 fn_sound rfl tt_ok tt_in Tryz.func13 (cuts:=[]) rfl rfl (Nat.le_of_ble_eq_true rfl) (Eq.mpr (by kernel_rfl) h)
end Go.Proofs.YthpmkcidkcmlgaaGreat

set_option maxRecDepth 100000
set_option linter.unusedVariables false
namespace Go.Proofs.YthpmkcidkcmlgaaGreat
open Go Go.SX
def Rgram_places (W0:PW) (M:Nat→Prop) (a0_0:Int) (a0_1:Int) (a0_2:Int) (a1:Int) (Post:Value→PW→Prop):Prop:=
 ∃(F1:List PL→PW→Prop),
 ∃(F2:List PL→PW→Nat),
 F1 [PL.val (Value.int .i64 0),PL.val (Value.int .i64 0),PL.cells [Value.int .i64 a1,Value.int .i64 a1]] W0∧
 ∀(i3 i4 i5 i6:Int) (W7:PW),
 F1 [PL.val (Value.int .i64 i5),PL.val (Value.int .i64 i6),PL.cells [Value.int .i64 i3,Value.int .i64 i4]] W7→
 (i6<3→
 (0≤i6∧i6<3)∧
 ∃i8:Int,
 List.take 1 (List.drop (Int.toNat i6*1) [Value.int .u8 a0_0,Value.int .u8 a0_1,Value.int .u8 a0_2]) = [Value.int .u8 i8]∧
 ∃(F9:List PL→PW→Prop),
 ∃(F10:List PL→PW→Nat),
 F9 [PL.val (Value.int .i64 i5),PL.val (Value.int .u8 0),PL.cells [Value.int .i64 i3,Value.int .i64 i4]] W7∧
 ∀(i11 i12 i13 i14:Int) (W15:PW),
 F9 [PL.val (Value.int .i64 i13),PL.val (Value.int .u8 i14),PL.cells [Value.int .i64 i11,Value.int .i64 i12]] W15→
 (i14<i8→
 (0≤i13∧i13<2)∧
 Int.toNat i13<2∧
 (True∧
 (Int.toNat i13=0→
 I64 (i13+1)∧
 stp F9 F10 [PL.val (Value.int .i64 (i13+1)),PL.val (Value.int .u8 (IntKind.wrap .u8 (i14+1))),PL.cells [Value.int .i64 i6,Value.int .i64 i12]] W15
 [PL.val (Value.int .i64 i13),PL.val (Value.int .u8 i14),PL.cells [Value.int .i64 i11,Value.int .i64 i12]] W15))∧
 (Int.toNat i13=1→
 I64 (i13+1)∧
 stp F9 F10 [PL.val (Value.int .i64 (i13+1)),PL.val (Value.int .u8 (IntKind.wrap .u8 (i14+1))),PL.cells [Value.int .i64 i11,Value.int .i64 i6]] W15
 [PL.val (Value.int .i64 i13),PL.val (Value.int .u8 i14),PL.cells [Value.int .i64 i11,Value.int .i64 i12]] W15))∧
 (¬i14<i8→
 I64 (i6+1)∧
 stp F1 F2 [PL.val (Value.int .i64 i13),PL.val (Value.int .i64 (i6+1)),PL.cells [Value.int .i64 i11,Value.int .i64 i12]] W15
 [PL.val (Value.int .i64 i5),PL.val (Value.int .i64 i6),PL.cells [Value.int .i64 i3,Value.int .i64 i4]] W7))∧
 (¬i6<3→((0:Int)≤0∧(0:Int)<2)∧((0:Int)≤1∧(1:Int)<2)∧∀(W16:PW),Ext W7 W16→Post (Value.tuple ⟨[Value.int .i64 i3,Value.int .i64 i4]⟩) W16)
theorem callgram_places (W0:PW) (M:Nat→Prop) (a0_0:Int) (a0_1:Int) (a0_2:Int) (a1:Int) (Post:Value→PW→Prop) (h:Rgram_places W0 M a0_0 a0_1 a0_2 a1 Post):PCallsM Tryz.prog 86 [Value.agg #[Value.int .u8 a0_0,Value.int .u8 a0_1,Value.int .u8 a0_2],Value.int .i64 a1] W0 M Post:=
 fn_sound rfl tt_ok tt_in Tryz.func86 (cuts:=[]) rfl rfl (Nat.le_of_ble_eq_true rfl) (Eq.mpr (by kernel_rfl) h)
def Rgram_Matrix (W0:PW) (M:Nat→Prop) (a0_0:Sl) (a1:Int) (Post:Value→PW→Prop):Prop:=
 (a1<1→∀(W1:PW),Ext W0 W1→Post (Value.tuple ⟨[Value.slice none 0 0,Value.bool false]⟩) W1)∧
 (¬a1<1→
 (3<a1→∀(W2:PW),Ext W0 W2→Post (Value.tuple ⟨[Value.slice none 0 0,Value.bool false]⟩) W2)∧
 (¬3<a1→
 callN Tryz.prog W0 M 75 [Value.agg ⟨[a0_0.v]⟩] W0 fun v3 W4=>
 ∃i5:Int,
 v3=Value.int .i64 i5∧
 (2<i5→∀(W6:PW),Ext W4 W6→Post (Value.tuple ⟨[Value.slice none 0 0,Value.bool false]⟩) W6)∧
 (¬2<i5→
 callN Tryz.prog W0 M 84 [Value.agg ⟨[a0_0.v]⟩] W4 fun v7 W8=>
 ∃i9:Int,
 v7=Value.int .i64 i9∧
 (a1<i9→∀(W10:PW),Ext W8 W10→Post (Value.tuple ⟨[Value.slice none 0 0,Value.bool false]⟩) W10)∧
 (¬a1<i9→
 I64 (a1+1)∧
 (a1+1=a1+1∧0≤a1+1∧(a1+1)*(↑(24:Nat):Int)≤281474976710656)∧
 ∃(F11:List PL→PW→Prop),
 ∃(F12:List PL→PW→Nat),
 F11 [PL.val (Value.int .i64 0),PL.row (List.replicate (Int.toNat (a1+1)) [Value.slice none 0 0])] W8∧
 ∀(l13:List (List Value)) (i14:Int) (W15:PW),
 F11 [PL.val (Value.int .i64 i14),PL.row l13] W15→
 (i14<(↑(List.length (List.replicate (Int.toNat (a1+1)) [Value.slice none 0 0])):Int)→
 I64 (a1+1)∧
 (a1+1=a1+1∧0≤a1+1∧(a1+1)*(↑(56:Nat):Int)≤281474976710656)∧
 (0≤i14∧i14<(↑(List.length l13):Int))∧
 ∀(s16:Sl) (W17:PW),
 Ext W15 W17→
 SX.Own W17 51 3 s16 (List.replicate (Int.toNat (a1+1)) [Value.slice none 0 0,Value.bool false,Value.slice none 0 0])→
 Fr W0 W15 s16→Int.toNat i14<List.length l13∧I64 (i14+1)∧stp F11 F12 [PL.val (Value.int .i64 (i14+1)),PL.row (List.set l13 (Int.toNat i14) [s16.v])] W17 [PL.val (Value.int .i64 i14),PL.row l13] W15)∧
 (¬i14<(↑(List.length (List.replicate (Int.toNat (a1+1)) [Value.slice none 0 0])):Int)→
 callN Tryz.prog W0 M 85 [Value.agg ⟨[a0_0.v]⟩] W15 fun v18 W19=>
 ∃s20:Sl,
 v18=s20.v∧
 ∃(F21:List PL→PW→Prop),
 ∃(F22:List PL→PW→Nat),
 F21 [PL.val (Value.int .i64 0)] W19∧
 ∀(i23:Int) (W24:PW),
 F21 [PL.val (Value.int .i64 i23)] W24→
 (i23<(s20.2:Int)→
 inB s20 i23∧
 ∃i25:Int,
 ∃i26:Int,
 ∃i27:Int,
 ∃s28:Sl,
 ∃b29:Bool,
 ∃s30:Sl,
 ElemAt W24 s20 6 (Int.toNat i23) 0 [Value.int .u8 i25,Value.int .u8 i26,Value.int .u8 i27,s28.v,Value.bool b29,s30.v]∧
 callN Tryz.prog W0 M 86 [Value.agg ⟨[Value.int .u8 i25,Value.int .u8 i26,Value.int .u8 i27]⟩,Value.int .i64 a1] W24 fun v31 W32=>
 ∃i33:Int,
 ∃i34:Int,
 v31=Value.tuple ⟨[Value.int .i64 i33,Value.int .i64 i34]⟩∧
 (i33≠i34→
 callN Tryz.prog W0 M 20 [Value.int .i64 2] W32 fun v35 W36=>
 ∃s37:Sl,
 ∃b38:Bool,
 ∃s39:Sl,
 v35=Value.agg ⟨[s37.v,Value.bool b38,s39.v]⟩∧
 callN Tryz.prog W0 M 87 [Value.agg ⟨[s28.v,Value.bool b29,s30.v]⟩,Value.agg ⟨[s37.v,Value.bool b38,s39.v]⟩] W36 fun v40 W41=>
 ∃s42:Sl,
 ∃b43:Bool,
 ∃s44:Sl,
 ∃b45:Bool,
 v40=Value.tuple ⟨[Value.agg ⟨[s42.v,Value.bool b43,s44.v]⟩,Value.bool b45]⟩∧
 (0≤i33∧i33<(↑(List.length l13):Int))∧
 ∃s46:Sl,
 OwnAt l13 (Int.toNat i33) 0 [s46.v]∧
 (0≤i34∧i34<(↑(List.length l13):Int))∧
 ∃s47:Sl,
 OwnAt l13 (Int.toNat i34) 0 [s47.v]∧
 inB s46 i34∧
 storeN W0 M s46 (Int.toNat i34*3+0) [s42.v,Value.bool b43,s44.v] W41 fun(W48:PW)=>
 inB s47 i33∧
 storeN W0 M s47 (Int.toNat i33*3+0) [s42.v,Value.bool b43,s44.v] W48 fun(W49:PW)=>
 I64 (i23+1)∧stp F21 F22 [PL.val (Value.int .i64 (i23+1))] W49 [PL.val (Value.int .i64 i23)] W24)∧
 (¬i33≠i34→
 (0≤i33∧i33<(↑(List.length l13):Int))∧
 ∃s50:Sl,
 OwnAt l13 (Int.toNat i33) 0 [s50.v]∧
 (0≤i34∧i34<(↑(List.length l13):Int))∧
 ∃s51:Sl,
 OwnAt l13 (Int.toNat i34) 0 [s51.v]∧
 inB s50 i34∧
 storeN W0 M s50 (Int.toNat i34*3+0) [s28.v,Value.bool b29,s30.v] W32 fun(W52:PW)=>
 inB s51 i33∧
 storeN W0 M s51 (Int.toNat i33*3+0) [s28.v,Value.bool b29,s30.v] W52 fun(W53:PW)=>
 I64 (i23+1)∧stp F21 F22 [PL.val (Value.int .i64 (i23+1))] W53 [PL.val (Value.int .i64 i23)] W24))∧
 (¬i23<(s20.2:Int)→∀(s54:Sl) (W55:PW),Ext W24 W55→SX.Own W55 100 1 s54 l13→Fr W0 W24 s54→∀(W56:PW),Ext W55 W56→Post (Value.tuple ⟨[s54.v,Value.bool true]⟩) W56))))))
theorem callgram_Matrix (W0:PW) (M:Nat→Prop) (a0_0:Sl) (a1:Int) (Post:Value→PW→Prop) (h:Rgram_Matrix W0 M a0_0 a1 Post):PCallsM Tryz.prog 14 [Value.agg #[a0_0.v],Value.int .i64 a1] W0 M Post:=
 fn_sound rfl tt_ok tt_in Tryz.func14 (cuts:=[]) rfl rfl (Nat.le_of_ble_eq_true rfl) (Eq.mpr (by kernel_rfl) h)
end Go.Proofs.YthpmkcidkcmlgaaGreat

set_option maxRecDepth 100000
set_option linter.unusedVariables false
namespace Go.Proofs.YthpmkcidkcmlgaaGreat
open Go Go.SX
def Rref1_Half (W0:PW) (M:Nat→Prop) (a0_0:Bool) (a0_1:Sl) (a0_2:Sl) (Post:Value→PW→Prop):Prop:=
 callN Tryz.prog W0 M 168 [.int .i64 1] W0 fun v1 W2=>
 ∃b3:Bool,
 ∃s4:Sl,
 v1 = .agg ⟨[.bool b3,s4.v]⟩∧
 callN Tryz.prog W0 M 169 [.int .u64 2] W2 fun v5 W6=>
 ∃s7:Sl,
 v5=s7.v∧
 callN Tryz.prog W0 M 149 [.agg ⟨[.bool a0_0,a0_1.v,a0_2.v]⟩,.agg ⟨[.bool b3,s4.v,s7.v]⟩] W6 fun v8 W9=>
 ∃b10:Bool,∃s11:Sl,∃s12:Sl,v8 = .agg ⟨[.bool b10,s11.v,s12.v]⟩∧∀(W13:PW),Ext W9 W13→Post (.agg ⟨[.bool b10,s11.v,s12.v]⟩) W13
theorem callref1_Half (W0:PW) (M:Nat→Prop) (a0_0:Bool) (a0_1:Sl) (a0_2:Sl) (Post:Value→PW→Prop) (h:Rref1_Half W0 M a0_0 a0_1 a0_2 Post):PCallsM Tryz.prog 89 [.agg #[.bool a0_0,a0_1.v,a0_2.v]] W0 M Post:=
 fn_sound rfl tt_ok tt_in Tryz.func89 (cuts:=[]) rfl rfl (Nat.le_of_ble_eq_true rfl) (Eq.mpr (by kernel_rfl) h)
def Rref1_Matrix (W0:PW) (M:Nat→Prop) (a0:Sl) (a1:Int) (Post:Value→PW→Prop):Prop:=
 (a1<1→∀(W1:PW),Ext W0 W1→Post (.tuple ⟨[.slice none 0 0,.bool false]⟩) W1)∧
 (¬a1<1→
 (3<a1→∀(W2:PW),Ext W0 W2→Post (.tuple ⟨[.slice none 0 0,.bool false]⟩) W2)∧
 (¬3<a1→
 callN Tryz.prog W0 M 67 [a0.v] W0 fun v3 W4=>
 ∃i5:Int,
 v3 = .int .i64 i5∧
 (2<i5→∀(W6:PW),Ext W4 W6→Post (.tuple ⟨[.slice none 0 0,.bool false]⟩) W6)∧
 (¬2<i5→
 callN Tryz.prog W0 M 88 [a0.v] W4 fun v7 W8=>
 ∃i9:Int,
 v7 = .int .i64 i9∧
 (a1<i9→∀(W10:PW),Ext W8 W10→Post (.tuple ⟨[.slice none 0 0,.bool false]⟩) W10)∧
 (¬a1<i9→
 ∃(F11:List PL→PW→Prop),
 ∃(F12:List PL→PW→Nat),
 F11 [.row [],.val (.int .i64 0)] W8∧
 ∀(l13:List (List Value)) (i14:Int) (W15:PW),
 F11 [.row l13,.val (.int .i64 i14)] W15→
 (i14≤a1→
 I64 (a1+1)∧
 (a1+1=a1+1∧0≤a1+1∧(a1+1)*(↑(56:Nat):Int)≤281474976710656)∧
 ∀(s16:Sl) (W17:PW),
 Ext W15 W17→
 SX.Own W17 92 3 s16 (List.replicate (Int.toNat (a1+1)) [.bool false,.slice none 0 0,.slice none 0 0])→
 Fr W0 W15 s16→(List.length l13+List.length [[s16.v]])*24≤140737488355328∧I64 (i14+1)∧stp F11 F12 [.row (l13 ++ [[s16.v]]),.val (.int .i64 (i14+1))] W17 [.row l13,.val (.int .i64 i14)] W15)∧
 (¬i14≤a1→
 ∃(F18:List PL→PW→Prop),
 ∃(F19:List PL→PW→Nat),
 F18 [.val (.int .i64 0)] W15∧
 ∀(i20:Int) (W21:PW),
 F18 [.val (.int .i64 i20)] W21→
 (i20<(a0.2:Int)→
 ∃(F22:List PL→PW→Prop),
 ∃(F23:List PL→PW→Nat),
 F22 [.val (.int .i64 a1),.val (.int .i64 a1),.val (.int .i64 0)] W21∧
 ∀(i24 i25 i26:Int) (W27:PW),
 F22 [.val (.int .i64 i24),.val (.int .i64 i25),.val (.int .i64 i26)] W27→
 (i26<a1→
 ∃(F28:List PL→PW→Prop),
 ∃(F29:List PL→PW→Nat),
 F28 [.val (.int .i64 i24),.val (.int .i64 i25),.val (.int .i64 0)] W27∧
 ∀(i30 i31 i32:Int) (W33:PW),
 F28 [.val (.int .i64 i30),.val (.int .i64 i31),.val (.int .i64 i32)] W33→
 inB a0 i20∧
 (0≤i26∧i26<3)∧
 ∃i34:Int,
 ElemAt W33 a0 6 (Int.toNat i20) (0+Int.toNat i26*1) [.int .u8 i34]∧
 I64 i34∧
 (i32<i34→
 (i30=a1→
 I64 (i32+1)∧
 stp F28 F29 [.val (.int .i64 i26),.val (.int .i64 i31),.val (.int .i64 (i32+1))] W33
 [.val (.int .i64 i30),.val (.int .i64 i31),.val (.int .i64 i32)] W33)∧
 (¬i30=a1→
 I64 (i32+1)∧
 stp F28 F29 [.val (.int .i64 i30),.val (.int .i64 i26),.val (.int .i64 (i32+1))] W33
 [.val (.int .i64 i30),.val (.int .i64 i31),.val (.int .i64 i32)] W33))∧
 (¬i32<i34→
 I64 (i26+1)∧
 stp F22 F23 [.val (.int .i64 i30),.val (.int .i64 i31),.val (.int .i64 (i26+1))] W33
 [.val (.int .i64 i24),.val (.int .i64 i25),.val (.int .i64 i26)] W27))∧
 (¬i26<a1→
 (i24=i25→
 (0≤i24∧i24<(↑(List.length l13):Int))∧
 ∃s35:Sl,
 OwnAt l13 (Int.toNat i24) 0 [s35.v]∧
 inB a0 i20∧
 ∃b36:Bool,
 ∃s37:Sl,
 ∃s38:Sl,
 ElemAt W27 a0 6 (Int.toNat i20) 3 [.bool b36,s37.v,s38.v]∧
 inB s35 i24∧
 storeN W0 M s35 (Int.toNat i24*3+0) [.bool b36,s37.v,s38.v] W27 fun(W39:PW)=>
 I64 (i20+1)∧stp F18 F19 [.val (.int .i64 (i20+1))] W39 [.val (.int .i64 i20)] W21)∧
 (¬i24=i25→
 (0≤i24∧i24<(↑(List.length l13):Int))∧
 ∃s40:Sl,
 OwnAt l13 (Int.toNat i24) 0 [s40.v]∧
 (0≤i25∧i25<(↑(List.length l13):Int))∧
 ∃s41:Sl,
 OwnAt l13 (Int.toNat i25) 0 [s41.v]∧
 inB a0 i20∧
 ∃b42:Bool,
 ∃s43:Sl,
 ∃s44:Sl,
 ElemAt W27 a0 6 (Int.toNat i20) 3 [.bool b42,s43.v,s44.v]∧
 inB a0 i20∧
 ∃b45:Bool,
 ∃s46:Sl,
 ∃s47:Sl,
 ElemAt W27 a0 6 (Int.toNat i20) 3 [.bool b45,s46.v,s47.v]∧
 callN Tryz.prog W0 M 89 [.agg ⟨[.bool b42,s43.v,s44.v]⟩] W27 fun v48 W49=>
 ∃b50:Bool,
 ∃s51:Sl,
 ∃s52:Sl,
 v48 = .agg ⟨[.bool b50,s51.v,s52.v]⟩∧
 Ext W27 W49∧
 callN Tryz.prog W0 M 89 [.agg ⟨[.bool b45,s46.v,s47.v]⟩] W49 fun v53 W54=>
 ∃b55:Bool,
 ∃s56:Sl,
 ∃s57:Sl,
 v53 = .agg ⟨[.bool b55,s56.v,s57.v]⟩∧
 inB s40 i25∧
 storeN W0 M s40 (Int.toNat i25*3+0) [.bool b50,s51.v,s52.v] W54 fun(W58:PW)=>
 inB s41 i24∧
 storeN W0 M s41 (Int.toNat i24*3+0) [.bool b55,s56.v,s57.v] W58 fun(W59:PW)=>
 I64 (i20+1)∧stp F18 F19 [.val (.int .i64 (i20+1))] W59 [.val (.int .i64 i20)] W21)))∧
 (¬i20<(a0.2:Int)→∀(s60:Sl) (W61:PW),Ext W21 W61→SX.Own W61 193 1 s60 l13→Fr W0 W21 s60→∀(W62:PW),Ext W61 W62→Post (.tuple ⟨[s60.v,.bool true]⟩) W62))))))
theorem callref1_Matrix (W0:PW) (M:Nat→Prop) (a0:Sl) (a1:Int) (Post:Value→PW→Prop) (h:Rref1_Matrix W0 M a0 a1 Post):PCallsM Tryz.prog 15 [a0.v,.int .i64 a1] W0 M Post:=
 fn_sound rfl tt_ok tt_in Tryz.func15 (cuts:=[]) rfl rfl (Nat.le_of_ble_eq_true rfl) (Eq.mpr (by kernel_rfl) h)
def Rlaw13_GramMatrices (W0:PW) (M:Nat→Prop) (a0:Sl) (a1:Int) (Post:Value→PW→Prop):Prop:=
 callN Tryz.prog W0 M 12 [a0.v,.int .i64 3] W0 fun v1 W2=>
 ∃s3:Sl,
 ∃s4:Sl,
 ∃b5:Bool,
 v1 = .tuple ⟨[.agg ⟨[s3.v]⟩,s4.v,.bool b5]⟩∧
 ((!b5)=true→callN Tryz.prog W0 M 13 [] W2 fun v6 W7=>∃b8:Bool,v6 = .bool b8∧∀(W9:PW),Ext W7 W9→Post (.bool b8) W9)∧
 ((!b5)=false→
 callN Tryz.prog W0 M 13 [] W2 fun v10 W11=>
 ∃b12:Bool,
 v10 = .bool b12∧
 ((!b12)=true→callN Tryz.prog W0 M 13 [] W11 fun v13 W14=>∃b15:Bool,v13 = .bool b15∧∀(W16:PW),Ext W14 W16→Post (.bool b15) W16)∧
 ((!b12)=false→
 callN Tryz.prog W0 M 14 [.agg ⟨[s3.v]⟩,.int .i64 a1] W11 fun v17 W18=>
 ∃s19:Sl,
 ∃b20:Bool,
 v17 = .tuple ⟨[s19.v,.bool b20]⟩∧
 callN Tryz.prog W0 M 15 [s4.v,.int .i64 a1] W18 fun v21 W22=>
 ∃s23:Sl,
 ∃b24:Bool,
 v21 = .tuple ⟨[s23.v,.bool b24]⟩∧
 (b20≠b24→∀(W25:PW),Ext W22 W25→Post (.bool false) W25)∧
 (¬b20≠b24→
 callN Tryz.prog W0 M 16 [s19.v,s23.v] W22 fun v26 W27=>
 ∃b28:Bool,
 v26 = .bool b28∧
 ((!b28)=true→∀(W29:PW),Ext W27 W29→Post (.bool false) W29)∧
 ((!b28)=false→
 ((!b24)=true→∀(W30:PW),Ext W27 W30→Post (.bool true) W30)∧
 ((!b24)=false→
 ∃(F31:List PL→PW→Prop),
 ∃(F32:List PL→PW→Nat),
 F31 [.row [],.val (.int .i64 0)] W27∧
 ∀(l33:List (List Value)) (i34:Int) (W35:PW),
 F31 [.row l33,.val (.int .i64 i34)] W35→
 (i34<a1→
 callN Tryz.prog W0 M 17 [.int .i64 i34] W35 fun v36 W37=>
 ∃s38:Sl,
 v36 = .agg ⟨[s38.v]⟩∧
 (List.length l33+List.length [[s38.v]])*24≤140737488355328∧I64 (i34+1)∧stp F31 F32 [.row (l33 ++ [[s38.v]]),.val (.int .i64 (i34+1))] W37 [.row l33,.val (.int .i64 i34)] W35)∧
 (¬i34<a1→
 callN Tryz.prog W0 M 20 [.int .i64 1] W35 fun v39 W40=>
 ∃s41:Sl,
 ∃b42:Bool,
 ∃s43:Sl,
 v39 = .agg ⟨[s41.v,.bool b42,s43.v]⟩∧
 callN Tryz.prog W0 M 19 [.agg ⟨[s41.v,.bool b42,s43.v]⟩] W40 fun v44 W45=>
 ∃s46:Sl,
 v44 = .agg ⟨[s46.v]⟩∧
 (List.length l33+List.length [[s46.v]])*24≤140737488355328∧
 ∀(s47:Sl) (W48:PW),
 Ext W45 W48→
 SX.Own W48 25 1 s47 (l33 ++ [[s46.v]])→
 Fr W0 W45 s47→
 callN Tryz.prog W0 M 18 [s47.v,s19.v] W48 fun v49 W50=>
 ∃s51:Sl,
 ∃b52:Bool,
 v49 = .tuple ⟨[.agg ⟨[s51.v]⟩,.bool b52]⟩∧
 callN Tryz.prog W0 M 21 [s19.v] W50 fun v53 W54=>
 ∃s55:Sl,
 ∃b56:Bool,
 v53 = .tuple ⟨[s55.v,.bool b56]⟩∧
 (b52=true→
 (b56=true→
 callN Tryz.prog W0 M 22 [.agg ⟨[s51.v]⟩,.agg ⟨[s3.v]⟩] W54 fun v57 W58=>
 ∃b59:Bool,
 v57 = .bool b59∧
 (b59=true→callN Tryz.prog W0 M 23 [s55.v,s19.v] W58 fun v60 W61=>∃b62:Bool,v60 = .bool b62∧∀(W63:PW),Ext W61 W63→Post (.bool b62) W63)∧
 (b59=false→∀(W64:PW),Ext W58 W64→Post (.bool false) W64))∧
 (b56=false→∀(W65:PW),Ext W54 W65→Post (.bool false) W65))∧
 (b52=false→∀(W66:PW),Ext W54 W66→Post (.bool false) W66)))))))
theorem calllaw13_GramMatrices (W0:PW) (M:Nat→Prop) (a0:Sl) (a1:Int) (Post:Value→PW→Prop) (h:Rlaw13_GramMatrices W0 M a0 a1 Post):PCallsM Tryz.prog 3 [a0.v,.int .i64 a1] W0 M Post:=
 fn_sound rfl tt_ok tt_in Tryz.func3 (cuts:=[]) rfl rfl (Nat.le_of_ble_eq_true rfl) (Eq.mpr (by kernel_rfl) h)
end Go.Proofs.YthpmkcidkcmlgaaGreat
