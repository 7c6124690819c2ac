/- R23 -/
import Derived.Test.YtjgpenfndnhdnaaGreatTt
set_option linter.unusedVariables false
set_option linter.unusedSimpArgs false
set_option maxRecDepth 100000
set_option linter.unusedVariables false
namespace Go.Proofs.YtjgpenfndnhdnaaGreat
open Go Go.SX
def Rgram_places (W0:PW) (M:Nat→Prop) (a0_0:Int) (a0_1:Int) (a0_2:Int) (a1:Int) (Post:Value→PW→Prop):Prop:=
 ∃(F1:List PL→PW→Prop),
 ∃(F2:List PL→PW→Nat),
 F1 [PL.val (Value.int .i64 0),PL.val (Value.int .i64 0),PL.cells [Value.int .i64 a1,Value.int .i64 a1]] W0∧
 ∀(i3 i4 i5 i6:Int) (W7:PW),
 F1 [PL.val (Value.int .i64 i5),PL.val (Value.int .i64 i6),PL.cells [Value.int .i64 i3,Value.int .i64 i4]] W7→
 (i6<3→
 (0≤i6∧i6<3)∧
 ∃i8:Int,
 List.take 1 (List.drop (Int.toNat i6*1) [Value.int .u8 a0_0,Value.int .u8 a0_1,Value.int .u8 a0_2]) = [Value.int .u8 i8]∧
 ∃(F9:List PL→PW→Prop),
 ∃(F10:List PL→PW→Nat),
 F9 [PL.val (Value.int .i64 i5),PL.val (Value.int .u8 0),PL.cells [Value.int .i64 i3,Value.int .i64 i4]] W7∧
 ∀(i11 i12 i13 i14:Int) (W15:PW),
 F9 [PL.val (Value.int .i64 i13),PL.val (Value.int .u8 i14),PL.cells [Value.int .i64 i11,Value.int .i64 i12]] W15→
 (i14<i8→
 (0≤i13∧i13<2)∧
 Int.toNat i13<2∧
 (True∧
 (Int.toNat i13=0→
 I64 (i13+1)∧
 stp F9 F10 [PL.val (Value.int .i64 (i13+1)),PL.val (Value.int .u8 (IntKind.wrap .u8 (i14+1))),PL.cells [Value.int .i64 i6,Value.int .i64 i12]] W15
 [PL.val (Value.int .i64 i13),PL.val (Value.int .u8 i14),PL.cells [Value.int .i64 i11,Value.int .i64 i12]] W15))∧
 (Int.toNat i13=1→
 I64 (i13+1)∧
 stp F9 F10 [PL.val (Value.int .i64 (i13+1)),PL.val (Value.int .u8 (IntKind.wrap .u8 (i14+1))),PL.cells [Value.int .i64 i11,Value.int .i64 i6]] W15
 [PL.val (Value.int .i64 i13),PL.val (Value.int .u8 i14),PL.cells [Value.int .i64 i11,Value.int .i64 i12]] W15))∧
 (¬i14<i8→
 I64 (i6+1)∧
 stp F1 F2 [PL.val (Value.int .i64 i13),PL.val (Value.int .i64 (i6+1)),PL.cells [Value.int .i64 i11,Value.int .i64 i12]] W15
 [PL.val (Value.int .i64 i5),PL.val (Value.int .i64 i6),PL.cells [Value.int .i64 i3,Value.int .i64 i4]] W7))∧
 (¬i6<3→((0:Int)≤0∧(0:Int)<2)∧((0:Int)≤1∧(1:Int)<2)∧∀(W16:PW),Ext W7 W16→Post (Value.tuple ⟨[Value.int .i64 i3,Value.int .i64 i4]⟩) W16)
theorem callgram_places (W0:PW) (M:Nat→Prop) (a0_0:Int) (a0_1:Int) (a0_2:Int) (a1:Int) (Post:Value→PW→Prop) (h:Rgram_places W0 M a0_0 a0_1 a0_2 a1 Post):PCallsM Tryz.prog 61 [Value.agg #[Value.int .u8 a0_0,Value.int .u8 a0_1,Value.int .u8 a0_2],Value.int .i64 a1] W0 M Post:=
 fn_sound rfl tt_ok tt_in Tryz.func61 (cuts:=[]) rfl rfl (Nat.le_of_ble_eq_true rfl) (Eq.mpr (by kernel_rfl) h)
def Rgram_Matrix (W0:PW) (M:Nat→Prop) (a0_0:Sl) (a1:Int) (Post:Value→PW→Prop):Prop:=
 (a1<1→∀(W1:PW),Ext W0 W1→Post (Value.tuple ⟨[Value.slice none 0 0,Value.bool false]⟩) W1)∧
 (¬a1<1→
 (3<a1→∀(W2:PW),Ext W0 W2→Post (Value.tuple ⟨[Value.slice none 0 0,Value.bool false]⟩) W2)∧
 (¬3<a1→
 callN Tryz.prog W0 M 58 [Value.agg ⟨[a0_0.v]⟩] W0 fun v3 W4=>
 ∃i5:Int,
 v3=Value.int .i64 i5∧
 (2<i5→∀(W6:PW),Ext W4 W6→Post (Value.tuple ⟨[Value.slice none 0 0,Value.bool false]⟩) W6)∧
 (¬2<i5→
 callN Tryz.prog W0 M 59 [Value.agg ⟨[a0_0.v]⟩] W4 fun v7 W8=>
 ∃i9:Int,
 v7=Value.int .i64 i9∧
 (a1<i9→∀(W10:PW),Ext W8 W10→Post (Value.tuple ⟨[Value.slice none 0 0,Value.bool false]⟩) W10)∧
 (¬a1<i9→
 I64 (a1+1)∧
 (a1+1=a1+1∧0≤a1+1∧(a1+1)*(↑(24:Nat):Int)≤281474976710656)∧
 ∃(F11:List PL→PW→Prop),
 ∃(F12:List PL→PW→Nat),
 F11 [PL.val (Value.int .i64 0),PL.row (List.replicate (Int.toNat (a1+1)) [Value.slice none 0 0])] W8∧
 ∀(l13:List (List Value)) (i14:Int) (W15:PW),
 F11 [PL.val (Value.int .i64 i14),PL.row l13] W15→
 (i14<(↑(List.length (List.replicate (Int.toNat (a1+1)) [Value.slice none 0 0])):Int)→
 I64 (a1+1)∧
 (a1+1=a1+1∧0≤a1+1∧(a1+1)*(↑(56:Nat):Int)≤281474976710656)∧
 (0≤i14∧i14<(↑(List.length l13):Int))∧
 ∀(s16:Sl) (W17:PW),
 Ext W15 W17→
 SX.Own W17 62 3 s16 (List.replicate (Int.toNat (a1+1)) [Value.slice none 0 0,Value.bool false,Value.slice none 0 0])→
 Fr W0 W15 s16→Int.toNat i14<List.length l13∧I64 (i14+1)∧stp F11 F12 [PL.val (Value.int .i64 (i14+1)),PL.row (List.set l13 (Int.toNat i14) [s16.v])] W17 [PL.val (Value.int .i64 i14),PL.row l13] W15)∧
 (¬i14<(↑(List.length (List.replicate (Int.toNat (a1+1)) [Value.slice none 0 0])):Int)→
 callN Tryz.prog W0 M 60 [Value.agg ⟨[a0_0.v]⟩] W15 fun v18 W19=>
 ∃s20:Sl,
 v18=s20.v∧
 ∃(F21:List PL→PW→Prop),
 ∃(F22:List PL→PW→Nat),
 F21 [PL.val (Value.int .i64 0)] W19∧
 ∀(i23:Int) (W24:PW),
 F21 [PL.val (Value.int .i64 i23)] W24→
 (i23<(s20.2:Int)→
 inB s20 i23∧
 ∃i25:Int,
 ∃i26:Int,
 ∃i27:Int,
 ∃s28:Sl,
 ∃b29:Bool,
 ∃s30:Sl,
 ElemAt W24 s20 6 (Int.toNat i23) 0 [Value.int .u8 i25,Value.int .u8 i26,Value.int .u8 i27,s28.v,Value.bool b29,s30.v]∧
 callN Tryz.prog W0 M 61 [Value.agg ⟨[Value.int .u8 i25,Value.int .u8 i26,Value.int .u8 i27]⟩,Value.int .i64 a1] W24 fun v31 W32=>
 ∃i33:Int,
 ∃i34:Int,
 v31=Value.tuple ⟨[Value.int .i64 i33,Value.int .i64 i34]⟩∧
 (i33≠i34→
 callN Tryz.prog W0 M 21 [Value.int .i64 2] W32 fun v35 W36=>
 ∃s37:Sl,
 ∃b38:Bool,
 ∃s39:Sl,
 v35=Value.agg ⟨[s37.v,Value.bool b38,s39.v]⟩∧
 callN Tryz.prog W0 M 62 [Value.agg ⟨[s28.v,Value.bool b29,s30.v]⟩,Value.agg ⟨[s37.v,Value.bool b38,s39.v]⟩] W36 fun v40 W41=>
 ∃s42:Sl,
 ∃b43:Bool,
 ∃s44:Sl,
 ∃b45:Bool,
 v40=Value.tuple ⟨[Value.agg ⟨[s42.v,Value.bool b43,s44.v]⟩,Value.bool b45]⟩∧
 (0≤i33∧i33<(↑(List.length l13):Int))∧
 ∃s46:Sl,
 OwnAt l13 (Int.toNat i33) 0 [s46.v]∧
 (0≤i34∧i34<(↑(List.length l13):Int))∧
 ∃s47:Sl,
 OwnAt l13 (Int.toNat i34) 0 [s47.v]∧
 inB s46 i34∧
 storeN W0 M s46 (Int.toNat i34*3+0) [s42.v,Value.bool b43,s44.v] W41 fun(W48:PW)=>
 inB s47 i33∧
 storeN W0 M s47 (Int.toNat i33*3+0) [s42.v,Value.bool b43,s44.v] W48 fun(W49:PW)=>
 I64 (i23+1)∧stp F21 F22 [PL.val (Value.int .i64 (i23+1))] W49 [PL.val (Value.int .i64 i23)] W24)∧
 (¬i33≠i34→
 (0≤i33∧i33<(↑(List.length l13):Int))∧
 ∃s50:Sl,
 OwnAt l13 (Int.toNat i33) 0 [s50.v]∧
 (0≤i34∧i34<(↑(List.length l13):Int))∧
 ∃s51:Sl,
 OwnAt l13 (Int.toNat i34) 0 [s51.v]∧
 inB s50 i34∧
 storeN W0 M s50 (Int.toNat i34*3+0) [s28.v,Value.bool b29,s30.v] W32 fun(W52:PW)=>
 inB s51 i33∧
 storeN W0 M s51 (Int.toNat i33*3+0) [s28.v,Value.bool b29,s30.v] W52 fun(W53:PW)=>
 I64 (i23+1)∧stp F21 F22 [PL.val (Value.int .i64 (i23+1))] W53 [PL.val (Value.int .i64 i23)] W24))∧
 (¬i23<(s20.2:Int)→∀(s54:Sl) (W55:PW),Ext W24 W55→SX.Own W55 119 1 s54 l13→Fr W0 W24 s54→∀(W56:PW),Ext W55 W56→Post (Value.tuple ⟨[s54.v,Value.bool true]⟩) W56))))))
theorem callgram_Matrix (W0:PW) (M:Nat→Prop) (a0_0:Sl) (a1:Int) (Post:Value→PW→Prop) (h:Rgram_Matrix W0 M a0_0 a1 Post):PCallsM Tryz.prog 16 [Value.agg #[a0_0.v],Value.int .i64 a1] W0 M Post:=
 fn_sound rfl tt_ok tt_in Tryz.func16 (cuts:=[]) rfl rfl (Nat.le_of_ble_eq_true rfl) (Eq.mpr (by kernel_rfl) h)
end Go.Proofs.YtjgpenfndnhdnaaGreat
