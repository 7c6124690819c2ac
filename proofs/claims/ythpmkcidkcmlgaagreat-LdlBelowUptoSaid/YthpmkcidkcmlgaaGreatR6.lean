/- R6 -/
import Derived.Test.YthpmkcidkcmlgaaGreatTt
set_option linter.unusedVariables false
set_option linter.unusedSimpArgs false
set_option maxRecDepth 100000
set_option linter.unusedVariables false
namespace Go.Proofs.YthpmkcidkcmlgaaGreat
open Go Go.SX
def Rnat_Nat_Text (W0:PW) (M:Nat→Prop) (a0_0:Sl) (Post:Value→PW→Prop):Prop:=
 callN Tryz.prog W0 M (229:Nat) [a0_0.v] W0 fun v1 W2=>
 ∃s3:Sl,
 v1=s3.v∧
 ∃(F4:List PL→PW→Prop),
 ∃(F5:List PL→PW→Nat),
 F4 [PL.row [],PL.val s3.v] W2∧
 ∀(l6:List (List Value)) (s7:Sl) (W8:PW),
 F4 [PL.row l6,PL.val s7.v] W8→
 ((0:Int)<(↑s7.2:Int)→
 callN Tryz.prog W0 M (230:Nat) [s7.v,Value.int IntKind.u32 (1000000000:Int)] W8 fun v9 W10=>
 ∃i11:Int,
 v9=Value.int IntKind.u32 i11∧
 ∃(F12:List PL→PW→Prop),
 ∃(F13:List PL→PW→Nat),
 F12 [PL.row l6,PL.val (Value.int IntKind.u32 i11),PL.val (Value.int IntKind.i64 (0:Int))] W10∧
 ∀(l14:List (List Value)) (i15 i16:Int) (W17:PW),
 F12 [PL.row l14,PL.val (Value.int IntKind.u32 i15),PL.val (Value.int IntKind.i64 i16)] W17→
 (i16<(9:Int)→
 (10:Int)≠(0:Int)∧
 (List.length l14+List.length [[Value.int IntKind.u8 (IntKind.wrap IntKind.u8 (IntKind.wrap IntKind.u32 ((48:Int)+Int.tmod i15 (10:Int))))]])*(1:Nat)≤(140737488355328:Nat)∧
 (10:Int)≠(0:Int)∧
 I64 (i16+(1:Int))∧
 stp F12 F13 [PL.row (l14 ++ [[Value.int IntKind.u8 (IntKind.wrap IntKind.u8 (IntKind.wrap IntKind.u32 ((48:Int)+Int.tmod i15 (10:Int))))]]),PL.val (Value.int IntKind.u32 (IntKind.wrap IntKind.u32 (Int.tdiv i15 (10:Int)))),PL.val (Value.int IntKind.i64 (i16+(1:Int)))] W17
 [PL.row l14,PL.val (Value.int IntKind.u32 i15),PL.val (Value.int IntKind.i64 i16)] W17)∧
 (¬i16<(9:Int)→callN Tryz.prog W0 M (218:Nat) [s7.v] W17 fun v18 W19=>∃s20:Sl,v18=Value.agg ⟨[s20.v]⟩∧stp F4 F5 [PL.row l14,PL.val s20.v] W19 [PL.row l6,PL.val s7.v] W8))∧
 (¬(0:Int)<(↑s7.2:Int)→
 ∀(s21:Sl) (W22:PW),
 Ext W8 W22→
 SX.Own W22 (5:Nat) (1:Nat) s21 l6→
 Fr W0 W8 s21→
 ∃(F23:List PL→PW→Prop),
 ∃(F24:List PL→PW→Nat),
 F23 [PL.val s21.v] W22∧
 ∀(s25:Sl) (W26:PW),
 F23 [PL.val s25.v] W26→
 ((0:Int)<(↑s25.2:Int)→
 I64 ((↑s25.2:Int)-(1:Int))∧
 inB s25 ((↑s25.2:Int)-(1:Int))∧
 ∃i27:Int,
 ElemAt W26 s25 (1:Nat) (Int.toNat ((↑s25.2:Int)-(1:Int))) (0:Nat) [Value.int IntKind.u8 i27]∧
 (i27=(48:Int)→
 I64 ((↑s25.2:Int)-(1:Int))∧
 ((0:Int)≤(0:Int)∧(0:Int)≤(↑s25.2:Int)-(1:Int)∧(↑s25.2:Int)-(1:Int)≤(↑s25.3:Int))∧
 stp F23 F24 [PL.val (Sl.v (Sl.cut {A:=Sl.A s25,n:=Sl.n s25,c:=Sl.c s25 } (TyI.size ty5) (Int.toNat (0:Int)) (Int.toNat ((↑s25.2:Int)-(1:Int)))))] W26 [PL.val s25.v] W26)∧
 (¬i27=(48:Int)→
 ((↑s25.2:Int)=(0:Int)→∀(W28:PW),Ext W26 W28→Post (Value.string (ByteArray.mk #[48])) W28)∧
 (¬(↑s25.2:Int)=(0:Int)→
 callN Tryz.prog W0 M (231:Nat) [s25.v] W26 fun v29 W30=>
 v29=Value.tuple ⟨[]⟩∧∃(l31:List Int),Row W30 (5:Nat) (1:Nat) s25 (List.map (fun(i32:Int)=>[Value.int IntKind.u8 i32]) l31)∧∀(W33:PW),Ext W30 W33→Post (Value.string (strOfNums l31)) W33)))∧
 (¬(0:Int)<(↑s25.2:Int)→
 ((↑s25.2:Int)=(0:Int)→∀(W34:PW),Ext W26 W34→Post (Value.string (ByteArray.mk #[48])) W34)∧
 (¬(↑s25.2:Int)=(0:Int)→
 callN Tryz.prog W0 M (231:Nat) [s25.v] W26 fun v35 W36=>
 v35=Value.tuple ⟨[]⟩∧∃(l37:List Int),Row W36 (5:Nat) (1:Nat) s25 (List.map (fun(i38:Int)=>[Value.int IntKind.u8 i38]) l37)∧∀(W39:PW),Ext W36 W39→Post (Value.string (strOfNums l37)) W39)))
theorem callnat_Nat_Text (W0:PW) (M:Nat→Prop) (a0_0:Sl) (Post:Value→PW→Prop) (h:Rnat_Nat_Text W0 M a0_0 Post):PCallsM Tryz.prog 183 [Value.agg #[a0_0.v]] W0 M Post:=
 fn_sound rfl tt_ok tt_in Tryz.func183 (cuts:=[1000011]) rfl rfl (Nat.le_of_ble_eq_true rfl) (Eq.mpr (by kernel_rfl) h)
def Rwhole_Int_Text (W0:PW) (M:Nat→Prop) (a0_0:Sl) (a0_1:Bool) (Post:Value→PW→Prop):Prop:=
 (a0_1=true→
 callN Tryz.prog W0 M 183 [.agg ⟨[a0_0.v]⟩] W0 fun v1 W2=>
 ∃t3:ByteArray,v1 = .string t3∧(↑(ByteArray.size (ByteArray.mk #[45])):Int)+(↑(ByteArray.size t3):Int)≤9223372036854775807∧∀(W4:PW),Ext W2 W4→Post (.string ((ByteArray.mk #[45]) ++ t3)) W4)∧
 (a0_1=false→callN Tryz.prog W0 M 183 [.agg ⟨[a0_0.v]⟩] W0 fun v5 W6=>∃t7:ByteArray,v5 = .string t7∧∀(W8:PW),Ext W6 W8→Post (.string t7) W8)
theorem callwhole_Int_Text (W0:PW) (M:Nat→Prop) (a0_0:Sl) (a0_1:Bool) (Post:Value→PW→Prop) (h:Rwhole_Int_Text W0 M a0_0 a0_1 Post):PCallsM Tryz.prog 182 [.agg #[a0_0.v,.bool a0_1]] W0 M Post:=
 fn_sound rfl tt_ok tt_in Tryz.func182 (cuts:=[]) rfl rfl (Nat.le_of_ble_eq_true rfl) (Eq.mpr (by kernel_rfl) h)
def Rrat_Rat_Text (W0:PW) (M:Nat→Prop) (a0_0:Sl) (a0_1:Bool) (a0_2:Sl) (Post:Value→PW→Prop):Prop:=
 callN Tryz.prog W0 M 181 [.agg ⟨[a0_2.v]⟩] W0 fun v1 W2=>
 ∃i3:Int,
 v1 = .int .i64 i3∧
 (i3=0→callN Tryz.prog W0 M 182 [.agg ⟨[a0_0.v,.bool a0_1]⟩] W2 fun v4 W5=>∃t6:ByteArray,v4 = .string t6∧∀(W7:PW),Ext W5 W7→Post (.string t6) W7)∧
 (¬i3=0→
 callN Tryz.prog W0 M 182 [.agg ⟨[a0_0.v,.bool a0_1]⟩] W2 fun v8 W9=>
 ∃t10:ByteArray,
 v8 = .string t10∧
 (↑(ByteArray.size t10):Int)+(↑(ByteArray.size (ByteArray.mk #[47])):Int)≤9223372036854775807∧
 callN Tryz.prog W0 M 183 [.agg ⟨[a0_2.v]⟩] W9 fun v11 W12=>
 ∃t13:ByteArray,v11 = .string t13∧(↑(ByteArray.size (t10 ++ (ByteArray.mk #[47]))):Int)+(↑(ByteArray.size t13):Int)≤9223372036854775807∧∀(W14:PW),Ext W12 W14→Post (.string (t10 ++ (ByteArray.mk #[47]) ++ t13)) W14)
theorem callrat_Rat_Text (W0:PW) (M:Nat→Prop) (a0_0:Sl) (a0_1:Bool) (a0_2:Sl) (Post:Value→PW→Prop) (h:Rrat_Rat_Text W0 M a0_0 a0_1 a0_2 Post):PCallsM Tryz.prog 116 [.agg #[a0_0.v,.bool a0_1,a0_2.v]] W0 M Post:=
 fn_sound rfl tt_ok tt_in Tryz.func116 (cuts:=[]) rfl rfl (Nat.le_of_ble_eq_true rfl) (Eq.mpr (by kernel_rfl) h)
def Rslices_Reverse_byte_byte (W0:PW) (M:Nat→Prop) (a0:Sl) (Post:Value→PW→Prop):Prop:=
 I64 ((a0.2:Int)-1)∧
 ∃(F1:List PL→PW→Prop),
 ∃(F2:List PL→PW→Nat),
 F1 [.val (.int .i64 0),.val (.int .i64 ((a0.2:Int)-1))] W0∧
 ∀(i3 i4:Int) (W5:PW),
 F1 [.val (.int .i64 i3),.val (.int .i64 i4)] W5→
 (i3<i4→
 inB a0 i4∧
 ∃i6:Int,
 ElemAt W5 a0 1 (Int.toNat i4) 0 [.int .u8 i6]∧
 inB a0 i3∧
 ∃i7:Int,
 ElemAt W5 a0 1 (Int.toNat i3) 0 [.int .u8 i7]∧
 inB a0 i3∧
 storeN W0 M a0 (Int.toNat i3*1+0) [.int .u8 i6] W5 fun(W8:PW)=>
 inB a0 i4∧
 storeN W0 M a0 (Int.toNat i4*1+0) [.int .u8 i7] W8 fun(W9:PW)=>
 I64 (i3+1)∧I64 (i4-1)∧stp F1 F2 [.val (.int .i64 (i3+1)),.val (.int .i64 (i4-1))] W9 [.val (.int .i64 i3),.val (.int .i64 i4)] W5)∧
 (¬i3<i4→∀(W10:PW),Ext W5 W10→Post (.tuple ⟨[]⟩) W10)
theorem callslices_Reverse_byte_byte (W0:PW) (M:Nat→Prop) (a0:Sl) (Post:Value→PW→Prop) (h:Rslices_Reverse_byte_byte W0 M a0 Post):PCallsM Tryz.prog 231 [a0.v] W0 M Post:=
 fn_sound rfl tt_ok tt_in Tryz.func231 (cuts:=[]) rfl rfl (Nat.le_of_ble_eq_true rfl) (Eq.mpr (by kernel_rfl) h)
def Rmat_even_string (W0:PW) (M:Nat→Prop) (a0:Sl) (Post:Value→PW→Prop):Prop:=
 ∃(F1:List PL→PW→Prop),
 ∃(F2:List PL→PW→Nat),
 F1 [.val (.int .i64 0)] W0∧
 ∀(i3:Int) (W4:PW),
 F1 [.val (.int .i64 i3)] W4→
 (i3<(a0.2:Int)→
 inB a0 i3∧
 ∃s5:Sl,
 ElemAt W4 a0 1 (Int.toNat i3) 0 [s5.v]∧
 inB a0 0∧
 ∃s6:Sl,
 ElemAt W4 a0 1 0 0 [s6.v]∧((s5.2:Int)≠(s6.2:Int)→∀(W7:PW),Ext W4 W7→Post (.bool false) W7)∧(¬(s5.2:Int)≠(s6.2:Int)→I64 (i3+1)∧stp F1 F2 [.val (.int .i64 (i3+1))] W4 [.val (.int .i64 i3)] W4))∧
 (¬i3<(a0.2:Int)→
 (1≤(a0.2:Int)→
 ((a0.2:Int)≤12→
 inB a0 0∧
 ∃s8:Sl,
 ElemAt W4 a0 1 0 0 [s8.v]∧
 (1≤(s8.2:Int)→inB a0 0∧∃s9:Sl,ElemAt W4 a0 1 0 0 [s9.v]∧∀(W10:PW),Ext W4 W10→Post (.bool (decide ((s9.2:Int)≤12))) W10)∧(¬1≤(s8.2:Int)→∀(W11:PW),Ext W4 W11→Post (.bool false) W11))∧
 (¬(a0.2:Int)≤12→∀(W12:PW),Ext W4 W12→Post (.bool false) W12))∧
 (¬1≤(a0.2:Int)→∀(W13:PW),Ext W4 W13→Post (.bool false) W13))
theorem callmat_even_string (W0:PW) (M:Nat→Prop) (a0:Sl) (Post:Value→PW→Prop) (h:Rmat_even_string W0 M a0 Post):PCallsM Tryz.prog 162 [a0.v] W0 M Post:=
 fn_sound rfl tt_ok tt_in Tryz.func162 (cuts:=[]) rfl rfl (Nat.le_of_ble_eq_true rfl) (Eq.mpr (by kernel_rfl) h)
def Rmat_Parse (W0:PW) (M:Nat→Prop) (a0:Sl) (Post:Value→PW→Prop):Prop:=
 callN Tryz.prog W0 M 162 [a0.v] W0 fun v1 W2=>
 ∃b3:Bool,
 v1 = .bool b3∧
 ((!b3)=true→∀(W4:PW),Ext W2 W4→Post (.tuple ⟨[.slice none 0 0,.int .i64 1]⟩) W4)∧
 ((!b3)=false→
 inB a0 0∧
 ∃s5:Sl,
 ElemAt W2 a0 1 0 0 [s5.v]∧
 callN Tryz.prog W0 M 99 [.int .i64 (a0.2:Int),.int .i64 (s5.2:Int)] W2 fun v6 W7=>
 ∃s8:Sl,
 v6=s8.v∧
 ∃(F9:List PL→PW→Prop),
 ∃(F10:List PL→PW→Nat),
 F9 [.val (.int .i64 0)] W7∧
 ∀(i11:Int) (W12:PW),
 F9 [.val (.int .i64 i11)] W12→
 (i11<(a0.2:Int)→
 inB a0 i11∧
 ∃s13:Sl,
 ElemAt W12 a0 1 (Int.toNat i11) 0 [s13.v]∧
 ∃(F14:List PL→PW→Prop),
 ∃(F15:List PL→PW→Nat),
 F14 [.val (.int .i64 0)] W12∧
 ∀(i16:Int) (W17:PW),
 F14 [.val (.int .i64 i16)] W17→
 (i16<(s13.2:Int)→
 inB s13 i16∧
 ∃t18:ByteArray,
 ElemAt W17 s13 1 (Int.toNat i16) 0 [.string t18]∧
 callN Tryz.prog W0 M 140 [.string t18] W17 fun v19 W20=>
 ∃s21:Sl,
 ∃b22:Bool,
 ∃s23:Sl,
 ∃i24:Int,
 v19 = .tuple ⟨[.agg ⟨[s21.v,.bool b22,s23.v]⟩,.int .i64 i24]⟩∧
 (i24≠0→∀(W25:PW),Ext W20 W25→Post (.tuple ⟨[.slice none 0 0,.int .i64 i24]⟩) W25)∧
 (¬i24≠0→
 inB s8 i11∧
 ∃s26:Sl,
 ElemAt W20 s8 1 (Int.toNat i11) 0 [s26.v]∧
 inB s26 i16∧
 storeN W0 M s26 (Int.toNat i16*3+0) [s21.v,.bool b22,s23.v] W20 fun(W27:PW)=>I64 (i16+1)∧stp F14 F15 [.val (.int .i64 (i16+1))] W27 [.val (.int .i64 i16)] W17))∧
 (¬i16<(s13.2:Int)→I64 (i11+1)∧stp F9 F10 [.val (.int .i64 (i11+1))] W17 [.val (.int .i64 i11)] W12))∧
 (¬i11<(a0.2:Int)→∀(W28:PW),Ext W12 W28→Post (.tuple ⟨[s8.v,.int .i64 0]⟩) W28))
theorem callmat_Parse (W0:PW) (M:Nat→Prop) (a0:Sl) (Post:Value→PW→Prop) (h:Rmat_Parse W0 M a0 Post):PCallsM Tryz.prog 81 [a0.v] W0 M Post:=
 fn_sound rfl tt_ok tt_in Tryz.func81 (cuts:=[]) rfl rfl (Nat.le_of_ble_eq_true rfl) (Eq.mpr (by kernel_rfl) h)
end Go.Proofs.YthpmkcidkcmlgaaGreat

set_option maxRecDepth 100000
set_option linter.unusedVariables false
namespace Go.Proofs.YthpmkcidkcmlgaaGreat
open Go Go.SX
def Rlaw14_even (W0:PW) (M:Nat→Prop) (a0:Sl) (Post:Value→PW→Prop):Prop:=
 ∃(F1:List PL→PW→Prop),
 ∃(F2:List PL→PW→Nat),
 F1 [.row [],.val (.int .i64 0)] W0∧
 ∀(l3:List (List Value)) (i4:Int) (W5:PW),
 F1 [.row l3,.val (.int .i64 i4)] W5→
 (i4<(a0.2:Int)→
 inB a0 i4∧
 ∃s6:Sl,
 ElemAt W5 a0 1 (Int.toNat i4) 0 [s6.v]∧
 ∃(l7:List (List Value)),
 RowA W5 1 s6 l7∧
 List.length l7*16≤140737488355328∧
 ∀(s8:Sl) (W9:PW),
 Ext W5 W9→
 SX.Own W9 9 1 s8 l7→
 Fr W0 W5 s8→
 (List.length l3+List.length [[s8.v]])*24≤140737488355328∧
 ∃(F10:List PL→PW→Prop),
 ∃(F11:List PL→PW→Nat),
 F10 [.val (.int .i64 0)] W9∧
 ∀(i12:Int) (W13:PW),
 F10 [.val (.int .i64 i12)] W13→
 (i12<i4→
 (0≤i4∧i4<(↑(List.length (l3 ++ [[s8.v]])):Int))∧
 ∃s14:Sl,
 OwnAt (l3 ++ [[s8.v]]) (Int.toNat i4) 0 [s14.v]∧
 (i12<(s14.2:Int)→
 (0≤i12∧i12<(↑(List.length (l3 ++ [[s8.v]])):Int))∧
 ∃s15:Sl,
 OwnAt (l3 ++ [[s8.v]]) (Int.toNat i12) 0 [s15.v]∧
 (i4<(s15.2:Int)→
 (0≤i4∧i4<(↑(List.length (l3 ++ [[s8.v]])):Int))∧
 ∃s16:Sl,
 OwnAt (l3 ++ [[s8.v]]) (Int.toNat i4) 0 [s16.v]∧
 (0≤i12∧i12<(↑(List.length (l3 ++ [[s8.v]])):Int))∧
 ∃s17:Sl,
 OwnAt (l3 ++ [[s8.v]]) (Int.toNat i12) 0 [s17.v]∧
 inB s17 i4∧
 ∃t18:ByteArray,
 ElemAt W13 s17 1 (Int.toNat i4) 0 [.string t18]∧
 inB s16 i12∧storeN W0 M s16 (Int.toNat i12*1+0) [.string t18] W13 fun(W19:PW)=>I64 (i12+1)∧stp F10 F11 [.val (.int .i64 (i12+1))] W19 [.val (.int .i64 i12)] W13)∧
 (¬i4<(s15.2:Int)→I64 (i4+1)∧stp F1 F2 [.row (l3 ++ [[s8.v]]),.val (.int .i64 (i4+1))] W13 [.row l3,.val (.int .i64 i4)] W5))∧
 (¬i12<(s14.2:Int)→I64 (i4+1)∧stp F1 F2 [.row (l3 ++ [[s8.v]]),.val (.int .i64 (i4+1))] W13 [.row l3,.val (.int .i64 i4)] W5))∧
 (¬i12<i4→I64 (i4+1)∧stp F1 F2 [.row (l3 ++ [[s8.v]]),.val (.int .i64 (i4+1))] W13 [.row l3,.val (.int .i64 i4)] W5))∧
 (¬i4<(a0.2:Int)→∀(s20:Sl) (W21:PW),Ext W5 W21→SX.Own W21 179 1 s20 l3→Fr W0 W5 s20→∀(W22:PW),Ext W21 W22→Post s20.v W22)
theorem calllaw14_even (W0:PW) (M:Nat→Prop) (a0:Sl) (Post:Value→PW→Prop) (h:Rlaw14_even W0 M a0 Post):PCallsM Tryz.prog 32 [a0.v] W0 M Post:=
 fn_sound rfl tt_ok tt_in Tryz.func32 (cuts:=[]) rfl rfl (Nat.le_of_ble_eq_true rfl) (Eq.mpr (by kernel_rfl) h)
def Rlaw14_alive (W0:PW) (M:Nat→Prop) (Post:Value→PW→Prop):Prop:=
 ∀(s1:Sl) (W2:PW),
 Ext W0 W2→
 SX.Own W2 9 1 s1 [[.string (ByteArray.mk #[50])],[.string (ByteArray.mk #[49])]]→
 Fr W0 W0 s1→
 ∀(s3:Sl) (W4:PW),
 Ext W2 W4→
 SX.Own W4 9 1 s3 [[.string (ByteArray.mk #[49])],[.string (ByteArray.mk #[50])]]→
 Fr W0 W2 s3→
 ∀(s5:Sl) (W6:PW),
 Ext W4 W6→
 SX.Own W6 179 1 s5 [[s1.v],[s3.v]]→
 Fr W0 W4 s5→
 callN Tryz.prog W0 M 81 [s5.v] W6 fun v7 W8=>
 ∃s9:Sl,
 ∃i10:Int,
 v7 = .tuple ⟨[s9.v,.int .i64 i10]⟩∧
 callN Tryz.prog W0 M 37 [s9.v] W8 fun v11 W12=>
 ∃s13:Sl,
 ∃s14:Sl,
 ∃b15:Bool,
 v11 = .tuple ⟨[s13.v,s14.v,.bool b15]⟩∧
 (i10=0→
 (b15=true→
 ((s14.2:Int)=2→
 inB s14 0∧
 ∃s16:Sl,
 ∃b17:Bool,
 ∃s18:Sl,
 ElemAt W12 s14 3 0 0 [s16.v,.bool b17,s18.v]∧
 callN Tryz.prog W0 M 116 [.agg ⟨[s16.v,.bool b17,s18.v]⟩] W12 fun v19 W20=>
 ∃t21:ByteArray,
 v19 = .string t21∧
 (t21=(ByteArray.mk #[50])→
 inB s14 1∧
 ∃s22:Sl,
 ∃b23:Bool,
 ∃s24:Sl,
 ElemAt W20 s14 3 1 0 [s22.v,.bool b23,s24.v]∧
 callN Tryz.prog W0 M 116 [.agg ⟨[s22.v,.bool b23,s24.v]⟩] W20 fun v25 W26=>
 ∃t27:ByteArray,v25 = .string t27∧∀(W28:PW),Ext W26 W28→Post (.bool (decide (t27 = {data:=#[(51:UInt8),(47:UInt8),(50:UInt8)] }))) W28)∧
 (¬t21=(ByteArray.mk #[50])→∀(W29:PW),Ext W20 W29→Post (.bool false) W29))∧
 (¬(s14.2:Int)=2→∀(W30:PW),Ext W12 W30→Post (.bool false) W30))∧
 (b15=false→∀(W31:PW),Ext W12 W31→Post (.bool false) W31))∧
 (¬i10=0→∀(W32:PW),Ext W12 W32→Post (.bool false) W32)
theorem calllaw14_alive (W0:PW) (M:Nat→Prop) (Post:Value→PW→Prop) (h:Rlaw14_alive W0 M Post):PCallsM Tryz.prog 30 [] W0 M Post:=
 fn_sound rfl tt_ok tt_in Tryz.func30 (cuts:=[]) rfl rfl (Nat.le_of_ble_eq_true rfl) (Eq.mpr (by kernel_rfl) h)
def Rlaw11_Raw (W0:PW) (M:Nat→Prop) (a0:Sl) (Post:Value→PW→Prop):Prop:=
 ∃(F1:List PL→PW→Prop),
 ∃(F2:List PL→PW→Nat),
 F1 [.row [],.row [],.val (.int .i64 0)] W0∧
 ∀(l3 l4:List (List Value)) (i5:Int) (W6:PW),
 F1 [.row l3,.row l4,.val (.int .i64 i5)] W6→
 (i5<(a0.2:Int)→
 (i5<5→
 ∃(F7:List PL→PW→Prop),
 ∃(F8:List PL→PW→Nat),
 F7 [.row [],.row [],.val (.int .i64 0)] W6∧
 ∀(l9 l10:List (List Value)) (i11:Int) (W12:PW),
 F7 [.row l9,.row l10,.val (.int .i64 i11)] W12→
 inB a0 i5∧
 ∃s13:Sl,
 ElemAt W12 a0 1 (Int.toNat i5) 0 [s13.v]∧
 (i11<(s13.2:Int)→
 (i11<5→
 inB a0 i5∧
 ∃s14:Sl,
 ElemAt W12 a0 1 (Int.toNat i5) 0 [s14.v]∧
 inB s14 i11∧
 ∃t15:ByteArray,
 ElemAt W12 s14 1 (Int.toNat i11) 0 [.string t15]∧
 callN Tryz.prog W0 M 50 [.string t15] W12 fun v16 W17=>
 ∃s18:Sl,
 ∃b19:Bool,
 ∃s20:Sl,
 ∃b21:Bool,
 ∃s22:Sl,
 ∃s23:Sl,
 ∃b24:Bool,
 v16 = .tuple ⟨[.agg ⟨[s18.v,.bool b19,s20.v]⟩,.agg ⟨[.bool b21,s22.v,s23.v]⟩,.bool b24]⟩∧
 (b24=true→
 inB a0 i5∧
 ∃s25:Sl,
 ElemAt W17 a0 1 (Int.toNat i5) 0 [s25.v]∧
 inB s25 i11∧
 ∃t26:ByteArray,
 ElemAt W17 s25 1 (Int.toNat i11) 0 [.string t26]∧
 ((↑(ByteArray.size t26):Int)≤20→
 dup 1
 ((List.length l9+List.length [[s18.v,.bool b19,s20.v]])*56≤140737488355328∧
 (List.length l10+List.length [[.bool b21,s22.v,s23.v]])*56≤140737488355328∧
 I64 (i11+1)∧
 stp F7 F8 [.row (l9 ++ [[s18.v,.bool b19,s20.v]]),.row (l10 ++ [[.bool b21,s22.v,s23.v]]),.val (.int .i64 (i11+1))] W17
 [.row l9,.row l10,.val (.int .i64 i11)] W12)∧
 (List.length l9+List.length [[s18.v,.bool b19,s20.v]])*56≤140737488355328∧
 (List.length l10+List.length [[.bool b21,s22.v,s23.v]])*56≤140737488355328∧
 I64 (i11+1)∧
 stp F7 F8 [.row (l9 ++ [[s18.v,.bool b19,s20.v]]),.row (l10 ++ [[.bool b21,s22.v,s23.v]]),.val (.int .i64 (i11+1))] W17
 [.row l9,.row l10,.val (.int .i64 i11)] W12)∧
 (¬(↑(ByteArray.size t26):Int)≤20→I64 (i11+1)∧stp F7 F8 [.row l9,.row l10,.val (.int .i64 (i11+1))] W17 [.row l9,.row l10,.val (.int .i64 i11)] W12))∧
 (b24=false→I64 (i11+1)∧stp F7 F8 [.row l9,.row l10,.val (.int .i64 (i11+1))] W17 [.row l9,.row l10,.val (.int .i64 i11)] W12))∧
 (¬i11<5→
 ∀(s27:Sl) (W28:PW),
 Ext W12 W28→
 SX.Own W28 51 3 s27 l9→
 Fr W0 W12 s27→
 (List.length l3+List.length [[s27.v]])*24≤140737488355328∧
 ∀(s29:Sl) (W30:PW),
 Ext W28 W30→
 SX.Own W30 92 3 s29 l10→
 Fr W0 W28 s29→
 (List.length l4+List.length [[s29.v]])*24≤140737488355328∧
 I64 (i5+1)∧stp F1 F2 [.row (l3 ++ [[s27.v]]),.row (l4 ++ [[s29.v]]),.val (.int .i64 (i5+1))] W30 [.row l3,.row l4,.val (.int .i64 i5)] W6))∧
 (¬i11<(s13.2:Int)→
 ∀(s31:Sl) (W32:PW),
 Ext W12 W32→
 SX.Own W32 51 3 s31 l9→
 Fr W0 W12 s31→
 (List.length l3+List.length [[s31.v]])*24≤140737488355328∧
 ∀(s33:Sl) (W34:PW),
 Ext W32 W34→
 SX.Own W34 92 3 s33 l10→
 Fr W0 W32 s33→
 (List.length l4+List.length [[s33.v]])*24≤140737488355328∧
 I64 (i5+1)∧stp F1 F2 [.row (l3 ++ [[s31.v]]),.row (l4 ++ [[s33.v]]),.val (.int .i64 (i5+1))] W34 [.row l3,.row l4,.val (.int .i64 i5)] W6))∧
 (¬i5<5→∀(s35:Sl) (W36:PW),Ext W6 W36→SX.Own W36 100 1 s35 l3→Fr W0 W6 s35→∀(s37:Sl) (W38:PW),Ext W36 W38→SX.Own W38 193 1 s37 l4→Fr W0 W36 s37→∀(W39:PW),Ext W38 W39→Post (.tuple ⟨[s35.v,s37.v]⟩) W39))∧
 (¬i5<(a0.2:Int)→∀(s40:Sl) (W41:PW),Ext W6 W41→SX.Own W41 100 1 s40 l3→Fr W0 W6 s40→∀(s42:Sl) (W43:PW),Ext W41 W43→SX.Own W43 193 1 s42 l4→Fr W0 W41 s42→∀(W44:PW),Ext W43 W44→Post (.tuple ⟨[s40.v,s42.v]⟩) W44)
theorem calllaw11_Raw (W0:PW) (M:Nat→Prop) (a0:Sl) (Post:Value→PW→Prop) (h:Rlaw11_Raw W0 M a0 Post):PCallsM Tryz.prog 31 [a0.v] W0 M Post:=
 fn_sound rfl tt_ok tt_in Tryz.func31 (cuts:=[]) rfl rfl (Nat.le_of_ble_eq_true rfl) (Eq.mpr (by kernel_rfl) h)
end Go.Proofs.YthpmkcidkcmlgaaGreat
