/- R10 -/
import Derived.Test.YtjgpenfndnhdnaaGreatTt
set_option linter.unusedVariables false
set_option linter.unusedSimpArgs false
set_option maxRecDepth 100000
set_option linter.unusedVariables false
namespace Go.Proofs.YtjgpenfndnhdnaaGreat
open Go Go.SX
def Rlaw14_even (W0:PW) (M:Nat→Prop) (a0:Sl) (Post:Value→PW→Prop):Prop:=
 ∃(F1:List PL→PW→Prop),
 ∃(F2:List PL→PW→Nat),
 F1 [.row [],.val (.int .i64 0)] W0∧
 ∀(l3:List (List Value)) (i4:Int) (W5:PW),
 F1 [.row l3,.val (.int .i64 i4)] W5→
 (i4<(a0.2:Int)→
 inB a0 i4∧
 ∃s6:Sl,
 ElemAt W5 a0 1 (Int.toNat i4) 0 [s6.v]∧
 ∃(l7:List (List Value)),
 RowA W5 1 s6 l7∧
 List.length l7*16≤140737488355328∧
 ∀(s8:Sl) (W9:PW),
 Ext W5 W9→
 SX.Own W9 9 1 s8 l7→
 Fr W0 W5 s8→
 (List.length l3+List.length [[s8.v]])*24≤140737488355328∧
 ∃(F10:List PL→PW→Prop),
 ∃(F11:List PL→PW→Nat),
 F10 [.val (.int .i64 0)] W9∧
 ∀(i12:Int) (W13:PW),
 F10 [.val (.int .i64 i12)] W13→
 (i12<i4→
 (0≤i4∧i4<(↑(List.length (l3 ++ [[s8.v]])):Int))∧
 ∃s14:Sl,
 OwnAt (l3 ++ [[s8.v]]) (Int.toNat i4) 0 [s14.v]∧
 (i12<(s14.2:Int)→
 (0≤i12∧i12<(↑(List.length (l3 ++ [[s8.v]])):Int))∧
 ∃s15:Sl,
 OwnAt (l3 ++ [[s8.v]]) (Int.toNat i12) 0 [s15.v]∧
 (i4<(s15.2:Int)→
 (0≤i4∧i4<(↑(List.length (l3 ++ [[s8.v]])):Int))∧
 ∃s16:Sl,
 OwnAt (l3 ++ [[s8.v]]) (Int.toNat i4) 0 [s16.v]∧
 (0≤i12∧i12<(↑(List.length (l3 ++ [[s8.v]])):Int))∧
 ∃s17:Sl,
 OwnAt (l3 ++ [[s8.v]]) (Int.toNat i12) 0 [s17.v]∧
 inB s17 i4∧
 ∃t18:ByteArray,
 ElemAt W13 s17 1 (Int.toNat i4) 0 [.string t18]∧
 inB s16 i12∧storeN W0 M s16 (Int.toNat i12*1+0) [.string t18] W13 fun(W19:PW)=>I64 (i12+1)∧stp F10 F11 [.val (.int .i64 (i12+1))] W19 [.val (.int .i64 i12)] W13)∧
 (¬i4<(s15.2:Int)→I64 (i4+1)∧stp F1 F2 [.row (l3 ++ [[s8.v]]),.val (.int .i64 (i4+1))] W13 [.row l3,.val (.int .i64 i4)] W5))∧
 (¬i12<(s14.2:Int)→I64 (i4+1)∧stp F1 F2 [.row (l3 ++ [[s8.v]]),.val (.int .i64 (i4+1))] W13 [.row l3,.val (.int .i64 i4)] W5))∧
 (¬i12<i4→I64 (i4+1)∧stp F1 F2 [.row (l3 ++ [[s8.v]]),.val (.int .i64 (i4+1))] W13 [.row l3,.val (.int .i64 i4)] W5))∧
 (¬i4<(a0.2:Int)→∀(s20:Sl) (W21:PW),Ext W5 W21→SX.Own W21 105 1 s20 l3→Fr W0 W5 s20→∀(W22:PW),Ext W21 W22→Post s20.v W22)
theorem calllaw14_even (W0:PW) (M:Nat→Prop) (a0:Sl) (Post:Value→PW→Prop) (h:Rlaw14_even W0 M a0 Post):PCallsM Tryz.prog 41 [a0.v] W0 M Post:=
 fn_sound rfl tt_ok tt_in Tryz.func41 (cuts:=[]) rfl rfl (Nat.le_of_ble_eq_true rfl) (Eq.mpr (by kernel_rfl) h)
def Rlaw14_alive (W0:PW) (M:Nat→Prop) (Post:Value→PW→Prop):Prop:=
 ∀(s1:Sl) (W2:PW),
 Ext W0 W2→
 SX.Own W2 9 1 s1 [[.string (ByteArray.mk #[50])],[.string (ByteArray.mk #[49])]]→
 Fr W0 W0 s1→
 ∀(s3:Sl) (W4:PW),
 Ext W2 W4→
 SX.Own W4 9 1 s3 [[.string (ByteArray.mk #[49])],[.string (ByteArray.mk #[50])]]→
 Fr W0 W2 s3→
 ∀(s5:Sl) (W6:PW),
 Ext W4 W6→
 SX.Own W6 105 1 s5 [[s1.v],[s3.v]]→
 Fr W0 W4 s5→
 callN Tryz.prog W0 M 44 [s5.v] W6 fun v7 W8=>
 ∃s9:Sl,
 ∃i10:Int,
 v7 = .tuple ⟨[s9.v,.int .i64 i10]⟩∧
 callN Tryz.prog W0 M 89 [s9.v] W8 fun v11 W12=>
 ∃s13:Sl,
 ∃s14:Sl,
 ∃b15:Bool,
 v11 = .tuple ⟨[s13.v,s14.v,.bool b15]⟩∧
 (i10=0→
 (b15=true→
 ((s14.2:Int)=2→
 inB s14 0∧
 ∃s16:Sl,
 ∃b17:Bool,
 ∃s18:Sl,
 ElemAt W12 s14 3 0 0 [s16.v,.bool b17,s18.v]∧
 callN Tryz.prog W0 M 90 [.agg ⟨[s16.v,.bool b17,s18.v]⟩] W12 fun v19 W20=>
 ∃t21:ByteArray,
 v19 = .string t21∧
 (t21=(ByteArray.mk #[50])→
 inB s14 1∧
 ∃s22:Sl,
 ∃b23:Bool,
 ∃s24:Sl,
 ElemAt W20 s14 3 1 0 [s22.v,.bool b23,s24.v]∧
 callN Tryz.prog W0 M 90 [.agg ⟨[s22.v,.bool b23,s24.v]⟩] W20 fun v25 W26=>
 ∃t27:ByteArray,v25 = .string t27∧∀(W28:PW),Ext W26 W28→Post (.bool (decide (t27 = {data:=#[(51:UInt8),(47:UInt8),(50:UInt8)] }))) W28)∧
 (¬t21=(ByteArray.mk #[50])→∀(W29:PW),Ext W20 W29→Post (.bool false) W29))∧
 (¬(s14.2:Int)=2→∀(W30:PW),Ext W12 W30→Post (.bool false) W30))∧
 (b15=false→∀(W31:PW),Ext W12 W31→Post (.bool false) W31))∧
 (¬i10=0→∀(W32:PW),Ext W12 W32→Post (.bool false) W32)
theorem calllaw14_alive (W0:PW) (M:Nat→Prop) (Post:Value→PW→Prop) (h:Rlaw14_alive W0 M Post):PCallsM Tryz.prog 37 [] W0 M Post:=
 fn_sound rfl tt_ok tt_in Tryz.func37 (cuts:=[]) rfl rfl (Nat.le_of_ble_eq_true rfl) (Eq.mpr (by kernel_rfl) h)
def Rlaw11_Raw (W0:PW) (M:Nat→Prop) (a0:Sl) (Post:Value→PW→Prop):Prop:=
 ∃(F1:List PL→PW→Prop),
 ∃(F2:List PL→PW→Nat),
 F1 [.row [],.row [],.val (.int .i64 0)] W0∧
 ∀(l3 l4:List (List Value)) (i5:Int) (W6:PW),
 F1 [.row l3,.row l4,.val (.int .i64 i5)] W6→
 (i5<(a0.2:Int)→
 (i5<5→
 ∃(F7:List PL→PW→Prop),
 ∃(F8:List PL→PW→Nat),
 F7 [.row [],.row [],.val (.int .i64 0)] W6∧
 ∀(l9 l10:List (List Value)) (i11:Int) (W12:PW),
 F7 [.row l9,.row l10,.val (.int .i64 i11)] W12→
 inB a0 i5∧
 ∃s13:Sl,
 ElemAt W12 a0 1 (Int.toNat i5) 0 [s13.v]∧
 (i11<(s13.2:Int)→
 (i11<5→
 inB a0 i5∧
 ∃s14:Sl,
 ElemAt W12 a0 1 (Int.toNat i5) 0 [s14.v]∧
 inB s14 i11∧
 ∃t15:ByteArray,
 ElemAt W12 s14 1 (Int.toNat i11) 0 [.string t15]∧
 callN Tryz.prog W0 M 43 [.string t15] W12 fun v16 W17=>
 ∃s18:Sl,
 ∃b19:Bool,
 ∃s20:Sl,
 ∃b21:Bool,
 ∃s22:Sl,
 ∃s23:Sl,
 ∃b24:Bool,
 v16 = .tuple ⟨[.agg ⟨[s18.v,.bool b19,s20.v]⟩,.agg ⟨[.bool b21,s22.v,s23.v]⟩,.bool b24]⟩∧
 (b24=true→
 inB a0 i5∧
 ∃s25:Sl,
 ElemAt W17 a0 1 (Int.toNat i5) 0 [s25.v]∧
 inB s25 i11∧
 ∃t26:ByteArray,
 ElemAt W17 s25 1 (Int.toNat i11) 0 [.string t26]∧
 ((↑(ByteArray.size t26):Int)≤20→
 dup 1
 ((List.length l9+List.length [[s18.v,.bool b19,s20.v]])*56≤140737488355328∧
 (List.length l10+List.length [[.bool b21,s22.v,s23.v]])*56≤140737488355328∧
 I64 (i11+1)∧
 stp F7 F8 [.row (l9 ++ [[s18.v,.bool b19,s20.v]]),.row (l10 ++ [[.bool b21,s22.v,s23.v]]),.val (.int .i64 (i11+1))] W17
 [.row l9,.row l10,.val (.int .i64 i11)] W12)∧
 (List.length l9+List.length [[s18.v,.bool b19,s20.v]])*56≤140737488355328∧
 (List.length l10+List.length [[.bool b21,s22.v,s23.v]])*56≤140737488355328∧
 I64 (i11+1)∧
 stp F7 F8 [.row (l9 ++ [[s18.v,.bool b19,s20.v]]),.row (l10 ++ [[.bool b21,s22.v,s23.v]]),.val (.int .i64 (i11+1))] W17
 [.row l9,.row l10,.val (.int .i64 i11)] W12)∧
 (¬(↑(ByteArray.size t26):Int)≤20→I64 (i11+1)∧stp F7 F8 [.row l9,.row l10,.val (.int .i64 (i11+1))] W17 [.row l9,.row l10,.val (.int .i64 i11)] W12))∧
 (b24=false→I64 (i11+1)∧stp F7 F8 [.row l9,.row l10,.val (.int .i64 (i11+1))] W17 [.row l9,.row l10,.val (.int .i64 i11)] W12))∧
 (¬i11<5→
 ∀(s27:Sl) (W28:PW),
 Ext W12 W28→
 SX.Own W28 62 3 s27 l9→
 Fr W0 W12 s27→
 (List.length l3+List.length [[s27.v]])*24≤140737488355328∧
 ∀(s29:Sl) (W30:PW),
 Ext W28 W30→
 SX.Own W30 96 3 s29 l10→
 Fr W0 W28 s29→
 (List.length l4+List.length [[s29.v]])*24≤140737488355328∧
 I64 (i5+1)∧stp F1 F2 [.row (l3 ++ [[s27.v]]),.row (l4 ++ [[s29.v]]),.val (.int .i64 (i5+1))] W30 [.row l3,.row l4,.val (.int .i64 i5)] W6))∧
 (¬i11<(s13.2:Int)→
 ∀(s31:Sl) (W32:PW),
 Ext W12 W32→
 SX.Own W32 62 3 s31 l9→
 Fr W0 W12 s31→
 (List.length l3+List.length [[s31.v]])*24≤140737488355328∧
 ∀(s33:Sl) (W34:PW),
 Ext W32 W34→
 SX.Own W34 96 3 s33 l10→
 Fr W0 W32 s33→
 (List.length l4+List.length [[s33.v]])*24≤140737488355328∧
 I64 (i5+1)∧stp F1 F2 [.row (l3 ++ [[s31.v]]),.row (l4 ++ [[s33.v]]),.val (.int .i64 (i5+1))] W34 [.row l3,.row l4,.val (.int .i64 i5)] W6))∧
 (¬i5<5→∀(s35:Sl) (W36:PW),Ext W6 W36→SX.Own W36 119 1 s35 l3→Fr W0 W6 s35→∀(s37:Sl) (W38:PW),Ext W36 W38→SX.Own W38 120 1 s37 l4→Fr W0 W36 s37→∀(W39:PW),Ext W38 W39→Post (.tuple ⟨[s35.v,s37.v]⟩) W39))∧
 (¬i5<(a0.2:Int)→∀(s40:Sl) (W41:PW),Ext W6 W41→SX.Own W41 119 1 s40 l3→Fr W0 W6 s40→∀(s42:Sl) (W43:PW),Ext W41 W43→SX.Own W43 120 1 s42 l4→Fr W0 W41 s42→∀(W44:PW),Ext W43 W44→Post (.tuple ⟨[s40.v,s42.v]⟩) W44)
theorem calllaw11_Raw (W0:PW) (M:Nat→Prop) (a0:Sl) (Post:Value→PW→Prop) (h:Rlaw11_Raw W0 M a0 Post):PCallsM Tryz.prog 11 [a0.v] W0 M Post:=
 fn_sound rfl tt_ok tt_in Tryz.func11 (cuts:=[]) rfl rfl (Nat.le_of_ble_eq_true rfl) (Eq.mpr (by kernel_rfl) h)
end Go.Proofs.YtjgpenfndnhdnaaGreat
