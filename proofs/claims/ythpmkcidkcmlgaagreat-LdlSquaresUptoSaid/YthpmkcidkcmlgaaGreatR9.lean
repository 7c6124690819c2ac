/- R9 -/
import Derived.Test.YthpmkcidkcmlgaaGreatTt
set_option linter.unusedVariables false
set_option linter.unusedSimpArgs false
set_option maxRecDepth 100000
set_option linter.unusedVariables false
namespace Go.Proofs.YthpmkcidkcmlgaaGreat
open Go Go.SX
def Rref1_MatRight (W0:PW) (M:Nat→Prop) (a0:Sl) (Post:Value→PW→Prop):Prop:=
 ((a0.2:Int)<1→∀(W1:PW),Ext W0 W1→Post (.bool false) W1)∧
 (¬(a0.2:Int)<1→
 (12<(a0.2:Int)→∀(W2:PW),Ext W0 W2→Post (.bool false) W2)∧
 (¬12<(a0.2:Int)→
 inB a0 0∧
 ∃s3:Sl,
 ElemAt W0 a0 1 0 0 [s3.v]∧
 ((s3.2:Int)<1→∀(W4:PW),Ext W0 W4→Post (.bool false) W4)∧
 (¬(s3.2:Int)<1→
 inB a0 0∧
 ∃s5:Sl,
 ElemAt W0 a0 1 0 0 [s5.v]∧
 (12<(s5.2:Int)→∀(W6:PW),Ext W0 W6→Post (.bool false) W6)∧
 (¬12<(s5.2:Int)→
 ∃(F7:List PL→PW→Prop),
 ∃(F8:List PL→PW→Nat),
 F7 [.val (.int .i64 0)] W0∧
 ∀(i9:Int) (W10:PW),
 F7 [.val (.int .i64 i9)] W10→
 (i9<(a0.2:Int)→
 inB a0 i9∧
 ∃s11:Sl,
 ElemAt W10 a0 1 (Int.toNat i9) 0 [s11.v]∧
 inB a0 0∧
 ∃s12:Sl,
 ElemAt W10 a0 1 0 0 [s12.v]∧
 ((s11.2:Int)≠(s12.2:Int)→∀(W13:PW),Ext W10 W13→Post (.bool false) W13)∧(¬(s11.2:Int)≠(s12.2:Int)→I64 (i9+1)∧stp F7 F8 [.val (.int .i64 (i9+1))] W10 [.val (.int .i64 i9)] W10))∧
 (¬i9<(a0.2:Int)→∀(W14:PW),Ext W10 W14→Post (.bool true) W14)))))
theorem callref1_MatRight (W0:PW) (M:Nat→Prop) (a0:Sl) (Post:Value→PW→Prop) (h:Rref1_MatRight W0 M a0 Post):PCallsM Tryz.prog 232 [a0.v] W0 M Post:=
 fn_sound rfl tt_ok tt_in Tryz.func232 (cuts:=[]) rfl rfl (Nat.le_of_ble_eq_true rfl) (Eq.mpr (by kernel_rfl) h)
def Rref1_square (W0:PW) (M:Nat→Prop) (a0:Sl) (Post:Value→PW→Prop):Prop:=
 callN Tryz.prog W0 M 232 [a0.v] W0 fun v1 W2=>
 ∃b3:Bool,v1 = .bool b3∧(b3=true→inB a0 0∧∃s4:Sl,ElemAt W2 a0 1 0 0 [s4.v]∧∀(W5:PW),Ext W2 W5→Post (.bool (decide ((a0.2:Int)=(s4.2:Int)))) W5)∧(b3=false→∀(W6:PW),Ext W2 W6→Post (.bool false) W6)
theorem callref1_square (W0:PW) (M:Nat→Prop) (a0:Sl) (Post:Value→PW→Prop) (h:Rref1_square W0 M a0 Post):PCallsM Tryz.prog 184 [a0.v] W0 M Post:=
 fn_sound rfl tt_ok tt_in Tryz.func184 (cuts:=[]) rfl rfl (Nat.le_of_ble_eq_true rfl) (Eq.mpr (by kernel_rfl) h)
def Rref1_rows (W0:PW) (M:Nat→Prop) (a0:Sl) (Post:Value→PW→Prop):Prop:=
 ∃(F1:List PL→PW→Prop),
 ∃(F2:List PL→PW→Nat),
 F1 [.row [],.val (.int .i64 0)] W0∧
 ∀(l3:List (List Value)) (i4:Int) (W5:PW),
 F1 [.row l3,.val (.int .i64 i4)] W5→
 (i4<(a0.2:Int)→
 inB a0 i4∧
 ∃s6:Sl,
 ElemAt W5 a0 1 (Int.toNat i4) 0 [s6.v]∧
 ∃(l7:List (List Value)),
 RowA W5 3 s6 l7∧
 List.length l7*56≤140737488355328∧
 ∀(s8:Sl) (W9:PW),
 Ext W5 W9→
 SX.Own W9 92 3 s8 l7→
 Fr W0 W5 s8→(List.length l3+List.length [[s8.v]])*24≤140737488355328∧I64 (i4+1)∧stp F1 F2 [.row (l3 ++ [[s8.v]]),.val (.int .i64 (i4+1))] W9 [.row l3,.val (.int .i64 i4)] W5)∧
 (¬i4<(a0.2:Int)→∀(s10:Sl) (W11:PW),Ext W5 W11→SX.Own W11 193 1 s10 l3→Fr W0 W5 s10→∀(W12:PW),Ext W11 W12→Post s10.v W12)
theorem callref1_rows (W0:PW) (M:Nat→Prop) (a0:Sl) (Post:Value→PW→Prop) (h:Rref1_rows W0 M a0 Post):PCallsM Tryz.prog 185 [a0.v] W0 M Post:=
 fn_sound rfl tt_ok tt_in Tryz.func185 (cuts:=[]) rfl rfl (Nat.le_of_ble_eq_true rfl) (Eq.mpr (by kernel_rfl) h)
def Rref1_One (W0:PW) (M:Nat→Prop) (a0:Int) (Post:Value→PW→Prop):Prop:=
 ∃(F1:List PL→PW→Prop),
 ∃(F2:List PL→PW→Nat),
 F1 [PL.row [],PL.val (Value.int .i64 0)] W0∧
 ∀(l3:List (List Value)) (i4:Int) (W5:PW),
 F1 [PL.row l3,PL.val (Value.int .i64 i4)] W5→
 (i4<mn (mx a0 1) 12→
 (mn (mx a0 1) 12=mn (mx a0 1) 12∧0≤mn (mx a0 1) 12∧mn (mx a0 1) 12*(↑(56:Nat):Int)≤281474976710656)∧
 callN Tryz.prog W0 M 132 [Value.int .i64 1] W5 fun v6 W7=>
 ∃b8:Bool,
 ∃s9:Sl,
 ∃s10:Sl,
 v6=Value.agg ⟨[Value.bool b8,s9.v,s10.v]⟩∧
 (0≤i4∧i4<(↑(List.length (List.replicate (Int.toNat (mn (mx a0 1) 12)) [Value.bool false,Value.slice none 0 0,Value.slice none 0 0])):Int))∧
 Int.toNat i4<List.length (List.replicate (Int.toNat (mn (mx a0 1) 12)) [Value.bool false,Value.slice none 0 0,Value.slice none 0 0])∧
 ∀(s11:Sl) (W12:PW),
 Ext W7 W12→
 SX.Own W12 92 3 s11 (List.set (List.replicate (Int.toNat (mn (mx a0 1) 12)) [Value.bool false,Value.slice none 0 0,Value.slice none 0 0]) (Int.toNat i4) [Value.bool b8,s9.v,s10.v])→
 Fr W0 W7 s11→(List.length l3+List.length [[s11.v]])*24≤140737488355328∧I64 (i4+1)∧stp F1 F2 [PL.row (l3 ++ [[s11.v]]),PL.val (Value.int .i64 (i4+1))] W12 [PL.row l3,PL.val (Value.int .i64 i4)] W5)∧
 (¬i4<mn (mx a0 1) 12→∀(s13:Sl) (W14:PW),Ext W5 W14→SX.Own W14 193 1 s13 l3→Fr W0 W5 s13→∀(W15:PW),Ext W14 W15→Post s13.v W15)
theorem callref1_One (W0:PW) (M:Nat→Prop) (a0:Int) (Post:Value→PW→Prop) (h:Rref1_One W0 M a0 Post):PCallsM Tryz.prog 186 [Value.int .i64 a0] W0 M Post:=
 fn_sound rfl tt_ok tt_in Tryz.func186 (cuts:=[]) rfl rfl (Nat.le_of_ble_eq_true rfl) (Eq.mpr (by kernel_rfl) h)
def Rref1_Ldl (W0:PW) (M:Nat→Prop) (a0:Sl) (Post:Value→PW→Prop):Prop:=
 callN Tryz.prog W0 M 184 [a0.v] W0 fun v1 W2=>
 ∃b3:Bool,
 v1 = .bool b3∧
 ((!b3)=true→∀(W4:PW),Ext W2 W4→Post (.tuple ⟨[.slice none 0 0,.slice none 0 0,.bool false]⟩) W4)∧
 ((!b3)=false→
 ∃(F5:List PL→PW→Prop),
 ∃(F6:List PL→PW→Nat),
 F5 [.val (.int .i64 0)] W2∧
 ∀(i7:Int) (W8:PW),
 F5 [.val (.int .i64 i7)] W8→
 (i7<(a0.2:Int)→
 ∃(F9:List PL→PW→Prop),
 ∃(F10:List PL→PW→Nat),
 F9 [.val (.int .i64 0)] W8∧
 ∀(i11:Int) (W12:PW),
 F9 [.val (.int .i64 i11)] W12→
 (i11<i7→
 inB a0 i7∧
 ∃s13:Sl,
 ElemAt W12 a0 1 (Int.toNat i7) 0 [s13.v]∧
 inB s13 i11∧
 ∃b14:Bool,
 ∃s15:Sl,
 ∃s16:Sl,
 ElemAt W12 s13 3 (Int.toNat i11) 0 [.bool b14,s15.v,s16.v]∧
 inB a0 i11∧
 ∃s17:Sl,
 ElemAt W12 a0 1 (Int.toNat i11) 0 [s17.v]∧
 inB s17 i7∧
 ∃b18:Bool,
 ∃s19:Sl,
 ∃s20:Sl,
 ElemAt W12 s17 3 (Int.toNat i7) 0 [.bool b18,s19.v,s20.v]∧
 callN Tryz.prog W0 M 144 [.agg ⟨[.bool b14,s15.v,s16.v]⟩,.agg ⟨[.bool b18,s19.v,s20.v]⟩] W12 fun v21 W22=>
 ∃i23:Int,
 v21 = .int .i64 i23∧
 Ext W12 W22∧
 (i23≠0→∀(W24:PW),Ext W22 W24→Post (.tuple ⟨[.slice none 0 0,.slice none 0 0,.bool false]⟩) W24)∧
 (¬i23≠0→I64 (i11+1)∧stp F9 F10 [.val (.int .i64 (i11+1))] W22 [.val (.int .i64 i11)] W12))∧
 (¬i11<i7→I64 (i7+1)∧stp F5 F6 [.val (.int .i64 (i7+1))] W12 [.val (.int .i64 i7)] W8))∧
 (¬i7<(a0.2:Int)→
 callN Tryz.prog W0 M 185 [a0.v] W8 fun v25 W26=>
 ∃s27:Sl,
 v25=s27.v∧
 callN Tryz.prog W0 M 186 [.int .i64 (a0.2:Int)] W26 fun v28 W29=>
 ∃s30:Sl,
 v28=s30.v∧
 ∃(F31:List PL→PW→Prop),
 ∃(F32:List PL→PW→Nat),
 F31 [.row [],.val (.int .i64 0)] W29∧
 ∀(l33:List (List Value)) (i34:Int) (W35:PW),
 F31 [.row l33,.val (.int .i64 i34)] W35→
 (i34<(a0.2:Int)→
 inB s27 i34∧
 ∃s36:Sl,
 ElemAt W35 s27 1 (Int.toNat i34) 0 [s36.v]∧
 inB s36 i34∧
 ∃b37:Bool,
 ∃s38:Sl,
 ∃s39:Sl,
 ElemAt W35 s36 3 (Int.toNat i34) 0 [.bool b37,s38.v,s39.v]∧
 (List.length l33+List.length [[.bool b37,s38.v,s39.v]])*56≤140737488355328∧
 I64 (i34+1)∧
 ∃(F40:List PL→PW→Prop),
 ∃(F41:List PL→PW→Nat),
 F40 [.val (.int .i64 (i34+1))] W35∧
 ∀(i42:Int) (W43:PW),
 F40 [.val (.int .i64 i42)] W43→
 (i42<(a0.2:Int)→
 (0≤i34∧i34<(↑(List.length (l33 ++ [[.bool b37,s38.v,s39.v]])):Int))∧
 ∃b44:Bool,
 ∃s45:Sl,
 OwnAt (l33 ++ [[.bool b37,s38.v,s39.v]]) (Int.toNat i34) 0 [.bool b44,s45.v]∧
 callN Tryz.prog W0 M 118 [.agg ⟨[.bool b44,s45.v]⟩] W43 fun v46 W47=>
 ∃i48:Int,
 v46 = .int .i64 i48∧
 (i48=0→
 inB s27 i42∧
 ∃s49:Sl,
 ElemAt W47 s27 1 (Int.toNat i42) 0 [s49.v]∧
 inB s49 i34∧
 ∃b50:Bool,
 ∃s51:Sl,
 ElemAt W47 s49 3 (Int.toNat i34) 0 [.bool b50,s51.v]∧
 callN Tryz.prog W0 M 118 [.agg ⟨[.bool b50,s51.v]⟩] W47 fun v52 W53=>
 ∃i54:Int,
 v52 = .int .i64 i54∧
 (i54≠0→∀(W55:PW),Ext W53 W55→Post (.tuple ⟨[.slice none 0 0,.slice none 0 0,.bool false]⟩) W55)∧
 (¬i54≠0→I64 (i42+1)∧stp F40 F41 [.val (.int .i64 (i42+1))] W53 [.val (.int .i64 i42)] W43))∧
 (¬i48=0→
 inB s30 i42∧
 ∃s56:Sl,
 ElemAt W47 s30 1 (Int.toNat i42) 0 [s56.v]∧
 inB s27 i42∧
 ∃s57:Sl,
 ElemAt W47 s27 1 (Int.toNat i42) 0 [s57.v]∧
 inB s57 i34∧
 ∃b58:Bool,
 ∃s59:Sl,
 ∃s60:Sl,
 ElemAt W47 s57 3 (Int.toNat i34) 0 [.bool b58,s59.v,s60.v]∧
 (0≤i34∧i34<(↑(List.length (l33 ++ [[.bool b37,s38.v,s39.v]])):Int))∧
 ∃b61:Bool,
 ∃s62:Sl,
 ∃s63:Sl,
 OwnAt (l33 ++ [[.bool b37,s38.v,s39.v]]) (Int.toNat i34) 0 [.bool b61,s62.v,s63.v]∧
 callN Tryz.prog W0 M 137 [.agg ⟨[.bool b58,s59.v,s60.v]⟩,.agg ⟨[.bool b61,s62.v,s63.v]⟩] W47 fun v64 W65=>
 ∃b66:Bool,
 ∃s67:Sl,
 ∃s68:Sl,
 v64 = .agg ⟨[.bool b66,s67.v,s68.v]⟩∧
 Ext W47 W65∧
 inB s56 i34∧
 storeN W0 M s56 (Int.toNat i34*3+0) [.bool b66,s67.v,s68.v] W65 fun(W69:PW)=>
 I64 (i42+1)∧stp F40 F41 [.val (.int .i64 (i42+1))] W69 [.val (.int .i64 i42)] W43))∧
 (¬i42<(a0.2:Int)→
 I64 (i34+1)∧
 ∃(F70:List PL→PW→Prop),
 ∃(F71:List PL→PW→Nat),
 F70 [.val (.int .i64 (i34+1))] W43∧
 ∀(i72:Int) (W73:PW),
 F70 [.val (.int .i64 i72)] W73→
 (i72<(a0.2:Int)→
 I64 (i34+1)∧
 ∃(F74:List PL→PW→Prop),
 ∃(F75:List PL→PW→Nat),
 F74 [.val (.int .i64 (i34+1))] W73∧
 ∀(i76:Int) (W77:PW),
 F74 [.val (.int .i64 i76)] W77→
 (i76<(a0.2:Int)→
 inB s27 i72∧
 ∃s78:Sl,
 ElemAt W77 s27 1 (Int.toNat i72) 0 [s78.v]∧
 inB s27 i72∧
 ∃s79:Sl,
 ElemAt W77 s27 1 (Int.toNat i72) 0 [s79.v]∧
 inB s79 i76∧
 ∃b80:Bool,
 ∃s81:Sl,
 ∃s82:Sl,
 ElemAt W77 s79 3 (Int.toNat i76) 0 [.bool b80,s81.v,s82.v]∧
 inB s30 i72∧
 ∃s83:Sl,
 ElemAt W77 s30 1 (Int.toNat i72) 0 [s83.v]∧
 inB s83 i34∧
 ∃b84:Bool,
 ∃s85:Sl,
 ∃s86:Sl,
 ElemAt W77 s83 3 (Int.toNat i34) 0 [.bool b84,s85.v,s86.v]∧
 inB s30 i76∧
 ∃s87:Sl,
 ElemAt W77 s30 1 (Int.toNat i76) 0 [s87.v]∧
 inB s87 i34∧
 ∃b88:Bool,
 ∃s89:Sl,
 ∃s90:Sl,
 ElemAt W77 s87 3 (Int.toNat i34) 0 [.bool b88,s89.v,s90.v]∧
 (0≤i34∧i34<(↑(List.length (l33 ++ [[.bool b37,s38.v,s39.v]])):Int))∧
 ∃b91:Bool,
 ∃s92:Sl,
 ∃s93:Sl,
 OwnAt (l33 ++ [[.bool b37,s38.v,s39.v]]) (Int.toNat i34) 0 [.bool b91,s92.v,s93.v]∧
 callN Tryz.prog W0 M 149 [.agg ⟨[.bool b84,s85.v,s86.v]⟩,.agg ⟨[.bool b88,s89.v,s90.v]⟩] W77
 fun v94 W95=>
 ∃b96:Bool,
 ∃s97:Sl,
 ∃s98:Sl,
 v94 = .agg ⟨[.bool b96,s97.v,s98.v]⟩∧
 Ext W77 W95∧
 callN Tryz.prog W0 M 149
 [.agg ⟨[.bool b96,s97.v,s98.v]⟩,.agg ⟨[.bool b91,s92.v,s93.v]⟩] W95 fun v99 W100=>
 ∃b101:Bool,
 ∃s102:Sl,
 ∃s103:Sl,
 v99 = .agg ⟨[.bool b101,s102.v,s103.v]⟩∧
 Ext W95 W100∧
 callN Tryz.prog W0 M 187
 [.agg ⟨[.bool b80,s81.v,s82.v]⟩,.agg ⟨[.bool b101,s102.v,s103.v]⟩] W100
 fun v104 W105=>
 ∃b106:Bool,
 ∃s107:Sl,
 ∃s108:Sl,
 v104 = .agg ⟨[.bool b106,s107.v,s108.v]⟩∧
 Ext W100 W105∧
 inB s78 i76∧
 storeN W0 M s78 (Int.toNat i76*3+0) [.bool b106,s107.v,s108.v] W105 fun(W109:PW)=>
 I64 (i76+1)∧stp F74 F75 [.val (.int .i64 (i76+1))] W109 [.val (.int .i64 i76)] W77)∧
 (¬i76<(a0.2:Int)→I64 (i72+1)∧stp F70 F71 [.val (.int .i64 (i72+1))] W77 [.val (.int .i64 i72)] W73))∧
 (¬i72<(a0.2:Int)→I64 (i34+1)∧stp F31 F32 [.row (l33 ++ [[.bool b37,s38.v,s39.v]]),.val (.int .i64 (i34+1))] W73 [.row l33,.val (.int .i64 i34)] W35)))∧
 (¬i34<(a0.2:Int)→∀(s110:Sl) (W111:PW),Ext W35 W111→SX.Own W111 92 3 s110 l33→Fr W0 W35 s110→∀(W112:PW),Ext W111 W112→Post (.tuple ⟨[s30.v,s110.v,.bool true]⟩) W112)))
theorem callref1_Ldl (W0:PW) (M:Nat→Prop) (a0:Sl) (Post:Value→PW→Prop) (h:Rref1_Ldl W0 M a0 Post):PCallsM Tryz.prog 117 [a0.v] W0 M Post:=
 fn_sound rfl tt_ok tt_in Tryz.func117 (cuts:=[]) rfl rfl (Nat.le_of_ble_eq_true rfl) (Eq.mpr (by kernel_rfl) h)
end Go.Proofs.YthpmkcidkcmlgaaGreat
