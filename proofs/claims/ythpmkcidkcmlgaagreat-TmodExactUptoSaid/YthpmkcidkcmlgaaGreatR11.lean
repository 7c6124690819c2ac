/- R11 -/
import Derived.Test.YthpmkcidkcmlgaaGreatTt
set_option linter.unusedVariables false
set_option linter.unusedSimpArgs false
set_option maxRecDepth 100000
set_option linter.unusedVariables false
namespace Go.Proofs.YthpmkcidkcmlgaaGreat
open Go Go.SX
end Go.Proofs.YthpmkcidkcmlgaaGreat

set_option maxRecDepth 100000
set_option linter.unusedVariables false
namespace Go.Proofs.YthpmkcidkcmlgaaGreat
open Go Go.SX
def Rpoly_Degree (W0:PW) (M:Nat→Prop) (a0_0:Sl) (Post:Value→PW→Prop):Prop:=
 ((a0_0.2:Int)=0→∀(W1:PW),Ext W0 W1→Post (.int .i64 (-1:Int)) W1)∧
 (¬(a0_0.2:Int)=0→
 I64 ((a0_0.2:Int)-1)∧
 inB a0_0 ((a0_0.2:Int)-1)∧
 ∃i2:Int,
 ∃i3:Int,
 ∃i4:Int,
 ElemAt W0 a0_0 6 (Int.toNat ((a0_0.2:Int)-1)) 0 [.int .u8 i2,.int .u8 i3,.int .u8 i4]∧
 callN Tryz.prog W0 M 141 [.agg ⟨[.int .u8 i2,.int .u8 i3,.int .u8 i4]⟩] W0 fun v5 W6=>∃i7:Int,v5 = .int .i64 i7∧∀(W8:PW),Ext W6 W8→Post (.int .i64 i7) W8)
theorem callpoly_Degree (W0:PW) (M:Nat→Prop) (a0_0:Sl) (Post:Value→PW→Prop) (h:Rpoly_Degree W0 M a0_0 Post):PCallsM Tryz.prog 75 [.agg #[a0_0.v]] W0 M Post:=
 fn_sound rfl tt_ok tt_in Tryz.func75 (cuts:=[]) rfl rfl (Nat.le_of_ble_eq_true rfl) (Eq.mpr (by kernel_rfl) h)
end Go.Proofs.YthpmkcidkcmlgaaGreat

set_option maxRecDepth 100000
set_option linter.unusedVariables false
namespace Go.Proofs.YthpmkcidkcmlgaaGreat
open Go Go.SX
end Go.Proofs.YthpmkcidkcmlgaaGreat

set_option maxRecDepth 100000
set_option linter.unusedVariables false
namespace Go.Proofs.YthpmkcidkcmlgaaGreat
open Go Go.SX
def Rpoly_Compose (W0:PW) (M:Nat→Prop) (a0_0:Sl) (a1_0:Sl) (a1_1:Sl) (a1_2:Sl) (Post:Value→PW→Prop):Prop:=
 ∃(F1:List PL→PW→Prop),
 ∃(F2:List PL→PW→Nat),
 F1 [PL.row [],PL.val (Value.int .i64 0),PL.cells [Value.slice none 0 0]] W0∧
 ∀(s3:Sl) (l4:List (List Value)) (i5:Int) (W6:PW),
 F1 [PL.row l4,PL.val (Value.int .i64 i5),PL.cells [s3.v]] W6→
 (i5<(a0_0.2:Int)→
 inB a0_0 i5∧
 ∃i7:Int,
 ∃i8:Int,
 ∃i9:Int,
 ∃s10:Sl,
 ∃b11:Bool,
 ∃s12:Sl,
 ElemAt W6 a0_0 6 (Int.toNat i5) 0 [Value.int .u8 i7,Value.int .u8 i8,Value.int .u8 i9,s10.v,Value.bool b11,s12.v]∧
 callN Tryz.prog W0 M 19 [Value.agg ⟨[s10.v,Value.bool b11,s12.v]⟩] W6 fun v13 W14=>
 ∃s15:Sl,
 v13=Value.agg ⟨[s15.v]⟩∧
 ∃(F16:List PL→PW→Prop),
 ∃(F17:List PL→PW→Nat),
 F16 [PL.val (Value.bool true),PL.val (Value.int .i64 0),PL.cells [s15.v],PL.cells [s3.v]] W14∧
 ∀(s18 s19:Sl) (b20:Bool) (i21:Int) (W22:PW),
 F16 [PL.val (Value.bool b20),PL.val (Value.int .i64 i21),PL.cells [s18.v],PL.cells [s19.v]] W22→
 (i21<3→
 (0≤i21∧i21<3)∧
 ∃i23:Int,
 List.take 1 (List.drop (Int.toNat i21*1) [Value.int .u8 i7,Value.int .u8 i8,Value.int .u8 i9]) = [Value.int .u8 i23]∧
 ∃(F24:List PL→PW→Prop),
 ∃(F25:List PL→PW→Nat),
 F24 [PL.val (Value.bool b20),PL.val (Value.int .u8 0),PL.cells [s18.v],PL.cells [s19.v]] W22∧
 ∀(s26 s27:Sl) (b28:Bool) (i29:Int) (W30:PW),
 F24 [PL.val (Value.bool b28),PL.val (Value.int .u8 i29),PL.cells [s26.v],PL.cells [s27.v]] W30→
 (i29<i23→
 (0≤i21∧i21<3)∧
 ∃s31:Sl,
 BoxAt [a1_0.v,a1_1.v,a1_2.v] (0+Int.toNat i21*1+0) [s31.v]∧
 callN Tryz.prog W0 M 95 [Value.agg ⟨[s26.v]⟩,Value.agg ⟨[s31.v]⟩] W30 fun v32 W33=>
 ∃s34:Sl,
 ∃b35:Bool,
 v32=Value.tuple ⟨[Value.agg ⟨[s34.v]⟩,Value.bool b35]⟩∧
 ((!b35)=true→∀(W36:PW),Ext W33 W36→Post (Value.tuple ⟨[Value.agg ⟨[Value.slice none 0 0]⟩,Value.bool false]⟩) W36)∧
 ((!b35)=false→
 stp F24 F25 [PL.val (Value.bool b35),PL.val (Value.int .u8 (IntKind.wrap .u8 (i29+1))),PL.cells [s34.v],PL.cells [s27.v]] W33
 [PL.val (Value.bool b28),PL.val (Value.int .u8 i29),PL.cells [s26.v],PL.cells [s27.v]] W30))∧
 (¬i29<i23→
 I64 (i21+1)∧
 stp F16 F17 [PL.val (Value.bool b28),PL.val (Value.int .i64 (i21+1)),PL.cells [s26.v],PL.cells [s27.v]] W30
 [PL.val (Value.bool b20),PL.val (Value.int .i64 i21),PL.cells [s18.v],PL.cells [s19.v]] W22))∧
 (¬i21<3→
 ∃(l37:List (List Value)),
 RowA W22 6 s18 l37∧
 (List.length l4+List.length l37)*64≤140737488355328∧
 I64 (i5+1)∧stp F1 F2 [PL.row (l4 ++ l37),PL.val (Value.int .i64 (i5+1)),PL.cells [s19.v]] W22 [PL.row l4,PL.val (Value.int .i64 i5),PL.cells [s3.v]] W6))∧
 (¬i5<(a0_0.2:Int)→
 ∀(s38:Sl) (W39:PW),
 Ext W6 W39→
 SX.Own W39 188 6 s38 l4→
 Fr W0 W6 s38→callN Tryz.prog W0 M 93 [s38.v] W39 fun v40 W41=>∃s42:Sl,v40=Value.agg ⟨[s42.v]⟩∧∀(W43:PW),Ext W41 W43→Post (Value.tuple ⟨[Value.agg ⟨[s42.v]⟩,Value.bool true]⟩) W43)
theorem callpoly_Compose (W0:PW) (M:Nat→Prop) (a0_0:Sl) (a1_0:Sl) (a1_1:Sl) (a1_2:Sl) (Post:Value→PW→Prop) (h:Rpoly_Compose W0 M a0_0 a1_0 a1_1 a1_2 Post):PCallsM Tryz.prog 76 [Value.agg #[a0_0.v],Value.agg #[a1_0.v,a1_1.v,a1_2.v]] W0 M Post:=
 fn_sound rfl tt_ok tt_in Tryz.func76 (cuts:=[]) rfl rfl (Nat.le_of_ble_eq_true rfl) (Eq.mpr (by kernel_rfl) h)
end Go.Proofs.YthpmkcidkcmlgaaGreat
