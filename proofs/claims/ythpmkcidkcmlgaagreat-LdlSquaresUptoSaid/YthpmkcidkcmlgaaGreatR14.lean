/- R14 -/
import Derived.Test.YthpmkcidkcmlgaaGreatTt
set_option linter.unusedVariables false
set_option linter.unusedSimpArgs false
set_option maxRecDepth 100000
set_option linter.unusedVariables false
namespace Go.Proofs.YthpmkcidkcmlgaaGreat
open Go Go.SX
end Go.Proofs.YthpmkcidkcmlgaaGreat

set_option maxRecDepth 100000
set_option linter.unusedVariables false
namespace Go.Proofs.YthpmkcidkcmlgaaGreat
open Go Go.SX
end Go.Proofs.YthpmkcidkcmlgaaGreat

set_option maxRecDepth 100000
set_option linter.unusedVariables false
namespace Go.Proofs.YthpmkcidkcmlgaaGreat
open Go Go.SX
def Rref1_PolyAdd (W0:PW) (M:Nat→Prop) (a0:Sl) (a1:Sl) (Post:Value→PW→Prop):Prop:=
 ∃(F1:List PL→PW→Prop),
 ∃(F2:List PL→PW→Nat),
 F1 [.val a0.v,.val (.int .i64 0)] W0∧
 ∀(s3:Sl) (i4:Int) (W5:PW),
 F1 [.val s3.v,.val (.int .i64 i4)] W5→
 (i4<(a1.2:Int)→
 inB a1 i4∧
 ∃i6:Int,
 ∃i7:Int,
 ∃i8:Int,
 ∃b9:Bool,
 ∃s10:Sl,
 ∃s11:Sl,
 ElemAt W5 a1 6 (Int.toNat i4) 0 [.int .u8 i6,.int .u8 i7,.int .u8 i8,.bool b9,s10.v,s11.v]∧
 callN Tryz.prog W0 M 136 [s3.v,.agg ⟨[.int .u8 i6,.int .u8 i7,.int .u8 i8,.bool b9,s10.v,s11.v]⟩] W5 fun v12 W13=>
 ∃s14:Sl,v12=s14.v∧I64 (i4+1)∧stp F1 F2 [.val s14.v,.val (.int .i64 (i4+1))] W13 [.val s3.v,.val (.int .i64 i4)] W5)∧
 (¬i4<(a1.2:Int)→∀(W15:PW),Ext W5 W15→Post s3.v W15)
theorem callref1_PolyAdd (W0:PW) (M:Nat→Prop) (a0:Sl) (a1:Sl) (Post:Value→PW→Prop) (h:Rref1_PolyAdd W0 M a0 a1 Post):PCallsM Tryz.prog 114 [a0.v,a1.v] W0 M Post:=
 fn_sound rfl tt_ok tt_in Tryz.func114 (cuts:=[]) rfl rfl (Nat.le_of_ble_eq_true rfl) (Eq.mpr (by kernel_rfl) h)
def Rref1_PolyScale (W0:PW) (M:Nat→Prop) (a0:Sl) (a1_0:Bool) (a1_1:Sl) (a1_2:Sl) (Post:Value→PW→Prop):Prop:=
 ∃(F1:List PL→PW→Prop),
 ∃(F2:List PL→PW→Nat),
 F1 [.val (.slice none 0 0),.val (.int .i64 0)] W0∧
 ∀(s3:Sl) (i4:Int) (W5:PW),
 F1 [.val s3.v,.val (.int .i64 i4)] W5→
 (i4<(a0.2:Int)→
 inB a0 i4∧
 ∃i6:Int,
 ∃i7:Int,
 ∃i8:Int,
 ElemAt W5 a0 6 (Int.toNat i4) 0 [.int .u8 i6,.int .u8 i7,.int .u8 i8]∧
 inB a0 i4∧
 ∃b9:Bool,
 ∃s10:Sl,
 ∃s11:Sl,
 ElemAt W5 a0 6 (Int.toNat i4) 3 [.bool b9,s10.v,s11.v]∧
 callN Tryz.prog W0 M 149 [.agg ⟨[.bool b9,s10.v,s11.v]⟩,.agg ⟨[.bool a1_0,a1_1.v,a1_2.v]⟩] W5 fun v12 W13=>
 ∃b14:Bool,
 ∃s15:Sl,
 ∃s16:Sl,
 v12 = .agg ⟨[.bool b14,s15.v,s16.v]⟩∧
 Ext W5 W13∧
 callN Tryz.prog W0 M 136 [s3.v,.agg ⟨[.int .u8 i6,.int .u8 i7,.int .u8 i8,.bool b14,s15.v,s16.v]⟩] W13 fun v17 W18=>
 ∃s19:Sl,v17=s19.v∧Ext W13 W18∧I64 (i4+1)∧stp F1 F2 [.val s19.v,.val (.int .i64 (i4+1))] W18 [.val s3.v,.val (.int .i64 i4)] W5)∧
 (¬i4<(a0.2:Int)→∀(W20:PW),Ext W5 W20→Post s3.v W20)
theorem callref1_PolyScale (W0:PW) (M:Nat→Prop) (a0:Sl) (a1_0:Bool) (a1_1:Sl) (a1_2:Sl) (Post:Value→PW→Prop) (h:Rref1_PolyScale W0 M a0 a1_0 a1_1 a1_2 Post):PCallsM Tryz.prog 65 [a0.v,.agg #[.bool a1_0,a1_1.v,a1_2.v]] W0 M Post:=
 fn_sound rfl tt_ok tt_in Tryz.func65 (cuts:=[]) rfl rfl (Nat.le_of_ble_eq_true rfl) (Eq.mpr (by kernel_rfl) h)
end Go.Proofs.YthpmkcidkcmlgaaGreat

set_option maxRecDepth 100000
set_option linter.unusedVariables false
namespace Go.Proofs.YthpmkcidkcmlgaaGreat
open Go Go.SX
end Go.Proofs.YthpmkcidkcmlgaaGreat

set_option maxRecDepth 100000
set_option linter.unusedVariables false
namespace Go.Proofs.YthpmkcidkcmlgaaGreat
open Go Go.SX
def Rlaw12_System (W0:PW) (M:Nat→Prop) (a0:Sl) (a1:Int) (Post:Value→PW→Prop):Prop:=
 (4<(a0.2:Int)→∀(W1:PW),Ext W0 W1→Post (.tuple ⟨[.slice none 0 0,.slice none 0 0,.bool false]⟩) W1)∧
 (¬4<(a0.2:Int)→
 ∃(F2:List PL→PW→Prop),
 ∃(F3:List PL→PW→Nat),
 F2 [.row [],.row [],.val (.int .i64 0)] W0∧
 ∀(l4 l5:List (List Value)) (i6:Int) (W7:PW),
 F2 [.row l4,.row l5,.val (.int .i64 i6)] W7→
 (i6<(a0.2:Int)→
 inB a0 i6∧
 ∃s8:Sl,
 ElemAt W7 a0 1 (Int.toNat i6) 0 [s8.v]∧
 callN Tryz.prog W0 M 12 [s8.v,.int .i64 a1] W7 fun v9 W10=>
 ∃s11:Sl,
 ∃s12:Sl,
 ∃b13:Bool,
 v9 = .tuple ⟨[.agg ⟨[s11.v]⟩,s12.v,.bool b13]⟩∧
 ((!b13)=true→∀(W14:PW),Ext W10 W14→Post (.tuple ⟨[.slice none 0 0,.slice none 0 0,.bool false]⟩) W14)∧
 ((!b13)=false→
 (List.length l4+List.length [[s11.v]])*24≤140737488355328∧
 (List.length l5+List.length [[s12.v]])*24≤140737488355328∧
 I64 (i6+1)∧stp F2 F3 [.row (l4 ++ [[s11.v]]),.row (l5 ++ [[s12.v]]),.val (.int .i64 (i6+1))] W10 [.row l4,.row l5,.val (.int .i64 i6)] W7))∧
 (¬i6<(a0.2:Int)→
 ∀(s15:Sl) (W16:PW),
 Ext W7 W16→SX.Own W16 25 1 s15 l4→Fr W0 W7 s15→∀(s17:Sl) (W18:PW),Ext W16 W18→SX.Own W18 27 1 s17 l5→Fr W0 W16 s17→∀(W19:PW),Ext W18 W19→Post (.tuple ⟨[s15.v,s17.v,.bool true]⟩) W19))
theorem calllaw12_System (W0:PW) (M:Nat→Prop) (a0:Sl) (a1:Int) (Post:Value→PW→Prop) (h:Rlaw12_System W0 M a0 a1 Post):PCallsM Tryz.prog 29 [a0.v,.int .i64 a1] W0 M Post:=
 fn_sound rfl tt_ok tt_in Tryz.func29 (cuts:=[]) rfl rfl (Nat.le_of_ble_eq_true rfl) (Eq.mpr (by kernel_rfl) h)
end Go.Proofs.YthpmkcidkcmlgaaGreat
