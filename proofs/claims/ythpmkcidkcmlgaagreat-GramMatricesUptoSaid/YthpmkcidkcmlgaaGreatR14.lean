/- R14 -/
import Derived.Test.YthpmkcidkcmlgaaGreatTt
set_option linter.unusedVariables false
set_option linter.unusedSimpArgs false
set_option maxRecDepth 100000
set_option linter.unusedVariables false
namespace Go.Proofs.YthpmkcidkcmlgaaGreat
open Go Go.SX
end Go.Proofs.YthpmkcidkcmlgaaGreat

set_option maxRecDepth 100000
set_option linter.unusedVariables false
namespace Go.Proofs.YthpmkcidkcmlgaaGreat
open Go Go.SX
def Rpoly_Degree (W0:PW) (M:Nat→Prop) (a0_0:Sl) (Post:Value→PW→Prop):Prop:=
 ((a0_0.2:Int)=0→∀(W1:PW),Ext W0 W1→Post (.int .i64 (-1:Int)) W1)∧
 (¬(a0_0.2:Int)=0→
 I64 ((a0_0.2:Int)-1)∧
 inB a0_0 ((a0_0.2:Int)-1)∧
 ∃i2:Int,
 ∃i3:Int,
 ∃i4:Int,
 ElemAt W0 a0_0 6 (Int.toNat ((a0_0.2:Int)-1)) 0 [.int .u8 i2,.int .u8 i3,.int .u8 i4]∧
 callN Tryz.prog W0 M 141 [.agg ⟨[.int .u8 i2,.int .u8 i3,.int .u8 i4]⟩] W0 fun v5 W6=>∃i7:Int,v5 = .int .i64 i7∧∀(W8:PW),Ext W6 W8→Post (.int .i64 i7) W8)
theorem callpoly_Degree (W0:PW) (M:Nat→Prop) (a0_0:Sl) (Post:Value→PW→Prop) (h:Rpoly_Degree W0 M a0_0 Post):PCallsM Tryz.prog 75 [.agg #[a0_0.v]] W0 M Post:=
 fn_sound rfl tt_ok tt_in Tryz.func75 (cuts:=[]) rfl rfl (Nat.le_of_ble_eq_true rfl) (Eq.mpr (by kernel_rfl) h)
def Rpoly_Vars (W0:PW) (M:Nat→Prop) (a0_0:Sl) (Post:Value→PW→Prop):Prop:=
 ∃(F1:List PL→PW→Prop),
 ∃(F2:List PL→PW→Nat),
 F1 [.val (.int .i64 0),.val (.int .i64 0)] W0∧
 ∀(i3 i4:Int) (W5:PW),
 F1 [.val (.int .i64 i3),.val (.int .i64 i4)] W5→
 (i4<(a0_0.2:Int)→
 inB a0_0 i4∧
 ∃i6:Int,
 ∃i7:Int,
 ∃i8:Int,
 ∃s9:Sl,
 ∃b10:Bool,
 ∃s11:Sl,
 ElemAt W5 a0_0 6 (Int.toNat i4) 0 [.int .u8 i6,.int .u8 i7,.int .u8 i8,s9.v,.bool b10,s11.v]∧
 callN Tryz.prog W0 M 163 [.agg ⟨[.int .u8 i6,.int .u8 i7,.int .u8 i8]⟩] W5 fun v12 W13=>
 ∃i14:Int,v12 = .int .i64 i14∧I64 (i4+1)∧stp F1 F2 [.val (.int .i64 (mx i3 i14)),.val (.int .i64 (i4+1))] W13 [.val (.int .i64 i3),.val (.int .i64 i4)] W5)∧
 (¬i4<(a0_0.2:Int)→∀(W15:PW),Ext W5 W15→Post (.int .i64 i3) W15)
theorem callpoly_Vars (W0:PW) (M:Nat→Prop) (a0_0:Sl) (Post:Value→PW→Prop) (h:Rpoly_Vars W0 M a0_0 Post):PCallsM Tryz.prog 84 [.agg #[a0_0.v]] W0 M Post:=
 fn_sound rfl tt_ok tt_in Tryz.func84 (cuts:=[]) rfl rfl (Nat.le_of_ble_eq_true rfl) (Eq.mpr (by kernel_rfl) h)
def Rref1_MonoVars (W0:PW) (M:Nat→Prop) (a0_0:Int) (a0_1:Int) (a0_2:Int) (Post:Value→PW→Prop):Prop:=
 ∃(F1:List PL→PW→Prop),
 ∃(F2:List PL→PW→Nat),
 F1 [.val (.int .i64 0),.val (.int .i64 0)] W0∧
 ∀(i3 i4:Int) (W5:PW),
 F1 [.val (.int .i64 i3),.val (.int .i64 i4)] W5→
 (i4<3→
 (0≤i4∧i4<3)∧
 ∃i6:Int,
 BoxAt [.int .u8 a0_0,.int .u8 a0_1,.int .u8 a0_2] (0+Int.toNat i4*1+0) [.int .u8 i6]∧
 (0<i6→I64 (i4+1)∧I64 (i4+1)∧stp F1 F2 [.val (.int .i64 (i4+1)),.val (.int .i64 (i4+1))] W5 [.val (.int .i64 i3),.val (.int .i64 i4)] W5)∧
 (¬0<i6→I64 (i4+1)∧stp F1 F2 [.val (.int .i64 i3),.val (.int .i64 (i4+1))] W5 [.val (.int .i64 i3),.val (.int .i64 i4)] W5))∧
 (¬i4<3→∀(W7:PW),Ext W5 W7→Post (.int .i64 i3) W7)
theorem callref1_MonoVars (W0:PW) (M:Nat→Prop) (a0_0:Int) (a0_1:Int) (a0_2:Int) (Post:Value→PW→Prop) (h:Rref1_MonoVars W0 M a0_0 a0_1 a0_2 Post):PCallsM Tryz.prog 167 [.agg #[.int .u8 a0_0,.int .u8 a0_1,.int .u8 a0_2]] W0 M Post:=
 fn_sound rfl tt_ok tt_in Tryz.func167 (cuts:=[]) rfl rfl (Nat.le_of_ble_eq_true rfl) (Eq.mpr (by kernel_rfl) h)
def Rref1_PolyDegree (W0:PW) (M:Nat→Prop) (a0:Sl) (Post:Value→PW→Prop):Prop:=
 ∃(F1:List PL→PW→Prop),
 ∃(F2:List PL→PW→Nat),
 F1 [.val (.int .i64 (-1:Int)),.val (.int .i64 0)] W0∧
 ∀(i3 i4:Int) (W5:PW),
 F1 [.val (.int .i64 i3),.val (.int .i64 i4)] W5→
 (i4<(a0.2:Int)→
 inB a0 i4∧
 ∃i6:Int,
 ∃i7:Int,
 ∃i8:Int,
 ElemAt W5 a0 6 (Int.toNat i4) 0 [.int .u8 i6,.int .u8 i7,.int .u8 i8]∧
 callN Tryz.prog W0 M 143 [.agg ⟨[.int .u8 i6,.int .u8 i7,.int .u8 i8]⟩] W5 fun v9 W10=>
 ∃i11:Int,v9 = .int .i64 i11∧I64 (i4+1)∧stp F1 F2 [.val (.int .i64 (mx i3 i11)),.val (.int .i64 (i4+1))] W10 [.val (.int .i64 i3),.val (.int .i64 i4)] W5)∧
 (¬i4<(a0.2:Int)→∀(W12:PW),Ext W5 W12→Post (.int .i64 i3) W12)
theorem callref1_PolyDegree (W0:PW) (M:Nat→Prop) (a0:Sl) (Post:Value→PW→Prop) (h:Rref1_PolyDegree W0 M a0 Post):PCallsM Tryz.prog 67 [a0.v] W0 M Post:=
 fn_sound rfl tt_ok tt_in Tryz.func67 (cuts:=[]) rfl rfl (Nat.le_of_ble_eq_true rfl) (Eq.mpr (by kernel_rfl) h)
def Rref1_PolyVars (W0:PW) (M:Nat→Prop) (a0:Sl) (Post:Value→PW→Prop):Prop:=
 ∃(F1:List PL→PW→Prop),
 ∃(F2:List PL→PW→Nat),
 F1 [.val (.int .i64 0),.val (.int .i64 0)] W0∧
 ∀(i3 i4:Int) (W5:PW),
 F1 [.val (.int .i64 i3),.val (.int .i64 i4)] W5→
 (i4<(a0.2:Int)→
 inB a0 i4∧
 ∃i6:Int,
 ∃i7:Int,
 ∃i8:Int,
 ElemAt W5 a0 6 (Int.toNat i4) 0 [.int .u8 i6,.int .u8 i7,.int .u8 i8]∧
 callN Tryz.prog W0 M 167 [.agg ⟨[.int .u8 i6,.int .u8 i7,.int .u8 i8]⟩] W5 fun v9 W10=>
 ∃i11:Int,v9 = .int .i64 i11∧I64 (i4+1)∧stp F1 F2 [.val (.int .i64 (mx i3 i11)),.val (.int .i64 (i4+1))] W10 [.val (.int .i64 i3),.val (.int .i64 i4)] W5)∧
 (¬i4<(a0.2:Int)→∀(W12:PW),Ext W5 W12→Post (.int .i64 i3) W12)
theorem callref1_PolyVars (W0:PW) (M:Nat→Prop) (a0:Sl) (Post:Value→PW→Prop) (h:Rref1_PolyVars W0 M a0 Post):PCallsM Tryz.prog 88 [a0.v] W0 M Post:=
 fn_sound rfl tt_ok tt_in Tryz.func88 (cuts:=[]) rfl rfl (Nat.le_of_ble_eq_true rfl) (Eq.mpr (by kernel_rfl) h)
end Go.Proofs.YthpmkcidkcmlgaaGreat

set_option maxRecDepth 100000
set_option linter.unusedVariables false
namespace Go.Proofs.YthpmkcidkcmlgaaGreat
open Go Go.SX
end Go.Proofs.YthpmkcidkcmlgaaGreat

set_option maxRecDepth 100000
set_option linter.unusedVariables false
namespace Go.Proofs.YthpmkcidkcmlgaaGreat
open Go Go.SX
end Go.Proofs.YthpmkcidkcmlgaaGreat

set_option maxRecDepth 100000
set_option linter.unusedVariables false
namespace Go.Proofs.YthpmkcidkcmlgaaGreat
open Go Go.SX
end Go.Proofs.YthpmkcidkcmlgaaGreat
