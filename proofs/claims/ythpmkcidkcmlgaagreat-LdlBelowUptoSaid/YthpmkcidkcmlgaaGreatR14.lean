/- R14 -/
import Derived.Test.YthpmkcidkcmlgaaGreatTt
set_option linter.unusedVariables false
set_option linter.unusedSimpArgs false
set_option maxRecDepth 100000
set_option linter.unusedVariables false
namespace Go.Proofs.YthpmkcidkcmlgaaGreat
open Go Go.SX
end Go.Proofs.YthpmkcidkcmlgaaGreat

set_option maxRecDepth 100000
set_option linter.unusedVariables false
namespace Go.Proofs.YthpmkcidkcmlgaaGreat
open Go Go.SX
end Go.Proofs.YthpmkcidkcmlgaaGreat

set_option maxRecDepth 100000
set_option linter.unusedVariables false
namespace Go.Proofs.YthpmkcidkcmlgaaGreat
open Go Go.SX
end Go.Proofs.YthpmkcidkcmlgaaGreat

set_option maxRecDepth 100000
set_option linter.unusedVariables false
namespace Go.Proofs.YthpmkcidkcmlgaaGreat
open Go Go.SX
def Rgram_Form (W0:PW) (M:Nat→Prop) (a0:Sl) (a1:Sl) (Post:Value→PW→Prop):Prop:=
 callN Tryz.prog W0 M 94 [a1.v] W0 fun v1 W2=>
 ∃b3:Bool,
 v1 = .bool b3∧
 ((!b3)=true→∀(W4:PW),Ext W2 W4→Post (.tuple ⟨[.agg ⟨[.slice none 0 0]⟩,.bool false]⟩) W4)∧
 ((!b3)=false→
 inB a1 0∧
 ∃s5:Sl,
 ElemAt W2 a1 1 0 0 [s5.v]∧
 ((a1.2:Int)≠(s5.2:Int)→∀(W6:PW),Ext W2 W6→Post (.tuple ⟨[.agg ⟨[.slice none 0 0]⟩,.bool false]⟩) W6)∧
 (¬(a1.2:Int)≠(s5.2:Int)→
 ((a0.2:Int)≠(a1.2:Int)→∀(W7:PW),Ext W2 W7→Post (.tuple ⟨[.agg ⟨[.slice none 0 0]⟩,.bool false]⟩) W7)∧
 (¬(a0.2:Int)≠(a1.2:Int)→
 ∃(F8:List PL→PW→Prop),
 ∃(F9:List PL→PW→Nat),
 F8 [.val (.int .i64 0),.cells [.slice none 0 0],.cells [.slice none 0 0]] W2∧
 ∀(s10 s11:Sl) (i12:Int) (W13:PW),
 F8 [.val (.int .i64 i12),.cells [s10.v],.cells [s11.v]] W13→
 (i12<(a0.2:Int)→
 inB a0 i12∧
 ∃s14:Sl,
 ElemAt W13 a0 1 (Int.toNat i12) 0 [s14.v]∧
 ∃(F15:List PL→PW→Prop),
 ∃(F16:List PL→PW→Nat),
 F15 [.val (.int .i64 0),.cells [s10.v],.cells [s11.v]] W13∧
 ∀(s17 s18:Sl) (i19:Int) (W20:PW),
 F15 [.val (.int .i64 i19),.cells [s17.v],.cells [s18.v]] W20→
 (i19<(a0.2:Int)→
 inB a0 i19∧
 ∃s21:Sl,
 ElemAt W20 a0 1 (Int.toNat i19) 0 [s21.v]∧
 callN Tryz.prog W0 M 95 [.agg ⟨[s14.v]⟩,.agg ⟨[s21.v]⟩] W20 fun v22 W23=>
 ∃s24:Sl,
 ∃b25:Bool,
 v22 = .tuple ⟨[.agg ⟨[s24.v]⟩,.bool b25]⟩∧
 ((!b25)=true→∀(W26:PW),Ext W23 W26→Post (.tuple ⟨[.agg ⟨[.slice none 0 0]⟩,.bool false]⟩) W26)∧
 ((!b25)=false→
 inB a1 i12∧
 ∃s27:Sl,
 ElemAt W23 a1 1 (Int.toNat i12) 0 [s27.v]∧
 inB s27 i19∧
 ∃s28:Sl,
 ∃b29:Bool,
 ∃s30:Sl,
 ElemAt W23 s27 3 (Int.toNat i19) 0 [s28.v,.bool b29,s30.v]∧
 callN Tryz.prog W0 M 97 [.agg ⟨[s24.v]⟩,.agg ⟨[s28.v,.bool b29,s30.v]⟩] W23 fun v31 W32=>
 ∃s33:Sl,
 v31 = .agg ⟨[s33.v]⟩∧
 Ext W23 W32∧
 callN Tryz.prog W0 M 96 [.agg ⟨[s18.v]⟩,.agg ⟨[s33.v]⟩] W32 fun v34 W35=>
 ∃s36:Sl,
 v34 = .agg ⟨[s36.v]⟩∧
 Ext W32 W35∧
 I64 (i19+1)∧
 stp F15 F16 [.val (.int .i64 (i19+1)),.cells [s17.v],.cells [s36.v]] W35 [.val (.int .i64 i19),.cells [s17.v],.cells [s18.v]] W20))∧
 (¬i19<(a0.2:Int)→I64 (i12+1)∧stp F8 F9 [.val (.int .i64 (i12+1)),.cells [s17.v],.cells [s18.v]] W20 [.val (.int .i64 i12),.cells [s10.v],.cells [s11.v]] W13))∧
 (¬i12<(a0.2:Int)→∀(W37:PW),Ext W13 W37→Post (.tuple ⟨[.agg ⟨[s11.v]⟩,.bool true]⟩) W37))))
theorem callgram_Form (W0:PW) (M:Nat→Prop) (a0:Sl) (a1:Sl) (Post:Value→PW→Prop) (h:Rgram_Form W0 M a0 a1 Post):PCallsM Tryz.prog 18 [a0.v,a1.v] W0 M Post:=
 fn_sound rfl tt_ok tt_in Tryz.func18 (cuts:=[]) rfl rfl (Nat.le_of_ble_eq_true rfl) (Eq.mpr (by kernel_rfl) h)
end Go.Proofs.YthpmkcidkcmlgaaGreat
