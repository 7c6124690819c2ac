/- R17 -/
import Derived.Test.YtokefihiadbkbaaGreatDoorTt
set_option linter.unusedVariables false
set_option linter.unusedSimpArgs false
set_option maxRecDepth 100000
namespace Go.Proofs.YtokefihiadbkbaaGreatDoor
open Go Go.SX
def Iq8 (W0:PW) (M:Nat→Prop) (a0:Sl) (Post:Value→PW→Prop):Prop:=
 ∃(F1:List PL→PW→Prop),
 ∃(F2:List PL→PW→Nat),
 F1 [.val (.int .i64 1),.val (.int .i64 0)] W0∧
 ∀(i3 i4:Int) (W5:PW),
 F1 [.val (.int .i64 i3),.val (.int .i64 i4)] W5→
 (i4<(a0.2:Int)→
 inB a0 i4∧
 ∃i6:Int,
 Aa7 W5 a0 1 (Int.toNat i4) 0 [.int .i64 i6]∧
 (i6<0→∀(W7:PW),Ext W5 W7→Post (.tuple ⟨[.int .i64 0,.bool false]⟩) W7)∧
 (¬i6<0→
 (16<i6→∀(W8:PW),Ext W5 W8→Post (.tuple ⟨[.int .i64 0,.bool false]⟩) W8)∧
 (¬16<i6→I64 (i6+1)∧I64 (i3*(i6+1))∧I64 (i4+1)∧stp F1 F2 [.val (.int .i64 (i3*(i6+1))),.val (.int .i64 (i4+1))] W5 [.val (.int .i64 i3),.val (.int .i64 i4)] W5)))∧
 (¬i4<(a0.2:Int)→
 (1≤(a0.2:Int)→∀(W9:PW),Ext W5 W9→Post (.tuple ⟨[.int .i64 i3,.bool (decide ((a0.2:Int)≤3))]⟩) W9)∧(¬1≤(a0.2:Int)→∀(W10:PW),Ext W5 W10→Post (.tuple ⟨[.int .i64 i3,.bool false]⟩) W10))
theorem Ik8 (W0:PW) (M:Nat→Prop) (a0:Sl) (Post:Value→PW→Prop) (h:Iq8 W0 M a0 Post):Aa0 Tryz.prog 65 [a0.v] W0 M Post:=
 Aa3 rfl Aa9 Aa8 Tryz.func65 (cuts:=[]) rfl rfl (Nat.le_of_ble_eq_true rfl) (Eq.mpr (by kernel_rfl) h)
def Ir3 (W0:PW) (M:Nat→Prop) (a0:Sl) (a1:Sl) (a2:Int) (g3:FuncId) (r3_0:Option Addr) (Post:Value→PW→Prop):Prop:=
 ((0:Int)≤0∧0≤a2∧a2≤(a1.3:Int))∧
 ∃(F1:List PL→PW→Prop),
 ∃(F2:List PL→PW→Nat),
 F1 [.val (.int .i64 1),.val (.int .i64 0)] W0∧
 ∀(i3 i4:Int) (W5:PW),
 F1 [.val (.int .i64 i3),.val (.int .i64 i4)] W5→
 (i4<(↑(Int.toNat a2-0):Int)→
 inB (Sl.cut a1 1 0 (Int.toNat a2)) i4∧
 ∃i6:Int,
 Aa7 W5 (Sl.cut a1 1 0 (Int.toNat a2)) 1 (Int.toNat i4) 0 [.int .i64 i6]∧
 I64 (i6+1)∧I64 (i3*(i6+1))∧I64 (i4+1)∧stp F1 F2 [.val (.int .i64 (i3*(i6+1))),.val (.int .i64 (i4+1))] W5 [.val (.int .i64 i3),.val (.int .i64 i4)] W5)∧
 (¬i4<(↑(Int.toNat a2-0):Int)→
 inB a1 a2∧
 ∃i7:Int,
 Aa7 W5 a1 1 (Int.toNat a2) 0 [.int .i64 i7]∧
 I64 (i7+1)∧
 (i7+1=i7+1∧0≤i7+1∧(i7+1)*(↑(56:Nat):Int)≤281474976710656)∧
 ∀(s8:Sl) (W9:PW),
 Ext W5 W9→
 SX.Own W9 42 3 s8 (List.replicate (Int.toNat (i7+1)) [.slice none 0 0,.bool false,.slice none 0 0])→
 Fr W0 W5 s8→
 ∃(F10:List PL→PW→Prop),
 ∃(F11:List PL→PW→Nat),
 F10 [.val (.int .i64 0)] W9∧
 ∀(i12:Int) (W13:PW),
 F10 [.val (.int .i64 i12)] W13→
 (i12<(a0.2:Int)→
 i3≠0∧
 (s8.2:Int)≠0∧
 (Int.tmod (IntKind.wrap .i64 (Int.tdiv i12 i3)) (s8.2:Int)≠0→I64 (i12+1)∧stp F10 F11 [.val (.int .i64 (i12+1))] W13 [.val (.int .i64 i12)] W13)∧
 (¬Int.tmod (IntKind.wrap .i64 (Int.tdiv i12 i3)) (s8.2:Int)≠0→
 ∃(F14:List PL→PW→Prop),
 ∃(F15:List PL→PW→Nat),
 F14 [.val (.int .i64 0)] W13∧
 ∀(i16:Int) (W17:PW),
 F14 [.val (.int .i64 i16)] W17→
 (i16<(s8.2:Int)→
 I64 (i16*i3)∧
 I64 (i12+i16*i3)∧
 inB a0 (i12+i16*i3)∧
 ∃s18:Sl,
 ∃b19:Bool,
 ∃s20:Sl,
 Aa7 W17 a0 3 (Int.toNat (i12+i16*i3)) 0 [s18.v,.bool b19,s20.v]∧
 inB s8 i16∧
 An9 W0 M s8 (Int.toNat i16*3+0) [s18.v,.bool b19,s20.v] W17 fun(W21:PW)=>I64 (i16+1)∧stp F14 F15 [.val (.int .i64 (i16+1))] W21 [.val (.int .i64 i16)] W17)∧
 (¬i16<(s8.2:Int)→
 Aa1 Tryz.prog W0 M g3 [s8.v,.pointer r3_0] W17 fun v22 W23=>
 v22 = .tuple ⟨[]⟩∧
 ∃(F24:List PL→PW→Prop),
 ∃(F25:List PL→PW→Nat),
 F24 [.val (.int .i64 0)] W23∧
 ∀(i26:Int) (W27:PW),
 F24 [.val (.int .i64 i26)] W27→
 (i26<(s8.2:Int)→
 I64 (i26*i3)∧
 I64 (i12+i26*i3)∧
 inB s8 i26∧
 ∃s28:Sl,
 ∃b29:Bool,
 ∃s30:Sl,
 Aa7 W27 s8 3 (Int.toNat i26) 0 [s28.v,.bool b29,s30.v]∧
 inB a0 (i12+i26*i3)∧
 An9 W0 M a0 (Int.toNat (i12+i26*i3)*3+0) [s28.v,.bool b29,s30.v] W27 fun(W31:PW)=>
 I64 (i26+1)∧stp F24 F25 [.val (.int .i64 (i26+1))] W31 [.val (.int .i64 i26)] W27)∧
 (¬i26<(s8.2:Int)→I64 (i12+1)∧stp F10 F11 [.val (.int .i64 (i12+1))] W27 [.val (.int .i64 i12)] W13))))∧
 (¬i12<(a0.2:Int)→∀(W32:PW),Ext W13 W32→Post (.tuple ⟨[]⟩) W32))
theorem Ij7 (W0:PW) (M:Nat→Prop) (a0:Sl) (a1:Sl) (a2:Int) (g3:FuncId) (r3_0:Option Addr) (Post:Value→PW→Prop) (h:Ir3 W0 M a0 a1 a2 g3 r3_0 Post):Aa0 Tryz.prog 67 [a0.v,a1.v,.int .i64 a2,.func (Fn.func g3) #[] #[.pointer r3_0]] W0 M Post:=
 Aa3 rfl Aa9 Aa8 Tryz.func67 (cuts:=[1000008]) rfl rfl (Nat.le_of_ble_eq_true rfl) (Eq.mpr (by kernel_rfl) h)
def Ip1 (W0:PW) (M:Nat→Prop) (a0:Int) (a1:Int) (Post:Value→PW→Prop):Prop:=
 ∃(F1:List PL→PW→Prop),
 ∃(F2:List PL→PW→Nat),
 F1 [.val (.int .i64 1),.val (.int .i64 0)] W0∧
 ∀(i3 i4:Int) (W5:PW),
 F1 [.val (.int .i64 i3),.val (.int .i64 i4)] W5→
 (i4<a1→
 I64 (a0-i4)∧
 I64 (i3*(a0-i4))∧
 I64 (i4+1)∧
 i4+1≠0∧I64 (i4+1)∧stp F1 F2 [.val (.int .i64 (IntKind.wrap .i64 (Int.tdiv (i3*(a0-i4)) (i4+1)))),.val (.int .i64 (i4+1))] W5 [.val (.int .i64 i3),.val (.int .i64 i4)] W5)∧
 (¬i4<a1→
 Aa1 Tryz.prog W0 M 49 [.int .i64 i3] W5 fun v6 W7=>
 ∃s8:Sl,∃b9:Bool,∃s10:Sl,v6 = .agg ⟨[s8.v,.bool b9,s10.v]⟩∧∀(W11:PW),Ext W7 W11→Post (.agg ⟨[s8.v,.bool b9,s10.v]⟩) W11)
theorem Ii8 (W0:PW) (M:Nat→Prop) (a0:Int) (a1:Int) (Post:Value→PW→Prop) (h:Ip1 W0 M a0 a1 Post):Aa0 Tryz.prog 138 [.int .i64 a0,.int .i64 a1] W0 M Post:=
 Aa3 rfl Aa9 Aa8 Tryz.func138 (cuts:=[]) rfl rfl (Nat.le_of_ble_eq_true rfl) (Eq.mpr (by kernel_rfl) h)
end Go.Proofs.YtokefihiadbkbaaGreatDoor
