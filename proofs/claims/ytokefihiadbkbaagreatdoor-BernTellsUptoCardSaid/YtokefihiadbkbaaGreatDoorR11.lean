/- R11 -/
import Derived.Test.YtokefihiadbkbaaGreatDoorTt
set_option linter.unusedVariables false
set_option linter.unusedSimpArgs false
set_option maxRecDepth 100000
namespace Go.Proofs.YtokefihiadbkbaaGreatDoor
open Go Go.SX
def Ix2 (W0:PW) (M:Nat→Prop) (a0_0:Sl) (a1:Int) (Post:Value→PW→Prop):Prop:=
 ∃(F1:List PL→PW→Prop),
 ∃(F2:List PL→PW→Nat),
 F1 [.val (.int .i64 0),.val (.int .i64 0)] W0∧
 ∀(i3 i4:Int) (W5:PW),
 F1 [.val (.int .i64 i3),.val (.int .i64 i4)] W5→
 (i4<(a0_0.2:Int)→
 inB a0_0 i4∧
 ∃i6:Int,
 ∃i7:Int,
 ∃i8:Int,
 ∃s9:Sl,
 ∃b10:Bool,
 ∃s11:Sl,
 Aa7 W5 a0_0 6 (Int.toNat i4) 0 [.int .u8 i6,.int .u8 i7,.int .u8 i8,s9.v,.bool b10,s11.v]∧
 (0≤a1→
 (a1<3→
 (0≤a1∧a1<3)∧
 ∃i12:Int,
 As9 [.int .u8 i6,.int .u8 i7,.int .u8 i8,s9.v,.bool b10,s11.v] (0+Int.toNat a1*1+0) [.int .u8 i12]∧
 I64 i12∧I64 (i4+1)∧stp F1 F2 [.val (.int .i64 (mx i3 i12)),.val (.int .i64 (i4+1))] W5 [.val (.int .i64 i3),.val (.int .i64 i4)] W5)∧
 (¬a1<3→I64 (i4+1)∧stp F1 F2 [.val (.int .i64 i3),.val (.int .i64 (i4+1))] W5 [.val (.int .i64 i3),.val (.int .i64 i4)] W5))∧
 (¬0≤a1→I64 (i4+1)∧stp F1 F2 [.val (.int .i64 i3),.val (.int .i64 (i4+1))] W5 [.val (.int .i64 i3),.val (.int .i64 i4)] W5))∧
 (¬i4<(a0_0.2:Int)→∀(W13:PW),Ext W5 W13→Post (.int .i64 i3) W13)
theorem Io0 (W0:PW) (M:Nat→Prop) (a0_0:Sl) (a1:Int) (Post:Value→PW→Prop) (h:Ix2 W0 M a0_0 a1 Post):Aa0 Tryz.prog 30 [.agg #[a0_0.v],.int .i64 a1] W0 M Post:=
 Aa3 rfl Aa9 Aa8 Tryz.func30 (cuts:=[]) rfl rfl (Nat.le_of_ble_eq_true rfl) (Eq.mpr (by kernel_rfl) h)
def Dy1 (W0:PW) (M:Nat→Prop) (a0_0:Sl) (Post:Value→PW→Prop):Prop:=
 ∃(F1:List PL→PW→Prop),
 ∃(F2:List PL→PW→Nat),
 F1 [.val (.int .i64 0),.val (.int .i64 0)] W0∧
 ∀(i3 i4:Int) (W5:PW),
 F1 [.val (.int .i64 i3),.val (.int .i64 i4)] W5→
 (i4<(a0_0.2:Int)→
 inB a0_0 i4∧
 ∃i6:Int,
 ∃i7:Int,
 ∃i8:Int,
 ∃s9:Sl,
 ∃b10:Bool,
 ∃s11:Sl,
 Aa7 W5 a0_0 6 (Int.toNat i4) 0 [.int .u8 i6,.int .u8 i7,.int .u8 i8,s9.v,.bool b10,s11.v]∧
 Aa1 Tryz.prog W0 M 61 [.agg ⟨[.int .u8 i6,.int .u8 i7,.int .u8 i8]⟩] W5 fun v12 W13=>
 ∃i14:Int,v12 = .int .i64 i14∧I64 (i4+1)∧stp F1 F2 [.val (.int .i64 (mx i3 i14)),.val (.int .i64 (i4+1))] W13 [.val (.int .i64 i3),.val (.int .i64 i4)] W5)∧
 (¬i4<(a0_0.2:Int)→∀(W15:PW),Ext W5 W15→Post (.int .i64 i3) W15)
theorem Cn0 (W0:PW) (M:Nat→Prop) (a0_0:Sl) (Post:Value→PW→Prop) (h:Dy1 W0 M a0_0 Post):Aa0 Tryz.prog 14 [.agg #[a0_0.v]] W0 M Post:=
 Aa3 rfl Aa9 Aa8 Tryz.func14 (cuts:=[]) rfl rfl (Nat.le_of_ble_eq_true rfl) (Eq.mpr (by kernel_rfl) h)
def Gk9 (W0:PW) (M:Nat→Prop) (a0_0:Int) (a0_1:Int) (a0_2:Int) (Post:Value→PW→Prop):Prop:=
 ∃(F1:List PL→PW→Prop),
 ∃(F2:List PL→PW→Nat),
 F1 [.val (.int .i64 0),.val (.int .i64 0)] W0∧
 ∀(i3 i4:Int) (W5:PW),
 F1 [.val (.int .i64 i3),.val (.int .i64 i4)] W5→
 (i4<3→
 (0≤i4∧i4<3)∧
 ∃i6:Int,
 As9 [.int .u8 a0_0,.int .u8 a0_1,.int .u8 a0_2] (0+Int.toNat i4*1+0) [.int .u8 i6]∧
 (0<i6→I64 (i4+1)∧I64 (i4+1)∧stp F1 F2 [.val (.int .i64 (i4+1)),.val (.int .i64 (i4+1))] W5 [.val (.int .i64 i3),.val (.int .i64 i4)] W5)∧
 (¬0<i6→I64 (i4+1)∧stp F1 F2 [.val (.int .i64 i3),.val (.int .i64 (i4+1))] W5 [.val (.int .i64 i3),.val (.int .i64 i4)] W5))∧
 (¬i4<3→∀(W7:PW),Ext W5 W7→Post (.int .i64 i3) W7)
theorem Gh2 (W0:PW) (M:Nat→Prop) (a0_0:Int) (a0_1:Int) (a0_2:Int) (Post:Value→PW→Prop) (h:Gk9 W0 M a0_0 a0_1 a0_2 Post):Aa0 Tryz.prog 197 [.agg #[.int .u8 a0_0,.int .u8 a0_1,.int .u8 a0_2]] W0 M Post:=
 Aa3 rfl Aa9 Aa8 Tryz.func197 (cuts:=[]) rfl rfl (Nat.le_of_ble_eq_true rfl) (Eq.mpr (by kernel_rfl) h)
def Gk6 (W0:PW) (M:Nat→Prop) (a0:Sl) (Post:Value→PW→Prop):Prop:=
 ∃(F1:List PL→PW→Prop),
 ∃(F2:List PL→PW→Nat),
 F1 [.val (.int .i64 0),.val (.int .i64 0)] W0∧
 ∀(i3 i4:Int) (W5:PW),
 F1 [.val (.int .i64 i3),.val (.int .i64 i4)] W5→
 (i4<(a0.2:Int)→
 inB a0 i4∧
 ∃i6:Int,
 ∃i7:Int,
 ∃i8:Int,
 Aa7 W5 a0 6 (Int.toNat i4) 0 [.int .u8 i6,.int .u8 i7,.int .u8 i8]∧
 Aa1 Tryz.prog W0 M 197 [.agg ⟨[.int .u8 i6,.int .u8 i7,.int .u8 i8]⟩] W5 fun v9 W10=>
 ∃i11:Int,v9 = .int .i64 i11∧I64 (i4+1)∧stp F1 F2 [.val (.int .i64 (mx i3 i11)),.val (.int .i64 (i4+1))] W10 [.val (.int .i64 i3),.val (.int .i64 i4)] W5)∧
 (¬i4<(a0.2:Int)→∀(W12:PW),Ext W5 W12→Post (.int .i64 i3) W12)
theorem Gh3 (W0:PW) (M:Nat→Prop) (a0:Sl) (Post:Value→PW→Prop) (h:Gk6 W0 M a0 Post):Aa0 Tryz.prog 150 [a0.v] W0 M Post:=
 Aa3 rfl Aa9 Aa8 Tryz.func150 (cuts:=[]) rfl rfl (Nat.le_of_ble_eq_true rfl) (Eq.mpr (by kernel_rfl) h)
def Jm3 (W0:PW) (M:Nat→Prop) (a0:Sl) (a1:Int) (Post:Value→PW→Prop):Prop:=
 ∃(F1:List PL→PW→Prop),
 ∃(F2:List PL→PW→Nat),
 F1 [.val (.int .i64 0),.val (.int .i64 0)] W0∧
 ∀(i3 i4:Int) (W5:PW),
 F1 [.val (.int .i64 i3),.val (.int .i64 i4)] W5→
 (i4<(a0.2:Int)→
 (0≤a1→
 (a1<3→
 inB a0 i4∧
 (0≤a1∧a1<3)∧
 ∃i6:Int,
 Aa7 W5 a0 6 (Int.toNat i4) (0+Int.toNat a1*1) [.int .u8 i6]∧
 I64 i6∧I64 (i4+1)∧stp F1 F2 [.val (.int .i64 (mx i3 i6)),.val (.int .i64 (i4+1))] W5 [.val (.int .i64 i3),.val (.int .i64 i4)] W5)∧
 (¬a1<3→∀(W7:PW),Ext W5 W7→Post (.int .i64 i3) W7))∧
 (¬0≤a1→∀(W8:PW),Ext W5 W8→Post (.int .i64 i3) W8))∧
 (¬i4<(a0.2:Int)→∀(W9:PW),Ext W5 W9→Post (.int .i64 i3) W9)
theorem Ji7 (W0:PW) (M:Nat→Prop) (a0:Sl) (a1:Int) (Post:Value→PW→Prop) (h:Jm3 W0 M a0 a1 Post):Aa0 Tryz.prog 16 [a0.v,.int .i64 a1] W0 M Post:=
 Aa3 rfl Aa9 Aa8 Tryz.func16 (cuts:=[]) rfl rfl (Nat.le_of_ble_eq_true rfl) (Eq.mpr (by kernel_rfl) h)
end Go.Proofs.YtokefihiadbkbaaGreatDoor
