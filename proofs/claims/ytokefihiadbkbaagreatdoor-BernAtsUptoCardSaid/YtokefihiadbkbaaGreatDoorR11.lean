/- R11 -/
import Derived.Test.YtokefihiadbkbaaGreatDoorTt
set_option linter.unusedVariables false
set_option linter.unusedSimpArgs false
set_option maxRecDepth 100000
namespace Go.Proofs.YtokefihiadbkbaaGreatDoor
open Go Go.SX
def Hl3 (W0:PW) (M:Nat→Prop) (a0_0:Bool) (a0_1:Sl) (a0_2:Sl) (a1:Int) (Post:Value→PW→Prop):Prop:=
 Aa1 Tryz.prog W0 M 87 [.int .i64 1] W0 fun v1 W2=>
 ∃b3:Bool,
 ∃s4:Sl,
 ∃s5:Sl,
 v1 = .agg ⟨[.bool b3,s4.v,s5.v]⟩∧
 ∃(F6:List PL→PW→Prop),
 ∃(F7:List PL→PW→Nat),
 F6 [.val (.int .i64 0),.cells [.bool b3,s4.v,s5.v]] W2∧
 ∀(b8:Bool) (s9 s10:Sl) (i11:Int) (W12:PW),
 F6 [.val (.int .i64 i11),.cells [.bool b8,s9.v,s10.v]] W12→
 (i11<a1→
 Aa1 Tryz.prog W0 M 88 [.agg ⟨[.bool b8,s9.v,s10.v]⟩,.agg ⟨[.bool a0_0,a0_1.v,a0_2.v]⟩] W12 fun v13 W14=>
 ∃b15:Bool,
 ∃s16:Sl,
 ∃s17:Sl,
 v13 = .agg ⟨[.bool b15,s16.v,s17.v]⟩∧
 I64 (i11+1)∧stp F6 F7 [.val (.int .i64 (i11+1)),.cells [.bool b15,s16.v,s17.v]] W14 [.val (.int .i64 i11),.cells [.bool b8,s9.v,s10.v]] W12)∧
 (¬i11<a1→∀(W18:PW),Ext W12 W18→Post (.agg ⟨[.bool b8,s9.v,s10.v]⟩) W18)
theorem Hf0 (W0:PW) (M:Nat→Prop) (a0_0:Bool) (a0_1:Sl) (a0_2:Sl) (a1:Int) (Post:Value→PW→Prop) (h:Hl3 W0 M a0_0 a0_1 a0_2 a1 Post):Aa0 Tryz.prog 99 [.agg #[.bool a0_0,a0_1.v,a0_2.v],.int .i64 a1] W0 M Post:=
 Aa3 rfl Aa9 Aa8 Tryz.func99 (cuts:=[]) rfl rfl (Nat.le_of_ble_eq_true rfl) (Eq.mpr (by kernel_rfl) h)
def Ix2 (W0:PW) (M:Nat→Prop) (a0_0:Sl) (a1:Int) (Post:Value→PW→Prop):Prop:=
 ∃(F1:List PL→PW→Prop),
 ∃(F2:List PL→PW→Nat),
 F1 [.val (.int .i64 0),.val (.int .i64 0)] W0∧
 ∀(i3 i4:Int) (W5:PW),
 F1 [.val (.int .i64 i3),.val (.int .i64 i4)] W5→
 (i4<(a0_0.2:Int)→
 inB a0_0 i4∧
 ∃i6:Int,
 ∃i7:Int,
 ∃i8:Int,
 ∃s9:Sl,
 ∃b10:Bool,
 ∃s11:Sl,
 Aa7 W5 a0_0 6 (Int.toNat i4) 0 [.int .u8 i6,.int .u8 i7,.int .u8 i8,s9.v,.bool b10,s11.v]∧
 (0≤a1→
 (a1<3→
 (0≤a1∧a1<3)∧
 ∃i12:Int,
 As9 [.int .u8 i6,.int .u8 i7,.int .u8 i8,s9.v,.bool b10,s11.v] (0+Int.toNat a1*1+0) [.int .u8 i12]∧
 I64 i12∧I64 (i4+1)∧stp F1 F2 [.val (.int .i64 (mx i3 i12)),.val (.int .i64 (i4+1))] W5 [.val (.int .i64 i3),.val (.int .i64 i4)] W5)∧
 (¬a1<3→I64 (i4+1)∧stp F1 F2 [.val (.int .i64 i3),.val (.int .i64 (i4+1))] W5 [.val (.int .i64 i3),.val (.int .i64 i4)] W5))∧
 (¬0≤a1→I64 (i4+1)∧stp F1 F2 [.val (.int .i64 i3),.val (.int .i64 (i4+1))] W5 [.val (.int .i64 i3),.val (.int .i64 i4)] W5))∧
 (¬i4<(a0_0.2:Int)→∀(W13:PW),Ext W5 W13→Post (.int .i64 i3) W13)
theorem Io0 (W0:PW) (M:Nat→Prop) (a0_0:Sl) (a1:Int) (Post:Value→PW→Prop) (h:Ix2 W0 M a0_0 a1 Post):Aa0 Tryz.prog 30 [.agg #[a0_0.v],.int .i64 a1] W0 M Post:=
 Aa3 rfl Aa9 Aa8 Tryz.func30 (cuts:=[]) rfl rfl (Nat.le_of_ble_eq_true rfl) (Eq.mpr (by kernel_rfl) h)
def Dy1 (W0:PW) (M:Nat→Prop) (a0_0:Sl) (Post:Value→PW→Prop):Prop:=
 ∃(F1:List PL→PW→Prop),
 ∃(F2:List PL→PW→Nat),
 F1 [.val (.int .i64 0),.val (.int .i64 0)] W0∧
 ∀(i3 i4:Int) (W5:PW),
 F1 [.val (.int .i64 i3),.val (.int .i64 i4)] W5→
 (i4<(a0_0.2:Int)→
 inB a0_0 i4∧
 ∃i6:Int,
 ∃i7:Int,
 ∃i8:Int,
 ∃s9:Sl,
 ∃b10:Bool,
 ∃s11:Sl,
 Aa7 W5 a0_0 6 (Int.toNat i4) 0 [.int .u8 i6,.int .u8 i7,.int .u8 i8,s9.v,.bool b10,s11.v]∧
 Aa1 Tryz.prog W0 M 61 [.agg ⟨[.int .u8 i6,.int .u8 i7,.int .u8 i8]⟩] W5 fun v12 W13=>
 ∃i14:Int,v12 = .int .i64 i14∧I64 (i4+1)∧stp F1 F2 [.val (.int .i64 (mx i3 i14)),.val (.int .i64 (i4+1))] W13 [.val (.int .i64 i3),.val (.int .i64 i4)] W5)∧
 (¬i4<(a0_0.2:Int)→∀(W15:PW),Ext W5 W15→Post (.int .i64 i3) W15)
theorem Cn0 (W0:PW) (M:Nat→Prop) (a0_0:Sl) (Post:Value→PW→Prop) (h:Dy1 W0 M a0_0 Post):Aa0 Tryz.prog 14 [.agg #[a0_0.v]] W0 M Post:=
 Aa3 rfl Aa9 Aa8 Tryz.func14 (cuts:=[]) rfl rfl (Nat.le_of_ble_eq_true rfl) (Eq.mpr (by kernel_rfl) h)
end Go.Proofs.YtokefihiadbkbaaGreatDoor
