/- R11 -/
import Derived.Test.YtokefihiadbkbaaGreatDoorTt
set_option linter.unusedVariables false
set_option linter.unusedSimpArgs false
set_option maxRecDepth 100000
namespace Go.Proofs.YtokefihiadbkbaaGreatDoor
open Go Go.SX
def Gw8 (W0:PW) (M:Nat→Prop) (a0_0:Sl) (a1_0:Sl) (a1_1:Bool) (a1_2:Sl) (a1_3:Sl) (a1_4:Bool) (a1_5:Sl) (a1_6:Sl) (a1_7:Bool) (a1_8:Sl) (Post:Value→PW→Prop):Prop:=
 ∃(F1:List PL→PW→Prop),
 ∃(F2:List PL→PW→Nat),
 F1 [PL.val (Value.int .i64 0),PL.cells [Value.slice none 0 0,Value.bool false,Value.slice none 0 0]] W0∧
 ∀(s3:Sl) (b4:Bool) (s5:Sl) (i6:Int) (W7:PW),
 F1 [PL.val (Value.int .i64 i6),PL.cells [s3.v,Value.bool b4,s5.v]] W7→
 (i6<(a0_0.2:Int)→
 inB a0_0 i6∧
 ∃i8:Int,
 ∃i9:Int,
 ∃i10:Int,
 ∃s11:Sl,
 ∃b12:Bool,
 ∃s13:Sl,
 Aa7 W7 a0_0 6 (Int.toNat i6) 0 [Value.int .u8 i8,Value.int .u8 i9,Value.int .u8 i10,s11.v,Value.bool b12,s13.v]∧
 ∃(F14:List PL→PW→Prop),
 ∃(F15:List PL→PW→Nat),
 F14 [PL.val (Value.int .i64 0),PL.cells [s11.v,Value.bool b12,s13.v]] W7∧
 ∀(s16:Sl) (b17:Bool) (s18:Sl) (i19:Int) (W20:PW),
 F14 [PL.val (Value.int .i64 i19),PL.cells [s16.v,Value.bool b17,s18.v]] W20→
 (i19<3→
 (0≤i19∧i19<3)∧
 ∃i21:Int,
 List.take 1 (List.drop (Int.toNat i19*1) [Value.int .u8 i8,Value.int .u8 i9,Value.int .u8 i10]) = [Value.int .u8 i21]∧
 (0≤i19∧i19<3)∧
 ∃s22:Sl,
 ∃b23:Bool,
 ∃s24:Sl,
 As9 [a1_0.v,Value.bool a1_1,a1_2.v,a1_3.v,Value.bool a1_4,a1_5.v,a1_6.v,Value.bool a1_7,a1_8.v] (0+Int.toNat i19*3+0) [s22.v,Value.bool b23,s24.v]∧
 I64 i21∧
 Aa1 Tryz.prog W0 M 96 [Value.agg ⟨[s22.v,Value.bool b23,s24.v]⟩,Value.int .i64 i21] W20 fun v25 W26=>
 ∃s27:Sl,
 ∃b28:Bool,
 ∃s29:Sl,
 v25=Value.agg ⟨[s27.v,Value.bool b28,s29.v]⟩∧
 Aa1 Tryz.prog W0 M 95 [Value.agg ⟨[s16.v,Value.bool b17,s18.v]⟩,Value.agg ⟨[s27.v,Value.bool b28,s29.v]⟩] W26 fun v30 W31=>
 ∃s32:Sl,
 ∃b33:Bool,
 ∃s34:Sl,
 v30=Value.agg ⟨[s32.v,Value.bool b33,s34.v]⟩∧
 I64 (i19+1)∧stp F14 F15 [PL.val (Value.int .i64 (i19+1)),PL.cells [s32.v,Value.bool b33,s34.v]] W31 [PL.val (Value.int .i64 i19),PL.cells [s16.v,Value.bool b17,s18.v]] W20)∧
 (¬i19<3→
 Aa1 Tryz.prog W0 M 21 [Value.agg ⟨[s3.v,Value.bool b4,s5.v]⟩,Value.agg ⟨[s16.v,Value.bool b17,s18.v]⟩] W20 fun v35 W36=>
 ∃s37:Sl,
 ∃b38:Bool,
 ∃s39:Sl,
 v35=Value.agg ⟨[s37.v,Value.bool b38,s39.v]⟩∧
 I64 (i6+1)∧stp F1 F2 [PL.val (Value.int .i64 (i6+1)),PL.cells [s37.v,Value.bool b38,s39.v]] W36 [PL.val (Value.int .i64 i6),PL.cells [s3.v,Value.bool b4,s5.v]] W7))∧
 (¬i6<(a0_0.2:Int)→∀(W40:PW),Ext W7 W40→Post (Value.agg ⟨[s3.v,Value.bool b4,s5.v]⟩) W40)
theorem Gq4 (W0:PW) (M:Nat→Prop) (a0_0:Sl) (a1_0:Sl) (a1_1:Bool) (a1_2:Sl) (a1_3:Sl) (a1_4:Bool) (a1_5:Sl) (a1_6:Sl) (a1_7:Bool) (a1_8:Sl) (Post:Value→PW→Prop) (h:Gw8 W0 M a0_0 a1_0 a1_1 a1_2 a1_3 a1_4 a1_5 a1_6 a1_7 a1_8 Post):Aa0 Tryz.prog 31 [Value.agg #[a0_0.v],Value.agg #[a1_0.v,Value.bool a1_1,a1_2.v,a1_3.v,Value.bool a1_4,a1_5.v,a1_6.v,Value.bool a1_7,a1_8.v]] W0 M Post:=
 Aa3 rfl Aa9 Aa8 Tryz.func31 (cuts:=[]) rfl rfl (Nat.le_of_ble_eq_true rfl) (Eq.mpr (by kernel_rfl) h)
def Ix2 (W0:PW) (M:Nat→Prop) (a0_0:Sl) (a1:Int) (Post:Value→PW→Prop):Prop:=
 ∃(F1:List PL→PW→Prop),
 ∃(F2:List PL→PW→Nat),
 F1 [.val (.int .i64 0),.val (.int .i64 0)] W0∧
 ∀(i3 i4:Int) (W5:PW),
 F1 [.val (.int .i64 i3),.val (.int .i64 i4)] W5→
 (i4<(a0_0.2:Int)→
 inB a0_0 i4∧
 ∃i6:Int,
 ∃i7:Int,
 ∃i8:Int,
 ∃s9:Sl,
 ∃b10:Bool,
 ∃s11:Sl,
 Aa7 W5 a0_0 6 (Int.toNat i4) 0 [.int .u8 i6,.int .u8 i7,.int .u8 i8,s9.v,.bool b10,s11.v]∧
 (0≤a1→
 (a1<3→
 (0≤a1∧a1<3)∧
 ∃i12:Int,
 As9 [.int .u8 i6,.int .u8 i7,.int .u8 i8,s9.v,.bool b10,s11.v] (0+Int.toNat a1*1+0) [.int .u8 i12]∧
 I64 i12∧I64 (i4+1)∧stp F1 F2 [.val (.int .i64 (mx i3 i12)),.val (.int .i64 (i4+1))] W5 [.val (.int .i64 i3),.val (.int .i64 i4)] W5)∧
 (¬a1<3→I64 (i4+1)∧stp F1 F2 [.val (.int .i64 i3),.val (.int .i64 (i4+1))] W5 [.val (.int .i64 i3),.val (.int .i64 i4)] W5))∧
 (¬0≤a1→I64 (i4+1)∧stp F1 F2 [.val (.int .i64 i3),.val (.int .i64 (i4+1))] W5 [.val (.int .i64 i3),.val (.int .i64 i4)] W5))∧
 (¬i4<(a0_0.2:Int)→∀(W13:PW),Ext W5 W13→Post (.int .i64 i3) W13)
theorem Io0 (W0:PW) (M:Nat→Prop) (a0_0:Sl) (a1:Int) (Post:Value→PW→Prop) (h:Ix2 W0 M a0_0 a1 Post):Aa0 Tryz.prog 30 [.agg #[a0_0.v],.int .i64 a1] W0 M Post:=
 Aa3 rfl Aa9 Aa8 Tryz.func30 (cuts:=[]) rfl rfl (Nat.le_of_ble_eq_true rfl) (Eq.mpr (by kernel_rfl) h)
def Dy1 (W0:PW) (M:Nat→Prop) (a0_0:Sl) (Post:Value→PW→Prop):Prop:=
 ∃(F1:List PL→PW→Prop),
 ∃(F2:List PL→PW→Nat),
 F1 [.val (.int .i64 0),.val (.int .i64 0)] W0∧
 ∀(i3 i4:Int) (W5:PW),
 F1 [.val (.int .i64 i3),.val (.int .i64 i4)] W5→
 (i4<(a0_0.2:Int)→
 inB a0_0 i4∧
 ∃i6:Int,
 ∃i7:Int,
 ∃i8:Int,
 ∃s9:Sl,
 ∃b10:Bool,
 ∃s11:Sl,
 Aa7 W5 a0_0 6 (Int.toNat i4) 0 [.int .u8 i6,.int .u8 i7,.int .u8 i8,s9.v,.bool b10,s11.v]∧
 Aa1 Tryz.prog W0 M 61 [.agg ⟨[.int .u8 i6,.int .u8 i7,.int .u8 i8]⟩] W5 fun v12 W13=>
 ∃i14:Int,v12 = .int .i64 i14∧I64 (i4+1)∧stp F1 F2 [.val (.int .i64 (mx i3 i14)),.val (.int .i64 (i4+1))] W13 [.val (.int .i64 i3),.val (.int .i64 i4)] W5)∧
 (¬i4<(a0_0.2:Int)→∀(W15:PW),Ext W5 W15→Post (.int .i64 i3) W15)
theorem Cn0 (W0:PW) (M:Nat→Prop) (a0_0:Sl) (Post:Value→PW→Prop) (h:Dy1 W0 M a0_0 Post):Aa0 Tryz.prog 14 [.agg #[a0_0.v]] W0 M Post:=
 Aa3 rfl Aa9 Aa8 Tryz.func14 (cuts:=[]) rfl rfl (Nat.le_of_ble_eq_true rfl) (Eq.mpr (by kernel_rfl) h)
def Jm3 (W0:PW) (M:Nat→Prop) (a0:Sl) (a1:Int) (Post:Value→PW→Prop):Prop:=
 ∃(F1:List PL→PW→Prop),
 ∃(F2:List PL→PW→Nat),
 F1 [.val (.int .i64 0),.val (.int .i64 0)] W0∧
 ∀(i3 i4:Int) (W5:PW),
 F1 [.val (.int .i64 i3),.val (.int .i64 i4)] W5→
 (i4<(a0.2:Int)→
 (0≤a1→
 (a1<3→
 inB a0 i4∧
 (0≤a1∧a1<3)∧
 ∃i6:Int,
 Aa7 W5 a0 6 (Int.toNat i4) (0+Int.toNat a1*1) [.int .u8 i6]∧
 I64 i6∧I64 (i4+1)∧stp F1 F2 [.val (.int .i64 (mx i3 i6)),.val (.int .i64 (i4+1))] W5 [.val (.int .i64 i3),.val (.int .i64 i4)] W5)∧
 (¬a1<3→∀(W7:PW),Ext W5 W7→Post (.int .i64 i3) W7))∧
 (¬0≤a1→∀(W8:PW),Ext W5 W8→Post (.int .i64 i3) W8))∧
 (¬i4<(a0.2:Int)→∀(W9:PW),Ext W5 W9→Post (.int .i64 i3) W9)
theorem Ji7 (W0:PW) (M:Nat→Prop) (a0:Sl) (a1:Int) (Post:Value→PW→Prop) (h:Jm3 W0 M a0 a1 Post):Aa0 Tryz.prog 16 [a0.v,.int .i64 a1] W0 M Post:=
 Aa3 rfl Aa9 Aa8 Tryz.func16 (cuts:=[]) rfl rfl (Nat.le_of_ble_eq_true rfl) (Eq.mpr (by kernel_rfl) h)
end Go.Proofs.YtokefihiadbkbaaGreatDoor
