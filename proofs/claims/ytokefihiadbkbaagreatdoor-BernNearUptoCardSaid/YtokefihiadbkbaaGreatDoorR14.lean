/- R14 -/
import Derived.Test.YtokefihiadbkbaaGreatDoorTt
set_option linter.unusedVariables false
set_option linter.unusedSimpArgs false
set_option maxRecDepth 100000
namespace Go.Proofs.YtokefihiadbkbaaGreatDoor
open Go Go.SX
def Dg2 (W0:PW) (M:Nat→Prop) (a0_0:Sl) (a1_0:Sl) (a1_1:Bool) (a1_2:Sl) (a1_3:Sl) (a1_4:Bool) (a1_5:Sl) (a1_6:Sl) (a1_7:Bool) (a1_8:Sl) (a1_9:Sl) (a1_10:Bool) (a1_11:Sl) (a1_12:Sl) (a1_13:Bool) (a1_14:Sl) (a1_15:Sl) (a1_16:Bool) (a1_17:Sl) (Post:Value→PW→Prop):Prop:=
 Aa1 Tryz.prog W0 M 66 [Value.agg ⟨[a0_0.v]⟩] W0 fun v1 W2=>
 ∃s3:Sl,
 v1=s3.v∧
 ∃(F4:List PL→PW→Prop),
 ∃(F5:List PL→PW→Nat),
 F4 [PL.val (Value.int .i64 0),PL.cells [Value.slice none 0 0,Value.bool false,Value.slice none 0 0,Value.slice none 0 0,Value.bool false,Value.slice none 0 0]] W2∧
 ∀(s6:Sl) (b7:Bool) (s8 s9:Sl) (b10:Bool) (s11:Sl) (i12:Int) (W13:PW),
 F4 [PL.val (Value.int .i64 i12),PL.cells [s6.v,Value.bool b7,s8.v,s9.v,Value.bool b10,s11.v]] W13→
 (i12<(s3.2:Int)→
 inB s3 i12∧
 ∃i14:Int,
 ∃i15:Int,
 ∃i16:Int,
 ∃s17:Sl,
 ∃b18:Bool,
 ∃s19:Sl,
 Aa7 W13 s3 6 (Int.toNat i12) 0 [Value.int .u8 i14,Value.int .u8 i15,Value.int .u8 i16,s17.v,Value.bool b18,s19.v]∧
 Aa1 Tryz.prog W0 M 92 [Value.agg ⟨[s17.v,Value.bool b18,s19.v]⟩] W13 fun v20 W21=>
 ∃s22:Sl,
 ∃b23:Bool,
 ∃s24:Sl,
 ∃s25:Sl,
 ∃b26:Bool,
 ∃s27:Sl,
 v20=Value.agg ⟨[s22.v,Value.bool b23,s24.v,s25.v,Value.bool b26,s27.v]⟩∧
 ∃(F28:List PL→PW→Prop),
 ∃(F29:List PL→PW→Nat),
 F28 [PL.val (Value.int .i64 0),PL.cells [s22.v,Value.bool b23,s24.v,s25.v,Value.bool b26,s27.v]] W21∧
 ∀(s30:Sl) (b31:Bool) (s32 s33:Sl) (b34:Bool) (s35:Sl) (i36:Int) (W37:PW),
 F28 [PL.val (Value.int .i64 i36),PL.cells [s30.v,Value.bool b31,s32.v,s33.v,Value.bool b34,s35.v]] W37→
 (i36<3→
 (0≤i36∧i36<3)∧
 ∃i38:Int,
 List.take 1 (List.drop (Int.toNat i36*1) [Value.int .u8 i14,Value.int .u8 i15,Value.int .u8 i16]) = [Value.int .u8 i38]∧
 (0<i38→
 (0≤i36∧i36<3)∧
 ∃s39:Sl,
 ∃b40:Bool,
 ∃s41:Sl,
 ∃s42:Sl,
 ∃b43:Bool,
 ∃s44:Sl,
 As9
 [a1_0.v,Value.bool a1_1,a1_2.v,a1_3.v,Value.bool a1_4,a1_5.v,a1_6.v,Value.bool a1_7,a1_8.v,a1_9.v,Value.bool a1_10,a1_11.v,a1_12.v,Value.bool a1_13,a1_14.v,a1_15.v,
 Value.bool a1_16,a1_17.v]
 (0+Int.toNat i36*6+0) [s39.v,Value.bool b40,s41.v,s42.v,Value.bool b43,s44.v]∧
 I64 i38∧
 Aa1 Tryz.prog W0 M 173 [Value.agg ⟨[s39.v,Value.bool b40,s41.v,s42.v,Value.bool b43,s44.v]⟩,Value.int .i64 i38] W37 fun v45 W46=>
 ∃s47:Sl,
 ∃b48:Bool,
 ∃s49:Sl,
 ∃s50:Sl,
 ∃b51:Bool,
 ∃s52:Sl,
 v45=Value.agg ⟨[s47.v,Value.bool b48,s49.v,s50.v,Value.bool b51,s52.v]⟩∧
 Aa1 Tryz.prog W0 M 172
 [Value.agg ⟨[s30.v,Value.bool b31,s32.v,s33.v,Value.bool b34,s35.v]⟩,Value.agg ⟨[s47.v,Value.bool b48,s49.v,s50.v,Value.bool b51,s52.v]⟩] W46
 fun v53 W54=>
 ∃s55:Sl,
 ∃b56:Bool,
 ∃s57:Sl,
 ∃s58:Sl,
 ∃b59:Bool,
 ∃s60:Sl,
 v53=Value.agg ⟨[s55.v,Value.bool b56,s57.v,s58.v,Value.bool b59,s60.v]⟩∧
 I64 (i36+1)∧
 stp F28 F29 [PL.val (Value.int .i64 (i36+1)),PL.cells [s55.v,Value.bool b56,s57.v,s58.v,Value.bool b59,s60.v]] W54
 [PL.val (Value.int .i64 i36),PL.cells [s30.v,Value.bool b31,s32.v,s33.v,Value.bool b34,s35.v]] W37)∧
 (¬0<i38→
 I64 (i36+1)∧
 stp F28 F29 [PL.val (Value.int .i64 (i36+1)),PL.cells [s30.v,Value.bool b31,s32.v,s33.v,Value.bool b34,s35.v]] W37
 [PL.val (Value.int .i64 i36),PL.cells [s30.v,Value.bool b31,s32.v,s33.v,Value.bool b34,s35.v]] W37))∧
 (¬i36<3→
 Aa1 Tryz.prog W0 M 174 [Value.agg ⟨[s6.v,Value.bool b7,s8.v,s9.v,Value.bool b10,s11.v]⟩,Value.agg ⟨[s30.v,Value.bool b31,s32.v,s33.v,Value.bool b34,s35.v]⟩] W37
 fun v61 W62=>
 ∃s63:Sl,
 ∃b64:Bool,
 ∃s65:Sl,
 ∃s66:Sl,
 ∃b67:Bool,
 ∃s68:Sl,
 v61=Value.agg ⟨[s63.v,Value.bool b64,s65.v,s66.v,Value.bool b67,s68.v]⟩∧
 I64 (i12+1)∧
 stp F4 F5 [PL.val (Value.int .i64 (i12+1)),PL.cells [s63.v,Value.bool b64,s65.v,s66.v,Value.bool b67,s68.v]] W62
 [PL.val (Value.int .i64 i12),PL.cells [s6.v,Value.bool b7,s8.v,s9.v,Value.bool b10,s11.v]] W13))∧
 (¬i12<(s3.2:Int)→∀(W69:PW),Ext W13 W69→Post (Value.agg ⟨[s6.v,Value.bool b7,s8.v,s9.v,Value.bool b10,s11.v]⟩) W69)
theorem Bz6 (W0:PW) (M:Nat→Prop) (a0_0:Sl) (a1_0:Sl) (a1_1:Bool) (a1_2:Sl) (a1_3:Sl) (a1_4:Bool) (a1_5:Sl) (a1_6:Sl) (a1_7:Bool) (a1_8:Sl) (a1_9:Sl) (a1_10:Bool) (a1_11:Sl) (a1_12:Sl) (a1_13:Bool) (a1_14:Sl) (a1_15:Sl) (a1_16:Bool) (a1_17:Sl) (Post:Value→PW→Prop) (h:Dg2 W0 M a0_0 a1_0 a1_1 a1_2 a1_3 a1_4 a1_5 a1_6 a1_7 a1_8 a1_9 a1_10 a1_11 a1_12 a1_13 a1_14 a1_15 a1_16 a1_17 Post):Aa0 Tryz.prog 111 [Value.agg #[a0_0.v],Value.agg #[a1_0.v,Value.bool a1_1,a1_2.v,a1_3.v,Value.bool a1_4,a1_5.v,a1_6.v,Value.bool a1_7,a1_8.v,a1_9.v,Value.bool a1_10,a1_11.v,a1_12.v,Value.bool a1_13,a1_14.v,a1_15.v,Value.bool a1_16,a1_17.v]] W0 M Post:=
 Aa3 rfl Aa9 Aa8 Tryz.func111 (cuts:=[]) rfl rfl (Nat.le_of_ble_eq_true rfl) (Eq.mpr (by kernel_rfl) h)
def Dy7 (W0:PW) (M:Nat→Prop) (a0:Sl) (Post:Value→PW→Prop):Prop:=
 ∃(F1:List PL→PW→Prop),
 ∃(F2:List PL→PW→Nat),
 F1 [.val (.int .i64 0)] W0∧
 ∀(i3:Int) (W4:PW),
 F1 [.val (.int .i64 i3)] W4→
 (i3<(a0.2:Int)→
 inB a0 i3∧
 ∃s5:Sl,
 ∃b6:Bool,
 ∃s7:Sl,
 ∃s8:Sl,
 ∃b9:Bool,
 ∃s10:Sl,
 Aa7 W4 a0 6 (Int.toNat i3) 0 [s5.v,.bool b6,s7.v,s8.v,.bool b9,s10.v]∧
 Aa1 Tryz.prog W0 M 20 [.agg ⟨[s5.v,.bool b6,s7.v]⟩,.agg ⟨[s8.v,.bool b9,s10.v]⟩] W4 fun v11 W12=>
 ∃i13:Int,v11 = .int .i64 i13∧(0≤i13→∀(W14:PW),Ext W12 W14→Post (.bool false) W14)∧(¬0≤i13→I64 (i3+1)∧stp F1 F2 [.val (.int .i64 (i3+1))] W12 [.val (.int .i64 i3)] W4))∧
 (¬i3<(a0.2:Int)→(1≤(a0.2:Int)→∀(W15:PW),Ext W4 W15→Post (.bool (decide ((a0.2:Int)≤3))) W15)∧(¬1≤(a0.2:Int)→∀(W16:PW),Ext W4 W16→Post (.bool false) W16))
theorem Ck4 (W0:PW) (M:Nat→Prop) (a0:Sl) (Post:Value→PW→Prop) (h:Dy7 W0 M a0 Post):Aa0 Tryz.prog 108 [a0.v] W0 M Post:=
 Aa3 rfl Aa9 Aa8 Tryz.func108 (cuts:=[]) rfl rfl (Nat.le_of_ble_eq_true rfl) (Eq.mpr (by kernel_rfl) h)
end Go.Proofs.YtokefihiadbkbaaGreatDoor
