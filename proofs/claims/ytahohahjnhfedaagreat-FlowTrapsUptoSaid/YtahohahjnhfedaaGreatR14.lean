/- R14 -/
import Derived.Test.YtahohahjnhfedaaGreatTt
set_option linter.unusedVariables false
set_option linter.unusedSimpArgs false
set_option maxRecDepth 100000
namespace Go.Proofs.YtahohahjnhfedaaGreat
open Go Go.SX
def Dg2 (W0:PW) (M:Nat→Prop) (a0_0:Sl) (a1_0:Sl) (a1_1:Bool) (a1_2:Sl) (a1_3:Sl) (a1_4:Bool) (a1_5:Sl) (a1_6:Sl) (a1_7:Bool) (a1_8:Sl) (a1_9:Sl) (a1_10:Bool) (a1_11:Sl) (a1_12:Sl) (a1_13:Bool) (a1_14:Sl) (a1_15:Sl) (a1_16:Bool) (a1_17:Sl) (Post:Value→PW→Prop):Prop:=
 Aa1 Tryz.prog W0 M 137 [Value.agg ⟨[a0_0.v]⟩] W0 fun v1 W2=>
 ∃s3:Sl,
 v1=s3.v∧
 ∃(F4:List PL→PW→Prop),
 ∃(F5:List PL→PW→Nat),
 F4 [PL.val (Value.int .i64 0),PL.cells [Value.slice none 0 0,Value.bool false,Value.slice none 0 0,Value.slice none 0 0,Value.bool false,Value.slice none 0 0]] W2∧
 ∀(s6:Sl) (b7:Bool) (s8 s9:Sl) (b10:Bool) (s11:Sl) (i12:Int) (W13:PW),
 F4 [PL.val (Value.int .i64 i12),PL.cells [s6.v,Value.bool b7,s8.v,s9.v,Value.bool b10,s11.v]] W13→
 (i12<(s3.2:Int)→
 inB s3 i12∧
 ∃i14:Int,
 ∃i15:Int,
 ∃i16:Int,
 ∃s17:Sl,
 ∃b18:Bool,
 ∃s19:Sl,
 Aa7 W13 s3 6 (Int.toNat i12) 0 [Value.int .u8 i14,Value.int .u8 i15,Value.int .u8 i16,s17.v,Value.bool b18,s19.v]∧
 Aa1 Tryz.prog W0 M 163 [Value.agg ⟨[s17.v,Value.bool b18,s19.v]⟩] W13 fun v20 W21=>
 ∃s22:Sl,
 ∃b23:Bool,
 ∃s24:Sl,
 ∃s25:Sl,
 ∃b26:Bool,
 ∃s27:Sl,
 v20=Value.agg ⟨[s22.v,Value.bool b23,s24.v,s25.v,Value.bool b26,s27.v]⟩∧
 ∃(F28:List PL→PW→Prop),
 ∃(F29:List PL→PW→Nat),
 F28 [PL.val (Value.int .i64 0),PL.cells [s22.v,Value.bool b23,s24.v,s25.v,Value.bool b26,s27.v]] W21∧
 ∀(s30:Sl) (b31:Bool) (s32 s33:Sl) (b34:Bool) (s35:Sl) (i36:Int) (W37:PW),
 F28 [PL.val (Value.int .i64 i36),PL.cells [s30.v,Value.bool b31,s32.v,s33.v,Value.bool b34,s35.v]] W37→
 (i36<3→
 (0≤i36∧i36<3)∧
 ∃i38:Int,
 List.take 1 (List.drop (Int.toNat i36*1) [Value.int .u8 i14,Value.int .u8 i15,Value.int .u8 i16]) = [Value.int .u8 i38]∧
 (0<i38→
 (0≤i36∧i36<3)∧
 ∃s39:Sl,
 ∃b40:Bool,
 ∃s41:Sl,
 ∃s42:Sl,
 ∃b43:Bool,
 ∃s44:Sl,
 As9
 [a1_0.v,Value.bool a1_1,a1_2.v,a1_3.v,Value.bool a1_4,a1_5.v,a1_6.v,Value.bool a1_7,a1_8.v,a1_9.v,Value.bool a1_10,a1_11.v,a1_12.v,Value.bool a1_13,a1_14.v,a1_15.v,
 Value.bool a1_16,a1_17.v]
 (0+Int.toNat i36*6+0) [s39.v,Value.bool b40,s41.v,s42.v,Value.bool b43,s44.v]∧
 I64 i38∧
 Aa1 Tryz.prog W0 M 164 [Value.agg ⟨[s39.v,Value.bool b40,s41.v,s42.v,Value.bool b43,s44.v]⟩,Value.int .i64 i38] W37 fun v45 W46=>
 ∃s47:Sl,
 ∃b48:Bool,
 ∃s49:Sl,
 ∃s50:Sl,
 ∃b51:Bool,
 ∃s52:Sl,
 v45=Value.agg ⟨[s47.v,Value.bool b48,s49.v,s50.v,Value.bool b51,s52.v]⟩∧
 Aa1 Tryz.prog W0 M 55
 [Value.agg ⟨[s30.v,Value.bool b31,s32.v,s33.v,Value.bool b34,s35.v]⟩,Value.agg ⟨[s47.v,Value.bool b48,s49.v,s50.v,Value.bool b51,s52.v]⟩] W46
 fun v53 W54=>
 ∃s55:Sl,
 ∃b56:Bool,
 ∃s57:Sl,
 ∃s58:Sl,
 ∃b59:Bool,
 ∃s60:Sl,
 v53=Value.agg ⟨[s55.v,Value.bool b56,s57.v,s58.v,Value.bool b59,s60.v]⟩∧
 I64 (i36+1)∧
 stp F28 F29 [PL.val (Value.int .i64 (i36+1)),PL.cells [s55.v,Value.bool b56,s57.v,s58.v,Value.bool b59,s60.v]] W54
 [PL.val (Value.int .i64 i36),PL.cells [s30.v,Value.bool b31,s32.v,s33.v,Value.bool b34,s35.v]] W37)∧
 (¬0<i38→
 I64 (i36+1)∧
 stp F28 F29 [PL.val (Value.int .i64 (i36+1)),PL.cells [s30.v,Value.bool b31,s32.v,s33.v,Value.bool b34,s35.v]] W37
 [PL.val (Value.int .i64 i36),PL.cells [s30.v,Value.bool b31,s32.v,s33.v,Value.bool b34,s35.v]] W37))∧
 (¬i36<3→
 Aa1 Tryz.prog W0 M 44 [Value.agg ⟨[s6.v,Value.bool b7,s8.v,s9.v,Value.bool b10,s11.v]⟩,Value.agg ⟨[s30.v,Value.bool b31,s32.v,s33.v,Value.bool b34,s35.v]⟩] W37
 fun v61 W62=>
 ∃s63:Sl,
 ∃b64:Bool,
 ∃s65:Sl,
 ∃s66:Sl,
 ∃b67:Bool,
 ∃s68:Sl,
 v61=Value.agg ⟨[s63.v,Value.bool b64,s65.v,s66.v,Value.bool b67,s68.v]⟩∧
 I64 (i12+1)∧
 stp F4 F5 [PL.val (Value.int .i64 (i12+1)),PL.cells [s63.v,Value.bool b64,s65.v,s66.v,Value.bool b67,s68.v]] W62
 [PL.val (Value.int .i64 i12),PL.cells [s6.v,Value.bool b7,s8.v,s9.v,Value.bool b10,s11.v]] W13))∧
 (¬i12<(s3.2:Int)→∀(W69:PW),Ext W13 W69→Post (Value.agg ⟨[s6.v,Value.bool b7,s8.v,s9.v,Value.bool b10,s11.v]⟩) W69)
theorem Bz6 (W0:PW) (M:Nat→Prop) (a0_0:Sl) (a1_0:Sl) (a1_1:Bool) (a1_2:Sl) (a1_3:Sl) (a1_4:Bool) (a1_5:Sl) (a1_6:Sl) (a1_7:Bool) (a1_8:Sl) (a1_9:Sl) (a1_10:Bool) (a1_11:Sl) (a1_12:Sl) (a1_13:Bool) (a1_14:Sl) (a1_15:Sl) (a1_16:Bool) (a1_17:Sl) (Post:Value→PW→Prop) (h:Dg2 W0 M a0_0 a1_0 a1_1 a1_2 a1_3 a1_4 a1_5 a1_6 a1_7 a1_8 a1_9 a1_10 a1_11 a1_12 a1_13 a1_14 a1_15 a1_16 a1_17 Post):Aa0 Tryz.prog 114 [Value.agg #[a0_0.v],Value.agg #[a1_0.v,Value.bool a1_1,a1_2.v,a1_3.v,Value.bool a1_4,a1_5.v,a1_6.v,Value.bool a1_7,a1_8.v,a1_9.v,Value.bool a1_10,a1_11.v,a1_12.v,Value.bool a1_13,a1_14.v,a1_15.v,Value.bool a1_16,a1_17.v]] W0 M Post:=
 Aa3 rfl Aa9 Aa8 Tryz.func114 (cuts:=[]) rfl rfl (Nat.le_of_ble_eq_true rfl) (Eq.mpr (by kernel_rfl) h)
def Dz7 (W0:PW) (M:Nat→Prop) (a0:Sl) (a1_0:Bool) (a1_1:Sl) (a1_2:Sl) (a1_3:Bool) (a1_4:Sl) (a1_5:Sl) (a1_6:Bool) (a1_7:Sl) (a1_8:Sl) (a1_9:Bool) (a1_10:Sl) (a1_11:Sl) (a1_12:Bool) (a1_13:Sl) (a1_14:Sl) (a1_15:Bool) (a1_16:Sl) (a1_17:Sl) (Post:Value→PW→Prop):Prop:=
 Aa1 Tryz.prog W0 M 35 [.int .i64 0] W0 fun v1 W2=>
 ∃b3:Bool,
 ∃s4:Sl,
 ∃s5:Sl,
 v1 = .agg ⟨[.bool b3,s4.v,s5.v]⟩∧
 Aa1 Tryz.prog W0 M 47 [.agg ⟨[.bool b3,s4.v,s5.v]⟩] W2 fun v6 W7=>
 ∃b8:Bool,
 ∃s9:Sl,
 ∃s10:Sl,
 ∃b11:Bool,
 ∃s12:Sl,
 ∃s13:Sl,
 v6 = .agg ⟨[.bool b8,s9.v,s10.v,.bool b11,s12.v,s13.v]⟩∧
 ∃(F14:List PL→PW→Prop),
 ∃(F15:List PL→PW→Nat),
 F14 [.val (.int .i64 0),.cells [.bool b8,s9.v,s10.v,.bool b11,s12.v,s13.v]] W7∧
 ∀(b16:Bool) (s17 s18:Sl) (b19:Bool) (s20 s21:Sl) (i22:Int) (W23:PW),
 F14 [.val (.int .i64 i22),.cells [.bool b16,s17.v,s18.v,.bool b19,s20.v,s21.v]] W23→
 (i22<(a0.2:Int)→
 inB a0 i22∧
 ∃b24:Bool,
 ∃s25:Sl,
 ∃s26:Sl,
 Aa7 W23 a0 6 (Int.toNat i22) 3 [.bool b24,s25.v,s26.v]∧
 Aa1 Tryz.prog W0 M 47 [.agg ⟨[.bool b24,s25.v,s26.v]⟩] W23 fun v27 W28=>
 ∃b29:Bool,
 ∃s30:Sl,
 ∃s31:Sl,
 ∃b32:Bool,
 ∃s33:Sl,
 ∃s34:Sl,
 v27 = .agg ⟨[.bool b29,s30.v,s31.v,.bool b32,s33.v,s34.v]⟩∧
 ∃(F35:List PL→PW→Prop),
 ∃(F36:List PL→PW→Nat),
 F35 [.val (.int .i64 0),.cells [.bool b29,s30.v,s31.v,.bool b32,s33.v,s34.v]] W28∧
 ∀(b37:Bool) (s38 s39:Sl) (b40:Bool) (s41 s42:Sl) (i43:Int) (W44:PW),
 F35 [.val (.int .i64 i43),.cells [.bool b37,s38.v,s39.v,.bool b40,s41.v,s42.v]] W44→
 (i43<3→
 (0≤i43∧i43<3)∧
 ∃b45:Bool,
 ∃s46:Sl,
 ∃s47:Sl,
 ∃b48:Bool,
 ∃s49:Sl,
 ∃s50:Sl,
 As9
 [.bool a1_0,a1_1.v,a1_2.v,.bool a1_3,a1_4.v,a1_5.v,.bool a1_6,a1_7.v,a1_8.v,.bool a1_9,a1_10.v,a1_11.v,.bool a1_12,a1_13.v,a1_14.v,.bool a1_15,
 a1_16.v,a1_17.v]
 (0+Int.toNat i43*6+0) [.bool b45,s46.v,s47.v,.bool b48,s49.v,s50.v]∧
 inB a0 i22∧
 (0≤i43∧i43<3)∧
 ∃i51:Int,
 Aa7 W44 a0 6 (Int.toNat i22) (0+Int.toNat i43*1) [.int .u8 i51]∧
 I64 i51∧
 Aa1 Tryz.prog W0 M 127 [.agg ⟨[.bool b45,s46.v,s47.v,.bool b48,s49.v,s50.v]⟩,.int .i64 i51] W44 fun v52 W53=>
 ∃b54:Bool,
 ∃s55:Sl,
 ∃s56:Sl,
 ∃b57:Bool,
 ∃s58:Sl,
 ∃s59:Sl,
 v52 = .agg ⟨[.bool b54,s55.v,s56.v,.bool b57,s58.v,s59.v]⟩∧
 Ext W44 W53∧
 Aa1 Tryz.prog W0 M 58
 [.agg ⟨[.bool b37,s38.v,s39.v,.bool b40,s41.v,s42.v]⟩,.agg ⟨[.bool b54,s55.v,s56.v,.bool b57,s58.v,s59.v]⟩] W53
 fun v60 W61=>
 ∃b62:Bool,
 ∃s63:Sl,
 ∃s64:Sl,
 ∃b65:Bool,
 ∃s66:Sl,
 ∃s67:Sl,
 v60 = .agg ⟨[.bool b62,s63.v,s64.v,.bool b65,s66.v,s67.v]⟩∧
 Ext W53 W61∧
 I64 (i43+1)∧
 stp F35 F36 [.val (.int .i64 (i43+1)),.cells [.bool b62,s63.v,s64.v,.bool b65,s66.v,s67.v]] W61
 [.val (.int .i64 i43),.cells [.bool b37,s38.v,s39.v,.bool b40,s41.v,s42.v]] W44)∧
 (¬i43<3→
 Aa1 Tryz.prog W0 M 51 [.agg ⟨[.bool b16,s17.v,s18.v,.bool b19,s20.v,s21.v]⟩,.agg ⟨[.bool b37,s38.v,s39.v,.bool b40,s41.v,s42.v]⟩] W44
 fun v68 W69=>
 ∃b70:Bool,
 ∃s71:Sl,
 ∃s72:Sl,
 ∃b73:Bool,
 ∃s74:Sl,
 ∃s75:Sl,
 v68 = .agg ⟨[.bool b70,s71.v,s72.v,.bool b73,s74.v,s75.v]⟩∧
 I64 (i22+1)∧
 stp F14 F15 [.val (.int .i64 (i22+1)),.cells [.bool b70,s71.v,s72.v,.bool b73,s74.v,s75.v]] W69
 [.val (.int .i64 i22),.cells [.bool b16,s17.v,s18.v,.bool b19,s20.v,s21.v]] W23))∧
 (¬i22<(a0.2:Int)→∀(W76:PW),Ext W23 W76→Post (.agg ⟨[.bool b16,s17.v,s18.v,.bool b19,s20.v,s21.v]⟩) W76)
theorem Cj4 (W0:PW) (M:Nat→Prop) (a0:Sl) (a1_0:Bool) (a1_1:Sl) (a1_2:Sl) (a1_3:Bool) (a1_4:Sl) (a1_5:Sl) (a1_6:Bool) (a1_7:Sl) (a1_8:Sl) (a1_9:Bool) (a1_10:Sl) (a1_11:Sl) (a1_12:Bool) (a1_13:Sl) (a1_14:Sl) (a1_15:Bool) (a1_16:Sl) (a1_17:Sl) (Post:Value→PW→Prop) (h:Dz7 W0 M a0 a1_0 a1_1 a1_2 a1_3 a1_4 a1_5 a1_6 a1_7 a1_8 a1_9 a1_10 a1_11 a1_12 a1_13 a1_14 a1_15 a1_16 a1_17 Post):Aa0 Tryz.prog 53 [a0.v,.agg #[.bool a1_0,a1_1.v,a1_2.v,.bool a1_3,a1_4.v,a1_5.v,.bool a1_6,a1_7.v,a1_8.v,.bool a1_9,a1_10.v,a1_11.v,.bool a1_12,a1_13.v,a1_14.v,.bool a1_15,a1_16.v,a1_17.v]] W0 M Post:=
 Aa3 rfl Aa9 Aa8 Tryz.func53 (cuts:=[]) rfl rfl (Nat.le_of_ble_eq_true rfl) (Eq.mpr (by kernel_rfl) h)
def Dy7 (W0:PW) (M:Nat→Prop) (a0:Sl) (Post:Value→PW→Prop):Prop:=
 ∃(F1:List PL→PW→Prop),
 ∃(F2:List PL→PW→Nat),
 F1 [.val (.int .i64 0)] W0∧
 ∀(i3:Int) (W4:PW),
 F1 [.val (.int .i64 i3)] W4→
 (i3<(a0.2:Int)→
 inB a0 i3∧
 ∃s5:Sl,
 ∃b6:Bool,
 ∃s7:Sl,
 ∃s8:Sl,
 ∃b9:Bool,
 ∃s10:Sl,
 Aa7 W4 a0 6 (Int.toNat i3) 0 [s5.v,.bool b6,s7.v,s8.v,.bool b9,s10.v]∧
 Aa1 Tryz.prog W0 M 129 [.agg ⟨[s5.v,.bool b6,s7.v]⟩,.agg ⟨[s8.v,.bool b9,s10.v]⟩] W4 fun v11 W12=>
 ∃i13:Int,v11 = .int .i64 i13∧(0≤i13→∀(W14:PW),Ext W12 W14→Post (.bool false) W14)∧(¬0≤i13→I64 (i3+1)∧stp F1 F2 [.val (.int .i64 (i3+1))] W12 [.val (.int .i64 i3)] W4))∧
 (¬i3<(a0.2:Int)→(1≤(a0.2:Int)→∀(W15:PW),Ext W4 W15→Post (.bool (decide ((a0.2:Int)≤3))) W15)∧(¬1≤(a0.2:Int)→∀(W16:PW),Ext W4 W16→Post (.bool false) W16))
theorem Ck4 (W0:PW) (M:Nat→Prop) (a0:Sl) (Post:Value→PW→Prop) (h:Dy7 W0 M a0 Post):Aa0 Tryz.prog 61 [a0.v] W0 M Post:=
 Aa3 rfl Aa9 Aa8 Tryz.func61 (cuts:=[]) rfl rfl (Nat.le_of_ble_eq_true rfl) (Eq.mpr (by kernel_rfl) h)
def Hf2 (W0:PW) (M:Nat→Prop) (a0:Sl) (Post:Value→PW→Prop):Prop:=
 ((a0.2:Int)<1→∀(W1:PW),Ext W0 W1→Post (.bool false) W1)∧
 (¬(a0.2:Int)<1→
 (3<(a0.2:Int)→∀(W2:PW),Ext W0 W2→Post (.bool false) W2)∧
 (¬3<(a0.2:Int)→
 ∃(F3:List PL→PW→Prop),
 ∃(F4:List PL→PW→Nat),
 F3 [.val (.int .i64 0)] W0∧
 ∀(i5:Int) (W6:PW),
 F3 [.val (.int .i64 i5)] W6→
 (i5<(a0.2:Int)→
 inB a0 i5∧
 ∃b7:Bool,
 ∃s8:Sl,
 ∃s9:Sl,
 Aa7 W6 a0 6 (Int.toNat i5) 0 [.bool b7,s8.v,s9.v]∧
 inB a0 i5∧
 ∃b10:Bool,
 ∃s11:Sl,
 ∃s12:Sl,
 Aa7 W6 a0 6 (Int.toNat i5) 3 [.bool b10,s11.v,s12.v]∧
 Aa1 Tryz.prog W0 M 130 [.agg ⟨[.bool b7,s8.v,s9.v]⟩,.agg ⟨[.bool b10,s11.v,s12.v]⟩] W6 fun v13 W14=>
 ∃i15:Int,v13 = .int .i64 i15∧(0≤i15→∀(W16:PW),Ext W14 W16→Post (.bool false) W16)∧(¬0≤i15→I64 (i5+1)∧stp F3 F4 [.val (.int .i64 (i5+1))] W14 [.val (.int .i64 i5)] W6))∧
 (¬i5<(a0.2:Int)→∀(W17:PW),Ext W6 W17→Post (.bool true) W17)))
theorem Hd6 (W0:PW) (M:Nat→Prop) (a0:Sl) (Post:Value→PW→Prop) (h:Hf2 W0 M a0 Post):Aa0 Tryz.prog 64 [a0.v] W0 M Post:=
 Aa3 rfl Aa9 Aa8 Tryz.func64 (cuts:=[]) rfl rfl (Nat.le_of_ble_eq_true rfl) (Eq.mpr (by kernel_rfl) h)
def Ho8 (W0:PW) (M:Nat→Prop) (a0:Sl) (Post:Value→PW→Prop):Prop:=
 ∃(F1:List PL→PW→Prop),
 ∃(F2:List PL→PW→Nat),
 F1 [.row [],.row [],.val (.int .i64 0)] W0∧
 ∀(l3 l4:List (List Value)) (i5:Int) (W6:PW),
 F1 [.row l3,.row l4,.val (.int .i64 i5)] W6→
 (i5<(a0.2:Int)→
 (i5<5→
 inB a0 i5∧
 ∃t7:ByteArray,
 ∃t8:ByteArray,
 Aa7 W6 a0 2 (Int.toNat i5) 0 [.string t7,.string t8]∧
 Aa1 Tryz.prog W0 M 39 [.agg ⟨[.string t7,.string t8]⟩] W6 fun v9 W10=>
 ∃s11:Sl,
 ∃b12:Bool,
 ∃s13:Sl,
 ∃s14:Sl,
 ∃b15:Bool,
 ∃s16:Sl,
 ∃b17:Bool,
 ∃s18:Sl,
 ∃s19:Sl,
 ∃b20:Bool,
 ∃s21:Sl,
 ∃s22:Sl,
 ∃b23:Bool,
 v9 = .tuple ⟨[.agg ⟨[s11.v,.bool b12,s13.v,s14.v,.bool b15,s16.v]⟩,.agg ⟨[.bool b17,s18.v,s19.v,.bool b20,s21.v,s22.v]⟩,.bool b23]⟩∧
 (b23=true→
 dup 1
 ((List.length l3+List.length [[s11.v,.bool b12,s13.v,s14.v,.bool b15,s16.v]])*112≤140737488355328∧
 (List.length l4+List.length [[.bool b17,s18.v,s19.v,.bool b20,s21.v,s22.v]])*112≤140737488355328∧
 I64 (i5+1)∧
 stp F1 F2
 [.row (l3 ++ [[s11.v,.bool b12,s13.v,s14.v,.bool b15,s16.v]]),.row (l4 ++ [[.bool b17,s18.v,s19.v,.bool b20,s21.v,s22.v]]),.val (.int .i64 (i5+1))] W10
 [.row l3,.row l4,.val (.int .i64 i5)] W6)∧
 (List.length l3+List.length [[s11.v,.bool b12,s13.v,s14.v,.bool b15,s16.v]])*112≤140737488355328∧
 (List.length l4+List.length [[.bool b17,s18.v,s19.v,.bool b20,s21.v,s22.v]])*112≤140737488355328∧
 I64 (i5+1)∧
 stp F1 F2 [.row (l3 ++ [[s11.v,.bool b12,s13.v,s14.v,.bool b15,s16.v]]),.row (l4 ++ [[.bool b17,s18.v,s19.v,.bool b20,s21.v,s22.v]]),.val (.int .i64 (i5+1))]
 W10 [.row l3,.row l4,.val (.int .i64 i5)] W6)∧
 (b23=false→I64 (i5+1)∧stp F1 F2 [.row l3,.row l4,.val (.int .i64 (i5+1))] W10 [.row l3,.row l4,.val (.int .i64 i5)] W6))∧
 (¬i5<5→∀(s24:Sl) (W25:PW),Ext W6 W25→SX.Own W25 67 6 s24 l3→Fr W0 W6 s24→∀(s26:Sl) (W27:PW),Ext W25 W27→SX.Own W27 74 6 s26 l4→Fr W0 W25 s26→∀(W28:PW),Ext W27 W28→Post (.tuple ⟨[s24.v,s26.v]⟩) W28))∧
 (¬i5<(a0.2:Int)→∀(s29:Sl) (W30:PW),Ext W6 W30→SX.Own W30 67 6 s29 l3→Fr W0 W6 s29→∀(s31:Sl) (W32:PW),Ext W30 W32→SX.Own W32 74 6 s31 l4→Fr W0 W30 s31→∀(W33:PW),Ext W32 W33→Post (.tuple ⟨[s29.v,s31.v]⟩) W33)
theorem Hj7 (W0:PW) (M:Nat→Prop) (a0:Sl) (Post:Value→PW→Prop) (h:Ho8 W0 M a0 Post):Aa0 Tryz.prog 10 [a0.v] W0 M Post:=
 Aa3 rfl Aa9 Aa8 Tryz.func10 (cuts:=[]) rfl rfl (Nat.le_of_ble_eq_true rfl) (Eq.mpr (by kernel_rfl) h)
def Gb7 (W0:PW) (M:Nat→Prop) (a0:Sl) (a1:Int) (Post:Value→PW→Prop):Prop:=
 (a1<(a0.2:Int)→∀(W1:PW),Ext W0 W1→Post (.bool false) W1)∧
 (¬a1<(a0.2:Int)→
 ∃(F2:List PL→PW→Prop),
 ∃(F3:List PL→PW→Nat),
 F2 [.val (.int .i64 0)] W0∧
 ∀(i4:Int) (W5:PW),
 F2 [.val (.int .i64 i4)] W5→
 (i4<(a0.2:Int)→
 inB a0 i4∧
 ∃t6:ByteArray,
 Aa7 W5 a0 2 (Int.toNat i4) 0 [.string t6]∧
 (30<(↑(ByteArray.size t6):Int)→∀(W7:PW),Ext W5 W7→Post (.bool false) W7)∧
 (¬30<(↑(ByteArray.size t6):Int)→
 inB a0 i4∧
 ∃t8:ByteArray,
 Aa7 W5 a0 2 (Int.toNat i4) 1 [.string t8]∧
 (30<(↑(ByteArray.size t8):Int)→∀(W9:PW),Ext W5 W9→Post (.bool false) W9)∧(¬30<(↑(ByteArray.size t8):Int)→I64 (i4+1)∧stp F2 F3 [.val (.int .i64 (i4+1))] W5 [.val (.int .i64 i4)] W5)))∧
 (¬i4<(a0.2:Int)→∀(W10:PW),Ext W5 W10→Post (.bool true) W10))
theorem Fy6 (W0:PW) (M:Nat→Prop) (a0:Sl) (a1:Int) (Post:Value→PW→Prop) (h:Gb7 W0 M a0 a1 Post):Aa0 Tryz.prog 8 [a0.v,.int .i64 a1] W0 M Post:=
 Aa3 rfl Aa9 Aa8 Tryz.func8 (cuts:=[]) rfl rfl (Nat.le_of_ble_eq_true rfl) (Eq.mpr (by kernel_rfl) h)
def Ga4 (W0:PW) (M:Nat→Prop) (a0_0:Sl) (a0_1:Bool) (a0_2:Sl) (a0_3:Sl) (a0_4:Bool) (a0_5:Sl) (a1_0:Sl) (a1_1:Bool) (a1_2:Sl) (a1_3:Sl) (a1_4:Bool) (a1_5:Sl) (Post:Value→PW→Prop):Prop:=
 Aa1 Tryz.prog W0 M 129 [.agg ⟨[a1_0.v,.bool a1_1,a1_2.v]⟩,.agg ⟨[a0_0.v,.bool a0_1,a0_2.v]⟩] W0 fun v1 W2=>
 ∃i3:Int,
 v1 = .int .i64 i3∧
 (i3≤0→
 Aa1 Tryz.prog W0 M 129 [.agg ⟨[a0_3.v,.bool a0_4,a0_5.v]⟩,.agg ⟨[a1_3.v,.bool a1_4,a1_5.v]⟩] W2 fun v4 W5=>
 ∃i6:Int,v4 = .int .i64 i6∧∀(W7:PW),Ext W5 W7→Post (.bool (decide (i6≤0))) W7)∧
 (¬i3≤0→∀(W8:PW),Ext W2 W8→Post (.bool false) W8)
theorem Fy3 (W0:PW) (M:Nat→Prop) (a0_0:Sl) (a0_1:Bool) (a0_2:Sl) (a0_3:Sl) (a0_4:Bool) (a0_5:Sl) (a1_0:Sl) (a1_1:Bool) (a1_2:Sl) (a1_3:Sl) (a1_4:Bool) (a1_5:Sl) (Post:Value→PW→Prop) (h:Ga4 W0 M a0_0 a0_1 a0_2 a0_3 a0_4 a0_5 a1_0 a1_1 a1_2 a1_3 a1_4 a1_5 Post):Aa0 Tryz.prog 56 [.agg #[a0_0.v,.bool a0_1,a0_2.v,a0_3.v,.bool a0_4,a0_5.v],.agg #[a1_0.v,.bool a1_1,a1_2.v,a1_3.v,.bool a1_4,a1_5.v]] W0 M Post:=
 Aa3 rfl Aa9 Aa8 Tryz.func56 (cuts:=[]) rfl rfl (Nat.le_of_ble_eq_true rfl) (Eq.mpr (by kernel_rfl) h)
def Db8 (W0:PW) (M:Nat→Prop) (a0_0:Sl) (a1:Sl) (Post:Value→PW→Prop):Prop:=
 Aa1 Tryz.prog W0 M 61 [a1.v] W0 fun v1 W2=>
 ∃b3:Bool,
 v1 = .bool b3∧
 (b3=true→Aa1 Tryz.prog W0 M 105 [.agg ⟨[a0_0.v]⟩] W2 fun v4 W5=>∃i6:Int,v4 = .int .i64 i6∧∀(W7:PW),Ext W5 W7→Post (.bool (decide (i6≤(a1.2:Int)))) W7)∧
 (b3=false→∀(W8:PW),Ext W2 W8→Post (.bool false) W8)
theorem Bw2 (W0:PW) (M:Nat→Prop) (a0_0:Sl) (a1:Sl) (Post:Value→PW→Prop) (h:Db8 W0 M a0_0 a1 Post):Aa0 Tryz.prog 113 [.agg #[a0_0.v],a1.v] W0 M Post:=
 Aa3 rfl Aa9 Aa8 Tryz.func113 (cuts:=[]) rfl rfl (Nat.le_of_ble_eq_true rfl) (Eq.mpr (by kernel_rfl) h)
def Cr2 (W0:PW) (M:Nat→Prop) (a0:Sl) (Post:Value→PW→Prop):Prop:=
 ∃(l1:List (List Value)),
 Bf9 W0 6 a0 l1∧
 Ai7 [Shp.slice,Shp.bool,Shp.slice,Shp.slice,Shp.bool,Shp.slice,Shp.slice,Shp.bool,Shp.slice,Shp.slice,Shp.bool,Shp.slice,Shp.slice,Shp.bool,Shp.slice,Shp.slice,Shp.bool,Shp.slice]
 (Aj6
 [.slice none 0 0,.bool false,.slice none 0 0,.slice none 0 0,.bool false,.slice none 0 0,.slice none 0 0,.bool false,.slice none 0 0,
 .slice none 0 0,.bool false,.slice none 0 0,.slice none 0 0,.bool false,.slice none 0 0,.slice none 0 0,.bool false,.slice none 0 0]
 0 (List.flatten (List.take 3 l1))) =
 true∧
 ∀(s2:Sl) (b3:Bool) (s4 s5:Sl) (b6:Bool) (s7 s8:Sl) (b9:Bool) (s10 s11:Sl) (b12:Bool) (s13 s14:Sl) (b15:Bool) (s16 s17:Sl) (b18:Bool) (s19:Sl),
 [s2.v,.bool b3,s4.v,s5.v,.bool b6,s7.v,s8.v,.bool b9,s10.v,s11.v,.bool b12,s13.v,s14.v,.bool b15,s16.v,s17.v,.bool b18,s19.v] =
 Aj6
 [.slice none 0 0,.bool false,.slice none 0 0,.slice none 0 0,.bool false,.slice none 0 0,.slice none 0 0,.bool false,.slice none 0 0,
 .slice none 0 0,.bool false,.slice none 0 0,.slice none 0 0,.bool false,.slice none 0 0,.slice none 0 0,.bool false,.slice none 0 0]
 0 (List.flatten (List.take 3 l1))→
 ∀(W20:PW),Ext W0 W20→Post (.agg ⟨[s2.v,.bool b3,s4.v,s5.v,.bool b6,s7.v,s8.v,.bool b9,s10.v,s11.v,.bool b12,s13.v,s14.v,.bool b15,s16.v,s17.v,.bool b18,s19.v]⟩) W20
theorem Bx9 (W0:PW) (M:Nat→Prop) (a0:Sl) (Post:Value→PW→Prop) (h:Cr2 W0 M a0 Post):Aa0 Tryz.prog 115 [a0.v] W0 M Post:=
 Aa3 rfl Aa9 Aa8 Tryz.func115 (cuts:=[]) rfl rfl (Nat.le_of_ble_eq_true rfl) (Eq.mpr (by kernel_rfl) h)
def Cb9 (W0:PW) (M:Nat→Prop) (a0_0:Sl) (a1:Sl) (Post:Value→PW→Prop):Prop:=
 Aa1 Tryz.prog W0 M 113 [.agg ⟨[a0_0.v]⟩,a1.v] W0 fun v1 W2=>
 ∃b3:Bool,
 v1 = .bool b3∧
 ((!b3)=true→
 ∀(W4:PW),Ext W2 W4→Post (.tuple ⟨[.agg ⟨[.slice none 0 0,.bool false,.slice none 0 0,.slice none 0 0,.bool false,.slice none 0 0]⟩,.bool false]⟩) W4)∧
 ((!b3)=false→
 Aa1 Tryz.prog W0 M 115 [a1.v] W2 fun v5 W6=>
 ∃s7:Sl,
 ∃b8:Bool,
 ∃s9:Sl,
 ∃s10:Sl,
 ∃b11:Bool,
 ∃s12:Sl,
 ∃s13:Sl,
 ∃b14:Bool,
 ∃s15:Sl,
 ∃s16:Sl,
 ∃b17:Bool,
 ∃s18:Sl,
 ∃s19:Sl,
 ∃b20:Bool,
 ∃s21:Sl,
 ∃s22:Sl,
 ∃b23:Bool,
 ∃s24:Sl,
 v5 = .agg ⟨[s7.v,.bool b8,s9.v,s10.v,.bool b11,s12.v,s13.v,.bool b14,s15.v,s16.v,.bool b17,s18.v,s19.v,.bool b20,s21.v,s22.v,.bool b23,s24.v]⟩∧
 Aa1 Tryz.prog W0 M 114
 [.agg ⟨[a0_0.v]⟩,
 .agg ⟨[s7.v,.bool b8,s9.v,s10.v,.bool b11,s12.v,s13.v,.bool b14,s15.v,s16.v,.bool b17,s18.v,s19.v,.bool b20,s21.v,s22.v,.bool b23,s24.v]⟩]
 W6 fun v25 W26=>
 ∃s27:Sl,
 ∃b28:Bool,
 ∃s29:Sl,
 ∃s30:Sl,
 ∃b31:Bool,
 ∃s32:Sl,
 v25 = .agg ⟨[s27.v,.bool b28,s29.v,s30.v,.bool b31,s32.v]⟩∧
 ∀(W33:PW),Ext W26 W33→Post (.tuple ⟨[.agg ⟨[s27.v,.bool b28,s29.v,s30.v,.bool b31,s32.v]⟩,.bool true]⟩) W33)
theorem Bh7 (W0:PW) (M:Nat→Prop) (a0_0:Sl) (a1:Sl) (Post:Value→PW→Prop) (h:Cb9 W0 M a0_0 a1 Post):Aa0 Tryz.prog 43 [.agg #[a0_0.v],a1.v] W0 M Post:=
 Aa3 rfl Aa9 Aa8 Tryz.func43 (cuts:=[]) rfl rfl (Nat.le_of_ble_eq_true rfl) (Eq.mpr (by kernel_rfl) h)
end Go.Proofs.YtahohahjnhfedaaGreat
