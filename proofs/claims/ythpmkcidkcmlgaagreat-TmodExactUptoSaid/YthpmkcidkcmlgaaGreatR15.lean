/- R15 -/
import Derived.Test.YthpmkcidkcmlgaaGreatTt
set_option linter.unusedVariables false
set_option linter.unusedSimpArgs false
set_option maxRecDepth 100000
set_option linter.unusedVariables false
namespace Go.Proofs.YthpmkcidkcmlgaaGreat
open Go Go.SX
def Rtmod_Compose (W0:PW) (M:Nat→Prop) (a0_0:Sl) (a0_1:Bool) (a0_2:Sl) (a0_3:Sl) (a0_4:Bool) (a0_5:Sl) (a0_6:Sl) (a0_7:Bool) (a0_8:Sl) (a0_9:Sl) (a0_10:Bool) (a0_11:Sl) (a0_12:Sl) (a0_13:Bool) (a0_14:Sl) (a0_15:Sl) (a0_16:Bool) (a0_17:Sl) (a0_18:Int) (a1_0:Sl) (a2_0:Sl) (a2_1:Sl) (a2_2:Bool) (a2_3:Sl) (a2_4:Sl) (a2_5:Bool) (a2_6:Sl) (a2_7:Sl) (a2_8:Sl) (a2_9:Bool) (a2_10:Sl) (a2_11:Sl) (a2_12:Bool) (a2_13:Sl) (a2_14:Sl) (a2_15:Sl) (a2_16:Bool) (a2_17:Sl) (a2_18:Sl) (a2_19:Bool) (a2_20:Sl) (Post:Value→PW→Prop):Prop:=
 callN Tryz.prog W0 M 85 [Value.agg ⟨[a1_0.v]⟩] W0 fun v1 W2=>
 ∃s3:Sl,
 v1=s3.v∧
 ∃(F4:List PL→PW→Prop),
 ∃(F5:List PL→PW→Nat),
 F4
 [PL.val (Value.int .i64 0),PL.cells [Value.slice none 0 0,Value.slice none 0 0,Value.bool false,Value.slice none 0 0,Value.slice none 0 0,Value.bool false,Value.slice none 0 0],
 PL.cells [Value.slice none 0 0,Value.slice none 0 0,Value.bool false,Value.slice none 0 0,Value.slice none 0 0,Value.bool false,Value.slice none 0 0]]
 W2∧
 ∀(s6 s7:Sl) (b8:Bool) (s9 s10:Sl) (b11:Bool) (s12 s13 s14:Sl) (b15:Bool) (s16 s17:Sl) (b18:Bool) (s19:Sl) (i20:Int) (W21:PW),
 F4 [PL.val (Value.int .i64 i20),PL.cells [s6.v,s7.v,Value.bool b8,s9.v,s10.v,Value.bool b11,s12.v],PL.cells [s13.v,s14.v,Value.bool b15,s16.v,s17.v,Value.bool b18,s19.v]] W21→
 (i20<(s3.2:Int)→
 inB s3 i20∧
 ∃i22:Int,
 ∃i23:Int,
 ∃i24:Int,
 ∃s25:Sl,
 ∃b26:Bool,
 ∃s27:Sl,
 ElemAt W21 s3 6 (Int.toNat i20) 0 [Value.int .u8 i22,Value.int .u8 i23,Value.int .u8 i24,s25.v,Value.bool b26,s27.v]∧
 callN Tryz.prog W0 M 19 [Value.agg ⟨[s25.v,Value.bool b26,s27.v]⟩] W21 fun v28 W29=>
 ∃s30:Sl,
 v28=Value.agg ⟨[s30.v]⟩∧
 callN Tryz.prog W0 M 51
 [Value.agg
 {
 toList:=
 [a0_0.v,Value.bool a0_1,a0_2.v,a0_3.v,Value.bool a0_4,a0_5.v,a0_6.v,Value.bool a0_7,a0_8.v,a0_9.v,Value.bool a0_10,a0_11.v,a0_12.v,Value.bool a0_13,a0_14.v,a0_15.v,Value.bool a0_16,a0_17.v,
 Value.int .i64 a0_18] },
 Value.agg ⟨[s30.v]⟩]
 W29 fun v31 W32=>
 ∃s33:Sl,
 ∃s34:Sl,
 ∃b35:Bool,
 ∃s36:Sl,
 ∃s37:Sl,
 ∃b38:Bool,
 ∃s39:Sl,
 ∃b40:Bool,
 v31=Value.tuple ⟨[Value.agg ⟨[s33.v,s34.v,Value.bool b35,s36.v,s37.v,Value.bool b38,s39.v]⟩,Value.bool b40]⟩∧
 ∃(F41:List PL→PW→Prop),
 ∃(F42:List PL→PW→Nat),
 F41 [PL.val (Value.bool b40),PL.val (Value.int .i64 0),PL.cells [s33.v,s34.v,Value.bool b35,s36.v,s37.v,Value.bool b38,s39.v]] W32∧
 ∀(s43 s44:Sl) (b45:Bool) (s46 s47:Sl) (b48:Bool) (s49:Sl) (b50:Bool) (i51:Int) (W52:PW),
 F41 [PL.val (Value.bool b50),PL.val (Value.int .i64 i51),PL.cells [s43.v,s44.v,Value.bool b45,s46.v,s47.v,Value.bool b48,s49.v]] W52→
 (i51<3→
 (0≤i51∧i51<3)∧
 ∃i53:Int,
 List.take 1 (List.drop (Int.toNat i51*1) [Value.int .u8 i22,Value.int .u8 i23,Value.int .u8 i24]) = [Value.int .u8 i53]∧
 ∃(F54:List PL→PW→Prop),
 ∃(F55:List PL→PW→Nat),
 F54 [PL.val (Value.bool b50),PL.val (Value.int .u8 0),PL.cells [s43.v,s44.v,Value.bool b45,s46.v,s47.v,Value.bool b48,s49.v]] W52∧
 ∀(s56 s57:Sl) (b58:Bool) (s59 s60:Sl) (b61:Bool) (s62:Sl) (b63:Bool) (i64:Int) (W65:PW),
 F54 [PL.val (Value.bool b63),PL.val (Value.int .u8 i64),PL.cells [s56.v,s57.v,Value.bool b58,s59.v,s60.v,Value.bool b61,s62.v]] W65→
 (i64<i53→
 (b63=true→
 (0≤i51∧i51<3)∧
 ∃s66:Sl,
 ∃s67:Sl,
 ∃b68:Bool,
 ∃s69:Sl,
 ∃s70:Sl,
 ∃b71:Bool,
 ∃s72:Sl,
 BoxAt
 [a2_0.v,a2_1.v,Value.bool a2_2,a2_3.v,a2_4.v,Value.bool a2_5,a2_6.v,a2_7.v,a2_8.v,Value.bool a2_9,a2_10.v,a2_11.v,Value.bool a2_12,a2_13.v,a2_14.v,
 a2_15.v,Value.bool a2_16,a2_17.v,a2_18.v,Value.bool a2_19,a2_20.v]
 (0+Int.toNat i51*7+0) [s66.v,s67.v,Value.bool b68,s69.v,s70.v,Value.bool b71,s72.v]∧
 callN Tryz.prog W0 M 53
 [Value.agg
 {
 toList:=
 [a0_0.v,Value.bool a0_1,a0_2.v,a0_3.v,Value.bool a0_4,a0_5.v,a0_6.v,Value.bool a0_7,a0_8.v,a0_9.v,Value.bool a0_10,a0_11.v,a0_12.v,Value.bool a0_13,
 a0_14.v,a0_15.v,Value.bool a0_16,a0_17.v,Value.int .i64 a0_18] },
 Value.agg ⟨[s56.v,s57.v,Value.bool b58,s59.v,s60.v,Value.bool b61,s62.v]⟩,
 Value.agg ⟨[s66.v,s67.v,Value.bool b68,s69.v,s70.v,Value.bool b71,s72.v]⟩]
 W65 fun v73 W74=>
 ∃s75:Sl,
 ∃s76:Sl,
 ∃b77:Bool,
 ∃s78:Sl,
 ∃s79:Sl,
 ∃b80:Bool,
 ∃s81:Sl,
 ∃b82:Bool,
 v73=Value.tuple ⟨[Value.agg ⟨[s75.v,s76.v,Value.bool b77,s78.v,s79.v,Value.bool b80,s81.v]⟩,Value.bool b82]⟩∧
 stp F54 F55
 [PL.val (Value.bool b82),PL.val (Value.int .u8 (IntKind.wrap .u8 (i64+1))),
 PL.cells [s75.v,s76.v,Value.bool b77,s78.v,s79.v,Value.bool b80,s81.v]]
 W74 [PL.val (Value.bool b63),PL.val (Value.int .u8 i64),PL.cells [s56.v,s57.v,Value.bool b58,s59.v,s60.v,Value.bool b61,s62.v]] W65)∧
 (b63=false→
 stp F54 F55 [PL.val (Value.bool b63),PL.val (Value.int .u8 (IntKind.wrap .u8 (i64+1))),PL.cells [s56.v,s57.v,Value.bool b58,s59.v,s60.v,Value.bool b61,s62.v]] W65
 [PL.val (Value.bool b63),PL.val (Value.int .u8 i64),PL.cells [s56.v,s57.v,Value.bool b58,s59.v,s60.v,Value.bool b61,s62.v]] W65))∧
 (¬i64<i53→
 I64 (i51+1)∧
 stp F41 F42 [PL.val (Value.bool b63),PL.val (Value.int .i64 (i51+1)),PL.cells [s56.v,s57.v,Value.bool b58,s59.v,s60.v,Value.bool b61,s62.v]] W65
 [PL.val (Value.bool b50),PL.val (Value.int .i64 i51),PL.cells [s43.v,s44.v,Value.bool b45,s46.v,s47.v,Value.bool b48,s49.v]] W52))∧
 (¬i51<3→
 ((!b50)=true→
 ∀(W83:PW),
 Ext W52 W83→
 Post
 (Value.tuple
 {
 toList:=
 [Value.agg
 {
 toList:=
 [Value.slice none 0 0,Value.slice none 0 0,Value.bool false,Value.slice none 0 0,Value.slice none 0 0,Value.bool false,Value.slice none 0 0] },
 Value.bool false] })
 W83)∧
 ((!b50)=false→
 callN Tryz.prog W0 M 62
 [Value.agg ⟨[s13.v,s14.v,Value.bool b15,s16.v,s17.v,Value.bool b18,s19.v]⟩,Value.agg ⟨[s43.v,s44.v,Value.bool b45,s46.v,s47.v,Value.bool b48,s49.v]⟩] W52
 fun v84 W85=>
 ∃s86:Sl,
 ∃s87:Sl,
 ∃b88:Bool,
 ∃s89:Sl,
 ∃s90:Sl,
 ∃b91:Bool,
 ∃s92:Sl,
 v84=Value.agg ⟨[s86.v,s87.v,Value.bool b88,s89.v,s90.v,Value.bool b91,s92.v]⟩∧
 I64 (i20+1)∧
 stp F4 F5
 [PL.val (Value.int .i64 (i20+1)),PL.cells [s6.v,s7.v,Value.bool b8,s9.v,s10.v,Value.bool b11,s12.v],
 PL.cells [s86.v,s87.v,Value.bool b88,s89.v,s90.v,Value.bool b91,s92.v]]
 W85
 [PL.val (Value.int .i64 i20),PL.cells [s6.v,s7.v,Value.bool b8,s9.v,s10.v,Value.bool b11,s12.v],
 PL.cells [s13.v,s14.v,Value.bool b15,s16.v,s17.v,Value.bool b18,s19.v]]
 W21)))∧
 (¬i20<(s3.2:Int)→
 callN Tryz.prog W0 M 59
 [Value.agg
 {
 toList:=
 [a0_0.v,Value.bool a0_1,a0_2.v,a0_3.v,Value.bool a0_4,a0_5.v,a0_6.v,Value.bool a0_7,a0_8.v,a0_9.v,Value.bool a0_10,a0_11.v,a0_12.v,Value.bool a0_13,a0_14.v,a0_15.v,Value.bool a0_16,a0_17.v,Value.int .i64 a0_18] }]
 W21 fun v93 W94=>∃b95:Bool,v93=Value.bool b95∧∀(W96:PW),Ext W94 W96→Post (Value.tuple ⟨[Value.agg ⟨[s13.v,s14.v,Value.bool b15,s16.v,s17.v,Value.bool b18,s19.v]⟩,Value.bool b95]⟩) W96)
theorem calltmod_Compose (W0:PW) (M:Nat→Prop) (a0_0:Sl) (a0_1:Bool) (a0_2:Sl) (a0_3:Sl) (a0_4:Bool) (a0_5:Sl) (a0_6:Sl) (a0_7:Bool) (a0_8:Sl) (a0_9:Sl) (a0_10:Bool) (a0_11:Sl) (a0_12:Sl) (a0_13:Bool) (a0_14:Sl) (a0_15:Sl) (a0_16:Bool) (a0_17:Sl) (a0_18:Int) (a1_0:Sl) (a2_0:Sl) (a2_1:Sl) (a2_2:Bool) (a2_3:Sl) (a2_4:Sl) (a2_5:Bool) (a2_6:Sl) (a2_7:Sl) (a2_8:Sl) (a2_9:Bool) (a2_10:Sl) (a2_11:Sl) (a2_12:Bool) (a2_13:Sl) (a2_14:Sl) (a2_15:Sl) (a2_16:Bool) (a2_17:Sl) (a2_18:Sl) (a2_19:Bool) (a2_20:Sl) (Post:Value→PW→Prop) (h:Rtmod_Compose W0 M a0_0 a0_1 a0_2 a0_3 a0_4 a0_5 a0_6 a0_7 a0_8 a0_9 a0_10 a0_11 a0_12 a0_13 a0_14 a0_15 a0_16 a0_17 a0_18 a1_0 a2_0 a2_1 a2_2 a2_3 a2_4 a2_5 a2_6 a2_7 a2_8 a2_9 a2_10 a2_11 a2_12 a2_13 a2_14 a2_15 a2_16 a2_17 a2_18 a2_19 a2_20 Post):PCallsM Tryz.prog 68 [Value.agg #[a0_0.v,Value.bool a0_1,a0_2.v,a0_3.v,Value.bool a0_4,a0_5.v,a0_6.v,Value.bool a0_7,a0_8.v,a0_9.v,Value.bool a0_10,a0_11.v,a0_12.v,Value.bool a0_13,a0_14.v,a0_15.v,Value.bool a0_16,a0_17.v,Value.int .i64 a0_18],Value.agg #[a1_0.v],Value.agg #[a2_0.v,a2_1.v,Value.bool a2_2,a2_3.v,a2_4.v,Value.bool a2_5,a2_6.v,a2_7.v,a2_8.v,Value.bool a2_9,a2_10.v,a2_11.v,Value.bool a2_12,a2_13.v,a2_14.v,a2_15.v,Value.bool a2_16,a2_17.v,a2_18.v,Value.bool a2_19,a2_20.v]] W0 M Post:=
 fn_sound rfl tt_ok tt_in Tryz.func68 (cuts:=[]) rfl rfl (Nat.le_of_ble_eq_true rfl) (Eq.mpr (by kernel_rfl) h)
end Go.Proofs.YthpmkcidkcmlgaaGreat
