/- R15 -/
import Derived.Test.YthpmkcidkcmlgaaGreatTt
set_option linter.unusedVariables false
set_option linter.unusedSimpArgs false
set_option maxRecDepth 100000
set_option linter.unusedVariables false
namespace Go.Proofs.YthpmkcidkcmlgaaGreat
open Go Go.SX
def Rtmod_Compose (W0:PW) (M:Nat→Prop) (a0_0:Sl) (a0_1:Bool) (a0_2:Sl) (a0_3:Sl) (a0_4:Bool) (a0_5:Sl) (a0_6:Sl) (a0_7:Bool) (a0_8:Sl) (a0_9:Sl) (a0_10:Bool) (a0_11:Sl) (a0_12:Sl) (a0_13:Bool) (a0_14:Sl) (a0_15:Sl) (a0_16:Bool) (a0_17:Sl) (a0_18:Int) (a1_0:Sl) (a2_0:Sl) (a2_1:Sl) (a2_2:Bool) (a2_3:Sl) (a2_4:Sl) (a2_5:Bool) (a2_6:Sl) (a2_7:Sl) (a2_8:Sl) (a2_9:Bool) (a2_10:Sl) (a2_11:Sl) (a2_12:Bool) (a2_13:Sl) (a2_14:Sl) (a2_15:Sl) (a2_16:Bool) (a2_17:Sl) (a2_18:Sl) (a2_19:Bool) (a2_20:Sl) (Post:Value→PW→Prop):Prop:=
 callN Tryz.prog W0 M 85 [Value.agg ⟨[a1_0.v]⟩] W0 fun v1 W2=>
 ∃s3:Sl,
 v1=s3.v∧
 ∃(F4:List PL→PW→Prop),
 ∃(F5:List PL→PW→Nat),
 F4
 [PL.val (Value.int .i64 0),PL.cells [Value.slice none 0 0,Value.slice none 0 0,Value.bool false,Value.slice none 0 0,Value.slice none 0 0,Value.bool false,Value.slice none 0 0],
 PL.cells [Value.slice none 0 0,Value.slice none 0 0,Value.bool false,Value.slice none 0 0,Value.slice none 0 0,Value.bool false,Value.slice none 0 0]]
 W2∧
 ∀(s6 s7:Sl) (b8:Bool) (s9 s10:Sl) (b11:Bool) (s12 s13 s14:Sl) (b15:Bool) (s16 s17:Sl) (b18:Bool) (s19:Sl) (i20:Int) (W21:PW),
 F4 [PL.val (Value.int .i64 i20),PL.cells [s6.v,s7.v,Value.bool b8,s9.v,s10.v,Value.bool b11,s12.v],PL.cells [s13.v,s14.v,Value.bool b15,s16.v,s17.v,Value.bool b18,s19.v]] W21→
 (i20<(s3.2:Int)→
 inB s3 i20∧
 ∃i22:Int,
 ∃i23:Int,
 ∃i24:Int,
 ∃s25:Sl,
 ∃b26:Bool,
 ∃s27:Sl,
 ElemAt W21 s3 6 (Int.toNat i20) 0 [Value.int .u8 i22,Value.int .u8 i23,Value.int .u8 i24,s25.v,Value.bool b26,s27.v]∧
 callN Tryz.prog W0 M 19 [Value.agg ⟨[s25.v,Value.bool b26,s27.v]⟩] W21 fun v28 W29=>
 ∃s30:Sl,
 v28=Value.agg ⟨[s30.v]⟩∧
 callN Tryz.prog W0 M 51
 [Value.agg
 {
 toList:=
 [a0_0.v,Value.bool a0_1,a0_2.v,a0_3.v,Value.bool a0_4,a0_5.v,a0_6.v,Value.bool a0_7,a0_8.v,a0_9.v,Value.bool a0_10,a0_11.v,a0_12.v,Value.bool a0_13,a0_14.v,a0_15.v,Value.bool a0_16,a0_17.v,
 Value.int .i64 a0_18] },
 Value.agg ⟨[s30.v]⟩]
 W29 fun v31 W32=>
 ∃s33:Sl,
 ∃s34:Sl,
 ∃b35:Bool,
 ∃s36:Sl,
 ∃s37:Sl,
 ∃b38:Bool,
 ∃s39:Sl,
 ∃b40:Bool,
 v31=Value.tuple ⟨[Value.agg ⟨[s33.v,s34.v,Value.bool b35,s36.v,s37.v,Value.bool b38,s39.v]⟩,Value.bool b40]⟩∧
 ∃(F41:List PL→PW→Prop),
 ∃(F42:List PL→PW→Nat),
 F41 [PL.val (Value.bool b40),PL.val (Value.int .i64 0),PL.cells [s33.v,s34.v,Value.bool b35,s36.v,s37.v,Value.bool b38,s39.v]] W32∧
 ∀(s43 s44:Sl) (b45:Bool) (s46 s47:Sl) (b48:Bool) (s49:Sl) (b50:Bool) (i51:Int) (W52:PW),
 F41 [PL.val (Value.bool b50),PL.val (Value.int .i64 i51),PL.cells [s43.v,s44.v,Value.bool b45,s46.v,s47.v,Value.bool b48,s49.v]] W52→
 (i51<3→
 (0≤i51∧i51<3)∧
 ∃i53:Int,
 List.take 1 (List.drop (Int.toNat i51*1) [Value.int .u8 i22,Value.int .u8 i23,Value.int .u8 i24]) = [Value.int .u8 i53]∧
 ∃(F54:List PL→PW→Prop),
 ∃(F55:List PL→PW→Nat),
 F54 [PL.val (Value.bool b50),PL.val (Value.int .u8 0),PL.cells [s43.v,s44.v,Value.bool b45,s46.v,s47.v,Value.bool b48,s49.v]] W52∧
 ∀(s56 s57:Sl) (b58:Bool) (s59 s60:Sl) (b61:Bool) (s62:Sl) (b63:Bool) (i64:Int) (W65:PW),
 F54 [PL.val (Value.bool b63),PL.val (Value.int .u8 i64),PL.cells [s56.v,s57.v,Value.bool b58,s59.v,s60.v,Value.bool b61,s62.v]] W65→
 (i64<i53→
 (b63=true→
 (0≤i51∧i51<3)∧
 ∃s66:Sl,
 ∃s67:Sl,
 ∃b68:Bool,
 ∃s69:Sl,
 ∃s70:Sl,
 ∃b71:Bool,
 ∃s72:Sl,
 BoxAt
 [a2_0.v,a2_1.v,Value.bool a2_2,a2_3.v,a2_4.v,Value.bool a2_5,a2_6.v,a2_7.v,a2_8.v,Value.bool a2_9,a2_10.v,a2_11.v,Value.bool a2_12,a2_13.v,a2_14.v,
 a2_15.v,Value.bool a2_16,a2_17.v,a2_18.v,Value.bool a2_19,a2_20.v]
 (0+Int.toNat i51*7+0) [s66.v,s67.v,Value.bool b68,s69.v,s70.v,Value.bool b71,s72.v]∧
 callN Tryz.prog W0 M 53
 [Value.agg
 {
 toList:=
 [a0_0.v,Value.bool a0_1,a0_2.v,a0_3.v,Value.bool a0_4,a0_5.v,a0_6.v,Value.bool a0_7,a0_8.v,a0_9.v,Value.bool a0_10,a0_11.v,a0_12.v,Value.bool a0_13,
 a0_14.v,a0_15.v,Value.bool a0_16,a0_17.v,Value.int .i64 a0_18] },
 Value.agg ⟨[s56.v,s57.v,Value.bool b58,s59.v,s60.v,Value.bool b61,s62.v]⟩,
 Value.agg ⟨[s66.v,s67.v,Value.bool b68,s69.v,s70.v,Value.bool b71,s72.v]⟩]
 W65 fun v73 W74=>
 ∃s75:Sl,
 ∃s76:Sl,
 ∃b77:Bool,
 ∃s78:Sl,
 ∃s79:Sl,
 ∃b80:Bool,
 ∃s81:Sl,
 ∃b82:Bool,
 v73=Value.tuple ⟨[Value.agg ⟨[s75.v,s76.v,Value.bool b77,s78.v,s79.v,Value.bool b80,s81.v]⟩,Value.bool b82]⟩∧
 stp F54 F55
 [PL.val (Value.bool b82),PL.val (Value.int .u8 (IntKind.wrap .u8 (i64+1))),
 PL.cells [s75.v,s76.v,Value.bool b77,s78.v,s79.v,Value.bool b80,s81.v]]
 W74 [PL.val (Value.bool b63),PL.val (Value.int .u8 i64),PL.cells [s56.v,s57.v,Value.bool b58,s59.v,s60.v,Value.bool b61,s62.v]] W65)∧
 (b63=false→
 stp F54 F55 [PL.val (Value.bool b63),PL.val (Value.int .u8 (IntKind.wrap .u8 (i64+1))),PL.cells [s56.v,s57.v,Value.bool b58,s59.v,s60.v,Value.bool b61,s62.v]] W65
 [PL.val (Value.bool b63),PL.val (Value.int .u8 i64),PL.cells [s56.v,s57.v,Value.bool b58,s59.v,s60.v,Value.bool b61,s62.v]] W65))∧
 (¬i64<i53→
 I64 (i51+1)∧
 stp F41 F42 [PL.val (Value.bool b63),PL.val (Value.int .i64 (i51+1)),PL.cells [s56.v,s57.v,Value.bool b58,s59.v,s60.v,Value.bool b61,s62.v]] W65
 [PL.val (Value.bool b50),PL.val (Value.int .i64 i51),PL.cells [s43.v,s44.v,Value.bool b45,s46.v,s47.v,Value.bool b48,s49.v]] W52))∧
 (¬i51<3→
 ((!b50)=true→
 ∀(W83:PW),
 Ext W52 W83→
 Post
 (Value.tuple
 {
 toList:=
 [Value.agg
 {
 toList:=
 [Value.slice none 0 0,Value.slice none 0 0,Value.bool false,Value.slice none 0 0,Value.slice none 0 0,Value.bool false,Value.slice none 0 0] },
 Value.bool false] })
 W83)∧
 ((!b50)=false→
 callN Tryz.prog W0 M 62
 [Value.agg ⟨[s13.v,s14.v,Value.bool b15,s16.v,s17.v,Value.bool b18,s19.v]⟩,Value.agg ⟨[s43.v,s44.v,Value.bool b45,s46.v,s47.v,Value.bool b48,s49.v]⟩] W52
 fun v84 W85=>
 ∃s86:Sl,
 ∃s87:Sl,
 ∃b88:Bool,
 ∃s89:Sl,
 ∃s90:Sl,
 ∃b91:Bool,
 ∃s92:Sl,
 v84=Value.agg ⟨[s86.v,s87.v,Value.bool b88,s89.v,s90.v,Value.bool b91,s92.v]⟩∧
 I64 (i20+1)∧
 stp F4 F5
 [PL.val (Value.int .i64 (i20+1)),PL.cells [s6.v,s7.v,Value.bool b8,s9.v,s10.v,Value.bool b11,s12.v],
 PL.cells [s86.v,s87.v,Value.bool b88,s89.v,s90.v,Value.bool b91,s92.v]]
 W85
 [PL.val (Value.int .i64 i20),PL.cells [s6.v,s7.v,Value.bool b8,s9.v,s10.v,Value.bool b11,s12.v],
 PL.cells [s13.v,s14.v,Value.bool b15,s16.v,s17.v,Value.bool b18,s19.v]]
 W21)))∧
 (¬i20<(s3.2:Int)→
 callN Tryz.prog W0 M 59
 [Value.agg
 {
 toList:=
 [a0_0.v,Value.bool a0_1,a0_2.v,a0_3.v,Value.bool a0_4,a0_5.v,a0_6.v,Value.bool a0_7,a0_8.v,a0_9.v,Value.bool a0_10,a0_11.v,a0_12.v,Value.bool a0_13,a0_14.v,a0_15.v,Value.bool a0_16,a0_17.v,Value.int .i64 a0_18] }]
 W21 fun v93 W94=>∃b95:Bool,v93=Value.bool b95∧∀(W96:PW),Ext W94 W96→Post (Value.tuple ⟨[Value.agg ⟨[s13.v,s14.v,Value.bool b15,s16.v,s17.v,Value.bool b18,s19.v]⟩,Value.bool b95]⟩) W96)
theorem calltmod_Compose (W0:PW) (M:Nat→Prop) (a0_0:Sl) (a0_1:Bool) (a0_2:Sl) (a0_3:Sl) (a0_4:Bool) (a0_5:Sl) (a0_6:Sl) (a0_7:Bool) (a0_8:Sl) (a0_9:Sl) (a0_10:Bool) (a0_11:Sl) (a0_12:Sl) (a0_13:Bool) (a0_14:Sl) (a0_15:Sl) (a0_16:Bool) (a0_17:Sl) (a0_18:Int) (a1_0:Sl) (a2_0:Sl) (a2_1:Sl) (a2_2:Bool) (a2_3:Sl) (a2_4:Sl) (a2_5:Bool) (a2_6:Sl) (a2_7:Sl) (a2_8:Sl) (a2_9:Bool) (a2_10:Sl) (a2_11:Sl) (a2_12:Bool) (a2_13:Sl) (a2_14:Sl) (a2_15:Sl) (a2_16:Bool) (a2_17:Sl) (a2_18:Sl) (a2_19:Bool) (a2_20:Sl) (Post:Value→PW→Prop) (h:Rtmod_Compose W0 M a0_0 a0_1 a0_2 a0_3 a0_4 a0_5 a0_6 a0_7 a0_8 a0_9 a0_10 a0_11 a0_12 a0_13 a0_14 a0_15 a0_16 a0_17 a0_18 a1_0 a2_0 a2_1 a2_2 a2_3 a2_4 a2_5 a2_6 a2_7 a2_8 a2_9 a2_10 a2_11 a2_12 a2_13 a2_14 a2_15 a2_16 a2_17 a2_18 a2_19 a2_20 Post):PCallsM Tryz.prog 68 [Value.agg #[a0_0.v,Value.bool a0_1,a0_2.v,a0_3.v,Value.bool a0_4,a0_5.v,a0_6.v,Value.bool a0_7,a0_8.v,a0_9.v,Value.bool a0_10,a0_11.v,a0_12.v,Value.bool a0_13,a0_14.v,a0_15.v,Value.bool a0_16,a0_17.v,Value.int .i64 a0_18],Value.agg #[a1_0.v],Value.agg #[a2_0.v,a2_1.v,Value.bool a2_2,a2_3.v,a2_4.v,Value.bool a2_5,a2_6.v,a2_7.v,a2_8.v,Value.bool a2_9,a2_10.v,a2_11.v,Value.bool a2_12,a2_13.v,a2_14.v,a2_15.v,Value.bool a2_16,a2_17.v,a2_18.v,Value.bool a2_19,a2_20.v]] W0 M Post:=
 fn_sound rfl tt_ok tt_in Tryz.func68 (cuts:=[]) rfl rfl (Nat.le_of_ble_eq_true rfl) (Eq.mpr (by kernel_rfl) h)
def Rref1_ModelCompose (W0:PW) (M:Nat→Prop) (a0_0:Bool) (a0_1:Sl) (a0_2:Sl) (a0_3:Bool) (a0_4:Sl) (a0_5:Sl) (a0_6:Bool) (a0_7:Sl) (a0_8:Sl) (a0_9:Bool) (a0_10:Sl) (a0_11:Sl) (a0_12:Bool) (a0_13:Sl) (a0_14:Sl) (a0_15:Bool) (a0_16:Sl) (a0_17:Sl) (a0_18:Int) (a1:Sl) (a2_0:Sl) (a2_1:Bool) (a2_2:Sl) (a2_3:Sl) (a2_4:Bool) (a2_5:Sl) (a2_6:Sl) (a2_7:Sl) (a2_8:Bool) (a2_9:Sl) (a2_10:Sl) (a2_11:Bool) (a2_12:Sl) (a2_13:Sl) (a2_14:Sl) (a2_15:Bool) (a2_16:Sl) (a2_17:Sl) (a2_18:Bool) (a2_19:Sl) (a2_20:Sl) (Post:Value→PW→Prop):Prop:=
 callN Tryz.prog W0 M 56
 [.agg ⟨[.bool a0_0,a0_1.v,a0_2.v,.bool a0_3,a0_4.v,a0_5.v,.bool a0_6,a0_7.v,a0_8.v,.bool a0_9,a0_10.v,a0_11.v,.bool a0_12,a0_13.v,a0_14.v,.bool a0_15,a0_16.v,a0_17.v,.int .i64 a0_18]⟩]
 W0 fun v1 W2=>
 ∃b3:Bool,
 v1 = .bool b3∧
 ((!b3)=true→
 ∀(W4:PW),
 Ext W2 W4→
 Post (.tuple ⟨[.agg ⟨[.slice none 0 0,.bool false,.slice none 0 0,.slice none 0 0,.bool false,.slice none 0 0,.slice none 0 0]⟩,.bool false]⟩)
 W4)∧
 ((!b3)=false→
 callN Tryz.prog W0 M 150 [] W2 fun v5 W6=>
 ∃s7:Sl,
 ∃b8:Bool,
 ∃s9:Sl,
 ∃s10:Sl,
 ∃b11:Bool,
 ∃s12:Sl,
 ∃s13:Sl,
 v5 = .agg ⟨[s7.v,.bool b8,s9.v,s10.v,.bool b11,s12.v,s13.v]⟩∧
 ∃(F14:List PL→PW→Prop),
 ∃(F15:List PL→PW→Nat),
 F14
 [.val (.int .i64 0),.cells [.slice none 0 0,.bool false,.slice none 0 0,.slice none 0 0,.bool false,.slice none 0 0,.slice none 0 0],
 .cells [s7.v,.bool b8,s9.v,s10.v,.bool b11,s12.v,s13.v]]
 W6∧
 ∀(s16:Sl) (b17:Bool) (s18 s19:Sl) (b20:Bool) (s21 s22 s23:Sl) (b24:Bool) (s25 s26:Sl) (b27:Bool) (s28 s29:Sl) (i30:Int) (W31:PW),
 F14 [.val (.int .i64 i30),.cells [s16.v,.bool b17,s18.v,s19.v,.bool b20,s21.v,s22.v],.cells [s23.v,.bool b24,s25.v,s26.v,.bool b27,s28.v,s29.v]] W31→
 (i30<(a1.2:Int)→
 inB a1 i30∧
 ∃b32:Bool,
 ∃s33:Sl,
 ∃s34:Sl,
 ElemAt W31 a1 6 (Int.toNat i30) 3 [.bool b32,s33.v,s34.v]∧
 callN Tryz.prog W0 M 113 [.agg ⟨[.bool b32,s33.v,s34.v]⟩] W31 fun v35 W36=>
 ∃s37:Sl,
 v35=s37.v∧
 callN Tryz.prog W0 M 52
 [.agg
 {
 toList:=
 [.bool a0_0,a0_1.v,a0_2.v,.bool a0_3,a0_4.v,a0_5.v,.bool a0_6,a0_7.v,a0_8.v,.bool a0_9,a0_10.v,a0_11.v,.bool a0_12,a0_13.v,a0_14.v,.bool a0_15,a0_16.v,a0_17.v,
 .int .i64 a0_18] },
 s37.v]
 W36 fun v38 W39=>
 ∃s40:Sl,
 ∃b41:Bool,
 ∃s42:Sl,
 ∃s43:Sl,
 ∃b44:Bool,
 ∃s45:Sl,
 ∃s46:Sl,
 ∃b47:Bool,
 v38 = .tuple ⟨[.agg ⟨[s40.v,.bool b41,s42.v,s43.v,.bool b44,s45.v,s46.v]⟩,.bool b47]⟩∧
 ∃(F48:List PL→PW→Prop),
 ∃(F49:List PL→PW→Nat),
 F48
 [.val (.int .i64 0),.cells [s16.v,.bool b17,s18.v,s19.v,.bool b20,s21.v,s22.v],
 .cells [s40.v,.bool b41,s42.v,s43.v,.bool b44,s45.v,s46.v]]
 W39∧
 ∀(s50:Sl) (b51:Bool) (s52 s53:Sl) (b54:Bool) (s55 s56 s57:Sl) (b58:Bool) (s59 s60:Sl) (b61:Bool) (s62 s63:Sl) (i64:Int) (W65:PW),
 F48
 [.val (.int .i64 i64),.cells [s50.v,.bool b51,s52.v,s53.v,.bool b54,s55.v,s56.v],
 .cells [s57.v,.bool b58,s59.v,s60.v,.bool b61,s62.v,s63.v]]
 W65→
 (i64<3→
 ∃(F66:List PL→PW→Prop),
 ∃(F67:List PL→PW→Nat),
 F66
 [.val (.int .i64 0),.cells [s50.v,.bool b51,s52.v,s53.v,.bool b54,s55.v,s56.v],
 .cells [s57.v,.bool b58,s59.v,s60.v,.bool b61,s62.v,s63.v]]
 W65∧
 ∀(s68:Sl) (b69:Bool) (s70 s71:Sl) (b72:Bool) (s73 s74 s75:Sl) (b76:Bool) (s77 s78:Sl) (b79:Bool) (s80 s81:Sl) (i82:Int) (W83:PW),
 F66
 [.val (.int .i64 i82),.cells [s68.v,.bool b69,s70.v,s71.v,.bool b72,s73.v,s74.v],
 .cells [s75.v,.bool b76,s77.v,s78.v,.bool b79,s80.v,s81.v]]
 W83→
 inB a1 i30∧
 (0≤i64∧i64<3)∧
 ∃i84:Int,
 ElemAt W83 a1 6 (Int.toNat i30) (0+Int.toNat i64*1) [.int .u8 i84]∧
 I64 i84∧
 (i82<i84→
 (0≤i64∧i64<3)∧
 ∃s85:Sl,
 ∃b86:Bool,
 ∃s87:Sl,
 ∃s88:Sl,
 ∃b89:Bool,
 ∃s90:Sl,
 ∃s91:Sl,
 BoxAt
 [a2_0.v,.bool a2_1,a2_2.v,a2_3.v,.bool a2_4,a2_5.v,a2_6.v,a2_7.v,.bool a2_8,a2_9.v,a2_10.v,.bool a2_11,a2_12.v,a2_13.v,
 a2_14.v,.bool a2_15,a2_16.v,a2_17.v,.bool a2_18,a2_19.v,a2_20.v]
 (0+Int.toNat i64*7+0) [s85.v,.bool b86,s87.v,s88.v,.bool b89,s90.v,s91.v]∧
 callN Tryz.prog W0 M 54
 [.agg
 {
 toList:=
 [.bool a0_0,a0_1.v,a0_2.v,.bool a0_3,a0_4.v,a0_5.v,.bool a0_6,a0_7.v,a0_8.v,.bool a0_9,a0_10.v,a0_11.v,.bool a0_12,
 a0_13.v,a0_14.v,.bool a0_15,a0_16.v,a0_17.v,.int .i64 a0_18] },
 .agg ⟨[s75.v,.bool b76,s77.v,s78.v,.bool b79,s80.v,s81.v]⟩,
 .agg ⟨[s85.v,.bool b86,s87.v,s88.v,.bool b89,s90.v,s91.v]⟩]
 W83 fun v92 W93=>
 ∃s94:Sl,
 ∃b95:Bool,
 ∃s96:Sl,
 ∃s97:Sl,
 ∃b98:Bool,
 ∃s99:Sl,
 ∃s100:Sl,
 ∃b101:Bool,
 v92 = .tuple ⟨[.agg ⟨[s94.v,.bool b95,s96.v,s97.v,.bool b98,s99.v,s100.v]⟩,.bool b101]⟩∧
 ((!b101)=true→
 ∀(W102:PW),
 Ext W93 W102→
 Post
 (.tuple
 {
 toList:=
 [.agg
 {
 toList:=
 [.slice none 0 0,.bool false,.slice none 0 0,.slice none 0 0,.bool false,
 .slice none 0 0,.slice none 0 0] },
 .bool false] })
 W102)∧
 ((!b101)=false→
 I64 (i82+1)∧
 stp F66 F67
 [.val (.int .i64 (i82+1)),.cells [s68.v,.bool b69,s70.v,s71.v,.bool b72,s73.v,s74.v],
 .cells [s94.v,.bool b95,s96.v,s97.v,.bool b98,s99.v,s100.v]]
 W93
 [.val (.int .i64 i82),.cells [s68.v,.bool b69,s70.v,s71.v,.bool b72,s73.v,s74.v],
 .cells [s75.v,.bool b76,s77.v,s78.v,.bool b79,s80.v,s81.v]]
 W83))∧
 (¬i82<i84→
 I64 (i64+1)∧
 stp F48 F49
 [.val (.int .i64 (i64+1)),.cells [s68.v,.bool b69,s70.v,s71.v,.bool b72,s73.v,s74.v],
 .cells [s75.v,.bool b76,s77.v,s78.v,.bool b79,s80.v,s81.v]]
 W83
 [.val (.int .i64 i64),.cells [s50.v,.bool b51,s52.v,s53.v,.bool b54,s55.v,s56.v],
 .cells [s57.v,.bool b58,s59.v,s60.v,.bool b61,s62.v,s63.v]]
 W65))∧
 (¬i64<3→
 callN Tryz.prog W0 M 63
 [.agg ⟨[s23.v,.bool b24,s25.v,s26.v,.bool b27,s28.v,s29.v]⟩,.agg ⟨[s57.v,.bool b58,s59.v,s60.v,.bool b61,s62.v,s63.v]⟩] W65
 fun v103 W104=>
 ∃s105:Sl,
 ∃b106:Bool,
 ∃s107:Sl,
 ∃s108:Sl,
 ∃b109:Bool,
 ∃s110:Sl,
 ∃s111:Sl,
 v103 = .agg ⟨[s105.v,.bool b106,s107.v,s108.v,.bool b109,s110.v,s111.v]⟩∧
 I64 (i30+1)∧
 stp F14 F15
 [.val (.int .i64 (i30+1)),.cells [s50.v,.bool b51,s52.v,s53.v,.bool b54,s55.v,s56.v],
 .cells [s105.v,.bool b106,s107.v,s108.v,.bool b109,s110.v,s111.v]]
 W104
 [.val (.int .i64 i30),.cells [s16.v,.bool b17,s18.v,s19.v,.bool b20,s21.v,s22.v],
 .cells [s23.v,.bool b24,s25.v,s26.v,.bool b27,s28.v,s29.v]]
 W31))∧
 (¬i30<(a1.2:Int)→∀(W112:PW),Ext W31 W112→Post (.tuple ⟨[.agg ⟨[s23.v,.bool b24,s25.v,s26.v,.bool b27,s28.v,s29.v]⟩,.bool true]⟩) W112))
theorem callref1_ModelCompose (W0:PW) (M:Nat→Prop) (a0_0:Bool) (a0_1:Sl) (a0_2:Sl) (a0_3:Bool) (a0_4:Sl) (a0_5:Sl) (a0_6:Bool) (a0_7:Sl) (a0_8:Sl) (a0_9:Bool) (a0_10:Sl) (a0_11:Sl) (a0_12:Bool) (a0_13:Sl) (a0_14:Sl) (a0_15:Bool) (a0_16:Sl) (a0_17:Sl) (a0_18:Int) (a1:Sl) (a2_0:Sl) (a2_1:Bool) (a2_2:Sl) (a2_3:Sl) (a2_4:Bool) (a2_5:Sl) (a2_6:Sl) (a2_7:Sl) (a2_8:Bool) (a2_9:Sl) (a2_10:Sl) (a2_11:Bool) (a2_12:Sl) (a2_13:Sl) (a2_14:Sl) (a2_15:Bool) (a2_16:Sl) (a2_17:Sl) (a2_18:Bool) (a2_19:Sl) (a2_20:Sl) (Post:Value→PW→Prop) (h:Rref1_ModelCompose W0 M a0_0 a0_1 a0_2 a0_3 a0_4 a0_5 a0_6 a0_7 a0_8 a0_9 a0_10 a0_11 a0_12 a0_13 a0_14 a0_15 a0_16 a0_17 a0_18 a1 a2_0 a2_1 a2_2 a2_3 a2_4 a2_5 a2_6 a2_7 a2_8 a2_9 a2_10 a2_11 a2_12 a2_13 a2_14 a2_15 a2_16 a2_17 a2_18 a2_19 a2_20 Post):PCallsM Tryz.prog 69 [.agg #[.bool a0_0,a0_1.v,a0_2.v,.bool a0_3,a0_4.v,a0_5.v,.bool a0_6,a0_7.v,a0_8.v,.bool a0_9,a0_10.v,a0_11.v,.bool a0_12,a0_13.v,a0_14.v,.bool a0_15,a0_16.v,a0_17.v,.int .i64 a0_18],a1.v,.agg #[a2_0.v,.bool a2_1,a2_2.v,a2_3.v,.bool a2_4,a2_5.v,a2_6.v,a2_7.v,.bool a2_8,a2_9.v,a2_10.v,.bool a2_11,a2_12.v,a2_13.v,a2_14.v,.bool a2_15,a2_16.v,a2_17.v,.bool a2_18,a2_19.v,a2_20.v]] W0 M Post:=
 fn_sound rfl tt_ok tt_in Tryz.func69 (cuts:=[]) rfl rfl (Nat.le_of_ble_eq_true rfl) (Eq.mpr (by kernel_rfl) h)
end Go.Proofs.YthpmkcidkcmlgaaGreat
