/- R16 -/
import Derived.Test.YthpmkcidkcmlgaaGreatTt
set_option linter.unusedVariables false
set_option linter.unusedSimpArgs false
set_option maxRecDepth 100000
set_option linter.unusedVariables false
namespace Go.Proofs.YthpmkcidkcmlgaaGreat
open Go Go.SX
def Rlaw15_at (W0:PW) (M:Nat→Prop) (a0_0:Sl) (a0_1:Bool) (a0_2:Sl) (a0_3:Sl) (a0_4:Bool) (a0_5:Sl) (a1:Int) (Post:Value→PW→Prop):Prop:=
 callN Tryz.prog W0 M 151 [.int .i64 a1,.int .i64 0,.int .i64 8] W0 fun v1 W2=>
 ∃i3:Int,
 v1 = .int .i64 i3∧
 callN Tryz.prog W0 M 20 [.int .i64 i3] W2 fun v4 W5=>
 ∃s6:Sl,
 ∃b7:Bool,
 ∃s8:Sl,
 v4 = .agg ⟨[s6.v,.bool b7,s8.v]⟩∧
 callN Tryz.prog W0 M 20 [.int .i64 8] W5 fun v9 W10=>
 ∃s11:Sl,
 ∃b12:Bool,
 ∃s13:Sl,
 v9 = .agg ⟨[s11.v,.bool b12,s13.v]⟩∧
 callN Tryz.prog W0 M 87 [.agg ⟨[s6.v,.bool b7,s8.v]⟩,.agg ⟨[s11.v,.bool b12,s13.v]⟩] W10 fun v14 W15=>
 ∃s16:Sl,
 ∃b17:Bool,
 ∃s18:Sl,
 ∃b19:Bool,
 v14 = .tuple ⟨[.agg ⟨[s16.v,.bool b17,s18.v]⟩,.bool b19]⟩∧
 callN Tryz.prog W0 M 152 [.agg ⟨[a0_0.v,.bool a0_1,a0_2.v,a0_3.v,.bool a0_4,a0_5.v]⟩] W15 fun v20 W21=>
 ∃s22:Sl,
 ∃b23:Bool,
 ∃s24:Sl,
 v20 = .agg ⟨[s22.v,.bool b23,s24.v]⟩∧
 callN Tryz.prog W0 M 74 [.agg ⟨[s22.v,.bool b23,s24.v]⟩,.agg ⟨[s16.v,.bool b17,s18.v]⟩] W21 fun v25 W26=>
 ∃s27:Sl,
 ∃b28:Bool,
 ∃s29:Sl,
 v25 = .agg ⟨[s27.v,.bool b28,s29.v]⟩∧
 callN Tryz.prog W0 M 71 [.agg ⟨[a0_0.v,.bool a0_1,a0_2.v]⟩,.agg ⟨[s27.v,.bool b28,s29.v]⟩] W26 fun v30 W31=>
 ∃s32:Sl,∃b33:Bool,∃s34:Sl,v30 = .agg ⟨[s32.v,.bool b33,s34.v]⟩∧∀(W35:PW),Ext W31 W35→Post (.agg ⟨[s32.v,.bool b33,s34.v]⟩) W35
theorem calllaw15_at (W0:PW) (M:Nat→Prop) (a0_0:Sl) (a0_1:Bool) (a0_2:Sl) (a0_3:Sl) (a0_4:Bool) (a0_5:Sl) (a1:Int) (Post:Value→PW→Prop) (h:Rlaw15_at W0 M a0_0 a0_1 a0_2 a0_3 a0_4 a0_5 a1 Post):PCallsM Tryz.prog 70 [.agg #[a0_0.v,.bool a0_1,a0_2.v,a0_3.v,.bool a0_4,a0_5.v],.int .i64 a1] W0 M Post:=
 fn_sound rfl tt_ok tt_in Tryz.func70 (cuts:=[]) rfl rfl (Nat.le_of_ble_eq_true rfl) (Eq.mpr (by kernel_rfl) h)
def Rlaw15_TmodHas (W0:PW) (M:Nat→Prop) (a0_0:ByteArray) (a0_1:ByteArray) (a0_2:ByteArray) (a0_3:ByteArray) (a0_4:ByteArray) (a0_5:ByteArray) (a1:Int) (a2_0:Sl) (a2_1:ByteArray) (a2_2:ByteArray) (a3_0:Sl) (a3_1:ByteArray) (a3_2:ByteArray) (a4_0:Int) (a4_1:Int) (a4_2:Int) (a5:Int) (a6:Int) (Post:Value→PW→Prop):Prop:=
 callN Tryz.prog W0 M 44 [.agg ⟨[.string a0_0,.string a0_1,.string a0_2,.string a0_3,.string a0_4,.string a0_5]⟩,.int .i64 a1] W0 fun v1 W2=>
 ∃s3:Sl,
 ∃b4:Bool,
 ∃s5:Sl,
 ∃s6:Sl,
 ∃b7:Bool,
 ∃s8:Sl,
 ∃s9:Sl,
 ∃b10:Bool,
 ∃s11:Sl,
 ∃s12:Sl,
 ∃b13:Bool,
 ∃s14:Sl,
 ∃s15:Sl,
 ∃b16:Bool,
 ∃s17:Sl,
 ∃s18:Sl,
 ∃b19:Bool,
 ∃s20:Sl,
 ∃i21:Int,
 ∃b22:Bool,
 ∃s23:Sl,
 ∃s24:Sl,
 ∃b25:Bool,
 ∃s26:Sl,
 ∃s27:Sl,
 ∃b28:Bool,
 ∃s29:Sl,
 ∃s30:Sl,
 ∃b31:Bool,
 ∃s32:Sl,
 ∃s33:Sl,
 ∃b34:Bool,
 ∃s35:Sl,
 ∃s36:Sl,
 ∃b37:Bool,
 ∃s38:Sl,
 ∃s39:Sl,
 ∃i40:Int,
 ∃b41:Bool,
 v1 =
 .tuple
 {
 toList:=
 [.agg
 {
 toList:=
 [s3.v,.bool b4,s5.v,s6.v,.bool b7,s8.v,s9.v,.bool b10,s11.v,s12.v,.bool b13,s14.v,s15.v,.bool b16,s17.v,s18.v,.bool b19,s20.v,
 .int .i64 i21] },
 .agg
 {
 toList:=
 [.bool b22,s23.v,s24.v,.bool b25,s26.v,s27.v,.bool b28,s29.v,s30.v,.bool b31,s32.v,s33.v,.bool b34,s35.v,s36.v,.bool b37,s38.v,
 s39.v,.int .i64 i40] },
 .bool b41] }∧
 callN Tryz.prog W0 M 45 [.agg ⟨[a2_0.v,.string a2_1,.string a2_2]⟩,.int .i64 4] W2 fun v42 W43=>
 ∃s44:Sl,
 ∃s45:Sl,
 ∃b46:Bool,
 ∃s47:Sl,
 ∃s48:Sl,
 ∃b49:Bool,
 ∃s50:Sl,
 ∃s51:Sl,
 ∃b52:Bool,
 ∃s53:Sl,
 ∃s54:Sl,
 ∃b55:Bool,
 ∃s56:Sl,
 ∃s57:Sl,
 ∃b58:Bool,
 v42 =
 .tuple
 {
 toList:=
 [.agg ⟨[s44.v,s45.v,.bool b46,s47.v,s48.v,.bool b49,s50.v]⟩,
 .agg ⟨[s51.v,.bool b52,s53.v,s54.v,.bool b55,s56.v,s57.v]⟩,.bool b58] }∧
 callN Tryz.prog W0 M 45 [.agg ⟨[a3_0.v,.string a3_1,.string a3_2]⟩,.int .i64 4] W43 fun v59 W60=>
 ∃s61:Sl,
 ∃s62:Sl,
 ∃b63:Bool,
 ∃s64:Sl,
 ∃s65:Sl,
 ∃b66:Bool,
 ∃s67:Sl,
 ∃s68:Sl,
 ∃b69:Bool,
 ∃s70:Sl,
 ∃s71:Sl,
 ∃b72:Bool,
 ∃s73:Sl,
 ∃s74:Sl,
 ∃b75:Bool,
 v59 =
 .tuple
 {
 toList:=
 [.agg ⟨[s61.v,s62.v,.bool b63,s64.v,s65.v,.bool b66,s67.v]⟩,
 .agg ⟨[s68.v,.bool b69,s70.v,s71.v,.bool b72,s73.v,s74.v]⟩,.bool b75] }∧
 ((!b41)=true→callN Tryz.prog W0 M 46 [] W60 fun v76 W77=>∃b78:Bool,v76 = .bool b78∧∀(W79:PW),Ext W77 W79→Post (.bool b78) W79)∧
 ((!b41)=false→
 ((!b58)=true→callN Tryz.prog W0 M 46 [] W60 fun v80 W81=>∃b82:Bool,v80 = .bool b82∧∀(W83:PW),Ext W81 W83→Post (.bool b82) W83)∧
 ((!b58)=false→
 ((!b75)=true→callN Tryz.prog W0 M 46 [] W60 fun v84 W85=>∃b86:Bool,v84 = .bool b86∧∀(W87:PW),Ext W85 W87→Post (.bool b86) W87)∧
 ((!b75)=false→
 callN Tryz.prog W0 M 46 [] W60 fun v88 W89=>
 ∃b90:Bool,
 v88 = .bool b90∧
 ((!b90)=true→callN Tryz.prog W0 M 46 [] W89 fun v91 W92=>∃b93:Bool,v91 = .bool b93∧∀(W94:PW),Ext W92 W94→Post (.bool b93) W94)∧
 ((!b90)=false→
 callN Tryz.prog W0 M 56
 [.agg
 {
 toList:=
 [.bool b22,s23.v,s24.v,.bool b25,s26.v,s27.v,.bool b28,s29.v,s30.v,.bool b31,s32.v,s33.v,
 .bool b34,s35.v,s36.v,.bool b37,s38.v,s39.v,.int .i64 i40] }]
 W89 fun v95 W96=>
 ∃b97:Bool,
 v95 = .bool b97∧
 ((!b97)=true→
 callN Tryz.prog W0 M 46 [] W96 fun v98 W99=>∃b100:Bool,v98 = .bool b100∧∀(W101:PW),Ext W99 W101→Post (.bool b100) W101)∧
 ((!b97)=false→
 ∃(F102:List PL→PW→Prop),
 ∃(F103:List PL→PW→Nat),
 F102
 [.val (.int .i64 0),
 .cells
 [.slice none 0 0,.bool false,.slice none 0 0,.slice none 0 0,.bool false,
 .slice none 0 0,.slice none 0 0,.bool false,.slice none 0 0]]
 W96∧
 ∀(s104:Sl) (b105:Bool) (s106 s107:Sl) (b108:Bool) (s109 s110:Sl) (b111:Bool) (s112:Sl) (i113:Int) (W114:PW),
 F102
 [.val (.int .i64 i113),
 .cells [s104.v,.bool b105,s106.v,s107.v,.bool b108,s109.v,s110.v,.bool b111,s112.v]]
 W114→
 (i113<3→
 (0≤i113∧i113<3)∧
 ∃s115:Sl,
 ∃b116:Bool,
 ∃s117:Sl,
 ∃s118:Sl,
 ∃b119:Bool,
 ∃s120:Sl,
 BoxAt
 [s3.v,.bool b4,s5.v,s6.v,.bool b7,s8.v,s9.v,.bool b10,s11.v,s12.v,.bool b13,
 s14.v,s15.v,.bool b16,s17.v,s18.v,.bool b19,s20.v,.int .i64 i21]
 (0+Int.toNat i113*6+0) [s115.v,.bool b116,s117.v,s118.v,.bool b119,s120.v]∧
 (0≤i113∧i113<3)∧
 ∃i121:Int,
 BoxAt [.int .i64 a4_0,.int .i64 a4_1,.int .i64 a4_2] (0+Int.toNat i113*1+0)
 [.int .i64 i121]∧
 callN Tryz.prog W0 M 70
 [.agg ⟨[s115.v,.bool b116,s117.v,s118.v,.bool b119,s120.v]⟩,.int .i64 i121] W114
 fun v122 W123=>
 ∃s124:Sl,
 ∃b125:Bool,
 ∃s126:Sl,
 v122 = .agg ⟨[s124.v,.bool b125,s126.v]⟩∧
 (0≤i113∧i113<3)∧
 Int.toNat i113<3∧
 ((True∧
 (Int.toNat i113=0→
 I64 (i113+1)∧
 stp F102 F103
 [.val (.int .i64 (i113+1)),
 .cells
 [s124.v,.bool b125,s126.v,s107.v,.bool b108,s109.v,s110.v,.bool b111,
 s112.v]]
 W123
 [.val (.int .i64 i113),
 .cells
 [s104.v,.bool b105,s106.v,s107.v,.bool b108,s109.v,s110.v,.bool b111,
 s112.v]]
 W114))∧
 (Int.toNat i113=1→
 I64 (i113+1)∧
 stp F102 F103
 [.val (.int .i64 (i113+1)),
 .cells
 [s104.v,.bool b105,s106.v,s124.v,.bool b125,s126.v,s110.v,.bool b111,
 s112.v]]
 W123
 [.val (.int .i64 i113),
 .cells
 [s104.v,.bool b105,s106.v,s107.v,.bool b108,s109.v,s110.v,.bool b111,
 s112.v]]
 W114))∧
 (Int.toNat i113=2→
 I64 (i113+1)∧
 stp F102 F103
 [.val (.int .i64 (i113+1)),
 .cells
 [s104.v,.bool b105,s106.v,s107.v,.bool b108,s109.v,s124.v,.bool b125,
 s126.v]]
 W123
 [.val (.int .i64 i113),
 .cells
 [s104.v,.bool b105,s106.v,s107.v,.bool b108,s109.v,s110.v,.bool b111,
 s112.v]]
 W114))∧
 (¬i113<3→
 callN Tryz.prog W0 M 43
 [.agg ⟨[s44.v]⟩,
 .agg ⟨[s104.v,.bool b105,s106.v,s107.v,.bool b108,s109.v,s110.v,.bool b111,s112.v]⟩]
 W114 fun v127 W128=>
 ∃s129:Sl,
 ∃b130:Bool,
 ∃s131:Sl,
 v127 = .agg ⟨[s129.v,.bool b130,s131.v]⟩∧
 callN Tryz.prog W0 M 70
 [.agg ⟨[s45.v,.bool b46,s47.v,s48.v,.bool b49,s50.v]⟩,.int .i64 a5] W128
 fun v132 W133=>
 ∃s134:Sl,
 ∃b135:Bool,
 ∃s136:Sl,
 v132 = .agg ⟨[s134.v,.bool b135,s136.v]⟩∧
 callN Tryz.prog W0 M 71
 [.agg ⟨[s129.v,.bool b130,s131.v]⟩,.agg ⟨[s134.v,.bool b135,s136.v]⟩] W133
 fun v137 W138=>
 ∃s139:Sl,
 ∃b140:Bool,
 ∃s141:Sl,
 v137 = .agg ⟨[s139.v,.bool b140,s141.v]⟩∧
 callN Tryz.prog W0 M 43
 [.agg ⟨[s61.v]⟩,
 .agg
 {
 toList:=
 [s104.v,.bool b105,s106.v,s107.v,.bool b108,s109.v,s110.v,.bool b111,
 s112.v] }]
 W138 fun v142 W143=>
 ∃s144:Sl,
 ∃b145:Bool,
 ∃s146:Sl,
 v142 = .agg ⟨[s144.v,.bool b145,s146.v]⟩∧
 callN Tryz.prog W0 M 70
 [.agg ⟨[s62.v,.bool b63,s64.v,s65.v,.bool b66,s67.v]⟩,
 .int .i64 a6]
 W143 fun v147 W148=>
 ∃s149:Sl,
 ∃b150:Bool,
 ∃s151:Sl,
 v147 = .agg ⟨[s149.v,.bool b150,s151.v]⟩∧
 callN Tryz.prog W0 M 71
 [.agg ⟨[s144.v,.bool b145,s146.v]⟩,
 .agg ⟨[s149.v,.bool b150,s151.v]⟩]
 W148 fun v152 W153=>
 ∃s154:Sl,
 ∃b155:Bool,
 ∃s156:Sl,
 v152 = .agg ⟨[s154.v,.bool b155,s156.v]⟩∧
 callN Tryz.prog W0 M 53
 [.agg
 {
 toList:=
 [s3.v,.bool b4,s5.v,s6.v,.bool b7,s8.v,s9.v,.bool b10,
 s11.v,s12.v,.bool b13,s14.v,s15.v,.bool b16,s17.v,
 s18.v,.bool b19,s20.v,.int .i64 i21] },
 .agg
 ⟨[s44.v,s45.v,.bool b46,s47.v,s48.v,.bool b49,s50.v]⟩,
 .agg
 ⟨[s61.v,s62.v,.bool b63,s64.v,s65.v,.bool b66,s67.v]⟩]
 W153 fun v157 W158=>
 ∃s159:Sl,
 ∃s160:Sl,
 ∃b161:Bool,
 ∃s162:Sl,
 ∃s163:Sl,
 ∃b164:Bool,
 ∃s165:Sl,
 ∃b166:Bool,
 v157 =
 .tuple
 {
 toList:=
 [.agg
 {
 toList:=
 [s159.v,s160.v,.bool b161,s162.v,s163.v,.bool b164,
 s165.v] },
 .bool b166] }∧
 callN Tryz.prog W0 M 62
 [.agg
 {
 toList:=
 [s44.v,s45.v,.bool b46,s47.v,s48.v,.bool b49,
 s50.v] },
 .agg
 {
 toList:=
 [s61.v,s62.v,.bool b63,s64.v,s65.v,.bool b66,
 s67.v] }]
 W158 fun v167 W168=>
 ∃s169:Sl,
 ∃s170:Sl,
 ∃b171:Bool,
 ∃s172:Sl,
 ∃s173:Sl,
 ∃b174:Bool,
 ∃s175:Sl,
 v167 =
 .agg
 {
 toList:=
 [s169.v,s170.v,.bool b171,s172.v,s173.v,
 .bool b174,s175.v] }∧
 callN Tryz.prog W0 M 51
 [.agg
 {
 toList:=
 [s3.v,.bool b4,s5.v,s6.v,.bool b7,s8.v,
 s9.v,.bool b10,s11.v,s12.v,.bool b13,
 s14.v,s15.v,.bool b16,s17.v,s18.v,
 .bool b19,s20.v,.int .i64 i21] },
 .agg ⟨[s44.v]⟩]
 W168 fun v176 W177=>
 ∃s178:Sl,
 ∃s179:Sl,
 ∃b180:Bool,
 ∃s181:Sl,
 ∃s182:Sl,
 ∃b183:Bool,
 ∃s184:Sl,
 ∃b185:Bool,
 v176 =
 .tuple
 {
 toList:=
 [.agg
 {
 toList:=
 [s178.v,s179.v,.bool b180,
 s181.v,s182.v,.bool b183,
 s184.v] },
 .bool b185] }∧
 callN Tryz.prog W0 M 55
 [.agg
 {
 toList:=
 [s3.v,.bool b4,s5.v,s6.v,
 .bool b7,s8.v,s9.v,.bool b10,
 s11.v,s12.v,.bool b13,s14.v,
 s15.v,.bool b16,s17.v,s18.v,
 .bool b19,s20.v,.int .i64 i21] },
 .agg
 {
 toList:=
 [s159.v,s160.v,.bool b161,s162.v,
 s163.v,.bool b164,s165.v] }]
 W177 fun v186 W187=>
 ∃s188:Sl,
 ∃b189:Bool,
 ∃s190:Sl,
 ∃s191:Sl,
 ∃b192:Bool,
 ∃s193:Sl,
 ∃b194:Bool,
 v186 =
 .tuple
 {
 toList:=
 [.agg
 {
 toList:=
 [s188.v,.bool b189,
 s190.v,s191.v,
 .bool b192,s193.v] },
 .bool b194] }∧
 (b166=true→
 (b185=true→
 (b194=true→
 callN Tryz.prog W0 M 74
 [.agg
 {
 toList:=
 [s139.v,.bool b140,
 s141.v] },
 .agg
 {
 toList:=
 [s154.v,.bool b155,
 s156.v] }]
 W187 fun v195 W196=>
 ∃s197:Sl,
 ∃b198:Bool,
 ∃s199:Sl,
 v195 =
 .agg
 {
 toList:=
 [s197.v,.bool b198,
 s199.v] }∧
 callN Tryz.prog W0 M
 43
 [.agg
 ⟨[s159.v]⟩,
 .agg
 {
 toList:=
 [s104.v,
 .bool b105,
 s106.v,s107.v,
 .bool b108,
 s109.v,s110.v,
 .bool b111,
 s112.v] }]
 W196
 fun v200 W201=>
 ∃s202:Sl,
 ∃b203:Bool,
 ∃s204:Sl,
 v200 =
 .agg
 {
 toList:=
 [s202.v,
 .bool b203,
 s204.v] }∧
 callN Tryz.prog W0 M
 73
 [.agg
 {
 toList:=
 [s197.v,
 .bool b198,
 s199.v] },
 .agg
 {
 toList:=
 [s202.v,
 .bool b203,
 s204.v] }]
 W201
 fun(v205:Value)
 (W206:PW)=>
 ∃s207:Sl,
 ∃b208:Bool,
 ∃s209:Sl,
 v205 =
 .agg
 {
 toList:=
 [s207.v,
 .bool
 b208,
 Sl.v
 s209] }∧
 callN
 Tryz.prog W0 M
 72
 [.agg
 {
 toList:=
 [Sl.v
 s160,
 .bool
 b161,
 Sl.v
 s162,
 Sl.v
 s163,
 .bool
 b164,
 Sl.v
 s165] },
 .agg
 {
 toList:=
 [Sl.v
 s207,
 .bool
 b208,
 Sl.v
 s209] }]
 W206
 fun(v210:Value)
 (W211:PW)=>
 ∃b212:Bool,
 v210 =
 .bool
 b212∧
 (b212=true→
 callN
 Tryz.prog
 W0 M
 71
 [.agg
 {
 toList:=
 [Sl.v
 s139,
 .bool
 b140,
 Sl.v
 s141] },
 .agg
 {
 toList:=
 [Sl.v
 s154,
 .bool
 b155,
 Sl.v
 s156] }]
 W211
 fun
 (v213:
 Value)
 (W214:
 PW)=>
 ∃(s215:
 Sl),
 ∃(b216:
 Bool),
 ∃(s217:
 Sl),
 v213 =
 .agg
 {
 toList:=
 [Sl.v
 s215,
 .bool
 b216,
 Sl.v
 s217] }∧
 callN
 Tryz.prog
 W0 M
 (43:
 Nat)
 [.agg
 {
 toList:=
 [Sl.v
 s169] },
 .agg
 {
 toList:=
 [Sl.v
 s104,
 .bool
 b105,
 Sl.v
 s106,
 Sl.v
 s107,
 .bool
 b108,
 Sl.v
 s109,
 Sl.v
 s110,
 .bool
 b111,
 Sl.v
 s112] }]
 W214
 fun
 (v218:
 Value)
 (W219:
 PW)=>
 ∃
 (s220
 :
 Sl),
 ∃
 (b221
 :
 Bool),
 ∃
 (s222
 :
 Sl),
 v218 =
 .agg
 {
 toList:=
 [Sl.v
 s220,
 .bool
 b221,
 Sl.v
 s222] }∧
 callN
 Tryz.prog
 W0
 M
 (73:
 Nat)
 [.agg
 {
 toList:=
 [Sl.v
 s215,
 .bool
 b216,
 Sl.v
 s217] },
 .agg
 {
 toList:=
 [Sl.v
 s220,
 .bool
 b221,
 Sl.v
 s222] }]
 W219
 fun
 (v223:
 Value)
 (W224:
 PW)=>
 ∃
 (s225
 :
 Sl),
 ∃
 (b226
 :
 Bool),
 ∃
 (s227
 :
 Sl),
 v223 =
 .agg
 {
 toList:=
 [Sl.v
 s225,
 .bool
 b226,
 Sl.v
 s227] }∧
 callN
 Tryz.prog
 W0
 M
 (72:
 Nat)
 [.agg
 {
 toList:=
 [Sl.v
 s170,
 .bool
 b171,
 Sl.v
 s172,
 Sl.v
 s173,
 .bool
 b174,
 Sl.v
 s175] },
 .agg
 {
 toList:=
 [Sl.v
 s225,
 .bool
 b226,
 Sl.v
 s227] }]
 W224
 fun
 (v228:
 Value)
 (W229:
 PW)=>
 ∃
 (b230
 :
 Bool),
 v228 =
 .bool
 b230∧
 (b230 =
 true→
 callN
 Tryz.prog
 W0
 M
 (43:
 Nat)
 [.agg
 {
 toList:=
 [Sl.v
 s44] },
 .agg
 {
 toList:=
 [Sl.v
 s104,
 .bool
 b105,
 Sl.v
 s106,
 Sl.v
 s107,
 .bool
 b108,
 Sl.v
 s109,
 Sl.v
 s110,
 .bool
 b111,
 Sl.v
 s112] }]
 W229
 fun
 (v231:
 Value)
 (W232:
 PW)=>
 ∃
 (s233
 :
 Sl),
 ∃
 (b234
 :
 Bool),
 ∃
 (s235
 :
 Sl),
 v231 =
 .agg
 {
 toList:=
 [Sl.v
 s233,
 .bool
 b234,
 Sl.v
 s235] }∧
 callN
 Tryz.prog
 W0
 M
 (43:
 Nat)
 [.agg
 {
 toList:=
 [Sl.v
 s178] },
 .agg
 {
 toList:=
 [Sl.v
 s104,
 .bool
 b105,
 Sl.v
 s106,
 Sl.v
 s107,
 .bool
 b108,
 Sl.v
 s109,
 Sl.v
 s110,
 .bool
 b111,
 Sl.v
 s112] }]
 W232
 fun
 (v236:
 Value)
 (W237:
 PW)=>
 ∃
 (s238
 :
 Sl),
 ∃
 (b239
 :
 Bool),
 ∃
 (s240
 :
 Sl),
 v236 =
 .agg
 {
 toList:=
 [Sl.v
 s238,
 .bool
 b239,
 Sl.v
 s240] }∧
 callN
 Tryz.prog
 W0
 M
 (73:
 Nat)
 [.agg
 {
 toList:=
 [Sl.v
 s233,
 .bool
 b234,
 Sl.v
 s235] },
 .agg
 {
 toList:=
 [Sl.v
 s238,
 .bool
 b239,
 Sl.v
 s240] }]
 W237
 fun
 (v241:
 Value)
 (W242:
 PW)=>
 ∃
 (s243
 :
 Sl),
 ∃
 (b244
 :
 Bool),
 ∃
 (s245
 :
 Sl),
 v241 =
 .agg
 {
 toList:=
 [Sl.v
 s243,
 .bool
 b244,
 Sl.v
 s245] }∧
 callN
 Tryz.prog
 W0
 M
 (72:
 Nat)
 [.agg
 {
 toList:=
 [Sl.v
 s179,
 .bool
 b180,
 Sl.v
 s181,
 Sl.v
 s182,
 .bool
 b183,
 Sl.v
 s184] },
 .agg
 {
 toList:=
 [Sl.v
 s243,
 .bool
 b244,
 Sl.v
 s245] }]
 W242
 fun
 (v246:
 Value)
 (W247:
 PW)=>
 ∃
 (b248
 :
 Bool),
 v246 =
 .bool
 b248∧
 (b248 =
 true→
 callN
 Tryz.prog
 W0
 M
 (74:
 Nat)
 [.agg
 {
 toList:=
 [Sl.v
 s139,
 .bool
 b140,
 Sl.v
 s141] },
 .agg
 {
 toList:=
 [Sl.v
 s154,
 .bool
 b155,
 Sl.v
 s156] }]
 W247
 fun
 (v249:
 Value)
 (W250:
 PW)=>
 ∃
 (s251
 :
 Sl),
 ∃
 (b252
 :
 Bool),
 ∃
 (s253
 :
 Sl),
 v249 =
 .agg
 {
 toList:=
 [Sl.v
 s251,
 .bool
 b252,
 Sl.v
 s253] }∧
 callN
 Tryz.prog
 W0
 M
 (72:
 Nat)
 [.agg
 {
 toList:=
 [Sl.v
 s188,
 .bool
 b189,
 Sl.v
 s190,
 Sl.v
 s191,
 .bool
 b192,
 Sl.v
 s193] },
 .agg
 {
 toList:=
 [Sl.v
 s251,
 .bool
 b252,
 Sl.v
 s253] }]
 W250
 fun
 (v254:
 Value)
 (W255:
 PW)=>
 ∃
 (b256
 :
 Bool),
 v254 =
 .bool
 b256∧
 ∀
 (W257:
 PW),
 Ext
 W255
 W257→
 Post
 (.bool
 b256)
 W257)∧
 (b248 =
 false→
 ∀
 (W258:
 PW),
 Ext
 W247
 W258→
 Post
 (.bool
 false)
 W258))∧
 (b230 =
 false→
 Ext
 W229
 W229∧
 Ext
 W229
 W229∧
 Ext
 W229
 W229∧
 ∀
 (W259:
 PW),
 Ext
 W229
 W259→
 Post
 (.bool
 false)
 W259))∧
 (b212 =
 false→
 Ext W211
 W211∧
 Ext W211
 W211∧
 Ext
 W211
 W211∧
 Ext
 W211
 W211∧
 Ext
 W211
 W211∧
 Ext
 W211
 W211∧
 ∀
 (W260:
 PW),
 Ext
 W211
 W260→
 Post
 (.bool
 false)
 W260))∧
 (b194=false→
 Ext W187 W187∧
 Ext W187 W187∧
 Ext W187 W187∧
 Ext W187 W187∧
 Ext W187 W187∧
 Ext W187 W187∧
 Ext W187 W187∧
 Ext W187 W187∧
 Ext W187 W187∧
 ∀(W261:PW),
 Ext W187 W261→
 Post (.bool false)
 W261))∧
 (b185=false→
 Ext W187 W187∧
 Ext W187 W187∧
 Ext W187 W187∧
 Ext W187 W187∧
 Ext W187 W187∧
 Ext W187 W187∧
 Ext W187 W187∧
 Ext W187 W187∧
 Ext W187 W187∧
 ∀(W262:PW),
 Ext W187 W262→
 Post (.bool false)
 W262))∧
 (b166=false→
 Ext W187 W187∧
 Ext W187 W187∧
 Ext W187 W187∧
 Ext W187 W187∧
 Ext W187 W187∧
 Ext W187 W187∧
 Ext W187 W187∧
 Ext W187 W187∧
 Ext W187 W187∧
 ∀(W263:PW),
 Ext W187 W263→
 Post (.bool false)
 W263)))))))
theorem calllaw15_TmodHas (W0:PW) (M:Nat→Prop) (a0_0:ByteArray) (a0_1:ByteArray) (a0_2:ByteArray) (a0_3:ByteArray) (a0_4:ByteArray) (a0_5:ByteArray) (a1:Int) (a2_0:Sl) (a2_1:ByteArray) (a2_2:ByteArray) (a3_0:Sl) (a3_1:ByteArray) (a3_2:ByteArray) (a4_0:Int) (a4_1:Int) (a4_2:Int) (a5:Int) (a6:Int) (Post:Value→PW→Prop) (h:Rlaw15_TmodHas W0 M a0_0 a0_1 a0_2 a0_3 a0_4 a0_5 a1 a2_0 a2_1 a2_2 a3_0 a3_1 a3_2 a4_0 a4_1 a4_2 a5 a6 Post):PCallsM Tryz.prog 10 [.agg #[.string a0_0,.string a0_1,.string a0_2,.string a0_3,.string a0_4,.string a0_5],.int .i64 a1,.agg #[a2_0.v,.string a2_1,.string a2_2],.agg #[a3_0.v,.string a3_1,.string a3_2],.agg #[.int .i64 a4_0,.int .i64 a4_1,.int .i64 a4_2],.int .i64 a5,.int .i64 a6] W0 M Post:=
 fn_sound rfl tt_ok tt_in Tryz.func10 (cuts:=[]) rfl rfl (Nat.le_of_ble_eq_true rfl) (Eq.mpr (by kernel_rfl) h)
end Go.Proofs.YthpmkcidkcmlgaaGreat
