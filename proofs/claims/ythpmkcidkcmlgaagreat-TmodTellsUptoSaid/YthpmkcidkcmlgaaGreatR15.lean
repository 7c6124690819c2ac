/- R15 -/
import Derived.Test.YthpmkcidkcmlgaaGreatTt
set_option linter.unusedVariables false
set_option linter.unusedSimpArgs false
set_option maxRecDepth 100000
set_option linter.unusedVariables false
namespace Go.Proofs.YthpmkcidkcmlgaaGreat
open Go Go.SX
def Rlaw15_TmodTells (W0:PW) (M:Nat→Prop) (a0_0:ByteArray) (a0_1:ByteArray) (a0_2:ByteArray) (a0_3:ByteArray) (a0_4:ByteArray) (a0_5:ByteArray) (a1:Int) (a2_0:Sl) (a2_1:ByteArray) (a2_2:ByteArray) (a3_0:Sl) (a3_1:ByteArray) (a3_2:ByteArray) (a4:ByteArray) (Post:Value→PW→Prop):Prop:=
 callN Tryz.prog W0 M 44 [.agg ⟨[.string a0_0,.string a0_1,.string a0_2,.string a0_3,.string a0_4,.string a0_5]⟩,.int .i64 a1] W0 fun v1 W2=>
 ∃s3:Sl,
 ∃b4:Bool,
 ∃s5:Sl,
 ∃s6:Sl,
 ∃b7:Bool,
 ∃s8:Sl,
 ∃s9:Sl,
 ∃b10:Bool,
 ∃s11:Sl,
 ∃s12:Sl,
 ∃b13:Bool,
 ∃s14:Sl,
 ∃s15:Sl,
 ∃b16:Bool,
 ∃s17:Sl,
 ∃s18:Sl,
 ∃b19:Bool,
 ∃s20:Sl,
 ∃i21:Int,
 ∃b22:Bool,
 ∃s23:Sl,
 ∃s24:Sl,
 ∃b25:Bool,
 ∃s26:Sl,
 ∃s27:Sl,
 ∃b28:Bool,
 ∃s29:Sl,
 ∃s30:Sl,
 ∃b31:Bool,
 ∃s32:Sl,
 ∃s33:Sl,
 ∃b34:Bool,
 ∃s35:Sl,
 ∃s36:Sl,
 ∃b37:Bool,
 ∃s38:Sl,
 ∃s39:Sl,
 ∃i40:Int,
 ∃b41:Bool,
 v1 =
 .tuple
 {
 toList:=
 [.agg
 {
 toList:=
 [s3.v,.bool b4,s5.v,s6.v,.bool b7,s8.v,s9.v,.bool b10,s11.v,s12.v,.bool b13,s14.v,s15.v,.bool b16,s17.v,s18.v,.bool b19,s20.v,
 .int .i64 i21] },
 .agg
 {
 toList:=
 [.bool b22,s23.v,s24.v,.bool b25,s26.v,s27.v,.bool b28,s29.v,s30.v,.bool b31,s32.v,s33.v,.bool b34,s35.v,s36.v,.bool b37,s38.v,
 s39.v,.int .i64 i40] },
 .bool b41] }∧
 callN Tryz.prog W0 M 45 [.agg ⟨[a2_0.v,.string a2_1,.string a2_2]⟩,.int .i64 4] W2 fun v42 W43=>
 ∃s44:Sl,
 ∃s45:Sl,
 ∃b46:Bool,
 ∃s47:Sl,
 ∃s48:Sl,
 ∃b49:Bool,
 ∃s50:Sl,
 ∃s51:Sl,
 ∃b52:Bool,
 ∃s53:Sl,
 ∃s54:Sl,
 ∃b55:Bool,
 ∃s56:Sl,
 ∃s57:Sl,
 ∃b58:Bool,
 v42 =
 .tuple
 {
 toList:=
 [.agg ⟨[s44.v,s45.v,.bool b46,s47.v,s48.v,.bool b49,s50.v]⟩,
 .agg ⟨[s51.v,.bool b52,s53.v,s54.v,.bool b55,s56.v,s57.v]⟩,.bool b58] }∧
 callN Tryz.prog W0 M 45 [.agg ⟨[a3_0.v,.string a3_1,.string a3_2]⟩,.int .i64 4] W43 fun v59 W60=>
 ∃s61:Sl,
 ∃s62:Sl,
 ∃b63:Bool,
 ∃s64:Sl,
 ∃s65:Sl,
 ∃b66:Bool,
 ∃s67:Sl,
 ∃s68:Sl,
 ∃b69:Bool,
 ∃s70:Sl,
 ∃s71:Sl,
 ∃b72:Bool,
 ∃s73:Sl,
 ∃s74:Sl,
 ∃b75:Bool,
 v59 =
 .tuple
 {
 toList:=
 [.agg ⟨[s61.v,s62.v,.bool b63,s64.v,s65.v,.bool b66,s67.v]⟩,
 .agg ⟨[s68.v,.bool b69,s70.v,s71.v,.bool b72,s73.v,s74.v]⟩,.bool b75] }∧
 callN Tryz.prog W0 M 50 [.string a4] W60 fun v76 W77=>
 ∃s78:Sl,
 ∃b79:Bool,
 ∃s80:Sl,
 ∃b81:Bool,
 ∃s82:Sl,
 ∃s83:Sl,
 ∃b84:Bool,
 v76 = .tuple ⟨[.agg ⟨[s78.v,.bool b79,s80.v]⟩,.agg ⟨[.bool b81,s82.v,s83.v]⟩,.bool b84]⟩∧
 ((!b41)=true→callN Tryz.prog W0 M 46 [] W77 fun v85 W86=>∃b87:Bool,v85 = .bool b87∧∀(W88:PW),Ext W86 W88→Post (.bool b87) W88)∧
 ((!b41)=false→
 ((!b58)=true→
 callN Tryz.prog W0 M 46 [] W77 fun v89 W90=>∃b91:Bool,v89 = .bool b91∧∀(W92:PW),Ext W90 W92→Post (.bool b91) W92)∧
 ((!b58)=false→
 ((!b75)=true→
 callN Tryz.prog W0 M 46 [] W77 fun v93 W94=>∃b95:Bool,v93 = .bool b95∧∀(W96:PW),Ext W94 W96→Post (.bool b95) W96)∧
 ((!b75)=false→
 ((!b84)=true→
 callN Tryz.prog W0 M 46 [] W77 fun v97 W98=>∃b99:Bool,v97 = .bool b99∧∀(W100:PW),Ext W98 W100→Post (.bool b99) W100)∧
 ((!b84)=false→
 callN Tryz.prog W0 M 46 [] W77 fun v101 W102=>
 ∃b103:Bool,
 v101 = .bool b103∧
 ((!b103)=true→
 callN Tryz.prog W0 M 46 [] W102 fun v104 W105=>
 ∃b106:Bool,v104 = .bool b106∧∀(W107:PW),Ext W105 W107→Post (.bool b106) W107)∧
 ((!b103)=false→
 callN Tryz.prog W0 M 51
 [.agg
 {
 toList:=
 [s3.v,.bool b4,s5.v,s6.v,.bool b7,s8.v,s9.v,.bool b10,s11.v,s12.v,.bool b13,
 s14.v,s15.v,.bool b16,s17.v,s18.v,.bool b19,s20.v,.int .i64 i21] },
 .agg ⟨[s44.v]⟩]
 W102 fun v108 W109=>
 ∃s110:Sl,
 ∃s111:Sl,
 ∃b112:Bool,
 ∃s113:Sl,
 ∃s114:Sl,
 ∃b115:Bool,
 ∃s116:Sl,
 ∃b117:Bool,
 v108 =
 .tuple
 {
 toList:=
 [.agg ⟨[s110.v,s111.v,.bool b112,s113.v,s114.v,.bool b115,s116.v]⟩,.bool b117] }∧
 callN Tryz.prog W0 M 52
 [.agg
 {
 toList:=
 [.bool b22,s23.v,s24.v,.bool b25,s26.v,s27.v,.bool b28,s29.v,s30.v,.bool b31,
 s32.v,s33.v,.bool b34,s35.v,s36.v,.bool b37,s38.v,s39.v,.int .i64 i40] },
 s51.v]
 W109 fun v118 W119=>
 ∃s120:Sl,
 ∃b121:Bool,
 ∃s122:Sl,
 ∃s123:Sl,
 ∃b124:Bool,
 ∃s125:Sl,
 ∃s126:Sl,
 ∃b127:Bool,
 v118 =
 .tuple
 {
 toList:=
 [.agg ⟨[s120.v,.bool b121,s122.v,s123.v,.bool b124,s125.v,s126.v]⟩,
 .bool b127] }∧
 callN Tryz.prog W0 M 53
 [.agg
 {
 toList:=
 [s3.v,.bool b4,s5.v,s6.v,.bool b7,s8.v,s9.v,.bool b10,s11.v,
 s12.v,.bool b13,s14.v,s15.v,.bool b16,s17.v,s18.v,.bool b19,s20.v,
 .int .i64 i21] },
 .agg ⟨[s44.v,s45.v,.bool b46,s47.v,s48.v,.bool b49,s50.v]⟩,
 .agg ⟨[s61.v,s62.v,.bool b63,s64.v,s65.v,.bool b66,s67.v]⟩]
 W119 fun v128 W129=>
 ∃s130:Sl,
 ∃s131:Sl,
 ∃b132:Bool,
 ∃s133:Sl,
 ∃s134:Sl,
 ∃b135:Bool,
 ∃s136:Sl,
 ∃b137:Bool,
 v128 =
 .tuple
 {
 toList:=
 [.agg
 {
 toList:=
 [s130.v,s131.v,.bool b132,s133.v,s134.v,.bool b135,s136.v] },
 .bool b137] }∧
 callN Tryz.prog W0 M 54
 [.agg
 {
 toList:=
 [.bool b22,s23.v,s24.v,.bool b25,s26.v,s27.v,.bool b28,
 s29.v,s30.v,.bool b31,s32.v,s33.v,.bool b34,s35.v,s36.v,
 .bool b37,s38.v,s39.v,.int .i64 i40] },
 .agg
 ⟨[s51.v,.bool b52,s53.v,s54.v,.bool b55,s56.v,s57.v]⟩,
 .agg
 ⟨[s68.v,.bool b69,s70.v,s71.v,.bool b72,s73.v,s74.v]⟩]
 W129 fun v138 W139=>
 ∃s140:Sl,
 ∃b141:Bool,
 ∃s142:Sl,
 ∃s143:Sl,
 ∃b144:Bool,
 ∃s145:Sl,
 ∃s146:Sl,
 ∃b147:Bool,
 v138 =
 .tuple
 {
 toList:=
 [.agg
 {
 toList:=
 [s140.v,.bool b141,s142.v,s143.v,.bool b144,s145.v,
 s146.v] },
 .bool b147] }∧
 callN Tryz.prog W0 M 55
 [.agg
 {
 toList:=
 [s3.v,.bool b4,s5.v,s6.v,.bool b7,s8.v,s9.v,
 .bool b10,s11.v,s12.v,.bool b13,s14.v,s15.v,
 .bool b16,s17.v,s18.v,.bool b19,s20.v,
 .int .i64 i21] },
 .agg
 {
 toList:=
 [s44.v,s45.v,.bool b46,s47.v,s48.v,.bool b49,
 s50.v] }]
 W139 fun v148 W149=>
 ∃s150:Sl,
 ∃b151:Bool,
 ∃s152:Sl,
 ∃s153:Sl,
 ∃b154:Bool,
 ∃s155:Sl,
 ∃b156:Bool,
 v148 =
 .tuple
 {
 toList:=
 [.agg
 {
 toList:=
 [s150.v,.bool b151,s152.v,s153.v,.bool b154,
 s155.v] },
 .bool b156] }∧
 callN Tryz.prog W0 M 56
 [.agg
 {
 toList:=
 [.bool b22,s23.v,s24.v,.bool b25,s26.v,
 s27.v,.bool b28,s29.v,s30.v,.bool b31,
 s32.v,s33.v,.bool b34,s35.v,s36.v,
 .bool b37,s38.v,s39.v,.int .i64 i40] }]
 W149 fun v157 W158=>
 ∃b159:Bool,
 v157 = .bool b159∧
 (b159=true→
 callN Tryz.prog W0 M 58
 [s51.v,
 .agg
 {
 toList:=
 [.bool b22,s23.v,s24.v,.bool b25,s26.v,
 s27.v,.bool b28,s29.v,s30.v,.bool b31,
 s32.v,s33.v,.bool b34,s35.v,s36.v,
 .bool b37,s38.v,s39.v] }]
 W158 fun v160 W161=>
 ∃b162:Bool,
 ∃s163:Sl,
 ∃s164:Sl,
 ∃b165:Bool,
 ∃s166:Sl,
 ∃s167:Sl,
 v160 =
 .agg
 {
 toList:=
 [.bool b162,s163.v,s164.v,.bool b165,
 s166.v,s167.v] }∧
 callN Tryz.prog W0 M 57
 [.agg
 {
 toList:=
 [.bool b162,s163.v,s164.v,
 .bool b165,s166.v,s167.v] },
 .agg
 {
 toList:=
 [.bool b52,s53.v,s54.v,.bool b55,
 s56.v,s57.v] }]
 W161 fun v168 W169=>
 ∃b170:Bool,
 ∃s171:Sl,
 ∃s172:Sl,
 ∃b173:Bool,
 ∃s174:Sl,
 ∃s175:Sl,
 v168 =
 .agg
 {
 toList:=
 [.bool b170,s171.v,s172.v,
 .bool b173,s174.v,
 s175.v] }∧
 callN Tryz.prog W0 M 59
 [.agg
 {
 toList:=
 [s3.v,.bool b4,s5.v,
 s6.v,.bool b7,s8.v,
 s9.v,.bool b10,s11.v,
 s12.v,.bool b13,s14.v,
 s15.v,.bool b16,s17.v,
 s18.v,.bool b19,s20.v,
 .int .i64 i21] }]
 W169 fun v176 W177=>
 ∃b178:Bool,
 v176 = .bool b178∧
 (b178=b159→
 callN Tryz.prog W0 M 49
 [.agg
 {
 toList:=
 [s110.v,s111.v,
 .bool b112,s113.v,
 s114.v,.bool b115,
 s116.v] },
 .bool b117,
 .agg
 {
 toList:=
 [s120.v,.bool b121,
 s122.v,s123.v,
 .bool b124,s125.v,
 s126.v] },
 .bool b127]
 W177 fun v179 W180=>
 ∃b181:Bool,
 v179 = .bool b181∧
 (b181=true→
 callN Tryz.prog W0 M
 49
 [.agg
 {
 toList:=
 [s130.v,s131.v,
 .bool b132,
 s133.v,s134.v,
 .bool b135,
 s136.v] },
 .bool b137,
 .agg
 {
 toList:=
 [s140.v,
 .bool b141,
 s142.v,s143.v,
 .bool b144,
 s145.v,
 s146.v] },
 .bool b147]
 W180
 fun v182 W183=>
 ∃b184:Bool,
 v182 = .bool b184∧
 (b184=true→
 (b156=b159→
 callN Tryz.prog
 W0 M 60
 [.agg
 {
 toList:=
 [s150.v,
 .bool b151,
 s152.v,
 s153.v,
 .bool b154,
 s155.v] },
 .agg
 {
 toList:=
 [.bool b170,
 s171.v,
 s172.v,
 .bool b173,
 s174.v,
 s175.v] }]
 W183
 fun(v185:Value)
 (W186:PW)=>
 ∃b187:Bool,
 v185 = .bool b187∧
 (b187=true→
 callN
 Tryz.prog
 W0 M 62
 [.agg
 {
 toList:=
 [Sl.v
 s44,
 Sl.v
 s45,
 .bool
 b46,
 Sl.v
 s47,
 Sl.v
 s48,
 .bool
 b49,
 Sl.v
 s50] },
 .agg
 {
 toList:=
 [Sl.v
 s61,
 Sl.v
 s62,
 .bool
 b63,
 Sl.v
 s64,
 Sl.v
 s65,
 .bool
 b66,
 Sl.v
 s67] }]
 W186
 fun
 (v188:Value)
 (W189:
 PW)=>
 ∃s190:Sl,
 ∃(s191:
 Sl),
 ∃b192:Bool,
 ∃(s193:
 Sl),
 ∃(s194:
 Sl),
 ∃(b195:
 Bool),
 ∃(s196
 :
 Sl),
 v188 =
 .agg
 {
 toList:=
 [Sl.v
 s190,
 Sl.v
 s191,
 .bool
 b192,
 Sl.v
 s193,
 Sl.v
 s194,
 .bool
 b195,
 Sl.v
 s196] }∧
 callN
 Tryz.prog
 W0
 M
 (63:
 Nat)
 [.agg
 {
 toList:=
 [Sl.v
 s51,
 .bool
 b52,
 Sl.v
 s53,
 Sl.v
 s54,
 .bool
 b55,
 Sl.v
 s56,
 Sl.v
 s57] },
 .agg
 {
 toList:=
 [Sl.v
 s68,
 .bool
 b69,
 Sl.v
 s70,
 Sl.v
 s71,
 .bool
 b72,
 Sl.v
 s73,
 Sl.v
 s74] }]
 W189
 fun
 (v197:
 Value)
 (W198:
 PW)=>
 ∃
 (s199
 :
 Sl),
 ∃
 (b200
 :
 Bool),
 ∃
 (s201
 :
 Sl),
 ∃
 (s202
 :
 Sl),
 ∃
 (b203
 :
 Bool),
 ∃
 (s204
 :
 Sl),
 ∃
 (s205
 :
 Sl),
 v197 =
 .agg
 {
 toList:=
 [Sl.v
 s199,
 .bool
 b200,
 Sl.v
 s201,
 Sl.v
 s202,
 .bool
 b203,
 Sl.v
 s204,
 Sl.v
 s205] }∧
 callN
 Tryz.prog
 W0
 M
 (61:
 Nat)
 [.agg
 {
 toList:=
 [Sl.v
 s190,
 Sl.v
 s191,
 .bool
 b192,
 Sl.v
 s193,
 Sl.v
 s194,
 .bool
 b195,
 Sl.v
 s196] },
 .agg
 {
 toList:=
 [Sl.v
 s199,
 .bool
 b200,
 Sl.v
 s201,
 Sl.v
 s202,
 .bool
 b203,
 Sl.v
 s204,
 Sl.v
 s205] }]
 W198
 fun
 (v206:
 Value)
 (W207:
 PW)=>
 ∃
 (b208
 :
 Bool),
 v206 =
 .bool
 b208∧
 (b208 =
 true→
 callN
 Tryz.prog
 W0
 M
 (64:
 Nat)
 [.agg
 {
 toList:=
 [Sl.v
 s44,
 Sl.v
 s45,
 .bool
 b46,
 Sl.v
 s47,
 Sl.v
 s48,
 .bool
 b49,
 Sl.v
 s50] },
 .agg
 {
 toList:=
 [Sl.v
 s78,
 .bool
 b79,
 Sl.v
 s80] }]
 W207
 fun
 (v209:
 Value)
 (W210:
 PW)=>
 ∃
 (s211
 :
 Sl),
 ∃
 (s212
 :
 Sl),
 ∃
 (b213
 :
 Bool),
 ∃
 (s214
 :
 Sl),
 ∃
 (s215
 :
 Sl),
 ∃
 (b216
 :
 Bool),
 ∃
 (s217
 :
 Sl),
 v209 =
 .agg
 {
 toList:=
 [Sl.v
 s211,
 Sl.v
 s212,
 .bool
 b213,
 Sl.v
 s214,
 Sl.v
 s215,
 .bool
 b216,
 Sl.v
 s217] }∧
 callN
 Tryz.prog
 W0
 M
 (65:
 Nat)
 [Sl.v
 s51,
 .agg
 {
 toList:=
 [.bool
 b81,
 Sl.v
 s82,
 Sl.v
 s83] }]
 W210
 fun
 (v218:
 Value)
 (W219:
 PW)=>
 ∃
 (s220
 :
 Sl),
 v218 =
 Sl.v
 s220∧
 callN
 Tryz.prog
 W0
 M
 (66:
 Nat)
 [.agg
 {
 toList:=
 [.bool
 b52,
 Sl.v
 s53,
 Sl.v
 s54,
 .bool
 b55,
 Sl.v
 s56,
 Sl.v
 s57] },
 .agg
 {
 toList:=
 [.bool
 b81,
 Sl.v
 s82,
 Sl.v
 s83] }]
 W219
 fun
 (v221:
 Value)
 (W222:
 PW)=>
 ∃
 (b223
 :
 Bool),
 ∃
 (s224
 :
 Sl),
 ∃
 (s225
 :
 Sl),
 ∃
 (b226
 :
 Bool),
 ∃
 (s227
 :
 Sl),
 ∃
 (s228
 :
 Sl),
 v221 =
 .agg
 {
 toList:=
 [.bool
 b223,
 Sl.v
 s224,
 Sl.v
 s225,
 .bool
 b226,
 Sl.v
 s227,
 Sl.v
 s228] }∧
 callN
 Tryz.prog
 W0
 M
 (61:
 Nat)
 [.agg
 {
 toList:=
 [Sl.v
 s211,
 Sl.v
 s212,
 .bool
 b213,
 Sl.v
 s214,
 Sl.v
 s215,
 .bool
 b216,
 Sl.v
 s217] },
 .agg
 {
 toList:=
 [Sl.v
 s220,
 .bool
 b223,
 Sl.v
 s224,
 Sl.v
 s225,
 .bool
 b226,
 Sl.v
 s227,
 Sl.v
 s228] }]
 W222
 fun
 (v229:
 Value)
 (W230:
 PW)=>
 ∃
 (b231
 :
 Bool),
 v229 =
 .bool
 b231∧
 ∀
 (W232:
 PW),
 Ext
 W230
 W232→
 Post
 (.bool
 b231)
 W232)∧
 (b208 =
 false→
 Ext
 W207
 W207∧
 Ext
 W207
 W207∧
 ∀
 (W233:
 PW),
 Ext
 W207
 W233→
 Post
 (.bool
 false)
 W233))∧
 (b187=false→
 Ext W186 W186∧
 Ext W186
 W186∧
 ∀
 (W234:
 PW),
 Ext W186
 W234→
 Post
 (.bool
 false)
 W234))∧
 (¬b156=b159→
 Ext W183 W183∧
 Ext W183 W183∧
 ∀(W235:PW),
 Ext W183 W235→
 Post
 (.bool
 false)
 W235))∧
 (b184=false→
 Ext W183 W183∧
 Ext W183 W183∧
 ∀(W236:PW),
 Ext W183 W236→
 Post
 (.bool false)
 W236))∧
 (b181=false→
 Ext W180 W180∧
 Ext W180 W180∧
 ∀(W237:PW),
 Ext W180 W237→
 Post (.bool false)
 W237))∧
 (¬b178=b159→
 Ext W177 W177∧
 Ext W177 W177∧
 ∀(W238:PW),
 Ext W177 W238→
 Post (.bool false) W238))∧
 (b159=false→
 callN Tryz.prog W0 M 59
 [.agg
 {
 toList:=
 [s3.v,.bool b4,s5.v,s6.v,.bool b7,
 s8.v,s9.v,.bool b10,s11.v,s12.v,
 .bool b13,s14.v,s15.v,.bool b16,s17.v,
 s18.v,.bool b19,s20.v,.int .i64 i21] }]
 W158 fun v239 W240=>
 ∃b241:Bool,
 v239 = .bool b241∧
 (b241=b159→
 callN Tryz.prog W0 M 49
 [.agg
 {
 toList:=
 [s110.v,s111.v,.bool b112,s113.v,
 s114.v,.bool b115,s116.v] },
 .bool b117,
 .agg
 {
 toList:=
 [s120.v,.bool b121,s122.v,s123.v,
 .bool b124,s125.v,s126.v] },
 .bool b127]
 W240 fun v242 W243=>
 ∃b244:Bool,
 v242 = .bool b244∧
 (b244=true→
 callN Tryz.prog W0 M 49
 [.agg
 {
 toList:=
 [s130.v,s131.v,.bool b132,
 s133.v,s134.v,.bool b135,
 s136.v] },
 .bool b137,
 .agg
 {
 toList:=
 [s140.v,.bool b141,s142.v,
 s143.v,.bool b144,s145.v,
 s146.v] },
 .bool b147]
 W243 fun v245 W246=>
 ∃b247:Bool,
 v245 = .bool b247∧
 (b247=true→
 (b156=b159→
 callN Tryz.prog W0 M 60
 [.agg
 {
 toList:=
 [s150.v,.bool b151,s152.v,
 s153.v,.bool b154,
 s155.v] },
 .agg
 {
 toList:=
 [.bool false,
 .slice none 0 0,
 .slice none 0 0,
 .bool false,
 .slice none 0 0,
 .slice none 0 0] }]
 W246 fun v248 W249=>
 ∃b250:Bool,
 v248 = .bool b250∧
 (b250=true→
 callN Tryz.prog W0 M 62
 [.agg
 {
 toList:=
 [s44.v,s45.v,
 .bool b46,s47.v,
 s48.v,.bool b49,
 s50.v] },
 .agg
 {
 toList:=
 [s61.v,s62.v,
 .bool b63,s64.v,
 s65.v,.bool b66,
 s67.v] }]
 W249 fun v251 W252=>
 ∃s253:Sl,
 ∃s254:Sl,
 ∃b255:Bool,
 ∃s256:Sl,
 ∃s257:Sl,
 ∃b258:Bool,
 ∃s259:Sl,
 v251 =
 .agg
 {
 toList:=
 [s253.v,
 s254.v,
 .bool b255,
 s256.v,
 s257.v,
 .bool b258,
 s259.v] }∧
 callN Tryz.prog W0 M
 63
 [.agg
 {
 toList:=
 [s51.v,
 .bool b52,
 s53.v,
 s54.v,
 .bool b55,
 s56.v,
 s57.v] },
 .agg
 {
 toList:=
 [s68.v,
 .bool b69,
 s70.v,
 s71.v,
 .bool b72,
 s73.v,
 s74.v] }]
 W252
 fun(v260:Value)
 (W261:PW)=>
 ∃s262:Sl,
 ∃b263:Bool,
 ∃s264:Sl,
 ∃s265:Sl,
 ∃b266:Bool,
 ∃s267:Sl,
 ∃s268:Sl,
 v260 =
 .agg
 {
 toList:=
 [Sl.v
 s262,
 .bool
 b263,
 Sl.v
 s264,
 Sl.v
 s265,
 .bool
 b266,
 Sl.v
 s267,
 Sl.v
 s268] }∧
 callN
 Tryz.prog
 W0 M 61
 [.agg
 {
 toList:=
 [Sl.v
 s253,
 Sl.v
 s254,
 .bool
 b255,
 Sl.v
 s256,
 Sl.v
 s257,
 .bool
 b258,
 Sl.v
 s259] },
 .agg
 {
 toList:=
 [Sl.v
 s262,
 .bool
 b263,
 Sl.v
 s264,
 Sl.v
 s265,
 .bool
 b266,
 Sl.v
 s267,
 Sl.v
 s268] }]
 W261
 fun
 (v269:
 Value)
 (W270:
 PW)=>
 ∃b271:Bool,
 v269 =
 .bool
 b271∧
 (b271 =
 true→
 callN
 Tryz.prog
 W0 M
 (64:
 Nat)
 [.agg
 {
 toList:=
 [Sl.v
 s44,
 Sl.v
 s45,
 .bool
 b46,
 Sl.v
 s47,
 Sl.v
 s48,
 .bool
 b49,
 Sl.v
 s50] },
 .agg
 {
 toList:=
 [Sl.v
 s78,
 .bool
 b79,
 Sl.v
 s80] }]
 W270
 fun
 (v272:
 Value)
 (W273:
 PW)=>
 ∃
 (s274
 :
 Sl),
 ∃
 (s275
 :
 Sl),
 ∃
 (b276
 :
 Bool),
 ∃
 (s277
 :
 Sl),
 ∃
 (s278
 :
 Sl),
 ∃
 (b279
 :
 Bool),
 ∃
 (s280
 :
 Sl),
 v272 =
 .agg
 {
 toList:=
 [Sl.v
 s274,
 Sl.v
 s275,
 .bool
 b276,
 Sl.v
 s277,
 Sl.v
 s278,
 .bool
 b279,
 Sl.v
 s280] }∧
 callN
 Tryz.prog
 W0
 M
 (65:
 Nat)
 [Sl.v
 s51,
 .agg
 {
 toList:=
 [.bool
 b81,
 Sl.v
 s82,
 Sl.v
 s83] }]
 W273
 fun
 (v281:
 Value)
 (W282:
 PW)=>
 ∃
 (s283
 :
 Sl),
 v281 =
 Sl.v
 s283∧
 callN
 Tryz.prog
 W0
 M
 (66:
 Nat)
 [.agg
 {
 toList:=
 [.bool
 b52,
 Sl.v
 s53,
 Sl.v
 s54,
 .bool
 b55,
 Sl.v
 s56,
 Sl.v
 s57] },
 .agg
 {
 toList:=
 [.bool
 b81,
 Sl.v
 s82,
 Sl.v
 s83] }]
 W282
 fun
 (v284:
 Value)
 (W285:
 PW)=>
 ∃
 (b286
 :
 Bool),
 ∃
 (s287
 :
 Sl),
 ∃
 (s288
 :
 Sl),
 ∃
 (b289
 :
 Bool),
 ∃
 (s290
 :
 Sl),
 ∃
 (s291
 :
 Sl),
 v284 =
 .agg
 {
 toList:=
 [.bool
 b286,
 Sl.v
 s287,
 Sl.v
 s288,
 .bool
 b289,
 Sl.v
 s290,
 Sl.v
 s291] }∧
 callN
 Tryz.prog
 W0
 M
 (61:
 Nat)
 [.agg
 {
 toList:=
 [Sl.v
 s274,
 Sl.v
 s275,
 .bool
 b276,
 Sl.v
 s277,
 Sl.v
 s278,
 .bool
 b279,
 Sl.v
 s280] },
 .agg
 {
 toList:=
 [Sl.v
 s283,
 .bool
 b286,
 Sl.v
 s287,
 Sl.v
 s288,
 .bool
 b289,
 Sl.v
 s290,
 Sl.v
 s291] }]
 W285
 fun
 (v292:
 Value)
 (W293:
 PW)=>
 ∃
 (b294
 :
 Bool),
 v292 =
 .bool
 b294∧
 ∀
 (W295:
 PW),
 Ext
 W293
 W295→
 Post
 (.bool
 b294)
 W295)∧
 (b271 =
 false→
 Ext
 W270
 W270∧
 Ext
 W270
 W270∧
 ∀
 (W296:
 PW),
 Ext
 W270
 W296→
 Post
 (.bool
 false)
 W296))∧
 (b250=false→
 Ext W249 W249∧
 Ext W249 W249∧
 ∀(W297:PW),
 Ext W249 W297→
 Post (.bool false) W297))∧
 (¬b156=b159→
 Ext W246 W246∧
 Ext W246 W246∧
 ∀(W298:PW),
 Ext W246 W298→
 Post (.bool false) W298))∧
 (b247=false→
 Ext W246 W246∧
 Ext W246 W246∧
 ∀(W299:PW),
 Ext W246 W299→Post (.bool false) W299))∧
 (b244=false→
 Ext W243 W243∧
 Ext W243 W243∧
 ∀(W300:PW),
 Ext W243 W300→Post (.bool false) W300))∧
 (¬b241=b159→
 Ext W240 W240∧
 Ext W240 W240∧
 ∀(W301:PW),
 Ext W240 W301→Post (.bool false) W301)))))))
theorem calllaw15_TmodTells (W0:PW) (M:Nat→Prop) (a0_0:ByteArray) (a0_1:ByteArray) (a0_2:ByteArray) (a0_3:ByteArray) (a0_4:ByteArray) (a0_5:ByteArray) (a1:Int) (a2_0:Sl) (a2_1:ByteArray) (a2_2:ByteArray) (a3_0:Sl) (a3_1:ByteArray) (a3_2:ByteArray) (a4:ByteArray) (Post:Value→PW→Prop) (h:Rlaw15_TmodTells W0 M a0_0 a0_1 a0_2 a0_3 a0_4 a0_5 a1 a2_0 a2_1 a2_2 a3_0 a3_1 a3_2 a4 Post):PCallsM Tryz.prog 8 [.agg #[.string a0_0,.string a0_1,.string a0_2,.string a0_3,.string a0_4,.string a0_5],.int .i64 a1,.agg #[a2_0.v,.string a2_1,.string a2_2],.agg #[a3_0.v,.string a3_1,.string a3_2],.string a4] W0 M Post:=
 fn_sound rfl tt_ok tt_in Tryz.func8 (cuts:=[]) rfl rfl (Nat.le_of_ble_eq_true rfl) (Eq.mpr (by kernel_rfl) h)
end Go.Proofs.YthpmkcidkcmlgaaGreat
