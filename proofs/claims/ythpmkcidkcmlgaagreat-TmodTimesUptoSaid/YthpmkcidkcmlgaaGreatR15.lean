/- R15 -/
import Derived.Test.YthpmkcidkcmlgaaGreatTt
set_option linter.unusedVariables false
set_option linter.unusedSimpArgs false
set_option maxRecDepth 100000
set_option linter.unusedVariables false
namespace Go.Proofs.YthpmkcidkcmlgaaGreat
open Go Go.SX
def Rlaw15_TmodTimes (W0:PW) (M:Nat→Prop) (a0_0:ByteArray) (a0_1:ByteArray) (a0_2:ByteArray) (a0_3:ByteArray) (a0_4:ByteArray) (a0_5:ByteArray) (a1:Int) (a2_0:Sl) (a2_1:ByteArray) (a2_2:ByteArray) (a3:Bool) (Post:Value→PW→Prop):Prop:=
 (a3=true→
 ((0:Int)≤2∧(2:Int)<3)∧
 callN Tryz.prog W0 M 44 [.agg ⟨[.string a0_0,.string a0_1,.string a0_2,.string a0_3,.string (ByteArray.mk #[48]),.string a0_5]⟩,.int .i64 a1] W0 fun v1 W2=>
 ∃s3:Sl,
 ∃b4:Bool,
 ∃s5:Sl,
 ∃s6:Sl,
 ∃b7:Bool,
 ∃s8:Sl,
 ∃s9:Sl,
 ∃b10:Bool,
 ∃s11:Sl,
 ∃s12:Sl,
 ∃b13:Bool,
 ∃s14:Sl,
 ∃s15:Sl,
 ∃b16:Bool,
 ∃s17:Sl,
 ∃s18:Sl,
 ∃b19:Bool,
 ∃s20:Sl,
 ∃i21:Int,
 ∃b22:Bool,
 ∃s23:Sl,
 ∃s24:Sl,
 ∃b25:Bool,
 ∃s26:Sl,
 ∃s27:Sl,
 ∃b28:Bool,
 ∃s29:Sl,
 ∃s30:Sl,
 ∃b31:Bool,
 ∃s32:Sl,
 ∃s33:Sl,
 ∃b34:Bool,
 ∃s35:Sl,
 ∃s36:Sl,
 ∃b37:Bool,
 ∃s38:Sl,
 ∃s39:Sl,
 ∃i40:Int,
 ∃b41:Bool,
 v1 =
 .tuple
 {
 toList:=
 [.agg
 {
 toList:=
 [s3.v,.bool b4,s5.v,s6.v,.bool b7,s8.v,s9.v,.bool b10,s11.v,s12.v,.bool b13,s14.v,s15.v,.bool b16,s17.v,s18.v,.bool b19,
 s20.v,.int .i64 i21] },
 .agg
 {
 toList:=
 [.bool b22,s23.v,s24.v,.bool b25,s26.v,s27.v,.bool b28,s29.v,s30.v,.bool b31,s32.v,s33.v,.bool b34,s35.v,s36.v,.bool b37,s38.v,
 s39.v,.int .i64 i40] },
 .bool b41] }∧
 callN Tryz.prog W0 M 45 [.agg ⟨[a2_0.v,.string a2_1,.string a2_2]⟩,.int .i64 6] W2 fun v42 W43=>
 ∃s44:Sl,
 ∃s45:Sl,
 ∃b46:Bool,
 ∃s47:Sl,
 ∃s48:Sl,
 ∃b49:Bool,
 ∃s50:Sl,
 ∃s51:Sl,
 ∃b52:Bool,
 ∃s53:Sl,
 ∃s54:Sl,
 ∃b55:Bool,
 ∃s56:Sl,
 ∃s57:Sl,
 ∃b58:Bool,
 v42 =
 .tuple
 {
 toList:=
 [.agg ⟨[s44.v,s45.v,.bool b46,s47.v,s48.v,.bool b49,s50.v]⟩,
 .agg ⟨[s51.v,.bool b52,s53.v,s54.v,.bool b55,s56.v,s57.v]⟩,.bool b58] }∧
 ((!b41)=true→callN Tryz.prog W0 M 46 [] W43 fun v59 W60=>∃b61:Bool,v59 = .bool b61∧∀(W62:PW),Ext W60 W62→Post (.bool b61) W62)∧
 ((!b41)=false→
 ((!b58)=true→callN Tryz.prog W0 M 46 [] W43 fun v63 W64=>∃b65:Bool,v63 = .bool b65∧∀(W66:PW),Ext W64 W66→Post (.bool b65) W66)∧
 ((!b58)=false→
 callN Tryz.prog W0 M 46 [] W43 fun v67 W68=>
 ∃b69:Bool,
 v67 = .bool b69∧
 ((!b69)=true→callN Tryz.prog W0 M 46 [] W68 fun v70 W71=>∃b72:Bool,v70 = .bool b72∧∀(W73:PW),Ext W71 W73→Post (.bool b72) W73)∧
 ((!b69)=false→
 callN Tryz.prog W0 M 47
 [.agg
 {
 toList:=
 [s3.v,.bool b4,s5.v,s6.v,.bool b7,s8.v,s9.v,.bool b10,s11.v,s12.v,.bool b13,s14.v,s15.v,.bool b16,s17.v,
 s18.v,.bool b19,s20.v,.int .i64 i21] },
 .agg ⟨[s44.v,s45.v,.bool b46,s47.v,s48.v,.bool b49,s50.v]⟩]
 W68 fun v74 W75=>
 ∃s76:Sl,
 ∃s77:Sl,
 ∃b78:Bool,
 ∃s79:Sl,
 ∃s80:Sl,
 ∃b81:Bool,
 ∃s82:Sl,
 ∃b83:Bool,
 v74 = .tuple ⟨[.agg ⟨[s76.v,s77.v,.bool b78,s79.v,s80.v,.bool b81,s82.v]⟩,.bool b83]⟩∧
 callN Tryz.prog W0 M 48
 [.agg
 {
 toList:=
 [.bool b22,s23.v,s24.v,.bool b25,s26.v,s27.v,.bool b28,s29.v,s30.v,.bool b31,s32.v,s33.v,.bool b34,
 s35.v,s36.v,.bool b37,s38.v,s39.v,.int .i64 i40] },
 .agg ⟨[s51.v,.bool b52,s53.v,s54.v,.bool b55,s56.v,s57.v]⟩]
 W75 fun v84 W85=>
 ∃s86:Sl,
 ∃b87:Bool,
 ∃s88:Sl,
 ∃s89:Sl,
 ∃b90:Bool,
 ∃s91:Sl,
 ∃s92:Sl,
 ∃b93:Bool,
 v84 = .tuple ⟨[.agg ⟨[s86.v,.bool b87,s88.v,s89.v,.bool b90,s91.v,s92.v]⟩,.bool b93]⟩∧
 callN Tryz.prog W0 M 49
 [.agg ⟨[s76.v,s77.v,.bool b78,s79.v,s80.v,.bool b81,s82.v]⟩,.bool b83,
 .agg ⟨[s86.v,.bool b87,s88.v,s89.v,.bool b90,s91.v,s92.v]⟩,.bool b93]
 W85 fun v94 W95=>∃b96:Bool,v94 = .bool b96∧∀(W97:PW),Ext W95 W97→Post (.bool b96) W97))))∧
 (a3=false→
 callN Tryz.prog W0 M 44 [.agg ⟨[.string a0_0,.string a0_1,.string a0_2,.string a0_3,.string a0_4,.string a0_5]⟩,.int .i64 a1] W0 fun v98 W99=>
 ∃s100:Sl,
 ∃b101:Bool,
 ∃s102:Sl,
 ∃s103:Sl,
 ∃b104:Bool,
 ∃s105:Sl,
 ∃s106:Sl,
 ∃b107:Bool,
 ∃s108:Sl,
 ∃s109:Sl,
 ∃b110:Bool,
 ∃s111:Sl,
 ∃s112:Sl,
 ∃b113:Bool,
 ∃s114:Sl,
 ∃s115:Sl,
 ∃b116:Bool,
 ∃s117:Sl,
 ∃i118:Int,
 ∃b119:Bool,
 ∃s120:Sl,
 ∃s121:Sl,
 ∃b122:Bool,
 ∃s123:Sl,
 ∃s124:Sl,
 ∃b125:Bool,
 ∃s126:Sl,
 ∃s127:Sl,
 ∃b128:Bool,
 ∃s129:Sl,
 ∃s130:Sl,
 ∃b131:Bool,
 ∃s132:Sl,
 ∃s133:Sl,
 ∃b134:Bool,
 ∃s135:Sl,
 ∃s136:Sl,
 ∃i137:Int,
 ∃b138:Bool,
 v98 =
 .tuple
 {
 toList:=
 [.agg
 {
 toList:=
 [s100.v,.bool b101,s102.v,s103.v,.bool b104,s105.v,s106.v,.bool b107,s108.v,s109.v,.bool b110,s111.v,s112.v,.bool b113,s114.v,s115.v,
 .bool b116,s117.v,.int .i64 i118] },
 .agg
 {
 toList:=
 [.bool b119,s120.v,s121.v,.bool b122,s123.v,s124.v,.bool b125,s126.v,s127.v,.bool b128,s129.v,s130.v,.bool b131,s132.v,s133.v,.bool b134,
 s135.v,s136.v,.int .i64 i137] },
 .bool b138] }∧
 callN Tryz.prog W0 M 45 [.agg ⟨[a2_0.v,.string a2_1,.string a2_2]⟩,.int .i64 6] W99 fun v139 W140=>
 ∃s141:Sl,
 ∃s142:Sl,
 ∃b143:Bool,
 ∃s144:Sl,
 ∃s145:Sl,
 ∃b146:Bool,
 ∃s147:Sl,
 ∃s148:Sl,
 ∃b149:Bool,
 ∃s150:Sl,
 ∃s151:Sl,
 ∃b152:Bool,
 ∃s153:Sl,
 ∃s154:Sl,
 ∃b155:Bool,
 v139 =
 .tuple
 {
 toList:=
 [.agg ⟨[s141.v,s142.v,.bool b143,s144.v,s145.v,.bool b146,s147.v]⟩,
 .agg ⟨[s148.v,.bool b149,s150.v,s151.v,.bool b152,s153.v,s154.v]⟩,.bool b155] }∧
 ((!b138)=true→callN Tryz.prog W0 M 46 [] W140 fun v156 W157=>∃b158:Bool,v156 = .bool b158∧∀(W159:PW),Ext W157 W159→Post (.bool b158) W159)∧
 ((!b138)=false→
 ((!b155)=true→callN Tryz.prog W0 M 46 [] W140 fun v160 W161=>∃b162:Bool,v160 = .bool b162∧∀(W163:PW),Ext W161 W163→Post (.bool b162) W163)∧
 ((!b155)=false→
 callN Tryz.prog W0 M 46 [] W140 fun v164 W165=>
 ∃b166:Bool,
 v164 = .bool b166∧
 ((!b166)=true→callN Tryz.prog W0 M 46 [] W165 fun v167 W168=>∃b169:Bool,v167 = .bool b169∧∀(W170:PW),Ext W168 W170→Post (.bool b169) W170)∧
 ((!b166)=false→
 callN Tryz.prog W0 M 47
 [.agg
 {
 toList:=
 [s100.v,.bool b101,s102.v,s103.v,.bool b104,s105.v,s106.v,.bool b107,s108.v,s109.v,.bool b110,s111.v,s112.v,
 .bool b113,s114.v,s115.v,.bool b116,s117.v,.int .i64 i118] },
 .agg ⟨[s141.v,s142.v,.bool b143,s144.v,s145.v,.bool b146,s147.v]⟩]
 W165 fun v171 W172=>
 ∃s173:Sl,
 ∃s174:Sl,
 ∃b175:Bool,
 ∃s176:Sl,
 ∃s177:Sl,
 ∃b178:Bool,
 ∃s179:Sl,
 ∃b180:Bool,
 v171 = .tuple ⟨[.agg ⟨[s173.v,s174.v,.bool b175,s176.v,s177.v,.bool b178,s179.v]⟩,.bool b180]⟩∧
 callN Tryz.prog W0 M 48
 [.agg
 {
 toList:=
 [.bool b119,s120.v,s121.v,.bool b122,s123.v,s124.v,.bool b125,s126.v,s127.v,.bool b128,s129.v,s130.v,
 .bool b131,s132.v,s133.v,.bool b134,s135.v,s136.v,.int .i64 i137] },
 .agg ⟨[s148.v,.bool b149,s150.v,s151.v,.bool b152,s153.v,s154.v]⟩]
 W172 fun v181 W182=>
 ∃s183:Sl,
 ∃b184:Bool,
 ∃s185:Sl,
 ∃s186:Sl,
 ∃b187:Bool,
 ∃s188:Sl,
 ∃s189:Sl,
 ∃b190:Bool,
 v181 = .tuple ⟨[.agg ⟨[s183.v,.bool b184,s185.v,s186.v,.bool b187,s188.v,s189.v]⟩,.bool b190]⟩∧
 callN Tryz.prog W0 M 49
 [.agg ⟨[s173.v,s174.v,.bool b175,s176.v,s177.v,.bool b178,s179.v]⟩,.bool b180,
 .agg ⟨[s183.v,.bool b184,s185.v,s186.v,.bool b187,s188.v,s189.v]⟩,.bool b190]
 W182 fun v191 W192=>∃b193:Bool,v191 = .bool b193∧∀(W194:PW),Ext W192 W194→Post (.bool b193) W194))))
theorem calllaw15_TmodTimes (W0:PW) (M:Nat→Prop) (a0_0:ByteArray) (a0_1:ByteArray) (a0_2:ByteArray) (a0_3:ByteArray) (a0_4:ByteArray) (a0_5:ByteArray) (a1:Int) (a2_0:Sl) (a2_1:ByteArray) (a2_2:ByteArray) (a3:Bool) (Post:Value→PW→Prop) (h:Rlaw15_TmodTimes W0 M a0_0 a0_1 a0_2 a0_3 a0_4 a0_5 a1 a2_0 a2_1 a2_2 a3 Post):PCallsM Tryz.prog 7 [.agg #[.string a0_0,.string a0_1,.string a0_2,.string a0_3,.string a0_4,.string a0_5],.int .i64 a1,.agg #[a2_0.v,.string a2_1,.string a2_2],.bool a3] W0 M Post:=
 fn_sound rfl tt_ok tt_in Tryz.func7 (cuts:=[]) rfl rfl (Nat.le_of_ble_eq_true rfl) (Eq.mpr (by kernel_rfl) h)
end Go.Proofs.YthpmkcidkcmlgaaGreat
