/- R16 -/
import Derived.Test.YthpmkcidkcmlgaaGreatTt
set_option linter.unusedVariables false
set_option linter.unusedSimpArgs false
set_option maxRecDepth 100000
set_option linter.unusedVariables false
namespace Go.Proofs.YthpmkcidkcmlgaaGreat
open Go Go.SX
def Rlaw15_TmodExact (W0:PW) (M:Nat→Prop) (a0_0:ByteArray) (a0_1:ByteArray) (a0_2:ByteArray) (a0_3:ByteArray) (a0_4:ByteArray) (a0_5:ByteArray) (a1:Sl) (a2:Sl) (a3:Sl) (Post:Value→PW→Prop):Prop:=
 ((0:Int)≤2∧(2:Int)<3)∧
 callN Tryz.prog W0 M 44 [.agg ⟨[.string a0_0,.string a0_1,.string a0_2,.string a0_3,.string (ByteArray.mk #[48]),.string a0_5]⟩,.int .i64 8] W0 fun v1 W2=>
 ∃s3:Sl,
 ∃b4:Bool,
 ∃s5:Sl,
 ∃s6:Sl,
 ∃b7:Bool,
 ∃s8:Sl,
 ∃s9:Sl,
 ∃b10:Bool,
 ∃s11:Sl,
 ∃s12:Sl,
 ∃b13:Bool,
 ∃s14:Sl,
 ∃s15:Sl,
 ∃b16:Bool,
 ∃s17:Sl,
 ∃s18:Sl,
 ∃b19:Bool,
 ∃s20:Sl,
 ∃i21:Int,
 ∃b22:Bool,
 ∃s23:Sl,
 ∃s24:Sl,
 ∃b25:Bool,
 ∃s26:Sl,
 ∃s27:Sl,
 ∃b28:Bool,
 ∃s29:Sl,
 ∃s30:Sl,
 ∃b31:Bool,
 ∃s32:Sl,
 ∃s33:Sl,
 ∃b34:Bool,
 ∃s35:Sl,
 ∃s36:Sl,
 ∃b37:Bool,
 ∃s38:Sl,
 ∃s39:Sl,
 ∃i40:Int,
 ∃b41:Bool,
 v1 =
 .tuple
 {
 toList:=
 [.agg
 {
 toList:=
 [s3.v,.bool b4,s5.v,s6.v,.bool b7,s8.v,s9.v,.bool b10,s11.v,s12.v,.bool b13,s14.v,s15.v,.bool b16,s17.v,s18.v,.bool b19,s20.v,
 .int .i64 i21] },
 .agg
 {
 toList:=
 [.bool b22,s23.v,s24.v,.bool b25,s26.v,s27.v,.bool b28,s29.v,s30.v,.bool b31,s32.v,s33.v,.bool b34,s35.v,s36.v,.bool b37,s38.v,
 s39.v,.int .i64 i40] },
 .bool b41] }∧
 callN Tryz.prog W0 M 12 [a1.v,.int .i64 1] W2 fun v42 W43=>
 ∃s44:Sl,
 ∃s45:Sl,
 ∃b46:Bool,
 v42 = .tuple ⟨[.agg ⟨[s44.v]⟩,s45.v,.bool b46]⟩∧
 callN Tryz.prog W0 M 12 [a2.v,.int .i64 1] W43 fun v47 W48=>
 ∃s49:Sl,
 ∃s50:Sl,
 ∃b51:Bool,
 v47 = .tuple ⟨[.agg ⟨[s49.v]⟩,s50.v,.bool b51]⟩∧
 callN Tryz.prog W0 M 12 [a3.v,.int .i64 1] W48 fun v52 W53=>
 ∃s54:Sl,
 ∃s55:Sl,
 ∃b56:Bool,
 v52 = .tuple ⟨[.agg ⟨[s54.v]⟩,s55.v,.bool b56]⟩∧
 ((!b41)=true→callN Tryz.prog W0 M 46 [] W53 fun v57 W58=>∃b59:Bool,v57 = .bool b59∧∀(W60:PW),Ext W58 W60→Post (.bool b59) W60)∧
 ((!b41)=false→
 ((!b46)=true→callN Tryz.prog W0 M 46 [] W53 fun v61 W62=>∃b63:Bool,v61 = .bool b63∧∀(W64:PW),Ext W62 W64→Post (.bool b63) W64)∧
 ((!b46)=false→
 ((!b51)=true→callN Tryz.prog W0 M 46 [] W53 fun v65 W66=>∃b67:Bool,v65 = .bool b67∧∀(W68:PW),Ext W66 W68→Post (.bool b67) W68)∧
 ((!b51)=false→
 ((!b56)=true→callN Tryz.prog W0 M 46 [] W53 fun v69 W70=>∃b71:Bool,v69 = .bool b71∧∀(W72:PW),Ext W70 W72→Post (.bool b71) W72)∧
 ((!b56)=false→
 callN Tryz.prog W0 M 46 [] W53 fun v73 W74=>
 ∃b75:Bool,
 v73 = .bool b75∧
 ((!b75)=true→callN Tryz.prog W0 M 46 [] W74 fun v76 W77=>∃b78:Bool,v76 = .bool b78∧∀(W79:PW),Ext W77 W79→Post (.bool b78) W79)∧
 ((!b75)=false→
 callN Tryz.prog W0 M 56
 [.agg
 {
 toList:=
 [.bool b22,s23.v,s24.v,.bool b25,s26.v,s27.v,.bool b28,s29.v,s30.v,.bool b31,s32.v,s33.v,.bool b34,s35.v,
 s36.v,.bool b37,s38.v,s39.v,.int .i64 i40] }]
 W74 fun v80 W81=>
 ∃b82:Bool,
 v80 = .bool b82∧
 ((!b82)=true→callN Tryz.prog W0 M 46 [] W81 fun v83 W84=>∃b85:Bool,v83 = .bool b85∧∀(W86:PW),Ext W84 W86→Post (.bool b85) W86)∧
 ((!b82)=false→
 callN Tryz.prog W0 M 75 [.agg ⟨[s44.v]⟩] W81 fun v87 W88=>
 ∃i89:Int,
 v87 = .int .i64 i89∧
 (2<i89→callN Tryz.prog W0 M 46 [] W88 fun v90 W91=>∃b92:Bool,v90 = .bool b92∧∀(W93:PW),Ext W91 W93→Post (.bool b92) W93)∧
 (¬2<i89→
 callN Tryz.prog W0 M 75 [.agg ⟨[s49.v]⟩] W88 fun v94 W95=>
 ∃i96:Int,
 v94 = .int .i64 i96∧
 (2<i96→callN Tryz.prog W0 M 46 [] W95 fun v97 W98=>∃b99:Bool,v97 = .bool b99∧∀(W100:PW),Ext W98 W100→Post (.bool b99) W100)∧
 (¬2<i96→
 callN Tryz.prog W0 M 75 [.agg ⟨[s54.v]⟩] W95 fun v101 W102=>
 ∃i103:Int,
 v101 = .int .i64 i103∧
 (2<i103→
 callN Tryz.prog W0 M 46 [] W102 fun v104 W105=>∃b106:Bool,v104 = .bool b106∧∀(W107:PW),Ext W105 W107→Post (.bool b106) W107)∧
 (¬2<i103→
 I64 ((a1.2:Int)+(a2.2:Int))∧
 I64 ((a1.2:Int)+(a2.2:Int)+(a3.2:Int))∧
 (12<(a1.2:Int)+(a2.2:Int)+(a3.2:Int)→
 callN Tryz.prog W0 M 46 [] W102 fun v108 W109=>
 ∃b110:Bool,v108 = .bool b110∧∀(W111:PW),Ext W109 W111→Post (.bool b110) W111)∧
 (¬12<(a1.2:Int)+(a2.2:Int)+(a3.2:Int)→
 callN Tryz.prog W0 M 17 [.int .i64 2] W102 fun v112 W113=>
 ∃s114:Sl,
 v112 = .agg ⟨[s114.v]⟩∧
 callN Tryz.prog W0 M 68
 [.agg
 {
 toList:=
 [s3.v,.bool b4,s5.v,s6.v,.bool b7,s8.v,s9.v,.bool b10,s11.v,s12.v,.bool b13,
 s14.v,s15.v,.bool b16,s17.v,s18.v,.bool b19,s20.v,.int .i64 i21] },
 .agg ⟨[s44.v]⟩,
 .agg
 {
 toList:=
 [s49.v,.slice none 0 0,.bool false,.slice none 0 0,.slice none 0 0,
 .bool false,.slice none 0 0,s54.v,.slice none 0 0,.bool false,
 .slice none 0 0,.slice none 0 0,.bool false,.slice none 0 0,s114.v,
 .slice none 0 0,.bool false,.slice none 0 0,.slice none 0 0,
 .bool false,.slice none 0 0] }]
 W113 fun v115 W116=>
 ∃s117:Sl,
 ∃s118:Sl,
 ∃b119:Bool,
 ∃s120:Sl,
 ∃s121:Sl,
 ∃b122:Bool,
 ∃s123:Sl,
 ∃b124:Bool,
 v115 =
 .tuple
 {
 toList:=
 [.agg ⟨[s117.v,s118.v,.bool b119,s120.v,s121.v,.bool b122,s123.v]⟩,.bool b124] }∧
 callN Tryz.prog W0 M 17 [.int .i64 2] W116 fun v125 W126=>
 ∃s127:Sl,
 v125 = .agg ⟨[s127.v]⟩∧
 callN Tryz.prog W0 M 76 [.agg ⟨[s44.v]⟩,.agg ⟨[s49.v,s54.v,s127.v]⟩] W126
 fun v128 W129=>
 ∃s130:Sl,
 ∃b131:Bool,
 v128 = .tuple ⟨[.agg ⟨[s130.v]⟩,.bool b131]⟩∧
 callN Tryz.prog W0 M 47
 [.agg
 {
 toList:=
 [s3.v,.bool b4,s5.v,s6.v,.bool b7,s8.v,s9.v,.bool b10,s11.v,s12.v,
 .bool b13,s14.v,s15.v,.bool b16,s17.v,s18.v,.bool b19,s20.v,
 .int .i64 i21] },
 .agg
 {
 toList:=
 [s49.v,.slice none 0 0,.bool false,.slice none 0 0,
 .slice none 0 0,.bool false,.slice none 0 0] }]
 W129 fun v132 W133=>
 ∃s134:Sl,
 ∃s135:Sl,
 ∃b136:Bool,
 ∃s137:Sl,
 ∃s138:Sl,
 ∃b139:Bool,
 ∃s140:Sl,
 ∃b141:Bool,
 v132 =
 .tuple
 {
 toList:=
 [.agg
 ⟨[s134.v,s135.v,.bool b136,s137.v,s138.v,.bool b139,s140.v]⟩,
 .bool b141] }∧
 (b124=true→
 (b131=true→
 (b141=true→
 callN Tryz.prog W0 M 22 [.agg ⟨[s117.v]⟩,.agg ⟨[s130.v]⟩]
 W133 fun v142 W143=>
 ∃b144:Bool,
 v142 = .bool b144∧
 (b144=true→
 callN Tryz.prog W0 M 60
 [.agg
 ⟨[s118.v,.bool b119,s120.v,s121.v,.bool b122,s123.v]⟩,
 .agg
 {
 toList:=
 [.bool false,.slice none 0 0,
 .slice none 0 0,.bool false,
 .slice none 0 0,.slice none 0 0] }]
 W143 fun v145 W146=>
 ∃b147:Bool,
 v145 = .bool b147∧
 (b147=true→
 callN Tryz.prog W0 M 77
 [.agg ⟨[s134.v]⟩,.int .i64 2] W146
 fun v148 W149=>
 ∃s150:Sl,
 v148 = .agg ⟨[s150.v]⟩∧
 callN Tryz.prog W0 M 22
 [.agg ⟨[s150.v]⟩,.agg ⟨[s49.v]⟩] W149
 fun v151 W152=>
 ∃b153:Bool,
 v151 = .bool b153∧
 (b153=true→
 callN Tryz.prog W0 M 60
 [.agg
 {
 toList:=
 [s135.v,.bool b136,s137.v,s138.v,.bool b139,
 s140.v] },
 .agg
 {
 toList:=
 [.bool false,.slice none 0 0,
 .slice none 0 0,.bool false,
 .slice none 0 0,
 .slice none 0 0] }]
 W152 fun v154 W155=>
 ∃b156:Bool,
 v154 = .bool b156∧
 ∀(W157:PW),Ext W155 W157→Post (.bool b156) W157)∧
 (b153=false→∀(W158:PW),Ext W152 W158→Post (.bool false) W158))∧
 (b147=false→∀(W159:PW),Ext W146 W159→Post (.bool false) W159))∧
 (b144=false→∀(W160:PW),Ext W143 W160→Post (.bool false) W160))∧
 (b141=false→∀(W161:PW),Ext W133 W161→Post (.bool false) W161))∧
 (b131=false→∀(W162:PW),Ext W133 W162→Post (.bool false) W162))∧
 (b124=false→∀(W163:PW),Ext W133 W163→Post (.bool false) W163)))))))))))
theorem calllaw15_TmodExact (W0:PW) (M:Nat→Prop) (a0_0:ByteArray) (a0_1:ByteArray) (a0_2:ByteArray) (a0_3:ByteArray) (a0_4:ByteArray) (a0_5:ByteArray) (a1:Sl) (a2:Sl) (a3:Sl) (Post:Value→PW→Prop) (h:Rlaw15_TmodExact W0 M a0_0 a0_1 a0_2 a0_3 a0_4 a0_5 a1 a2 a3 Post):PCallsM Tryz.prog 11 [.agg #[.string a0_0,.string a0_1,.string a0_2,.string a0_3,.string a0_4,.string a0_5],a1.v,a2.v,a3.v] W0 M Post:=
 fn_sound rfl tt_ok tt_in Tryz.func11 (cuts:=[]) rfl rfl (Nat.le_of_ble_eq_true rfl) (Eq.mpr (by kernel_rfl) h)
end Go.Proofs.YthpmkcidkcmlgaaGreat
