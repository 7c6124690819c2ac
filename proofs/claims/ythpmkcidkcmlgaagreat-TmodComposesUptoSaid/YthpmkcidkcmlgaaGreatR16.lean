/- R16 -/
import Derived.Test.YthpmkcidkcmlgaaGreatTt
set_option linter.unusedVariables false
set_option linter.unusedSimpArgs false
set_option maxRecDepth 100000
set_option linter.unusedVariables false
namespace Go.Proofs.YthpmkcidkcmlgaaGreat
open Go Go.SX
def Rlaw15_TmodComposes (W0:PW) (M:Nat→Prop) (a0_0:ByteArray) (a0_1:ByteArray) (a0_2:ByteArray) (a0_3:ByteArray) (a0_4:ByteArray) (a0_5:ByteArray) (a1:Int) (a2:Sl) (a3_0:Sl) (a3_1:ByteArray) (a3_2:ByteArray) (a4_0:Sl) (a4_1:ByteArray) (a4_2:ByteArray) (a5_0:Sl) (a5_1:ByteArray) (a5_2:ByteArray) (Post:Value→PW→Prop):Prop:=
 callN Tryz.prog W0 M 44 [.agg ⟨[.string a0_0,.string a0_1,.string a0_2,.string a0_3,.string a0_4,.string a0_5]⟩,.int .i64 a1] W0 fun v1 W2=>
 ∃s3:Sl,
 ∃b4:Bool,
 ∃s5:Sl,
 ∃s6:Sl,
 ∃b7:Bool,
 ∃s8:Sl,
 ∃s9:Sl,
 ∃b10:Bool,
 ∃s11:Sl,
 ∃s12:Sl,
 ∃b13:Bool,
 ∃s14:Sl,
 ∃s15:Sl,
 ∃b16:Bool,
 ∃s17:Sl,
 ∃s18:Sl,
 ∃b19:Bool,
 ∃s20:Sl,
 ∃i21:Int,
 ∃b22:Bool,
 ∃s23:Sl,
 ∃s24:Sl,
 ∃b25:Bool,
 ∃s26:Sl,
 ∃s27:Sl,
 ∃b28:Bool,
 ∃s29:Sl,
 ∃s30:Sl,
 ∃b31:Bool,
 ∃s32:Sl,
 ∃s33:Sl,
 ∃b34:Bool,
 ∃s35:Sl,
 ∃s36:Sl,
 ∃b37:Bool,
 ∃s38:Sl,
 ∃s39:Sl,
 ∃i40:Int,
 ∃b41:Bool,
 v1 =
 .tuple
 {
 toList:=
 [.agg
 {
 toList:=
 [s3.v,.bool b4,s5.v,s6.v,.bool b7,s8.v,s9.v,.bool b10,s11.v,s12.v,.bool b13,s14.v,s15.v,.bool b16,s17.v,s18.v,.bool b19,s20.v,
 .int .i64 i21] },
 .agg
 {
 toList:=
 [.bool b22,s23.v,s24.v,.bool b25,s26.v,s27.v,.bool b28,s29.v,s30.v,.bool b31,s32.v,s33.v,.bool b34,s35.v,s36.v,.bool b37,s38.v,
 s39.v,.int .i64 i40] },
 .bool b41] }∧
 callN Tryz.prog W0 M 12 [a2.v,.int .i64 3] W2 fun v42 W43=>
 ∃s44:Sl,
 ∃s45:Sl,
 ∃b46:Bool,
 v42 = .tuple ⟨[.agg ⟨[s44.v]⟩,s45.v,.bool b46]⟩∧
 callN Tryz.prog W0 M 45 [.agg ⟨[a3_0.v,.string a3_1,.string a3_2]⟩,.int .i64 3] W43 fun v47 W48=>
 ∃s49:Sl,
 ∃s50:Sl,
 ∃b51:Bool,
 ∃s52:Sl,
 ∃s53:Sl,
 ∃b54:Bool,
 ∃s55:Sl,
 ∃s56:Sl,
 ∃b57:Bool,
 ∃s58:Sl,
 ∃s59:Sl,
 ∃b60:Bool,
 ∃s61:Sl,
 ∃s62:Sl,
 ∃b63:Bool,
 v47 =
 .tuple
 {
 toList:=
 [.agg ⟨[s49.v,s50.v,.bool b51,s52.v,s53.v,.bool b54,s55.v]⟩,
 .agg ⟨[s56.v,.bool b57,s58.v,s59.v,.bool b60,s61.v,s62.v]⟩,.bool b63] }∧
 callN Tryz.prog W0 M 45 [.agg ⟨[a4_0.v,.string a4_1,.string a4_2]⟩,.int .i64 3] W48 fun v64 W65=>
 ∃s66:Sl,
 ∃s67:Sl,
 ∃b68:Bool,
 ∃s69:Sl,
 ∃s70:Sl,
 ∃b71:Bool,
 ∃s72:Sl,
 ∃s73:Sl,
 ∃b74:Bool,
 ∃s75:Sl,
 ∃s76:Sl,
 ∃b77:Bool,
 ∃s78:Sl,
 ∃s79:Sl,
 ∃b80:Bool,
 v64 =
 .tuple
 {
 toList:=
 [.agg ⟨[s66.v,s67.v,.bool b68,s69.v,s70.v,.bool b71,s72.v]⟩,
 .agg ⟨[s73.v,.bool b74,s75.v,s76.v,.bool b77,s78.v,s79.v]⟩,.bool b80] }∧
 callN Tryz.prog W0 M 45 [.agg ⟨[a5_0.v,.string a5_1,.string a5_2]⟩,.int .i64 3] W65 fun v81 W82=>
 ∃s83:Sl,
 ∃s84:Sl,
 ∃b85:Bool,
 ∃s86:Sl,
 ∃s87:Sl,
 ∃b88:Bool,
 ∃s89:Sl,
 ∃s90:Sl,
 ∃b91:Bool,
 ∃s92:Sl,
 ∃s93:Sl,
 ∃b94:Bool,
 ∃s95:Sl,
 ∃s96:Sl,
 ∃b97:Bool,
 v81 =
 .tuple
 {
 toList:=
 [.agg ⟨[s83.v,s84.v,.bool b85,s86.v,s87.v,.bool b88,s89.v]⟩,
 .agg ⟨[s90.v,.bool b91,s92.v,s93.v,.bool b94,s95.v,s96.v]⟩,.bool b97] }∧
 ((!b41)=true→
 callN Tryz.prog W0 M 46 [] W82 fun v98 W99=>
 ∃b100:Bool,v98 = .bool b100∧∀(W101:PW),Ext W99 W101→Post (.bool b100) W101)∧
 ((!b41)=false→
 ((!b46)=true→
 callN Tryz.prog W0 M 46 [] W82 fun v102 W103=>
 ∃b104:Bool,v102 = .bool b104∧∀(W105:PW),Ext W103 W105→Post (.bool b104) W105)∧
 ((!b46)=false→
 ((!b63)=true→
 callN Tryz.prog W0 M 46 [] W82 fun v106 W107=>
 ∃b108:Bool,v106 = .bool b108∧∀(W109:PW),Ext W107 W109→Post (.bool b108) W109)∧
 ((!b63)=false→
 ((!b80)=true→
 callN Tryz.prog W0 M 46 [] W82 fun v110 W111=>
 ∃b112:Bool,v110 = .bool b112∧∀(W113:PW),Ext W111 W113→Post (.bool b112) W113)∧
 ((!b80)=false→
 ((!b97)=true→
 callN Tryz.prog W0 M 46 [] W82 fun v114 W115=>
 ∃b116:Bool,v114 = .bool b116∧∀(W117:PW),Ext W115 W117→Post (.bool b116) W117)∧
 ((!b97)=false→
 callN Tryz.prog W0 M 46 [] W82 fun v118 W119=>
 ∃b120:Bool,
 v118 = .bool b120∧
 ((!b120)=true→
 callN Tryz.prog W0 M 46 [] W119 fun v121 W122=>
 ∃b123:Bool,v121 = .bool b123∧∀(W124:PW),Ext W122 W124→Post (.bool b123) W124)∧
 ((!b120)=false→
 (5<(a2.2:Int)→
 callN Tryz.prog W0 M 46 [] W119 fun v125 W126=>
 ∃b127:Bool,v125 = .bool b127∧∀(W128:PW),Ext W126 W128→Post (.bool b127) W128)∧
 (¬5<(a2.2:Int)→
 callN Tryz.prog W0 M 67 [s45.v] W119 fun v129 W130=>
 ∃i131:Int,
 v129 = .int .i64 i131∧
 (4<i131→
 callN Tryz.prog W0 M 46 [] W130 fun v132 W133=>
 ∃b134:Bool,v132 = .bool b134∧∀(W135:PW),Ext W133 W135→Post (.bool b134) W135)∧
 (¬4<i131→
 I64 ((a3_0.2:Int)+(a4_0.2:Int))∧
 I64 ((a3_0.2:Int)+(a4_0.2:Int)+(a5_0.2:Int))∧
 (9<(a3_0.2:Int)+(a4_0.2:Int)+(a5_0.2:Int)→
 callN Tryz.prog W0 M 46 [] W130 fun v136 W137=>
 ∃b138:Bool,v136 = .bool b138∧∀(W139:PW),Ext W137 W139→Post (.bool b138) W139)∧
 (¬9<(a3_0.2:Int)+(a4_0.2:Int)+(a5_0.2:Int)→
 callN Tryz.prog W0 M 68
 [.agg
 {
 toList:=
 [s3.v,.bool b4,s5.v,s6.v,.bool b7,s8.v,s9.v,.bool b10,
 s11.v,s12.v,.bool b13,s14.v,s15.v,.bool b16,s17.v,s18.v,
 .bool b19,s20.v,.int .i64 i21] },
 .agg ⟨[s44.v]⟩,
 .agg
 {
 toList:=
 [s49.v,s50.v,.bool b51,s52.v,s53.v,.bool b54,s55.v,s66.v,
 s67.v,.bool b68,s69.v,s70.v,.bool b71,s72.v,s83.v,s84.v,
 .bool b85,s86.v,s87.v,.bool b88,s89.v] }]
 W130 fun v140 W141=>
 ∃s142:Sl,
 ∃s143:Sl,
 ∃b144:Bool,
 ∃s145:Sl,
 ∃s146:Sl,
 ∃b147:Bool,
 ∃s148:Sl,
 ∃b149:Bool,
 v140 =
 .tuple
 {
 toList:=
 [.agg
 {
 toList:=
 [s142.v,s143.v,.bool b144,s145.v,s146.v,.bool b147,
 s148.v] },
 .bool b149] }∧
 callN Tryz.prog W0 M 69
 [.agg
 {
 toList:=
 [.bool b22,s23.v,s24.v,.bool b25,s26.v,s27.v,.bool b28,
 s29.v,s30.v,.bool b31,s32.v,s33.v,.bool b34,s35.v,
 s36.v,.bool b37,s38.v,s39.v,.int .i64 i40] },
 s45.v,
 .agg
 {
 toList:=
 [s56.v,.bool b57,s58.v,s59.v,.bool b60,s61.v,s62.v,
 s73.v,.bool b74,s75.v,s76.v,.bool b77,s78.v,s79.v,
 s90.v,.bool b91,s92.v,s93.v,.bool b94,s95.v,s96.v] }]
 W141 fun v150 W151=>
 ∃s152:Sl,
 ∃b153:Bool,
 ∃s154:Sl,
 ∃s155:Sl,
 ∃b156:Bool,
 ∃s157:Sl,
 ∃s158:Sl,
 ∃b159:Bool,
 v150 =
 .tuple
 {
 toList:=
 [.agg
 {
 toList:=
 [s152.v,.bool b153,s154.v,s155.v,.bool b156,
 s157.v,s158.v] },
 .bool b159] }∧
 callN Tryz.prog W0 M 49
 [.agg
 {
 toList:=
 [s142.v,s143.v,.bool b144,s145.v,s146.v,
 .bool b147,s148.v] },
 .bool b149,
 .agg
 {
 toList:=
 [s152.v,.bool b153,s154.v,s155.v,.bool b156,
 s157.v,s158.v] },
 .bool b159]
 W151 fun v160 W161=>
 ∃b162:Bool,
 v160 = .bool b162∧∀(W163:PW),Ext W161 W163→Post (.bool b162) W163)))))))))
theorem calllaw15_TmodComposes (W0:PW) (M:Nat→Prop) (a0_0:ByteArray) (a0_1:ByteArray) (a0_2:ByteArray) (a0_3:ByteArray) (a0_4:ByteArray) (a0_5:ByteArray) (a1:Int) (a2:Sl) (a3_0:Sl) (a3_1:ByteArray) (a3_2:ByteArray) (a4_0:Sl) (a4_1:ByteArray) (a4_2:ByteArray) (a5_0:Sl) (a5_1:ByteArray) (a5_2:ByteArray) (Post:Value→PW→Prop) (h:Rlaw15_TmodComposes W0 M a0_0 a0_1 a0_2 a0_3 a0_4 a0_5 a1 a2 a3_0 a3_1 a3_2 a4_0 a4_1 a4_2 a5_0 a5_1 a5_2 Post):PCallsM Tryz.prog 9 [.agg #[.string a0_0,.string a0_1,.string a0_2,.string a0_3,.string a0_4,.string a0_5],.int .i64 a1,a2.v,.agg #[a3_0.v,.string a3_1,.string a3_2],.agg #[a4_0.v,.string a4_1,.string a4_2],.agg #[a5_0.v,.string a5_1,.string a5_2]] W0 M Post:=
 fn_sound rfl tt_ok tt_in Tryz.func9 (cuts:=[]) rfl rfl (Nat.le_of_ble_eq_true rfl) (Eq.mpr (by kernel_rfl) h)
end Go.Proofs.YthpmkcidkcmlgaaGreat
