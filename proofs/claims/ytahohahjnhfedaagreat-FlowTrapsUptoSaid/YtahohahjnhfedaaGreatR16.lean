/- R16 -/
import Derived.Test.YtahohahjnhfedaaGreatTt
set_option linter.unusedVariables false
set_option linter.unusedSimpArgs false
set_option maxRecDepth 100000
namespace Go.Proofs.YtahohahjnhfedaaGreat
open Go Go.SX
def Km3 (W0:PW) (M:Nat→Prop) (a0:Sl) (a1:Sl) (a2:Sl) (a3_0:Bool) (a3_1:Sl) (a3_2:Sl) (Post:Value→PW→Prop):Prop:=
 Aa1 Tryz.prog W0 M 73 [a0.v] W0 fun v1 W2=>
 ∃b3:Bool,
 v1 = .bool b3∧
 (b3=true→
 Aa1 Tryz.prog W0 M 64 [a1.v] W2 fun v4 W5=>
 ∃b6:Bool,
 v4 = .bool b6∧
 (b6=true→
 Aa1 Tryz.prog W0 M 64 [a2.v] W5 fun v7 W8=>
 ∃b9:Bool,
 v7 = .bool b9∧
 (b9=true→
 ((a1.2:Int)=(a0.2:Int)→
 ((a2.2:Int)=(a0.2:Int)→Aa1 Tryz.prog W0 M 65 [.agg ⟨[.bool a3_0,a3_1.v]⟩] W8 fun v10 W11=>∃i12:Int,v10 = .int .i64 i12∧∀(W13:PW),Ext W11 W13→Post (.bool (decide (0<i12))) W13)∧
 (¬(a2.2:Int)=(a0.2:Int)→∀(W14:PW),Ext W8 W14→Post (.bool false) W14))∧
 (¬(a1.2:Int)=(a0.2:Int)→∀(W15:PW),Ext W8 W15→Post (.bool false) W15))∧
 (b9=false→∀(W16:PW),Ext W8 W16→Post (.bool false) W16))∧
 (b6=false→∀(W17:PW),Ext W5 W17→Post (.bool false) W17))∧
 (b3=false→∀(W18:PW),Ext W2 W18→Post (.bool false) W18)
theorem Kg1 (W0:PW) (M:Nat→Prop) (a0:Sl) (a1:Sl) (a2:Sl) (a3_0:Bool) (a3_1:Sl) (a3_2:Sl) (Post:Value→PW→Prop) (h:Km3 W0 M a0 a1 a2 a3_0 a3_1 a3_2 Post):Aa0 Tryz.prog 46 [a0.v,a1.v,a2.v,.agg #[.bool a3_0,a3_1.v,a3_2.v]] W0 M Post:=
 Aa3 rfl Aa9 Aa8 Tryz.func46 (cuts:=[]) rfl rfl (Nat.le_of_ble_eq_true rfl) (Eq.mpr (by kernel_rfl) h)
def Km1 (W0:PW) (M:Nat→Prop) (a0:Sl) (a1:Sl) (a2:Sl) (a3_0:Bool) (a3_1:Sl) (a3_2:Sl) (Post:Value→PW→Prop):Prop:=
 Aa1 Tryz.prog W0 M 46 [a0.v,a1.v,a2.v,.agg ⟨[.bool a3_0,a3_1.v,a3_2.v]⟩] W0 fun v1 W2=>
 ∃b3:Bool,
 v1 = .bool b3∧
 ((!b3)=true→∀(W4:PW),Ext W2 W4→Post (.bool false) W4)∧
 ((!b3)=false→
 ∃(F5:List PL→PW→Prop),
 ∃(F6:List PL→PW→Nat),
 F5 [.val (.int .i64 0)] W2∧
 ∀(i7:Int) (W8:PW),
 F5 [.val (.int .i64 i7)] W8→
 (i7<(a0.2:Int)→
 inB a1 i7∧
 ∃b9:Bool,
 ∃s10:Sl,
 ∃s11:Sl,
 ∃b12:Bool,
 ∃s13:Sl,
 ∃s14:Sl,
 Aa7 W8 a1 6 (Int.toNat i7) 0 [.bool b9,s10.v,s11.v,.bool b12,s13.v,s14.v]∧
 inB a0 i7∧
 ∃s15:Sl,
 Aa7 W8 a0 1 (Int.toNat i7) 0 [s15.v]∧
 inB a2 i7∧
 ∃b16:Bool,
 ∃s17:Sl,
 ∃s18:Sl,
 ∃b19:Bool,
 ∃s20:Sl,
 ∃s21:Sl,
 Aa7 W8 a2 6 (Int.toNat i7) 0 [.bool b16,s17.v,s18.v,.bool b19,s20.v,s21.v]∧
 Aa1 Tryz.prog W0 M 35 [.int .i64 0] W8 fun v22 W23=>
 ∃b24:Bool,
 ∃s25:Sl,
 ∃s26:Sl,
 v22 = .agg ⟨[.bool b24,s25.v,s26.v]⟩∧
 Ext W8 W23∧
 Aa1 Tryz.prog W0 M 54 [a2.v] W23 fun v27 W28=>
 ∃b29:Bool,
 ∃s30:Sl,
 ∃s31:Sl,
 ∃b32:Bool,
 ∃s33:Sl,
 ∃s34:Sl,
 ∃b35:Bool,
 ∃s36:Sl,
 ∃s37:Sl,
 ∃b38:Bool,
 ∃s39:Sl,
 ∃s40:Sl,
 ∃b41:Bool,
 ∃s42:Sl,
 ∃s43:Sl,
 ∃b44:Bool,
 ∃s45:Sl,
 ∃s46:Sl,
 v27 =
 .agg
 {
 toList:=
 [.bool b29,s30.v,s31.v,.bool b32,s33.v,s34.v,.bool b35,s36.v,s37.v,.bool b38,s39.v,s40.v,.bool b41,s42.v,s43.v,.bool b44,
 s45.v,s46.v] }∧
 Ext W23 W28∧
 Aa1 Tryz.prog W0 M 53
 [s15.v,
 .agg
 {
 toList:=
 [.bool b29,s30.v,s31.v,.bool b32,s33.v,s34.v,.bool b35,s36.v,s37.v,.bool b38,s39.v,s40.v,.bool b41,s42.v,s43.v,.bool b44,
 s45.v,s46.v] }]
 W28 fun v47 W48=>
 ∃b49:Bool,
 ∃s50:Sl,
 ∃s51:Sl,
 ∃b52:Bool,
 ∃s53:Sl,
 ∃s54:Sl,
 v47 = .agg ⟨[.bool b49,s50.v,s51.v,.bool b52,s53.v,s54.v]⟩∧
 Ext W28 W48∧
 Aa1 Tryz.prog W0 M 58
 [.agg ⟨[.bool b24,s25.v,s26.v,.bool a3_0,a3_1.v,a3_2.v]⟩,
 .agg ⟨[.bool b49,s50.v,s51.v,.bool b52,s53.v,s54.v]⟩]
 W48 fun v55 W56=>
 ∃b57:Bool,
 ∃s58:Sl,
 ∃s59:Sl,
 ∃b60:Bool,
 ∃s61:Sl,
 ∃s62:Sl,
 v55 = .agg ⟨[.bool b57,s58.v,s59.v,.bool b60,s61.v,s62.v]⟩∧
 Ext W48 W56∧
 Aa1 Tryz.prog W0 M 51
 [.agg ⟨[.bool b9,s10.v,s11.v,.bool b12,s13.v,s14.v]⟩,
 .agg ⟨[.bool b57,s58.v,s59.v,.bool b60,s61.v,s62.v]⟩]
 W56 fun v63 W64=>
 ∃b65:Bool,
 ∃s66:Sl,
 ∃s67:Sl,
 ∃b68:Bool,
 ∃s69:Sl,
 ∃s70:Sl,
 v63 = .agg ⟨[.bool b65,s66.v,s67.v,.bool b68,s69.v,s70.v]⟩∧
 Ext W56 W64∧
 Aa1 Tryz.prog W0 M 57
 [.agg ⟨[.bool b65,s66.v,s67.v,.bool b68,s69.v,s70.v]⟩,
 .agg ⟨[.bool b16,s17.v,s18.v,.bool b19,s20.v,s21.v]⟩]
 W64 fun v71 W72=>
 ∃b73:Bool,
 v71 = .bool b73∧
 ((!b73)=true→∀(W74:PW),Ext W72 W74→Post (.bool false) W74)∧
 ((!b73)=false→I64 (i7+1)∧stp F5 F6 [.val (.int .i64 (i7+1))] W72 [.val (.int .i64 i7)] W8))∧
 (¬i7<(a0.2:Int)→∀(W75:PW),Ext W8 W75→Post (.bool true) W75))
theorem Kg4 (W0:PW) (M:Nat→Prop) (a0:Sl) (a1:Sl) (a2:Sl) (a3_0:Bool) (a3_1:Sl) (a3_2:Sl) (Post:Value→PW→Prop) (h:Km1 W0 M a0 a1 a2 a3_0 a3_1 a3_2 Post):Aa0 Tryz.prog 14 [a0.v,a1.v,a2.v,.agg #[.bool a3_0,a3_1.v,a3_2.v]] W0 M Post:=
 Aa3 rfl Aa9 Aa8 Tryz.func14 (cuts:=[]) rfl rfl (Nat.le_of_ble_eq_true rfl) (Eq.mpr (by kernel_rfl) h)
def Km8 (W0:PW) (M:Nat→Prop) (a0:Sl) (a1:Sl) (a2:Sl) (a3_0:Bool) (a3_1:Sl) (a3_2:Sl) (a4:Int) (Post:Value→PW→Prop):Prop:=
 Aa1 Tryz.prog W0 M 46 [a0.v,a1.v,a2.v,.agg ⟨[.bool a3_0,a3_1.v,a3_2.v]⟩] W0 fun v1 W2=>
 ∃b3:Bool,
 v1 = .bool b3∧
 ((!b3)=true→∀(W4:PW),Ext W2 W4→Post (.tuple ⟨[.slice none 0 0,.bool false]⟩) W4)∧
 ((!b3)=false→
 (a4<1→∀(W5:PW),Ext W2 W5→Post (.tuple ⟨[.slice none 0 0,.bool false]⟩) W5)∧
 (¬a4<1→
 (4<a4→∀(W6:PW),Ext W2 W6→Post (.tuple ⟨[.slice none 0 0,.bool false]⟩) W6)∧
 (¬4<a4→
 ((a0.2:Int)=(a0.2:Int)∧0≤(a0.2:Int)∧(a0.2:Int)*(↑(112:Nat):Int)≤281474976710656)∧
 ∃(F7:List PL→PW→Prop),
 ∃(F8:List PL→PW→Nat),
 F7 [.val (.int .i64 0),.row (List.replicate (Int.toNat (a0.2:Int)) [.bool false,.slice none 0 0,.slice none 0 0,.bool false,.slice none 0 0,.slice none 0 0])] W2∧
 ∀(l9:List (List Value)) (i10:Int) (W11:PW),
 F7 [.val (.int .i64 i10),.row l9] W11→
 (i10<(a0.2:Int)→
 Aa1 Tryz.prog W0 M 35 [.int .i64 0] W11 fun v12 W13=>
 ∃b14:Bool,
 ∃s15:Sl,
 ∃s16:Sl,
 v12 = .agg ⟨[.bool b14,s15.v,s16.v]⟩∧
 Aa1 Tryz.prog W0 M 47 [.agg ⟨[.bool b14,s15.v,s16.v]⟩] W13 fun v17 W18=>
 ∃b19:Bool,
 ∃s20:Sl,
 ∃s21:Sl,
 ∃b22:Bool,
 ∃s23:Sl,
 ∃s24:Sl,
 v17 = .agg ⟨[.bool b19,s20.v,s21.v,.bool b22,s23.v,s24.v]⟩∧
 (0≤i10∧i10<(↑(List.length l9):Int))∧
 Int.toNat i10<List.length l9∧
 I64 (i10+1)∧stp F7 F8 [.val (.int .i64 (i10+1)),.row (List.set l9 (Int.toNat i10) [.bool b19,s20.v,s21.v,.bool b22,s23.v,s24.v])] W18 [.val (.int .i64 i10),.row l9] W11)∧
 (¬i10<(a0.2:Int)→
 Aa1 Tryz.prog W0 M 35 [.int .i64 1] W11 fun v25 W26=>
 ∃b27:Bool,
 ∃s28:Sl,
 ∃s29:Sl,
 v25 = .agg ⟨[.bool b27,s28.v,s29.v]⟩∧
 ∃(F30:List PL→PW→Prop),
 ∃(F31:List PL→PW→Nat),
 F30 [.val (.int .i64 0),.cells [.bool b27,s28.v,s29.v],.row l9] W26∧
 ∀(b32:Bool) (s33 s34:Sl) (l35:List (List Value)) (i36:Int) (W37:PW),
 F30 [.val (.int .i64 i36),.cells [.bool b32,s33.v,s34.v],.row l35] W37→
 (i36≤a4→
 Aa1 Tryz.prog W0 M 48 [a0.v,.int .i64 i36] W37 fun v38 W39=>
 ∃s40:Sl,
 ∃b41:Bool,
 v38 = .tuple ⟨[s40.v,.bool b41]⟩∧
 ((!b41)=true→∀(W42:PW),Ext W39 W42→Post (.tuple ⟨[.slice none 0 0,.bool false]⟩) W42)∧
 ((!b41)=false→
 (0<i36→
 Aa1 Tryz.prog W0 M 35 [.int .i64 i36] W39 fun v43 W44=>
 ∃b45:Bool,
 ∃s46:Sl,
 ∃s47:Sl,
 v43 = .agg ⟨[.bool b45,s46.v,s47.v]⟩∧
 Aa1 Tryz.prog W0 M 50 [.agg ⟨[.bool a3_0,a3_1.v,a3_2.v]⟩,.agg ⟨[.bool b45,s46.v,s47.v]⟩] W44 fun v48 W49=>
 ∃b50:Bool,
 ∃s51:Sl,
 ∃s52:Sl,
 v48 = .agg ⟨[.bool b50,s51.v,s52.v]⟩∧
 Aa1 Tryz.prog W0 M 49 [.agg ⟨[.bool b32,s33.v,s34.v]⟩,.agg ⟨[.bool b50,s51.v,s52.v]⟩] W49 fun v53 W54=>
 ∃b55:Bool,
 ∃s56:Sl,
 ∃s57:Sl,
 v53 = .agg ⟨[.bool b55,s56.v,s57.v]⟩∧
 (i36=a4→
 ∃(F58:List PL→PW→Prop),
 ∃(F59:List PL→PW→Nat),
 F58 [.val (.int .i64 0),.row l35] W54∧
 ∀(l60:List (List Value)) (i61:Int) (W62:PW),
 F58 [.val (.int .i64 i61),.row l60] W62→
 (i61<(a0.2:Int)→
 (0≤i61∧i61<(↑(List.length l60):Int))∧
 ∃b63:Bool,
 ∃s64:Sl,
 ∃s65:Sl,
 ∃b66:Bool,
 ∃s67:Sl,
 ∃s68:Sl,
 Ck3 l60 (Int.toNat i61) 0 [.bool b63,s64.v,s65.v,.bool b66,s67.v,s68.v]∧
 inB s40 i61∧
 ∃s69:Sl,
 Aa7 W62 s40 1 (Int.toNat i61) 0 [s69.v]∧
 Aa1 Tryz.prog W0 M 54 [a2.v] W62 fun v70 W71=>
 ∃b72:Bool,
 ∃s73:Sl,
 ∃s74:Sl,
 ∃b75:Bool,
 ∃s76:Sl,
 ∃s77:Sl,
 ∃b78:Bool,
 ∃s79:Sl,
 ∃s80:Sl,
 ∃b81:Bool,
 ∃s82:Sl,
 ∃s83:Sl,
 ∃b84:Bool,
 ∃s85:Sl,
 ∃s86:Sl,
 ∃b87:Bool,
 ∃s88:Sl,
 ∃s89:Sl,
 v70 =
 .agg
 {
 toList:=
 [.bool b72,s73.v,s74.v,.bool b75,s76.v,s77.v,.bool b78,s79.v,s80.v,.bool b81,s82.v,s83.v,
 .bool b84,s85.v,s86.v,.bool b87,s88.v,s89.v] }∧
 Ext W62 W71∧
 Aa1 Tryz.prog W0 M 53
 [s69.v,
 .agg
 {
 toList:=
 [.bool b72,s73.v,s74.v,.bool b75,s76.v,s77.v,.bool b78,s79.v,s80.v,.bool b81,s82.v,s83.v,
 .bool b84,s85.v,s86.v,.bool b87,s88.v,s89.v] }]
 W71 fun v90 W91=>
 ∃b92:Bool,
 ∃s93:Sl,
 ∃s94:Sl,
 ∃b95:Bool,
 ∃s96:Sl,
 ∃s97:Sl,
 v90 = .agg ⟨[.bool b92,s93.v,s94.v,.bool b95,s96.v,s97.v]⟩∧
 Aa1 Tryz.prog W0 M 52
 [.agg ⟨[.bool b92,s93.v,s94.v,.bool b95,s96.v,s97.v]⟩,
 .agg ⟨[.bool b55,s56.v,s57.v]⟩]
 W91 fun v98 W99=>
 ∃b100:Bool,
 ∃s101:Sl,
 ∃s102:Sl,
 ∃b103:Bool,
 ∃s104:Sl,
 ∃s105:Sl,
 v98 = .agg ⟨[.bool b100,s101.v,s102.v,.bool b103,s104.v,s105.v]⟩∧
 Aa1 Tryz.prog W0 M 51
 [.agg ⟨[.bool b63,s64.v,s65.v,.bool b66,s67.v,s68.v]⟩,
 .agg ⟨[.bool b100,s101.v,s102.v,.bool b103,s104.v,s105.v]⟩]
 W99 fun v106 W107=>
 ∃b108:Bool,
 ∃s109:Sl,
 ∃s110:Sl,
 ∃b111:Bool,
 ∃s112:Sl,
 ∃s113:Sl,
 v106 = .agg ⟨[.bool b108,s109.v,s110.v,.bool b111,s112.v,s113.v]⟩∧
 (0≤i61∧i61<(↑(List.length l60):Int))∧
 Int.toNat i61<List.length l60∧
 I64 (i61+1)∧
 stp F58 F59
 [.val (.int .i64 (i61+1)),
 .row (List.set l60 (Int.toNat i61) [.bool b108,s109.v,s110.v,.bool b111,s112.v,s113.v])]
 W107 [.val (.int .i64 i61),.row l60] W62)∧
 (¬i61<(a0.2:Int)→
 I64 (i36+1)∧
 stp F30 F31 [.val (.int .i64 (i36+1)),.cells [.bool b55,s56.v,s57.v],.row l60] W62
 [.val (.int .i64 i36),.cells [.bool b32,s33.v,s34.v],.row l35] W37))∧
 (¬i36=a4→
 ∃(F114:List PL→PW→Prop),
 ∃(F115:List PL→PW→Nat),
 F114 [.val (.int .i64 0),.row l35] W54∧
 ∀(l116:List (List Value)) (i117:Int) (W118:PW),
 F114 [.val (.int .i64 i117),.row l116] W118→
 (i117<(a0.2:Int)→
 (0≤i117∧i117<(↑(List.length l116):Int))∧
 ∃b119:Bool,
 ∃s120:Sl,
 ∃s121:Sl,
 ∃b122:Bool,
 ∃s123:Sl,
 ∃s124:Sl,
 Ck3 l116 (Int.toNat i117) 0 [.bool b119,s120.v,s121.v,.bool b122,s123.v,s124.v]∧
 inB s40 i117∧
 ∃s125:Sl,
 Aa7 W118 s40 1 (Int.toNat i117) 0 [s125.v]∧
 Aa1 Tryz.prog W0 M 54 [a1.v] W118 fun v126 W127=>
 ∃b128:Bool,
 ∃s129:Sl,
 ∃s130:Sl,
 ∃b131:Bool,
 ∃s132:Sl,
 ∃s133:Sl,
 ∃b134:Bool,
 ∃s135:Sl,
 ∃s136:Sl,
 ∃b137:Bool,
 ∃s138:Sl,
 ∃s139:Sl,
 ∃b140:Bool,
 ∃s141:Sl,
 ∃s142:Sl,
 ∃b143:Bool,
 ∃s144:Sl,
 ∃s145:Sl,
 v126 =
 .agg
 {
 toList:=
 [.bool b128,s129.v,s130.v,.bool b131,s132.v,s133.v,.bool b134,s135.v,s136.v,.bool b137,s138.v,
 s139.v,.bool b140,s141.v,s142.v,.bool b143,s144.v,s145.v] }∧
 Ext W118 W127∧
 Aa1 Tryz.prog W0 M 53
 [s125.v,
 .agg
 {
 toList:=
 [.bool b128,s129.v,s130.v,.bool b131,s132.v,s133.v,.bool b134,s135.v,s136.v,.bool b137,s138.v,
 s139.v,.bool b140,s141.v,s142.v,.bool b143,s144.v,s145.v] }]
 W127 fun v146 W147=>
 ∃b148:Bool,
 ∃s149:Sl,
 ∃s150:Sl,
 ∃b151:Bool,
 ∃s152:Sl,
 ∃s153:Sl,
 v146 = .agg ⟨[.bool b148,s149.v,s150.v,.bool b151,s152.v,s153.v]⟩∧
 Aa1 Tryz.prog W0 M 52
 [.agg ⟨[.bool b148,s149.v,s150.v,.bool b151,s152.v,s153.v]⟩,
 .agg ⟨[.bool b55,s56.v,s57.v]⟩]
 W147 fun v154 W155=>
 ∃b156:Bool,
 ∃s157:Sl,
 ∃s158:Sl,
 ∃b159:Bool,
 ∃s160:Sl,
 ∃s161:Sl,
 v154 = .agg ⟨[.bool b156,s157.v,s158.v,.bool b159,s160.v,s161.v]⟩∧
 Aa1 Tryz.prog W0 M 51
 [.agg ⟨[.bool b119,s120.v,s121.v,.bool b122,s123.v,s124.v]⟩,
 .agg ⟨[.bool b156,s157.v,s158.v,.bool b159,s160.v,s161.v]⟩]
 W155 fun v162 W163=>
 ∃b164:Bool,
 ∃s165:Sl,
 ∃s166:Sl,
 ∃b167:Bool,
 ∃s168:Sl,
 ∃s169:Sl,
 v162 = .agg ⟨[.bool b164,s165.v,s166.v,.bool b167,s168.v,s169.v]⟩∧
 (0≤i117∧i117<(↑(List.length l116):Int))∧
 Int.toNat i117<List.length l116∧
 I64 (i117+1)∧
 stp F114 F115
 [.val (.int .i64 (i117+1)),
 .row (List.set l116 (Int.toNat i117) [.bool b164,s165.v,s166.v,.bool b167,s168.v,s169.v])]
 W163 [.val (.int .i64 i117),.row l116] W118)∧
 (¬i117<(a0.2:Int)→
 I64 (i36+1)∧
 stp F30 F31 [.val (.int .i64 (i36+1)),.cells [.bool b55,s56.v,s57.v],.row l116] W118
 [.val (.int .i64 i36),.cells [.bool b32,s33.v,s34.v],.row l35] W37)))∧
 (¬0<i36→
 (i36=a4→
 ∃(F170:List PL→PW→Prop),
 ∃(F171:List PL→PW→Nat),
 F170 [.val (.int .i64 0),.row l35] W39∧
 ∀(l172:List (List Value)) (i173:Int) (W174:PW),
 F170 [.val (.int .i64 i173),.row l172] W174→
 (i173<(a0.2:Int)→
 (0≤i173∧i173<(↑(List.length l172):Int))∧
 ∃b175:Bool,
 ∃s176:Sl,
 ∃s177:Sl,
 ∃b178:Bool,
 ∃s179:Sl,
 ∃s180:Sl,
 Ck3 l172 (Int.toNat i173) 0 [.bool b175,s176.v,s177.v,.bool b178,s179.v,s180.v]∧
 inB s40 i173∧
 ∃s181:Sl,
 Aa7 W174 s40 1 (Int.toNat i173) 0 [s181.v]∧
 Aa1 Tryz.prog W0 M 54 [a2.v] W174 fun v182 W183=>
 ∃b184:Bool,
 ∃s185:Sl,
 ∃s186:Sl,
 ∃b187:Bool,
 ∃s188:Sl,
 ∃s189:Sl,
 ∃b190:Bool,
 ∃s191:Sl,
 ∃s192:Sl,
 ∃b193:Bool,
 ∃s194:Sl,
 ∃s195:Sl,
 ∃b196:Bool,
 ∃s197:Sl,
 ∃s198:Sl,
 ∃b199:Bool,
 ∃s200:Sl,
 ∃s201:Sl,
 v182 =
 .agg
 {
 toList:=
 [.bool b184,s185.v,s186.v,.bool b187,s188.v,s189.v,.bool b190,s191.v,s192.v,.bool b193,s194.v,s195.v,.bool b196,
 s197.v,s198.v,.bool b199,s200.v,s201.v] }∧
 Ext W174 W183∧
 Aa1 Tryz.prog W0 M 53
 [s181.v,
 .agg
 {
 toList:=
 [.bool b184,s185.v,s186.v,.bool b187,s188.v,s189.v,.bool b190,s191.v,s192.v,.bool b193,s194.v,s195.v,
 .bool b196,s197.v,s198.v,.bool b199,s200.v,s201.v] }]
 W183 fun v202 W203=>
 ∃b204:Bool,
 ∃s205:Sl,
 ∃s206:Sl,
 ∃b207:Bool,
 ∃s208:Sl,
 ∃s209:Sl,
 v202 = .agg ⟨[.bool b204,s205.v,s206.v,.bool b207,s208.v,s209.v]⟩∧
 Aa1 Tryz.prog W0 M 52
 [.agg ⟨[.bool b204,s205.v,s206.v,.bool b207,s208.v,s209.v]⟩,.agg ⟨[.bool b32,s33.v,s34.v]⟩] W203
 fun v210 W211=>
 ∃b212:Bool,
 ∃s213:Sl,
 ∃s214:Sl,
 ∃b215:Bool,
 ∃s216:Sl,
 ∃s217:Sl,
 v210 = .agg ⟨[.bool b212,s213.v,s214.v,.bool b215,s216.v,s217.v]⟩∧
 Aa1 Tryz.prog W0 M 51
 [.agg ⟨[.bool b175,s176.v,s177.v,.bool b178,s179.v,s180.v]⟩,
 .agg ⟨[.bool b212,s213.v,s214.v,.bool b215,s216.v,s217.v]⟩]
 W211 fun v218 W219=>
 ∃b220:Bool,
 ∃s221:Sl,
 ∃s222:Sl,
 ∃b223:Bool,
 ∃s224:Sl,
 ∃s225:Sl,
 v218 = .agg ⟨[.bool b220,s221.v,s222.v,.bool b223,s224.v,s225.v]⟩∧
 (0≤i173∧i173<(↑(List.length l172):Int))∧
 Int.toNat i173<List.length l172∧
 I64 (i173+1)∧
 stp F170 F171
 [.val (.int .i64 (i173+1)),
 .row (List.set l172 (Int.toNat i173) [.bool b220,s221.v,s222.v,.bool b223,s224.v,s225.v])]
 W219 [.val (.int .i64 i173),.row l172] W174)∧
 (¬i173<(a0.2:Int)→
 I64 (i36+1)∧
 stp F30 F31 [.val (.int .i64 (i36+1)),.cells [.bool b32,s33.v,s34.v],.row l172] W174
 [.val (.int .i64 i36),.cells [.bool b32,s33.v,s34.v],.row l35] W37))∧
 (¬i36=a4→
 ∃(F226:List PL→PW→Prop),
 ∃(F227:List PL→PW→Nat),
 F226 [.val (.int .i64 0),.row l35] W39∧
 ∀(l228:List (List Value)) (i229:Int) (W230:PW),
 F226 [.val (.int .i64 i229),.row l228] W230→
 (i229<(a0.2:Int)→
 (0≤i229∧i229<(↑(List.length l228):Int))∧
 ∃b231:Bool,
 ∃s232:Sl,
 ∃s233:Sl,
 ∃b234:Bool,
 ∃s235:Sl,
 ∃s236:Sl,
 Ck3 l228 (Int.toNat i229) 0 [.bool b231,s232.v,s233.v,.bool b234,s235.v,s236.v]∧
 inB s40 i229∧
 ∃s237:Sl,
 Aa7 W230 s40 1 (Int.toNat i229) 0 [s237.v]∧
 Aa1 Tryz.prog W0 M 54 [a1.v] W230 fun v238 W239=>
 ∃b240:Bool,
 ∃s241:Sl,
 ∃s242:Sl,
 ∃b243:Bool,
 ∃s244:Sl,
 ∃s245:Sl,
 ∃b246:Bool,
 ∃s247:Sl,
 ∃s248:Sl,
 ∃b249:Bool,
 ∃s250:Sl,
 ∃s251:Sl,
 ∃b252:Bool,
 ∃s253:Sl,
 ∃s254:Sl,
 ∃b255:Bool,
 ∃s256:Sl,
 ∃s257:Sl,
 v238 =
 .agg
 {
 toList:=
 [.bool b240,s241.v,s242.v,.bool b243,s244.v,s245.v,.bool b246,s247.v,s248.v,.bool b249,s250.v,s251.v,.bool b252,
 s253.v,s254.v,.bool b255,s256.v,s257.v] }∧
 Ext W230 W239∧
 Aa1 Tryz.prog W0 M 53
 [s237.v,
 .agg
 {
 toList:=
 [.bool b240,s241.v,s242.v,.bool b243,s244.v,s245.v,.bool b246,s247.v,s248.v,.bool b249,s250.v,s251.v,
 .bool b252,s253.v,s254.v,.bool b255,s256.v,s257.v] }]
 W239 fun v258 W259=>
 ∃b260:Bool,
 ∃s261:Sl,
 ∃s262:Sl,
 ∃b263:Bool,
 ∃s264:Sl,
 ∃s265:Sl,
 v258 = .agg ⟨[.bool b260,s261.v,s262.v,.bool b263,s264.v,s265.v]⟩∧
 Aa1 Tryz.prog W0 M 52
 [.agg ⟨[.bool b260,s261.v,s262.v,.bool b263,s264.v,s265.v]⟩,.agg ⟨[.bool b32,s33.v,s34.v]⟩] W259
 fun v266 W267=>
 ∃b268:Bool,
 ∃s269:Sl,
 ∃s270:Sl,
 ∃b271:Bool,
 ∃s272:Sl,
 ∃s273:Sl,
 v266 = .agg ⟨[.bool b268,s269.v,s270.v,.bool b271,s272.v,s273.v]⟩∧
 Aa1 Tryz.prog W0 M 51
 [.agg ⟨[.bool b231,s232.v,s233.v,.bool b234,s235.v,s236.v]⟩,
 .agg ⟨[.bool b268,s269.v,s270.v,.bool b271,s272.v,s273.v]⟩]
 W267 fun v274 W275=>
 ∃b276:Bool,
 ∃s277:Sl,
 ∃s278:Sl,
 ∃b279:Bool,
 ∃s280:Sl,
 ∃s281:Sl,
 v274 = .agg ⟨[.bool b276,s277.v,s278.v,.bool b279,s280.v,s281.v]⟩∧
 (0≤i229∧i229<(↑(List.length l228):Int))∧
 Int.toNat i229<List.length l228∧
 I64 (i229+1)∧
 stp F226 F227
 [.val (.int .i64 (i229+1)),
 .row (List.set l228 (Int.toNat i229) [.bool b276,s277.v,s278.v,.bool b279,s280.v,s281.v])]
 W275 [.val (.int .i64 i229),.row l228] W230)∧
 (¬i229<(a0.2:Int)→
 I64 (i36+1)∧
 stp F30 F31 [.val (.int .i64 (i36+1)),.cells [.bool b32,s33.v,s34.v],.row l228] W230
 [.val (.int .i64 i36),.cells [.bool b32,s33.v,s34.v],.row l35] W37)))))∧
 (¬i36≤a4→∀(s282:Sl) (W283:PW),Ext W37 W283→SX.Own W283 74 6 s282 l35→Fr W0 W37 s282→∀(W284:PW),Ext W283 W284→Post (.tuple ⟨[s282.v,.bool true]⟩) W284)))))
theorem Kg8 (W0:PW) (M:Nat→Prop) (a0:Sl) (a1:Sl) (a2:Sl) (a3_0:Bool) (a3_1:Sl) (a3_2:Sl) (a4:Int) (Post:Value→PW→Prop) (h:Km8 W0 M a0 a1 a2 a3_0 a3_1 a3_2 a4 Post):Aa0 Tryz.prog 12 [a0.v,a1.v,a2.v,.agg #[.bool a3_0,a3_1.v,a3_2.v],.int .i64 a4] W0 M Post:=
 Aa3 rfl Aa9 Aa8 Tryz.func12 (cuts:=[]) rfl rfl (Nat.le_of_ble_eq_true rfl) (Eq.mpr (by kernel_rfl) h)
def Kc8 (W0:PW) (M:Nat→Prop) (a0_0:Bool) (a0_1:Sl) (a0_2:Sl) (a0_3:Bool) (a0_4:Sl) (a0_5:Sl) (a1_0:Bool) (a1_1:Sl) (a1_2:Sl) (a1_3:Bool) (a1_4:Sl) (a1_5:Sl) (Post:Value→PW→Prop):Prop:=
 Aa1 Tryz.prog W0 M 130 [.agg ⟨[.bool a1_0,a1_1.v,a1_2.v]⟩,.agg ⟨[.bool a0_0,a0_1.v,a0_2.v]⟩] W0 fun v1 W2=>
 ∃i3:Int,
 v1 = .int .i64 i3∧
 (i3≤0→
 Aa1 Tryz.prog W0 M 130 [.agg ⟨[.bool a0_3,a0_4.v,a0_5.v]⟩,.agg ⟨[.bool a1_3,a1_4.v,a1_5.v]⟩] W2 fun v4 W5=>
 ∃i6:Int,v4 = .int .i64 i6∧∀(W7:PW),Ext W5 W7→Post (.bool (decide (i6≤0))) W7)∧
 (¬i3≤0→∀(W8:PW),Ext W2 W8→Post (.bool false) W8)
theorem Ka3 (W0:PW) (M:Nat→Prop) (a0_0:Bool) (a0_1:Sl) (a0_2:Sl) (a0_3:Bool) (a0_4:Sl) (a0_5:Sl) (a1_0:Bool) (a1_1:Sl) (a1_2:Sl) (a1_3:Bool) (a1_4:Sl) (a1_5:Sl) (Post:Value→PW→Prop) (h:Kc8 W0 M a0_0 a0_1 a0_2 a0_3 a0_4 a0_5 a1_0 a1_1 a1_2 a1_3 a1_4 a1_5 Post):Aa0 Tryz.prog 57 [.agg #[.bool a0_0,a0_1.v,a0_2.v,.bool a0_3,a0_4.v,a0_5.v],.agg #[.bool a1_0,a1_1.v,a1_2.v,.bool a1_3,a1_4.v,a1_5.v]] W0 M Post:=
 Aa3 rfl Aa9 Aa8 Tryz.func57 (cuts:=[]) rfl rfl (Nat.le_of_ble_eq_true rfl) (Eq.mpr (by kernel_rfl) h)
end Go.Proofs.YtahohahjnhfedaaGreat
