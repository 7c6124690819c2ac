/- R19 -/
import Derived.Test.YtjkkidjbppphpaaGreatDoorTt
set_option linter.unusedVariables false
set_option linter.unusedSimpArgs false
set_option maxRecDepth 100000
namespace Go.Proofs.YtjkkidjbppphpaaGreatDoor
open Go Go.SX
def Hy9 (W0:PW) (M:Nat→Prop) (a0_0:ByteArray) (a0_1:ByteArray) (a0_2:ByteArray) (a0_3:ByteArray) (a1:Sl) (Post:Value→PW→Prop):Prop:=
 Aa1 Tryz.prog W0 M 21 [a1.v] W0 fun v1 W2=>
 ∃s3:Sl,
 ∃s4:Sl,
 ∃b5:Bool,
 v1 = .tuple ⟨[s3.v,s4.v,.bool b5]⟩∧
 ((0:Int)≤0∧(0:Int)<4)∧
 ((0:Int)≤1∧(1:Int)<4)∧
 ((0:Int)≤2∧(2:Int)<4)∧
 Aa1 Tryz.prog W0 M 22 [.agg ⟨[.string a0_0,.string a0_1,.string a0_2]⟩] W2 fun v6 W7=>
 ∃s8:Sl,
 ∃b9:Bool,
 ∃s10:Sl,
 ∃s11:Sl,
 ∃b12:Bool,
 ∃s13:Sl,
 ∃s14:Sl,
 ∃b15:Bool,
 ∃s16:Sl,
 ∃b17:Bool,
 ∃s18:Sl,
 ∃s19:Sl,
 ∃b20:Bool,
 ∃s21:Sl,
 ∃s22:Sl,
 ∃b23:Bool,
 ∃s24:Sl,
 ∃s25:Sl,
 ∃b26:Bool,
 v6 =
 .tuple
 {
 toList:=
 [.agg ⟨[s8.v,.bool b9,s10.v,s11.v,.bool b12,s13.v,s14.v,.bool b15,s16.v]⟩,
 .agg ⟨[.bool b17,s18.v,s19.v,.bool b20,s21.v,s22.v,.bool b23,s24.v,s25.v]⟩,.bool b26] }∧
 ((!b5)=true→Aa1 Tryz.prog W0 M 16 [] W7 fun v27 W28=>∃b29:Bool,v27 = .bool b29∧∀(W30:PW),Ext W28 W30→Post (.bool b29) W30)∧
 ((!b5)=false→
 ((!b26)=true→Aa1 Tryz.prog W0 M 16 [] W7 fun v31 W32=>∃b33:Bool,v31 = .bool b33∧∀(W34:PW),Ext W32 W34→Post (.bool b33) W34)∧
 ((!b26)=false→
 Aa1 Tryz.prog W0 M 16 [] W7 fun v35 W36=>
 ∃b37:Bool,
 v35 = .bool b37∧
 ((!b37)=true→Aa1 Tryz.prog W0 M 16 [] W36 fun v38 W39=>∃b40:Bool,v38 = .bool b40∧∀(W41:PW),Ext W39 W41→Post (.bool b40) W41)∧
 ((!b37)=false→
 ∃(F42:List PL→PW→Prop),
 ∃(F43:List PL→PW→Nat),
 F42
 [.val (.int .i64 0),.cells [.slice none 0 0],
 .cells
 [.slice none 0 0,.bool false,.slice none 0 0,.slice none 0 0,.bool false,.slice none 0 0,.slice none 0 0,
 .bool false,.slice none 0 0],
 .cells
 [.slice none 0 0,.bool false,.slice none 0 0,.slice none 0 0,.bool false,.slice none 0 0,.slice none 0 0,
 .bool false,.slice none 0 0]]
 W36∧
 ∀(s44 s45:Sl) (b46:Bool) (s47 s48:Sl) (b49:Bool) (s50 s51:Sl) (b52:Bool) (s53 s54:Sl) (b55:Bool) (s56 s57:Sl) (b58:Bool) (s59 s60:Sl) (b61:Bool) (s62:Sl) (i63:Int) (W64:PW),
 F42
 [.val (.int .i64 i63),.cells [s44.v],.cells [s45.v,.bool b46,s47.v,s48.v,.bool b49,s50.v,s51.v,.bool b52,s53.v],
 .cells [s54.v,.bool b55,s56.v,s57.v,.bool b58,s59.v,s60.v,.bool b61,s62.v]]
 W64→
 (i63<(s3.2:Int)→
 (i63<3→
 (0≤i63∧i63<3)∧
 ∃s65:Sl,
 ∃b66:Bool,
 ∃s67:Sl,
 As9 [s8.v,.bool b9,s10.v,s11.v,.bool b12,s13.v,s14.v,.bool b15,s16.v] (0+Int.toNat i63*3+0) [s65.v,.bool b66,s67.v]∧
 Aa1 Tryz.prog W0 M 49 [.int .i64 i63] W64 fun v68 W69=>
 ∃s70:Sl,
 v68 = .agg ⟨[s70.v]⟩∧
 Aa1 Tryz.prog W0 M 26 [.agg ⟨[s70.v]⟩,.agg ⟨[s65.v,.bool b66,s67.v]⟩] W69 fun v71 W72=>
 ∃s73:Sl,
 v71 = .agg ⟨[s73.v]⟩∧
 Aa1 Tryz.prog W0 M 25 [.agg ⟨[s44.v]⟩,.agg ⟨[s73.v]⟩] W72 fun v74 W75=>
 ∃s76:Sl,
 v74 = .agg ⟨[s76.v]⟩∧
 ∃(F77:List PL→PW→Prop),
 (inB s3 i63∧
 ∃s78:Sl,
 ∃b79:Bool,
 ∃s80:Sl,
 Aa7 W75 s3 6 (Int.toNat i63) 0 [s78.v,.bool b79,s80.v]∧
 inB s3 i63∧
 ∃s81:Sl,
 ∃b82:Bool,
 ∃s83:Sl,
 Aa7 W75 s3 6 (Int.toNat i63) 3 [s81.v,.bool b82,s83.v]∧
 (0≤i63∧i63<3)∧
 Int.toNat i63<3∧
 ((True∧
 (Int.toNat i63=0→
 Ext W75 W75∧
 (0≤i63∧i63<3)∧
 Int.toNat i63<3∧
 ((True∧
 (Int.toNat i63=0→
 F77
 [.val (.int .i64 i63),.val (.int .i64 i63),.val s3.v,.val (.int .i64 i63),.val s3.v,
 .val (.int .i64 i63),.cells [s78.v,.bool b79,s80.v,s48.v,.bool b49,s50.v,s51.v,.bool b52,s53.v],
 .cells [s81.v,.bool b82,s83.v,s57.v,.bool b58,s59.v,s60.v,.bool b61,s62.v]]
 W75))∧
 (Int.toNat i63=1→
 F77
 [.val (.int .i64 i63),.val (.int .i64 i63),.val s3.v,.val (.int .i64 i63),.val s3.v,
 .val (.int .i64 i63),.cells [s78.v,.bool b79,s80.v,s48.v,.bool b49,s50.v,s51.v,.bool b52,s53.v],
 .cells [s54.v,.bool b55,s56.v,s81.v,.bool b82,s83.v,s60.v,.bool b61,s62.v]]
 W75))∧
 (Int.toNat i63=2→
 F77
 [.val (.int .i64 i63),.val (.int .i64 i63),.val s3.v,.val (.int .i64 i63),.val s3.v,
 .val (.int .i64 i63),.cells [s78.v,.bool b79,s80.v,s48.v,.bool b49,s50.v,s51.v,.bool b52,s53.v],
 .cells [s54.v,.bool b55,s56.v,s57.v,.bool b58,s59.v,s81.v,.bool b82,s83.v]]
 W75)))∧
 (Int.toNat i63=1→
 Ext W75 W75∧
 (0≤i63∧i63<3)∧
 Int.toNat i63<3∧
 ((True∧
 (Int.toNat i63=0→
 F77
 [.val (.int .i64 i63),.val (.int .i64 i63),.val s3.v,.val (.int .i64 i63),.val s3.v,
 .val (.int .i64 i63),.cells [s45.v,.bool b46,s47.v,s78.v,.bool b79,s80.v,s51.v,.bool b52,s53.v],
 .cells [s81.v,.bool b82,s83.v,s57.v,.bool b58,s59.v,s60.v,.bool b61,s62.v]]
 W75))∧
 (Int.toNat i63=1→
 F77
 [.val (.int .i64 i63),.val (.int .i64 i63),.val s3.v,.val (.int .i64 i63),.val s3.v,
 .val (.int .i64 i63),.cells [s45.v,.bool b46,s47.v,s78.v,.bool b79,s80.v,s51.v,.bool b52,s53.v],
 .cells [s54.v,.bool b55,s56.v,s81.v,.bool b82,s83.v,s60.v,.bool b61,s62.v]]
 W75))∧
 (Int.toNat i63=2→
 F77
 [.val (.int .i64 i63),.val (.int .i64 i63),.val s3.v,.val (.int .i64 i63),.val s3.v,
 .val (.int .i64 i63),.cells [s45.v,.bool b46,s47.v,s78.v,.bool b79,s80.v,s51.v,.bool b52,s53.v],
 .cells [s54.v,.bool b55,s56.v,s57.v,.bool b58,s59.v,s81.v,.bool b82,s83.v]]
 W75)))∧
 (Int.toNat i63=2→
 Ext W75 W75∧
 (0≤i63∧i63<3)∧
 Int.toNat i63<3∧
 ((True∧
 (Int.toNat i63=0→
 F77
 [.val (.int .i64 i63),.val (.int .i64 i63),.val s3.v,.val (.int .i64 i63),.val s3.v,
 .val (.int .i64 i63),.cells [s45.v,.bool b46,s47.v,s48.v,.bool b49,s50.v,s78.v,.bool b79,s80.v],
 .cells [s81.v,.bool b82,s83.v,s57.v,.bool b58,s59.v,s60.v,.bool b61,s62.v]]
 W75))∧
 (Int.toNat i63=1→
 F77
 [.val (.int .i64 i63),.val (.int .i64 i63),.val s3.v,.val (.int .i64 i63),.val s3.v,
 .val (.int .i64 i63),.cells [s45.v,.bool b46,s47.v,s48.v,.bool b49,s50.v,s78.v,.bool b79,s80.v],
 .cells [s54.v,.bool b55,s56.v,s81.v,.bool b82,s83.v,s60.v,.bool b61,s62.v]]
 W75))∧
 (Int.toNat i63=2→
 F77
 [.val (.int .i64 i63),.val (.int .i64 i63),.val s3.v,.val (.int .i64 i63),.val s3.v,
 .val (.int .i64 i63),.cells [s45.v,.bool b46,s47.v,s48.v,.bool b49,s50.v,s78.v,.bool b79,s80.v],
 .cells [s54.v,.bool b55,s56.v,s57.v,.bool b58,s59.v,s81.v,.bool b82,s83.v]]
 W75)))∧
 ∀(s84:Sl) (b85:Bool) (s86 s87:Sl) (b88:Bool) (s89 s90:Sl) (b91:Bool) (s92 s93:Sl) (b94:Bool) (s95 s96:Sl) (b97:Bool) (s98 s99:Sl) (b100:Bool) (s101:Sl) (i102 i103:Int) (s104:Sl) (i105:Int)
 (s106:Sl) (i107:Int) (W108:PW),
 F77
 [.val (.int .i64 i102),.val (.int .i64 i103),.val s104.v,.val (.int .i64 i105),.val s106.v,.val (.int .i64 i107),
 .cells [s84.v,.bool b85,s86.v,s87.v,.bool b88,s89.v,s90.v,.bool b91,s92.v],
 .cells [s93.v,.bool b94,s95.v,s96.v,.bool b97,s98.v,s99.v,.bool b100,s101.v]]
 W108→
 (0≤i63∧i63<3)∧
 ∃s109:Sl,
 ∃b110:Bool,
 ∃s111:Sl,
 As9 [s8.v,.bool b9,s10.v,s11.v,.bool b12,s13.v,s14.v,.bool b15,s16.v] (0+Int.toNat i63*3+0)
 [s109.v,.bool b110,s111.v]∧
 Aa1 Tryz.prog W0 M 40 [.agg ⟨[s109.v,.bool b110,s111.v]⟩] W108 fun v112 W113=>
 ∃i114:Int,
 v112 = .int .i64 i114∧
 (i114<0→
 inB s3 i63∧
 ∃s115:Sl,
 ∃b116:Bool,
 ∃s117:Sl,
 Aa7 W113 s3 6 (Int.toNat i63) 3 [s115.v,.bool b116,s117.v]∧
 inB s3 i63∧
 ∃s118:Sl,
 ∃b119:Bool,
 ∃s120:Sl,
 Aa7 W113 s3 6 (Int.toNat i63) 0 [s118.v,.bool b119,s120.v]∧
 (0≤i63∧i63<3)∧
 Int.toNat i63<3∧
 ((True∧
 (Int.toNat i63=0→
 Ext W113 W113∧
 (0≤i63∧i63<3)∧
 Int.toNat i63<3∧
 ((True∧
 (Int.toNat i63=0→
 I64 (i63+1)∧
 stp F42 F43
 [.val (.int .i64 (i63+1)),.cells [s76.v],
 .cells [s115.v,.bool b116,s117.v,s87.v,.bool b88,s89.v,s90.v,.bool b91,s92.v],
 .cells [s118.v,.bool b119,s120.v,s96.v,.bool b97,s98.v,s99.v,.bool b100,s101.v]]
 W113
 [.val (.int .i64 i63),.cells [s44.v],
 .cells [s45.v,.bool b46,s47.v,s48.v,.bool b49,s50.v,s51.v,.bool b52,s53.v],
 .cells [s54.v,.bool b55,s56.v,s57.v,.bool b58,s59.v,s60.v,.bool b61,s62.v]]
 W64))∧
 (Int.toNat i63=1→
 I64 (i63+1)∧
 stp F42 F43
 [.val (.int .i64 (i63+1)),.cells [s76.v],
 .cells [s115.v,.bool b116,s117.v,s87.v,.bool b88,s89.v,s90.v,.bool b91,s92.v],
 .cells [s93.v,.bool b94,s95.v,s118.v,.bool b119,s120.v,s99.v,.bool b100,s101.v]]
 W113
 [.val (.int .i64 i63),.cells [s44.v],
 .cells [s45.v,.bool b46,s47.v,s48.v,.bool b49,s50.v,s51.v,.bool b52,s53.v],
 .cells [s54.v,.bool b55,s56.v,s57.v,.bool b58,s59.v,s60.v,.bool b61,s62.v]]
 W64))∧
 (Int.toNat i63=2→
 I64 (i63+1)∧
 stp F42 F43
 [.val (.int .i64 (i63+1)),.cells [s76.v],
 .cells [s115.v,.bool b116,s117.v,s87.v,.bool b88,s89.v,s90.v,.bool b91,s92.v],
 .cells [s93.v,.bool b94,s95.v,s96.v,.bool b97,s98.v,s118.v,.bool b119,s120.v]]
 W113
 [.val (.int .i64 i63),.cells [s44.v],
 .cells [s45.v,.bool b46,s47.v,s48.v,.bool b49,s50.v,s51.v,.bool b52,s53.v],
 .cells [s54.v,.bool b55,s56.v,s57.v,.bool b58,s59.v,s60.v,.bool b61,s62.v]]
 W64)))∧
 (Int.toNat i63=1→
 Ext W113 W113∧
 (0≤i63∧i63<3)∧
 Int.toNat i63<3∧
 ((True∧
 (Int.toNat i63=0→
 I64 (i63+1)∧
 stp F42 F43
 [.val (.int .i64 (i63+1)),.cells [s76.v],
 .cells [s84.v,.bool b85,s86.v,s115.v,.bool b116,s117.v,s90.v,.bool b91,s92.v],
 .cells [s118.v,.bool b119,s120.v,s96.v,.bool b97,s98.v,s99.v,.bool b100,s101.v]]
 W113
 [.val (.int .i64 i63),.cells [s44.v],
 .cells [s45.v,.bool b46,s47.v,s48.v,.bool b49,s50.v,s51.v,.bool b52,s53.v],
 .cells [s54.v,.bool b55,s56.v,s57.v,.bool b58,s59.v,s60.v,.bool b61,s62.v]]
 W64))∧
 (Int.toNat i63=1→
 I64 (i63+1)∧
 stp F42 F43
 [.val (.int .i64 (i63+1)),.cells [s76.v],
 .cells [s84.v,.bool b85,s86.v,s115.v,.bool b116,s117.v,s90.v,.bool b91,s92.v],
 .cells [s93.v,.bool b94,s95.v,s118.v,.bool b119,s120.v,s99.v,.bool b100,s101.v]]
 W113
 [.val (.int .i64 i63),.cells [s44.v],
 .cells [s45.v,.bool b46,s47.v,s48.v,.bool b49,s50.v,s51.v,.bool b52,s53.v],
 .cells [s54.v,.bool b55,s56.v,s57.v,.bool b58,s59.v,s60.v,.bool b61,s62.v]]
 W64))∧
 (Int.toNat i63=2→
 I64 (i63+1)∧
 stp F42 F43
 [.val (.int .i64 (i63+1)),.cells [s76.v],
 .cells [s84.v,.bool b85,s86.v,s115.v,.bool b116,s117.v,s90.v,.bool b91,s92.v],
 .cells [s93.v,.bool b94,s95.v,s96.v,.bool b97,s98.v,s118.v,.bool b119,s120.v]]
 W113
 [.val (.int .i64 i63),.cells [s44.v],
 .cells [s45.v,.bool b46,s47.v,s48.v,.bool b49,s50.v,s51.v,.bool b52,s53.v],
 .cells [s54.v,.bool b55,s56.v,s57.v,.bool b58,s59.v,s60.v,.bool b61,s62.v]]
 W64)))∧
 (Int.toNat i63=2→
 Ext W113 W113∧
 (0≤i63∧i63<3)∧
 Int.toNat i63<3∧
 ((True∧
 (Int.toNat i63=0→
 I64 (i63+1)∧
 stp F42 F43
 [.val (.int .i64 (i63+1)),.cells [s76.v],
 .cells [s84.v,.bool b85,s86.v,s87.v,.bool b88,s89.v,s115.v,.bool b116,s117.v],
 .cells [s118.v,.bool b119,s120.v,s96.v,.bool b97,s98.v,s99.v,.bool b100,s101.v]]
 W113
 [.val (.int .i64 i63),.cells [s44.v],
 .cells [s45.v,.bool b46,s47.v,s48.v,.bool b49,s50.v,s51.v,.bool b52,s53.v],
 .cells [s54.v,.bool b55,s56.v,s57.v,.bool b58,s59.v,s60.v,.bool b61,s62.v]]
 W64))∧
 (Int.toNat i63=1→
 I64 (i63+1)∧
 stp F42 F43
 [.val (.int .i64 (i63+1)),.cells [s76.v],
 .cells [s84.v,.bool b85,s86.v,s87.v,.bool b88,s89.v,s115.v,.bool b116,s117.v],
 .cells [s93.v,.bool b94,s95.v,s118.v,.bool b119,s120.v,s99.v,.bool b100,s101.v]]
 W113
 [.val (.int .i64 i63),.cells [s44.v],
 .cells [s45.v,.bool b46,s47.v,s48.v,.bool b49,s50.v,s51.v,.bool b52,s53.v],
 .cells [s54.v,.bool b55,s56.v,s57.v,.bool b58,s59.v,s60.v,.bool b61,s62.v]]
 W64))∧
 (Int.toNat i63=2→
 I64 (i63+1)∧
 stp F42 F43
 [.val (.int .i64 (i63+1)),.cells [s76.v],
 .cells [s84.v,.bool b85,s86.v,s87.v,.bool b88,s89.v,s115.v,.bool b116,s117.v],
 .cells [s93.v,.bool b94,s95.v,s96.v,.bool b97,s98.v,s118.v,.bool b119,s120.v]]
 W113
 [.val (.int .i64 i63),.cells [s44.v],
 .cells [s45.v,.bool b46,s47.v,s48.v,.bool b49,s50.v,s51.v,.bool b52,s53.v],
 .cells [s54.v,.bool b55,s56.v,s57.v,.bool b58,s59.v,s60.v,.bool b61,s62.v]]
 W64)))∧
 (¬i114<0→
 I64 (i63+1)∧
 stp F42 F43
 [.val (.int .i64 (i63+1)),.cells [s76.v],
 .cells [s84.v,.bool b85,s86.v,s87.v,.bool b88,s89.v,s90.v,.bool b91,s92.v],
 .cells [s93.v,.bool b94,s95.v,s96.v,.bool b97,s98.v,s99.v,.bool b100,s101.v]]
 W113
 [.val (.int .i64 i63),.cells [s44.v],
 .cells [s45.v,.bool b46,s47.v,s48.v,.bool b49,s50.v,s51.v,.bool b52,s53.v],
 .cells [s54.v,.bool b55,s56.v,s57.v,.bool b58,s59.v,s60.v,.bool b61,s62.v]]
 W64))∧
 (¬i63<3→
 Aa1 Tryz.prog W0 M 24 [.agg ⟨[s44.v]⟩,s3.v] W64 fun v121 W122=>
 ∃s123:Sl,
 ∃b124:Bool,
 ∃s125:Sl,
 ∃s126:Sl,
 ∃b127:Bool,
 ∃s128:Sl,
 ∃b129:Bool,
 v121 = .tuple ⟨[.agg ⟨[s123.v,.bool b124,s125.v,s126.v,.bool b127,s128.v]⟩,.bool b129]⟩∧
 Aa1 Tryz.prog W0 M 50 [.agg ⟨[s44.v]⟩,s3.v] W122 fun v130 W131=>
 ∃s132:Sl,
 ∃b133:Bool,
 ∃s134:Sl,
 ∃s135:Sl,
 ∃b136:Bool,
 ∃s137:Sl,
 ∃b138:Bool,
 v130 = .tuple ⟨[.agg ⟨[s132.v,.bool b133,s134.v,s135.v,.bool b136,s137.v]⟩,.bool b138]⟩∧
 (b129=true→
 (b138=true→
 Aa1 Tryz.prog W0 M 29
 [.agg ⟨[s123.v,.bool b124,s125.v,s126.v,.bool b127,s128.v]⟩,
 .agg ⟨[s132.v,.bool b133,s134.v,s135.v,.bool b136,s137.v]⟩]
 W131 fun v139 W140=>
 ∃b141:Bool,
 v139 = .bool b141∧
 (b141=true→
 Aa1 Tryz.prog W0 M 39
 [.agg ⟨[s44.v]⟩,.agg ⟨[s45.v,.bool b46,s47.v,s48.v,.bool b49,s50.v,s51.v,.bool b52,s53.v]⟩] W140
 fun v142 W143=>
 ∃s144:Sl,
 ∃b145:Bool,
 ∃s146:Sl,
 v142 = .agg ⟨[s144.v,.bool b145,s146.v]⟩∧
 Aa1 Tryz.prog W0 M 47 [.agg ⟨[s123.v,.bool b124,s125.v]⟩,.agg ⟨[s144.v,.bool b145,s146.v]⟩] W143
 fun v147 W148=>
 ∃i149:Int,
 v147 = .int .i64 i149∧
 (i149=0→
 Aa1 Tryz.prog W0 M 39
 [.agg ⟨[s44.v]⟩,.agg ⟨[s54.v,.bool b55,s56.v,s57.v,.bool b58,s59.v,s60.v,.bool b61,s62.v]⟩]
 W148 fun v150 W151=>
 ∃s152:Sl,
 ∃b153:Bool,
 ∃s154:Sl,
 v150 = .agg ⟨[s152.v,.bool b153,s154.v]⟩∧
 Aa1 Tryz.prog W0 M 47 [.agg ⟨[s126.v,.bool b127,s128.v]⟩,.agg ⟨[s152.v,.bool b153,s154.v]⟩] W151
 fun v155 W156=>∃i157:Int,v155 = .int .i64 i157∧∀(W158:PW),Ext W156 W158→Post (.bool (decide (i157=0))) W158)∧
 (¬i149=0→Ext W148 W148∧∀(W159:PW),Ext W148 W159→Post (.bool false) W159))∧
 (b141=false→Ext W140 W140∧Ext W140 W140∧∀(W160:PW),Ext W140 W160→Post (.bool false) W160))∧
 (b138=false→Ext W131 W131∧Ext W131 W131∧∀(W161:PW),Ext W131 W161→Post (.bool false) W161))∧
 (b129=false→Ext W131 W131∧Ext W131 W131∧∀(W162:PW),Ext W131 W162→Post (.bool false) W162)))∧
 (¬i63<(s3.2:Int)→
 Aa1 Tryz.prog W0 M 24 [.agg ⟨[s44.v]⟩,s3.v] W64 fun v163 W164=>
 ∃s165:Sl,
 ∃b166:Bool,
 ∃s167:Sl,
 ∃s168:Sl,
 ∃b169:Bool,
 ∃s170:Sl,
 ∃b171:Bool,
 v163 = .tuple ⟨[.agg ⟨[s165.v,.bool b166,s167.v,s168.v,.bool b169,s170.v]⟩,.bool b171]⟩∧
 Aa1 Tryz.prog W0 M 50 [.agg ⟨[s44.v]⟩,s3.v] W164 fun v172 W173=>
 ∃s174:Sl,
 ∃b175:Bool,
 ∃s176:Sl,
 ∃s177:Sl,
 ∃b178:Bool,
 ∃s179:Sl,
 ∃b180:Bool,
 v172 = .tuple ⟨[.agg ⟨[s174.v,.bool b175,s176.v,s177.v,.bool b178,s179.v]⟩,.bool b180]⟩∧
 (b171=true→
 (b180=true→
 Aa1 Tryz.prog W0 M 29
 [.agg ⟨[s165.v,.bool b166,s167.v,s168.v,.bool b169,s170.v]⟩,
 .agg ⟨[s174.v,.bool b175,s176.v,s177.v,.bool b178,s179.v]⟩]
 W173 fun v181 W182=>
 ∃b183:Bool,
 v181 = .bool b183∧
 (b183=true→
 Aa1 Tryz.prog W0 M 39
 [.agg ⟨[s44.v]⟩,.agg ⟨[s45.v,.bool b46,s47.v,s48.v,.bool b49,s50.v,s51.v,.bool b52,s53.v]⟩] W182
 fun v184 W185=>
 ∃s186:Sl,
 ∃b187:Bool,
 ∃s188:Sl,
 v184 = .agg ⟨[s186.v,.bool b187,s188.v]⟩∧
 Aa1 Tryz.prog W0 M 47 [.agg ⟨[s165.v,.bool b166,s167.v]⟩,.agg ⟨[s186.v,.bool b187,s188.v]⟩] W185
 fun v189 W190=>
 ∃i191:Int,
 v189 = .int .i64 i191∧
 (i191=0→
 Aa1 Tryz.prog W0 M 39
 [.agg ⟨[s44.v]⟩,.agg ⟨[s54.v,.bool b55,s56.v,s57.v,.bool b58,s59.v,s60.v,.bool b61,s62.v]⟩] W190
 fun v192 W193=>
 ∃s194:Sl,
 ∃b195:Bool,
 ∃s196:Sl,
 v192 = .agg ⟨[s194.v,.bool b195,s196.v]⟩∧
 Aa1 Tryz.prog W0 M 47 [.agg ⟨[s168.v,.bool b169,s170.v]⟩,.agg ⟨[s194.v,.bool b195,s196.v]⟩] W193
 fun v197 W198=>∃i199:Int,v197 = .int .i64 i199∧∀(W200:PW),Ext W198 W200→Post (.bool (decide (i199=0))) W200)∧
 (¬i191=0→Ext W190 W190∧∀(W201:PW),Ext W190 W201→Post (.bool false) W201))∧
 (b183=false→Ext W182 W182∧Ext W182 W182∧∀(W202:PW),Ext W182 W202→Post (.bool false) W202))∧
 (b180=false→Ext W173 W173∧Ext W173 W173∧∀(W203:PW),Ext W173 W203→Post (.bool false) W203))∧
 (b171=false→Ext W173 W173∧Ext W173 W173∧∀(W204:PW),Ext W173 W204→Post (.bool false) W204)))))
theorem Hy4 (W0:PW) (M:Nat→Prop) (a0_0:ByteArray) (a0_1:ByteArray) (a0_2:ByteArray) (a0_3:ByteArray) (a1:Sl) (Post:Value→PW→Prop) (h:Hy9 W0 M a0_0 a0_1 a0_2 a0_3 a1 Post):Aa0 Tryz.prog 8 [.agg #[.string a0_0,.string a0_1,.string a0_2,.string a0_3],a1.v] W0 M Post:=
 Aa3 rfl Aa9 Aa8 Tryz.func8 (cuts:=[12]) rfl rfl (Nat.le_of_ble_eq_true rfl) (Eq.mpr (by kernel_rfl) h)
end Go.Proofs.YtjkkidjbppphpaaGreatDoor
