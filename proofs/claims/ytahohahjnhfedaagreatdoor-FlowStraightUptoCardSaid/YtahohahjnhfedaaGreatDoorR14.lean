/- R14 -/
import Derived.Test.YtahohahjnhfedaaGreatDoorTt
set_option linter.unusedVariables false
set_option linter.unusedSimpArgs false
set_option maxRecDepth 100000
namespace Go.Proofs.YtahohahjnhfedaaGreatDoor
open Go Go.SX
def Ld5 (W0:PW) (M:Nat→Prop) (a0:Sl) (Post:Value→PW→Prop):Prop:=
 ∃(F1:List PL→PW→Prop),
 ∃(F2:List PL→PW→Nat),
 F1 [.row [],.val (.int .i64 0)] W0∧
 ∀(l3:List (List Value)) (i4:Int) (W5:PW),
 F1 [.row l3,.val (.int .i64 i4)] W5→
 (i4<(a0.2:Int)→
 inB a0 i4∧
 ∃s6:Sl,
 ∃b7:Bool,
 ∃s8:Sl,
 Aa7 W5 a0 3 (Int.toNat i4) 0 [s6.v,.bool b7,s8.v]∧
 Aa1 Tryz.prog W0 M 22 [.agg ⟨[s6.v,.bool b7,s8.v]⟩] W5 fun v9 W10=>
 ∃s11:Sl,
 v9 = .agg ⟨[s11.v]⟩∧(List.length l3+List.length [[s11.v]])*24≤140737488355328∧I64 (i4+1)∧stp F1 F2 [.row (l3 ++ [[s11.v]]),.val (.int .i64 (i4+1))] W10 [.row l3,.val (.int .i64 i4)] W5)∧
 (¬i4<(a0.2:Int)→∀(s12:Sl) (W13:PW),Ext W5 W13→SX.Own W13 72 1 s12 l3→Fr W0 W5 s12→∀(W14:PW),Ext W13 W14→Post s12.v W14)
theorem Lc8 (W0:PW) (M:Nat→Prop) (a0:Sl) (Post:Value→PW→Prop) (h:Ld5 W0 M a0 Post):Aa0 Tryz.prog 9 [a0.v] W0 M Post:=
 Aa3 rfl Aa9 Aa8 Tryz.func9 (cuts:=[]) rfl rfl (Nat.le_of_ble_eq_true rfl) (Eq.mpr (by kernel_rfl) h)
def Lc7 (W0:PW) (M:Nat→Prop) (a0:Sl) (a1:Sl) (a2:ByteArray) (a3:Int) (Post:Value→PW→Prop):Prop:=
 Aa1 Tryz.prog W0 M 4 [a1.v] W0 fun v1 W2=>
 ∃s3:Sl,
 ∃s4:Sl,
 ∃b5:Bool,
 v1 = .tuple ⟨[s3.v,s4.v,.bool b5]⟩∧
 Aa1 Tryz.prog W0 M 5 [.string a2] W2 fun v6 W7=>
 ∃s8:Sl,
 ∃b9:Bool,
 ∃s10:Sl,
 ∃b11:Bool,
 ∃s12:Sl,
 ∃s13:Sl,
 ∃b14:Bool,
 v6 = .tuple ⟨[.agg ⟨[s8.v,.bool b9,s10.v]⟩,.agg ⟨[.bool b11,s12.v,s13.v]⟩,.bool b14]⟩∧
 ((!b5)=true→Aa1 Tryz.prog W0 M 6 [] W7 fun v15 W16=>∃b17:Bool,v15 = .bool b17∧∀(W18:PW),Ext W16 W18→Post (.bool b17) W18)∧
 ((!b5)=false→
 ((!b14)=true→Aa1 Tryz.prog W0 M 6 [] W7 fun v19 W20=>∃b21:Bool,v19 = .bool b21∧∀(W22:PW),Ext W20 W22→Post (.bool b21) W22)∧
 ((!b14)=false→
 Aa1 Tryz.prog W0 M 6 [] W7 fun v23 W24=>
 ∃b25:Bool,
 v23 = .bool b25∧
 ((!b25)=true→Aa1 Tryz.prog W0 M 6 [] W24 fun v26 W27=>∃b28:Bool,v26 = .bool b28∧∀(W29:PW),Ext W27 W29→Post (.bool b28) W29)∧
 ((!b25)=false→
 (2<(s3.2:Int)→Aa1 Tryz.prog W0 M 6 [] W24 fun v30 W31=>∃b32:Bool,v30 = .bool b32∧∀(W33:PW),Ext W31 W33→Post (.bool b32) W33)∧
 (¬2<(s3.2:Int)→
 ((a0.2:Int)<(s3.2:Int)→Aa1 Tryz.prog W0 M 6 [] W24 fun v34 W35=>∃b36:Bool,v34 = .bool b36∧∀(W37:PW),Ext W35 W37→Post (.bool b36) W37)∧
 (¬(a0.2:Int)<(s3.2:Int)→
 Aa1 Tryz.prog W0 M 7 [.agg ⟨[s8.v,.bool b9,s10.v]⟩] W24 fun v38 W39=>
 ∃i40:Int,
 v38 = .int .i64 i40∧
 (i40≤0→Aa1 Tryz.prog W0 M 6 [] W39 fun v41 W42=>∃b43:Bool,v41 = .bool b43∧∀(W44:PW),Ext W42 W44→Post (.bool b43) W44)∧
 (¬i40≤0→
 (12<(↑(ByteArray.size a2):Int)→Aa1 Tryz.prog W0 M 6 [] W39 fun v45 W46=>∃b47:Bool,v45 = .bool b47∧∀(W48:PW),Ext W46 W48→Post (.bool b47) W48)∧
 (¬12<(↑(ByteArray.size a2):Int)→
 ∃(F49:List PL→PW→Prop),
 ∃(F50:List PL→PW→Nat),
 F49 [.row [],.val (.int .i64 0)] W39∧
 ∀(l51:List (List Value)) (i52:Int) (W53:PW),
 F49 [.row l51,.val (.int .i64 i52)] W53→
 (i52<(s3.2:Int)→
 inB a0 i52∧
 ∃t54:ByteArray,
 Aa7 W53 a0 1 (Int.toNat i52) 0 [.string t54]∧
 Aa1 Tryz.prog W0 M 5 [.string t54] W53 fun v55 W56=>
 ∃s57:Sl,
 ∃b58:Bool,
 ∃s59:Sl,
 ∃b60:Bool,
 ∃s61:Sl,
 ∃s62:Sl,
 ∃b63:Bool,
 v55 = .tuple ⟨[.agg ⟨[s57.v,.bool b58,s59.v]⟩,.agg ⟨[.bool b60,s61.v,s62.v]⟩,.bool b63]⟩∧
 ((!b63)=true→∀(W64:PW),Ext W56 W64→Post (.bool true) W64)∧
 ((!b63)=false→
 inB a0 i52∧
 ∃t65:ByteArray,
 Aa7 W56 a0 1 (Int.toNat i52) 0 [.string t65]∧
 (12<(↑(ByteArray.size t65):Int)→∀(W66:PW),Ext W56 W66→Post (.bool true) W66)∧
 (¬12<(↑(ByteArray.size t65):Int)→
 (List.length l51+List.length [[s57.v,.bool b58,s59.v]])*56≤140737488355328∧
 I64 (i52+1)∧stp F49 F50 [.row (l51 ++ [[s57.v,.bool b58,s59.v]]),.val (.int .i64 (i52+1))] W56 [.row l51,.val (.int .i64 i52)] W53)))∧
 (¬i52<(s3.2:Int)→
 Aa1 Tryz.prog W0 M 8 [.int .i64 a3,.int .i64 1,.int .i64 4] W53 fun v67 W68=>
 ∃i69:Int,
 v67 = .int .i64 i69∧
 ∀(s70:Sl) (W71:PW),
 Ext W68 W71→
 SX.Own W71 35 3 s70 l51→
 Fr W0 W68 s70→
 Aa1 Tryz.prog W0 M 9 [s70.v] W71 fun v72 W73=>
 ∃s74:Sl,
 v72=s74.v∧
 ∃(F75:List PL→PW→Prop),
 ∃(F76:List PL→PW→Nat),
 F75 [.row [],.val (.int .i64 0)] W73∧
 ∀(l77:List (List Value)) (i78:Int) (W79:PW),
 F75 [.row l77,.val (.int .i64 i78)] W79→
 (i78<(s3.2:Int)→
 inB s3 i78∧
 ∃s80:Sl,
 ∃b81:Bool,
 ∃s82:Sl,
 ∃s83:Sl,
 ∃b84:Bool,
 ∃s85:Sl,
 Aa7 W79 s3 6 (Int.toNat i78) 0 [s80.v,.bool b81,s82.v,s83.v,.bool b84,s85.v]∧
 inB s70 i78∧
 ∃s86:Sl,
 ∃b87:Bool,
 ∃s88:Sl,
 Aa7 W79 s70 3 (Int.toNat i78) 0 [s86.v,.bool b87,s88.v]∧
 inB s70 i78∧
 ∃s89:Sl,
 ∃b90:Bool,
 ∃s91:Sl,
 Aa7 W79 s70 3 (Int.toNat i78) 0 [s89.v,.bool b90,s91.v]∧
 Aa1 Tryz.prog W0 M 11 [.agg ⟨[s86.v,.bool b87,s88.v]⟩,.agg ⟨[s8.v,.bool b9,s10.v]⟩] W79
 fun v92 W93=>
 ∃s94:Sl,
 ∃b95:Bool,
 ∃s96:Sl,
 v92 = .agg ⟨[s94.v,.bool b95,s96.v]⟩∧
 Ext W79 W93∧
 Aa1 Tryz.prog W0 M 10 [.agg ⟨[s80.v,.bool b81,s82.v]⟩,.agg ⟨[s94.v,.bool b95,s96.v]⟩] W93
 fun v97 W98=>
 ∃s99:Sl,
 ∃b100:Bool,
 ∃s101:Sl,
 v97 = .agg ⟨[s99.v,.bool b100,s101.v]⟩∧
 Ext W93 W98∧
 Aa1 Tryz.prog W0 M 11 [.agg ⟨[s89.v,.bool b90,s91.v]⟩,.agg ⟨[s8.v,.bool b9,s10.v]⟩] W98
 fun v102 W103=>
 ∃s104:Sl,
 ∃b105:Bool,
 ∃s106:Sl,
 v102 = .agg ⟨[s104.v,.bool b105,s106.v]⟩∧
 Aa1 Tryz.prog W0 M 10 [.agg ⟨[s83.v,.bool b84,s85.v]⟩,.agg ⟨[s104.v,.bool b105,s106.v]⟩]
 W103 fun v107 W108=>
 ∃s109:Sl,
 ∃b110:Bool,
 ∃s111:Sl,
 v107 = .agg ⟨[s109.v,.bool b110,s111.v]⟩∧
 (List.length l77+List.length [[s99.v,.bool b100,s101.v,s109.v,.bool b110,s111.v]])*112≤140737488355328∧
 I64 (i78+1)∧
 stp F75 F76
 [.row (l77 ++ [[s99.v,.bool b100,s101.v,s109.v,.bool b110,s111.v]]),.val (.int .i64 (i78+1))]
 W108 [.row l77,.val (.int .i64 i78)] W79)∧
 (¬i78<(s3.2:Int)→
 ∀(s112:Sl) (W113:PW),
 Ext W79 W113→
 SX.Own W113 50 6 s112 l77→
 Fr W0 W79 s112→
 Aa1 Tryz.prog W0 M 12 [s3.v,s112.v] W113 fun v114 W115=>
 ∃s116:Sl,
 ∃b117:Bool,
 v114 = .tuple ⟨[s116.v,.bool b117]⟩∧
 Aa1 Tryz.prog W0 M 13 [s74.v,s3.v,s116.v,.agg ⟨[s8.v,.bool b9,s10.v]⟩,.int .i64 i69] W115 fun v118 W119=>
 ∃s120:Sl,
 ∃b121:Bool,
 v118 = .tuple ⟨[s120.v,.bool b121]⟩∧
 ((!b117)=true→∀(W122:PW),Ext W119 W122→Post (.bool false) W122)∧
 ((!b117)=false→
 ((!b121)=true→∀(W123:PW),Ext W119 W123→Post (.bool false) W123)∧
 ((!b121)=false→
 ((s120.2:Int)≠(s112.2:Int)→∀(W124:PW),Ext W119 W124→Post (.bool false) W124)∧
 (¬(s120.2:Int)≠(s112.2:Int)→
 ∃(F125:List PL→PW→Prop),
 ∃(F126:List PL→PW→Nat),
 F125 [.val (.bool false),.val (.int .i64 0)] W119∧
 ∀(b127:Bool) (i128:Int) (W129:PW),
 F125 [.val (.bool b127),.val (.int .i64 i128)] W129→
 (i128<(s120.2:Int)→
 (b127=true→
 inB s120 i128∧
 ∃s130:Sl,
 ∃b131:Bool,
 ∃s132:Sl,
 Aa7 W129 s120 6 (Int.toNat i128) 0 [s130.v,.bool b131,s132.v]∧
 inB s112 i128∧
 ∃s133:Sl,
 ∃b134:Bool,
 ∃s135:Sl,
 Aa7 W129 s112 6 (Int.toNat i128) 0 [s133.v,.bool b134,s135.v]∧
 Aa1 Tryz.prog W0 M 14
 [.agg ⟨[s130.v,.bool b131,s132.v]⟩,.agg ⟨[s133.v,.bool b134,s135.v]⟩] W129
 fun v136 W137=>
 ∃i138:Int,
 v136 = .int .i64 i138∧
 (i138≠0→∀(W139:PW),Ext W137 W139→Post (.bool false) W139)∧
 (¬i138≠0→
 inB s120 i128∧
 ∃s140:Sl,
 ∃b141:Bool,
 ∃s142:Sl,
 Aa7 W137 s120 6 (Int.toNat i128) 3 [s140.v,.bool b141,s142.v]∧
 inB s112 i128∧
 ∃s143:Sl,
 ∃b144:Bool,
 ∃s145:Sl,
 Aa7 W137 s112 6 (Int.toNat i128) 3 [s143.v,.bool b144,s145.v]∧
 Aa1 Tryz.prog W0 M 14
 [.agg ⟨[s140.v,.bool b141,s142.v]⟩,.agg ⟨[s143.v,.bool b144,s145.v]⟩] W137
 fun v146 W147=>
 ∃i148:Int,
 v146 = .int .i64 i148∧
 (i148≠0→∀(W149:PW),Ext W147 W149→Post (.bool false) W149)∧
 (¬i148≠0→
 I64 (i128+1)∧
 stp F125 F126 [.val (.bool true),.val (.int .i64 (i128+1))] W147
 [.val (.bool b127),.val (.int .i64 i128)] W129)))∧
 (b127=false→
 inB s70 i128∧
 ∃s150:Sl,
 ∃b151:Bool,
 ∃s152:Sl,
 Aa7 W129 s70 3 (Int.toNat i128) 0 [s150.v,.bool b151,s152.v]∧
 Aa1 Tryz.prog W0 M 7 [.agg ⟨[s150.v,.bool b151,s152.v]⟩] W129 fun v153 W154=>
 ∃i155:Int,
 v153 = .int .i64 i155∧
 inB s120 i128∧
 ∃s156:Sl,
 ∃b157:Bool,
 ∃s158:Sl,
 Aa7 W154 s120 6 (Int.toNat i128) 0 [s156.v,.bool b157,s158.v]∧
 inB s112 i128∧
 ∃s159:Sl,
 ∃b160:Bool,
 ∃s161:Sl,
 Aa7 W154 s112 6 (Int.toNat i128) 0 [s159.v,.bool b160,s161.v]∧
 Aa1 Tryz.prog W0 M 14
 [.agg ⟨[s156.v,.bool b157,s158.v]⟩,.agg ⟨[s159.v,.bool b160,s161.v]⟩] W154
 fun v162 W163=>
 ∃i164:Int,
 v162 = .int .i64 i164∧
 (i164≠0→∀(W165:PW),Ext W163 W165→Post (.bool false) W165)∧
 (¬i164≠0→
 inB s120 i128∧
 ∃s166:Sl,
 ∃b167:Bool,
 ∃s168:Sl,
 Aa7 W163 s120 6 (Int.toNat i128) 3 [s166.v,.bool b167,s168.v]∧
 inB s112 i128∧
 ∃s169:Sl,
 ∃b170:Bool,
 ∃s171:Sl,
 Aa7 W163 s112 6 (Int.toNat i128) 3 [s169.v,.bool b170,s171.v]∧
 Aa1 Tryz.prog W0 M 14
 [.agg ⟨[s166.v,.bool b167,s168.v]⟩,
 .agg ⟨[s169.v,.bool b170,s171.v]⟩]
 W163 fun v172 W173=>
 ∃i174:Int,
 v172 = .int .i64 i174∧
 (i174≠0→∀(W175:PW),Ext W173 W175→Post (.bool false) W175)∧
 (¬i174≠0→
 I64 (i128+1)∧
 stp F125 F126 [.val (.bool (decide (i155≠0))),.val (.int .i64 (i128+1))]
 W173 [.val (.bool b127),.val (.int .i64 i128)] W129))))∧
 (¬i128<(s120.2:Int)→
 Aa1 Tryz.prog W0 M 15 [s74.v,s3.v,s116.v,.agg ⟨[s8.v,.bool b9,s10.v]⟩] W129 fun v176 W177=>
 ∃b178:Bool,
 v176 = .bool b178∧
 (b178=true→
 Aa1 Tryz.prog W0 M 15 [s74.v,s3.v,s3.v,.agg ⟨[s8.v,.bool b9,s10.v]⟩] W177 fun v179 W180=>
 ∃b181:Bool,v179 = .bool b181∧∀(W182:PW),Ext W180 W182→Post (.bool (decide (b181 = !b127))) W182)∧
 (b178=false→∀(W183:PW),Ext W177 W183→Post (.bool false) W183))))))))))))))
theorem Lc6 (W0:PW) (M:Nat→Prop) (a0:Sl) (a1:Sl) (a2:ByteArray) (a3:Int) (Post:Value→PW→Prop) (h:Lc7 W0 M a0 a1 a2 a3 Post):Aa0 Tryz.prog 3 [a0.v,a1.v,.string a2,.int .i64 a3] W0 M Post:=
 Aa3 rfl Aa9 Aa8 Tryz.func3 (cuts:=[]) rfl rfl (Nat.le_of_ble_eq_true rfl) (Eq.mpr (by kernel_rfl) h)
end Go.Proofs.YtahohahjnhfedaaGreatDoor
