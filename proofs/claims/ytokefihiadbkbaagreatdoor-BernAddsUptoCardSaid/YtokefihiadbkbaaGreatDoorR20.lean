/- R20 -/
import Derived.Test.YtokefihiadbkbaaGreatDoorTt
set_option linter.unusedVariables false
set_option linter.unusedSimpArgs false
set_option maxRecDepth 100000
namespace Go.Proofs.YtokefihiadbkbaaGreatDoor
open Go Go.SX
def Jv4 (W0:PW) (M:Nat→Prop) (a0:Sl) (a1:Sl) (a2:Sl) (a3:ByteArray) (Post:Value→PW→Prop):Prop:=
 Aa1 Tryz.prog W0 M 10 [a0.v,.int .i64 4] W0 fun v1 W2=>
 ∃s3:Sl,
 ∃s4:Sl,
 ∃b5:Bool,
 v1 = .tuple ⟨[.agg ⟨[s3.v]⟩,s4.v,.bool b5]⟩∧
 Aa1 Tryz.prog W0 M 10 [a1.v,.int .i64 4] W2 fun v6 W7=>
 ∃s8:Sl,
 ∃s9:Sl,
 ∃b10:Bool,
 v6 = .tuple ⟨[.agg ⟨[s8.v]⟩,s9.v,.bool b10]⟩∧
 Aa1 Tryz.prog W0 M 11 [a2.v] W7 fun v11 W12=>
 ∃s13:Sl,
 ∃s14:Sl,
 ∃b15:Bool,
 v11 = .tuple ⟨[s13.v,s14.v,.bool b15]⟩∧
 Aa1 Tryz.prog W0 M 12 [.string a3] W12 fun v16 W17=>
 ∃s18:Sl,
 ∃b19:Bool,
 ∃s20:Sl,
 ∃b21:Bool,
 ∃s22:Sl,
 ∃s23:Sl,
 ∃b24:Bool,
 v16 = .tuple ⟨[.agg ⟨[s18.v,.bool b19,s20.v]⟩,.agg ⟨[.bool b21,s22.v,s23.v]⟩,.bool b24]⟩∧
 ((!b5)=true→Aa1 Tryz.prog W0 M 13 [] W17 fun v25 W26=>∃b27:Bool,v25 = .bool b27∧∀(W28:PW),Ext W26 W28→Post (.bool b27) W28)∧
 ((!b5)=false→
 ((!b10)=true→Aa1 Tryz.prog W0 M 13 [] W17 fun v29 W30=>∃b31:Bool,v29 = .bool b31∧∀(W32:PW),Ext W30 W32→Post (.bool b31) W32)∧
 ((!b10)=false→
 ((!b15)=true→Aa1 Tryz.prog W0 M 13 [] W17 fun v33 W34=>∃b35:Bool,v33 = .bool b35∧∀(W36:PW),Ext W34 W36→Post (.bool b35) W36)∧
 ((!b15)=false→
 ((!b24)=true→Aa1 Tryz.prog W0 M 13 [] W17 fun v37 W38=>∃b39:Bool,v37 = .bool b39∧∀(W40:PW),Ext W38 W40→Post (.bool b39) W40)∧
 ((!b24)=false→
 Aa1 Tryz.prog W0 M 13 [] W17 fun v41 W42=>
 ∃b43:Bool,
 v41 = .bool b43∧
 ((!b43)=true→Aa1 Tryz.prog W0 M 13 [] W42 fun v44 W45=>∃b46:Bool,v44 = .bool b46∧∀(W47:PW),Ext W45 W47→Post (.bool b46) W47)∧
 ((!b43)=false→
 Aa1 Tryz.prog W0 M 14 [.agg ⟨[s3.v]⟩] W42 fun v48 W49=>
 ∃i50:Int,
 v48 = .int .i64 i50∧
 ((s13.2:Int)<i50→Aa1 Tryz.prog W0 M 13 [] W49 fun v51 W52=>∃b53:Bool,v51 = .bool b53∧∀(W54:PW),Ext W52 W54→Post (.bool b53) W54)∧
 (¬(s13.2:Int)<i50→
 Aa1 Tryz.prog W0 M 14 [.agg ⟨[s8.v]⟩] W49 fun v55 W56=>
 ∃i57:Int,
 v55 = .int .i64 i57∧
 ((s13.2:Int)<i57→Aa1 Tryz.prog W0 M 13 [] W56 fun v58 W59=>∃b60:Bool,v58 = .bool b60∧∀(W61:PW),Ext W59 W61→Post (.bool b60) W61)∧
 (¬(s13.2:Int)<i57→
 Aa1 Tryz.prog W0 M 15 [s4.v,s9.v] W56 fun v62 W63=>
 ∃s64:Sl,
 v62=s64.v∧
 ∃(F65:List PL→PW→Prop),
 ∃(F66:List PL→PW→Nat),
 F65 [.val (.bool true),.val (.int .i64 0)] W63∧
 ∀(b67:Bool) (i68:Int) (W69:PW),
 F65 [.val (.bool b67),.val (.int .i64 i68)] W69→
 (i68<3→
 (b67=true→
 Aa1 Tryz.prog W0 M 16 [s4.v,.int .i64 i68] W69 fun v70 W71=>
 ∃i72:Int,
 v70 = .int .i64 i72∧
 Aa1 Tryz.prog W0 M 16 [s9.v,.int .i64 i68] W71 fun v73 W74=>
 ∃i75:Int,
 v73 = .int .i64 i75∧
 (i72=i75→
 Aa1 Tryz.prog W0 M 16 [s64.v,.int .i64 i68] W74 fun v76 W77=>
 ∃i78:Int,
 v76 = .int .i64 i78∧
 Aa1 Tryz.prog W0 M 16 [s4.v,.int .i64 i68] W77 fun v79 W80=>
 ∃i81:Int,
 v79 = .int .i64 i81∧
 I64 (i68+1)∧
 stp F65 F66 [.val (.bool (decide (i78=i81))),.val (.int .i64 (i68+1))] W80 [.val (.bool b67),.val (.int .i64 i68)] W69)∧
 (¬i72=i75→I64 (i68+1)∧stp F65 F66 [.val (.bool false),.val (.int .i64 (i68+1))] W74 [.val (.bool b67),.val (.int .i64 i68)] W69))∧
 (b67=false→I64 (i68+1)∧stp F65 F66 [.val (.bool false),.val (.int .i64 (i68+1))] W69 [.val (.bool b67),.val (.int .i64 i68)] W69))∧
 (¬i68<3→
 ((!b67)=true→
 Aa1 Tryz.prog W0 M 17 [.agg ⟨[s18.v,.bool b19,s20.v]⟩] W69 fun v82 W83=>
 ∃s84:Sl,
 v82 = .agg ⟨[s84.v]⟩∧
 Aa1 Tryz.prog W0 M 18 [.agg ⟨[s3.v]⟩,s13.v] W83 fun v85 W86=>
 ∃s87:Sl,
 ∃b88:Bool,
 v85 = .tuple ⟨[s87.v,.bool b88]⟩∧
 Aa1 Tryz.prog W0 M 19 [.agg ⟨[s3.v]⟩,.agg ⟨[s84.v]⟩] W86 fun v89 W90=>
 ∃s91:Sl,
 v89 = .agg ⟨[s91.v]⟩∧
 Aa1 Tryz.prog W0 M 18 [.agg ⟨[s91.v]⟩,s13.v] W90 fun v92 W93=>
 ∃s94:Sl,
 ∃b95:Bool,
 v92 = .tuple ⟨[s94.v,.bool b95]⟩∧
 Aa1 Tryz.prog W0 M 18 [.agg ⟨[s84.v]⟩,s13.v] W93 fun v96 W97=>
 ∃s98:Sl,
 ∃b99:Bool,
 v96 = .tuple ⟨[s98.v,.bool b99]⟩∧
 ((!b88)=true→∀(W100:PW),Ext W97 W100→Post (.bool false) W100)∧
 ((!b88)=false→
 ((!b95)=true→∀(W101:PW),Ext W97 W101→Post (.bool false) W101)∧
 ((!b95)=false→
 ((!b99)=true→∀(W102:PW),Ext W97 W102→Post (.bool false) W102)∧
 ((!b99)=false→
 ((s87.2:Int)≠(s94.2:Int)→∀(W103:PW),Ext W97 W103→Post (.bool false) W103)∧
 (¬(s87.2:Int)≠(s94.2:Int)→
 ((s98.2:Int)≠(s87.2:Int)→
 ((s98.2:Int)≠1→∀(W104:PW),Ext W97 W104→Post (.bool false) W104)∧
 (¬(s98.2:Int)≠1→
 ∃(F105:List PL→PW→Prop),
 ∃(F106:List PL→PW→Nat),
 F105 [.val (.int .i64 0)] W97∧
 ∀(i107:Int) (W108:PW),
 F105 [.val (.int .i64 i107)] W108→
 (i107<(s87.2:Int)→
 inB s98 0∧
 ∃s109:Sl,
 ∃b110:Bool,
 ∃s111:Sl,
 Aa7 W108 s98 3 0 0 [s109.v,.bool b110,s111.v]∧
 ((s98.2:Int)=(s87.2:Int)→
 inB s98 i107∧
 ∃s112:Sl,
 ∃b113:Bool,
 ∃s114:Sl,
 Aa7 W108 s98 3 (Int.toNat i107) 0 [s112.v,.bool b113,s114.v]∧
 inB s94 i107∧
 ∃s115:Sl,
 ∃b116:Bool,
 ∃s117:Sl,
 Aa7 W108 s94 3 (Int.toNat i107) 0 [s115.v,.bool b116,s117.v]∧
 inB s87 i107∧
 ∃s118:Sl,
 ∃b119:Bool,
 ∃s120:Sl,
 Aa7 W108 s87 3 (Int.toNat i107) 0 [s118.v,.bool b119,s120.v]∧
 Aa1 Tryz.prog W0 M 21
 [.agg ⟨[s118.v,.bool b119,s120.v]⟩,
 .agg ⟨[s112.v,.bool b113,s114.v]⟩]
 W108 fun v121 W122=>
 ∃s123:Sl,
 ∃b124:Bool,
 ∃s125:Sl,
 v121 = .agg ⟨[s123.v,.bool b124,s125.v]⟩∧
 Ext W108 W122∧
 Aa1 Tryz.prog W0 M 20
 [.agg ⟨[s115.v,.bool b116,s117.v]⟩,
 .agg ⟨[s123.v,.bool b124,s125.v]⟩]
 W122 fun v126 W127=>
 ∃i128:Int,
 v126 = .int .i64 i128∧
 (i128≠0→∀(W129:PW),Ext W127 W129→Post (.bool false) W129)∧
 (¬i128≠0→
 I64 (i107+1)∧
 stp F105 F106 [.val (.int .i64 (i107+1))] W127 [.val (.int .i64 i107)]
 W108))∧
 (¬(s98.2:Int)=(s87.2:Int)→
 inB s94 i107∧
 ∃s130:Sl,
 ∃b131:Bool,
 ∃s132:Sl,
 Aa7 W108 s94 3 (Int.toNat i107) 0 [s130.v,.bool b131,s132.v]∧
 inB s87 i107∧
 ∃s133:Sl,
 ∃b134:Bool,
 ∃s135:Sl,
 Aa7 W108 s87 3 (Int.toNat i107) 0 [s133.v,.bool b134,s135.v]∧
 Aa1 Tryz.prog W0 M 21
 [.agg ⟨[s133.v,.bool b134,s135.v]⟩,.agg ⟨[s109.v,.bool b110,s111.v]⟩] W108
 fun v136 W137=>
 ∃s138:Sl,
 ∃b139:Bool,
 ∃s140:Sl,
 v136 = .agg ⟨[s138.v,.bool b139,s140.v]⟩∧
 Ext W108 W137∧
 Aa1 Tryz.prog W0 M 20
 [.agg ⟨[s130.v,.bool b131,s132.v]⟩,
 .agg ⟨[s138.v,.bool b139,s140.v]⟩]
 W137 fun v141 W142=>
 ∃i143:Int,
 v141 = .int .i64 i143∧
 (i143≠0→∀(W144:PW),Ext W142 W144→Post (.bool false) W144)∧
 (¬i143≠0→
 I64 (i107+1)∧
 stp F105 F106 [.val (.int .i64 (i107+1))] W142 [.val (.int .i64 i107)] W108)))∧
 (¬i107<(s87.2:Int)→∀(W145:PW),Ext W108 W145→Post (.bool true) W145)))∧
 (¬(s98.2:Int)≠(s87.2:Int)→
 ∃(F146:List PL→PW→Prop),
 ∃(F147:List PL→PW→Nat),
 F146 [.val (.int .i64 0)] W97∧
 ∀(i148:Int) (W149:PW),
 F146 [.val (.int .i64 i148)] W149→
 (i148<(s87.2:Int)→
 inB s98 0∧
 ∃s150:Sl,
 ∃b151:Bool,
 ∃s152:Sl,
 Aa7 W149 s98 3 0 0 [s150.v,.bool b151,s152.v]∧
 ((s98.2:Int)=(s87.2:Int)→
 inB s98 i148∧
 ∃s153:Sl,
 ∃b154:Bool,
 ∃s155:Sl,
 Aa7 W149 s98 3 (Int.toNat i148) 0 [s153.v,.bool b154,s155.v]∧
 inB s94 i148∧
 ∃s156:Sl,
 ∃b157:Bool,
 ∃s158:Sl,
 Aa7 W149 s94 3 (Int.toNat i148) 0 [s156.v,.bool b157,s158.v]∧
 inB s87 i148∧
 ∃s159:Sl,
 ∃b160:Bool,
 ∃s161:Sl,
 Aa7 W149 s87 3 (Int.toNat i148) 0 [s159.v,.bool b160,s161.v]∧
 Aa1 Tryz.prog W0 M 21
 [.agg ⟨[s159.v,.bool b160,s161.v]⟩,.agg ⟨[s153.v,.bool b154,s155.v]⟩]
 W149 fun v162 W163=>
 ∃s164:Sl,
 ∃b165:Bool,
 ∃s166:Sl,
 v162 = .agg ⟨[s164.v,.bool b165,s166.v]⟩∧
 Ext W149 W163∧
 Aa1 Tryz.prog W0 M 20
 [.agg ⟨[s156.v,.bool b157,s158.v]⟩,
 .agg ⟨[s164.v,.bool b165,s166.v]⟩]
 W163 fun v167 W168=>
 ∃i169:Int,
 v167 = .int .i64 i169∧
 (i169≠0→∀(W170:PW),Ext W168 W170→Post (.bool false) W170)∧
 (¬i169≠0→
 I64 (i148+1)∧
 stp F146 F147 [.val (.int .i64 (i148+1))] W168 [.val (.int .i64 i148)]
 W149))∧
 (¬(s98.2:Int)=(s87.2:Int)→
 inB s94 i148∧
 ∃s171:Sl,
 ∃b172:Bool,
 ∃s173:Sl,
 Aa7 W149 s94 3 (Int.toNat i148) 0 [s171.v,.bool b172,s173.v]∧
 inB s87 i148∧
 ∃s174:Sl,
 ∃b175:Bool,
 ∃s176:Sl,
 Aa7 W149 s87 3 (Int.toNat i148) 0 [s174.v,.bool b175,s176.v]∧
 Aa1 Tryz.prog W0 M 21
 [.agg ⟨[s174.v,.bool b175,s176.v]⟩,.agg ⟨[s150.v,.bool b151,s152.v]⟩] W149
 fun v177 W178=>
 ∃s179:Sl,
 ∃b180:Bool,
 ∃s181:Sl,
 v177 = .agg ⟨[s179.v,.bool b180,s181.v]⟩∧
 Ext W149 W178∧
 Aa1 Tryz.prog W0 M 20
 [.agg ⟨[s171.v,.bool b172,s173.v]⟩,
 .agg ⟨[s179.v,.bool b180,s181.v]⟩]
 W178 fun v182 W183=>
 ∃i184:Int,
 v182 = .int .i64 i184∧
 (i184≠0→∀(W185:PW),Ext W183 W185→Post (.bool false) W185)∧
 (¬i184≠0→
 I64 (i148+1)∧
 stp F146 F147 [.val (.int .i64 (i148+1))] W183 [.val (.int .i64 i148)] W149)))∧
 (¬i148<(s87.2:Int)→∀(W186:PW),Ext W149 W186→Post (.bool true) W186)))))))∧
 ((!b67)=false→
 Aa1 Tryz.prog W0 M 18 [.agg ⟨[s3.v]⟩,s13.v] W69 fun v187 W188=>
 ∃s189:Sl,
 ∃b190:Bool,
 v187 = .tuple ⟨[s189.v,.bool b190]⟩∧
 Aa1 Tryz.prog W0 M 19 [.agg ⟨[s3.v]⟩,.agg ⟨[s8.v]⟩] W188 fun v191 W192=>
 ∃s193:Sl,
 v191 = .agg ⟨[s193.v]⟩∧
 Aa1 Tryz.prog W0 M 18 [.agg ⟨[s193.v]⟩,s13.v] W192 fun v194 W195=>
 ∃s196:Sl,
 ∃b197:Bool,
 v194 = .tuple ⟨[s196.v,.bool b197]⟩∧
 Aa1 Tryz.prog W0 M 18 [.agg ⟨[s8.v]⟩,s13.v] W195 fun v198 W199=>
 ∃s200:Sl,
 ∃b201:Bool,
 v198 = .tuple ⟨[s200.v,.bool b201]⟩∧
 ((!b190)=true→∀(W202:PW),Ext W199 W202→Post (.bool false) W202)∧
 ((!b190)=false→
 ((!b197)=true→∀(W203:PW),Ext W199 W203→Post (.bool false) W203)∧
 ((!b197)=false→
 ((!b201)=true→∀(W204:PW),Ext W199 W204→Post (.bool false) W204)∧
 ((!b201)=false→
 ((s189.2:Int)≠(s196.2:Int)→∀(W205:PW),Ext W199 W205→Post (.bool false) W205)∧
 (¬(s189.2:Int)≠(s196.2:Int)→
 ((s200.2:Int)≠(s189.2:Int)→
 ((s200.2:Int)≠1→∀(W206:PW),Ext W199 W206→Post (.bool false) W206)∧
 (¬(s200.2:Int)≠1→
 ∃(F207:List PL→PW→Prop),
 ∃(F208:List PL→PW→Nat),
 F207 [.val (.int .i64 0)] W199∧
 ∀(i209:Int) (W210:PW),
 F207 [.val (.int .i64 i209)] W210→
 (i209<(s189.2:Int)→
 inB s200 0∧
 ∃s211:Sl,
 ∃b212:Bool,
 ∃s213:Sl,
 Aa7 W210 s200 3 0 0 [s211.v,.bool b212,s213.v]∧
 ((s200.2:Int)=(s189.2:Int)→
 inB s200 i209∧
 ∃s214:Sl,
 ∃b215:Bool,
 ∃s216:Sl,
 Aa7 W210 s200 3 (Int.toNat i209) 0 [s214.v,.bool b215,s216.v]∧
 inB s196 i209∧
 ∃s217:Sl,
 ∃b218:Bool,
 ∃s219:Sl,
 Aa7 W210 s196 3 (Int.toNat i209) 0 [s217.v,.bool b218,s219.v]∧
 inB s189 i209∧
 ∃s220:Sl,
 ∃b221:Bool,
 ∃s222:Sl,
 Aa7 W210 s189 3 (Int.toNat i209) 0 [s220.v,.bool b221,s222.v]∧
 Aa1 Tryz.prog W0 M 21
 [.agg ⟨[s220.v,.bool b221,s222.v]⟩,.agg ⟨[s214.v,.bool b215,s216.v]⟩]
 W210 fun v223 W224=>
 ∃s225:Sl,
 ∃b226:Bool,
 ∃s227:Sl,
 v223 = .agg ⟨[s225.v,.bool b226,s227.v]⟩∧
 Ext W210 W224∧
 Aa1 Tryz.prog W0 M 20
 [.agg ⟨[s217.v,.bool b218,s219.v]⟩,
 .agg ⟨[s225.v,.bool b226,s227.v]⟩]
 W224 fun v228 W229=>
 ∃i230:Int,
 v228 = .int .i64 i230∧
 (i230≠0→∀(W231:PW),Ext W229 W231→Post (.bool false) W231)∧
 (¬i230≠0→
 I64 (i209+1)∧
 stp F207 F208 [.val (.int .i64 (i209+1))] W229 [.val (.int .i64 i209)]
 W210))∧
 (¬(s200.2:Int)=(s189.2:Int)→
 inB s196 i209∧
 ∃s232:Sl,
 ∃b233:Bool,
 ∃s234:Sl,
 Aa7 W210 s196 3 (Int.toNat i209) 0 [s232.v,.bool b233,s234.v]∧
 inB s189 i209∧
 ∃s235:Sl,
 ∃b236:Bool,
 ∃s237:Sl,
 Aa7 W210 s189 3 (Int.toNat i209) 0 [s235.v,.bool b236,s237.v]∧
 Aa1 Tryz.prog W0 M 21
 [.agg ⟨[s235.v,.bool b236,s237.v]⟩,.agg ⟨[s211.v,.bool b212,s213.v]⟩] W210
 fun v238 W239=>
 ∃s240:Sl,
 ∃b241:Bool,
 ∃s242:Sl,
 v238 = .agg ⟨[s240.v,.bool b241,s242.v]⟩∧
 Ext W210 W239∧
 Aa1 Tryz.prog W0 M 20
 [.agg ⟨[s232.v,.bool b233,s234.v]⟩,.agg ⟨[s240.v,.bool b241,s242.v]⟩]
 W239 fun v243 W244=>
 ∃i245:Int,
 v243 = .int .i64 i245∧
 (i245≠0→∀(W246:PW),Ext W244 W246→Post (.bool false) W246)∧
 (¬i245≠0→
 I64 (i209+1)∧
 stp F207 F208 [.val (.int .i64 (i209+1))] W244 [.val (.int .i64 i209)] W210)))∧
 (¬i209<(s189.2:Int)→∀(W247:PW),Ext W210 W247→Post (.bool true) W247)))∧
 (¬(s200.2:Int)≠(s189.2:Int)→
 ∃(F248:List PL→PW→Prop),
 ∃(F249:List PL→PW→Nat),
 F248 [.val (.int .i64 0)] W199∧
 ∀(i250:Int) (W251:PW),
 F248 [.val (.int .i64 i250)] W251→
 (i250<(s189.2:Int)→
 inB s200 0∧
 ∃s252:Sl,
 ∃b253:Bool,
 ∃s254:Sl,
 Aa7 W251 s200 3 0 0 [s252.v,.bool b253,s254.v]∧
 ((s200.2:Int)=(s189.2:Int)→
 inB s200 i250∧
 ∃s255:Sl,
 ∃b256:Bool,
 ∃s257:Sl,
 Aa7 W251 s200 3 (Int.toNat i250) 0 [s255.v,.bool b256,s257.v]∧
 inB s196 i250∧
 ∃s258:Sl,
 ∃b259:Bool,
 ∃s260:Sl,
 Aa7 W251 s196 3 (Int.toNat i250) 0 [s258.v,.bool b259,s260.v]∧
 inB s189 i250∧
 ∃s261:Sl,
 ∃b262:Bool,
 ∃s263:Sl,
 Aa7 W251 s189 3 (Int.toNat i250) 0 [s261.v,.bool b262,s263.v]∧
 Aa1 Tryz.prog W0 M 21
 [.agg ⟨[s261.v,.bool b262,s263.v]⟩,.agg ⟨[s255.v,.bool b256,s257.v]⟩] W251
 fun v264 W265=>
 ∃s266:Sl,
 ∃b267:Bool,
 ∃s268:Sl,
 v264 = .agg ⟨[s266.v,.bool b267,s268.v]⟩∧
 Ext W251 W265∧
 Aa1 Tryz.prog W0 M 20
 [.agg ⟨[s258.v,.bool b259,s260.v]⟩,
 .agg ⟨[s266.v,.bool b267,s268.v]⟩]
 W265 fun v269 W270=>
 ∃i271:Int,
 v269 = .int .i64 i271∧
 (i271≠0→∀(W272:PW),Ext W270 W272→Post (.bool false) W272)∧
 (¬i271≠0→
 I64 (i250+1)∧
 stp F248 F249 [.val (.int .i64 (i250+1))] W270 [.val (.int .i64 i250)] W251))∧
 (¬(s200.2:Int)=(s189.2:Int)→
 inB s196 i250∧
 ∃s273:Sl,
 ∃b274:Bool,
 ∃s275:Sl,
 Aa7 W251 s196 3 (Int.toNat i250) 0 [s273.v,.bool b274,s275.v]∧
 inB s189 i250∧
 ∃s276:Sl,
 ∃b277:Bool,
 ∃s278:Sl,
 Aa7 W251 s189 3 (Int.toNat i250) 0 [s276.v,.bool b277,s278.v]∧
 Aa1 Tryz.prog W0 M 21
 [.agg ⟨[s276.v,.bool b277,s278.v]⟩,.agg ⟨[s252.v,.bool b253,s254.v]⟩] W251
 fun v279 W280=>
 ∃s281:Sl,
 ∃b282:Bool,
 ∃s283:Sl,
 v279 = .agg ⟨[s281.v,.bool b282,s283.v]⟩∧
 Ext W251 W280∧
 Aa1 Tryz.prog W0 M 20
 [.agg ⟨[s273.v,.bool b274,s275.v]⟩,.agg ⟨[s281.v,.bool b282,s283.v]⟩]
 W280 fun v284 W285=>
 ∃i286:Int,
 v284 = .int .i64 i286∧
 (i286≠0→∀(W287:PW),Ext W285 W287→Post (.bool false) W287)∧
 (¬i286≠0→
 I64 (i250+1)∧
 stp F248 F249 [.val (.int .i64 (i250+1))] W285 [.val (.int .i64 i250)] W251)))∧
 (¬i250<(s189.2:Int)→∀(W288:PW),Ext W251 W288→Post (.bool true) W288)))))))))))))))
theorem Jv0 (W0:PW) (M:Nat→Prop) (a0:Sl) (a1:Sl) (a2:Sl) (a3:ByteArray) (Post:Value→PW→Prop) (h:Jv4 W0 M a0 a1 a2 a3 Post):Aa0 Tryz.prog 3 [a0.v,a1.v,a2.v,.string a3] W0 M Post:=
 Aa3 rfl Aa9 Aa8 Tryz.func3 (cuts:=[]) rfl rfl (Nat.le_of_ble_eq_true rfl) (Eq.mpr (by kernel_rfl) h)
end Go.Proofs.YtokefihiadbkbaaGreatDoor
