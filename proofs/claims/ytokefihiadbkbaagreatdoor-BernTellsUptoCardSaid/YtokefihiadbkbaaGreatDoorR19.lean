/- R19 -/
import Derived.Test.YtokefihiadbkbaaGreatDoorTt
set_option linter.unusedVariables false
set_option linter.unusedSimpArgs false
set_option maxRecDepth 100000
namespace Go.Proofs.YtokefihiadbkbaaGreatDoor
open Go Go.SX
def It9 (W0:PW) (M:Nat→Prop) (a0:Int) (a1:Int) (Post:Value→PW→Prop):Prop:=
 Aa1 Tryz.prog W0 M 87 [.int .i64 1] W0 fun v1 W2=>
 ∃b3:Bool,
 ∃s4:Sl,
 ∃s5:Sl,
 v1 = .agg ⟨[.bool b3,s4.v,s5.v]⟩∧
 ∃(F6:List PL→PW→Prop),
 ∃(F7:List PL→PW→Nat),
 F6 [.val (.int .i64 0),.cells [.bool b3,s4.v,s5.v]] W2∧
 ∀(b8:Bool) (s9 s10:Sl) (i11:Int) (W12:PW),
 F6 [.val (.int .i64 i11),.cells [.bool b8,s9.v,s10.v]] W12→
 (i11<a1→
 I64 (a0-i11)∧
 I64 (i11+1)∧
 Aa1 Tryz.prog W0 M 87 [.int .i64 (a0-i11)] W12 fun v13 W14=>
 ∃b15:Bool,
 ∃s16:Sl,
 ∃s17:Sl,
 v13 = .agg ⟨[.bool b15,s16.v,s17.v]⟩∧
 Aa1 Tryz.prog W0 M 87 [.int .i64 (i11+1)] W14 fun v18 W19=>
 ∃b20:Bool,
 ∃s21:Sl,
 ∃s22:Sl,
 v18 = .agg ⟨[.bool b20,s21.v,s22.v]⟩∧
 Aa1 Tryz.prog W0 M 89 [.agg ⟨[.bool b15,s16.v,s17.v]⟩,.agg ⟨[.bool b20,s21.v,s22.v]⟩] W19 fun v23 W24=>
 ∃b25:Bool,
 ∃s26:Sl,
 ∃s27:Sl,
 v23 = .agg ⟨[.bool b25,s26.v,s27.v]⟩∧
 Aa1 Tryz.prog W0 M 88 [.agg ⟨[.bool b8,s9.v,s10.v]⟩,.agg ⟨[.bool b25,s26.v,s27.v]⟩] W24 fun v28 W29=>
 ∃b30:Bool,
 ∃s31:Sl,
 ∃s32:Sl,
 v28 = .agg ⟨[.bool b30,s31.v,s32.v]⟩∧
 I64 (i11+1)∧stp F6 F7 [.val (.int .i64 (i11+1)),.cells [.bool b30,s31.v,s32.v]] W29 [.val (.int .i64 i11),.cells [.bool b8,s9.v,s10.v]] W12)∧
 (¬i11<a1→∀(W33:PW),Ext W12 W33→Post (.agg ⟨[.bool b8,s9.v,s10.v]⟩) W33)
theorem Im5 (W0:PW) (M:Nat→Prop) (a0:Int) (a1:Int) (Post:Value→PW→Prop) (h:It9 W0 M a0 a1 Post):Aa0 Tryz.prog 90 [.int .i64 a0,.int .i64 a1] W0 M Post:=
 Aa3 rfl Aa9 Aa8 Tryz.func90 (cuts:=[]) rfl rfl (Nat.le_of_ble_eq_true rfl) (Eq.mpr (by kernel_rfl) h)
def Ky4 (W0:PW) (M:Nat→Prop) (a0:Sl) (a1:Int) (Post:Value→PW→Prop):Prop:=
 ∃(F1:List PL→PW→Prop),
 ∃(F2:List PL→PW→Nat),
 F1 [PL.row [],PL.val (Value.int .i64 0)] W0∧
 ∀(l3:List (List Value)) (i4:Int) (W5:PW),
 F1 [PL.row l3,PL.val (Value.int .i64 i4)] W5→
 (i4<a1→
 Aa1 Tryz.prog W0 M 16 [a0.v,Value.int .i64 i4] W5 fun v6 W7=>
 ∃i8:Int,
 v6=Value.int .i64 i8∧(List.length l3+List.length [[Value.int .i64 i8]])*8≤140737488355328∧I64 (i4+1)∧stp F1 F2 [PL.row (l3 ++ [[Value.int .i64 i8]]),PL.val (Value.int .i64 (i4+1))] W7 [PL.row l3,PL.val (Value.int .i64 i4)] W5)∧
 (¬i4<a1→∀(s9:Sl) (W10:PW),Ext W5 W10→SX.Own W10 3 1 s9 l3→Fr W0 W5 s9→∀(W11:PW),Ext W10 W11→Post s9.v W11)
theorem Ku2 (W0:PW) (M:Nat→Prop) (a0:Sl) (a1:Int) (Post:Value→PW→Prop) (h:Ky4 W0 M a0 a1 Post):Aa0 Tryz.prog 81 [a0.v,Value.int .i64 a1] W0 M Post:=
 Aa3 rfl Aa9 Aa8 Tryz.func81 (cuts:=[]) rfl rfl (Nat.le_of_ble_eq_true rfl) (Eq.mpr (by kernel_rfl) h)
def Kw6 (W0:PW) (M:Nat→Prop) (a0:Sl) (a1:Sl) (Post:Value→PW→Prop):Prop:=
 Aa1 Tryz.prog W0 M 80 [a0.v,a1.v] W0 fun v1 W2=>
 ∃b3:Bool,
 v1 = .bool b3∧
 ((!b3)=true→∀(W4:PW),Ext W2 W4→Post (.tuple ⟨[.slice none 0 0,.bool false]⟩) W4)∧
 ((!b3)=false→
 Aa1 Tryz.prog W0 M 81 [a0.v,.int .i64 (a1.2:Int)] W2 fun v5 W6=>
 ∃s7:Sl,
 v5=s7.v∧
 ∃(F8:List PL→PW→Prop),
 ∃(F9:List PL→PW→Nat),
 F8 [.val (.int .i64 1),.val (.int .i64 0),.cells [.slice none 0 0,.slice none 0 0,.slice none 0 0]] W6∧
 ∀(s10 s11 s12:Sl) (i13 i14:Int) (W15:PW),
 F8 [.val (.int .i64 i13),.val (.int .i64 i14),.cells [s10.v,s11.v,s12.v]] W15→
 (i14<(a1.2:Int)→
 inB s7 i14∧
 ∃i16:Int,
 Aa7 W15 s7 1 (Int.toNat i14) 0 [.int .i64 i16]∧
 (16<i16→∀(W17:PW),Ext W15 W17→Post (.tuple ⟨[.slice none 0 0,.bool false]⟩) W17)∧
 (¬16<i16→
 inB s7 i14∧
 ∃i18:Int,
 Aa7 W15 s7 1 (Int.toNat i14) 0 [.int .i64 i18]∧
 I64 (i18+1)∧
 I64 (i13*(i18+1))∧
 inB a1 i14∧
 ∃b19:Bool,
 ∃s20:Sl,
 ∃s21:Sl,
 Aa7 W15 a1 6 (Int.toNat i14) 0 [.bool b19,s20.v,s21.v]∧
 inB a1 i14∧
 ∃b22:Bool,
 ∃s23:Sl,
 ∃s24:Sl,
 ∃b25:Bool,
 ∃s26:Sl,
 ∃s27:Sl,
 Aa7 W15 a1 6 (Int.toNat i14) 0 [.bool b22,s23.v,s24.v,.bool b25,s26.v,s27.v]∧
 Aa1 Tryz.prog W0 M 82 [.agg ⟨[.bool b19,s20.v,s21.v]⟩] W15 fun v28 W29=>
 ∃s30:Sl,
 v28=s30.v∧
 Ext W15 W29∧
 Aa1 Tryz.prog W0 M 84 [.int .i64 i14] W29 fun v31 W32=>
 ∃s33:Sl,
 v31=s33.v∧
 Ext W29 W32∧
 Aa1 Tryz.prog W0 M 85 [.agg ⟨[.bool b22,s23.v,s24.v,.bool b25,s26.v,s27.v]⟩] W32 fun v34 W35=>
 ∃b36:Bool,
 ∃s37:Sl,
 ∃s38:Sl,
 v34 = .agg ⟨[.bool b36,s37.v,s38.v]⟩∧
 Aa1 Tryz.prog W0 M 83 [s33.v,.agg ⟨[.bool b36,s37.v,s38.v]⟩] W35 fun v39 W40=>
 ∃s41:Sl,
 v39=s41.v∧
 Aa1 Tryz.prog W0 M 15 [s30.v,s41.v] W40 fun v42 W43=>
 ∃s44:Sl,
 v42=s44.v∧
 (0≤i14∧i14<3)∧
 Int.toNat i14<3∧
 ((True∧
 (Int.toNat i14=0→
 I64 (i14+1)∧
 stp F8 F9 [.val (.int .i64 (i13*(i18+1))),.val (.int .i64 (i14+1)),.cells [s44.v,s11.v,s12.v]] W43
 [.val (.int .i64 i13),.val (.int .i64 i14),.cells [s10.v,s11.v,s12.v]] W15))∧
 (Int.toNat i14=1→
 I64 (i14+1)∧
 stp F8 F9 [.val (.int .i64 (i13*(i18+1))),.val (.int .i64 (i14+1)),.cells [s10.v,s44.v,s12.v]] W43
 [.val (.int .i64 i13),.val (.int .i64 i14),.cells [s10.v,s11.v,s12.v]] W15))∧
 (Int.toNat i14=2→
 I64 (i14+1)∧
 stp F8 F9 [.val (.int .i64 (i13*(i18+1))),.val (.int .i64 (i14+1)),.cells [s10.v,s11.v,s44.v]] W43
 [.val (.int .i64 i13),.val (.int .i64 i14),.cells [s10.v,s11.v,s12.v]] W15)))∧
 (¬i14<(a1.2:Int)→
 Aa1 Tryz.prog W0 M 86 [a0.v,.agg ⟨[s10.v,s11.v,s12.v]⟩] W15 fun v45 W46=>
 ∃s47:Sl,
 ∃b48:Bool,
 v45 = .tuple ⟨[s47.v,.bool b48]⟩∧
 ((!b48)=true→∀(W49:PW),Ext W46 W49→Post (.tuple ⟨[.slice none 0 0,.bool false]⟩) W49)∧
 ((!b48)=false→
 (i13=i13∧0≤i13∧i13*(↑(56:Nat):Int)≤281474976710656)∧
 ∃(F50:List PL→PW→Prop),
 ∃(F51:List PL→PW→Nat),
 F50 [.val (.int .i64 0),.row (List.replicate (Int.toNat i13) [.bool false,.slice none 0 0,.slice none 0 0])] W46∧
 ∀(l52:List (List Value)) (i53:Int) (W54:PW),
 F50 [.val (.int .i64 i53),.row l52] W54→
 (i53<i13→
 Aa1 Tryz.prog W0 M 87 [.int .i64 0] W54 fun v55 W56=>
 ∃b57:Bool,
 ∃s58:Sl,
 ∃s59:Sl,
 v55 = .agg ⟨[.bool b57,s58.v,s59.v]⟩∧
 (0≤i53∧i53<(↑(List.length l52):Int))∧
 Int.toNat i53<List.length l52∧
 ∃(F60:List PL→PW→Prop),
 ∃(F61:List PL→PW→Nat),
 F60 [.val (.int .i64 i53),.val (.int .i64 0),.cells [.int .i64 0,.int .i64 0,.int .i64 0]] W56∧
 ∀(i62 i63 i64 i65 i66:Int) (W67:PW),
 F60 [.val (.int .i64 i65),.val (.int .i64 i66),.cells [.int .i64 i62,.int .i64 i63,.int .i64 i64]] W67→
 (i66<(a1.2:Int)→
 inB s7 i66∧
 ∃i68:Int,
 Aa7 W67 s7 1 (Int.toNat i66) 0 [.int .i64 i68]∧
 I64 (i68+1)∧
 i68+1≠0∧
 (0≤i66∧i66<3)∧
 Int.toNat i66<3∧
 ((True∧
 (Int.toNat i66=0→
 inB s7 i66∧
 ∃i69:Int,
 Aa7 W67 s7 1 (Int.toNat i66) 0 [.int .i64 i69]∧
 I64 (i69+1)∧
 i69+1≠0∧
 I64 (i66+1)∧
 stp F60 F61
 [.val (.int .i64 (IntKind.wrap .i64 (Int.tdiv i65 (i69+1)))),.val (.int .i64 (i66+1)),
 .cells [.int .i64 (Int.tmod i65 (i68+1)),.int .i64 i63,.int .i64 i64]]
 W67 [.val (.int .i64 i65),.val (.int .i64 i66),.cells [.int .i64 i62,.int .i64 i63,.int .i64 i64]] W67))∧
 (Int.toNat i66=1→
 inB s7 i66∧
 ∃i70:Int,
 Aa7 W67 s7 1 (Int.toNat i66) 0 [.int .i64 i70]∧
 I64 (i70+1)∧
 i70+1≠0∧
 I64 (i66+1)∧
 stp F60 F61
 [.val (.int .i64 (IntKind.wrap .i64 (Int.tdiv i65 (i70+1)))),.val (.int .i64 (i66+1)),
 .cells [.int .i64 i62,.int .i64 (Int.tmod i65 (i68+1)),.int .i64 i64]]
 W67 [.val (.int .i64 i65),.val (.int .i64 i66),.cells [.int .i64 i62,.int .i64 i63,.int .i64 i64]] W67))∧
 (Int.toNat i66=2→
 inB s7 i66∧
 ∃i71:Int,
 Aa7 W67 s7 1 (Int.toNat i66) 0 [.int .i64 i71]∧
 I64 (i71+1)∧
 i71+1≠0∧
 I64 (i66+1)∧
 stp F60 F61
 [.val (.int .i64 (IntKind.wrap .i64 (Int.tdiv i65 (i71+1)))),.val (.int .i64 (i66+1)),
 .cells [.int .i64 i62,.int .i64 i63,.int .i64 (Int.tmod i65 (i68+1))]]
 W67 [.val (.int .i64 i65),.val (.int .i64 i66),.cells [.int .i64 i62,.int .i64 i63,.int .i64 i64]] W67))∧
 (¬i66<(a1.2:Int)→
 ∃(F72:List PL→PW→Prop),
 ∃(F73:List PL→PW→Nat),
 F72 [.val (.int .i64 0),.row (List.set l52 (Int.toNat i53) [.bool b57,s58.v,s59.v])] W67∧
 ∀(l74:List (List Value)) (i75:Int) (W76:PW),
 F72 [.val (.int .i64 i75),.row l74] W76→
 (i75<(s47.2:Int)→
 inB s47 i75∧
 ∃b77:Bool,
 ∃s78:Sl,
 ∃s79:Sl,
 Aa7 W76 s47 6 (Int.toNat i75) 3 [.bool b77,s78.v,s79.v]∧
 ∃(F80:List PL→PW→Prop),
 ∃(F81:List PL→PW→Nat),
 F80 [.val (.bool true),.val (.int .i64 0),.cells [.bool b77,s78.v,s79.v]] W76∧
 ∀(b82:Bool) (s83 s84:Sl) (b85:Bool) (i86:Int) (W87:PW),
 F80 [.val (.bool b85),.val (.int .i64 i86),.cells [.bool b82,s83.v,s84.v]] W87→
 (i86<(a1.2:Int)→
 (b85=true→
 inB s47 i75∧
 (0≤i86∧i86<3)∧
 ∃i88:Int,
 Aa7 W87 s47 6 (Int.toNat i75) (0+Int.toNat i86*1) [.int .u8 i88]∧
 I64 i88∧
 (0≤i86∧i86<3)∧
 ∃i89:Int,
 As9 [.int .i64 i62,.int .i64 i63,.int .i64 i64] (0+Int.toNat i86*1+0) [.int .i64 i89]∧
 (i88≤i89→
 (0≤i86∧i86<3)∧
 ∃i90:Int,
 As9 [.int .i64 i62,.int .i64 i63,.int .i64 i64] (0+Int.toNat i86*1+0) [.int .i64 i90]∧
 inB s7 i86∧
 ∃i91:Int,
 Aa7 W87 s7 1 (Int.toNat i86) 0 [.int .i64 i91]∧
 Aa1 Tryz.prog W0 M 90 [.int .i64 i90,.int .i64 i88] W87 fun v92 W93=>
 ∃b94:Bool,
 ∃s95:Sl,
 ∃s96:Sl,
 v92 = .agg ⟨[.bool b94,s95.v,s96.v]⟩∧
 Ext W87 W93∧
 Aa1 Tryz.prog W0 M 90 [.int .i64 i91,.int .i64 i88] W93 fun v97 W98=>
 ∃b99:Bool,
 ∃s100:Sl,
 ∃s101:Sl,
 v97 = .agg ⟨[.bool b99,s100.v,s101.v]⟩∧
 Aa1 Tryz.prog W0 M 89 [.agg ⟨[.bool b94,s95.v,s96.v]⟩,.agg ⟨[.bool b99,s100.v,s101.v]⟩] W98
 fun v102 W103=>
 ∃b104:Bool,
 ∃s105:Sl,
 ∃s106:Sl,
 v102 = .agg ⟨[.bool b104,s105.v,s106.v]⟩∧
 Aa1 Tryz.prog W0 M 88
 [.agg ⟨[.bool b82,s83.v,s84.v]⟩,.agg ⟨[.bool b104,s105.v,s106.v]⟩] W103
 fun v107 W108=>
 ∃b109:Bool,
 ∃s110:Sl,
 ∃s111:Sl,
 v107 = .agg ⟨[.bool b109,s110.v,s111.v]⟩∧
 I64 (i86+1)∧
 stp F80 F81
 [.val (.bool (decide (i88≤i89))),.val (.int .i64 (i86+1)),.cells [.bool b109,s110.v,s111.v]]
 W108 [.val (.bool b85),.val (.int .i64 i86),.cells [.bool b82,s83.v,s84.v]] W87)∧
 (¬i88≤i89→
 I64 (i86+1)∧
 stp F80 F81 [.val (.bool (decide (i88≤i89))),.val (.int .i64 (i86+1)),.cells [.bool b82,s83.v,s84.v]] W87
 [.val (.bool b85),.val (.int .i64 i86),.cells [.bool b82,s83.v,s84.v]] W87))∧
 (b85=false→
 (b85=true→
 (0≤i53∧i53<(↑(List.length l74):Int))∧
 ∃b112:Bool,
 ∃s113:Sl,
 ∃s114:Sl,
 Ck3 l74 (Int.toNat i53) 0 [.bool b112,s113.v,s114.v]∧
 Aa1 Tryz.prog W0 M 91 [.agg ⟨[.bool b112,s113.v,s114.v]⟩,.agg ⟨[.bool b82,s83.v,s84.v]⟩] W87 fun v115 W116=>
 ∃b117:Bool,
 ∃s118:Sl,
 ∃s119:Sl,
 v115 = .agg ⟨[.bool b117,s118.v,s119.v]⟩∧
 (0≤i53∧i53<(↑(List.length l74):Int))∧
 Int.toNat i53<List.length l74∧
 I64 (i75+1)∧
 stp F72 F73 [.val (.int .i64 (i75+1)),.row (List.set l74 (Int.toNat i53) [.bool b117,s118.v,s119.v])] W116
 [.val (.int .i64 i75),.row l74] W76)∧
 (b85=false→I64 (i75+1)∧stp F72 F73 [.val (.int .i64 (i75+1)),.row l74] W87 [.val (.int .i64 i75),.row l74] W76)))∧
 (¬i86<(a1.2:Int)→
 (b85=true→
 (0≤i53∧i53<(↑(List.length l74):Int))∧
 ∃b120:Bool,
 ∃s121:Sl,
 ∃s122:Sl,
 Ck3 l74 (Int.toNat i53) 0 [.bool b120,s121.v,s122.v]∧
 Aa1 Tryz.prog W0 M 91 [.agg ⟨[.bool b120,s121.v,s122.v]⟩,.agg ⟨[.bool b82,s83.v,s84.v]⟩] W87 fun v123 W124=>
 ∃b125:Bool,
 ∃s126:Sl,
 ∃s127:Sl,
 v123 = .agg ⟨[.bool b125,s126.v,s127.v]⟩∧
 (0≤i53∧i53<(↑(List.length l74):Int))∧
 Int.toNat i53<List.length l74∧
 I64 (i75+1)∧
 stp F72 F73 [.val (.int .i64 (i75+1)),.row (List.set l74 (Int.toNat i53) [.bool b125,s126.v,s127.v])] W124
 [.val (.int .i64 i75),.row l74] W76)∧
 (b85=false→I64 (i75+1)∧stp F72 F73 [.val (.int .i64 (i75+1)),.row l74] W87 [.val (.int .i64 i75),.row l74] W76)))∧
 (¬i75<(s47.2:Int)→I64 (i53+1)∧stp F50 F51 [.val (.int .i64 (i53+1)),.row l74] W76 [.val (.int .i64 i53),.row l52] W54)))∧
 (¬i53<i13→∀(s128:Sl) (W129:PW),Ext W54 W129→SX.Own W129 47 3 s128 l52→Fr W0 W54 s128→∀(W130:PW),Ext W129 W130→Post (.tuple ⟨[s128.v,.bool true]⟩) W130))))
theorem Kt4 (W0:PW) (M:Nat→Prop) (a0:Sl) (a1:Sl) (Post:Value→PW→Prop) (h:Kw6 W0 M a0 a1 Post):Aa0 Tryz.prog 24 [a0.v,a1.v] W0 M Post:=
 Aa3 rfl Aa9 Aa8 Tryz.func24 (cuts:=[]) rfl rfl (Nat.le_of_ble_eq_true rfl) (Eq.mpr (by kernel_rfl) h)
end Go.Proofs.YtokefihiadbkbaaGreatDoor
