/- R19 -/
import Derived.Test.YtjkkidjbppphpaaGreatDoorTt
set_option linter.unusedVariables false
set_option linter.unusedSimpArgs false
set_option maxRecDepth 100000
namespace Go.Proofs.YtjkkidjbppphpaaGreatDoor
open Go Go.SX
def Ht9 (W0:PW) (M:Nat→Prop) (a0:Sl) (a1:Sl) (a2:Sl) (a3:ByteArray) (Post:Value→PW→Prop):Prop:=
 Aa1 Tryz.prog W0 M 15 [a0.v,.int .i64 6] W0 fun v1 W2=>
 ∃s3:Sl,
 ∃s4:Sl,
 ∃b5:Bool,
 v1 = .tuple ⟨[.agg ⟨[s3.v]⟩,s4.v,.bool b5]⟩∧
 Aa1 Tryz.prog W0 M 15 [a1.v,.int .i64 6] W2 fun v6 W7=>
 ∃s8:Sl,
 ∃s9:Sl,
 ∃b10:Bool,
 v6 = .tuple ⟨[.agg ⟨[s8.v]⟩,s9.v,.bool b10]⟩∧
 Aa1 Tryz.prog W0 M 21 [a2.v] W7 fun v11 W12=>
 ∃s13:Sl,
 ∃s14:Sl,
 ∃b15:Bool,
 v11 = .tuple ⟨[s13.v,s14.v,.bool b15]⟩∧
 Aa1 Tryz.prog W0 M 22 [.agg ⟨[.string a3,.string (ByteArray.mk #[48]),.string (ByteArray.mk #[48])]⟩] W12 fun v16 W17=>
 ∃s18:Sl,
 ∃b19:Bool,
 ∃s20:Sl,
 ∃s21:Sl,
 ∃b22:Bool,
 ∃s23:Sl,
 ∃s24:Sl,
 ∃b25:Bool,
 ∃s26:Sl,
 ∃b27:Bool,
 ∃s28:Sl,
 ∃s29:Sl,
 ∃b30:Bool,
 ∃s31:Sl,
 ∃s32:Sl,
 ∃b33:Bool,
 ∃s34:Sl,
 ∃s35:Sl,
 ∃b36:Bool,
 v16 =
 .tuple
 {
 toList:=
 [.agg ⟨[s18.v,.bool b19,s20.v,s21.v,.bool b22,s23.v,s24.v,.bool b25,s26.v]⟩,
 .agg ⟨[.bool b27,s28.v,s29.v,.bool b30,s31.v,s32.v,.bool b33,s34.v,s35.v]⟩,.bool b36] }∧
 ((!b5)=true→Aa1 Tryz.prog W0 M 16 [] W17 fun v37 W38=>∃b39:Bool,v37 = .bool b39∧∀(W40:PW),Ext W38 W40→Post (.bool b39) W40)∧
 ((!b5)=false→
 ((!b15)=true→Aa1 Tryz.prog W0 M 16 [] W17 fun v41 W42=>∃b43:Bool,v41 = .bool b43∧∀(W44:PW),Ext W42 W44→Post (.bool b43) W44)∧
 ((!b15)=false→
 ((!b36)=true→Aa1 Tryz.prog W0 M 16 [] W17 fun v45 W46=>∃b47:Bool,v45 = .bool b47∧∀(W48:PW),Ext W46 W48→Post (.bool b47) W48)∧
 ((!b36)=false→
 ((!b10)=true→Aa1 Tryz.prog W0 M 16 [] W17 fun v49 W50=>∃b51:Bool,v49 = .bool b51∧∀(W52:PW),Ext W50 W52→Post (.bool b51) W52)∧
 ((!b10)=false→
 Aa1 Tryz.prog W0 M 16 [] W17 fun v53 W54=>
 ∃b55:Bool,
 v53 = .bool b55∧
 ((!b55)=true→Aa1 Tryz.prog W0 M 16 [] W54 fun v56 W57=>∃b58:Bool,v56 = .bool b58∧∀(W59:PW),Ext W57 W59→Post (.bool b58) W59)∧
 ((!b55)=false→
 Aa1 Tryz.prog W0 M 23 [.agg ⟨[s3.v]⟩] W54 fun v60 W61=>
 ∃i62:Int,
 v60 = .int .i64 i62∧
 ((s13.2:Int)<i62→Aa1 Tryz.prog W0 M 16 [] W61 fun v63 W64=>∃b65:Bool,v63 = .bool b65∧∀(W66:PW),Ext W64 W66→Post (.bool b65) W66)∧
 (¬(s13.2:Int)<i62→
 Aa1 Tryz.prog W0 M 23 [.agg ⟨[s8.v]⟩] W61 fun v67 W68=>
 ∃i69:Int,
 v67 = .int .i64 i69∧
 ((s13.2:Int)<i69→Aa1 Tryz.prog W0 M 16 [] W68 fun v70 W71=>∃b72:Bool,v70 = .bool b72∧∀(W73:PW),Ext W71 W73→Post (.bool b72) W73)∧
 (¬(s13.2:Int)<i69→
 Aa1 Tryz.prog W0 M 24 [.agg ⟨[s3.v]⟩,s13.v] W68 fun v74 W75=>
 ∃s76:Sl,
 ∃b77:Bool,
 ∃s78:Sl,
 ∃s79:Sl,
 ∃b80:Bool,
 ∃s81:Sl,
 ∃b82:Bool,
 v74 = .tuple ⟨[.agg ⟨[s76.v,.bool b77,s78.v,s79.v,.bool b80,s81.v]⟩,.bool b82]⟩∧
 Aa1 Tryz.prog W0 M 24 [.agg ⟨[s8.v]⟩,s13.v] W75 fun v83 W84=>
 ∃s85:Sl,
 ∃b86:Bool,
 ∃s87:Sl,
 ∃s88:Sl,
 ∃b89:Bool,
 ∃s90:Sl,
 ∃b91:Bool,
 v83 = .tuple ⟨[.agg ⟨[s85.v,.bool b86,s87.v,s88.v,.bool b89,s90.v]⟩,.bool b91]⟩∧
 Aa1 Tryz.prog W0 M 25 [.agg ⟨[s3.v]⟩,.agg ⟨[s8.v]⟩] W84 fun v92 W93=>
 ∃s94:Sl,
 v92 = .agg ⟨[s94.v]⟩∧
 Aa1 Tryz.prog W0 M 24 [.agg ⟨[s94.v]⟩,s13.v] W93 fun v95 W96=>
 ∃s97:Sl,
 ∃b98:Bool,
 ∃s99:Sl,
 ∃s100:Sl,
 ∃b101:Bool,
 ∃s102:Sl,
 ∃b103:Bool,
 v95 = .tuple ⟨[.agg ⟨[s97.v,.bool b98,s99.v,s100.v,.bool b101,s102.v]⟩,.bool b103]⟩∧
 ((0:Int)≤0∧(0:Int)<3)∧
 Aa1 Tryz.prog W0 M 26 [.agg ⟨[s3.v]⟩,.agg ⟨[s18.v,.bool b19,s20.v]⟩] W96 fun v104 W105=>
 ∃s106:Sl,
 v104 = .agg ⟨[s106.v]⟩∧
 Aa1 Tryz.prog W0 M 24 [.agg ⟨[s106.v]⟩,s13.v] W105 fun v107 W108=>
 ∃s109:Sl,
 ∃b110:Bool,
 ∃s111:Sl,
 ∃s112:Sl,
 ∃b113:Bool,
 ∃s114:Sl,
 ∃b115:Bool,
 v107 = .tuple ⟨[.agg ⟨[s109.v,.bool b110,s111.v,s112.v,.bool b113,s114.v]⟩,.bool b115]⟩∧
 (b82=true→
 (b91=true→
 (b103=true→
 (b115=true→
 Aa1 Tryz.prog W0 M 28
 [.agg ⟨[s76.v,.bool b77,s78.v,s79.v,.bool b80,s81.v]⟩,
 .agg ⟨[s85.v,.bool b86,s87.v,s88.v,.bool b89,s90.v]⟩]
 W108 fun v116 W117=>
 ∃s118:Sl,
 ∃b119:Bool,
 ∃s120:Sl,
 ∃s121:Sl,
 ∃b122:Bool,
 ∃s123:Sl,
 v116 = .agg ⟨[s118.v,.bool b119,s120.v,s121.v,.bool b122,s123.v]⟩∧
 Aa1 Tryz.prog W0 M 27
 [.agg ⟨[s97.v,.bool b98,s99.v,s100.v,.bool b101,s102.v]⟩,
 .agg ⟨[s118.v,.bool b119,s120.v,s121.v,.bool b122,s123.v]⟩]
 W117 fun v124 W125=>
 ∃b126:Bool,
 v124 = .bool b126∧
 (b126=true→
 ((0:Int)≤0∧(0:Int)<3)∧
 Aa1 Tryz.prog W0 M 30
 [.agg ⟨[s76.v,.bool b77,s78.v,s79.v,.bool b80,s81.v]⟩,
 .agg ⟨[s18.v,.bool b19,s20.v]⟩]
 W125 fun v127 W128=>
 ∃s129:Sl,
 ∃b130:Bool,
 ∃s131:Sl,
 ∃s132:Sl,
 ∃b133:Bool,
 ∃s134:Sl,
 v127 =
 .agg
 ⟨[s129.v,.bool b130,s131.v,s132.v,.bool b133,s134.v]⟩∧
 Aa1 Tryz.prog W0 M 29
 [.agg
 ⟨[s109.v,.bool b110,s111.v,s112.v,.bool b113,s114.v]⟩,
 .agg
 ⟨[s129.v,.bool b130,s131.v,s132.v,.bool b133,s134.v]⟩]
 W128 fun v135 W136=>
 ∃b137:Bool,v135 = .bool b137∧∀(W138:PW),Ext W136 W138→Post (.bool b137) W138)∧
 (b126=false→∀(W139:PW),Ext W125 W139→Post (.bool false) W139))∧
 (b115=false→∀(W140:PW),Ext W108 W140→Post (.bool false) W140))∧
 (b103=false→∀(W141:PW),Ext W108 W141→Post (.bool false) W141))∧
 (b91=false→∀(W142:PW),Ext W108 W142→Post (.bool false) W142))∧
 (b82=false→∀(W143:PW),Ext W108 W143→Post (.bool false) W143))))))))
theorem Ht5 (W0:PW) (M:Nat→Prop) (a0:Sl) (a1:Sl) (a2:Sl) (a3:ByteArray) (Post:Value→PW→Prop) (h:Ht9 W0 M a0 a1 a2 a3 Post):Aa0 Tryz.prog 4 [a0.v,a1.v,a2.v,.string a3] W0 M Post:=
 Aa3 rfl Aa9 Aa8 Tryz.func4 (cuts:=[]) rfl rfl (Nat.le_of_ble_eq_true rfl) (Eq.mpr (by kernel_rfl) h)
end Go.Proofs.YtjkkidjbppphpaaGreatDoor
