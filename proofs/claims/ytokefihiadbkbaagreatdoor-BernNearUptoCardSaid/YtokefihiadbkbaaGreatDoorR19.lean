/- R19 -/
import Derived.Test.YtokefihiadbkbaaGreatDoorTt
set_option linter.unusedVariables false
set_option linter.unusedSimpArgs false
set_option maxRecDepth 100000
namespace Go.Proofs.YtokefihiadbkbaaGreatDoor
open Go Go.SX
def Ip9 (W0:PW) (M:Nat→Prop) (Post:Value→PW→Prop):Prop:=
 ∀(s1:Sl) (W2:PW),
 Ext W0 W2→
 SX.Own W2 131 2 s1 [[.string (ByteArray.mk #[48]),.string (ByteArray.mk #[49])]]→
 Fr W0 W0 s1→
 Aa1 Tryz.prog W0 M 55 [s1.v] W2 fun v3 W4=>
 ∃s5:Sl,
 ∃i6:Int,
 v3 = .tuple ⟨[s5.v,.int .i64 i6]⟩∧
 Aa1 Tryz.prog W0 M 44 [.int .i64 0] W4 fun v7 W8=>
 ∃s9:Sl,
 v7 = .agg ⟨[s9.v]⟩∧
 Aa1 Tryz.prog W0 M 58 [.agg ⟨[s9.v]⟩,.agg ⟨[s9.v]⟩] W8 fun v10 W11=>
 ∃s12:Sl,
 ∃b13:Bool,
 v10 = .tuple ⟨[.agg ⟨[s12.v]⟩,.bool b13]⟩∧
 Aa1 Tryz.prog W0 M 59 [.agg ⟨[s12.v]⟩,.agg ⟨[s9.v]⟩] W11 fun v14 W15=>
 ∃s16:Sl,
 v14 = .agg ⟨[s16.v]⟩∧
 Aa1 Tryz.prog W0 M 18 [.agg ⟨[s16.v]⟩,s5.v] W15 fun v17 W18=>
 ∃s19:Sl,
 ∃b20:Bool,
 v17 = .tuple ⟨[s19.v,.bool b20]⟩∧
 (i6=0→
 (b13=true→
 (b20=true→
 ((s19.2:Int)=3→
 inB s19 0∧
 ∃s21:Sl,
 ∃b22:Bool,
 ∃s23:Sl,
 Aa7 W18 s19 3 0 0 [s21.v,.bool b22,s23.v]∧
 Aa1 Tryz.prog W0 M 60 [.agg ⟨[s21.v,.bool b22,s23.v]⟩] W18 fun v24 W25=>
 ∃i26:Int,
 v24 = .int .i64 i26∧
 (i26=0→
 inB s19 1∧
 ∃s27:Sl,
 ∃b28:Bool,
 ∃s29:Sl,
 Aa7 W25 s19 3 1 0 [s27.v,.bool b28,s29.v]∧
 Aa1 Tryz.prog W0 M 38 [.agg ⟨[s27.v,.bool b28,s29.v]⟩] W25 fun v30 W31=>
 ∃t32:ByteArray,
 v30 = .string t32∧
 (t32=(ByteArray.mk #[45,49,47,50])→
 inB s19 2∧
 ∃s33:Sl,
 ∃b34:Bool,
 ∃s35:Sl,
 Aa7 W31 s19 3 2 0 [s33.v,.bool b34,s35.v]∧
 Aa1 Tryz.prog W0 M 60 [.agg ⟨[s33.v,.bool b34,s35.v]⟩] W31 fun v36 W37=>
 ∃i38:Int,v36 = .int .i64 i38∧∀(W39:PW),Ext W37 W39→Post (.bool (decide (i38=0))) W39)∧
 (¬t32=(ByteArray.mk #[45,49,47,50])→∀(W40:PW),Ext W31 W40→Post (.bool false) W40))∧
 (¬i26=0→∀(W41:PW),Ext W25 W41→Post (.bool false) W41))∧
 (¬(s19.2:Int)=3→∀(W42:PW),Ext W18 W42→Post (.bool false) W42))∧
 (b20=false→∀(W43:PW),Ext W18 W43→Post (.bool false) W43))∧
 (b13=false→∀(W44:PW),Ext W18 W44→Post (.bool false) W44))∧
 (¬i6=0→∀(W45:PW),Ext W18 W45→Post (.bool false) W45)
theorem Ii2 (W0:PW) (M:Nat→Prop) (Post:Value→PW→Prop) (h:Ip9 W0 M Post):Aa0 Tryz.prog 13 [] W0 M Post:=
 Aa3 rfl Aa9 Aa8 Tryz.func13 (cuts:=[]) rfl rfl (Nat.le_of_ble_eq_true rfl) (Eq.mpr (by kernel_rfl) h)
def Jx9 (W0:PW) (M:Nat→Prop) (a0_0:ByteArray) (a0_1:ByteArray) (a0_2:ByteArray) (a1:Sl) (Post:Value→PW→Prop):Prop:=
 Aa1 Tryz.prog W0 M 11 [a1.v] W0 fun v1 W2=>
 ∃s3:Sl,
 ∃s4:Sl,
 ∃b5:Bool,
 v1 = .tuple ⟨[s3.v,s4.v,.bool b5]⟩∧
 Aa1 Tryz.prog W0 M 42 [.agg ⟨[.string a0_0,.string a0_1,.string a0_2]⟩] W2 fun v6 W7=>
 ∃s8:Sl,
 ∃b9:Bool,
 ∃s10:Sl,
 ∃s11:Sl,
 ∃b12:Bool,
 ∃s13:Sl,
 ∃s14:Sl,
 ∃b15:Bool,
 ∃s16:Sl,
 ∃b17:Bool,
 ∃s18:Sl,
 ∃s19:Sl,
 ∃b20:Bool,
 ∃s21:Sl,
 ∃s22:Sl,
 ∃b23:Bool,
 ∃s24:Sl,
 ∃s25:Sl,
 ∃b26:Bool,
 v6 =
 .tuple
 {
 toList:=
 [.agg ⟨[s8.v,.bool b9,s10.v,s11.v,.bool b12,s13.v,s14.v,.bool b15,s16.v]⟩,
 .agg ⟨[.bool b17,s18.v,s19.v,.bool b20,s21.v,s22.v,.bool b23,s24.v,s25.v]⟩,.bool b26] }∧
 ((!b5)=true→Aa1 Tryz.prog W0 M 13 [] W7 fun v27 W28=>∃b29:Bool,v27 = .bool b29∧∀(W30:PW),Ext W28 W30→Post (.bool b29) W30)∧
 ((!b5)=false→
 ((!b26)=true→Aa1 Tryz.prog W0 M 13 [] W7 fun v31 W32=>∃b33:Bool,v31 = .bool b33∧∀(W34:PW),Ext W32 W34→Post (.bool b33) W34)∧
 ((!b26)=false→
 Aa1 Tryz.prog W0 M 13 [] W7 fun v35 W36=>
 ∃b37:Bool,
 v35 = .bool b37∧
 ((!b37)=true→Aa1 Tryz.prog W0 M 13 [] W36 fun v38 W39=>∃b40:Bool,v38 = .bool b40∧∀(W41:PW),Ext W39 W41→Post (.bool b40) W41)∧
 ((!b37)=false→
 ∃(F42:List PL→PW→Prop),
 ∃(F43:List PL→PW→Nat),
 F42 [.val (.int .i64 0),.cells [.slice none 0 0]] W36∧
 ∀(s44:Sl) (i45:Int) (W46:PW),
 F42 [.val (.int .i64 i45),.cells [s44.v]] W46→
 (i45<(s3.2:Int)→
 (i45<3→
 (0≤i45∧i45<3)∧
 ∃s47:Sl,
 ∃b48:Bool,
 ∃s49:Sl,
 As9 [s8.v,.bool b9,s10.v,s11.v,.bool b12,s13.v,s14.v,.bool b15,s16.v] (0+Int.toNat i45*3+0) [s47.v,.bool b48,s49.v]∧
 Aa1 Tryz.prog W0 M 44 [.int .i64 i45] W46 fun v50 W51=>
 ∃s52:Sl,
 v50 = .agg ⟨[s52.v]⟩∧
 Aa1 Tryz.prog W0 M 43 [.agg ⟨[s52.v]⟩,.agg ⟨[s47.v,.bool b48,s49.v]⟩] W51 fun v53 W54=>
 ∃s55:Sl,
 v53 = .agg ⟨[s55.v]⟩∧
 Aa1 Tryz.prog W0 M 19 [.agg ⟨[s44.v]⟩,.agg ⟨[s55.v]⟩] W54 fun v56 W57=>
 ∃s58:Sl,
 v56 = .agg ⟨[s58.v]⟩∧
 I64 (i45+1)∧stp F42 F43 [.val (.int .i64 (i45+1)),.cells [s58.v]] W57 [.val (.int .i64 i45),.cells [s44.v]] W46)∧
 (¬i45<3→
 Aa1 Tryz.prog W0 M 25 [.agg ⟨[s44.v]⟩,s3.v] W46 fun v59 W60=>
 ∃s61:Sl,
 ∃b62:Bool,
 ∃s63:Sl,
 ∃s64:Sl,
 ∃b65:Bool,
 ∃s66:Sl,
 ∃b67:Bool,
 v59 = .tuple ⟨[.agg ⟨[s61.v,.bool b62,s63.v,s64.v,.bool b65,s66.v]⟩,.bool b67]⟩∧
 Aa1 Tryz.prog W0 M 45 [.agg ⟨[s44.v]⟩,s3.v] W60 fun v68 W69=>
 ∃s70:Sl,
 ∃b71:Bool,
 ∃s72:Sl,
 ∃s73:Sl,
 ∃b74:Bool,
 ∃s75:Sl,
 ∃b76:Bool,
 v68 = .tuple ⟨[.agg ⟨[s70.v,.bool b71,s72.v,s73.v,.bool b74,s75.v]⟩,.bool b76]⟩∧
 (b67=true→
 (b76=true→
 Aa1 Tryz.prog W0 M 46
 [.agg ⟨[s61.v,.bool b62,s63.v,s64.v,.bool b65,s66.v]⟩,.agg ⟨[s70.v,.bool b71,s72.v,s73.v,.bool b74,s75.v]⟩] W69
 fun v77 W78=>∃b79:Bool,v77 = .bool b79∧∀(W80:PW),Ext W78 W80→Post (.bool b79) W80)∧
 (b76=false→∀(W81:PW),Ext W69 W81→Post (.bool false) W81))∧
 (b67=false→∀(W82:PW),Ext W69 W82→Post (.bool false) W82)))∧
 (¬i45<(s3.2:Int)→
 Aa1 Tryz.prog W0 M 25 [.agg ⟨[s44.v]⟩,s3.v] W46 fun v83 W84=>
 ∃s85:Sl,
 ∃b86:Bool,
 ∃s87:Sl,
 ∃s88:Sl,
 ∃b89:Bool,
 ∃s90:Sl,
 ∃b91:Bool,
 v83 = .tuple ⟨[.agg ⟨[s85.v,.bool b86,s87.v,s88.v,.bool b89,s90.v]⟩,.bool b91]⟩∧
 Aa1 Tryz.prog W0 M 45 [.agg ⟨[s44.v]⟩,s3.v] W84 fun v92 W93=>
 ∃s94:Sl,
 ∃b95:Bool,
 ∃s96:Sl,
 ∃s97:Sl,
 ∃b98:Bool,
 ∃s99:Sl,
 ∃b100:Bool,
 v92 = .tuple ⟨[.agg ⟨[s94.v,.bool b95,s96.v,s97.v,.bool b98,s99.v]⟩,.bool b100]⟩∧
 (b91=true→
 (b100=true→
 Aa1 Tryz.prog W0 M 46
 [.agg ⟨[s85.v,.bool b86,s87.v,s88.v,.bool b89,s90.v]⟩,.agg ⟨[s94.v,.bool b95,s96.v,s97.v,.bool b98,s99.v]⟩] W93
 fun v101 W102=>∃b103:Bool,v101 = .bool b103∧∀(W104:PW),Ext W102 W104→Post (.bool b103) W104)∧
 (b100=false→∀(W105:PW),Ext W93 W105→Post (.bool false) W105))∧
 (b91=false→∀(W106:PW),Ext W93 W106→Post (.bool false) W106)))))
theorem Jx8 (W0:PW) (M:Nat→Prop) (a0_0:ByteArray) (a0_1:ByteArray) (a0_2:ByteArray) (a1:Sl) (Post:Value→PW→Prop) (h:Jx9 W0 M a0_0 a0_1 a0_2 a1 Post):Aa0 Tryz.prog 8 [.agg #[.string a0_0,.string a0_1,.string a0_2],a1.v] W0 M Post:=
 Aa3 rfl Aa9 Aa8 Tryz.func8 (cuts:=[]) rfl rfl (Nat.le_of_ble_eq_true rfl) (Eq.mpr (by kernel_rfl) h)
end Go.Proofs.YtokefihiadbkbaaGreatDoor
