/- R19 -/
import Derived.Test.YtokefihiadbkbaaGreatDoorTt
set_option linter.unusedVariables false
set_option linter.unusedSimpArgs false
set_option maxRecDepth 100000
namespace Go.Proofs.YtokefihiadbkbaaGreatDoor
open Go Go.SX
def Ip9 (W0:PW) (M:Nat→Prop) (Post:Value→PW→Prop):Prop:=
 ∀(s1:Sl) (W2:PW),
 Ext W0 W2→
 SX.Own W2 131 2 s1 [[.string (ByteArray.mk #[48]),.string (ByteArray.mk #[49])]]→
 Fr W0 W0 s1→
 Aa1 Tryz.prog W0 M 55 [s1.v] W2 fun v3 W4=>
 ∃s5:Sl,
 ∃i6:Int,
 v3 = .tuple ⟨[s5.v,.int .i64 i6]⟩∧
 Aa1 Tryz.prog W0 M 44 [.int .i64 0] W4 fun v7 W8=>
 ∃s9:Sl,
 v7 = .agg ⟨[s9.v]⟩∧
 Aa1 Tryz.prog W0 M 58 [.agg ⟨[s9.v]⟩,.agg ⟨[s9.v]⟩] W8 fun v10 W11=>
 ∃s12:Sl,
 ∃b13:Bool,
 v10 = .tuple ⟨[.agg ⟨[s12.v]⟩,.bool b13]⟩∧
 Aa1 Tryz.prog W0 M 59 [.agg ⟨[s12.v]⟩,.agg ⟨[s9.v]⟩] W11 fun v14 W15=>
 ∃s16:Sl,
 v14 = .agg ⟨[s16.v]⟩∧
 Aa1 Tryz.prog W0 M 18 [.agg ⟨[s16.v]⟩,s5.v] W15 fun v17 W18=>
 ∃s19:Sl,
 ∃b20:Bool,
 v17 = .tuple ⟨[s19.v,.bool b20]⟩∧
 (i6=0→
 (b13=true→
 (b20=true→
 ((s19.2:Int)=3→
 inB s19 0∧
 ∃s21:Sl,
 ∃b22:Bool,
 ∃s23:Sl,
 Aa7 W18 s19 3 0 0 [s21.v,.bool b22,s23.v]∧
 Aa1 Tryz.prog W0 M 60 [.agg ⟨[s21.v,.bool b22,s23.v]⟩] W18 fun v24 W25=>
 ∃i26:Int,
 v24 = .int .i64 i26∧
 (i26=0→
 inB s19 1∧
 ∃s27:Sl,
 ∃b28:Bool,
 ∃s29:Sl,
 Aa7 W25 s19 3 1 0 [s27.v,.bool b28,s29.v]∧
 Aa1 Tryz.prog W0 M 38 [.agg ⟨[s27.v,.bool b28,s29.v]⟩] W25 fun v30 W31=>
 ∃t32:ByteArray,
 v30 = .string t32∧
 (t32=(ByteArray.mk #[45,49,47,50])→
 inB s19 2∧
 ∃s33:Sl,
 ∃b34:Bool,
 ∃s35:Sl,
 Aa7 W31 s19 3 2 0 [s33.v,.bool b34,s35.v]∧
 Aa1 Tryz.prog W0 M 60 [.agg ⟨[s33.v,.bool b34,s35.v]⟩] W31 fun v36 W37=>
 ∃i38:Int,v36 = .int .i64 i38∧∀(W39:PW),Ext W37 W39→Post (.bool (decide (i38=0))) W39)∧
 (¬t32=(ByteArray.mk #[45,49,47,50])→∀(W40:PW),Ext W31 W40→Post (.bool false) W40))∧
 (¬i26=0→∀(W41:PW),Ext W25 W41→Post (.bool false) W41))∧
 (¬(s19.2:Int)=3→∀(W42:PW),Ext W18 W42→Post (.bool false) W42))∧
 (b20=false→∀(W43:PW),Ext W18 W43→Post (.bool false) W43))∧
 (b13=false→∀(W44:PW),Ext W18 W44→Post (.bool false) W44))∧
 (¬i6=0→∀(W45:PW),Ext W18 W45→Post (.bool false) W45)
theorem Ii2 (W0:PW) (M:Nat→Prop) (Post:Value→PW→Prop) (h:Ip9 W0 M Post):Aa0 Tryz.prog 13 [] W0 M Post:=
 Aa3 rfl Aa9 Aa8 Tryz.func13 (cuts:=[]) rfl rfl (Nat.le_of_ble_eq_true rfl) (Eq.mpr (by kernel_rfl) h)
end Go.Proofs.YtokefihiadbkbaaGreatDoor
