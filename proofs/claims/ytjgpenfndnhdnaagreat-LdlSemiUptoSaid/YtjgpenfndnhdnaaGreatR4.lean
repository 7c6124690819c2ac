/- R4 -/
import Derived.Test.YtjgpenfndnhdnaaGreatTt
set_option linter.unusedVariables false
set_option linter.unusedSimpArgs false
set_option maxRecDepth 100000
set_option linter.unusedVariables false
namespace Go.Proofs.YtjgpenfndnhdnaaGreat
open Go Go.SX
def Rrat_least (W0:PW) (M:Nat→Prop) (a0_0:Sl) (a0_1:Bool) (a1_0:Sl) (Post:Value→PW→Prop):Prop:=
 callN Tryz.prog W0 M 133 [.agg ⟨[a1_0.v]⟩] W0 fun v1 W2=>
 ∃i3:Int,
 v1 = .int .i64 i3∧
 (i3<2→∀(W4:PW),Ext W2 W4→Post (.agg ⟨[a0_0.v,.bool a0_1,.slice none 0 0]⟩) W4)∧
 (¬i3<2→
 callN Tryz.prog W0 M 94 [.agg ⟨[a0_0.v,.bool a0_1]⟩] W2 fun v5 W6=>
 ∃i7:Int,
 v5 = .int .i64 i7∧
 (i7=0→∀(W8:PW),Ext W6 W8→Post (.agg ⟨[a0_0.v,.bool a0_1,.slice none 0 0]⟩) W8)∧
 (¬i7=0→
 callN Tryz.prog W0 M 117 [.agg ⟨[a0_0.v,.bool a0_1]⟩] W6 fun v9 W10=>
 ∃s11:Sl,
 v9 = .agg ⟨[s11.v]⟩∧
 callN Tryz.prog W0 M 149 [.agg ⟨[a1_0.v]⟩,.agg ⟨[s11.v]⟩] W10 fun v12 W13=>
 ∃s14:Sl,
 v12 = .agg ⟨[s14.v]⟩∧
 callN Tryz.prog W0 M 133 [.agg ⟨[s14.v]⟩] W13 fun v15 W16=>
 ∃i17:Int,
 v15 = .int .i64 i17∧
 (1<i17→
 callN Tryz.prog W0 M 117 [.agg ⟨[a0_0.v,.bool a0_1]⟩] W16 fun v18 W19=>
 ∃s20:Sl,
 v18 = .agg ⟨[s20.v]⟩∧
 callN Tryz.prog W0 M 165 [.agg ⟨[s20.v]⟩,.agg ⟨[s14.v]⟩] W19 fun v21 W22=>
 ∃s23:Sl,
 ∃s24:Sl,
 ∃b25:Bool,
 v21 = .tuple ⟨[.agg ⟨[s23.v]⟩,.agg ⟨[s24.v]⟩,.bool b25]⟩∧
 callN Tryz.prog W0 M 165 [.agg ⟨[a1_0.v]⟩,.agg ⟨[s14.v]⟩] W22 fun v26 W27=>
 ∃s28:Sl,
 ∃s29:Sl,
 ∃b30:Bool,
 v26 = .tuple ⟨[.agg ⟨[s28.v]⟩,.agg ⟨[s29.v]⟩,.bool b30]⟩∧
 callN Tryz.prog W0 M 94 [.agg ⟨[a0_0.v,.bool a0_1]⟩] W27 fun v31 W32=>
 ∃i33:Int,
 v31 = .int .i64 i33∧
 callN Tryz.prog W0 M 115 [.bool (decide (i33<0)),.agg ⟨[s23.v]⟩] W32 fun v34 W35=>
 ∃s36:Sl,
 ∃b37:Bool,
 v34 = .agg ⟨[s36.v,.bool b37]⟩∧
 callN Tryz.prog W0 M 133 [.agg ⟨[s28.v]⟩] W35 fun v38 W39=>
 ∃i40:Int,
 v38 = .int .i64 i40∧
 (i40<2→∀(W41:PW),Ext W39 W41→Post (.agg ⟨[s36.v,.bool b37,.slice none 0 0]⟩) W41)∧
 (¬i40<2→∀(W42:PW),Ext W39 W42→Post (.agg ⟨[s36.v,.bool b37,s28.v]⟩) W42))∧
 (¬1<i17→
 callN Tryz.prog W0 M 133 [.agg ⟨[a1_0.v]⟩] W16 fun v43 W44=>
 ∃i45:Int,
 v43 = .int .i64 i45∧
 (i45<2→∀(W46:PW),Ext W44 W46→Post (.agg ⟨[a0_0.v,.bool a0_1,.slice none 0 0]⟩) W46)∧(¬i45<2→∀(W47:PW),Ext W44 W47→Post (.agg ⟨[a0_0.v,.bool a0_1,a1_0.v]⟩) W47))))
theorem callrat_least (W0:PW) (M:Nat→Prop) (a0_0:Sl) (a0_1:Bool) (a1_0:Sl) (Post:Value→PW→Prop) (h:Rrat_least W0 M a0_0 a0_1 a1_0 Post):PCallsM Tryz.prog 114 [.agg #[a0_0.v,.bool a0_1],.agg #[a1_0.v]] W0 M Post:=
 fn_sound rfl tt_ok tt_in Tryz.func114 (cuts:=[]) rfl rfl (Nat.le_of_ble_eq_true rfl) (Eq.mpr (by kernel_rfl) h)
end Go.Proofs.YtjgpenfndnhdnaaGreat
