/- R18 -/
import Derived.Test.YtjgpenfndnhdnaaGreatTt
set_option linter.unusedVariables false
set_option linter.unusedSimpArgs false
set_option maxRecDepth 100000
set_option linter.unusedVariables false
namespace Go.Proofs.YtjgpenfndnhdnaaGreat
open Go Go.SX
def Rslices_Clone_poly_Term_poly_Term (W0:PW) (M:Nat→Prop) (a0:Sl) (Post:Value→PW→Prop):Prop:=
 (a0.1=none→∀(W1:PW),Ext W0 W1→Post (.slice none 0 0) W1)∧
 (¬a0.1=none→∃(l2:List (List Value)),RowA W0 6 a0 l2∧(0+List.length l2)*64≤140737488355328∧∀(s3:Sl) (W4:PW),Ext W0 W4→SX.Own W4 136 6 s3 ([] ++ l2)→Fr W0 W0 s3→∀(W5:PW),Ext W4 W5→Post s3.v W5)
theorem callslices_Clone_poly_Term_poly_Term (W0:PW) (M:Nat→Prop) (a0:Sl) (Post:Value→PW→Prop) (h:Rslices_Clone_poly_Term_poly_Term W0 M a0 Post):PCallsM Tryz.prog 113 [a0.v] W0 M Post:=
 fn_sound rfl tt_ok tt_in Tryz.func113 (cuts:=[]) rfl rfl (Nat.le_of_ble_eq_true rfl) (Eq.mpr (by kernel_rfl) h)
def Rpoly_Poly_Terms (W0:PW) (M:Nat→Prop) (a0_0:Sl) (Post:Value→PW→Prop):Prop:=
 callN Tryz.prog W0 M 113 [a0_0.v] W0 fun v1 W2=>∃s3:Sl,v1=s3.v∧∀(W4:PW),Ext W2 W4→Post s3.v W4
theorem callpoly_Poly_Terms (W0:PW) (M:Nat→Prop) (a0_0:Sl) (Post:Value→PW→Prop) (h:Rpoly_Poly_Terms W0 M a0_0 Post):PCallsM Tryz.prog 60 [.agg #[a0_0.v]] W0 M Post:=
 fn_sound rfl tt_ok tt_in Tryz.func60 (cuts:=[]) rfl rfl (Nat.le_of_ble_eq_true rfl) (Eq.mpr (by kernel_rfl) h)
end Go.Proofs.YtjgpenfndnhdnaaGreat
