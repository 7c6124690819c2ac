/- R19 -/
import Derived.Test.YtjgpenfndnhdnaaGreatTt
set_option linter.unusedVariables false
set_option linter.unusedSimpArgs false
set_option maxRecDepth 100000
set_option linter.unusedVariables false
namespace Go.Proofs.YtjgpenfndnhdnaaGreat
open Go Go.SX
def Rref1_PolyAdd (W0:PW) (M:Nat→Prop) (a0:Sl) (a1:Sl) (Post:Value→PW→Prop):Prop:=
 ∃(F1:List PL→PW→Prop),
 ∃(F2:List PL→PW→Nat),
 F1 [.val a0.v,.val (.int .i64 0)] W0∧
 ∀(s3:Sl) (i4:Int) (W5:PW),
 F1 [.val s3.v,.val (.int .i64 i4)] W5→
 (i4<(a1.2:Int)→
 inB a1 i4∧
 ∃i6:Int,
 ∃i7:Int,
 ∃i8:Int,
 ∃b9:Bool,
 ∃s10:Sl,
 ∃s11:Sl,
 ElemAt W5 a1 6 (Int.toNat i4) 0 [.int .u8 i6,.int .u8 i7,.int .u8 i8,.bool b9,s10.v,s11.v]∧
 callN Tryz.prog W0 M 105 [s3.v,.agg ⟨[.int .u8 i6,.int .u8 i7,.int .u8 i8,.bool b9,s10.v,s11.v]⟩] W5 fun v12 W13=>
 ∃s14:Sl,v12=s14.v∧I64 (i4+1)∧stp F1 F2 [.val s14.v,.val (.int .i64 (i4+1))] W13 [.val s3.v,.val (.int .i64 i4)] W5)∧
 (¬i4<(a1.2:Int)→∀(W15:PW),Ext W5 W15→Post s3.v W15)
theorem callref1_PolyAdd (W0:PW) (M:Nat→Prop) (a0:Sl) (a1:Sl) (Post:Value→PW→Prop) (h:Rref1_PolyAdd W0 M a0 a1 Post):PCallsM Tryz.prog 52 [a0.v,a1.v] W0 M Post:=
 fn_sound rfl tt_ok tt_in Tryz.func52 (cuts:=[]) rfl rfl (Nat.le_of_ble_eq_true rfl) (Eq.mpr (by kernel_rfl) h)
def Rref1_Var (W0:PW) (M:Nat→Prop) (a0:Int) (Post:Value→PW→Prop):Prop:=
 (a0<0→∀(W1:PW),Ext W0 W1→Post (.slice none 0 0) W1)∧
 (¬a0<0→
 (3≤a0→∀(W2:PW),Ext W0 W2→Post (.slice none 0 0) W2)∧
 (¬3≤a0→
 (0≤a0∧a0<3)∧
 Int.toNat a0<3∧
 ((True∧
 (Int.toNat a0=0→
 callN Tryz.prog W0 M 85 [.int .i64 1] W0 fun v3 W4=>
 ∃b5:Bool,
 ∃s6:Sl,
 ∃s7:Sl,
 v3 = .agg ⟨[.bool b5,s6.v,s7.v]⟩∧
 ∀(s8:Sl) (W9:PW),Ext W4 W9→SX.Own W9 142 6 s8 [[.int .u8 1,.int .u8 0,.int .u8 0,.bool b5,s6.v,s7.v]]→Fr W0 W4 s8→∀(W10:PW),Ext W9 W10→Post s8.v W10))∧
 (Int.toNat a0=1→
 callN Tryz.prog W0 M 85 [.int .i64 1] W0 fun v11 W12=>
 ∃b13:Bool,
 ∃s14:Sl,
 ∃s15:Sl,
 v11 = .agg ⟨[.bool b13,s14.v,s15.v]⟩∧
 ∀(s16:Sl) (W17:PW),Ext W12 W17→SX.Own W17 142 6 s16 [[.int .u8 0,.int .u8 1,.int .u8 0,.bool b13,s14.v,s15.v]]→Fr W0 W12 s16→∀(W18:PW),Ext W17 W18→Post s16.v W18))∧
 (Int.toNat a0=2→
 callN Tryz.prog W0 M 85 [.int .i64 1] W0 fun v19 W20=>
 ∃b21:Bool,
 ∃s22:Sl,
 ∃s23:Sl,
 v19 = .agg ⟨[.bool b21,s22.v,s23.v]⟩∧
 ∀(s24:Sl) (W25:PW),Ext W20 W25→SX.Own W25 142 6 s24 [[.int .u8 0,.int .u8 0,.int .u8 1,.bool b21,s22.v,s23.v]]→Fr W0 W20 s24→∀(W26:PW),Ext W25 W26→Post s24.v W26)))
theorem callref1_Var (W0:PW) (M:Nat→Prop) (a0:Int) (Post:Value→PW→Prop) (h:Rref1_Var W0 M a0 Post):PCallsM Tryz.prog 82 [.int .i64 a0] W0 M Post:=
 fn_sound rfl tt_ok tt_in Tryz.func82 (cuts:=[]) rfl rfl (Nat.le_of_ble_eq_true rfl) (Eq.mpr (by kernel_rfl) h)
def Rref1_Const (W0:PW) (M:Nat→Prop) (a0_0:Bool) (a0_1:Sl) (a0_2:Sl) (Post:Value→PW→Prop):Prop:=
 callN Tryz.prog W0 M 105 [.slice none 0 0,.agg ⟨[.int .u8 0,.int .u8 0,.int .u8 0,.bool a0_0,a0_1.v,a0_2.v]⟩] W0 fun v1 W2=>
 ∃s3:Sl,v1=s3.v∧∀(W4:PW),Ext W2 W4→Post s3.v W4
theorem callref1_Const (W0:PW) (M:Nat→Prop) (a0_0:Bool) (a0_1:Sl) (a0_2:Sl) (Post:Value→PW→Prop) (h:Rref1_Const W0 M a0_0 a0_1 a0_2 Post):PCallsM Tryz.prog 84 [.agg #[.bool a0_0,a0_1.v,a0_2.v]] W0 M Post:=
 fn_sound rfl tt_ok tt_in Tryz.func84 (cuts:=[]) rfl rfl (Nat.le_of_ble_eq_true rfl) (Eq.mpr (by kernel_rfl) h)
end Go.Proofs.YtjgpenfndnhdnaaGreat
