/- R10 -/
import Derived.Test.YtjgpenfndnhdnaaGreatTt
set_option linter.unusedVariables false
set_option linter.unusedSimpArgs false
set_option maxRecDepth 100000
set_option linter.unusedVariables false
namespace Go.Proofs.YtjgpenfndnhdnaaGreat
open Go Go.SX
def Rlaw14_alive (W0:PW) (M:Nat→Prop) (Post:Value→PW→Prop):Prop:=
 ∀(s1:Sl) (W2:PW),
 Ext W0 W2→
 SX.Own W2 9 1 s1 [[.string (ByteArray.mk #[50])],[.string (ByteArray.mk #[49])]]→
 Fr W0 W0 s1→
 ∀(s3:Sl) (W4:PW),
 Ext W2 W4→
 SX.Own W4 9 1 s3 [[.string (ByteArray.mk #[49])],[.string (ByteArray.mk #[50])]]→
 Fr W0 W2 s3→
 ∀(s5:Sl) (W6:PW),
 Ext W4 W6→
 SX.Own W6 105 1 s5 [[s1.v],[s3.v]]→
 Fr W0 W4 s5→
 callN Tryz.prog W0 M 44 [s5.v] W6 fun v7 W8=>
 ∃s9:Sl,
 ∃i10:Int,
 v7 = .tuple ⟨[s9.v,.int .i64 i10]⟩∧
 callN Tryz.prog W0 M 89 [s9.v] W8 fun v11 W12=>
 ∃s13:Sl,
 ∃s14:Sl,
 ∃b15:Bool,
 v11 = .tuple ⟨[s13.v,s14.v,.bool b15]⟩∧
 (i10=0→
 (b15=true→
 ((s14.2:Int)=2→
 inB s14 0∧
 ∃s16:Sl,
 ∃b17:Bool,
 ∃s18:Sl,
 ElemAt W12 s14 3 0 0 [s16.v,.bool b17,s18.v]∧
 callN Tryz.prog W0 M 90 [.agg ⟨[s16.v,.bool b17,s18.v]⟩] W12 fun v19 W20=>
 ∃t21:ByteArray,
 v19 = .string t21∧
 (t21=(ByteArray.mk #[50])→
 inB s14 1∧
 ∃s22:Sl,
 ∃b23:Bool,
 ∃s24:Sl,
 ElemAt W20 s14 3 1 0 [s22.v,.bool b23,s24.v]∧
 callN Tryz.prog W0 M 90 [.agg ⟨[s22.v,.bool b23,s24.v]⟩] W20 fun v25 W26=>
 ∃t27:ByteArray,v25 = .string t27∧∀(W28:PW),Ext W26 W28→Post (.bool (decide (t27 = {data:=#[(51:UInt8),(47:UInt8),(50:UInt8)] }))) W28)∧
 (¬t21=(ByteArray.mk #[50])→∀(W29:PW),Ext W20 W29→Post (.bool false) W29))∧
 (¬(s14.2:Int)=2→∀(W30:PW),Ext W12 W30→Post (.bool false) W30))∧
 (b15=false→∀(W31:PW),Ext W12 W31→Post (.bool false) W31))∧
 (¬i10=0→∀(W32:PW),Ext W12 W32→Post (.bool false) W32)
theorem calllaw14_alive (W0:PW) (M:Nat→Prop) (Post:Value→PW→Prop) (h:Rlaw14_alive W0 M Post):PCallsM Tryz.prog 37 [] W0 M Post:=
 fn_sound rfl tt_ok tt_in Tryz.func37 (cuts:=[]) rfl rfl (Nat.le_of_ble_eq_true rfl) (Eq.mpr (by kernel_rfl) h)
end Go.Proofs.YtjgpenfndnhdnaaGreat
