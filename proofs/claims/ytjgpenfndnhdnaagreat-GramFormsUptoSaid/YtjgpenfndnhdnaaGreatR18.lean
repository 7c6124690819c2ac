/- R18 -/
import Derived.Test.YtjgpenfndnhdnaaGreatTt
set_option linter.unusedVariables false
set_option linter.unusedSimpArgs false
set_option maxRecDepth 100000
set_option linter.unusedVariables false
namespace Go.Proofs.YtjgpenfndnhdnaaGreat
open Go Go.SX
def Rref1_PolyMul (W0:PW) (M:Nat→Prop) (a0:Sl) (a1:Sl) (Post:Value→PW→Prop):Prop:=
 ∃(F1:List PL→PW→Prop),
 ∃(F2:List PL→PW→Nat),
 F1 [.val (.slice none 0 0),.val (.int .i64 0)] W0∧
 ∀(s3:Sl) (i4:Int) (W5:PW),
 F1 [.val s3.v,.val (.int .i64 i4)] W5→
 (i4<(a0.2:Int)→
 ∃(F6:List PL→PW→Prop),
 ∃(F7:List PL→PW→Nat),
 F6 [.val s3.v,.val (.int .i64 0)] W5∧
 ∀(s8:Sl) (i9:Int) (W10:PW),
 F6 [.val s8.v,.val (.int .i64 i9)] W10→
 (i9<(a1.2:Int)→
 inB a0 i4∧
 ∃i11:Int,
 ∃i12:Int,
 ∃i13:Int,
 ElemAt W10 a0 6 (Int.toNat i4) 0 [.int .u8 i11,.int .u8 i12,.int .u8 i13]∧
 inB a1 i9∧
 ∃i14:Int,
 ∃i15:Int,
 ∃i16:Int,
 ElemAt W10 a1 6 (Int.toNat i9) 0 [.int .u8 i14,.int .u8 i15,.int .u8 i16]∧
 callN Tryz.prog W0 M 104 [.agg ⟨[.int .u8 i11,.int .u8 i12,.int .u8 i13]⟩,.agg ⟨[.int .u8 i14,.int .u8 i15,.int .u8 i16]⟩] W10 fun v17 W18=>
 ∃i19:Int,
 ∃i20:Int,
 ∃i21:Int,
 ∃b22:Bool,
 v17 = .tuple ⟨[.agg ⟨[.int .u8 i19,.int .u8 i20,.int .u8 i21]⟩,.bool b22]⟩∧
 ((!b22)=true→∀(W23:PW),Ext W18 W23→Post (.tuple ⟨[.slice none 0 0,.bool false]⟩) W23)∧
 ((!b22)=false→
 inB a0 i4∧
 ∃b24:Bool,
 ∃s25:Sl,
 ∃s26:Sl,
 ElemAt W18 a0 6 (Int.toNat i4) 3 [.bool b24,s25.v,s26.v]∧
 inB a1 i9∧
 ∃b27:Bool,
 ∃s28:Sl,
 ∃s29:Sl,
 ElemAt W18 a1 6 (Int.toNat i9) 3 [.bool b27,s28.v,s29.v]∧
 callN Tryz.prog W0 M 106 [.agg ⟨[.bool b24,s25.v,s26.v]⟩,.agg ⟨[.bool b27,s28.v,s29.v]⟩] W18 fun v30 W31=>
 ∃b32:Bool,
 ∃s33:Sl,
 ∃s34:Sl,
 v30 = .agg ⟨[.bool b32,s33.v,s34.v]⟩∧
 callN Tryz.prog W0 M 105 [s8.v,.agg ⟨[.int .u8 i19,.int .u8 i20,.int .u8 i21,.bool b32,s33.v,s34.v]⟩] W31 fun v35 W36=>
 ∃s37:Sl,v35=s37.v∧I64 (i9+1)∧stp F6 F7 [.val s37.v,.val (.int .i64 (i9+1))] W36 [.val s8.v,.val (.int .i64 i9)] W10))∧
 (¬i9<(a1.2:Int)→I64 (i4+1)∧stp F1 F2 [.val s8.v,.val (.int .i64 (i4+1))] W10 [.val s3.v,.val (.int .i64 i4)] W5))∧
 (¬i4<(a0.2:Int)→∀(W38:PW),Ext W5 W38→Post (.tuple ⟨[s3.v,.bool true]⟩) W38)
theorem callref1_PolyMul (W0:PW) (M:Nat→Prop) (a0:Sl) (a1:Sl) (Post:Value→PW→Prop) (h:Rref1_PolyMul W0 M a0 a1 Post):PCallsM Tryz.prog 51 [a0.v,a1.v] W0 M Post:=
 fn_sound rfl tt_ok tt_in Tryz.func51 (cuts:=[]) rfl rfl (Nat.le_of_ble_eq_true rfl) (Eq.mpr (by kernel_rfl) h)
end Go.Proofs.YtjgpenfndnhdnaaGreat
