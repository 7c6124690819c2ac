/- R8 -/
import Derived.Test.YtjgpenfndnhdnaaGreatTt
set_option linter.unusedVariables false
set_option linter.unusedSimpArgs false
set_option maxRecDepth 100000
set_option linter.unusedVariables false
namespace Go.Proofs.YtjgpenfndnhdnaaGreat
open Go Go.SX
def Rldl_Of (W0:PW) (M:Nat→Prop) (a0:Sl) (Post:Value→PW→Prop):Prop:=
 callN Tryz.prog W0 M 130 [a0.v] W0 fun v1 W2=>
 ∃b3:Bool,
 v1 = .bool b3∧
 ((!b3)=true→∀(W4:PW),Ext W2 W4→Post (.tuple ⟨[.slice none 0 0,.slice none 0 0,.bool false]⟩) W4)∧
 ((!b3)=false→
 (callN Tryz.prog W0 M 131 [.int .i64 (a0.2:Int)] W2 fun v5 W6=>
 ∃s7:Sl,
 v5=s7.v∧
 ((a0.2:Int)=(a0.2:Int)∧0≤(a0.2:Int)∧(a0.2:Int)*(↑(56:Nat):Int)≤281474976710656)∧
 ∀(s8:Sl) (W9:PW),
 Ext W6 W9→
 SX.Own W9 62 3 s8 (List.replicate (Int.toNat (a0.2:Int)) [.slice none 0 0,.bool false,.slice none 0 0])→
 Fr W0 W6 s8→
 ∃(F10:List PL→PW→Prop),
 ∃(F11:List PL→PW→Nat),
 F10 [.val (.int .i64 0)] W9∧
 ∀(i12:Int) (W13:PW),
 F10 [.val (.int .i64 i12)] W13→
 (i12<(a0.2:Int)→
 callN Tryz.prog W0 M 132 [a0.v,s7.v,s8.v,.int .i64 i12,.int .i64 i12] W13 fun v14 W15=>
 ∃s16:Sl,
 ∃b17:Bool,
 ∃s18:Sl,
 v14 = .agg ⟨[s16.v,.bool b17,s18.v]⟩∧
 inB s8 i12∧
 storeN W0 M s8 (Int.toNat i12*3+0) [s16.v,.bool b17,s18.v] W15 fun(W19:PW)=>
 I64 (i12+1)∧
 ∃(F20:List PL→PW→Prop),
 ∃(F21:List PL→PW→Nat),
 F20 [.val (.int .i64 (i12+1))] W19∧
 ∀(i22:Int) (W23:PW),
 F20 [.val (.int .i64 i22)] W23→
 (i22<(a0.2:Int)→
 callN Tryz.prog W0 M 132 [a0.v,s7.v,s8.v,.int .i64 i22,.int .i64 i12] W23 fun v24 W25=>
 ∃s26:Sl,
 ∃b27:Bool,
 ∃s28:Sl,
 v24 = .agg ⟨[s26.v,.bool b27,s28.v]⟩∧
 inB s8 i12∧
 ∃s29:Sl,
 ∃b30:Bool,
 ∃s31:Sl,
 ElemAt W25 s8 3 (Int.toNat i12) 0 [s29.v,.bool b30,s31.v]∧
 callN Tryz.prog W0 M 62 [.agg ⟨[s26.v,.bool b27,s28.v]⟩,.agg ⟨[s29.v,.bool b30,s31.v]⟩] W25 fun v32 W33=>
 ∃s34:Sl,
 ∃b35:Bool,
 ∃s36:Sl,
 ∃b37:Bool,
 v32 = .tuple ⟨[.agg ⟨[s34.v,.bool b35,s36.v]⟩,.bool b37]⟩∧
 ∃(F38:List PL→PW→Prop),
 (((!b37)=true→
 callN Tryz.prog W0 M 40 [.agg ⟨[s26.v,.bool b27,s28.v]⟩] W33 fun v39 W40=>
 ∃i41:Int,
 v39 = .int .i64 i41∧
 (i41≠0→∀(W42:PW),Ext W40 W42→Post (.tuple ⟨[.slice none 0 0,.slice none 0 0,.bool false]⟩) W42)∧
 (¬i41≠0→F38 [.val (.bool b37),.val (.bool true)] W40))∧
 ((!b37)=false→F38 [.val (.bool b37),.val (.bool false)] W33))∧
 ∀(b43 b44:Bool) (W45:PW),
 F38 [.val (.bool b43),.val (.bool b44)] W45→
 inB s7 i22∧
 ∃s46:Sl,
 ElemAt W45 s7 1 (Int.toNat i22) 0 [s46.v]∧
 inB s46 i12∧
 storeN W0 M s46 (Int.toNat i12*3+0) [s34.v,.bool b35,s36.v] W45 fun(W47:PW)=>
 I64 (i22+1)∧stp F20 F21 [.val (.int .i64 (i22+1))] W47 [.val (.int .i64 i22)] W23)∧
 (¬i22<(a0.2:Int)→I64 (i12+1)∧stp F10 F11 [.val (.int .i64 (i12+1))] W23 [.val (.int .i64 i12)] W13))∧
 (¬i12<(a0.2:Int)→∀(W48:PW),Ext W13 W48→Post (.tuple ⟨[s7.v,s8.v,.bool true]⟩) W48))∧
 ((a0.2:Int)=(a0.2:Int)∧0≤(a0.2:Int)∧(a0.2:Int)*(↑(56:Nat):Int)≤281474976710656)∧
 callN Tryz.prog W0 M 131 [.int .i64 (a0.2:Int)] W2 fun v49 W50=>
 ∃s51:Sl,
 v49=s51.v∧
 ∀(s52:Sl) (W53:PW),
 Ext W50 W53→
 SX.Own W53 62 3 s52 (List.replicate (Int.toNat (a0.2:Int)) [.slice none 0 0,.bool false,.slice none 0 0])→
 Fr W0 W50 s52→
 ∃(F54:List PL→PW→Prop),
 ∃(F55:List PL→PW→Nat),
 F54 [.val (.int .i64 0)] W53∧
 ∀(i56:Int) (W57:PW),
 F54 [.val (.int .i64 i56)] W57→
 (i56<(a0.2:Int)→
 callN Tryz.prog W0 M 132 [a0.v,s51.v,s52.v,.int .i64 i56,.int .i64 i56] W57 fun v58 W59=>
 ∃s60:Sl,
 ∃b61:Bool,
 ∃s62:Sl,
 v58 = .agg ⟨[s60.v,.bool b61,s62.v]⟩∧
 inB s52 i56∧
 storeN W0 M s52 (Int.toNat i56*3+0) [s60.v,.bool b61,s62.v] W59 fun(W63:PW)=>
 I64 (i56+1)∧
 ∃(F64:List PL→PW→Prop),
 ∃(F65:List PL→PW→Nat),
 F64 [.val (.int .i64 (i56+1))] W63∧
 ∀(i66:Int) (W67:PW),
 F64 [.val (.int .i64 i66)] W67→
 (i66<(a0.2:Int)→
 callN Tryz.prog W0 M 132 [a0.v,s51.v,s52.v,.int .i64 i66,.int .i64 i56] W67 fun v68 W69=>
 ∃s70:Sl,
 ∃b71:Bool,
 ∃s72:Sl,
 v68 = .agg ⟨[s70.v,.bool b71,s72.v]⟩∧
 inB s52 i56∧
 ∃s73:Sl,
 ∃b74:Bool,
 ∃s75:Sl,
 ElemAt W69 s52 3 (Int.toNat i56) 0 [s73.v,.bool b74,s75.v]∧
 callN Tryz.prog W0 M 62 [.agg ⟨[s70.v,.bool b71,s72.v]⟩,.agg ⟨[s73.v,.bool b74,s75.v]⟩] W69 fun v76 W77=>
 ∃s78:Sl,
 ∃b79:Bool,
 ∃s80:Sl,
 ∃b81:Bool,
 v76 = .tuple ⟨[.agg ⟨[s78.v,.bool b79,s80.v]⟩,.bool b81]⟩∧
 ∃(F82:List PL→PW→Prop),
 (((!b81)=true→
 callN Tryz.prog W0 M 40 [.agg ⟨[s70.v,.bool b71,s72.v]⟩] W77 fun v83 W84=>
 ∃i85:Int,
 v83 = .int .i64 i85∧
 (i85≠0→∀(W86:PW),Ext W84 W86→Post (.tuple ⟨[.slice none 0 0,.slice none 0 0,.bool false]⟩) W86)∧
 (¬i85≠0→F82 [.val (.bool b81),.val (.bool true)] W84))∧
 ((!b81)=false→F82 [.val (.bool b81),.val (.bool false)] W77))∧
 ∀(b87 b88:Bool) (W89:PW),
 F82 [.val (.bool b87),.val (.bool b88)] W89→
 inB s51 i66∧
 ∃s90:Sl,
 ElemAt W89 s51 1 (Int.toNat i66) 0 [s90.v]∧
 inB s90 i56∧
 storeN W0 M s90 (Int.toNat i56*3+0) [s78.v,.bool b79,s80.v] W89 fun(W91:PW)=>
 I64 (i66+1)∧stp F64 F65 [.val (.int .i64 (i66+1))] W91 [.val (.int .i64 i66)] W67)∧
 (¬i66<(a0.2:Int)→I64 (i56+1)∧stp F54 F55 [.val (.int .i64 (i56+1))] W67 [.val (.int .i64 i56)] W57))∧
 (¬i56<(a0.2:Int)→∀(W92:PW),Ext W57 W92→Post (.tuple ⟨[s51.v,s52.v,.bool true]⟩) W92))
theorem callldl_Of (W0:PW) (M:Nat→Prop) (a0:Sl) (Post:Value→PW→Prop) (h:Rldl_Of W0 M a0 Post):PCallsM Tryz.prog 89 [a0.v] W0 M Post:=
 fn_sound rfl tt_ok tt_in Tryz.func89 (cuts:=[15,1000005]) rfl rfl (Nat.le_of_ble_eq_true rfl) (Eq.mpr (by kernel_rfl) h)
end Go.Proofs.YtjgpenfndnhdnaaGreat
