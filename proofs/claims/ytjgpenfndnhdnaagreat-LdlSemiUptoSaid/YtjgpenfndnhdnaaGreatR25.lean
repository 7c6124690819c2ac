/- R25 -/
import Derived.Test.YtjgpenfndnhdnaaGreatTt
set_option linter.unusedVariables false
set_option linter.unusedSimpArgs false
set_option maxRecDepth 100000
set_option linter.unusedVariables false
namespace Go.Proofs.YtjgpenfndnhdnaaGreat
open Go Go.SX
def Rlaw14_LdlSemi (W0:PW) (M:Nat→Prop) (a0:Sl) (a1:Sl) (Post:Value→PW→Prop):Prop:=
 callN Tryz.prog W0 M 41 [a0.v] W0 fun v1 W2=>
 ∃s3:Sl,
 v1=s3.v∧
 callN Tryz.prog W0 M 11 [s3.v] W2 fun v4 W5=>
 ∃s6:Sl,
 ∃s7:Sl,
 v4 = .tuple ⟨[s6.v,s7.v]⟩∧
 callN Tryz.prog W0 M 37 [] W5 fun v8 W9=>
 ∃b10:Bool,
 v8 = .bool b10∧
 ((!b10)=true→callN Tryz.prog W0 M 37 [] W9 fun v11 W12=>∃b13:Bool,v11 = .bool b13∧∀(W14:PW),Ext W12 W14→Post (.bool b13) W14)∧
 ((!b10)=false→
 callN Tryz.prog W0 M 42 [s6.v] W9 fun v15 W16=>
 ∃b17:Bool,
 v15 = .bool b17∧
 ((!b17)=true→callN Tryz.prog W0 M 37 [] W16 fun v18 W19=>∃b20:Bool,v18 = .bool b20∧∀(W21:PW),Ext W19 W21→Post (.bool b20) W21)∧
 ((!b17)=false→
 ((a1.2:Int)<(s6.2:Int)→callN Tryz.prog W0 M 37 [] W16 fun v22 W23=>∃b24:Bool,v22 = .bool b24∧∀(W25:PW),Ext W23 W25→Post (.bool b24) W25)∧
 (¬(a1.2:Int)<(s6.2:Int)→
 ∃(F26:List PL→PW→Prop),
 ∃(F27:List PL→PW→Nat),
 F26 [.row [],.val (.int .i64 0)] W16∧
 ∀(l28:List (List Value)) (i29:Int) (W30:PW),
 F26 [.row l28,.val (.int .i64 i29)] W30→
 (i29<(s6.2:Int)→
 inB a1 i29∧
 ∃t31:ByteArray,
 ElemAt W30 a1 1 (Int.toNat i29) 0 [.string t31]∧
 callN Tryz.prog W0 M 43 [.string t31] W30 fun v32 W33=>
 ∃s34:Sl,
 ∃b35:Bool,
 ∃s36:Sl,
 ∃b37:Bool,
 ∃s38:Sl,
 ∃s39:Sl,
 ∃b40:Bool,
 v32 = .tuple ⟨[.agg ⟨[s34.v,.bool b35,s36.v]⟩,.agg ⟨[.bool b37,s38.v,s39.v]⟩,.bool b40]⟩∧
 ((!b40)=true→∀(W41:PW),Ext W33 W41→Post (.bool true) W41)∧
 ((!b40)=false→
 inB a1 i29∧
 ∃t42:ByteArray,
 ElemAt W33 a1 1 (Int.toNat i29) 0 [.string t42]∧
 (16<(↑(ByteArray.size t42):Int)→∀(W43:PW),Ext W33 W43→Post (.bool true) W43)∧
 (¬16<(↑(ByteArray.size t42):Int)→
 callN Tryz.prog W0 M 20 [.agg ⟨[s34.v,.bool b35,s36.v]⟩] W33 fun v44 W45=>
 ∃s46:Sl,
 v44 = .agg ⟨[s46.v]⟩∧
 (List.length l28+List.length [[s46.v]])*24≤140737488355328∧
 I64 (i29+1)∧stp F26 F27 [.row (l28 ++ [[s46.v]]),.val (.int .i64 (i29+1))] W45 [.row l28,.val (.int .i64 i29)] W30)))∧
 (¬i29<(s6.2:Int)→
 ∀(s47:Sl) (W48:PW),
 Ext W30 W48→
 SX.Own W48 38 1 s47 l28→
 Fr W0 W30 s47→
 callN Tryz.prog W0 M 12 [s47.v,s6.v] W48 fun v49 W50=>
 ∃s51:Sl,
 ∃b52:Bool,
 v49 = .tuple ⟨[.agg ⟨[s51.v]⟩,.bool b52]⟩∧
 ((!b52)=true→callN Tryz.prog W0 M 38 [s6.v] W50 fun v53 W54=>∃b55:Bool,v53 = .bool b55∧∀(W56:PW),Ext W54 W56→Post (.bool !b55) W56)∧
 ((!b52)=false→
 callN Tryz.prog W0 M 38 [s6.v] W50 fun v57 W58=>
 ∃b59:Bool,
 v57 = .bool b59∧
 ((!b59)=true→∀(W60:PW),Ext W58 W60→Post (.bool true) W60)∧
 ((!b59)=false→
 callN Tryz.prog W0 M 39
 [.agg ⟨[s51.v]⟩,
 .agg
 {
 toList:=
 [.slice none 0 0,.bool false,.slice none 0 0,.slice none 0 0,.bool false,.slice none 0 0,.slice none 0 0,
 .bool false,.slice none 0 0] }]
 W58 fun v61 W62=>
 ∃s63:Sl,
 ∃b64:Bool,
 ∃s65:Sl,
 v61 = .agg ⟨[s63.v,.bool b64,s65.v]⟩∧
 callN Tryz.prog W0 M 40 [.agg ⟨[s63.v,.bool b64,s65.v]⟩] W62 fun v66 W67=>
 ∃i68:Int,v66 = .int .i64 i68∧∀(W69:PW),Ext W67 W69→Post (.bool (decide (0≤i68))) W69))))))
theorem calllaw14_LdlSemi (W0:PW) (M:Nat→Prop) (a0:Sl) (a1:Sl) (Post:Value→PW→Prop) (h:Rlaw14_LdlSemi W0 M a0 a1 Post):PCallsM Tryz.prog 8 [a0.v,a1.v] W0 M Post:=
 fn_sound rfl tt_ok tt_in Tryz.func8 (cuts:=[]) rfl rfl (Nat.le_of_ble_eq_true rfl) (Eq.mpr (by kernel_rfl) h)
end Go.Proofs.YtjgpenfndnhdnaaGreat
