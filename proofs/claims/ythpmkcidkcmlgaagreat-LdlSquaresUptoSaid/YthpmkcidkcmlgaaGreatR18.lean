/- R18 -/
import Derived.Test.YthpmkcidkcmlgaaGreatTt
set_option linter.unusedVariables false
set_option linter.unusedSimpArgs false
set_option maxRecDepth 100000
set_option linter.unusedVariables false
namespace Go.Proofs.YthpmkcidkcmlgaaGreat
open Go Go.SX
def Rldl_Squares (W0:PW) (M:Nat→Prop) (a0:Sl) (a1:Sl) (Post:Value→PW→Prop):Prop:=
 callN Tryz.prog W0 M 37 [a1.v] W0 fun v1 W2=>
 ∃s3:Sl,
 ∃s4:Sl,
 ∃b5:Bool,
 v1 = .tuple ⟨[s3.v,s4.v,.bool b5]⟩∧
 ((!b5)=true→∀(W6:PW),Ext W2 W6→Post (.tuple ⟨[.slice none 0 0,.bool false]⟩) W6)∧
 ((!b5)=false→
 ((a0.2:Int)≠(a1.2:Int)→∀(W7:PW),Ext W2 W7→Post (.tuple ⟨[.slice none 0 0,.bool false]⟩) W7)∧
 (¬(a0.2:Int)≠(a1.2:Int)→
 ∃(F8:List PL→PW→Prop),
 ∃(F9:List PL→PW→Nat),
 F8 [.row [],.val (.int .i64 0)] W2∧
 ∀(l10:List (List Value)) (i11:Int) (W12:PW),
 F8 [.row l10,.val (.int .i64 i11)] W12→
 (i11<(s4.2:Int)→
 inB s4 i11∧
 ∃s13:Sl,
 ∃b14:Bool,
 ∃s15:Sl,
 ElemAt W12 s4 3 (Int.toNat i11) 0 [s13.v,.bool b14,s15.v]∧
 callN Tryz.prog W0 M 41 [.agg ⟨[s13.v,.bool b14,s15.v]⟩] W12 fun v16 W17=>
 ∃i18:Int,
 v16 = .int .i64 i18∧
 (i18=0→I64 (i11+1)∧stp F8 F9 [.row l10,.val (.int .i64 (i11+1))] W17 [.row l10,.val (.int .i64 i11)] W12)∧
 (¬i18=0→
 ∃(F19:List PL→PW→Prop),
 ∃(F20:List PL→PW→Nat),
 F19 [.val (.int .i64 0),.cells [.slice none 0 0]] W17∧
 ∀(s21:Sl) (i22:Int) (W23:PW),
 F19 [.val (.int .i64 i22),.cells [s21.v]] W23→
 (i22<(a0.2:Int)→
 inB a0 i22∧
 ∃s24:Sl,
 ElemAt W23 a0 1 (Int.toNat i22) 0 [s24.v]∧
 inB s3 i22∧
 ∃s25:Sl,
 ElemAt W23 s3 1 (Int.toNat i22) 0 [s25.v]∧
 inB s25 i11∧
 ∃s26:Sl,
 ∃b27:Bool,
 ∃s28:Sl,
 ElemAt W23 s25 3 (Int.toNat i11) 0 [s26.v,.bool b27,s28.v]∧
 callN Tryz.prog W0 M 97 [.agg ⟨[s24.v]⟩,.agg ⟨[s26.v,.bool b27,s28.v]⟩] W23 fun v29 W30=>
 ∃s31:Sl,
 v29 = .agg ⟨[s31.v]⟩∧
 Ext W23 W30∧
 callN Tryz.prog W0 M 96 [.agg ⟨[s21.v]⟩,.agg ⟨[s31.v]⟩] W30 fun v32 W33=>
 ∃s34:Sl,
 v32 = .agg ⟨[s34.v]⟩∧
 Ext W30 W33∧I64 (i22+1)∧stp F19 F20 [.val (.int .i64 (i22+1)),.cells [s34.v]] W33 [.val (.int .i64 i22),.cells [s21.v]] W23)∧
 (¬i22<(a0.2:Int)→
 (List.length l10+List.length [[s13.v,.bool b14,s15.v,.int .i64 0,s21.v]])*88≤140737488355328∧
 I64 (i11+1)∧stp F8 F9 [.row (l10 ++ [[s13.v,.bool b14,s15.v,.int .i64 0,s21.v]]),.val (.int .i64 (i11+1))] W23 [.row l10,.val (.int .i64 i11)] W12)))∧
 (¬i11<(s4.2:Int)→∀(s35:Sl) (W36:PW),Ext W12 W36→SX.Own W36 87 5 s35 l10→Fr W0 W12 s35→∀(W37:PW),Ext W36 W37→Post (.tuple ⟨[s35.v,.bool true]⟩) W37)))
theorem callldl_Squares (W0:PW) (M:Nat→Prop) (a0:Sl) (a1:Sl) (Post:Value→PW→Prop) (h:Rldl_Squares W0 M a0 a1 Post):PCallsM Tryz.prog 33 [a0.v,a1.v] W0 M Post:=
 fn_sound rfl tt_ok tt_in Tryz.func33 (cuts:=[]) rfl rfl (Nat.le_of_ble_eq_true rfl) (Eq.mpr (by kernel_rfl) h)
def Rref1_Squares (W0:PW) (M:Nat→Prop) (a0:Sl) (a1:Sl) (Post:Value→PW→Prop):Prop:=
 callN Tryz.prog W0 M 117 [a1.v] W0 fun v1 W2=>
 ∃s3:Sl,
 ∃s4:Sl,
 ∃b5:Bool,
 v1 = .tuple ⟨[s3.v,s4.v,.bool b5]⟩∧
 ((!b5)=true→∀(W6:PW),Ext W2 W6→Post (.tuple ⟨[.slice none 0 0,.bool false]⟩) W6)∧
 ((!b5)=false→
 ((a0.2:Int)≠(a1.2:Int)→∀(W7:PW),Ext W2 W7→Post (.tuple ⟨[.slice none 0 0,.bool false]⟩) W7)∧
 (¬(a0.2:Int)≠(a1.2:Int)→
 ∃(F8:List PL→PW→Prop),
 ∃(F9:List PL→PW→Nat),
 F8 [.row [],.val (.int .i64 0)] W2∧
 ∀(l10:List (List Value)) (i11:Int) (W12:PW),
 F8 [.row l10,.val (.int .i64 i11)] W12→
 (i11<(s4.2:Int)→
 inB s4 i11∧
 ∃b13:Bool,
 ∃s14:Sl,
 ElemAt W12 s4 3 (Int.toNat i11) 0 [.bool b13,s14.v]∧
 callN Tryz.prog W0 M 118 [.agg ⟨[.bool b13,s14.v]⟩] W12 fun v15 W16=>
 ∃i17:Int,
 v15 = .int .i64 i17∧
 (i17=0→I64 (i11+1)∧stp F8 F9 [.row l10,.val (.int .i64 (i11+1))] W16 [.row l10,.val (.int .i64 i11)] W12)∧
 (¬i17=0→
 ∃(F18:List PL→PW→Prop),
 ∃(F19:List PL→PW→Nat),
 F18 [.val (.slice none 0 0),.val (.int .i64 0)] W16∧
 ∀(s20:Sl) (i21:Int) (W22:PW),
 F18 [.val s20.v,.val (.int .i64 i21)] W22→
 (i21<(a0.2:Int)→
 inB a0 i21∧
 ∃s23:Sl,
 ElemAt W22 a0 1 (Int.toNat i21) 0 [s23.v]∧
 inB s3 i21∧
 ∃s24:Sl,
 ElemAt W22 s3 1 (Int.toNat i21) 0 [s24.v]∧
 inB s24 i11∧
 ∃b25:Bool,
 ∃s26:Sl,
 ∃s27:Sl,
 ElemAt W22 s24 3 (Int.toNat i11) 0 [.bool b25,s26.v,s27.v]∧
 callN Tryz.prog W0 M 65 [s23.v,.agg ⟨[.bool b25,s26.v,s27.v]⟩] W22 fun v28 W29=>
 ∃s30:Sl,
 v28=s30.v∧
 Ext W22 W29∧
 callN Tryz.prog W0 M 114 [s20.v,s30.v] W29 fun v31 W32=>
 ∃s33:Sl,v31=s33.v∧Ext W29 W32∧I64 (i21+1)∧stp F18 F19 [.val s33.v,.val (.int .i64 (i21+1))] W32 [.val s20.v,.val (.int .i64 i21)] W22)∧
 (¬i21<(a0.2:Int)→
 inB s4 i11∧
 ∃b34:Bool,
 ∃s35:Sl,
 ∃s36:Sl,
 ElemAt W22 s4 3 (Int.toNat i11) 0 [.bool b34,s35.v,s36.v]∧
 (List.length l10+List.length [[.bool b34,s35.v,s36.v,.int .i64 0,s20.v]])*88≤140737488355328∧
 I64 (i11+1)∧stp F8 F9 [.row (l10 ++ [[.bool b34,s35.v,s36.v,.int .i64 0,s20.v]]),.val (.int .i64 (i11+1))] W22 [.row l10,.val (.int .i64 i11)] W12)))∧
 (¬i11<(s4.2:Int)→∀(s37:Sl) (W38:PW),Ext W12 W38→SX.Own W38 94 5 s37 l10→Fr W0 W12 s37→∀(W39:PW),Ext W38 W39→Post (.tuple ⟨[s37.v,.bool true]⟩) W39)))
theorem callref1_Squares (W0:PW) (M:Nat→Prop) (a0:Sl) (a1:Sl) (Post:Value→PW→Prop) (h:Rref1_Squares W0 M a0 a1 Post):PCallsM Tryz.prog 34 [a0.v,a1.v] W0 M Post:=
 fn_sound rfl tt_ok tt_in Tryz.func34 (cuts:=[]) rfl rfl (Nat.le_of_ble_eq_true rfl) (Eq.mpr (by kernel_rfl) h)
def Rlaw14_LdlSquares (W0:PW) (M:Nat→Prop) (a0:Sl) (a1:Sl) (Post:Value→PW→Prop):Prop:=
 callN Tryz.prog W0 M 29 [a0.v,.int .i64 4] W0 fun v1 W2=>
 ∃s3:Sl,
 ∃s4:Sl,
 ∃b5:Bool,
 v1 = .tuple ⟨[s3.v,s4.v,.bool b5]⟩∧
 ((!b5)=true→callN Tryz.prog W0 M 30 [] W2 fun v6 W7=>∃b8:Bool,v6 = .bool b8∧∀(W9:PW),Ext W7 W9→Post (.bool b8) W9)∧
 ((!b5)=false→
 callN Tryz.prog W0 M 30 [] W2 fun v10 W11=>
 ∃b12:Bool,
 v10 = .bool b12∧
 ((!b12)=true→callN Tryz.prog W0 M 30 [] W11 fun v13 W14=>∃b15:Bool,v13 = .bool b15∧∀(W16:PW),Ext W14 W16→Post (.bool b15) W16)∧
 ((!b12)=false→
 callN Tryz.prog W0 M 32 [a1.v] W11 fun v17 W18=>
 ∃s19:Sl,
 v17=s19.v∧
 callN Tryz.prog W0 M 31 [s19.v] W18 fun v20 W21=>
 ∃s22:Sl,
 ∃s23:Sl,
 v20 = .tuple ⟨[s22.v,s23.v]⟩∧
 callN Tryz.prog W0 M 33 [s3.v,s22.v] W21 fun v24 W25=>
 ∃s26:Sl,
 ∃b27:Bool,
 v24 = .tuple ⟨[s26.v,.bool b27]⟩∧
 callN Tryz.prog W0 M 34 [s4.v,s23.v] W25 fun v28 W29=>
 ∃s30:Sl,
 ∃b31:Bool,
 v28 = .tuple ⟨[s30.v,.bool b31]⟩∧
 (b27≠b31→∀(W32:PW),Ext W29 W32→Post (.bool false) W32)∧
 (¬b27≠b31→
 ((s26.2:Int)≠(s30.2:Int)→∀(W33:PW),Ext W29 W33→Post (.bool false) W33)∧
 (¬(s26.2:Int)≠(s30.2:Int)→
 ∃(F34:List PL→PW→Prop),
 ∃(F35:List PL→PW→Nat),
 F34 [.val (.int .i64 0)] W29∧
 ∀(i36:Int) (W37:PW),
 F34 [.val (.int .i64 i36)] W37→
 (i36<(s26.2:Int)→
 inB s26 i36∧
 ∃s38:Sl,
 ∃b39:Bool,
 ∃s40:Sl,
 ElemAt W37 s26 5 (Int.toNat i36) 0 [s38.v,.bool b39,s40.v]∧
 inB s30 i36∧
 ∃b41:Bool,
 ∃s42:Sl,
 ∃s43:Sl,
 ElemAt W37 s30 5 (Int.toNat i36) 0 [.bool b41,s42.v,s43.v]∧
 callN Tryz.prog W0 M 35 [.agg ⟨[s38.v,.bool b39,s40.v]⟩,.agg ⟨[.bool b41,s42.v,s43.v]⟩] W37 fun v44 W45=>
 ∃b46:Bool,
 v44 = .bool b46∧
 ((!b46)=true→Ext W45 W45∧∀(W47:PW),Ext W45 W47→Post (.bool false) W47)∧
 ((!b46)=false→
 inB s26 i36∧
 ∃i48:Int,
 ElemAt W45 s26 5 (Int.toNat i36) 3 [.int .i64 i48]∧
 (i48≠0→Ext W45 W45∧∀(W49:PW),Ext W45 W49→Post (.bool false) W49)∧
 (¬i48≠0→
 inB s26 i36∧
 ∃s50:Sl,
 ElemAt W45 s26 5 (Int.toNat i36) 4 [s50.v]∧
 inB s30 i36∧
 ∃s51:Sl,
 ElemAt W45 s30 5 (Int.toNat i36) 4 [s51.v]∧
 callN Tryz.prog W0 M 28 [.agg ⟨[s50.v]⟩,s51.v] W45 fun v52 W53=>
 ∃b54:Bool,
 v52 = .bool b54∧
 Ext W45 W53∧
 ((!b54)=true→∀(W55:PW),Ext W53 W55→Post (.bool false) W55)∧
 ((!b54)=false→I64 (i36+1)∧stp F34 F35 [.val (.int .i64 (i36+1))] W53 [.val (.int .i64 i36)] W37))))∧
 (¬i36<(s26.2:Int)→
 ((!b31)=true→∀(W56:PW),Ext W37 W56→Post (.bool true) W56)∧
 ((!b31)=false→
 callN Tryz.prog W0 M 20 [.int .i64 0] W37 fun v57 W58=>
 ∃s59:Sl,
 ∃b60:Bool,
 ∃s61:Sl,
 v57 = .agg ⟨[s59.v,.bool b60,s61.v]⟩∧
 callN Tryz.prog W0 M 20 [.int .i64 1] W58 fun v62 W63=>
 ∃s64:Sl,
 ∃b65:Bool,
 ∃s66:Sl,
 v62 = .agg ⟨[s64.v,.bool b65,s66.v]⟩∧
 callN Tryz.prog W0 M 36 [.agg ⟨[s59.v,.bool b60,s61.v]⟩,.agg ⟨[s64.v,.bool b65,s66.v]⟩] W63 fun v67 W68=>
 ∃s69:Sl,
 ∃b70:Bool,
 ∃s71:Sl,
 ∃s72:Sl,
 ∃b73:Bool,
 ∃s74:Sl,
 ∃b75:Bool,
 v67 = .tuple ⟨[.agg ⟨[s69.v,.bool b70,s71.v,s72.v,.bool b73,s74.v]⟩,.bool b75]⟩∧
 ∀(s76:Sl) (W77:PW),
 Ext W68 W77→
 SX.Own W77 96 6 s76 [[s69.v,.bool b70,s71.v,s72.v,.bool b73,s74.v]]→
 Fr W0 W68 s76→
 callN Tryz.prog W0 M 26 [s26.v,s76.v] W77 fun v78 W79=>
 ∃s80:Sl,
 ∃b81:Bool,
 v78 = .tuple ⟨[.agg ⟨[s80.v]⟩,.bool b81]⟩∧
 callN Tryz.prog W0 M 18 [s3.v,s22.v] W79 fun v82 W83=>
 ∃s84:Sl,
 ∃b85:Bool,
 v82 = .tuple ⟨[.agg ⟨[s84.v]⟩,.bool b85]⟩∧
 (b81=true→
 (b85=true→
 callN Tryz.prog W0 M 22 [.agg ⟨[s80.v]⟩,.agg ⟨[s84.v]⟩] W83 fun v86 W87=>
 ∃b88:Bool,v86 = .bool b88∧∀(W89:PW),Ext W87 W89→Post (.bool b88) W89)∧
 (b85=false→∀(W90:PW),Ext W83 W90→Post (.bool false) W90))∧
 (b81=false→∀(W91:PW),Ext W83 W91→Post (.bool false) W91)))))))
theorem calllaw14_LdlSquares (W0:PW) (M:Nat→Prop) (a0:Sl) (a1:Sl) (Post:Value→PW→Prop) (h:Rlaw14_LdlSquares W0 M a0 a1 Post):PCallsM Tryz.prog 5 [a0.v,a1.v] W0 M Post:=
 fn_sound rfl tt_ok tt_in Tryz.func5 (cuts:=[]) rfl rfl (Nat.le_of_ble_eq_true rfl) (Eq.mpr (by kernel_rfl) h)
end Go.Proofs.YthpmkcidkcmlgaaGreat
