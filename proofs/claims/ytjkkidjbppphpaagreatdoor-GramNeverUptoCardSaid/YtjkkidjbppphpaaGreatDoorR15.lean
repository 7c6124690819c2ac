/- R15 -/
import Derived.Test.YtjkkidjbppphpaaGreatDoorTt
set_option linter.unusedVariables false
set_option linter.unusedSimpArgs false
set_option maxRecDepth 100000
namespace Go.Proofs.YtjkkidjbppphpaaGreatDoor
open Go Go.SX
def Dy7 (W0:PW) (M:Nat→Prop) (a0:Sl) (Post:Value→PW→Prop):Prop:=
 ∃(F1:List PL→PW→Prop),
 ∃(F2:List PL→PW→Nat),
 F1 [.val (.int .i64 0)] W0∧
 ∀(i3:Int) (W4:PW),
 F1 [.val (.int .i64 i3)] W4→
 (i3<(a0.2:Int)→
 inB a0 i3∧
 ∃s5:Sl,
 ∃b6:Bool,
 ∃s7:Sl,
 ∃s8:Sl,
 ∃b9:Bool,
 ∃s10:Sl,
 Aa7 W4 a0 6 (Int.toNat i3) 0 [s5.v,.bool b6,s7.v,s8.v,.bool b9,s10.v]∧
 Aa1 Tryz.prog W0 M 47 [.agg ⟨[s5.v,.bool b6,s7.v]⟩,.agg ⟨[s8.v,.bool b9,s10.v]⟩] W4 fun v11 W12=>
 ∃i13:Int,v11 = .int .i64 i13∧(0≤i13→∀(W14:PW),Ext W12 W14→Post (.bool false) W14)∧(¬0≤i13→I64 (i3+1)∧stp F1 F2 [.val (.int .i64 (i3+1))] W12 [.val (.int .i64 i3)] W4))∧
 (¬i3<(a0.2:Int)→(1≤(a0.2:Int)→∀(W15:PW),Ext W4 W15→Post (.bool (decide ((a0.2:Int)≤3))) W15)∧(¬1≤(a0.2:Int)→∀(W16:PW),Ext W4 W16→Post (.bool false) W16))
theorem Ck4 (W0:PW) (M:Nat→Prop) (a0:Sl) (Post:Value→PW→Prop) (h:Dy7 W0 M a0 Post):Aa0 Tryz.prog 98 [a0.v] W0 M Post:=
 Aa3 rfl Aa9 Aa8 Tryz.func98 (cuts:=[]) rfl rfl (Nat.le_of_ble_eq_true rfl) (Eq.mpr (by kernel_rfl) h)
def Gt6 (W0:PW) (M:Nat→Prop) (a0:Sl) (a1:Int) (Post:Value→PW→Prop):Prop:=
 Aa1 Tryz.prog W0 M 49 [.int .i64 a1] W0 fun v1 W2=>
 ∃s3:Sl,
 v1 = .agg ⟨[s3.v]⟩∧
 inB a0 a1∧
 ∃s4:Sl,
 ∃b5:Bool,
 ∃s6:Sl,
 Aa7 W2 a0 6 (Int.toNat a1) 0 [s4.v,.bool b5,s6.v]∧
 inB a0 a1∧
 ∃s7:Sl,
 ∃b8:Bool,
 ∃s9:Sl,
 Aa7 W2 a0 6 (Int.toNat a1) 3 [s7.v,.bool b8,s9.v]∧
 Aa1 Tryz.prog W0 M 45 [.agg ⟨[s4.v,.bool b5,s6.v]⟩] W2 fun v10 W11=>
 ∃s12:Sl,
 v10 = .agg ⟨[s12.v]⟩∧
 Ext W2 W11∧
 Aa1 Tryz.prog W0 M 79 [.agg ⟨[s3.v]⟩,.agg ⟨[s12.v]⟩] W11 fun v13 W14=>
 ∃s15:Sl,
 v13 = .agg ⟨[s15.v]⟩∧
 Ext W11 W14∧
 Aa1 Tryz.prog W0 M 45 [.agg ⟨[s7.v,.bool b8,s9.v]⟩] W14 fun v16 W17=>
 ∃s18:Sl,
 v16 = .agg ⟨[s18.v]⟩∧
 Aa1 Tryz.prog W0 M 79 [.agg ⟨[s18.v]⟩,.agg ⟨[s3.v]⟩] W17 fun v19 W20=>
 ∃s21:Sl,
 v19 = .agg ⟨[s21.v]⟩∧
 Aa1 Tryz.prog W0 M 78 [.agg ⟨[s15.v]⟩,.agg ⟨[s21.v]⟩] W20 fun v22 W23=>
 ∃s24:Sl,∃b25:Bool,v22 = .tuple ⟨[.agg ⟨[s24.v]⟩,.bool b25]⟩∧∀(W26:PW),Ext W23 W26→Post (.agg ⟨[s24.v]⟩) W26
theorem Gn1 (W0:PW) (M:Nat→Prop) (a0:Sl) (a1:Int) (Post:Value→PW→Prop) (h:Gt6 W0 M a0 a1 Post):Aa0 Tryz.prog 107 [a0.v,.int .i64 a1] W0 M Post:=
 Aa3 rfl Aa9 Aa8 Tryz.func107 (cuts:=[]) rfl rfl (Nat.le_of_ble_eq_true rfl) (Eq.mpr (by kernel_rfl) h)
def Gv7 (W0:PW) (M:Nat→Prop) (a0:Sl) (a1:Sl) (Post:Value→PW→Prop):Prop:=
 Aa1 Tryz.prog W0 M 98 [a1.v] W0 fun v1 W2=>
 ∃b3:Bool,
 v1 = .bool b3∧
 ((!b3)=true→∀(W4:PW),Ext W2 W4→Post (.tuple ⟨[.agg ⟨[.slice none 0 0]⟩,.bool false]⟩) W4)∧
 ((!b3)=false→
 ∃(F5:List PL→PW→Prop),
 ∃(F6:List PL→PW→Nat),
 F5 [.val (.int .i64 0),.cells [.slice none 0 0]] W2∧
 ∀(s7:Sl) (i8:Int) (W9:PW),
 F5 [.val (.int .i64 i8),.cells [s7.v]] W9→
 (i8<(a0.2:Int)→
 inB a0 i8∧
 ∃s10:Sl,
 ∃b11:Bool,
 ∃s12:Sl,
 ∃i13:Int,
 ∃s14:Sl,
 Aa7 W9 a0 5 (Int.toNat i8) 0 [s10.v,.bool b11,s12.v,.int .i64 i13,s14.v]∧
 (i13<0→∀(W15:PW),Ext W9 W15→Post (.tuple ⟨[.agg ⟨[.slice none 0 0]⟩,.bool false]⟩) W15)∧
 (¬i13<0→
 ((a1.2:Int)<i13→∀(W16:PW),Ext W9 W16→Post (.tuple ⟨[.agg ⟨[.slice none 0 0]⟩,.bool false]⟩) W16)∧
 (¬(a1.2:Int)<i13→I64 (i8+1)∧stp F5 F6 [.val (.int .i64 (i8+1)),.cells [s7.v]] W9 [.val (.int .i64 i8),.cells [s7.v]] W9)))∧
 (¬i8<(a0.2:Int)→
 ∃(F17:List PL→PW→Prop),
 ∃(F18:List PL→PW→Nat),
 F17 [.val (.int .i64 0),.cells [s7.v],.cells [.slice none 0 0]] W9∧
 ∀(s19 s20:Sl) (i21:Int) (W22:PW),
 F17 [.val (.int .i64 i21),.cells [s19.v],.cells [s20.v]] W22→
 (i21<(a0.2:Int)→
 inB a0 i21∧
 ∃s23:Sl,
 ∃b24:Bool,
 ∃s25:Sl,
 ∃i26:Int,
 ∃s27:Sl,
 Aa7 W22 a0 5 (Int.toNat i21) 0 [s23.v,.bool b24,s25.v,.int .i64 i26,s27.v]∧
 Aa1 Tryz.prog W0 M 78 [.agg ⟨[s27.v]⟩,.agg ⟨[s27.v]⟩] W22 fun v28 W29=>
 ∃s30:Sl,
 ∃b31:Bool,
 v28 = .tuple ⟨[.agg ⟨[s30.v]⟩,.bool b31]⟩∧
 (b31=true→
 (0<i26→
 I64 (i26-1)∧
 Aa1 Tryz.prog W0 M 107 [a1.v,.int .i64 (i26-1)] W29 fun v32 W33=>
 ∃s34:Sl,
 v32 = .agg ⟨[s34.v]⟩∧
 Aa1 Tryz.prog W0 M 78 [.agg ⟨[s30.v]⟩,.agg ⟨[s34.v]⟩] W33 fun v35 W36=>
 ∃s37:Sl,
 ∃b38:Bool,
 v35 = .tuple ⟨[.agg ⟨[s37.v]⟩,.bool b38]⟩∧
 ((!b38)=true→∀(W39:PW),Ext W36 W39→Post (.tuple ⟨[.agg ⟨[.slice none 0 0]⟩,.bool false]⟩) W39)∧
 ((!b38)=false→
 Aa1 Tryz.prog W0 M 26 [.agg ⟨[s37.v]⟩,.agg ⟨[s23.v,.bool b24,s25.v]⟩] W36 fun v40 W41=>
 ∃s42:Sl,
 v40 = .agg ⟨[s42.v]⟩∧
 Aa1 Tryz.prog W0 M 25 [.agg ⟨[s20.v]⟩,.agg ⟨[s42.v]⟩] W41 fun v43 W44=>
 ∃s45:Sl,
 v43 = .agg ⟨[s45.v]⟩∧
 I64 (i21+1)∧
 stp F17 F18 [.val (.int .i64 (i21+1)),.cells [s19.v],.cells [s45.v]] W44 [.val (.int .i64 i21),.cells [s19.v],.cells [s20.v]] W22))∧
 (¬0<i26→
 ((!b31)=true→∀(W46:PW),Ext W29 W46→Post (.tuple ⟨[.agg ⟨[.slice none 0 0]⟩,.bool false]⟩) W46)∧
 ((!b31)=false→
 Aa1 Tryz.prog W0 M 26 [.agg ⟨[s30.v]⟩,.agg ⟨[s23.v,.bool b24,s25.v]⟩] W29 fun v47 W48=>
 ∃s49:Sl,
 v47 = .agg ⟨[s49.v]⟩∧
 Aa1 Tryz.prog W0 M 25 [.agg ⟨[s20.v]⟩,.agg ⟨[s49.v]⟩] W48 fun v50 W51=>
 ∃s52:Sl,
 v50 = .agg ⟨[s52.v]⟩∧
 I64 (i21+1)∧stp F17 F18 [.val (.int .i64 (i21+1)),.cells [s19.v],.cells [s52.v]] W51 [.val (.int .i64 i21),.cells [s19.v],.cells [s20.v]] W22)))∧
 (b31=false→
 ((!b31)=true→∀(W53:PW),Ext W29 W53→Post (.tuple ⟨[.agg ⟨[.slice none 0 0]⟩,.bool false]⟩) W53)∧
 ((!b31)=false→
 Aa1 Tryz.prog W0 M 26 [.agg ⟨[s30.v]⟩,.agg ⟨[s23.v,.bool b24,s25.v]⟩] W29 fun v54 W55=>
 ∃s56:Sl,
 v54 = .agg ⟨[s56.v]⟩∧
 Aa1 Tryz.prog W0 M 25 [.agg ⟨[s20.v]⟩,.agg ⟨[s56.v]⟩] W55 fun v57 W58=>
 ∃s59:Sl,
 v57 = .agg ⟨[s59.v]⟩∧
 I64 (i21+1)∧stp F17 F18 [.val (.int .i64 (i21+1)),.cells [s19.v],.cells [s59.v]] W58 [.val (.int .i64 i21),.cells [s19.v],.cells [s20.v]] W22)))∧
 (¬i21<(a0.2:Int)→∀(W60:PW),Ext W22 W60→Post (.tuple ⟨[.agg ⟨[s20.v]⟩,.bool true]⟩) W60)))
theorem Gn7 (W0:PW) (M:Nat→Prop) (a0:Sl) (a1:Sl) (Post:Value→PW→Prop) (h:Gv7 W0 M a0 a1 Post):Aa0 Tryz.prog 37 [a0.v,a1.v] W0 M Post:=
 Aa3 rfl Aa9 Aa8 Tryz.func37 (cuts:=[]) rfl rfl (Nat.le_of_ble_eq_true rfl) (Eq.mpr (by kernel_rfl) h)
def Gk5 (W0:PW) (M:Nat→Prop) (a0:Sl) (a1:Int) (Post:Value→PW→Prop):Prop:=
 ∃(F1:List PL→PW→Prop),
 ∃(F2:List PL→PW→Nat),
 F1 [.row [],.row [],.val (.int .i64 0)] W0∧
 ∀(l3 l4:List (List Value)) (i5:Int) (W6:PW),
 F1 [.row l3,.row l4,.val (.int .i64 i5)] W6→
 (i5<(a0.2:Int)→
 (i5<6→
 inB a0 i5∧
 ∃t7:ByteArray,
 Aa7 W6 a0 3 (Int.toNat i5) 0 [.string t7]∧
 Aa1 Tryz.prog W0 M 41 [.string t7] W6 fun v8 W9=>
 ∃s10:Sl,
 ∃b11:Bool,
 ∃s12:Sl,
 ∃b13:Bool,
 ∃s14:Sl,
 ∃s15:Sl,
 ∃b16:Bool,
 v8 = .tuple ⟨[.agg ⟨[s10.v,.bool b11,s12.v]⟩,.agg ⟨[.bool b13,s14.v,s15.v]⟩,.bool b16]⟩∧
 inB a0 i5∧
 ∃s17:Sl,
 Aa7 W9 a0 3 (Int.toNat i5) 2 [s17.v]∧
 Aa1 Tryz.prog W0 M 15 [s17.v,.int .i64 a1] W9 fun v18 W19=>
 ∃s20:Sl,
 ∃s21:Sl,
 ∃b22:Bool,
 v18 = .tuple ⟨[.agg ⟨[s20.v]⟩,s21.v,.bool b22]⟩∧
 (b16=true→
 (b22=true→
 inB a0 i5∧
 ∃s23:Sl,
 Aa7 W19 a0 3 (Int.toNat i5) 2 [s23.v]∧
 ((s23.2:Int)≤6→
 inB a0 i5∧
 ∃i24:Int,
 Aa7 W19 a0 3 (Int.toNat i5) 1 [.int .i64 i24]∧
 inB a0 i5∧
 ∃i25:Int,
 Aa7 W19 a0 3 (Int.toNat i5) 1 [.int .i64 i25]∧
 (Ext W19 W19∧
 ((List.length l3+List.length [[s10.v,.bool b11,s12.v,.int .i64 i24,s20.v]])*88≤140737488355328∧
 Ext W19 W19∧
 Ext W19 W19∧
 (List.length l4+List.length [[.bool b13,s14.v,s15.v,.int .i64 i25,s21.v]])*88≤140737488355328∧
 Ext W19 W19∧
 Ext W19 W19∧
 I64 (i5+1)∧
 stp F1 F2
 [.row (l3 ++ [[s10.v,.bool b11,s12.v,.int .i64 i24,s20.v]]),.row (l4 ++ [[.bool b13,s14.v,s15.v,.int .i64 i25,s21.v]]),
 .val (.int .i64 (i5+1))]
 W19 [.row l3,.row l4,.val (.int .i64 i5)] W6)∧
 Ext W19 W19∧
 (List.length l3+List.length [[s10.v,.bool b11,s12.v,.int .i64 i24,s20.v]])*88≤140737488355328∧
 Ext W19 W19∧
 (List.length l4+List.length [[.bool b13,s14.v,s15.v,.int .i64 i25,s21.v]])*88≤140737488355328∧
 Ext W19 W19∧
 Ext W19 W19∧
 I64 (i5+1)∧
 stp F1 F2
 [.row (l3 ++ [[s10.v,.bool b11,s12.v,.int .i64 i24,s20.v]]),.row (l4 ++ [[.bool b13,s14.v,s15.v,.int .i64 i25,s21.v]]),
 .val (.int .i64 (i5+1))]
 W19 [.row l3,.row l4,.val (.int .i64 i5)] W6)∧
 Ext W19 W19∧
 Ext W19 W19∧
 (List.length l3+List.length [[s10.v,.bool b11,s12.v,.int .i64 i24,s20.v]])*88≤140737488355328∧
 Ext W19 W19∧
 (List.length l4+List.length [[.bool b13,s14.v,s15.v,.int .i64 i25,s21.v]])*88≤140737488355328∧
 Ext W19 W19∧
 Ext W19 W19∧
 I64 (i5+1)∧
 stp F1 F2
 [.row (l3 ++ [[s10.v,.bool b11,s12.v,.int .i64 i24,s20.v]]),.row (l4 ++ [[.bool b13,s14.v,s15.v,.int .i64 i25,s21.v]]),
 .val (.int .i64 (i5+1))]
 W19 [.row l3,.row l4,.val (.int .i64 i5)] W6)∧
 (¬(s23.2:Int)≤6→I64 (i5+1)∧stp F1 F2 [.row l3,.row l4,.val (.int .i64 (i5+1))] W19 [.row l3,.row l4,.val (.int .i64 i5)] W6))∧
 (b22=false→I64 (i5+1)∧stp F1 F2 [.row l3,.row l4,.val (.int .i64 (i5+1))] W19 [.row l3,.row l4,.val (.int .i64 i5)] W6))∧
 (b16=false→I64 (i5+1)∧stp F1 F2 [.row l3,.row l4,.val (.int .i64 (i5+1))] W19 [.row l3,.row l4,.val (.int .i64 i5)] W6))∧
 (¬i5<6→∀(s26:Sl) (W27:PW),Ext W6 W27→SX.Own W27 198 5 s26 l3→Fr W0 W6 s26→∀(s28:Sl) (W29:PW),Ext W27 W29→SX.Own W29 90 5 s28 l4→Fr W0 W27 s28→∀(W30:PW),Ext W29 W30→Post (.tuple ⟨[s26.v,s28.v]⟩) W30))∧
 (¬i5<(a0.2:Int)→∀(s31:Sl) (W32:PW),Ext W6 W32→SX.Own W32 198 5 s31 l3→Fr W0 W6 s31→∀(s33:Sl) (W34:PW),Ext W32 W34→SX.Own W34 90 5 s33 l4→Fr W0 W32 s33→∀(W35:PW),Ext W34 W35→Post (.tuple ⟨[s31.v,s33.v]⟩) W35)
theorem Gh1 (W0:PW) (M:Nat→Prop) (a0:Sl) (a1:Int) (Post:Value→PW→Prop) (h:Gk5 W0 M a0 a1 Post):Aa0 Tryz.prog 34 [a0.v,.int .i64 a1] W0 M Post:=
 Aa3 rfl Aa9 Aa8 Tryz.func34 (cuts:=[]) rfl rfl (Nat.le_of_ble_eq_true rfl) (Eq.mpr (by kernel_rfl) h)
end Go.Proofs.YtjkkidjbppphpaaGreatDoor
