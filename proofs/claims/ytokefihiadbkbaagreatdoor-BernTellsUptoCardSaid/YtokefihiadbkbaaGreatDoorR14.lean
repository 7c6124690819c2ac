/- R14 -/
import Derived.Test.YtokefihiadbkbaaGreatDoorTt
set_option linter.unusedVariables false
set_option linter.unusedSimpArgs false
set_option maxRecDepth 100000
namespace Go.Proofs.YtokefihiadbkbaaGreatDoor
open Go Go.SX
def Dy7 (W0:PW) (M:Nat→Prop) (a0:Sl) (Post:Value→PW→Prop):Prop:=
 ∃(F1:List PL→PW→Prop),
 ∃(F2:List PL→PW→Nat),
 F1 [.val (.int .i64 0)] W0∧
 ∀(i3:Int) (W4:PW),
 F1 [.val (.int .i64 i3)] W4→
 (i3<(a0.2:Int)→
 inB a0 i3∧
 ∃s5:Sl,
 ∃b6:Bool,
 ∃s7:Sl,
 ∃s8:Sl,
 ∃b9:Bool,
 ∃s10:Sl,
 Aa7 W4 a0 6 (Int.toNat i3) 0 [s5.v,.bool b6,s7.v,s8.v,.bool b9,s10.v]∧
 Aa1 Tryz.prog W0 M 20 [.agg ⟨[s5.v,.bool b6,s7.v]⟩,.agg ⟨[s8.v,.bool b9,s10.v]⟩] W4 fun v11 W12=>
 ∃i13:Int,v11 = .int .i64 i13∧(0≤i13→∀(W14:PW),Ext W12 W14→Post (.bool false) W14)∧(¬0≤i13→I64 (i3+1)∧stp F1 F2 [.val (.int .i64 (i3+1))] W12 [.val (.int .i64 i3)] W4))∧
 (¬i3<(a0.2:Int)→(1≤(a0.2:Int)→∀(W15:PW),Ext W4 W15→Post (.bool (decide ((a0.2:Int)≤3))) W15)∧(¬1≤(a0.2:Int)→∀(W16:PW),Ext W4 W16→Post (.bool false) W16))
theorem Ck4 (W0:PW) (M:Nat→Prop) (a0:Sl) (Post:Value→PW→Prop) (h:Dy7 W0 M a0 Post):Aa0 Tryz.prog 108 [a0.v] W0 M Post:=
 Aa3 rfl Aa9 Aa8 Tryz.func108 (cuts:=[]) rfl rfl (Nat.le_of_ble_eq_true rfl) (Eq.mpr (by kernel_rfl) h)
def Hf2 (W0:PW) (M:Nat→Prop) (a0:Sl) (Post:Value→PW→Prop):Prop:=
 ((a0.2:Int)<1→∀(W1:PW),Ext W0 W1→Post (.bool false) W1)∧
 (¬(a0.2:Int)<1→
 (3<(a0.2:Int)→∀(W2:PW),Ext W0 W2→Post (.bool false) W2)∧
 (¬3<(a0.2:Int)→
 ∃(F3:List PL→PW→Prop),
 ∃(F4:List PL→PW→Nat),
 F3 [.val (.int .i64 0)] W0∧
 ∀(i5:Int) (W6:PW),
 F3 [.val (.int .i64 i5)] W6→
 (i5<(a0.2:Int)→
 inB a0 i5∧
 ∃b7:Bool,
 ∃s8:Sl,
 ∃s9:Sl,
 Aa7 W6 a0 6 (Int.toNat i5) 0 [.bool b7,s8.v,s9.v]∧
 inB a0 i5∧
 ∃b10:Bool,
 ∃s11:Sl,
 ∃s12:Sl,
 Aa7 W6 a0 6 (Int.toNat i5) 3 [.bool b10,s11.v,s12.v]∧
 Aa1 Tryz.prog W0 M 94 [.agg ⟨[.bool b7,s8.v,s9.v]⟩,.agg ⟨[.bool b10,s11.v,s12.v]⟩] W6 fun v13 W14=>
 ∃i15:Int,v13 = .int .i64 i15∧(0≤i15→∀(W16:PW),Ext W14 W16→Post (.bool false) W16)∧(¬0≤i15→I64 (i5+1)∧stp F3 F4 [.val (.int .i64 (i5+1))] W14 [.val (.int .i64 i5)] W6))∧
 (¬i5<(a0.2:Int)→∀(W17:PW),Ext W6 W17→Post (.bool true) W17)))
theorem Hd6 (W0:PW) (M:Nat→Prop) (a0:Sl) (Post:Value→PW→Prop) (h:Hf2 W0 M a0 Post):Aa0 Tryz.prog 149 [a0.v] W0 M Post:=
 Aa3 rfl Aa9 Aa8 Tryz.func149 (cuts:=[]) rfl rfl (Nat.le_of_ble_eq_true rfl) (Eq.mpr (by kernel_rfl) h)
def Ho8 (W0:PW) (M:Nat→Prop) (a0:Sl) (Post:Value→PW→Prop):Prop:=
 ∃(F1:List PL→PW→Prop),
 ∃(F2:List PL→PW→Nat),
 F1 [.row [],.row [],.val (.int .i64 0)] W0∧
 ∀(l3 l4:List (List Value)) (i5:Int) (W6:PW),
 F1 [.row l3,.row l4,.val (.int .i64 i5)] W6→
 (i5<(a0.2:Int)→
 (i5<5→
 inB a0 i5∧
 ∃t7:ByteArray,
 ∃t8:ByteArray,
 Aa7 W6 a0 2 (Int.toNat i5) 0 [.string t7,.string t8]∧
 Aa1 Tryz.prog W0 M 79 [.agg ⟨[.string t7,.string t8]⟩] W6 fun v9 W10=>
 ∃s11:Sl,
 ∃b12:Bool,
 ∃s13:Sl,
 ∃s14:Sl,
 ∃b15:Bool,
 ∃s16:Sl,
 ∃b17:Bool,
 ∃s18:Sl,
 ∃s19:Sl,
 ∃b20:Bool,
 ∃s21:Sl,
 ∃s22:Sl,
 ∃b23:Bool,
 v9 = .tuple ⟨[.agg ⟨[s11.v,.bool b12,s13.v,s14.v,.bool b15,s16.v]⟩,.agg ⟨[.bool b17,s18.v,s19.v,.bool b20,s21.v,s22.v]⟩,.bool b23]⟩∧
 (b23=true→
 dup 1
 ((List.length l3+List.length [[s11.v,.bool b12,s13.v,s14.v,.bool b15,s16.v]])*112≤140737488355328∧
 (List.length l4+List.length [[.bool b17,s18.v,s19.v,.bool b20,s21.v,s22.v]])*112≤140737488355328∧
 I64 (i5+1)∧
 stp F1 F2
 [.row (l3 ++ [[s11.v,.bool b12,s13.v,s14.v,.bool b15,s16.v]]),.row (l4 ++ [[.bool b17,s18.v,s19.v,.bool b20,s21.v,s22.v]]),.val (.int .i64 (i5+1))] W10
 [.row l3,.row l4,.val (.int .i64 i5)] W6)∧
 (List.length l3+List.length [[s11.v,.bool b12,s13.v,s14.v,.bool b15,s16.v]])*112≤140737488355328∧
 (List.length l4+List.length [[.bool b17,s18.v,s19.v,.bool b20,s21.v,s22.v]])*112≤140737488355328∧
 I64 (i5+1)∧
 stp F1 F2 [.row (l3 ++ [[s11.v,.bool b12,s13.v,s14.v,.bool b15,s16.v]]),.row (l4 ++ [[.bool b17,s18.v,s19.v,.bool b20,s21.v,s22.v]]),.val (.int .i64 (i5+1))]
 W10 [.row l3,.row l4,.val (.int .i64 i5)] W6)∧
 (b23=false→I64 (i5+1)∧stp F1 F2 [.row l3,.row l4,.val (.int .i64 (i5+1))] W10 [.row l3,.row l4,.val (.int .i64 i5)] W6))∧
 (¬i5<5→∀(s24:Sl) (W25:PW),Ext W6 W25→SX.Own W25 69 6 s24 l3→Fr W0 W6 s24→∀(s26:Sl) (W27:PW),Ext W25 W27→SX.Own W27 75 6 s26 l4→Fr W0 W25 s26→∀(W28:PW),Ext W27 W28→Post (.tuple ⟨[s24.v,s26.v]⟩) W28))∧
 (¬i5<(a0.2:Int)→∀(s29:Sl) (W30:PW),Ext W6 W30→SX.Own W30 69 6 s29 l3→Fr W0 W6 s29→∀(s31:Sl) (W32:PW),Ext W30 W32→SX.Own W32 75 6 s31 l4→Fr W0 W30 s31→∀(W33:PW),Ext W32 W33→Post (.tuple ⟨[s29.v,s31.v]⟩) W33)
theorem Hj7 (W0:PW) (M:Nat→Prop) (a0:Sl) (Post:Value→PW→Prop) (h:Ho8 W0 M a0 Post):Aa0 Tryz.prog 23 [a0.v] W0 M Post:=
 Aa3 rfl Aa9 Aa8 Tryz.func23 (cuts:=[]) rfl rfl (Nat.le_of_ble_eq_true rfl) (Eq.mpr (by kernel_rfl) h)
end Go.Proofs.YtokefihiadbkbaaGreatDoor
