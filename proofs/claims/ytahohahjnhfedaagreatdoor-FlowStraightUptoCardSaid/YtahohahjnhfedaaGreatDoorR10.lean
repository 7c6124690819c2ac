/- R10 -/
import Derived.Test.YtahohahjnhfedaaGreatDoorTt
set_option linter.unusedVariables false
set_option linter.unusedSimpArgs false
set_option maxRecDepth 100000
namespace Go.Proofs.YtahohahjnhfedaaGreatDoor
open Go Go.SX
def Ki5 (W0:PW) (M:Nat→Prop) (a0:Sl) (Post:Value→PW→Prop):Prop:=
 ∃(F1:List PL→PW→Prop),
 ∃(F2:List PL→PW→Nat),
 F1 [.val (.int .i64 0)] W0∧
 ∀(i3:Int) (W4:PW),
 F1 [.val (.int .i64 i3)] W4→
 (i3<(a0.2:Int)→
 inB a0 i3∧
 ∃s5:Sl,
 Aa7 W4 a0 1 (Int.toNat i3) 0 [s5.v]∧
 Aa1 Tryz.prog W0 M 70 [.agg ⟨[s5.v]⟩] W4 fun v6 W7=>
 ∃i8:Int,v6 = .int .i64 i8∧((a0.2:Int)<i8→∀(W9:PW),Ext W7 W9→Post (.bool false) W9)∧(¬(a0.2:Int)<i8→I64 (i3+1)∧stp F1 F2 [.val (.int .i64 (i3+1))] W7 [.val (.int .i64 i3)] W4))∧
 (¬i3<(a0.2:Int)→(1≤(a0.2:Int)→∀(W10:PW),Ext W4 W10→Post (.bool (decide ((a0.2:Int)≤2))) W10)∧(¬1≤(a0.2:Int)→∀(W11:PW),Ext W4 W11→Post (.bool false) W11))
theorem Ke5 (W0:PW) (M:Nat→Prop) (a0:Sl) (Post:Value→PW→Prop) (h:Ki5 W0 M a0 Post):Aa0 Tryz.prog 27 [a0.v] W0 M Post:=
 Aa3 rfl Aa9 Aa8 Tryz.func27 (cuts:=[]) rfl rfl (Nat.le_of_ble_eq_true rfl) (Eq.mpr (by kernel_rfl) h)
def Kl3 (W0:PW) (M:Nat→Prop) (a0:Sl) (a1_0:Sl) (Post:Value→PW→Prop):Prop:=
 ∃(F1:List PL→PW→Prop),
 ∃(F2:List PL→PW→Nat),
 F1 [.val (.int .i64 0),.cells [.slice none 0 0],.cells [.slice none 0 0]] W0∧
 ∀(s3 s4:Sl) (i5:Int) (W6:PW),
 F1 [.val (.int .i64 i5),.cells [s3.v],.cells [s4.v]] W6→
 (i5<(a0.2:Int)→
 inB a0 i5∧
 ∃s7:Sl,
 Aa7 W6 a0 1 (Int.toNat i5) 0 [s7.v]∧
 Aa1 Tryz.prog W0 M 101 [.agg ⟨[a1_0.v]⟩,.int .i64 i5] W6 fun v8 W9=>
 ∃s10:Sl,
 v8 = .agg ⟨[s10.v]⟩∧
 Aa1 Tryz.prog W0 M 100 [.agg ⟨[s10.v]⟩,.agg ⟨[s7.v]⟩] W9 fun v11 W12=>
 ∃s13:Sl,
 ∃b14:Bool,
 v11 = .tuple ⟨[.agg ⟨[s13.v]⟩,.bool b14]⟩∧
 ((!b14)=true→∀(W15:PW),Ext W12 W15→Post (.tuple ⟨[.agg ⟨[.slice none 0 0]⟩,.bool false]⟩) W15)∧
 ((!b14)=false→
 Aa1 Tryz.prog W0 M 102 [.agg ⟨[s4.v]⟩,.agg ⟨[s13.v]⟩] W12 fun v16 W17=>
 ∃s18:Sl,
 v16 = .agg ⟨[s18.v]⟩∧I64 (i5+1)∧stp F1 F2 [.val (.int .i64 (i5+1)),.cells [s3.v],.cells [s18.v]] W17 [.val (.int .i64 i5),.cells [s3.v],.cells [s4.v]] W6))∧
 (¬i5<(a0.2:Int)→∀(W19:PW),Ext W6 W19→Post (.tuple ⟨[.agg ⟨[s4.v]⟩,.bool true]⟩) W19)
theorem Kf8 (W0:PW) (M:Nat→Prop) (a0:Sl) (a1_0:Sl) (Post:Value→PW→Prop) (h:Kl3 W0 M a0 a1_0 Post):Aa0 Tryz.prog 62 [a0.v,.agg #[a1_0.v]] W0 M Post:=
 Aa3 rfl Aa9 Aa8 Tryz.func62 (cuts:=[]) rfl rfl (Nat.le_of_ble_eq_true rfl) (Eq.mpr (by kernel_rfl) h)
def Km5 (W0:PW) (M:Nat→Prop) (a0:Sl) (a1:Int) (Post:Value→PW→Prop):Prop:=
 Aa1 Tryz.prog W0 M 27 [a0.v] W0 fun v1 W2=>
 ∃b3:Bool,
 v1 = .bool b3∧
 ((!b3)=true→∀(W4:PW),Ext W2 W4→Post (.tuple ⟨[.slice none 0 0,.bool false]⟩) W4)∧
 ((!b3)=false→
 (a1<0→∀(W5:PW),Ext W2 W5→Post (.tuple ⟨[.slice none 0 0,.bool false]⟩) W5)∧
 (¬a1<0→
 (4<a1→∀(W6:PW),Ext W2 W6→Post (.tuple ⟨[.slice none 0 0,.bool false]⟩) W6)∧
 (¬4<a1→
 ∃(F7:List PL→PW→Prop),
 ∃(F8:List PL→PW→Nat),
 F7 [.row [],.val (.int .i64 0)] W2∧
 ∀(l9:List (List Value)) (i10:Int) (W11:PW),
 F7 [.row l9,.val (.int .i64 i10)] W11→
 (i10<(a0.2:Int)→
 Aa1 Tryz.prog W0 M 28 [.int .i64 i10] W11 fun v12 W13=>
 ∃s14:Sl,
 v12 = .agg ⟨[s14.v]⟩∧
 (List.length l9+List.length [[s14.v]])*24≤140737488355328∧I64 (i10+1)∧stp F7 F8 [.row (l9 ++ [[s14.v]]),.val (.int .i64 (i10+1))] W13 [.row l9,.val (.int .i64 i10)] W11)∧
 (¬i10<(a0.2:Int)→
 ∃(F15:List PL→PW→Prop),
 ∃(F16:List PL→PW→Nat),
 F15 [.val (.int .i64 0),.row l9] W11∧
 ∀(l17:List (List Value)) (i18:Int) (W19:PW),
 F15 [.val (.int .i64 i18),.row l17] W19→
 (i18<a1→
 ∃(F20:List PL→PW→Prop),
 ∃(F21:List PL→PW→Nat),
 F20 [.val (.int .i64 0),.row l17] W19∧
 ∀(l22:List (List Value)) (i23:Int) (W24:PW),
 F20 [.val (.int .i64 i23),.row l22] W24→
 (i23<(↑(List.length l17):Int)→
 (0≤i23∧i23<(↑(List.length l22):Int))∧
 ∃s25:Sl,
 Ck3 l22 (Int.toNat i23) 0 [s25.v]∧
 Aa1 Tryz.prog W0 M 62 [a0.v,.agg ⟨[s25.v]⟩] W24 fun v26 W27=>
 ∃s28:Sl,
 ∃b29:Bool,
 v26 = .tuple ⟨[.agg ⟨[s28.v]⟩,.bool b29]⟩∧
 ((!b29)=true→∀(W30:PW),Ext W27 W30→Post (.tuple ⟨[.slice none 0 0,.bool false]⟩) W30)∧
 ((!b29)=false→
 (0≤i23∧i23<(↑(List.length l22):Int))∧
 Int.toNat i23<List.length l22∧I64 (i23+1)∧stp F20 F21 [.val (.int .i64 (i23+1)),.row (List.set l22 (Int.toNat i23) [s28.v])] W27 [.val (.int .i64 i23),.row l22] W24))∧
 (¬i23<(↑(List.length l17):Int)→I64 (i18+1)∧stp F15 F16 [.val (.int .i64 (i18+1)),.row l22] W24 [.val (.int .i64 i18),.row l17] W19))∧
 (¬i18<a1→∀(s31:Sl) (W32:PW),Ext W19 W32→SX.Own W32 72 1 s31 l17→Fr W0 W19 s31→∀(W33:PW),Ext W32 W33→Post (.tuple ⟨[s31.v,.bool true]⟩) W33)))))
theorem Kh9 (W0:PW) (M:Nat→Prop) (a0:Sl) (a1:Int) (Post:Value→PW→Prop) (h:Km5 W0 M a0 a1 Post):Aa0 Tryz.prog 21 [a0.v,.int .i64 a1] W0 M Post:=
 Aa3 rfl Aa9 Aa8 Tryz.func21 (cuts:=[]) rfl rfl (Nat.le_of_ble_eq_true rfl) (Eq.mpr (by kernel_rfl) h)
def Kh4 (W0:PW) (M:Nat→Prop) (Post:Value→PW→Prop):Prop:=
 Aa1 Tryz.prog W0 M 23 [.int .i64 1] W0 fun v1 W2=>
 ∃s3:Sl,
 ∃b4:Bool,
 ∃s5:Sl,
 v1 = .agg ⟨[s3.v,.bool b4,s5.v]⟩∧
 Aa1 Tryz.prog W0 M 22 [.agg ⟨[s3.v,.bool b4,s5.v]⟩] W2 fun v6 W7=>
 ∃s8:Sl,
 v6 = .agg ⟨[s8.v]⟩∧
 ∀(s9:Sl) (W10:PW),
 Ext W7 W10→
 SX.Own W10 72 1 s9 [[s8.v]]→
 Fr W0 W7 s9→
 Aa1 Tryz.prog W0 M 21 [s9.v,.int .i64 1] W10 fun v11 W12=>
 ∃s13:Sl,
 ∃b14:Bool,
 v11 = .tuple ⟨[s13.v,.bool b14]⟩∧
 (b14=true→
 ((s13.2:Int)=1→
 inB s13 0∧
 ∃s15:Sl,
 Aa7 W12 s13 1 0 0 [s15.v]∧
 Aa1 Tryz.prog W0 M 26 [.int .i64 1] W12 fun v16 W17=>
 ∃b18:Bool,
 ∃s19:Sl,
 ∃s20:Sl,
 v16 = .agg ⟨[.bool b18,s19.v,s20.v]⟩∧
 Ext W12 W17∧
 Aa1 Tryz.prog W0 M 25 [.agg ⟨[.bool b18,s19.v,s20.v]⟩] W17 fun v21 W22=>
 ∃s23:Sl,
 v21=s23.v∧
 Ext W17 W22∧
 Aa1 Tryz.prog W0 M 24 [.agg ⟨[s15.v]⟩,s23.v] W22 fun v24 W25=>
 ∃b26:Bool,
 v24 = .bool b26∧
 (b26=true→
 Aa1 Tryz.prog W0 M 28 [.int .i64 0] W25 fun v27 W28=>
 ∃s29:Sl,
 v27 = .agg ⟨[s29.v]⟩∧
 ∀(s30:Sl) (W31:PW),
 Ext W28 W31→
 SX.Own W31 72 1 s30 [[s29.v]]→Fr W0 W28 s30→Aa1 Tryz.prog W0 M 27 [s30.v] W31 fun v32 W33=>∃b34:Bool,v32 = .bool b34∧∀(W35:PW),Ext W33 W35→Post (.bool b34) W35)∧
 (b26=false→∀(W36:PW),Ext W25 W36→Post (.bool false) W36))∧
 (¬(s13.2:Int)=1→Ext W12 W12∧Ext W12 W12∧∀(W37:PW),Ext W12 W37→Post (.bool false) W37))∧
 (b14=false→Ext W12 W12∧Ext W12 W12∧∀(W38:PW),Ext W12 W38→Post (.bool false) W38)
theorem Kd6 (W0:PW) (M:Nat→Prop) (Post:Value→PW→Prop) (h:Kh4 W0 M Post):Aa0 Tryz.prog 6 [] W0 M Post:=
 Aa3 rfl Aa9 Aa8 Tryz.func6 (cuts:=[]) rfl rfl (Nat.le_of_ble_eq_true rfl) (Eq.mpr (by kernel_rfl) h)
end Go.Proofs.YtahohahjnhfedaaGreatDoor
