/- R20 -/
import Derived.Test.YtokefihiadbkbaaGreatDoorTt
set_option linter.unusedVariables false
set_option linter.unusedSimpArgs false
set_option maxRecDepth 100000
namespace Go.Proofs.YtokefihiadbkbaaGreatDoor
open Go Go.SX
def Ip9 (W0:PW) (M:Nat→Prop) (Post:Value→PW→Prop):Prop:=
 ∀(s1:Sl) (W2:PW),
 Ext W0 W2→
 SX.Own W2 131 2 s1 [[.string (ByteArray.mk #[48]),.string (ByteArray.mk #[49])]]→
 Fr W0 W0 s1→
 Aa1 Tryz.prog W0 M 55 [s1.v] W2 fun v3 W4=>
 ∃s5:Sl,
 ∃i6:Int,
 v3 = .tuple ⟨[s5.v,.int .i64 i6]⟩∧
 Aa1 Tryz.prog W0 M 44 [.int .i64 0] W4 fun v7 W8=>
 ∃s9:Sl,
 v7 = .agg ⟨[s9.v]⟩∧
 Aa1 Tryz.prog W0 M 58 [.agg ⟨[s9.v]⟩,.agg ⟨[s9.v]⟩] W8 fun v10 W11=>
 ∃s12:Sl,
 ∃b13:Bool,
 v10 = .tuple ⟨[.agg ⟨[s12.v]⟩,.bool b13]⟩∧
 Aa1 Tryz.prog W0 M 59 [.agg ⟨[s12.v]⟩,.agg ⟨[s9.v]⟩] W11 fun v14 W15=>
 ∃s16:Sl,
 v14 = .agg ⟨[s16.v]⟩∧
 Aa1 Tryz.prog W0 M 18 [.agg ⟨[s16.v]⟩,s5.v] W15 fun v17 W18=>
 ∃s19:Sl,
 ∃b20:Bool,
 v17 = .tuple ⟨[s19.v,.bool b20]⟩∧
 (i6=0→
 (b13=true→
 (b20=true→
 ((s19.2:Int)=3→
 inB s19 0∧
 ∃s21:Sl,
 ∃b22:Bool,
 ∃s23:Sl,
 Aa7 W18 s19 3 0 0 [s21.v,.bool b22,s23.v]∧
 Aa1 Tryz.prog W0 M 60 [.agg ⟨[s21.v,.bool b22,s23.v]⟩] W18 fun v24 W25=>
 ∃i26:Int,
 v24 = .int .i64 i26∧
 (i26=0→
 inB s19 1∧
 ∃s27:Sl,
 ∃b28:Bool,
 ∃s29:Sl,
 Aa7 W25 s19 3 1 0 [s27.v,.bool b28,s29.v]∧
 Aa1 Tryz.prog W0 M 38 [.agg ⟨[s27.v,.bool b28,s29.v]⟩] W25 fun v30 W31=>
 ∃t32:ByteArray,
 v30 = .string t32∧
 (t32=(ByteArray.mk #[45,49,47,50])→
 inB s19 2∧
 ∃s33:Sl,
 ∃b34:Bool,
 ∃s35:Sl,
 Aa7 W31 s19 3 2 0 [s33.v,.bool b34,s35.v]∧
 Aa1 Tryz.prog W0 M 60 [.agg ⟨[s33.v,.bool b34,s35.v]⟩] W31 fun v36 W37=>
 ∃i38:Int,v36 = .int .i64 i38∧∀(W39:PW),Ext W37 W39→Post (.bool (decide (i38=0))) W39)∧
 (¬t32=(ByteArray.mk #[45,49,47,50])→∀(W40:PW),Ext W31 W40→Post (.bool false) W40))∧
 (¬i26=0→∀(W41:PW),Ext W25 W41→Post (.bool false) W41))∧
 (¬(s19.2:Int)=3→∀(W42:PW),Ext W18 W42→Post (.bool false) W42))∧
 (b20=false→∀(W43:PW),Ext W18 W43→Post (.bool false) W43))∧
 (b13=false→∀(W44:PW),Ext W18 W44→Post (.bool false) W44))∧
 (¬i6=0→∀(W45:PW),Ext W18 W45→Post (.bool false) W45)
theorem Ii2 (W0:PW) (M:Nat→Prop) (Post:Value→PW→Prop) (h:Ip9 W0 M Post):Aa0 Tryz.prog 13 [] W0 M Post:=
 Aa3 rfl Aa9 Aa8 Tryz.func13 (cuts:=[]) rfl rfl (Nat.le_of_ble_eq_true rfl) (Eq.mpr (by kernel_rfl) h)
def Iw1 (W0:PW) (M:Nat→Prop) (a0:Sl) (a1:Sl) (Post:Value→PW→Prop):Prop:=
 ((a0.2:Int)≠(a1.2:Int)→∀(W1:PW),Ext W0 W1→Post (.bool false) W1)∧
 (¬(a0.2:Int)≠(a1.2:Int)→
 ∃(F2:List PL→PW→Prop),
 ∃(F3:List PL→PW→Nat),
 F2 [.val (.int .i64 0)] W0∧
 ∀(i4:Int) (W5:PW),
 F2 [.val (.int .i64 i4)] W5→
 (i4<(a0.2:Int)→
 inB a0 i4∧
 ∃s6:Sl,
 ∃b7:Bool,
 ∃s8:Sl,
 Aa7 W5 a0 3 (Int.toNat i4) 0 [s6.v,.bool b7,s8.v]∧
 inB a1 i4∧
 ∃b9:Bool,
 ∃s10:Sl,
 ∃s11:Sl,
 Aa7 W5 a1 3 (Int.toNat i4) 0 [.bool b9,s10.v,s11.v]∧
 Aa1 Tryz.prog W0 M 37 [.agg ⟨[s6.v,.bool b7,s8.v]⟩,.agg ⟨[.bool b9,s10.v,s11.v]⟩] W5 fun v12 W13=>
 ∃b14:Bool,v12 = .bool b14∧((!b14)=true→∀(W15:PW),Ext W13 W15→Post (.bool false) W15)∧((!b14)=false→I64 (i4+1)∧stp F2 F3 [.val (.int .i64 (i4+1))] W13 [.val (.int .i64 i4)] W5))∧
 (¬i4<(a0.2:Int)→∀(W16:PW),Ext W5 W16→Post (.bool true) W16))
theorem Io5 (W0:PW) (M:Nat→Prop) (a0:Sl) (a1:Sl) (Post:Value→PW→Prop) (h:Iw1 W0 M a0 a1 Post):Aa0 Tryz.prog 26 [a0.v,a1.v] W0 M Post:=
 Aa3 rfl Aa9 Aa8 Tryz.func26 (cuts:=[]) rfl rfl (Nat.le_of_ble_eq_true rfl) (Eq.mpr (by kernel_rfl) h)
def Iq5 (W0:PW) (M:Nat→Prop) (a0:Sl) (a1:Int) (Post:Value→PW→Prop):Prop:=
 ∃(F1:List PL→PW→Prop),
 ∃(F2:List PL→PW→Nat),
 F1 [.row [],.row [],.val (.int .i64 0)] W0∧
 ∀(l3 l4:List (List Value)) (i5:Int) (W6:PW),
 F1 [.row l3,.row l4,.val (.int .i64 i5)] W6→
 (i5<(a0.2:Int)→
 (i5<a1→
 inB a0 i5∧
 ∃t7:ByteArray,
 Aa7 W6 a0 1 (Int.toNat i5) 0 [.string t7]∧
 Aa1 Tryz.prog W0 M 12 [.string t7] W6 fun v8 W9=>
 ∃s10:Sl,
 ∃b11:Bool,
 ∃s12:Sl,
 ∃b13:Bool,
 ∃s14:Sl,
 ∃s15:Sl,
 ∃b16:Bool,
 v8 = .tuple ⟨[.agg ⟨[s10.v,.bool b11,s12.v]⟩,.agg ⟨[.bool b13,s14.v,s15.v]⟩,.bool b16]⟩∧
 (b16=true→
 inB a0 i5∧
 ∃t17:ByteArray,
 Aa7 W9 a0 1 (Int.toNat i5) 0 [.string t17]∧
 ((↑(ByteArray.size t17):Int)≤16→
 dup 1
 ((List.length l3+List.length [[s10.v,.bool b11,s12.v]])*56≤140737488355328∧
 (List.length l4+List.length [[.bool b13,s14.v,s15.v]])*56≤140737488355328∧
 I64 (i5+1)∧
 stp F1 F2 [.row (l3 ++ [[s10.v,.bool b11,s12.v]]),.row (l4 ++ [[.bool b13,s14.v,s15.v]]),.val (.int .i64 (i5+1))] W9 [.row l3,.row l4,.val (.int .i64 i5)] W6)∧
 (List.length l3+List.length [[s10.v,.bool b11,s12.v]])*56≤140737488355328∧
 (List.length l4+List.length [[.bool b13,s14.v,s15.v]])*56≤140737488355328∧
 I64 (i5+1)∧
 stp F1 F2 [.row (l3 ++ [[s10.v,.bool b11,s12.v]]),.row (l4 ++ [[.bool b13,s14.v,s15.v]]),.val (.int .i64 (i5+1))] W9 [.row l3,.row l4,.val (.int .i64 i5)] W6)∧
 (¬(↑(ByteArray.size t17):Int)≤16→I64 (i5+1)∧stp F1 F2 [.row l3,.row l4,.val (.int .i64 (i5+1))] W9 [.row l3,.row l4,.val (.int .i64 i5)] W6))∧
 (b16=false→I64 (i5+1)∧stp F1 F2 [.row l3,.row l4,.val (.int .i64 (i5+1))] W9 [.row l3,.row l4,.val (.int .i64 i5)] W6))∧
 (¬i5<a1→∀(s18:Sl) (W19:PW),Ext W6 W19→SX.Own W19 42 3 s18 l3→Fr W0 W6 s18→∀(s20:Sl) (W21:PW),Ext W19 W21→SX.Own W21 47 3 s20 l4→Fr W0 W19 s20→∀(W22:PW),Ext W21 W22→Post (.tuple ⟨[s18.v,s20.v]⟩) W22))∧
 (¬i5<(a0.2:Int)→∀(s23:Sl) (W24:PW),Ext W6 W24→SX.Own W24 42 3 s23 l3→Fr W0 W6 s23→∀(s25:Sl) (W26:PW),Ext W24 W26→SX.Own W26 47 3 s25 l4→Fr W0 W24 s25→∀(W27:PW),Ext W26 W27→Post (.tuple ⟨[s23.v,s25.v]⟩) W27)
theorem Ik7 (W0:PW) (M:Nat→Prop) (a0:Sl) (a1:Int) (Post:Value→PW→Prop) (h:Iq5 W0 M a0 a1 Post):Aa0 Tryz.prog 32 [a0.v,.int .i64 a1] W0 M Post:=
 Aa3 rfl Aa9 Aa8 Tryz.func32 (cuts:=[]) rfl rfl (Nat.le_of_ble_eq_true rfl) (Eq.mpr (by kernel_rfl) h)
def Ik2 (W0:PW) (M:Nat→Prop) (a0:Sl) (a1:Sl) (a2:Sl) (a3:Int) (Post:Value→PW→Prop):Prop:=
 Aa1 Tryz.prog W0 M 13 [] W0 fun v1 W2=>
 ∃b3:Bool,
 v1 = .bool b3∧
 ((!b3)=true→∀(W4:PW),Ext W2 W4→Post (.bool false) W4)∧
 ((!b3)=false→
 (5<(a1.2:Int)→∀(W5:PW),Ext W2 W5→Post (.bool true) W5)∧
 (¬5<(a1.2:Int)→
 (5<(a2.2:Int)→∀(W6:PW),Ext W2 W6→Post (.bool true) W6)∧
 (¬5<(a2.2:Int)→
 Aa1 Tryz.prog W0 M 32 [a0.v,.int .i64 40] W2 fun v7 W8=>
 ∃s9:Sl,
 ∃s10:Sl,
 v7 = .tuple ⟨[s9.v,s10.v]⟩∧
 Aa1 Tryz.prog W0 M 32 [a2.v,.int .i64 5] W8 fun v11 W12=>
 ∃s13:Sl,
 ∃s14:Sl,
 v11 = .tuple ⟨[s13.v,s14.v]⟩∧
 ∃(l15:List (List Value)),
 Bf9 W12 1 a1 l15∧
 List.length l15*8≤140737488355328∧
 ∀(s16:Sl) (W17:PW),
 Ext W12 W17→
 SX.Own W17 3 1 s16 l15→
 Fr W0 W12 s16→
 Aa1 Tryz.prog W0 M 33 [s9.v,s16.v,s13.v] W17 fun v18 W19=>
 ∃s20:Sl,
 ∃b21:Bool,
 ∃s22:Sl,
 ∃b23:Bool,
 v18 = .tuple ⟨[.agg ⟨[s20.v,.bool b21,s22.v]⟩,.bool b23]⟩∧
 Aa1 Tryz.prog W0 M 34 [s10.v,a1.v,s14.v] W19 fun v24 W25=>
 ∃b26:Bool,
 ∃s27:Sl,
 ∃s28:Sl,
 ∃b29:Bool,
 v24 = .tuple ⟨[.agg ⟨[.bool b26,s27.v,s28.v]⟩,.bool b29]⟩∧
 Aa1 Tryz.prog W0 M 35 [s9.v,a1.v,.int .i64 a3] W25 fun v30 W31=>
 ∃s32:Sl,
 ∃s33:Sl,
 ∃b34:Bool,
 v30 = .tuple ⟨[s32.v,s33.v,.bool b34]⟩∧
 Aa1 Tryz.prog W0 M 36 [s10.v,a1.v,.int .i64 a3] W31 fun v35 W36=>
 ∃s37:Sl,
 ∃s38:Sl,
 ∃b39:Bool,
 v35 = .tuple ⟨[s37.v,s38.v,.bool b39]⟩∧
 (b23=b29→
 ((!b29)=true→
 (b29=true→
 (b34=b39→
 Aa1 Tryz.prog W0 M 26 [s32.v,s37.v] W36 fun v40 W41=>
 ∃b42:Bool,
 v40 = .bool b42∧
 (b42=true→
 Aa1 Tryz.prog W0 M 26 [s33.v,s38.v] W41 fun v43 W44=>
 ∃b45:Bool,
 v43 = .bool b45∧
 (b45=true→Aa1 Tryz.prog W0 M 26 [s9.v,s10.v] W44 fun v46 W47=>∃b48:Bool,v46 = .bool b48∧∀(W49:PW),Ext W47 W49→Post (.bool b48) W49)∧
 (b45=false→∀(W50:PW),Ext W44 W50→Post (.bool false) W50))∧
 (b42=false→∀(W51:PW),Ext W41 W51→Post (.bool false) W51))∧
 (¬b34=b39→∀(W52:PW),Ext W36 W52→Post (.bool false) W52))∧
 (b29=false→
 Aa1 Tryz.prog W0 M 38 [.agg ⟨[s20.v,.bool b21,s22.v]⟩] W36 fun v53 W54=>
 ∃t55:ByteArray,
 v53 = .string t55∧
 (t55=(ByteArray.mk #[48])→
 (b34=b39→
 Aa1 Tryz.prog W0 M 26 [s32.v,s37.v] W54 fun v56 W57=>
 ∃b58:Bool,
 v56 = .bool b58∧
 (b58=true→
 Aa1 Tryz.prog W0 M 26 [s33.v,s38.v] W57 fun v59 W60=>
 ∃b61:Bool,
 v59 = .bool b61∧
 (b61=true→Aa1 Tryz.prog W0 M 26 [s9.v,s10.v] W60 fun v62 W63=>∃b64:Bool,v62 = .bool b64∧∀(W65:PW),Ext W63 W65→Post (.bool b64) W65)∧
 (b61=false→∀(W66:PW),Ext W60 W66→Post (.bool false) W66))∧
 (b58=false→∀(W67:PW),Ext W57 W67→Post (.bool false) W67))∧
 (¬b34=b39→∀(W68:PW),Ext W54 W68→Post (.bool false) W68))∧
 (¬t55=(ByteArray.mk #[48])→∀(W69:PW),Ext W54 W69→Post (.bool false) W69)))∧
 ((!b29)=false→
 Aa1 Tryz.prog W0 M 37 [.agg ⟨[s20.v,.bool b21,s22.v]⟩,.agg ⟨[.bool b26,s27.v,s28.v]⟩] W36 fun v70 W71=>
 ∃b72:Bool,
 v70 = .bool b72∧
 (b72=true→
 (b29=true→
 (b34=b39→
 Aa1 Tryz.prog W0 M 26 [s32.v,s37.v] W71 fun v73 W74=>
 ∃b75:Bool,
 v73 = .bool b75∧
 (b75=true→
 Aa1 Tryz.prog W0 M 26 [s33.v,s38.v] W74 fun v76 W77=>
 ∃b78:Bool,
 v76 = .bool b78∧
 (b78=true→Aa1 Tryz.prog W0 M 26 [s9.v,s10.v] W77 fun v79 W80=>∃b81:Bool,v79 = .bool b81∧∀(W82:PW),Ext W80 W82→Post (.bool b81) W82)∧
 (b78=false→∀(W83:PW),Ext W77 W83→Post (.bool false) W83))∧
 (b75=false→∀(W84:PW),Ext W74 W84→Post (.bool false) W84))∧
 (¬b34=b39→∀(W85:PW),Ext W71 W85→Post (.bool false) W85))∧
 (b29=false→
 Aa1 Tryz.prog W0 M 38 [.agg ⟨[s20.v,.bool b21,s22.v]⟩] W71 fun v86 W87=>
 ∃t88:ByteArray,
 v86 = .string t88∧
 (t88=(ByteArray.mk #[48])→
 (b34=b39→
 Aa1 Tryz.prog W0 M 26 [s32.v,s37.v] W87 fun v89 W90=>
 ∃b91:Bool,
 v89 = .bool b91∧
 (b91=true→
 Aa1 Tryz.prog W0 M 26 [s33.v,s38.v] W90 fun v92 W93=>
 ∃b94:Bool,
 v92 = .bool b94∧
 (b94=true→
 Aa1 Tryz.prog W0 M 26 [s9.v,s10.v] W93 fun v95 W96=>∃b97:Bool,v95 = .bool b97∧∀(W98:PW),Ext W96 W98→Post (.bool b97) W98)∧
 (b94=false→∀(W99:PW),Ext W93 W99→Post (.bool false) W99))∧
 (b91=false→∀(W100:PW),Ext W90 W100→Post (.bool false) W100))∧
 (¬b34=b39→∀(W101:PW),Ext W87 W101→Post (.bool false) W101))∧
 (¬t88=(ByteArray.mk #[48])→∀(W102:PW),Ext W87 W102→Post (.bool false) W102)))∧
 (b72=false→∀(W103:PW),Ext W71 W103→Post (.bool false) W103)))∧
 (¬b23=b29→∀(W104:PW),Ext W36 W104→Post (.bool false) W104))))
theorem Ih0 (W0:PW) (M:Nat→Prop) (a0:Sl) (a1:Sl) (a2:Sl) (a3:Int) (Post:Value→PW→Prop) (h:Ik2 W0 M a0 a1 a2 a3 Post):Aa0 Tryz.prog 6 [a0.v,a1.v,a2.v,.int .i64 a3] W0 M Post:=
 Aa3 rfl Aa9 Aa8 Tryz.func6 (cuts:=[]) rfl rfl (Nat.le_of_ble_eq_true rfl) (Eq.mpr (by kernel_rfl) h)
end Go.Proofs.YtokefihiadbkbaaGreatDoor
