/- R17 -/
import Derived.Test.YtjkkidjbppphpaaGreatDoorTt
set_option linter.unusedVariables false
set_option linter.unusedSimpArgs false
set_option maxRecDepth 100000
namespace Go.Proofs.YtjkkidjbppphpaaGreatDoor
open Go Go.SX
def Hp5 (W0:PW) (M:Nat→Prop) (a0_0:Sl) (a0_1:Bool) (a0_2:Sl) (a0_3:Sl) (a0_4:Bool) (a0_5:Sl) (a1_0:Sl) (a1_1:Bool) (a1_2:Sl) (a1_3:Sl) (a1_4:Bool) (a1_5:Sl) (Post:Value→PW→Prop):Prop:=
 Aa1 Tryz.prog W0 M 184 [.agg ⟨[a0_0.v,.bool a0_1,a0_2.v]⟩,.agg ⟨[a1_3.v,.bool a1_4,a1_5.v]⟩] W0 fun v1 W2=>
 ∃s3:Sl,
 ∃b4:Bool,
 ∃s5:Sl,
 v1 = .agg ⟨[s3.v,.bool b4,s5.v]⟩∧
 Aa1 Tryz.prog W0 M 184 [.agg ⟨[a0_3.v,.bool a0_4,a0_5.v]⟩,.agg ⟨[a1_0.v,.bool a1_1,a1_2.v]⟩] W2 fun v6 W7=>
 ∃s8:Sl,∃b9:Bool,∃s10:Sl,v6 = .agg ⟨[s8.v,.bool b9,s10.v]⟩∧∀(W11:PW),Ext W7 W11→Post (.agg ⟨[s3.v,.bool b4,s5.v,s8.v,.bool b9,s10.v]⟩) W11
theorem Hj2 (W0:PW) (M:Nat→Prop) (a0_0:Sl) (a0_1:Bool) (a0_2:Sl) (a0_3:Sl) (a0_4:Bool) (a0_5:Sl) (a1_0:Sl) (a1_1:Bool) (a1_2:Sl) (a1_3:Sl) (a1_4:Bool) (a1_5:Sl) (Post:Value→PW→Prop) (h:Hp5 W0 M a0_0 a0_1 a0_2 a0_3 a0_4 a0_5 a1_0 a1_1 a1_2 a1_3 a1_4 a1_5 Post):Aa0 Tryz.prog 129 [.agg #[a0_0.v,.bool a0_1,a0_2.v,a0_3.v,.bool a0_4,a0_5.v],.agg #[a1_0.v,.bool a1_1,a1_2.v,a1_3.v,.bool a1_4,a1_5.v]] W0 M Post:=
 Aa3 rfl Aa9 Aa8 Tryz.func129 (cuts:=[]) rfl rfl (Nat.le_of_ble_eq_true rfl) (Eq.mpr (by kernel_rfl) h)
def Gc7 (W0:PW) (M:Nat→Prop) (a0_0:Sl) (a0_1:Bool) (a0_2:Sl) (Post:Value→PW→Prop):Prop:=
 Aa1 Tryz.prog W0 M 103 [.int .i64 2] W0 fun v1 W2=>
 ∃s3:Sl,
 ∃b4:Bool,
 ∃s5:Sl,
 v1 = .agg ⟨[s3.v,.bool b4,s5.v]⟩∧
 Aa1 Tryz.prog W0 M 108 [.agg ⟨[a0_0.v,.bool a0_1,a0_2.v]⟩,.agg ⟨[s3.v,.bool b4,s5.v]⟩] W2 fun v6 W7=>
 ∃s8:Sl,∃b9:Bool,∃s10:Sl,∃b11:Bool,v6 = .tuple ⟨[.agg ⟨[s8.v,.bool b9,s10.v]⟩,.bool b11]⟩∧∀(W12:PW),Ext W7 W12→Post (.agg ⟨[s8.v,.bool b9,s10.v]⟩) W12
theorem Fz1 (W0:PW) (M:Nat→Prop) (a0_0:Sl) (a0_1:Bool) (a0_2:Sl) (Post:Value→PW→Prop) (h:Gc7 W0 M a0_0 a0_1 a0_2 Post):Aa0 Tryz.prog 177 [.agg #[a0_0.v,.bool a0_1,a0_2.v]] W0 M Post:=
 Aa3 rfl Aa9 Aa8 Tryz.func177 (cuts:=[]) rfl rfl (Nat.le_of_ble_eq_true rfl) (Eq.mpr (by kernel_rfl) h)
def Gd1 (W0:PW) (M:Nat→Prop) (a0_0:Sl) (a0_1:Bool) (a0_2:Sl) (a0_3:Sl) (a0_4:Bool) (a0_5:Sl) (Post:Value→PW→Prop):Prop:=
 Aa1 Tryz.prog W0 M 48 [.agg ⟨[a0_0.v,.bool a0_1,a0_2.v]⟩,.agg ⟨[a0_3.v,.bool a0_4,a0_5.v]⟩] W0 fun v1 W2=>
 ∃s3:Sl,
 ∃b4:Bool,
 ∃s5:Sl,
 v1 = .agg ⟨[s3.v,.bool b4,s5.v]⟩∧
 Aa1 Tryz.prog W0 M 177 [.agg ⟨[s3.v,.bool b4,s5.v]⟩] W2 fun v6 W7=>
 ∃s8:Sl,∃b9:Bool,∃s10:Sl,v6 = .agg ⟨[s8.v,.bool b9,s10.v]⟩∧∀(W11:PW),Ext W7 W11→Post (.agg ⟨[s8.v,.bool b9,s10.v]⟩) W11
theorem Ga3 (W0:PW) (M:Nat→Prop) (a0_0:Sl) (a0_1:Bool) (a0_2:Sl) (a0_3:Sl) (a0_4:Bool) (a0_5:Sl) (Post:Value→PW→Prop) (h:Gd1 W0 M a0_0 a0_1 a0_2 a0_3 a0_4 a0_5 Post):Aa0 Tryz.prog 100 [.agg #[a0_0.v,.bool a0_1,a0_2.v,a0_3.v,.bool a0_4,a0_5.v]] W0 M Post:=
 Aa3 rfl Aa9 Aa8 Tryz.func100 (cuts:=[]) rfl rfl (Nat.le_of_ble_eq_true rfl) (Eq.mpr (by kernel_rfl) h)
def Hw2 (W0:PW) (M:Nat→Prop) (a0_0:Sl) (a0_1:Bool) (a0_2:Sl) (a0_3:Sl) (a0_4:Bool) (a0_5:Sl) (a1_0:Sl) (a1_1:Bool) (a1_2:Sl) (a1_3:Sl) (a1_4:Bool) (a1_5:Sl) (Post:Value→PW→Prop):Prop:=
 Aa1 Tryz.prog W0 M 47 [.agg ⟨[a0_0.v,.bool a0_1,a0_2.v]⟩,.agg ⟨[a1_0.v,.bool a1_1,a1_2.v]⟩] W0 fun v1 W2=>
 ∃i3:Int,
 v1 = .int .i64 i3∧
 (i3=0→
 Aa1 Tryz.prog W0 M 47 [.agg ⟨[a0_3.v,.bool a0_4,a0_5.v]⟩,.agg ⟨[a1_3.v,.bool a1_4,a1_5.v]⟩] W2 fun v4 W5=>
 ∃i6:Int,v4 = .int .i64 i6∧∀(W7:PW),Ext W5 W7→Post (.bool (decide (i6=0))) W7)∧
 (¬i3=0→∀(W8:PW),Ext W2 W8→Post (.bool false) W8)
theorem Hu7 (W0:PW) (M:Nat→Prop) (a0_0:Sl) (a0_1:Bool) (a0_2:Sl) (a0_3:Sl) (a0_4:Bool) (a0_5:Sl) (a1_0:Sl) (a1_1:Bool) (a1_2:Sl) (a1_3:Sl) (a1_4:Bool) (a1_5:Sl) (Post:Value→PW→Prop) (h:Hw2 W0 M a0_0 a0_1 a0_2 a0_3 a0_4 a0_5 a1_0 a1_1 a1_2 a1_3 a1_4 a1_5 Post):Aa0 Tryz.prog 29 [.agg #[a0_0.v,.bool a0_1,a0_2.v,a0_3.v,.bool a0_4,a0_5.v],.agg #[a1_0.v,.bool a1_1,a1_2.v,a1_3.v,.bool a1_4,a1_5.v]] W0 M Post:=
 Aa3 rfl Aa9 Aa8 Tryz.func29 (cuts:=[]) rfl rfl (Nat.le_of_ble_eq_true rfl) (Eq.mpr (by kernel_rfl) h)
def Hp6 (W0:PW) (M:Nat→Prop) (a0:Sl) (Post:Value→PW→Prop):Prop:=
 Aa1 Tryz.prog W0 M 98 [a0.v] W0 fun v1 W2=>
 ∃b3:Bool,
 v1 = .bool b3∧
 ((!b3)=true→∀(W4:PW),Ext W2 W4→Post (.slice none 0 0) W4)∧
 ((!b3)=false→
 ∃(F5:List PL→PW→Prop),
 ∃(F6:List PL→PW→Nat),
 F5 [.row [],.val (.int .i64 0)] W2∧
 ∀(l7:List (List Value)) (i8:Int) (W9:PW),
 F5 [.row l7,.val (.int .i64 i8)] W9→
 (i8<(a0.2:Int)→
 inB a0 i8∧
 ∃s10:Sl,
 ∃b11:Bool,
 ∃s12:Sl,
 ∃s13:Sl,
 ∃b14:Bool,
 ∃s15:Sl,
 Aa7 W9 a0 6 (Int.toNat i8) 0 [s10.v,.bool b11,s12.v,s13.v,.bool b14,s15.v]∧
 Aa1 Tryz.prog W0 M 100 [.agg ⟨[s10.v,.bool b11,s12.v,s13.v,.bool b14,s15.v]⟩] W9 fun v16 W17=>
 ∃s18:Sl,
 ∃b19:Bool,
 ∃s20:Sl,
 v16 = .agg ⟨[s18.v,.bool b19,s20.v]⟩∧
 (List.length l7+List.length [[s18.v,.bool b19,s20.v]])*56≤140737488355328∧
 I64 (i8+1)∧stp F5 F6 [.row (l7 ++ [[s18.v,.bool b19,s20.v]]),.val (.int .i64 (i8+1))] W17 [.row l7,.val (.int .i64 i8)] W9)∧
 (¬i8<(a0.2:Int)→∀(s21:Sl) (W22:PW),Ext W9 W22→SX.Own W22 40 3 s21 l7→Fr W0 W9 s21→∀(W23:PW),Ext W22 W23→Post s21.v W23))
theorem Hk8 (W0:PW) (M:Nat→Prop) (a0:Sl) (Post:Value→PW→Prop) (h:Hp6 W0 M a0 Post):Aa0 Tryz.prog 127 [a0.v] W0 M Post:=
 Aa3 rfl Aa9 Aa8 Tryz.func127 (cuts:=[]) rfl rfl (Nat.le_of_ble_eq_true rfl) (Eq.mpr (by kernel_rfl) h)
def Db8 (W0:PW) (M:Nat→Prop) (a0_0:Sl) (a1:Sl) (Post:Value→PW→Prop):Prop:=
 Aa1 Tryz.prog W0 M 98 [a1.v] W0 fun v1 W2=>
 ∃b3:Bool,
 v1 = .bool b3∧
 (b3=true→Aa1 Tryz.prog W0 M 23 [.agg ⟨[a0_0.v]⟩] W2 fun v4 W5=>∃i6:Int,v4 = .int .i64 i6∧∀(W7:PW),Ext W5 W7→Post (.bool (decide (i6≤(a1.2:Int)))) W7)∧
 (b3=false→∀(W8:PW),Ext W2 W8→Post (.bool false) W8)
theorem Bw2 (W0:PW) (M:Nat→Prop) (a0_0:Sl) (a1:Sl) (Post:Value→PW→Prop) (h:Db8 W0 M a0_0 a1 Post):Aa0 Tryz.prog 62 [.agg #[a0_0.v],a1.v] W0 M Post:=
 Aa3 rfl Aa9 Aa8 Tryz.func62 (cuts:=[]) rfl rfl (Nat.le_of_ble_eq_true rfl) (Eq.mpr (by kernel_rfl) h)
def Cr2 (W0:PW) (M:Nat→Prop) (a0:Sl) (Post:Value→PW→Prop):Prop:=
 ∃(l1:List (List Value)),
 Bf9 W0 6 a0 l1∧
 Ai7 [Shp.slice,Shp.bool,Shp.slice,Shp.slice,Shp.bool,Shp.slice,Shp.slice,Shp.bool,Shp.slice,Shp.slice,Shp.bool,Shp.slice,Shp.slice,Shp.bool,Shp.slice,Shp.slice,Shp.bool,Shp.slice]
 (Aj6
 [.slice none 0 0,.bool false,.slice none 0 0,.slice none 0 0,.bool false,.slice none 0 0,.slice none 0 0,.bool false,.slice none 0 0,
 .slice none 0 0,.bool false,.slice none 0 0,.slice none 0 0,.bool false,.slice none 0 0,.slice none 0 0,.bool false,.slice none 0 0]
 0 (List.flatten (List.take 3 l1))) =
 true∧
 ∀(s2:Sl) (b3:Bool) (s4 s5:Sl) (b6:Bool) (s7 s8:Sl) (b9:Bool) (s10 s11:Sl) (b12:Bool) (s13 s14:Sl) (b15:Bool) (s16 s17:Sl) (b18:Bool) (s19:Sl),
 [s2.v,.bool b3,s4.v,s5.v,.bool b6,s7.v,s8.v,.bool b9,s10.v,s11.v,.bool b12,s13.v,s14.v,.bool b15,s16.v,s17.v,.bool b18,s19.v] =
 Aj6
 [.slice none 0 0,.bool false,.slice none 0 0,.slice none 0 0,.bool false,.slice none 0 0,.slice none 0 0,.bool false,.slice none 0 0,
 .slice none 0 0,.bool false,.slice none 0 0,.slice none 0 0,.bool false,.slice none 0 0,.slice none 0 0,.bool false,.slice none 0 0]
 0 (List.flatten (List.take 3 l1))→
 ∀(W20:PW),Ext W0 W20→Post (.agg ⟨[s2.v,.bool b3,s4.v,s5.v,.bool b6,s7.v,s8.v,.bool b9,s10.v,s11.v,.bool b12,s13.v,s14.v,.bool b15,s16.v,s17.v,.bool b18,s19.v]⟩) W20
theorem Bx9 (W0:PW) (M:Nat→Prop) (a0:Sl) (Post:Value→PW→Prop) (h:Cr2 W0 M a0 Post):Aa0 Tryz.prog 93 [a0.v] W0 M Post:=
 Aa3 rfl Aa9 Aa8 Tryz.func93 (cuts:=[]) rfl rfl (Nat.le_of_ble_eq_true rfl) (Eq.mpr (by kernel_rfl) h)
def Cb9 (W0:PW) (M:Nat→Prop) (a0_0:Sl) (a1:Sl) (Post:Value→PW→Prop):Prop:=
 Aa1 Tryz.prog W0 M 62 [.agg ⟨[a0_0.v]⟩,a1.v] W0 fun v1 W2=>
 ∃b3:Bool,
 v1 = .bool b3∧
 ((!b3)=true→
 ∀(W4:PW),Ext W2 W4→Post (.tuple ⟨[.agg ⟨[.slice none 0 0,.bool false,.slice none 0 0,.slice none 0 0,.bool false,.slice none 0 0]⟩,.bool false]⟩) W4)∧
 ((!b3)=false→
 Aa1 Tryz.prog W0 M 93 [a1.v] W2 fun v5 W6=>
 ∃s7:Sl,
 ∃b8:Bool,
 ∃s9:Sl,
 ∃s10:Sl,
 ∃b11:Bool,
 ∃s12:Sl,
 ∃s13:Sl,
 ∃b14:Bool,
 ∃s15:Sl,
 ∃s16:Sl,
 ∃b17:Bool,
 ∃s18:Sl,
 ∃s19:Sl,
 ∃b20:Bool,
 ∃s21:Sl,
 ∃s22:Sl,
 ∃b23:Bool,
 ∃s24:Sl,
 v5 = .agg ⟨[s7.v,.bool b8,s9.v,s10.v,.bool b11,s12.v,s13.v,.bool b14,s15.v,s16.v,.bool b17,s18.v,s19.v,.bool b20,s21.v,s22.v,.bool b23,s24.v]⟩∧
 Aa1 Tryz.prog W0 M 19
 [.agg ⟨[a0_0.v]⟩,
 .agg ⟨[s7.v,.bool b8,s9.v,s10.v,.bool b11,s12.v,s13.v,.bool b14,s15.v,s16.v,.bool b17,s18.v,s19.v,.bool b20,s21.v,s22.v,.bool b23,s24.v]⟩]
 W6 fun v25 W26=>
 ∃s27:Sl,
 ∃b28:Bool,
 ∃s29:Sl,
 ∃s30:Sl,
 ∃b31:Bool,
 ∃s32:Sl,
 v25 = .agg ⟨[s27.v,.bool b28,s29.v,s30.v,.bool b31,s32.v]⟩∧
 ∀(W33:PW),Ext W26 W33→Post (.tuple ⟨[.agg ⟨[s27.v,.bool b28,s29.v,s30.v,.bool b31,s32.v]⟩,.bool true]⟩) W33)
theorem Bh7 (W0:PW) (M:Nat→Prop) (a0_0:Sl) (a1:Sl) (Post:Value→PW→Prop) (h:Cb9 W0 M a0_0 a1 Post):Aa0 Tryz.prog 24 [.agg #[a0_0.v],a1.v] W0 M Post:=
 Aa3 rfl Aa9 Aa8 Tryz.func24 (cuts:=[]) rfl rfl (Nat.le_of_ble_eq_true rfl) (Eq.mpr (by kernel_rfl) h)
def Di4 (W0:PW) (M:Nat→Prop) (Post:Value→PW→Prop):Prop:=
 ∀(s1:Sl) (W2:PW),
 Ext W0 W2→
 SX.Own W2 24 2 s1 [[.string (ByteArray.mk #[48]),.string (ByteArray.mk #[49])]]→
 Fr W0 W0 s1→
 Aa1 Tryz.prog W0 M 77 [s1.v] W2 fun v3 W4=>
 ∃s5:Sl,
 ∃i6:Int,
 v3 = .tuple ⟨[s5.v,.int .i64 i6]⟩∧
 Aa1 Tryz.prog W0 M 49 [.int .i64 0] W4 fun v7 W8=>
 ∃s9:Sl,
 v7 = .agg ⟨[s9.v]⟩∧
 Aa1 Tryz.prog W0 M 78 [.agg ⟨[s9.v]⟩,.agg ⟨[s9.v]⟩] W8 fun v10 W11=>
 ∃s12:Sl,
 ∃b13:Bool,
 v10 = .tuple ⟨[.agg ⟨[s12.v]⟩,.bool b13]⟩∧
 Aa1 Tryz.prog W0 M 79 [.agg ⟨[s12.v]⟩,.agg ⟨[s9.v]⟩] W11 fun v14 W15=>
 ∃s16:Sl,
 v14 = .agg ⟨[s16.v]⟩∧
 Aa1 Tryz.prog W0 M 24 [.agg ⟨[s16.v]⟩,s5.v] W15 fun v17 W18=>
 ∃s19:Sl,
 ∃b20:Bool,
 ∃s21:Sl,
 ∃s22:Sl,
 ∃b23:Bool,
 ∃s24:Sl,
 ∃b25:Bool,
 v17 = .tuple ⟨[.agg ⟨[s19.v,.bool b20,s21.v,s22.v,.bool b23,s24.v]⟩,.bool b25]⟩∧
 (i6=0→
 (b13=true→
 (b25=true→
 Aa1 Tryz.prog W0 M 80 [.int .i64 (-1:Int)] W18 fun v26 W27=>
 ∃b28:Bool,
 ∃s29:Sl,
 ∃s30:Sl,
 v26 = .agg ⟨[.bool b28,s29.v,s30.v]⟩∧
 Aa1 Tryz.prog W0 M 80 [.int .i64 1] W27 fun v31 W32=>
 ∃b33:Bool,
 ∃s34:Sl,
 ∃s35:Sl,
 v31 = .agg ⟨[.bool b33,s34.v,s35.v]⟩∧
 Aa1 Tryz.prog W0 M 18 [.agg ⟨[s19.v,.bool b20,s21.v,s22.v,.bool b23,s24.v]⟩,.agg ⟨[.bool b28,s29.v,s30.v,.bool b33,s34.v,s35.v]⟩] W32
 fun v36 W37=>∃b38:Bool,v36 = .bool b38∧∀(W39:PW),Ext W37 W39→Post (.bool b38) W39)∧
 (b25=false→∀(W40:PW),Ext W18 W40→Post (.bool false) W40))∧
 (b13=false→∀(W41:PW),Ext W18 W41→Post (.bool false) W41))∧
 (¬i6=0→∀(W42:PW),Ext W18 W42→Post (.bool false) W42)
theorem Ca5 (W0:PW) (M:Nat→Prop) (Post:Value→PW→Prop) (h:Di4 W0 M Post):Aa0 Tryz.prog 16 [] W0 M Post:=
 Aa3 rfl Aa9 Aa8 Tryz.func16 (cuts:=[]) rfl rfl (Nat.le_of_ble_eq_true rfl) (Eq.mpr (by kernel_rfl) h)
end Go.Proofs.YtjkkidjbppphpaaGreatDoor
