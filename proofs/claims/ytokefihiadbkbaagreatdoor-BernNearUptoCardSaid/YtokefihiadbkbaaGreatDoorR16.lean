/- R16 -/
import Derived.Test.YtokefihiadbkbaaGreatDoorTt
set_option linter.unusedVariables false
set_option linter.unusedSimpArgs false
set_option maxRecDepth 100000
namespace Go.Proofs.YtokefihiadbkbaaGreatDoor
open Go Go.SX
def Hw2 (W0:PW) (M:Nat→Prop) (a0_0:Sl) (a0_1:Bool) (a0_2:Sl) (a0_3:Sl) (a0_4:Bool) (a0_5:Sl) (a1_0:Sl) (a1_1:Bool) (a1_2:Sl) (a1_3:Sl) (a1_4:Bool) (a1_5:Sl) (Post:Value→PW→Prop):Prop:=
 Aa1 Tryz.prog W0 M 20 [.agg ⟨[a0_0.v,.bool a0_1,a0_2.v]⟩,.agg ⟨[a1_0.v,.bool a1_1,a1_2.v]⟩] W0 fun v1 W2=>
 ∃i3:Int,
 v1 = .int .i64 i3∧
 (i3=0→
 Aa1 Tryz.prog W0 M 20 [.agg ⟨[a0_3.v,.bool a0_4,a0_5.v]⟩,.agg ⟨[a1_3.v,.bool a1_4,a1_5.v]⟩] W2 fun v4 W5=>
 ∃i6:Int,v4 = .int .i64 i6∧∀(W7:PW),Ext W5 W7→Post (.bool (decide (i6=0))) W7)∧
 (¬i3=0→∀(W8:PW),Ext W2 W8→Post (.bool false) W8)
theorem Hu7 (W0:PW) (M:Nat→Prop) (a0_0:Sl) (a0_1:Bool) (a0_2:Sl) (a0_3:Sl) (a0_4:Bool) (a0_5:Sl) (a1_0:Sl) (a1_1:Bool) (a1_2:Sl) (a1_3:Sl) (a1_4:Bool) (a1_5:Sl) (Post:Value→PW→Prop) (h:Hw2 W0 M a0_0 a0_1 a0_2 a0_3 a0_4 a0_5 a1_0 a1_1 a1_2 a1_3 a1_4 a1_5 Post):Aa0 Tryz.prog 46 [.agg #[a0_0.v,.bool a0_1,a0_2.v,a0_3.v,.bool a0_4,a0_5.v],.agg #[a1_0.v,.bool a1_1,a1_2.v,a1_3.v,.bool a1_4,a1_5.v]] W0 M Post:=
 Aa3 rfl Aa9 Aa8 Tryz.func46 (cuts:=[]) rfl rfl (Nat.le_of_ble_eq_true rfl) (Eq.mpr (by kernel_rfl) h)
def Db8 (W0:PW) (M:Nat→Prop) (a0_0:Sl) (a1:Sl) (Post:Value→PW→Prop):Prop:=
 Aa1 Tryz.prog W0 M 108 [a1.v] W0 fun v1 W2=>
 ∃b3:Bool,
 v1 = .bool b3∧
 (b3=true→Aa1 Tryz.prog W0 M 14 [.agg ⟨[a0_0.v]⟩] W2 fun v4 W5=>∃i6:Int,v4 = .int .i64 i6∧∀(W7:PW),Ext W5 W7→Post (.bool (decide (i6≤(a1.2:Int)))) W7)∧
 (b3=false→∀(W8:PW),Ext W2 W8→Post (.bool false) W8)
theorem Bw2 (W0:PW) (M:Nat→Prop) (a0_0:Sl) (a1:Sl) (Post:Value→PW→Prop) (h:Db8 W0 M a0_0 a1 Post):Aa0 Tryz.prog 64 [.agg #[a0_0.v],a1.v] W0 M Post:=
 Aa3 rfl Aa9 Aa8 Tryz.func64 (cuts:=[]) rfl rfl (Nat.le_of_ble_eq_true rfl) (Eq.mpr (by kernel_rfl) h)
def Cr2 (W0:PW) (M:Nat→Prop) (a0:Sl) (Post:Value→PW→Prop):Prop:=
 ∃(l1:List (List Value)),
 Bf9 W0 6 a0 l1∧
 Ai7 [Shp.slice,Shp.bool,Shp.slice,Shp.slice,Shp.bool,Shp.slice,Shp.slice,Shp.bool,Shp.slice,Shp.slice,Shp.bool,Shp.slice,Shp.slice,Shp.bool,Shp.slice,Shp.slice,Shp.bool,Shp.slice]
 (Aj6
 [.slice none 0 0,.bool false,.slice none 0 0,.slice none 0 0,.bool false,.slice none 0 0,.slice none 0 0,.bool false,.slice none 0 0,
 .slice none 0 0,.bool false,.slice none 0 0,.slice none 0 0,.bool false,.slice none 0 0,.slice none 0 0,.bool false,.slice none 0 0]
 0 (List.flatten (List.take 3 l1))) =
 true∧
 ∀(s2:Sl) (b3:Bool) (s4 s5:Sl) (b6:Bool) (s7 s8:Sl) (b9:Bool) (s10 s11:Sl) (b12:Bool) (s13 s14:Sl) (b15:Bool) (s16 s17:Sl) (b18:Bool) (s19:Sl),
 [s2.v,.bool b3,s4.v,s5.v,.bool b6,s7.v,s8.v,.bool b9,s10.v,s11.v,.bool b12,s13.v,s14.v,.bool b15,s16.v,s17.v,.bool b18,s19.v] =
 Aj6
 [.slice none 0 0,.bool false,.slice none 0 0,.slice none 0 0,.bool false,.slice none 0 0,.slice none 0 0,.bool false,.slice none 0 0,
 .slice none 0 0,.bool false,.slice none 0 0,.slice none 0 0,.bool false,.slice none 0 0,.slice none 0 0,.bool false,.slice none 0 0]
 0 (List.flatten (List.take 3 l1))→
 ∀(W20:PW),Ext W0 W20→Post (.agg ⟨[s2.v,.bool b3,s4.v,s5.v,.bool b6,s7.v,s8.v,.bool b9,s10.v,s11.v,.bool b12,s13.v,s14.v,.bool b15,s16.v,s17.v,.bool b18,s19.v]⟩) W20
theorem Bx9 (W0:PW) (M:Nat→Prop) (a0:Sl) (Post:Value→PW→Prop) (h:Cr2 W0 M a0 Post):Aa0 Tryz.prog 112 [a0.v] W0 M Post:=
 Aa3 rfl Aa9 Aa8 Tryz.func112 (cuts:=[]) rfl rfl (Nat.le_of_ble_eq_true rfl) (Eq.mpr (by kernel_rfl) h)
def Cb9 (W0:PW) (M:Nat→Prop) (a0_0:Sl) (a1:Sl) (Post:Value→PW→Prop):Prop:=
 Aa1 Tryz.prog W0 M 64 [.agg ⟨[a0_0.v]⟩,a1.v] W0 fun v1 W2=>
 ∃b3:Bool,
 v1 = .bool b3∧
 ((!b3)=true→
 ∀(W4:PW),Ext W2 W4→Post (.tuple ⟨[.agg ⟨[.slice none 0 0,.bool false,.slice none 0 0,.slice none 0 0,.bool false,.slice none 0 0]⟩,.bool false]⟩) W4)∧
 ((!b3)=false→
 Aa1 Tryz.prog W0 M 112 [a1.v] W2 fun v5 W6=>
 ∃s7:Sl,
 ∃b8:Bool,
 ∃s9:Sl,
 ∃s10:Sl,
 ∃b11:Bool,
 ∃s12:Sl,
 ∃s13:Sl,
 ∃b14:Bool,
 ∃s15:Sl,
 ∃s16:Sl,
 ∃b17:Bool,
 ∃s18:Sl,
 ∃s19:Sl,
 ∃b20:Bool,
 ∃s21:Sl,
 ∃s22:Sl,
 ∃b23:Bool,
 ∃s24:Sl,
 v5 = .agg ⟨[s7.v,.bool b8,s9.v,s10.v,.bool b11,s12.v,s13.v,.bool b14,s15.v,s16.v,.bool b17,s18.v,s19.v,.bool b20,s21.v,s22.v,.bool b23,s24.v]⟩∧
 Aa1 Tryz.prog W0 M 111
 [.agg ⟨[a0_0.v]⟩,
 .agg ⟨[s7.v,.bool b8,s9.v,s10.v,.bool b11,s12.v,s13.v,.bool b14,s15.v,s16.v,.bool b17,s18.v,s19.v,.bool b20,s21.v,s22.v,.bool b23,s24.v]⟩]
 W6 fun v25 W26=>
 ∃s27:Sl,
 ∃b28:Bool,
 ∃s29:Sl,
 ∃s30:Sl,
 ∃b31:Bool,
 ∃s32:Sl,
 v25 = .agg ⟨[s27.v,.bool b28,s29.v,s30.v,.bool b31,s32.v]⟩∧
 ∀(W33:PW),Ext W26 W33→Post (.tuple ⟨[.agg ⟨[s27.v,.bool b28,s29.v,s30.v,.bool b31,s32.v]⟩,.bool true]⟩) W33)
theorem Bh7 (W0:PW) (M:Nat→Prop) (a0_0:Sl) (a1:Sl) (Post:Value→PW→Prop) (h:Cb9 W0 M a0_0 a1 Post):Aa0 Tryz.prog 45 [.agg #[a0_0.v],a1.v] W0 M Post:=
 Aa3 rfl Aa9 Aa8 Tryz.func45 (cuts:=[]) rfl rfl (Nat.le_of_ble_eq_true rfl) (Eq.mpr (by kernel_rfl) h)
end Go.Proofs.YtokefihiadbkbaaGreatDoor
