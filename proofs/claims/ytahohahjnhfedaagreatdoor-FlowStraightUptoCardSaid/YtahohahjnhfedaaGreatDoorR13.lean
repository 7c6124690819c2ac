/- R13 -/
import Derived.Test.YtahohahjnhfedaaGreatDoorTt
set_option linter.unusedVariables false
set_option linter.unusedSimpArgs false
set_option maxRecDepth 100000
namespace Go.Proofs.YtahohahjnhfedaaGreatDoor
open Go Go.SX
def Ga4 (W0:PW) (M:Nat→Prop) (a0_0:Sl) (a0_1:Bool) (a0_2:Sl) (a0_3:Sl) (a0_4:Bool) (a0_5:Sl) (a1_0:Sl) (a1_1:Bool) (a1_2:Sl) (a1_3:Sl) (a1_4:Bool) (a1_5:Sl) (Post:Value→PW→Prop):Prop:=
 Aa1 Tryz.prog W0 M 14 [.agg ⟨[a1_0.v,.bool a1_1,a1_2.v]⟩,.agg ⟨[a0_0.v,.bool a0_1,a0_2.v]⟩] W0 fun v1 W2=>
 ∃i3:Int,
 v1 = .int .i64 i3∧
 (i3≤0→
 Aa1 Tryz.prog W0 M 14 [.agg ⟨[a0_3.v,.bool a0_4,a0_5.v]⟩,.agg ⟨[a1_3.v,.bool a1_4,a1_5.v]⟩] W2 fun v4 W5=>
 ∃i6:Int,v4 = .int .i64 i6∧∀(W7:PW),Ext W5 W7→Post (.bool (decide (i6≤0))) W7)∧
 (¬i3≤0→∀(W8:PW),Ext W2 W8→Post (.bool false) W8)
theorem Fy3 (W0:PW) (M:Nat→Prop) (a0_0:Sl) (a0_1:Bool) (a0_2:Sl) (a0_3:Sl) (a0_4:Bool) (a0_5:Sl) (a1_0:Sl) (a1_1:Bool) (a1_2:Sl) (a1_3:Sl) (a1_4:Bool) (a1_5:Sl) (Post:Value→PW→Prop) (h:Ga4 W0 M a0_0 a0_1 a0_2 a0_3 a0_4 a0_5 a1_0 a1_1 a1_2 a1_3 a1_4 a1_5 Post):Aa0 Tryz.prog 46 [.agg #[a0_0.v,.bool a0_1,a0_2.v,a0_3.v,.bool a0_4,a0_5.v],.agg #[a1_0.v,.bool a1_1,a1_2.v,a1_3.v,.bool a1_4,a1_5.v]] W0 M Post:=
 Aa3 rfl Aa9 Aa8 Tryz.func46 (cuts:=[]) rfl rfl (Nat.le_of_ble_eq_true rfl) (Eq.mpr (by kernel_rfl) h)
def Db8 (W0:PW) (M:Nat→Prop) (a0_0:Sl) (a1:Sl) (Post:Value→PW→Prop):Prop:=
 Aa1 Tryz.prog W0 M 79 [a1.v] W0 fun v1 W2=>
 ∃b3:Bool,
 v1 = .bool b3∧
 (b3=true→Aa1 Tryz.prog W0 M 70 [.agg ⟨[a0_0.v]⟩] W2 fun v4 W5=>∃i6:Int,v4 = .int .i64 i6∧∀(W7:PW),Ext W5 W7→Post (.bool (decide (i6≤(a1.2:Int)))) W7)∧
 (b3=false→∀(W8:PW),Ext W2 W8→Post (.bool false) W8)
theorem Bw2 (W0:PW) (M:Nat→Prop) (a0_0:Sl) (a1:Sl) (Post:Value→PW→Prop) (h:Db8 W0 M a0_0 a1 Post):Aa0 Tryz.prog 82 [.agg #[a0_0.v],a1.v] W0 M Post:=
 Aa3 rfl Aa9 Aa8 Tryz.func82 (cuts:=[]) rfl rfl (Nat.le_of_ble_eq_true rfl) (Eq.mpr (by kernel_rfl) h)
def Cr2 (W0:PW) (M:Nat→Prop) (a0:Sl) (Post:Value→PW→Prop):Prop:=
 ∃(l1:List (List Value)),
 Bf9 W0 6 a0 l1∧
 Ai7 [Shp.slice,Shp.bool,Shp.slice,Shp.slice,Shp.bool,Shp.slice,Shp.slice,Shp.bool,Shp.slice,Shp.slice,Shp.bool,Shp.slice,Shp.slice,Shp.bool,Shp.slice,Shp.slice,Shp.bool,Shp.slice]
 (Aj6
 [.slice none 0 0,.bool false,.slice none 0 0,.slice none 0 0,.bool false,.slice none 0 0,.slice none 0 0,.bool false,.slice none 0 0,
 .slice none 0 0,.bool false,.slice none 0 0,.slice none 0 0,.bool false,.slice none 0 0,.slice none 0 0,.bool false,.slice none 0 0]
 0 (List.flatten (List.take 3 l1))) =
 true∧
 ∀(s2:Sl) (b3:Bool) (s4 s5:Sl) (b6:Bool) (s7 s8:Sl) (b9:Bool) (s10 s11:Sl) (b12:Bool) (s13 s14:Sl) (b15:Bool) (s16 s17:Sl) (b18:Bool) (s19:Sl),
 [s2.v,.bool b3,s4.v,s5.v,.bool b6,s7.v,s8.v,.bool b9,s10.v,s11.v,.bool b12,s13.v,s14.v,.bool b15,s16.v,s17.v,.bool b18,s19.v] =
 Aj6
 [.slice none 0 0,.bool false,.slice none 0 0,.slice none 0 0,.bool false,.slice none 0 0,.slice none 0 0,.bool false,.slice none 0 0,
 .slice none 0 0,.bool false,.slice none 0 0,.slice none 0 0,.bool false,.slice none 0 0,.slice none 0 0,.bool false,.slice none 0 0]
 0 (List.flatten (List.take 3 l1))→
 ∀(W20:PW),Ext W0 W20→Post (.agg ⟨[s2.v,.bool b3,s4.v,s5.v,.bool b6,s7.v,s8.v,.bool b9,s10.v,s11.v,.bool b12,s13.v,s14.v,.bool b15,s16.v,s17.v,.bool b18,s19.v]⟩) W20
theorem Bx9 (W0:PW) (M:Nat→Prop) (a0:Sl) (Post:Value→PW→Prop) (h:Cr2 W0 M a0 Post):Aa0 Tryz.prog 84 [a0.v] W0 M Post:=
 Aa3 rfl Aa9 Aa8 Tryz.func84 (cuts:=[]) rfl rfl (Nat.le_of_ble_eq_true rfl) (Eq.mpr (by kernel_rfl) h)
def Cb9 (W0:PW) (M:Nat→Prop) (a0_0:Sl) (a1:Sl) (Post:Value→PW→Prop):Prop:=
 Aa1 Tryz.prog W0 M 82 [.agg ⟨[a0_0.v]⟩,a1.v] W0 fun v1 W2=>
 ∃b3:Bool,
 v1 = .bool b3∧
 ((!b3)=true→
 ∀(W4:PW),Ext W2 W4→Post (.tuple ⟨[.agg ⟨[.slice none 0 0,.bool false,.slice none 0 0,.slice none 0 0,.bool false,.slice none 0 0]⟩,.bool false]⟩) W4)∧
 ((!b3)=false→
 Aa1 Tryz.prog W0 M 84 [a1.v] W2 fun v5 W6=>
 ∃s7:Sl,
 ∃b8:Bool,
 ∃s9:Sl,
 ∃s10:Sl,
 ∃b11:Bool,
 ∃s12:Sl,
 ∃s13:Sl,
 ∃b14:Bool,
 ∃s15:Sl,
 ∃s16:Sl,
 ∃b17:Bool,
 ∃s18:Sl,
 ∃s19:Sl,
 ∃b20:Bool,
 ∃s21:Sl,
 ∃s22:Sl,
 ∃b23:Bool,
 ∃s24:Sl,
 v5 = .agg ⟨[s7.v,.bool b8,s9.v,s10.v,.bool b11,s12.v,s13.v,.bool b14,s15.v,s16.v,.bool b17,s18.v,s19.v,.bool b20,s21.v,s22.v,.bool b23,s24.v]⟩∧
 Aa1 Tryz.prog W0 M 83
 [.agg ⟨[a0_0.v]⟩,
 .agg ⟨[s7.v,.bool b8,s9.v,s10.v,.bool b11,s12.v,s13.v,.bool b14,s15.v,s16.v,.bool b17,s18.v,s19.v,.bool b20,s21.v,s22.v,.bool b23,s24.v]⟩]
 W6 fun v25 W26=>
 ∃s27:Sl,
 ∃b28:Bool,
 ∃s29:Sl,
 ∃s30:Sl,
 ∃b31:Bool,
 ∃s32:Sl,
 v25 = .agg ⟨[s27.v,.bool b28,s29.v,s30.v,.bool b31,s32.v]⟩∧
 ∀(W33:PW),Ext W26 W33→Post (.tuple ⟨[.agg ⟨[s27.v,.bool b28,s29.v,s30.v,.bool b31,s32.v]⟩,.bool true]⟩) W33)
theorem Bh7 (W0:PW) (M:Nat→Prop) (a0_0:Sl) (a1:Sl) (Post:Value→PW→Prop) (h:Cb9 W0 M a0_0 a1 Post):Aa0 Tryz.prog 41 [.agg #[a0_0.v],a1.v] W0 M Post:=
 Aa3 rfl Aa9 Aa8 Tryz.func41 (cuts:=[]) rfl rfl (Nat.le_of_ble_eq_true rfl) (Eq.mpr (by kernel_rfl) h)
def Km2 (W0:PW) (M:Nat→Prop) (a0:Sl) (a1:Sl) (a2:Sl) (a3_0:Sl) (a3_1:Bool) (a3_2:Sl) (Post:Value→PW→Prop):Prop:=
 Aa1 Tryz.prog W0 M 27 [a0.v] W0 fun v1 W2=>
 ∃b3:Bool,
 v1 = .bool b3∧
 (b3=true→
 Aa1 Tryz.prog W0 M 79 [a1.v] W2 fun v4 W5=>
 ∃b6:Bool,
 v4 = .bool b6∧
 (b6=true→
 Aa1 Tryz.prog W0 M 79 [a2.v] W5 fun v7 W8=>
 ∃b9:Bool,
 v7 = .bool b9∧
 (b9=true→
 ((a1.2:Int)=(a0.2:Int)→
 ((a2.2:Int)=(a0.2:Int)→
 Aa1 Tryz.prog W0 M 7 [.agg ⟨[a3_0.v,.bool a3_1,a3_2.v]⟩] W8 fun v10 W11=>∃i12:Int,v10 = .int .i64 i12∧∀(W13:PW),Ext W11 W13→Post (.bool (decide (0<i12))) W13)∧
 (¬(a2.2:Int)=(a0.2:Int)→∀(W14:PW),Ext W8 W14→Post (.bool false) W14))∧
 (¬(a1.2:Int)=(a0.2:Int)→∀(W15:PW),Ext W8 W15→Post (.bool false) W15))∧
 (b9=false→∀(W16:PW),Ext W8 W16→Post (.bool false) W16))∧
 (b6=false→∀(W17:PW),Ext W5 W17→Post (.bool false) W17))∧
 (b3=false→∀(W18:PW),Ext W2 W18→Post (.bool false) W18)
theorem Kg2 (W0:PW) (M:Nat→Prop) (a0:Sl) (a1:Sl) (a2:Sl) (a3_0:Sl) (a3_1:Bool) (a3_2:Sl) (Post:Value→PW→Prop) (h:Km2 W0 M a0 a1 a2 a3_0 a3_1 a3_2 Post):Aa0 Tryz.prog 39 [a0.v,a1.v,a2.v,.agg #[a3_0.v,.bool a3_1,a3_2.v]] W0 M Post:=
 Aa3 rfl Aa9 Aa8 Tryz.func39 (cuts:=[]) rfl rfl (Nat.le_of_ble_eq_true rfl) (Eq.mpr (by kernel_rfl) h)
def Km4 (W0:PW) (M:Nat→Prop) (a0:Sl) (a1:Sl) (a2:Sl) (a3_0:Sl) (a3_1:Bool) (a3_2:Sl) (Post:Value→PW→Prop):Prop:=
 Aa1 Tryz.prog W0 M 39 [a0.v,a1.v,a2.v,.agg ⟨[a3_0.v,.bool a3_1,a3_2.v]⟩] W0 fun v1 W2=>
 ∃b3:Bool,
 v1 = .bool b3∧
 ((!b3)=true→∀(W4:PW),Ext W2 W4→Post (.bool false) W4)∧
 ((!b3)=false→
 ∃(F5:List PL→PW→Prop),
 ∃(F6:List PL→PW→Nat),
 F5 [.val (.int .i64 0)] W2∧
 ∀(i7:Int) (W8:PW),
 F5 [.val (.int .i64 i7)] W8→
 (i7<(a0.2:Int)→
 inB a0 i7∧
 ∃s9:Sl,
 Aa7 W8 a0 1 (Int.toNat i7) 0 [s9.v]∧
 Aa1 Tryz.prog W0 M 41 [.agg ⟨[s9.v]⟩,a2.v] W8 fun v10 W11=>
 ∃s12:Sl,
 ∃b13:Bool,
 ∃s14:Sl,
 ∃s15:Sl,
 ∃b16:Bool,
 ∃s17:Sl,
 ∃b18:Bool,
 v10 = .tuple ⟨[.agg ⟨[s12.v,.bool b13,s14.v,s15.v,.bool b16,s17.v]⟩,.bool b18]⟩∧
 Aa1 Tryz.prog W0 M 45
 [.agg ⟨[.slice none 0 0,.bool false,.slice none 0 0,a3_0.v,.bool a3_1,a3_2.v]⟩,.agg ⟨[s12.v,.bool b13,s14.v,s15.v,.bool b16,s17.v]⟩] W11
 fun v19 W20=>
 ∃s21:Sl,
 ∃b22:Bool,
 ∃s23:Sl,
 ∃s24:Sl,
 ∃b25:Bool,
 ∃s26:Sl,
 v19 = .agg ⟨[s21.v,.bool b22,s23.v,s24.v,.bool b25,s26.v]⟩∧
 ((!b18)=true→Ext W20 W20∧∀(W27:PW),Ext W20 W27→Post (.bool false) W27)∧
 ((!b18)=false→
 inB a1 i7∧
 ∃s28:Sl,
 ∃b29:Bool,
 ∃s30:Sl,
 ∃s31:Sl,
 ∃b32:Bool,
 ∃s33:Sl,
 Aa7 W20 a1 6 (Int.toNat i7) 0 [s28.v,.bool b29,s30.v,s31.v,.bool b32,s33.v]∧
 inB a2 i7∧
 ∃s34:Sl,
 ∃b35:Bool,
 ∃s36:Sl,
 ∃s37:Sl,
 ∃b38:Bool,
 ∃s39:Sl,
 Aa7 W20 a2 6 (Int.toNat i7) 0 [s34.v,.bool b35,s36.v,s37.v,.bool b38,s39.v]∧
 Aa1 Tryz.prog W0 M 42
 [.agg ⟨[s28.v,.bool b29,s30.v,s31.v,.bool b32,s33.v]⟩,.agg ⟨[s21.v,.bool b22,s23.v,s24.v,.bool b25,s26.v]⟩] W20
 fun v40 W41=>
 ∃s42:Sl,
 ∃b43:Bool,
 ∃s44:Sl,
 ∃s45:Sl,
 ∃b46:Bool,
 ∃s47:Sl,
 v40 = .agg ⟨[s42.v,.bool b43,s44.v,s45.v,.bool b46,s47.v]⟩∧
 Ext W20 W41∧
 Aa1 Tryz.prog W0 M 46
 [.agg ⟨[s42.v,.bool b43,s44.v,s45.v,.bool b46,s47.v]⟩,.agg ⟨[s34.v,.bool b35,s36.v,s37.v,.bool b38,s39.v]⟩] W41
 fun v48 W49=>
 ∃b50:Bool,
 v48 = .bool b50∧
 ((!b50)=true→∀(W51:PW),Ext W49 W51→Post (.bool false) W51)∧
 ((!b50)=false→I64 (i7+1)∧stp F5 F6 [.val (.int .i64 (i7+1))] W49 [.val (.int .i64 i7)] W8)))∧
 (¬i7<(a0.2:Int)→∀(W52:PW),Ext W8 W52→Post (.bool true) W52))
theorem Kf7 (W0:PW) (M:Nat→Prop) (a0:Sl) (a1:Sl) (a2:Sl) (a3_0:Sl) (a3_1:Bool) (a3_2:Sl) (Post:Value→PW→Prop) (h:Km4 W0 M a0 a1 a2 a3_0 a3_1 a3_2 Post):Aa0 Tryz.prog 15 [a0.v,a1.v,a2.v,.agg #[a3_0.v,.bool a3_1,a3_2.v]] W0 M Post:=
 Aa3 rfl Aa9 Aa8 Tryz.func15 (cuts:=[]) rfl rfl (Nat.le_of_ble_eq_true rfl) (Eq.mpr (by kernel_rfl) h)
def Kn4 (W0:PW) (M:Nat→Prop) (a0:Sl) (a1:Sl) (a2:Sl) (a3_0:Sl) (a3_1:Bool) (a3_2:Sl) (a4:Int) (Post:Value→PW→Prop):Prop:=
 Aa1 Tryz.prog W0 M 39 [a0.v,a1.v,a2.v,.agg ⟨[a3_0.v,.bool a3_1,a3_2.v]⟩] W0 fun v1 W2=>
 ∃b3:Bool,
 v1 = .bool b3∧
 ((!b3)=true→∀(W4:PW),Ext W2 W4→Post (.tuple ⟨[.slice none 0 0,.bool false]⟩) W4)∧
 ((!b3)=false→
 (a4<1→∀(W5:PW),Ext W2 W5→Post (.tuple ⟨[.slice none 0 0,.bool false]⟩) W5)∧
 (¬a4<1→
 (4<a4→∀(W6:PW),Ext W2 W6→Post (.tuple ⟨[.slice none 0 0,.bool false]⟩) W6)∧
 (¬4<a4→
 ((a0.2:Int)=(a0.2:Int)∧0≤(a0.2:Int)∧(a0.2:Int)*(↑(112:Nat):Int)≤281474976710656)∧
 Aa1 Tryz.prog W0 M 23 [.int .i64 1] W2 fun v7 W8=>
 ∃s9:Sl,
 ∃b10:Bool,
 ∃s11:Sl,
 v7 = .agg ⟨[s9.v,.bool b10,s11.v]⟩∧
 I64 (a4+1)∧
 ∃(F12:List PL→PW→Prop),
 ∃(F13:List PL→PW→Nat),
 F12
 [.val (.int .i64 0),.cells [s9.v,.bool b10,s11.v],
 .row (List.replicate (Int.toNat (a0.2:Int)) [.slice none 0 0,.bool false,.slice none 0 0,.slice none 0 0,.bool false,.slice none 0 0])]
 W8∧
 ∀(s14:Sl) (b15:Bool) (s16:Sl) (l17:List (List Value)) (i18:Int) (W19:PW),
 F12 [.val (.int .i64 i18),.cells [s14.v,.bool b15,s16.v],.row l17] W19→
 (i18<a4+1→
 Aa1 Tryz.prog W0 M 21 [a0.v,.int .i64 i18] W19 fun v20 W21=>
 ∃s22:Sl,
 ∃b23:Bool,
 v20 = .tuple ⟨[s22.v,.bool b23]⟩∧
 ((!b23)=true→∀(W24:PW),Ext W21 W24→Post (.tuple ⟨[.slice none 0 0,.bool false]⟩) W24)∧
 ((!b23)=false→
 (0<i18→
 Aa1 Tryz.prog W0 M 11 [.agg ⟨[s14.v,.bool b15,s16.v]⟩,.agg ⟨[a3_0.v,.bool a3_1,a3_2.v]⟩] W21 fun v25 W26=>
 ∃s27:Sl,
 ∃b28:Bool,
 ∃s29:Sl,
 v25 = .agg ⟨[s27.v,.bool b28,s29.v]⟩∧
 Aa1 Tryz.prog W0 M 23 [.int .i64 i18] W26 fun v30 W31=>
 ∃s32:Sl,
 ∃b33:Bool,
 ∃s34:Sl,
 v30 = .agg ⟨[s32.v,.bool b33,s34.v]⟩∧
 Aa1 Tryz.prog W0 M 40 [.agg ⟨[s27.v,.bool b28,s29.v]⟩,.agg ⟨[s32.v,.bool b33,s34.v]⟩] W31 fun v35 W36=>
 ∃s37:Sl,
 ∃b38:Bool,
 ∃s39:Sl,
 ∃b40:Bool,
 v35 = .tuple ⟨[.agg ⟨[s37.v,.bool b38,s39.v]⟩,.bool b40]⟩∧
 (i18=a4→
 ∃(F41:List PL→PW→Prop),
 ∃(F42:List PL→PW→Nat),
 F41 [.val (.int .i64 0),.row l17] W36∧
 ∀(l43:List (List Value)) (i44:Int) (W45:PW),
 F41 [.val (.int .i64 i44),.row l43] W45→
 (i44<(s22.2:Int)→
 inB s22 i44∧
 ∃s46:Sl,
 Aa7 W45 s22 1 (Int.toNat i44) 0 [s46.v]∧
 Aa1 Tryz.prog W0 M 41 [.agg ⟨[s46.v]⟩,a2.v] W45 fun v47 W48=>
 ∃s49:Sl,
 ∃b50:Bool,
 ∃s51:Sl,
 ∃s52:Sl,
 ∃b53:Bool,
 ∃s54:Sl,
 ∃b55:Bool,
 v47 = .tuple ⟨[.agg ⟨[s49.v,.bool b50,s51.v,s52.v,.bool b53,s54.v]⟩,.bool b55]⟩∧
 (0≤i44∧i44<(↑(List.length l43):Int))∧
 ∃s56:Sl,
 ∃b57:Bool,
 ∃s58:Sl,
 ∃s59:Sl,
 ∃b60:Bool,
 ∃s61:Sl,
 Ck3 l43 (Int.toNat i44) 0 [s56.v,.bool b57,s58.v,s59.v,.bool b60,s61.v]∧
 Aa1 Tryz.prog W0 M 43
 [.agg ⟨[s49.v,.bool b50,s51.v,s52.v,.bool b53,s54.v]⟩,.agg ⟨[s37.v,.bool b38,s39.v]⟩] W48
 fun v62 W63=>
 ∃s64:Sl,
 ∃b65:Bool,
 ∃s66:Sl,
 ∃s67:Sl,
 ∃b68:Bool,
 ∃s69:Sl,
 v62 = .agg ⟨[s64.v,.bool b65,s66.v,s67.v,.bool b68,s69.v]⟩∧
 Aa1 Tryz.prog W0 M 42
 [.agg ⟨[s56.v,.bool b57,s58.v,s59.v,.bool b60,s61.v]⟩,
 .agg ⟨[s64.v,.bool b65,s66.v,s67.v,.bool b68,s69.v]⟩]
 W63 fun v70 W71=>
 ∃s72:Sl,
 ∃b73:Bool,
 ∃s74:Sl,
 ∃s75:Sl,
 ∃b76:Bool,
 ∃s77:Sl,
 v70 = .agg ⟨[s72.v,.bool b73,s74.v,s75.v,.bool b76,s77.v]⟩∧
 (0≤i44∧i44<(↑(List.length l43):Int))∧
 Int.toNat i44<List.length l43∧
 I64 (i44+1)∧
 stp F41 F42
 [.val (.int .i64 (i44+1)),
 .row (List.set l43 (Int.toNat i44) [s72.v,.bool b73,s74.v,s75.v,.bool b76,s77.v])]
 W71 [.val (.int .i64 i44),.row l43] W45)∧
 (¬i44<(s22.2:Int)→
 I64 (i18+1)∧
 stp F12 F13 [.val (.int .i64 (i18+1)),.cells [s37.v,.bool b38,s39.v],.row l43] W45
 [.val (.int .i64 i18),.cells [s14.v,.bool b15,s16.v],.row l17] W19))∧
 (¬i18=a4→
 ∃(F78:List PL→PW→Prop),
 ∃(F79:List PL→PW→Nat),
 F78 [.val (.int .i64 0),.row l17] W36∧
 ∀(l80:List (List Value)) (i81:Int) (W82:PW),
 F78 [.val (.int .i64 i81),.row l80] W82→
 (i81<(s22.2:Int)→
 inB s22 i81∧
 ∃s83:Sl,
 Aa7 W82 s22 1 (Int.toNat i81) 0 [s83.v]∧
 Aa1 Tryz.prog W0 M 41 [.agg ⟨[s83.v]⟩,a1.v] W82 fun v84 W85=>
 ∃s86:Sl,
 ∃b87:Bool,
 ∃s88:Sl,
 ∃s89:Sl,
 ∃b90:Bool,
 ∃s91:Sl,
 ∃b92:Bool,
 v84 = .tuple ⟨[.agg ⟨[s86.v,.bool b87,s88.v,s89.v,.bool b90,s91.v]⟩,.bool b92]⟩∧
 (0≤i81∧i81<(↑(List.length l80):Int))∧
 ∃s93:Sl,
 ∃b94:Bool,
 ∃s95:Sl,
 ∃s96:Sl,
 ∃b97:Bool,
 ∃s98:Sl,
 Ck3 l80 (Int.toNat i81) 0 [s93.v,.bool b94,s95.v,s96.v,.bool b97,s98.v]∧
 Aa1 Tryz.prog W0 M 43
 [.agg ⟨[s86.v,.bool b87,s88.v,s89.v,.bool b90,s91.v]⟩,.agg ⟨[s37.v,.bool b38,s39.v]⟩] W85
 fun v99 W100=>
 ∃s101:Sl,
 ∃b102:Bool,
 ∃s103:Sl,
 ∃s104:Sl,
 ∃b105:Bool,
 ∃s106:Sl,
 v99 = .agg ⟨[s101.v,.bool b102,s103.v,s104.v,.bool b105,s106.v]⟩∧
 Aa1 Tryz.prog W0 M 42
 [.agg ⟨[s93.v,.bool b94,s95.v,s96.v,.bool b97,s98.v]⟩,
 .agg ⟨[s101.v,.bool b102,s103.v,s104.v,.bool b105,s106.v]⟩]
 W100 fun v107 W108=>
 ∃s109:Sl,
 ∃b110:Bool,
 ∃s111:Sl,
 ∃s112:Sl,
 ∃b113:Bool,
 ∃s114:Sl,
 v107 = .agg ⟨[s109.v,.bool b110,s111.v,s112.v,.bool b113,s114.v]⟩∧
 (0≤i81∧i81<(↑(List.length l80):Int))∧
 Int.toNat i81<List.length l80∧
 I64 (i81+1)∧
 stp F78 F79
 [.val (.int .i64 (i81+1)),
 .row (List.set l80 (Int.toNat i81) [s109.v,.bool b110,s111.v,s112.v,.bool b113,s114.v])]
 W108 [.val (.int .i64 i81),.row l80] W82)∧
 (¬i81<(s22.2:Int)→
 I64 (i18+1)∧
 stp F12 F13 [.val (.int .i64 (i18+1)),.cells [s37.v,.bool b38,s39.v],.row l80] W82
 [.val (.int .i64 i18),.cells [s14.v,.bool b15,s16.v],.row l17] W19)))∧
 (¬0<i18→
 (i18=a4→
 ∃(F115:List PL→PW→Prop),
 ∃(F116:List PL→PW→Nat),
 F115 [.val (.int .i64 0),.row l17] W21∧
 ∀(l117:List (List Value)) (i118:Int) (W119:PW),
 F115 [.val (.int .i64 i118),.row l117] W119→
 (i118<(s22.2:Int)→
 inB s22 i118∧
 ∃s120:Sl,
 Aa7 W119 s22 1 (Int.toNat i118) 0 [s120.v]∧
 Aa1 Tryz.prog W0 M 41 [.agg ⟨[s120.v]⟩,a2.v] W119 fun v121 W122=>
 ∃s123:Sl,
 ∃b124:Bool,
 ∃s125:Sl,
 ∃s126:Sl,
 ∃b127:Bool,
 ∃s128:Sl,
 ∃b129:Bool,
 v121 = .tuple ⟨[.agg ⟨[s123.v,.bool b124,s125.v,s126.v,.bool b127,s128.v]⟩,.bool b129]⟩∧
 (0≤i118∧i118<(↑(List.length l117):Int))∧
 ∃s130:Sl,
 ∃b131:Bool,
 ∃s132:Sl,
 ∃s133:Sl,
 ∃b134:Bool,
 ∃s135:Sl,
 Ck3 l117 (Int.toNat i118) 0 [s130.v,.bool b131,s132.v,s133.v,.bool b134,s135.v]∧
 Aa1 Tryz.prog W0 M 43 [.agg ⟨[s123.v,.bool b124,s125.v,s126.v,.bool b127,s128.v]⟩,.agg ⟨[s14.v,.bool b15,s16.v]⟩] W122
 fun v136 W137=>
 ∃s138:Sl,
 ∃b139:Bool,
 ∃s140:Sl,
 ∃s141:Sl,
 ∃b142:Bool,
 ∃s143:Sl,
 v136 = .agg ⟨[s138.v,.bool b139,s140.v,s141.v,.bool b142,s143.v]⟩∧
 Aa1 Tryz.prog W0 M 42
 [.agg ⟨[s130.v,.bool b131,s132.v,s133.v,.bool b134,s135.v]⟩,
 .agg ⟨[s138.v,.bool b139,s140.v,s141.v,.bool b142,s143.v]⟩]
 W137 fun v144 W145=>
 ∃s146:Sl,
 ∃b147:Bool,
 ∃s148:Sl,
 ∃s149:Sl,
 ∃b150:Bool,
 ∃s151:Sl,
 v144 = .agg ⟨[s146.v,.bool b147,s148.v,s149.v,.bool b150,s151.v]⟩∧
 (0≤i118∧i118<(↑(List.length l117):Int))∧
 Int.toNat i118<List.length l117∧
 I64 (i118+1)∧
 stp F115 F116 [.val (.int .i64 (i118+1)),.row (List.set l117 (Int.toNat i118) [s146.v,.bool b147,s148.v,s149.v,.bool b150,s151.v])]
 W145 [.val (.int .i64 i118),.row l117] W119)∧
 (¬i118<(s22.2:Int)→
 I64 (i18+1)∧
 stp F12 F13 [.val (.int .i64 (i18+1)),.cells [s14.v,.bool b15,s16.v],.row l117] W119 [.val (.int .i64 i18),.cells [s14.v,.bool b15,s16.v],.row l17] W19))∧
 (¬i18=a4→
 ∃(F152:List PL→PW→Prop),
 ∃(F153:List PL→PW→Nat),
 F152 [.val (.int .i64 0),.row l17] W21∧
 ∀(l154:List (List Value)) (i155:Int) (W156:PW),
 F152 [.val (.int .i64 i155),.row l154] W156→
 (i155<(s22.2:Int)→
 inB s22 i155∧
 ∃s157:Sl,
 Aa7 W156 s22 1 (Int.toNat i155) 0 [s157.v]∧
 Aa1 Tryz.prog W0 M 41 [.agg ⟨[s157.v]⟩,a1.v] W156 fun v158 W159=>
 ∃s160:Sl,
 ∃b161:Bool,
 ∃s162:Sl,
 ∃s163:Sl,
 ∃b164:Bool,
 ∃s165:Sl,
 ∃b166:Bool,
 v158 = .tuple ⟨[.agg ⟨[s160.v,.bool b161,s162.v,s163.v,.bool b164,s165.v]⟩,.bool b166]⟩∧
 (0≤i155∧i155<(↑(List.length l154):Int))∧
 ∃s167:Sl,
 ∃b168:Bool,
 ∃s169:Sl,
 ∃s170:Sl,
 ∃b171:Bool,
 ∃s172:Sl,
 Ck3 l154 (Int.toNat i155) 0 [s167.v,.bool b168,s169.v,s170.v,.bool b171,s172.v]∧
 Aa1 Tryz.prog W0 M 43 [.agg ⟨[s160.v,.bool b161,s162.v,s163.v,.bool b164,s165.v]⟩,.agg ⟨[s14.v,.bool b15,s16.v]⟩] W159
 fun v173 W174=>
 ∃s175:Sl,
 ∃b176:Bool,
 ∃s177:Sl,
 ∃s178:Sl,
 ∃b179:Bool,
 ∃s180:Sl,
 v173 = .agg ⟨[s175.v,.bool b176,s177.v,s178.v,.bool b179,s180.v]⟩∧
 Aa1 Tryz.prog W0 M 42
 [.agg ⟨[s167.v,.bool b168,s169.v,s170.v,.bool b171,s172.v]⟩,
 .agg ⟨[s175.v,.bool b176,s177.v,s178.v,.bool b179,s180.v]⟩]
 W174 fun v181 W182=>
 ∃s183:Sl,
 ∃b184:Bool,
 ∃s185:Sl,
 ∃s186:Sl,
 ∃b187:Bool,
 ∃s188:Sl,
 v181 = .agg ⟨[s183.v,.bool b184,s185.v,s186.v,.bool b187,s188.v]⟩∧
 (0≤i155∧i155<(↑(List.length l154):Int))∧
 Int.toNat i155<List.length l154∧
 I64 (i155+1)∧
 stp F152 F153 [.val (.int .i64 (i155+1)),.row (List.set l154 (Int.toNat i155) [s183.v,.bool b184,s185.v,s186.v,.bool b187,s188.v])]
 W182 [.val (.int .i64 i155),.row l154] W156)∧
 (¬i155<(s22.2:Int)→
 I64 (i18+1)∧
 stp F12 F13 [.val (.int .i64 (i18+1)),.cells [s14.v,.bool b15,s16.v],.row l154] W156 [.val (.int .i64 i18),.cells [s14.v,.bool b15,s16.v],.row l17] W19)))))∧
 (¬i18<a4+1→∀(s189:Sl) (W190:PW),Ext W19 W190→SX.Own W190 50 6 s189 l17→Fr W0 W19 s189→∀(W191:PW),Ext W190 W191→Post (.tuple ⟨[s189.v,.bool true]⟩) W191))))
theorem Kh3 (W0:PW) (M:Nat→Prop) (a0:Sl) (a1:Sl) (a2:Sl) (a3_0:Sl) (a3_1:Bool) (a3_2:Sl) (a4:Int) (Post:Value→PW→Prop) (h:Kn4 W0 M a0 a1 a2 a3_0 a3_1 a3_2 a4 Post):Aa0 Tryz.prog 13 [a0.v,a1.v,a2.v,.agg #[a3_0.v,.bool a3_1,a3_2.v],.int .i64 a4] W0 M Post:=
 Aa3 rfl Aa9 Aa8 Tryz.func13 (cuts:=[]) rfl rfl (Nat.le_of_ble_eq_true rfl) (Eq.mpr (by kernel_rfl) h)
def Lh9 (W0:PW) (M:Nat→Prop) (a0:Sl) (a1:Sl) (Post:Value→PW→Prop):Prop:=
 Aa1 Tryz.prog W0 M 37 [a0.v,a1.v] W0 fun v1 W2=>
 ∃b3:Bool,
 v1 = .bool b3∧
 ((!b3)=true→∀(W4:PW),Ext W2 W4→Post (.tuple ⟨[.slice none 0 0,.bool false]⟩) W4)∧
 ((!b3)=false→
 ∃(F5:List PL→PW→Prop),
 ∃(F6:List PL→PW→Nat),
 F5 [.row [],.val (.int .i64 0)] W2∧
 ∀(l7:List (List Value)) (i8:Int) (W9:PW),
 F5 [.row l7,.val (.int .i64 i8)] W9→
 (i8<(a0.2:Int)→
 inB a0 i8∧
 ∃s10:Sl,
 ∃b11:Bool,
 ∃s12:Sl,
 ∃s13:Sl,
 ∃b14:Bool,
 ∃s15:Sl,
 Aa7 W9 a0 6 (Int.toNat i8) 0 [s10.v,.bool b11,s12.v,s13.v,.bool b14,s15.v]∧
 inB a1 i8∧
 ∃s16:Sl,
 ∃b17:Bool,
 ∃s18:Sl,
 ∃s19:Sl,
 ∃b20:Bool,
 ∃s21:Sl,
 Aa7 W9 a1 6 (Int.toNat i8) 0 [s16.v,.bool b17,s18.v,s19.v,.bool b20,s21.v]∧
 Aa1 Tryz.prog W0 M 38 [.agg ⟨[s10.v,.bool b11,s12.v,s13.v,.bool b14,s15.v]⟩,.agg ⟨[s16.v,.bool b17,s18.v,s19.v,.bool b20,s21.v]⟩] W9
 fun v22 W23=>
 ∃s24:Sl,
 ∃b25:Bool,
 ∃s26:Sl,
 ∃s27:Sl,
 ∃b28:Bool,
 ∃s29:Sl,
 v22 = .agg ⟨[s24.v,.bool b25,s26.v,s27.v,.bool b28,s29.v]⟩∧
 (List.length l7+List.length [[s24.v,.bool b25,s26.v,s27.v,.bool b28,s29.v]])*112≤140737488355328∧
 I64 (i8+1)∧stp F5 F6 [.row (l7 ++ [[s24.v,.bool b25,s26.v,s27.v,.bool b28,s29.v]]),.val (.int .i64 (i8+1))] W23 [.row l7,.val (.int .i64 i8)] W9)∧
 (¬i8<(a0.2:Int)→∀(s30:Sl) (W31:PW),Ext W9 W31→SX.Own W31 50 6 s30 l7→Fr W0 W9 s30→∀(W32:PW),Ext W31 W32→Post (.tuple ⟨[s30.v,.bool true]⟩) W32))
theorem Le6 (W0:PW) (M:Nat→Prop) (a0:Sl) (a1:Sl) (Post:Value→PW→Prop) (h:Lh9 W0 M a0 a1 Post):Aa0 Tryz.prog 12 [a0.v,a1.v] W0 M Post:=
 Aa3 rfl Aa9 Aa8 Tryz.func12 (cuts:=[]) rfl rfl (Nat.le_of_ble_eq_true rfl) (Eq.mpr (by kernel_rfl) h)
def Li9 (W0:PW) (M:Nat→Prop) (a0:Sl) (a1:Sl) (Post:Value→PW→Prop):Prop:=
 ((a0.2:Int)=(a1.2:Int)→
 Aa1 Tryz.prog W0 M 79 [a0.v] W0 fun v1 W2=>
 ∃b3:Bool,v1 = .bool b3∧(b3=true→Aa1 Tryz.prog W0 M 79 [a1.v] W2 fun v4 W5=>∃b6:Bool,v4 = .bool b6∧∀(W7:PW),Ext W5 W7→Post (.bool b6) W7)∧(b3=false→∀(W8:PW),Ext W2 W8→Post (.bool false) W8))∧
 (¬(a0.2:Int)=(a1.2:Int)→∀(W9:PW),Ext W0 W9→Post (.bool false) W9)
theorem Lf1 (W0:PW) (M:Nat→Prop) (a0:Sl) (a1:Sl) (Post:Value→PW→Prop) (h:Li9 W0 M a0 a1 Post):Aa0 Tryz.prog 37 [a0.v,a1.v] W0 M Post:=
 Aa3 rfl Aa9 Aa8 Tryz.func37 (cuts:=[]) rfl rfl (Nat.le_of_ble_eq_true rfl) (Eq.mpr (by kernel_rfl) h)
end Go.Proofs.YtahohahjnhfedaaGreatDoor
