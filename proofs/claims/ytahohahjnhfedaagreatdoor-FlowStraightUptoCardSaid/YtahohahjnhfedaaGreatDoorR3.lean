/- R3 -/
import Derived.Test.YtahohahjnhfedaaGreatDoorTt
set_option linter.unusedVariables false
set_option linter.unusedSimpArgs false
set_option maxRecDepth 100000
namespace Go.Proofs.YtahohahjnhfedaaGreatDoor
open Go Go.SX
def Ds9 (W0:PW) (M:Nat→Prop) (a0:ByteArray) (Post:Value→PW→Prop):Prop:=
 ∃(F1:List PL→PW→Prop),
 ((a0=(ByteArray.mk #[])→∀(W2:PW),Ext W0 W2→Post (.tuple ⟨[.agg ⟨[.slice none 0 0]⟩,.int .i64 2]⟩) W2)∧
 (¬a0=(ByteArray.mk #[])→
 (4000<(↑(ByteArray.size a0):Int)→∀(W3:PW),Ext W0 W3→Post (.tuple ⟨[.agg ⟨[.slice none 0 0]⟩,.int .i64 2]⟩) W3)∧
 (¬4000<(↑(ByteArray.size a0):Int)→
 ((0:Int)≤0∧0<(↑(ByteArray.size a0):Int))∧
 (Ae2 a0 0=48→
 (1<(↑(ByteArray.size a0):Int)→∀(W4:PW),Ext W0 W4→Post (.tuple ⟨[.agg ⟨[.slice none 0 0]⟩,.int .i64 2]⟩) W4)∧(¬1<(↑(ByteArray.size a0):Int)→F1 [.cells [.slice none 0 0]] W0))∧
 (¬Ae2 a0 0=48→F1 [.cells [.slice none 0 0]] W0))))∧
 ∀(s5:Sl) (W6:PW),
 F1 [.cells [s5.v]] W6→
 ∃(F7:List PL→PW→Prop),
 ∃(F8:List PL→PW→Nat),
 F7 [.val (.slice none 0 0),.val (.int .i64 0),.cells [s5.v]] W6∧
 ∀(s9 s10:Sl) (i11:Int) (W12:PW),
 F7 [.val s10.v,.val (.int .i64 i11),.cells [s9.v]] W12→
 (i11<(↑(ByteArray.size a0):Int)→
 ∃(F13:List PL→PW→Prop),
 ((0≤i11∧i11<(↑(ByteArray.size a0):Int))∧
 (Ae2 a0 (Int.toNat i11)<48→∀(W14:PW),Ext W12 W14→Post (.tuple ⟨[.agg ⟨[.slice none 0 0]⟩,.int .i64 2]⟩) W14)∧
 (¬Ae2 a0 (Int.toNat i11)<48→
 (0≤i11∧i11<(↑(ByteArray.size a0):Int))∧
 (57<Ae2 a0 (Int.toNat i11)→∀(W15:PW),Ext W12 W15→Post (.tuple ⟨[.agg ⟨[.slice none 0 0]⟩,.int .i64 2]⟩) W15)∧
 (¬57<Ae2 a0 (Int.toNat i11)→F13 [.val (.string a0),.val (.int .i64 i11),.val (.bool false),.val (.string a0),.val (.int .i64 i11),.cells [s9.v]] W12)))∧
 ∀(s16:Sl) (t17:ByteArray) (i18:Int) (b19:Bool) (t20:ByteArray) (i21:Int) (W22:PW),
 F13 [.val (.string t17),.val (.int .i64 i18),.val (.bool b19),.val (.string t20),.val (.int .i64 i21),.cells [s16.v]] W22→
 (0≤i11∧i11<(↑(ByteArray.size a0):Int))∧
 Aa1 Tryz.prog W0 M 97 [s10.v,.int .u32 10,.int .u32 (IntKind.wrap .u32 (IntKind.wrap .u8 (Ae2 a0 (Int.toNat i11)-48)))] W22 fun v23 W24=>
 ∃s25:Sl,v23=s25.v∧I64 (i11+1)∧stp F7 F8 [.val s25.v,.val (.int .i64 (i11+1)),.cells [s16.v]] W24 [.val s10.v,.val (.int .i64 i11),.cells [s9.v]] W12)∧
 (¬i11<(↑(ByteArray.size a0):Int)→∀(W26:PW),Ext W12 W26→Post (.tuple ⟨[.agg ⟨[s10.v]⟩,.int .i64 0]⟩) W26)
theorem Ch1 (W0:PW) (M:Nat→Prop) (a0:ByteArray) (Post:Value→PW→Prop) (h:Ds9 W0 M a0 Post):Aa0 Tryz.prog 58 [.string a0] W0 M Post:=
 Aa3 rfl Aa9 Aa8 Tryz.func58 (cuts:=[3,9]) rfl rfl (Nat.le_of_ble_eq_true rfl) (Eq.mpr (by kernel_rfl) h)
def Cu7 (W0:PW) (M:Nat→Prop) (a0:ByteArray) (Post:Value→PW→Prop):Prop:=
 (a0≠(ByteArray.mk #[])→
 ((0:Int)≤0∧0<(↑(ByteArray.size a0):Int))∧
 ∃(F1:List PL→PW→Prop),
 ((Ae2 a0 0=45→((0:Int)≤1∧1≤(↑(ByteArray.size a0):Int)∧(↑(ByteArray.size a0):Int)≤(↑(ByteArray.size a0):Int))∧F1 [.val (.string (ByteArray.extract a0 1 (Int.toNat (↑(ByteArray.size a0):Int))))] W0)∧(¬Ae2 a0 0=45→F1 [.val (.string a0)] W0))∧
 ∀(t2:ByteArray) (W3:PW),
 F1 [.val (.string t2)] W3→
 Aa1 Tryz.prog W0 M 58 [.string t2] W3 fun v4 W5=>
 ∃s6:Sl,
 ∃i7:Int,
 v4 = .tuple ⟨[.agg ⟨[s6.v]⟩,.int .i64 i7]⟩∧
 ∃(F8:List PL→PW→Prop),
 ((i7≠0→∀(W9:PW),Ext W5 W9→Post (.tuple ⟨[.agg ⟨[.slice none 0 0,.bool false]⟩,.int .i64 2]⟩) W9)∧
 (¬i7≠0→
 (Ae2 a0 0=45→
 Aa1 Tryz.prog W0 M 59 [.agg ⟨[s6.v]⟩] W5 fun v10 W11=>
 ∃i12:Int,
 v10 = .int .i64 i12∧
 (i12=0→∀(W13:PW),Ext W11 W13→Post (.tuple ⟨[.agg ⟨[.slice none 0 0,.bool false]⟩,.int .i64 2]⟩) W13)∧
 (¬i12=0→F8 [.cells [.slice none 0 0,.bool false]] W11))∧
 (¬Ae2 a0 0=45→F8 [.cells [.slice none 0 0,.bool false]] W5)))∧
 ∀(s14:Sl) (b15:Bool) (W16:PW),
 F8 [.cells [s14.v,.bool b15]] W16→
 Aa1 Tryz.prog W0 M 73 [.bool (decide (Ae2 a0 0=45)),.agg ⟨[s6.v]⟩] W16 fun v17 W18=>
 ∃s19:Sl,∃b20:Bool,v17 = .agg ⟨[s19.v,.bool b20]⟩∧∀(W21:PW),Ext W18 W21→Post (.tuple ⟨[.agg ⟨[s19.v,.bool b20]⟩,.int .i64 0]⟩) W21)∧
 (¬a0≠(ByteArray.mk #[])→
 ∃(F22:List PL→PW→Prop),
 F22 [.val (.string a0)] W0∧
 ∀(t23:ByteArray) (W24:PW),
 F22 [.val (.string t23)] W24→
 Aa1 Tryz.prog W0 M 58 [.string t23] W24 fun v25 W26=>
 ∃s27:Sl,
 ∃i28:Int,
 v25 = .tuple ⟨[.agg ⟨[s27.v]⟩,.int .i64 i28]⟩∧
 ∃(F29:List PL→PW→Prop),
 ((i28≠0→∀(W30:PW),Ext W26 W30→Post (.tuple ⟨[.agg ⟨[.slice none 0 0,.bool false]⟩,.int .i64 2]⟩) W30)∧(¬i28≠0→F29 [.cells [.slice none 0 0,.bool false]] W26))∧
 ∀(s31:Sl) (b32:Bool) (W33:PW),
 F29 [.cells [s31.v,.bool b32]] W33→
 Aa1 Tryz.prog W0 M 73 [.bool false,.agg ⟨[s27.v]⟩] W33 fun v34 W35=>
 ∃s36:Sl,∃b37:Bool,v34 = .agg ⟨[s36.v,.bool b37]⟩∧∀(W38:PW),Ext W35 W38→Post (.tuple ⟨[.agg ⟨[s36.v,.bool b37]⟩,.int .i64 0]⟩) W38)
theorem Bq5 (W0:PW) (M:Nat→Prop) (a0:ByteArray) (Post:Value→PW→Prop) (h:Cu7 W0 M a0 Post):Aa0 Tryz.prog 57 [.string a0] W0 M Post:=
 Aa3 rfl Aa9 Aa8 Tryz.func57 (cuts:=[4,7]) rfl rfl (Nat.le_of_ble_eq_true rfl) (Eq.mpr (by kernel_rfl) h)
def Dw6 (W0:PW) (M:Nat→Prop) (a0:ByteArray) (Post:Value→PW→Prop):Prop:=
 Aa1 Tryz.prog W0 M 56 [.string a0,.string (ByteArray.mk #[47])] W0 fun v1 W2=>
 ∃t3:ByteArray,
 ∃t4:ByteArray,
 ∃b5:Bool,
 v1 = .tuple ⟨[.string t3,.string t4,.bool b5]⟩∧
 Aa1 Tryz.prog W0 M 57 [.string t3] W2 fun v6 W7=>
 ∃s8:Sl,
 ∃b9:Bool,
 ∃i10:Int,
 v6 = .tuple ⟨[.agg ⟨[s8.v,.bool b9]⟩,.int .i64 i10]⟩∧
 ∃(F11:List PL→PW→Prop),
 ((i10≠0→∀(W12:PW),Ext W7 W12→Post (.tuple ⟨[.agg ⟨[s8.v,.bool b9,.slice none 0 0]⟩,.int .i64 i10]⟩) W12)∧
 (¬i10≠0→
 ((!b5)=true→∀(W13:PW),Ext W7 W13→Post (.tuple ⟨[.agg ⟨[s8.v,.bool b9,.slice none 0 0]⟩,.int .i64 i10]⟩) W13)∧
 ((!b5)=false→F11 [.cells [.slice none 0 0,.bool false,.slice none 0 0]] W7)))∧
 ∀(s14:Sl) (b15:Bool) (s16:Sl) (W17:PW),
 F11 [.cells [s14.v,.bool b15,s16.v]] W17→
 Aa1 Tryz.prog W0 M 58 [.string t4] W17 fun v18 W19=>
 ∃s20:Sl,
 ∃i21:Int,
 v18 = .tuple ⟨[.agg ⟨[s20.v]⟩,.int .i64 i21]⟩∧
 ∃(F22:List PL→PW→Prop),
 ((i21≠0→∀(W23:PW),Ext W19 W23→Post (.tuple ⟨[.agg ⟨[.slice none 0 0,.bool false,.slice none 0 0]⟩,.int .i64 2]⟩) W23)∧
 (¬i21≠0→
 Aa1 Tryz.prog W0 M 59 [.agg ⟨[s20.v]⟩] W19 fun v24 W25=>
 ∃i26:Int,
 v24 = .int .i64 i26∧
 (i26<2→∀(W27:PW),Ext W25 W27→Post (.tuple ⟨[.agg ⟨[.slice none 0 0,.bool false,.slice none 0 0]⟩,.int .i64 2]⟩) W27)∧
 (¬i26<2→
 Aa1 Tryz.prog W0 M 61 [.agg ⟨[s8.v,.bool b9]⟩] W25 fun v28 W29=>
 ∃s30:Sl,
 v28 = .agg ⟨[s30.v]⟩∧
 Aa1 Tryz.prog W0 M 60 [.agg ⟨[s20.v]⟩,.agg ⟨[s30.v]⟩] W29 fun v31 W32=>
 ∃s33:Sl,
 v31 = .agg ⟨[s33.v]⟩∧
 Aa1 Tryz.prog W0 M 59 [.agg ⟨[s33.v]⟩] W32 fun v34 W35=>
 ∃i36:Int,
 v34 = .int .i64 i36∧
 (1<i36→∀(W37:PW),Ext W35 W37→Post (.tuple ⟨[.agg ⟨[.slice none 0 0,.bool false,.slice none 0 0]⟩,.int .i64 2]⟩) W37)∧
 (¬1<i36→F22 [.cells [s14.v,.bool b15,s16.v]] W35))))∧
 ∀(s38:Sl) (b39:Bool) (s40:Sl) (W41:PW),F22 [.cells [s38.v,.bool b39,s40.v]] W41→∀(W42:PW),Ext W41 W42→Post (.tuple ⟨[.agg ⟨[s8.v,.bool b9,s20.v]⟩,.int .i64 0]⟩) W42
theorem Cm5 (W0:PW) (M:Nat→Prop) (a0:ByteArray) (Post:Value→PW→Prop) (h:Dw6 W0 M a0 Post):Aa0 Tryz.prog 20 [.string a0] W0 M Post:=
 Aa3 rfl Aa9 Aa8 Tryz.func20 (cuts:=[5,8]) rfl rfl (Nat.le_of_ble_eq_true rfl) (Eq.mpr (by kernel_rfl) h)
def Da0 (W0:PW) (M:Nat→Prop) (a0:ByteArray) (a1:ByteArray) (Post:Value→PW→Prop):Prop:=
 Aa1 Tryz.prog W0 M 96 [.string a0,.string a1] W0 fun v1 W2=>
 ∃t3:ByteArray,∃t4:ByteArray,∃b5:Bool,v1 = .tuple ⟨[.string t3,.string t4,.bool b5]⟩∧∀(W6:PW),Ext W2 W6→Post (.tuple ⟨[.string t3,.string t4,.bool b5]⟩) W6
theorem Bp4 (W0:PW) (M:Nat→Prop) (a0:ByteArray) (a1:ByteArray) (Post:Value→PW→Prop) (h:Da0 W0 M a0 a1 Post):Aa0 Tryz.prog 56 [.string a0,.string a1] W0 M Post:=
 Aa3 rfl Aa9 Aa8 Tryz.func56 (cuts:=[]) rfl rfl (Nat.le_of_ble_eq_true rfl) (Eq.mpr (by kernel_rfl) h)
def Ar4 (W0:PW) (M:Nat→Prop) (a0:ByteArray) (a1:ByteArray) (Post:Value→PW→Prop):Prop:=
 Aa1 Tryz.prog W0 M 132 [.string a0,.string a1] W0 fun v1 W2=>
 ∃i3:Int,
 v1 = .int .i64 i3∧
 (0≤i3→
 ((0:Int)≤0∧0≤i3∧i3≤(↑(ByteArray.size a0):Int))∧
 I64 (i3+(↑(ByteArray.size a1):Int))∧
 (0≤i3+(↑(ByteArray.size a1):Int)∧i3+(↑(ByteArray.size a1):Int)≤(↑(ByteArray.size a0):Int)∧(↑(ByteArray.size a0):Int)≤(↑(ByteArray.size a0):Int))∧
 ∀(W4:PW),Ext W2 W4→Post (.tuple ⟨[.string (ByteArray.extract a0 0 (Int.toNat i3)),.string (ByteArray.extract a0 (Int.toNat (i3+(↑(ByteArray.size a1):Int))) (Int.toNat (↑(ByteArray.size a0):Int))),.bool true]⟩) W4)∧
 (¬0≤i3→∀(W5:PW),Ext W2 W5→Post (.tuple ⟨[.string a0,.string (ByteArray.mk #[]),.bool false]⟩) W5)
theorem Ao4 (W0:PW) (M:Nat→Prop) (a0:ByteArray) (a1:ByteArray) (Post:Value→PW→Prop) (h:Ar4 W0 M a0 a1 Post):Aa0 Tryz.prog 96 [.string a0,.string a1] W0 M Post:=
 Aa3 rfl Aa9 Aa8 Tryz.func96 (cuts:=[]) rfl rfl (Nat.le_of_ble_eq_true rfl) (Eq.mpr (by kernel_rfl) h)
def Aq1 (W0:PW) (M:Nat→Prop) (a0:ByteArray) (a1:ByteArray) (Post:Value→PW→Prop):Prop:=
 ((↑(ByteArray.size a1):Int)=0→∀(W1:PW),Ext W0 W1→Post (.int .i64 0) W1)∧
 (¬(↑(ByteArray.size a1):Int)=0→
 (a1=a0→∀(W2:PW),Ext W0 W2→Post (.int .i64 0) W2)∧
 (¬a1=a0→
 ((↑(ByteArray.size a1):Int)=1→
 ((0:Int)≤0∧0<(↑(ByteArray.size a1):Int))∧Aa1 Tryz.prog W0 M 153 [.string a0,.int .u8 (Ae2 a1 0)] W0 fun v3 W4=>∃i5:Int,v3 = .int .i64 i5∧∀(W6:PW),Ext W4 W6→Post (.int .i64 i5) W6)∧
 (¬(↑(ByteArray.size a1):Int)=1→((↑(ByteArray.size a0):Int)≤(↑(ByteArray.size a1):Int)→∀(W7:PW),Ext W0 W7→Post (.int .i64 (-1:Int)) W7)∧(¬(↑(ByteArray.size a0):Int)≤(↑(ByteArray.size a1):Int)→False))))
theorem Am3 (W0:PW) (M:Nat→Prop) (a0:ByteArray) (a1:ByteArray) (Post:Value→PW→Prop) (h:Aq1 W0 M a0 a1 Post):Aa0 Tryz.prog 132 [.string a0,.string a1] W0 M Post:=
 Aa3 rfl Aa9 Aa8 Tryz.func132 (cuts:=[]) rfl rfl (Nat.le_of_ble_eq_true rfl) (Eq.mpr (by kernel_rfl) h)
end Go.Proofs.YtahohahjnhfedaaGreatDoor
