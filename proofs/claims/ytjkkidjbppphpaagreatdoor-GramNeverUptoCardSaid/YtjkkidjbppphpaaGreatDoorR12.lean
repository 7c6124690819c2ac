/- R12 -/
import Derived.Test.YtjkkidjbppphpaaGreatDoorTt
set_option linter.unusedVariables false
set_option linter.unusedSimpArgs false
set_option maxRecDepth 100000
namespace Go.Proofs.YtjkkidjbppphpaaGreatDoor
open Go Go.SX
def Gk9 (W0:PW) (M:Nat→Prop) (a0_0:Int) (a0_1:Int) (a0_2:Int) (Post:Value→PW→Prop):Prop:=
 ∃(F1:List PL→PW→Prop),
 ∃(F2:List PL→PW→Nat),
 F1 [.val (.int .i64 0),.val (.int .i64 0)] W0∧
 ∀(i3 i4:Int) (W5:PW),
 F1 [.val (.int .i64 i3),.val (.int .i64 i4)] W5→
 (i4<3→
 (0≤i4∧i4<3)∧
 ∃i6:Int,
 As9 [.int .u8 a0_0,.int .u8 a0_1,.int .u8 a0_2] (0+Int.toNat i4*1+0) [.int .u8 i6]∧
 (0<i6→I64 (i4+1)∧I64 (i4+1)∧stp F1 F2 [.val (.int .i64 (i4+1)),.val (.int .i64 (i4+1))] W5 [.val (.int .i64 i3),.val (.int .i64 i4)] W5)∧
 (¬0<i6→I64 (i4+1)∧stp F1 F2 [.val (.int .i64 i3),.val (.int .i64 (i4+1))] W5 [.val (.int .i64 i3),.val (.int .i64 i4)] W5))∧
 (¬i4<3→∀(W7:PW),Ext W5 W7→Post (.int .i64 i3) W7)
theorem Gh2 (W0:PW) (M:Nat→Prop) (a0_0:Int) (a0_1:Int) (a0_2:Int) (Post:Value→PW→Prop) (h:Gk9 W0 M a0_0 a0_1 a0_2 Post):Aa0 Tryz.prog 106 [.agg #[.int .u8 a0_0,.int .u8 a0_1,.int .u8 a0_2]] W0 M Post:=
 Aa3 rfl Aa9 Aa8 Tryz.func106 (cuts:=[]) rfl rfl (Nat.le_of_ble_eq_true rfl) (Eq.mpr (by kernel_rfl) h)
def Gk6 (W0:PW) (M:Nat→Prop) (a0:Sl) (Post:Value→PW→Prop):Prop:=
 ∃(F1:List PL→PW→Prop),
 ∃(F2:List PL→PW→Nat),
 F1 [.val (.int .i64 0),.val (.int .i64 0)] W0∧
 ∀(i3 i4:Int) (W5:PW),
 F1 [.val (.int .i64 i3),.val (.int .i64 i4)] W5→
 (i4<(a0.2:Int)→
 inB a0 i4∧
 ∃i6:Int,
 ∃i7:Int,
 ∃i8:Int,
 Aa7 W5 a0 6 (Int.toNat i4) 0 [.int .u8 i6,.int .u8 i7,.int .u8 i8]∧
 Aa1 Tryz.prog W0 M 106 [.agg ⟨[.int .u8 i6,.int .u8 i7,.int .u8 i8]⟩] W5 fun v9 W10=>
 ∃i11:Int,v9 = .int .i64 i11∧I64 (i4+1)∧stp F1 F2 [.val (.int .i64 (mx i3 i11)),.val (.int .i64 (i4+1))] W10 [.val (.int .i64 i3),.val (.int .i64 i4)] W5)∧
 (¬i4<(a0.2:Int)→∀(W12:PW),Ext W5 W12→Post (.int .i64 i3) W12)
theorem Gh3 (W0:PW) (M:Nat→Prop) (a0:Sl) (Post:Value→PW→Prop) (h:Gk6 W0 M a0 Post):Aa0 Tryz.prog 36 [a0.v] W0 M Post:=
 Aa3 rfl Aa9 Aa8 Tryz.func36 (cuts:=[]) rfl rfl (Nat.le_of_ble_eq_true rfl) (Eq.mpr (by kernel_rfl) h)
def Gs9 (W0:PW) (M:Nat→Prop) (a0:Sl) (a1:Sl) (Post:Value→PW→Prop):Prop:=
 Aa1 Tryz.prog W0 M 180 [a1.v] W0 fun v1 W2=>
 ∃b3:Bool,
 v1 = .bool b3∧
 ((!b3)=true→∀(W4:PW),Ext W2 W4→Post (.tuple ⟨[.agg ⟨[.slice none 0 0]⟩,.bool false]⟩) W4)∧
 ((!b3)=false→
 inB a1 0∧
 ∃s5:Sl,
 Aa7 W2 a1 1 0 0 [s5.v]∧
 ((a1.2:Int)≠(s5.2:Int)→∀(W6:PW),Ext W2 W6→Post (.tuple ⟨[.agg ⟨[.slice none 0 0]⟩,.bool false]⟩) W6)∧
 (¬(a1.2:Int)≠(s5.2:Int)→
 ((a0.2:Int)≠(a1.2:Int)→∀(W7:PW),Ext W2 W7→Post (.tuple ⟨[.agg ⟨[.slice none 0 0]⟩,.bool false]⟩) W7)∧
 (¬(a0.2:Int)≠(a1.2:Int)→
 ∃(F8:List PL→PW→Prop),
 ∃(F9:List PL→PW→Nat),
 F8 [.val (.int .i64 0),.cells [.slice none 0 0],.cells [.slice none 0 0]] W2∧
 ∀(s10 s11:Sl) (i12:Int) (W13:PW),
 F8 [.val (.int .i64 i12),.cells [s10.v],.cells [s11.v]] W13→
 (i12<(a0.2:Int)→
 inB a0 i12∧
 ∃s14:Sl,
 Aa7 W13 a0 1 (Int.toNat i12) 0 [s14.v]∧
 ∃(F15:List PL→PW→Prop),
 ∃(F16:List PL→PW→Nat),
 F15 [.val (.int .i64 0),.cells [s10.v],.cells [s11.v]] W13∧
 ∀(s17 s18:Sl) (i19:Int) (W20:PW),
 F15 [.val (.int .i64 i19),.cells [s17.v],.cells [s18.v]] W20→
 (i19<(a0.2:Int)→
 inB a0 i19∧
 ∃s21:Sl,
 Aa7 W20 a0 1 (Int.toNat i19) 0 [s21.v]∧
 Aa1 Tryz.prog W0 M 78 [.agg ⟨[s14.v]⟩,.agg ⟨[s21.v]⟩] W20 fun v22 W23=>
 ∃s24:Sl,
 ∃b25:Bool,
 v22 = .tuple ⟨[.agg ⟨[s24.v]⟩,.bool b25]⟩∧
 ((!b25)=true→∀(W26:PW),Ext W23 W26→Post (.tuple ⟨[.agg ⟨[.slice none 0 0]⟩,.bool false]⟩) W26)∧
 ((!b25)=false→
 inB a1 i12∧
 ∃s27:Sl,
 Aa7 W23 a1 1 (Int.toNat i12) 0 [s27.v]∧
 inB s27 i19∧
 ∃s28:Sl,
 ∃b29:Bool,
 ∃s30:Sl,
 Aa7 W23 s27 3 (Int.toNat i19) 0 [s28.v,.bool b29,s30.v]∧
 Aa1 Tryz.prog W0 M 26 [.agg ⟨[s24.v]⟩,.agg ⟨[s28.v,.bool b29,s30.v]⟩] W23 fun v31 W32=>
 ∃s33:Sl,
 v31 = .agg ⟨[s33.v]⟩∧
 Ext W23 W32∧
 Aa1 Tryz.prog W0 M 25 [.agg ⟨[s18.v]⟩,.agg ⟨[s33.v]⟩] W32 fun v34 W35=>
 ∃s36:Sl,
 v34 = .agg ⟨[s36.v]⟩∧
 Ext W32 W35∧
 I64 (i19+1)∧
 stp F15 F16 [.val (.int .i64 (i19+1)),.cells [s17.v],.cells [s36.v]] W35 [.val (.int .i64 i19),.cells [s17.v],.cells [s18.v]] W20))∧
 (¬i19<(a0.2:Int)→I64 (i12+1)∧stp F8 F9 [.val (.int .i64 (i12+1)),.cells [s17.v],.cells [s18.v]] W20 [.val (.int .i64 i12),.cells [s10.v],.cells [s11.v]] W13))∧
 (¬i12<(a0.2:Int)→∀(W37:PW),Ext W13 W37→Post (.tuple ⟨[.agg ⟨[s11.v]⟩,.bool true]⟩) W37))))
theorem Gm6 (W0:PW) (M:Nat→Prop) (a0:Sl) (a1:Sl) (Post:Value→PW→Prop) (h:Gs9 W0 M a0 a1 Post):Aa0 Tryz.prog 102 [a0.v,a1.v] W0 M Post:=
 Aa3 rfl Aa9 Aa8 Tryz.func102 (cuts:=[]) rfl rfl (Nat.le_of_ble_eq_true rfl) (Eq.mpr (by kernel_rfl) h)
def Go1 (W0:PW) (M:Nat→Prop) (Post:Value→PW→Prop):Prop:=
 ∀(s1:Sl) (W2:PW),
 Ext W0 W2→
 SX.Own W2 9 1 s1 [[.string (ByteArray.mk #[49])],[.string (ByteArray.mk #[49,47,50])]]→
 Fr W0 W0 s1→
 ∀(s3:Sl) (W4:PW),
 Ext W2 W4→
 SX.Own W4 9 1 s3 [[.string (ByteArray.mk #[49,47,50])],[.string (ByteArray.mk #[48])]]→
 Fr W0 W2 s3→
 ∀(s5:Sl) (W6:PW),
 Ext W4 W6→
 SX.Own W6 131 1 s5 [[s1.v],[s3.v]]→
 Fr W0 W4 s5→
 Aa1 Tryz.prog W0 M 101 [s5.v] W6 fun v7 W8=>
 ∃s9:Sl,
 ∃i10:Int,
 v7 = .tuple ⟨[s9.v,.int .i64 i10]⟩∧
 Aa1 Tryz.prog W0 M 49 [.int .i64 0] W8 fun v11 W12=>
 ∃s13:Sl,
 v11 = .agg ⟨[s13.v]⟩∧
 Aa1 Tryz.prog W0 M 103 [.int .i64 1] W12 fun v14 W15=>
 ∃s16:Sl,
 ∃b17:Bool,
 ∃s18:Sl,
 v14 = .agg ⟨[s16.v,.bool b17,s18.v]⟩∧
 Aa1 Tryz.prog W0 M 45 [.agg ⟨[s16.v,.bool b17,s18.v]⟩] W15 fun v19 W20=>
 ∃s21:Sl,
 v19 = .agg ⟨[s21.v]⟩∧
 ∀(s22:Sl) (W23:PW),
 Ext W20 W23→
 SX.Own W23 28 1 s22 [[s13.v],[s21.v]]→
 Fr W0 W20 s22→
 Aa1 Tryz.prog W0 M 102 [s22.v,s9.v] W23 fun v24 W25=>
 ∃s26:Sl,
 ∃b27:Bool,
 v24 = .tuple ⟨[.agg ⟨[s26.v]⟩,.bool b27]⟩∧
 (i10=0→
 (b27=true→
 Aa1 Tryz.prog W0 M 105 [.agg ⟨[s26.v]⟩] W25 fun v28 W29=>
 ∃s30:Sl,
 v28=s30.v∧
 ∀(s31:Sl) (W32:PW),
 Ext W29 W32→
 SX.Own W32 194 4 s31
 [[.int .u8 1,.int .u8 0,.int .u8 0,.string (ByteArray.mk #[49])],
 [.int .u8 2,.int .u8 0,.int .u8 0,.string (ByteArray.mk #[49])]]→
 Fr W0 W29 s31→Aa1 Tryz.prog W0 M 104 [s30.v,s31.v] W32 fun v33 W34=>∃b35:Bool,v33 = .bool b35∧∀(W36:PW),Ext W34 W36→Post (.bool b35) W36)∧
 (b27=false→∀(W37:PW),Ext W25 W37→Post (.bool false) W37))∧
 (¬i10=0→∀(W38:PW),Ext W25 W38→Post (.bool false) W38)
theorem Gj0 (W0:PW) (M:Nat→Prop) (Post:Value→PW→Prop) (h:Go1 W0 M Post):Aa0 Tryz.prog 33 [] W0 M Post:=
 Aa3 rfl Aa9 Aa8 Tryz.func33 (cuts:=[]) rfl rfl (Nat.le_of_ble_eq_true rfl) (Eq.mpr (by kernel_rfl) h)
end Go.Proofs.YtjkkidjbppphpaaGreatDoor
