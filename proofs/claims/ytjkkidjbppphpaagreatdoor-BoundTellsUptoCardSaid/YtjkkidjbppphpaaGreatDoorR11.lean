/- R11 -/
import Derived.Test.YtjkkidjbppphpaaGreatDoorTt
set_option linter.unusedVariables false
set_option linter.unusedSimpArgs false
set_option maxRecDepth 100000
namespace Go.Proofs.YtjkkidjbppphpaaGreatDoor
open Go Go.SX
def Gw8 (W0:PW) (M:Nat→Prop) (a0_0:Sl) (a1_0:Sl) (a1_1:Bool) (a1_2:Sl) (a1_3:Sl) (a1_4:Bool) (a1_5:Sl) (a1_6:Sl) (a1_7:Bool) (a1_8:Sl) (Post:Value→PW→Prop):Prop:=
 ∃(F1:List PL→PW→Prop),
 ∃(F2:List PL→PW→Nat),
 F1 [PL.val (Value.int .i64 0),PL.cells [Value.slice none 0 0,Value.bool false,Value.slice none 0 0]] W0∧
 ∀(s3:Sl) (b4:Bool) (s5:Sl) (i6:Int) (W7:PW),
 F1 [PL.val (Value.int .i64 i6),PL.cells [s3.v,Value.bool b4,s5.v]] W7→
 (i6<(a0_0.2:Int)→
 inB a0_0 i6∧
 ∃i8:Int,
 ∃i9:Int,
 ∃i10:Int,
 ∃s11:Sl,
 ∃b12:Bool,
 ∃s13:Sl,
 Aa7 W7 a0_0 6 (Int.toNat i6) 0 [Value.int .u8 i8,Value.int .u8 i9,Value.int .u8 i10,s11.v,Value.bool b12,s13.v]∧
 ∃(F14:List PL→PW→Prop),
 ∃(F15:List PL→PW→Nat),
 F14 [PL.val (Value.int .i64 0),PL.cells [s11.v,Value.bool b12,s13.v]] W7∧
 ∀(s16:Sl) (b17:Bool) (s18:Sl) (i19:Int) (W20:PW),
 F14 [PL.val (Value.int .i64 i19),PL.cells [s16.v,Value.bool b17,s18.v]] W20→
 (i19<3→
 (0≤i19∧i19<3)∧
 ∃i21:Int,
 List.take 1 (List.drop (Int.toNat i19*1) [Value.int .u8 i8,Value.int .u8 i9,Value.int .u8 i10]) = [Value.int .u8 i21]∧
 (0≤i19∧i19<3)∧
 ∃s22:Sl,
 ∃b23:Bool,
 ∃s24:Sl,
 As9 [a1_0.v,Value.bool a1_1,a1_2.v,a1_3.v,Value.bool a1_4,a1_5.v,a1_6.v,Value.bool a1_7,a1_8.v] (0+Int.toNat i19*3+0) [s22.v,Value.bool b23,s24.v]∧
 I64 i21∧
 Aa1 Tryz.prog W0 M 110 [Value.agg ⟨[s22.v,Value.bool b23,s24.v]⟩,Value.int .i64 i21] W20 fun v25 W26=>
 ∃s27:Sl,
 ∃b28:Bool,
 ∃s29:Sl,
 v25=Value.agg ⟨[s27.v,Value.bool b28,s29.v]⟩∧
 Aa1 Tryz.prog W0 M 96 [Value.agg ⟨[s16.v,Value.bool b17,s18.v]⟩,Value.agg ⟨[s27.v,Value.bool b28,s29.v]⟩] W26 fun v30 W31=>
 ∃s32:Sl,
 ∃b33:Bool,
 ∃s34:Sl,
 v30=Value.agg ⟨[s32.v,Value.bool b33,s34.v]⟩∧
 I64 (i19+1)∧stp F14 F15 [PL.val (Value.int .i64 (i19+1)),PL.cells [s32.v,Value.bool b33,s34.v]] W31 [PL.val (Value.int .i64 i19),PL.cells [s16.v,Value.bool b17,s18.v]] W20)∧
 (¬i19<3→
 Aa1 Tryz.prog W0 M 48 [Value.agg ⟨[s3.v,Value.bool b4,s5.v]⟩,Value.agg ⟨[s16.v,Value.bool b17,s18.v]⟩] W20 fun v35 W36=>
 ∃s37:Sl,
 ∃b38:Bool,
 ∃s39:Sl,
 v35=Value.agg ⟨[s37.v,Value.bool b38,s39.v]⟩∧
 I64 (i6+1)∧stp F1 F2 [PL.val (Value.int .i64 (i6+1)),PL.cells [s37.v,Value.bool b38,s39.v]] W36 [PL.val (Value.int .i64 i6),PL.cells [s3.v,Value.bool b4,s5.v]] W7))∧
 (¬i6<(a0_0.2:Int)→∀(W40:PW),Ext W7 W40→Post (Value.agg ⟨[s3.v,Value.bool b4,s5.v]⟩) W40)
theorem Gq4 (W0:PW) (M:Nat→Prop) (a0_0:Sl) (a1_0:Sl) (a1_1:Bool) (a1_2:Sl) (a1_3:Sl) (a1_4:Bool) (a1_5:Sl) (a1_6:Sl) (a1_7:Bool) (a1_8:Sl) (Post:Value→PW→Prop) (h:Gw8 W0 M a0_0 a1_0 a1_1 a1_2 a1_3 a1_4 a1_5 a1_6 a1_7 a1_8 Post):Aa0 Tryz.prog 39 [Value.agg #[a0_0.v],Value.agg #[a1_0.v,Value.bool a1_1,a1_2.v,a1_3.v,Value.bool a1_4,a1_5.v,a1_6.v,Value.bool a1_7,a1_8.v]] W0 M Post:=
 Aa3 rfl Aa9 Aa8 Tryz.func39 (cuts:=[]) rfl rfl (Nat.le_of_ble_eq_true rfl) (Eq.mpr (by kernel_rfl) h)
def Hp9 (W0:PW) (M:Nat→Prop) (a0:Sl) (a1_0:Bool) (a1_1:Sl) (a1_2:Sl) (a1_3:Bool) (a1_4:Sl) (a1_5:Sl) (a1_6:Bool) (a1_7:Sl) (a1_8:Sl) (Post:Value→PW→Prop):Prop:=
 Aa1 Tryz.prog W0 M (80:Nat) [Value.int IntKind.i64 (0:Int)] W0 fun v1 W2=>
 ∃b3:Bool,
 ∃s4:Sl,
 ∃s5:Sl,
 v1=Value.agg ⟨[Value.bool b3,s4.v,s5.v]⟩∧
 ∃(F6:List PL→PW→Prop),
 ∃(F7:List PL→PW→Nat),
 F6 [PL.val (Value.int IntKind.i64 (0:Int)),PL.cells [Value.bool b3,s4.v,s5.v]] W2∧
 ∀(b8:Bool) (s9 s10:Sl) (i11:Int) (W12:PW),
 F6 [PL.val (Value.int IntKind.i64 i11),PL.cells [Value.bool b8,s9.v,s10.v]] W12→
 (i11<(↑a0.2:Int)→
 inB a0 i11∧
 ∃b13:Bool,
 ∃s14:Sl,
 ∃s15:Sl,
 Aa7 W12 a0 (6:Nat) (Int.toNat i11) (3:Nat) [Value.bool b13,s14.v,s15.v]∧
 ∃(F16:List PL→PW→Prop),
 ∃(F17:List PL→PW→Nat),
 F16 [PL.val (Value.int IntKind.i64 (0:Int)),PL.cells [Value.bool b13,s14.v,s15.v]] W12∧
 ∀(b18:Bool) (s19 s20:Sl) (i21:Int) (W22:PW),
 F16 [PL.val (Value.int IntKind.i64 i21),PL.cells [Value.bool b18,s19.v,s20.v]] W22→
 (i21<(3:Int)→
 ((0:Int)≤i21∧i21<(3:Int))∧
 ∃b23:Bool,
 ∃s24:Sl,
 ∃s25:Sl,
 As9 [Value.bool a1_0,a1_1.v,a1_2.v,Value.bool a1_3,a1_4.v,a1_5.v,Value.bool a1_6,a1_7.v,a1_8.v] ((0:Nat)+Int.toNat i21*(3:Nat)+(0:Nat)) [Value.bool b23,s24.v,s25.v]∧
 inB a0 i11∧
 ((0:Int)≤i21∧i21<(3:Int))∧
 ∃i26:Int,
 Aa7 W22 a0 (6:Nat) (Int.toNat i11) ((0:Nat)+Int.toNat i21*(1:Nat)) [Value.int IntKind.u8 i26]∧
 I64 i26∧
 Aa1 Tryz.prog W0 M (151:Nat) [Value.agg ⟨[Value.bool b23,s24.v,s25.v]⟩,Value.int IntKind.i64 i26] W22 fun v27 W28=>
 ∃b29:Bool,
 ∃s30:Sl,
 ∃s31:Sl,
 v27=Value.agg ⟨[Value.bool b29,s30.v,s31.v]⟩∧
 Ext W22 W28∧
 Aa1 Tryz.prog W0 M (136:Nat) [Value.agg ⟨[Value.bool b18,s19.v,s20.v]⟩,Value.agg ⟨[Value.bool b29,s30.v,s31.v]⟩] W28 fun v32 W33=>
 ∃b34:Bool,
 ∃s35:Sl,
 ∃s36:Sl,
 v32=Value.agg ⟨[Value.bool b34,s35.v,s36.v]⟩∧
 Ext W28 W33∧
 I64 (i21+(1:Int))∧stp F16 F17 [PL.val (Value.int IntKind.i64 (i21+(1:Int))),PL.cells [Value.bool b34,s35.v,s36.v]] W33 [PL.val (Value.int IntKind.i64 i21),PL.cells [Value.bool b18,s19.v,s20.v]] W22)∧
 (¬i21<(3:Int)→
 Aa1 Tryz.prog W0 M (139:Nat) [Value.agg ⟨[Value.bool b8,s9.v,s10.v]⟩,Value.agg ⟨[Value.bool b18,s19.v,s20.v]⟩] W22 fun v37 W38=>
 ∃b39:Bool,
 ∃s40:Sl,
 ∃s41:Sl,
 v37=Value.agg ⟨[Value.bool b39,s40.v,s41.v]⟩∧
 I64 (i11+(1:Int))∧stp F6 F7 [PL.val (Value.int IntKind.i64 (i11+(1:Int))),PL.cells [Value.bool b39,s40.v,s41.v]] W38 [PL.val (Value.int IntKind.i64 i11),PL.cells [Value.bool b8,s9.v,s10.v]] W12))∧
 (¬i11<(↑a0.2:Int)→∀(W42:PW),Ext W12 W42→Post (Value.agg ⟨[Value.bool b8,s9.v,s10.v]⟩) W42)
theorem Hl1 (W0:PW) (M:Nat→Prop) (a0:Sl) (a1_0:Bool) (a1_1:Sl) (a1_2:Sl) (a1_3:Bool) (a1_4:Sl) (a1_5:Sl) (a1_6:Bool) (a1_7:Sl) (a1_8:Sl) (Post:Value→PW→Prop) (h:Hp9 W0 M a0 a1_0 a1_1 a1_2 a1_3 a1_4 a1_5 a1_6 a1_7 a1_8 Post):Aa0 Tryz.prog 144 [a0.v,Value.agg #[Value.bool a1_0,a1_1.v,a1_2.v,Value.bool a1_3,a1_4.v,a1_5.v,Value.bool a1_6,a1_7.v,a1_8.v]] W0 M Post:=
 Aa3 rfl Aa9 Aa8 Tryz.func144 (cuts:=[]) rfl rfl (Nat.le_of_ble_eq_true rfl) (Eq.mpr (by kernel_rfl) h)
def Hl3 (W0:PW) (M:Nat→Prop) (a0_0:Bool) (a0_1:Sl) (a0_2:Sl) (a1:Int) (Post:Value→PW→Prop):Prop:=
 Aa1 Tryz.prog W0 M 80 [.int .i64 1] W0 fun v1 W2=>
 ∃b3:Bool,
 ∃s4:Sl,
 ∃s5:Sl,
 v1 = .agg ⟨[.bool b3,s4.v,s5.v]⟩∧
 ∃(F6:List PL→PW→Prop),
 ∃(F7:List PL→PW→Nat),
 F6 [.val (.int .i64 0),.cells [.bool b3,s4.v,s5.v]] W2∧
 ∀(b8:Bool) (s9 s10:Sl) (i11:Int) (W12:PW),
 F6 [.val (.int .i64 i11),.cells [.bool b8,s9.v,s10.v]] W12→
 (i11<a1→
 Aa1 Tryz.prog W0 M 136 [.agg ⟨[.bool b8,s9.v,s10.v]⟩,.agg ⟨[.bool a0_0,a0_1.v,a0_2.v]⟩] W12 fun v13 W14=>
 ∃b15:Bool,
 ∃s16:Sl,
 ∃s17:Sl,
 v13 = .agg ⟨[.bool b15,s16.v,s17.v]⟩∧
 I64 (i11+1)∧stp F6 F7 [.val (.int .i64 (i11+1)),.cells [.bool b15,s16.v,s17.v]] W14 [.val (.int .i64 i11),.cells [.bool b8,s9.v,s10.v]] W12)∧
 (¬i11<a1→∀(W18:PW),Ext W12 W18→Post (.agg ⟨[.bool b8,s9.v,s10.v]⟩) W18)
theorem Hf0 (W0:PW) (M:Nat→Prop) (a0_0:Bool) (a0_1:Sl) (a0_2:Sl) (a1:Int) (Post:Value→PW→Prop) (h:Hl3 W0 M a0_0 a0_1 a0_2 a1 Post):Aa0 Tryz.prog 151 [.agg #[.bool a0_0,a0_1.v,a0_2.v],.int .i64 a1] W0 M Post:=
 Aa3 rfl Aa9 Aa8 Tryz.func151 (cuts:=[]) rfl rfl (Nat.le_of_ble_eq_true rfl) (Eq.mpr (by kernel_rfl) h)
end Go.Proofs.YtjkkidjbppphpaaGreatDoor
