/- R11 -/
import Derived.Test.YtokefihiadbkbaaGreatDoorTt
set_option linter.unusedVariables false
set_option linter.unusedSimpArgs false
set_option maxRecDepth 100000
namespace Go.Proofs.YtokefihiadbkbaaGreatDoor
open Go Go.SX
def Hv5 (W0:PW) (M:Nat→Prop) (a0_0:ByteArray) (a0_1:ByteArray) (a0_2:ByteArray) (Post:Value→PW→Prop):Prop:=
 ∃(F1:List PL→PW→Prop),
 ∃(F2:List PL→PW→Nat),
 F1
 [.val (.int .i64 0),
 .cells [.slice none 0 0,.bool false,.slice none 0 0,.slice none 0 0,.bool false,.slice none 0 0,.slice none 0 0,.bool false,.slice none 0 0],
 .cells [.bool false,.slice none 0 0,.slice none 0 0,.bool false,.slice none 0 0,.slice none 0 0,.bool false,.slice none 0 0,.slice none 0 0],
 .cells [.slice none 0 0,.bool false,.slice none 0 0,.slice none 0 0,.bool false,.slice none 0 0,.slice none 0 0,.bool false,.slice none 0 0],
 .cells [.bool false,.slice none 0 0,.slice none 0 0,.bool false,.slice none 0 0,.slice none 0 0,.bool false,.slice none 0 0,.slice none 0 0]]
 W0∧
 ∀(s3:Sl) (b4:Bool) (s5 s6:Sl) (b7:Bool) (s8 s9:Sl) (b10:Bool) (s11:Sl) (b12:Bool) (s13 s14:Sl) (b15:Bool) (s16 s17:Sl) (b18:Bool) (s19 s20 s21:Sl) (b22:Bool) (s23 s24:Sl) (b25:Bool) (s26 s27:Sl) (b28:Bool) (s29:Sl) (b30:Bool) (s31 s32:Sl) (b33:Bool) (s34 s35:Sl) (b36:Bool)
 (s37 s38:Sl) (i39:Int) (W40:PW),
 F1
 [.val (.int .i64 i39),.cells [s3.v,.bool b4,s5.v,s6.v,.bool b7,s8.v,s9.v,.bool b10,s11.v],.cells [.bool b12,s13.v,s14.v,.bool b15,s16.v,s17.v,.bool b18,s19.v,s20.v],
 .cells [s21.v,.bool b22,s23.v,s24.v,.bool b25,s26.v,s27.v,.bool b28,s29.v],.cells [.bool b30,s31.v,s32.v,.bool b33,s34.v,s35.v,.bool b36,s37.v,s38.v]]
 W40→
 (i39<3→
 (0≤i39∧i39<3)∧
 ∃t41:ByteArray,
 As9 [.string a0_0,.string a0_1,.string a0_2] (0+Int.toNat i39*1+0) [.string t41]∧
 Aa1 Tryz.prog W0 M 12 [.string t41] W40 fun v42 W43=>
 ∃s44:Sl,
 ∃b45:Bool,
 ∃s46:Sl,
 ∃b47:Bool,
 ∃s48:Sl,
 ∃s49:Sl,
 ∃b50:Bool,
 v42 = .tuple ⟨[.agg ⟨[s44.v,.bool b45,s46.v]⟩,.agg ⟨[.bool b47,s48.v,s49.v]⟩,.bool b50]⟩∧
 ((!b50)=true→
 ∀(W51:PW),
 Ext W43 W51→
 Post
 (.tuple
 {
 toList:=
 [.agg ⟨[s21.v,.bool b22,s23.v,s24.v,.bool b25,s26.v,s27.v,.bool b28,s29.v]⟩,
 .agg ⟨[.bool b30,s31.v,s32.v,.bool b33,s34.v,s35.v,.bool b36,s37.v,s38.v]⟩,.bool false] })
 W51)∧
 ((!b50)=false→
 (0≤i39∧i39<3)∧
 ∃t52:ByteArray,
 As9 [.string a0_0,.string a0_1,.string a0_2] (0+Int.toNat i39*1+0) [.string t52]∧
 (16<(↑(ByteArray.size t52):Int)→
 ∀(W53:PW),
 Ext W43 W53→
 Post
 (.tuple
 {
 toList:=
 [.agg ⟨[s21.v,.bool b22,s23.v,s24.v,.bool b25,s26.v,s27.v,.bool b28,s29.v]⟩,
 .agg ⟨[.bool b30,s31.v,s32.v,.bool b33,s34.v,s35.v,.bool b36,s37.v,s38.v]⟩,.bool false] })
 W53)∧
 (¬16<(↑(ByteArray.size t52):Int)→
 (0≤i39∧i39<3)∧
 Int.toNat i39<3∧
 ((True∧
 (Int.toNat i39=0→
 (0≤i39∧i39<3)∧
 Int.toNat i39<3∧
 ((True∧
 (Int.toNat i39=0→
 I64 (i39+1)∧
 stp F1 F2
 [.val (.int .i64 (i39+1)),.cells [s3.v,.bool b4,s5.v,s6.v,.bool b7,s8.v,s9.v,.bool b10,s11.v],
 .cells [.bool b12,s13.v,s14.v,.bool b15,s16.v,s17.v,.bool b18,s19.v,s20.v],
 .cells [s44.v,.bool b45,s46.v,s24.v,.bool b25,s26.v,s27.v,.bool b28,s29.v],
 .cells [.bool b47,s48.v,s49.v,.bool b33,s34.v,s35.v,.bool b36,s37.v,s38.v]]
 W43
 [.val (.int .i64 i39),.cells [s3.v,.bool b4,s5.v,s6.v,.bool b7,s8.v,s9.v,.bool b10,s11.v],
 .cells [.bool b12,s13.v,s14.v,.bool b15,s16.v,s17.v,.bool b18,s19.v,s20.v],
 .cells [s21.v,.bool b22,s23.v,s24.v,.bool b25,s26.v,s27.v,.bool b28,s29.v],
 .cells [.bool b30,s31.v,s32.v,.bool b33,s34.v,s35.v,.bool b36,s37.v,s38.v]]
 W40))∧
 (Int.toNat i39=1→
 I64 (i39+1)∧
 stp F1 F2
 [.val (.int .i64 (i39+1)),.cells [s3.v,.bool b4,s5.v,s6.v,.bool b7,s8.v,s9.v,.bool b10,s11.v],
 .cells [.bool b12,s13.v,s14.v,.bool b15,s16.v,s17.v,.bool b18,s19.v,s20.v],
 .cells [s44.v,.bool b45,s46.v,s24.v,.bool b25,s26.v,s27.v,.bool b28,s29.v],
 .cells [.bool b30,s31.v,s32.v,.bool b47,s48.v,s49.v,.bool b36,s37.v,s38.v]]
 W43
 [.val (.int .i64 i39),.cells [s3.v,.bool b4,s5.v,s6.v,.bool b7,s8.v,s9.v,.bool b10,s11.v],
 .cells [.bool b12,s13.v,s14.v,.bool b15,s16.v,s17.v,.bool b18,s19.v,s20.v],
 .cells [s21.v,.bool b22,s23.v,s24.v,.bool b25,s26.v,s27.v,.bool b28,s29.v],
 .cells [.bool b30,s31.v,s32.v,.bool b33,s34.v,s35.v,.bool b36,s37.v,s38.v]]
 W40))∧
 (Int.toNat i39=2→
 I64 (i39+1)∧
 stp F1 F2
 [.val (.int .i64 (i39+1)),.cells [s3.v,.bool b4,s5.v,s6.v,.bool b7,s8.v,s9.v,.bool b10,s11.v],
 .cells [.bool b12,s13.v,s14.v,.bool b15,s16.v,s17.v,.bool b18,s19.v,s20.v],
 .cells [s44.v,.bool b45,s46.v,s24.v,.bool b25,s26.v,s27.v,.bool b28,s29.v],
 .cells [.bool b30,s31.v,s32.v,.bool b33,s34.v,s35.v,.bool b47,s48.v,s49.v]]
 W43
 [.val (.int .i64 i39),.cells [s3.v,.bool b4,s5.v,s6.v,.bool b7,s8.v,s9.v,.bool b10,s11.v],
 .cells [.bool b12,s13.v,s14.v,.bool b15,s16.v,s17.v,.bool b18,s19.v,s20.v],
 .cells [s21.v,.bool b22,s23.v,s24.v,.bool b25,s26.v,s27.v,.bool b28,s29.v],
 .cells [.bool b30,s31.v,s32.v,.bool b33,s34.v,s35.v,.bool b36,s37.v,s38.v]]
 W40)))∧
 (Int.toNat i39=1→
 (0≤i39∧i39<3)∧
 Int.toNat i39<3∧
 ((True∧
 (Int.toNat i39=0→
 I64 (i39+1)∧
 stp F1 F2
 [.val (.int .i64 (i39+1)),.cells [s3.v,.bool b4,s5.v,s6.v,.bool b7,s8.v,s9.v,.bool b10,s11.v],
 .cells [.bool b12,s13.v,s14.v,.bool b15,s16.v,s17.v,.bool b18,s19.v,s20.v],
 .cells [s21.v,.bool b22,s23.v,s44.v,.bool b45,s46.v,s27.v,.bool b28,s29.v],
 .cells [.bool b47,s48.v,s49.v,.bool b33,s34.v,s35.v,.bool b36,s37.v,s38.v]]
 W43
 [.val (.int .i64 i39),.cells [s3.v,.bool b4,s5.v,s6.v,.bool b7,s8.v,s9.v,.bool b10,s11.v],
 .cells [.bool b12,s13.v,s14.v,.bool b15,s16.v,s17.v,.bool b18,s19.v,s20.v],
 .cells [s21.v,.bool b22,s23.v,s24.v,.bool b25,s26.v,s27.v,.bool b28,s29.v],
 .cells [.bool b30,s31.v,s32.v,.bool b33,s34.v,s35.v,.bool b36,s37.v,s38.v]]
 W40))∧
 (Int.toNat i39=1→
 I64 (i39+1)∧
 stp F1 F2
 [.val (.int .i64 (i39+1)),.cells [s3.v,.bool b4,s5.v,s6.v,.bool b7,s8.v,s9.v,.bool b10,s11.v],
 .cells [.bool b12,s13.v,s14.v,.bool b15,s16.v,s17.v,.bool b18,s19.v,s20.v],
 .cells [s21.v,.bool b22,s23.v,s44.v,.bool b45,s46.v,s27.v,.bool b28,s29.v],
 .cells [.bool b30,s31.v,s32.v,.bool b47,s48.v,s49.v,.bool b36,s37.v,s38.v]]
 W43
 [.val (.int .i64 i39),.cells [s3.v,.bool b4,s5.v,s6.v,.bool b7,s8.v,s9.v,.bool b10,s11.v],
 .cells [.bool b12,s13.v,s14.v,.bool b15,s16.v,s17.v,.bool b18,s19.v,s20.v],
 .cells [s21.v,.bool b22,s23.v,s24.v,.bool b25,s26.v,s27.v,.bool b28,s29.v],
 .cells [.bool b30,s31.v,s32.v,.bool b33,s34.v,s35.v,.bool b36,s37.v,s38.v]]
 W40))∧
 (Int.toNat i39=2→
 I64 (i39+1)∧
 stp F1 F2
 [.val (.int .i64 (i39+1)),.cells [s3.v,.bool b4,s5.v,s6.v,.bool b7,s8.v,s9.v,.bool b10,s11.v],
 .cells [.bool b12,s13.v,s14.v,.bool b15,s16.v,s17.v,.bool b18,s19.v,s20.v],
 .cells [s21.v,.bool b22,s23.v,s44.v,.bool b45,s46.v,s27.v,.bool b28,s29.v],
 .cells [.bool b30,s31.v,s32.v,.bool b33,s34.v,s35.v,.bool b47,s48.v,s49.v]]
 W43
 [.val (.int .i64 i39),.cells [s3.v,.bool b4,s5.v,s6.v,.bool b7,s8.v,s9.v,.bool b10,s11.v],
 .cells [.bool b12,s13.v,s14.v,.bool b15,s16.v,s17.v,.bool b18,s19.v,s20.v],
 .cells [s21.v,.bool b22,s23.v,s24.v,.bool b25,s26.v,s27.v,.bool b28,s29.v],
 .cells [.bool b30,s31.v,s32.v,.bool b33,s34.v,s35.v,.bool b36,s37.v,s38.v]]
 W40)))∧
 (Int.toNat i39=2→
 (0≤i39∧i39<3)∧
 Int.toNat i39<3∧
 ((True∧
 (Int.toNat i39=0→
 I64 (i39+1)∧
 stp F1 F2
 [.val (.int .i64 (i39+1)),.cells [s3.v,.bool b4,s5.v,s6.v,.bool b7,s8.v,s9.v,.bool b10,s11.v],
 .cells [.bool b12,s13.v,s14.v,.bool b15,s16.v,s17.v,.bool b18,s19.v,s20.v],
 .cells [s21.v,.bool b22,s23.v,s24.v,.bool b25,s26.v,s44.v,.bool b45,s46.v],
 .cells [.bool b47,s48.v,s49.v,.bool b33,s34.v,s35.v,.bool b36,s37.v,s38.v]]
 W43
 [.val (.int .i64 i39),.cells [s3.v,.bool b4,s5.v,s6.v,.bool b7,s8.v,s9.v,.bool b10,s11.v],
 .cells [.bool b12,s13.v,s14.v,.bool b15,s16.v,s17.v,.bool b18,s19.v,s20.v],
 .cells [s21.v,.bool b22,s23.v,s24.v,.bool b25,s26.v,s27.v,.bool b28,s29.v],
 .cells [.bool b30,s31.v,s32.v,.bool b33,s34.v,s35.v,.bool b36,s37.v,s38.v]]
 W40))∧
 (Int.toNat i39=1→
 I64 (i39+1)∧
 stp F1 F2
 [.val (.int .i64 (i39+1)),.cells [s3.v,.bool b4,s5.v,s6.v,.bool b7,s8.v,s9.v,.bool b10,s11.v],
 .cells [.bool b12,s13.v,s14.v,.bool b15,s16.v,s17.v,.bool b18,s19.v,s20.v],
 .cells [s21.v,.bool b22,s23.v,s24.v,.bool b25,s26.v,s44.v,.bool b45,s46.v],
 .cells [.bool b30,s31.v,s32.v,.bool b47,s48.v,s49.v,.bool b36,s37.v,s38.v]]
 W43
 [.val (.int .i64 i39),.cells [s3.v,.bool b4,s5.v,s6.v,.bool b7,s8.v,s9.v,.bool b10,s11.v],
 .cells [.bool b12,s13.v,s14.v,.bool b15,s16.v,s17.v,.bool b18,s19.v,s20.v],
 .cells [s21.v,.bool b22,s23.v,s24.v,.bool b25,s26.v,s27.v,.bool b28,s29.v],
 .cells [.bool b30,s31.v,s32.v,.bool b33,s34.v,s35.v,.bool b36,s37.v,s38.v]]
 W40))∧
 (Int.toNat i39=2→
 I64 (i39+1)∧
 stp F1 F2
 [.val (.int .i64 (i39+1)),.cells [s3.v,.bool b4,s5.v,s6.v,.bool b7,s8.v,s9.v,.bool b10,s11.v],
 .cells [.bool b12,s13.v,s14.v,.bool b15,s16.v,s17.v,.bool b18,s19.v,s20.v],
 .cells [s21.v,.bool b22,s23.v,s24.v,.bool b25,s26.v,s44.v,.bool b45,s46.v],
 .cells [.bool b30,s31.v,s32.v,.bool b33,s34.v,s35.v,.bool b47,s48.v,s49.v]]
 W43
 [.val (.int .i64 i39),.cells [s3.v,.bool b4,s5.v,s6.v,.bool b7,s8.v,s9.v,.bool b10,s11.v],
 .cells [.bool b12,s13.v,s14.v,.bool b15,s16.v,s17.v,.bool b18,s19.v,s20.v],
 .cells [s21.v,.bool b22,s23.v,s24.v,.bool b25,s26.v,s27.v,.bool b28,s29.v],
 .cells [.bool b30,s31.v,s32.v,.bool b33,s34.v,s35.v,.bool b36,s37.v,s38.v]]
 W40)))))∧
 (¬i39<3→
 ∀(W54:PW),
 Ext W40 W54→
 Post
 (.tuple
 {
 toList:=
 [.agg ⟨[s21.v,.bool b22,s23.v,s24.v,.bool b25,s26.v,s27.v,.bool b28,s29.v]⟩,.agg ⟨[.bool b30,s31.v,s32.v,.bool b33,s34.v,s35.v,.bool b36,s37.v,s38.v]⟩,
 .bool true] })
 W54)
theorem Hu4 (W0:PW) (M:Nat→Prop) (a0_0:ByteArray) (a0_1:ByteArray) (a0_2:ByteArray) (Post:Value→PW→Prop) (h:Hv5 W0 M a0_0 a0_1 a0_2 Post):Aa0 Tryz.prog 42 [.agg #[.string a0_0,.string a0_1,.string a0_2]] W0 M Post:=
 Aa3 rfl Aa9 Aa8 Tryz.func42 (cuts:=[]) rfl rfl (Nat.le_of_ble_eq_true rfl) (Eq.mpr (by kernel_rfl) h)
def Ix2 (W0:PW) (M:Nat→Prop) (a0_0:Sl) (a1:Int) (Post:Value→PW→Prop):Prop:=
 ∃(F1:List PL→PW→Prop),
 ∃(F2:List PL→PW→Nat),
 F1 [.val (.int .i64 0),.val (.int .i64 0)] W0∧
 ∀(i3 i4:Int) (W5:PW),
 F1 [.val (.int .i64 i3),.val (.int .i64 i4)] W5→
 (i4<(a0_0.2:Int)→
 inB a0_0 i4∧
 ∃i6:Int,
 ∃i7:Int,
 ∃i8:Int,
 ∃s9:Sl,
 ∃b10:Bool,
 ∃s11:Sl,
 Aa7 W5 a0_0 6 (Int.toNat i4) 0 [.int .u8 i6,.int .u8 i7,.int .u8 i8,s9.v,.bool b10,s11.v]∧
 (0≤a1→
 (a1<3→
 (0≤a1∧a1<3)∧
 ∃i12:Int,
 As9 [.int .u8 i6,.int .u8 i7,.int .u8 i8,s9.v,.bool b10,s11.v] (0+Int.toNat a1*1+0) [.int .u8 i12]∧
 I64 i12∧I64 (i4+1)∧stp F1 F2 [.val (.int .i64 (mx i3 i12)),.val (.int .i64 (i4+1))] W5 [.val (.int .i64 i3),.val (.int .i64 i4)] W5)∧
 (¬a1<3→I64 (i4+1)∧stp F1 F2 [.val (.int .i64 i3),.val (.int .i64 (i4+1))] W5 [.val (.int .i64 i3),.val (.int .i64 i4)] W5))∧
 (¬0≤a1→I64 (i4+1)∧stp F1 F2 [.val (.int .i64 i3),.val (.int .i64 (i4+1))] W5 [.val (.int .i64 i3),.val (.int .i64 i4)] W5))∧
 (¬i4<(a0_0.2:Int)→∀(W13:PW),Ext W5 W13→Post (.int .i64 i3) W13)
theorem Io0 (W0:PW) (M:Nat→Prop) (a0_0:Sl) (a1:Int) (Post:Value→PW→Prop) (h:Ix2 W0 M a0_0 a1 Post):Aa0 Tryz.prog 30 [.agg #[a0_0.v],.int .i64 a1] W0 M Post:=
 Aa3 rfl Aa9 Aa8 Tryz.func30 (cuts:=[]) rfl rfl (Nat.le_of_ble_eq_true rfl) (Eq.mpr (by kernel_rfl) h)
def Dy1 (W0:PW) (M:Nat→Prop) (a0_0:Sl) (Post:Value→PW→Prop):Prop:=
 ∃(F1:List PL→PW→Prop),
 ∃(F2:List PL→PW→Nat),
 F1 [.val (.int .i64 0),.val (.int .i64 0)] W0∧
 ∀(i3 i4:Int) (W5:PW),
 F1 [.val (.int .i64 i3),.val (.int .i64 i4)] W5→
 (i4<(a0_0.2:Int)→
 inB a0_0 i4∧
 ∃i6:Int,
 ∃i7:Int,
 ∃i8:Int,
 ∃s9:Sl,
 ∃b10:Bool,
 ∃s11:Sl,
 Aa7 W5 a0_0 6 (Int.toNat i4) 0 [.int .u8 i6,.int .u8 i7,.int .u8 i8,s9.v,.bool b10,s11.v]∧
 Aa1 Tryz.prog W0 M 61 [.agg ⟨[.int .u8 i6,.int .u8 i7,.int .u8 i8]⟩] W5 fun v12 W13=>
 ∃i14:Int,v12 = .int .i64 i14∧I64 (i4+1)∧stp F1 F2 [.val (.int .i64 (mx i3 i14)),.val (.int .i64 (i4+1))] W13 [.val (.int .i64 i3),.val (.int .i64 i4)] W5)∧
 (¬i4<(a0_0.2:Int)→∀(W15:PW),Ext W5 W15→Post (.int .i64 i3) W15)
theorem Cn0 (W0:PW) (M:Nat→Prop) (a0_0:Sl) (Post:Value→PW→Prop) (h:Dy1 W0 M a0_0 Post):Aa0 Tryz.prog 14 [.agg #[a0_0.v]] W0 M Post:=
 Aa3 rfl Aa9 Aa8 Tryz.func14 (cuts:=[]) rfl rfl (Nat.le_of_ble_eq_true rfl) (Eq.mpr (by kernel_rfl) h)
end Go.Proofs.YtokefihiadbkbaaGreatDoor
