/- R2 -/
import Derived.Test.YtjgpenfndnhdnaaGreatTt
set_option linter.unusedVariables false
set_option linter.unusedSimpArgs false
set_option maxRecDepth 100000
set_option linter.unusedVariables false
namespace Go.Proofs.YtjgpenfndnhdnaaGreat
open Go Go.SX
def tabLen8:ByteArray:=ByteArray.mk #[0,1,2,2,3,3,3,3,4,4,4,4,4,4,4,4,5,5,5,5,5,5,5,5,5,5,5,5,5,5,5,5,6,6,6,6,6,6,6,6,6,6,6,6,6,6,6,6,6,6,6,6,6,6,6,6,6,6,6,6,6,6,6,6,7,7,7,7,7,7,7,7,7,7,7,7,7,7,7,7,7,7,7,7,7,7,7,7,7,7,7,7,7,7,7,7,7,7,7,7,7,7,7,7,7,7,7,7,7,7,7,7,7,7,7,7,7,7,7,7,7,7,7,7,7,7,7,7,8,8,8,8,8,8,8,8,8,8,8,8,8,8,8,8,8,8,8,8,8,8,8,8,8,8,8,8,8,8,8,8,8,8,8,8,8,8,8,8,8,8,8,8,8,8,8,8,8,8,8,8,8,8,8,8,8,8,8,8,8,8,8,8,8,8,8,8,8,8,8,8,8,8,8,8,8,8,8,8,8,8,8,8,8,8,8,8,8,8,8,8,8,8,8,8,8,8,8,8,8,8,8,8,8,8,8,8,8,8,8,8,8,8,8,8,8,8,8,8,8,8,8,8,8,8,8,8]
def Rmath_bits_Len32 (W0:PW) (M:Nat→Prop) (a0:Int) (Post:Value→PW→Prop):Prop:=
 (65536≤a0→
 (256≤ishr a0 16→
 I64 ((16:Int)+8)∧
 (0≤IntKind.wrap .u8 (ishr (ishr a0 16) 8)∧
 IntKind.wrap .u8 (ishr (ishr a0 16) 8) <
 (↑(ByteArray.size
 tabLen8):
 Int))∧
 I64
 (sbyte
 tabLen8
 (Int.toNat (IntKind.wrap .u8 (ishr (ishr a0 16) 8))))∧
 I64
 ((16:Int)+8 +
 sbyte
 tabLen8
 (Int.toNat (IntKind.wrap .u8 (ishr (ishr a0 16) 8))))∧
 ∀(W1:PW),
 Ext W0 W1→
 Post
 (.int .i64
 ((16:Int)+8 +
 sbyte
 tabLen8
 (Int.toNat (IntKind.wrap .u8 (ishr (ishr a0 16) 8)))))
 W1)∧
 (¬256≤ishr a0 16→
 (0≤IntKind.wrap .u8 (ishr a0 16)∧
 IntKind.wrap .u8 (ishr a0 16) <
 (↑(ByteArray.size
 tabLen8):
 Int))∧
 I64
 (sbyte
 tabLen8
 (Int.toNat (IntKind.wrap .u8 (ishr a0 16))))∧
 I64
 (16 +
 sbyte
 tabLen8
 (Int.toNat (IntKind.wrap .u8 (ishr a0 16))))∧
 ∀(W2:PW),
 Ext W0 W2→
 Post
 (.int .i64
 (16 +
 sbyte
 tabLen8
 (Int.toNat (IntKind.wrap .u8 (ishr a0 16)))))
 W2))∧
 (¬65536≤a0→
 (256≤a0→
 I64 ((0:Int)+8)∧
 (0≤IntKind.wrap .u8 (ishr a0 8)∧
 IntKind.wrap .u8 (ishr a0 8) <
 (↑(ByteArray.size
 tabLen8):
 Int))∧
 I64
 (sbyte
 tabLen8
 (Int.toNat (IntKind.wrap .u8 (ishr a0 8))))∧
 I64
 ((0:Int)+8 +
 sbyte
 tabLen8
 (Int.toNat (IntKind.wrap .u8 (ishr a0 8))))∧
 ∀(W3:PW),
 Ext W0 W3→
 Post
 (.int .i64
 ((0:Int)+8 +
 sbyte
 tabLen8
 (Int.toNat (IntKind.wrap .u8 (ishr a0 8)))))
 W3)∧
 (¬256≤a0→
 (0≤IntKind.wrap .u8 a0∧
 IntKind.wrap .u8 a0 <
 (↑(ByteArray.size
 tabLen8):
 Int))∧
 I64
 (sbyte
 tabLen8
 (Int.toNat (IntKind.wrap .u8 a0)))∧
 I64
 (0 +
 sbyte
 tabLen8
 (Int.toNat (IntKind.wrap .u8 a0)))∧
 ∀(W4:PW),
 Ext W0 W4→
 Post
 (.int .i64
 (0 +
 sbyte
 tabLen8
 (Int.toNat (IntKind.wrap .u8 a0))))
 W4))
theorem callmath_bits_Len32 (W0:PW) (M:Nat→Prop) (a0:Int) (Post:Value→PW→Prop) (h:Rmath_bits_Len32 W0 M a0 Post):PCallsM Tryz.prog 171 [.int .u32 a0] W0 M Post:=
 fn_sound rfl tt_ok tt_in Tryz.func171 (cuts:=[]) rfl rfl (Nat.le_of_ble_eq_true rfl) (Eq.mpr (by kernel_rfl) h)
end Go.Proofs.YtjgpenfndnhdnaaGreat
