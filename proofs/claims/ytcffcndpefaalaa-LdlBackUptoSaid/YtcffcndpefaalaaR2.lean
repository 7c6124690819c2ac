/- R2 -/
import Derived.Test.YtcffcndpefaalaaTt
set_option linter.unusedVariables false
set_option linter.unusedSimpArgs false
set_option maxRecDepth 100000
set_option linter.unusedVariables false
namespace Go.Proofs.Ytcffcndpefaalaa
def tabLen8 : ByteArray := ByteArray.mk #[0, 1, 2, 2, 3, 3, 3, 3, 4, 4, 4, 4, 4, 4, 4, 4, 5, 5, 5, 5, 5, 5, 5, 5, 5, 5, 5, 5, 5, 5, 5, 5, 6, 6, 6, 6, 6, 6, 6, 6, 6, 6, 6, 6, 6, 6, 6, 6, 6, 6, 6, 6, 6, 6, 6, 6, 6, 6, 6, 6, 6, 6, 6, 6, 7, 7, 7, 7, 7, 7, 7, 7, 7, 7, 7, 7, 7, 7, 7, 7, 7, 7, 7, 7, 7, 7, 7, 7, 7, 7, 7, 7, 7, 7, 7, 7, 7, 7, 7, 7, 7, 7, 7, 7, 7, 7, 7, 7, 7, 7, 7, 7, 7, 7, 7, 7, 7, 7, 7, 7, 7, 7, 7, 7, 7, 7, 7, 7, 8, 8, 8, 8, 8, 8, 8, 8, 8, 8, 8, 8, 8, 8, 8, 8, 8, 8, 8, 8, 8, 8, 8, 8, 8, 8, 8, 8, 8, 8, 8, 8, 8, 8, 8, 8, 8, 8, 8, 8, 8, 8, 8, 8, 8, 8, 8, 8, 8, 8, 8, 8, 8, 8, 8, 8, 8, 8, 8, 8, 8, 8, 8, 8, 8, 8, 8, 8, 8, 8, 8, 8, 8, 8, 8, 8, 8, 8, 8, 8, 8, 8, 8, 8, 8, 8, 8, 8, 8, 8, 8, 8, 8, 8, 8, 8, 8, 8, 8, 8, 8, 8, 8, 8, 8, 8, 8, 8, 8, 8, 8, 8, 8, 8, 8, 8, 8, 8, 8, 8, 8, 8, 8, 8, 8, 8, 8, 8]
def Rmath_bits_Len32 (W0 : Go.SX.PW) (M : Nat → Prop) (a0 : Int) (Post : Go.Value → Go.SX.PW → Prop) : Prop :=
 ((65536 : Int) ≤ a0 →
 ((256 : Int) ≤ Go.SX.ishr a0 (16 : Nat) →
 Go.SX.I64 ((16 : Int) + (8 : Int)) ∧
 ((0 : Int) ≤ Go.IntKind.wrap Go.IntKind.u8 (Go.SX.ishr (Go.SX.ishr a0 (16 : Nat)) (8 : Nat)) ∧
 Go.IntKind.wrap Go.IntKind.u8 (Go.SX.ishr (Go.SX.ishr a0 (16 : Nat)) (8 : Nat)) <
 (↑(ByteArray.size
 tabLen8) :
 Int)) ∧
 Go.SX.I64
 (Go.SX.sbyte
 tabLen8
 (Int.toNat (Go.IntKind.wrap Go.IntKind.u8 (Go.SX.ishr (Go.SX.ishr a0 (16 : Nat)) (8 : Nat))))) ∧
 Go.SX.I64
 ((16 : Int) + (8 : Int) +
 Go.SX.sbyte
 tabLen8
 (Int.toNat (Go.IntKind.wrap Go.IntKind.u8 (Go.SX.ishr (Go.SX.ishr a0 (16 : Nat)) (8 : Nat))))) ∧
 ∀ (W1 : Go.SX.PW),
 Go.SX.Ext W0 W1 →
 Post
 (Go.Value.int Go.IntKind.i64
 ((16 : Int) + (8 : Int) +
 Go.SX.sbyte
 tabLen8
 (Int.toNat (Go.IntKind.wrap Go.IntKind.u8 (Go.SX.ishr (Go.SX.ishr a0 (16 : Nat)) (8 : Nat))))))
 W1) ∧
 (¬(256 : Int) ≤ Go.SX.ishr a0 (16 : Nat) →
 ((0 : Int) ≤ Go.IntKind.wrap Go.IntKind.u8 (Go.SX.ishr a0 (16 : Nat)) ∧
 Go.IntKind.wrap Go.IntKind.u8 (Go.SX.ishr a0 (16 : Nat)) <
 (↑(ByteArray.size
 tabLen8) :
 Int)) ∧
 Go.SX.I64
 (Go.SX.sbyte
 tabLen8
 (Int.toNat (Go.IntKind.wrap Go.IntKind.u8 (Go.SX.ishr a0 (16 : Nat))))) ∧
 Go.SX.I64
 ((16 : Int) +
 Go.SX.sbyte
 tabLen8
 (Int.toNat (Go.IntKind.wrap Go.IntKind.u8 (Go.SX.ishr a0 (16 : Nat))))) ∧
 ∀ (W2 : Go.SX.PW),
 Go.SX.Ext W0 W2 →
 Post
 (Go.Value.int Go.IntKind.i64
 ((16 : Int) +
 Go.SX.sbyte
 tabLen8
 (Int.toNat (Go.IntKind.wrap Go.IntKind.u8 (Go.SX.ishr a0 (16 : Nat))))))
 W2)) ∧
 (¬(65536 : Int) ≤ a0 →
 ((256 : Int) ≤ a0 →
 Go.SX.I64 ((0 : Int) + (8 : Int)) ∧
 ((0 : Int) ≤ Go.IntKind.wrap Go.IntKind.u8 (Go.SX.ishr a0 (8 : Nat)) ∧
 Go.IntKind.wrap Go.IntKind.u8 (Go.SX.ishr a0 (8 : Nat)) <
 (↑(ByteArray.size
 tabLen8) :
 Int)) ∧
 Go.SX.I64
 (Go.SX.sbyte
 tabLen8
 (Int.toNat (Go.IntKind.wrap Go.IntKind.u8 (Go.SX.ishr a0 (8 : Nat))))) ∧
 Go.SX.I64
 ((0 : Int) + (8 : Int) +
 Go.SX.sbyte
 tabLen8
 (Int.toNat (Go.IntKind.wrap Go.IntKind.u8 (Go.SX.ishr a0 (8 : Nat))))) ∧
 ∀ (W3 : Go.SX.PW),
 Go.SX.Ext W0 W3 →
 Post
 (Go.Value.int Go.IntKind.i64
 ((0 : Int) + (8 : Int) +
 Go.SX.sbyte
 tabLen8
 (Int.toNat (Go.IntKind.wrap Go.IntKind.u8 (Go.SX.ishr a0 (8 : Nat))))))
 W3) ∧
 (¬(256 : Int) ≤ a0 →
 ((0 : Int) ≤ Go.IntKind.wrap Go.IntKind.u8 a0 ∧
 Go.IntKind.wrap Go.IntKind.u8 a0 <
 (↑(ByteArray.size
 tabLen8) :
 Int)) ∧
 Go.SX.I64
 (Go.SX.sbyte
 tabLen8
 (Int.toNat (Go.IntKind.wrap Go.IntKind.u8 a0))) ∧
 Go.SX.I64
 ((0 : Int) +
 Go.SX.sbyte
 tabLen8
 (Int.toNat (Go.IntKind.wrap Go.IntKind.u8 a0))) ∧
 ∀ (W4 : Go.SX.PW),
 Go.SX.Ext W0 W4 →
 Post
 (Go.Value.int Go.IntKind.i64
 ((0 : Int) +
 Go.SX.sbyte
 tabLen8
 (Int.toNat (Go.IntKind.wrap Go.IntKind.u8 a0))))
 W4))
theorem callmath_bits_Len32 (W0 : Go.SX.PW) (M : Nat → Prop) (a0 : Int) (Post : Go.Value → Go.SX.PW → Prop) (h : Rmath_bits_Len32 W0 M a0 Post) : Go.SX.PCallsM Go.Proofs.Try.prog 62 [Go.Value.int Go.IntKind.u32 a0] W0 M Post :=
  Go.SX.fn_sound rfl tt_ok tt_in Go.Proofs.Try.func62 (cuts := []) rfl rfl (Nat.le_of_ble_eq_true rfl) (Eq.mpr (by kernel_rfl) h)
end Go.Proofs.Ytcffcndpefaalaa
