/- R19 -/
import Derived.Test.YtbingbjhgoanoaaGreatTt
set_option linter.unusedVariables false
set_option linter.unusedSimpArgs false
set_option maxRecDepth 100000
set_option linter.unusedVariables false
namespace Go.Proofs.YtbingbjhgoanoaaGreat
open Go Go.SX
def Rpoly_Degree (W0 : PW) (M : Nat → Prop) (a0_0 : Sl) (Post : Value → PW → Prop) : Prop :=
 ((a0_0.2 : Int) = 0 → ∀ (W1 : PW), Ext W0 W1 → Post (.int .i64 (-1 : Int)) W1) ∧
 (¬(a0_0.2 : Int) = 0 →
 I64 ((a0_0.2 : Int) - 1) ∧
 inB a0_0 ((a0_0.2 : Int) - 1) ∧
 ∃ i2 : Int,
 ∃ i3 : Int,
 ∃ i4 : Int,
 ElemAt W0 a0_0 6 (Int.toNat ((a0_0.2 : Int) - 1)) 0 [.int .u8 i2, .int .u8 i3, .int .u8 i4] ∧
 callN Tryz.prog W0 M 83 [.agg ⟨[.int .u8 i2, .int .u8 i3, .int .u8 i4]⟩] W0 fun v5 W6 => ∃ i7 : Int, v5 = .int .i64 i7 ∧ ∀ (W8 : PW), Ext W6 W8 → Post (.int .i64 i7) W8)
theorem callpoly_Degree (W0 : PW) (M : Nat → Prop) (a0_0 : Sl) (Post : Value → PW → Prop) (h : Rpoly_Degree W0 M a0_0 Post) : PCallsM Tryz.prog 47 [.agg #[a0_0.v]] W0 M Post :=
  fn_sound rfl tt_ok tt_in Tryz.func47 (cuts := []) rfl rfl (Nat.le_of_ble_eq_true rfl) (Eq.mpr (by kernel_rfl) h)
end Go.Proofs.YtbingbjhgoanoaaGreat
