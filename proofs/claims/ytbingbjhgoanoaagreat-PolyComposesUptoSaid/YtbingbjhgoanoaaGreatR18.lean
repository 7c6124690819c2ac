/- R18 -/
import Derived.Test.YtbingbjhgoanoaaGreatTt
set_option linter.unusedVariables false
set_option linter.unusedSimpArgs false
set_option maxRecDepth 100000
set_option linter.unusedVariables false
namespace Go.Proofs.YtbingbjhgoanoaaGreat
open Go Go.SX
def Rref1_PolyDegree (W0 : PW) (M : Nat → Prop) (a0 : Sl) (Post : Value → PW → Prop) : Prop :=
 ∃ (F1 : List PL → PW → Prop),
 ∃ (F2 : List PL → PW → Nat),
 F1 [.val (.int .i64 (-1 : Int)), .val (.int .i64 0)] W0 ∧
 ∀ (i3 i4 : Int) (W5 : PW),
 F1 [.val (.int .i64 i3), .val (.int .i64 i4)] W5 →
 (i4 < (a0.2 : Int) →
 inB a0 i4 ∧
 ∃ i6 : Int,
 ∃ i7 : Int,
 ∃ i8 : Int,
 ElemAt W5 a0 6 (Int.toNat i4) 0 [.int .u8 i6, .int .u8 i7, .int .u8 i8] ∧
 callN Tryz.prog W0 M 74 [.agg ⟨[.int .u8 i6, .int .u8 i7, .int .u8 i8]⟩] W5 fun v9 W10 =>
 ∃ i11 : Int, v9 = .int .i64 i11 ∧ I64 (i4 + 1) ∧ stp F1 F2 [.val (.int .i64 (mx i3 i11)), .val (.int .i64 (i4 + 1))] W10 [.val (.int .i64 i3), .val (.int .i64 i4)] W5) ∧
 (¬i4 < (a0.2 : Int) → ∀ (W12 : PW), Ext W5 W12 → Post (.int .i64 i3) W12)
theorem callref1_PolyDegree (W0 : PW) (M : Nat → Prop) (a0 : Sl) (Post : Value → PW → Prop) (h : Rref1_PolyDegree W0 M a0 Post) : PCallsM Tryz.prog 28 [a0.v] W0 M Post :=
  fn_sound rfl tt_ok tt_in Tryz.func28 (cuts := []) rfl rfl (Nat.le_of_ble_eq_true rfl) (Eq.mpr (by kernel_rfl) h)
end Go.Proofs.YtbingbjhgoanoaaGreat
