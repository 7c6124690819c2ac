/- R15 -/
import Derived.Test.YtbingbjhgoanoaaGreatTt
set_option linter.unusedVariables false
set_option linter.unusedSimpArgs false
set_option maxRecDepth 100000
set_option linter.unusedVariables false
namespace Go.Proofs.YtbingbjhgoanoaaGreat
open Go Go.SX
def Rlaw8_PolyNews (W0 : PW) (M : Nat → Prop) (a0 : Sl) (Post : Value → PW → Prop) : Prop :=
 callN Tryz.prog W0 M 15 [] W0 fun v1 W2 =>
 ∃ b3 : Bool,
 v1 = .bool b3 ∧
 ((!b3) = true → ∀ (W4 : PW), Ext W2 W4 → Post (.bool false) W4) ∧
 ((!b3) = false →
 ∃ (F5 : List PL → PW → Prop),
 (∃ (F6 : List PL → PW → Prop),
 ∃ (F7 : List PL → PW → Nat),
 F6 [.row [], .row [], .val (.int .i64 0)] W2 ∧
 ∀ (l8 l9 : List (List Value)) (i10 : Int) (W11 : PW),
 F6 [.row l8, .row l9, .val (.int .i64 i10)] W11 →
 (i10 < (a0.2 : Int) →
 (i10 < 14 →
 inB a0 i10 ∧
 ∃ t12 : ByteArray,
 ElemAt W11 a0 4 (Int.toNat i10) 3 [.string t12] ∧
 callN Tryz.prog W0 M 16 [.string t12] W11 fun v13 W14 =>
 ∃ s15 : Sl,
 ∃ b16 : Bool,
 ∃ s17 : Sl,
 ∃ b18 : Bool,
 ∃ s19 : Sl,
 ∃ s20 : Sl,
 ∃ b21 : Bool,
 v13 = .tuple ⟨[.agg ⟨[s15.v, .bool b16, s17.v]⟩, .agg ⟨[.bool b18, s19.v, s20.v]⟩, .bool b21]⟩ ∧
 (b21 = true →
 inB a0 i10 ∧
 ∃ i22 : Int,
 ∃ i23 : Int,
 ∃ i24 : Int,
 ElemAt W14 a0 4 (Int.toNat i10) 0 [.int .u8 i22, .int .u8 i23, .int .u8 i24] ∧
 inB a0 i10 ∧
 ∃ i25 : Int,
 ∃ i26 : Int,
 ∃ i27 : Int,
 ElemAt W14 a0 4 (Int.toNat i10) 0 [.int .u8 i25, .int .u8 i26, .int .u8 i27] ∧
 (Ext W14 W14 ∧
 ((List.length l8 + List.length [[.int .u8 i22, .int .u8 i23, .int .u8 i24, s15.v, .bool b16, s17.v]]) * 64 ≤ 140737488355328 ∧
 Ext W14 W14 ∧
 Ext W14 W14 ∧
 (List.length l9 + List.length [[.int .u8 i25, .int .u8 i26, .int .u8 i27, .bool b18, s19.v, s20.v]]) * 64 ≤ 140737488355328 ∧
 Ext W14 W14 ∧
 Ext W14 W14 ∧
 I64 (i10 + 1) ∧
 stp F6 F7
 [.row (l8 ++ [[.int .u8 i22, .int .u8 i23, .int .u8 i24, s15.v, .bool b16, s17.v]]),
 .row (l9 ++ [[.int .u8 i25, .int .u8 i26, .int .u8 i27, .bool b18, s19.v, s20.v]]), .val (.int .i64 (i10 + 1))]
 W14 [.row l8, .row l9, .val (.int .i64 i10)] W11) ∧
 Ext W14 W14 ∧
 (List.length l8 + List.length [[.int .u8 i22, .int .u8 i23, .int .u8 i24, s15.v, .bool b16, s17.v]]) * 64 ≤ 140737488355328 ∧
 Ext W14 W14 ∧
 (List.length l9 + List.length [[.int .u8 i25, .int .u8 i26, .int .u8 i27, .bool b18, s19.v, s20.v]]) * 64 ≤ 140737488355328 ∧
 Ext W14 W14 ∧
 Ext W14 W14 ∧
 I64 (i10 + 1) ∧
 stp F6 F7
 [.row (l8 ++ [[.int .u8 i22, .int .u8 i23, .int .u8 i24, s15.v, .bool b16, s17.v]]),
 .row (l9 ++ [[.int .u8 i25, .int .u8 i26, .int .u8 i27, .bool b18, s19.v, s20.v]]), .val (.int .i64 (i10 + 1))]
 W14 [.row l8, .row l9, .val (.int .i64 i10)] W11) ∧
 Ext W14 W14 ∧
 Ext W14 W14 ∧
 (List.length l8 + List.length [[.int .u8 i22, .int .u8 i23, .int .u8 i24, s15.v, .bool b16, s17.v]]) * 64 ≤ 140737488355328 ∧
 Ext W14 W14 ∧
 (List.length l9 + List.length [[.int .u8 i25, .int .u8 i26, .int .u8 i27, .bool b18, s19.v, s20.v]]) * 64 ≤ 140737488355328 ∧
 Ext W14 W14 ∧
 Ext W14 W14 ∧
 I64 (i10 + 1) ∧
 stp F6 F7
 [.row (l8 ++ [[.int .u8 i22, .int .u8 i23, .int .u8 i24, s15.v, .bool b16, s17.v]]),
 .row (l9 ++ [[.int .u8 i25, .int .u8 i26, .int .u8 i27, .bool b18, s19.v, s20.v]]), .val (.int .i64 (i10 + 1))]
 W14 [.row l8, .row l9, .val (.int .i64 i10)] W11) ∧
 (b21 = false → I64 (i10 + 1) ∧ stp F6 F7 [.row l8, .row l9, .val (.int .i64 (i10 + 1))] W14 [.row l8, .row l9, .val (.int .i64 i10)] W11)) ∧
 (¬i10 < 14 → F5 [.row l8, .row l9] W11)) ∧
 (¬i10 < (a0.2 : Int) → F5 [.row l8, .row l9] W11)) ∧
 ∀ (l28 l29 : List (List Value)) (W30 : PW),
 F5 [.row l28, .row l29] W30 →
 ∀ (s31 : Sl) (W32 : PW),
 Ext W30 W32 →
 SX.Own W32 45 6 s31 l28 →
 Fr W0 W30 s31 →
 callN Tryz.prog W0 M 18 [s31.v] W32 fun v33 W34 =>
 ∃ s35 : Sl,
 v33 = .agg ⟨[s35.v]⟩ ∧
 ∀ (s36 : Sl) (W37 : PW),
 Ext W34 W37 →
 SX.Own W37 47 6 s36 l29 →
 Fr W0 W34 s36 →
 callN Tryz.prog W0 M 19 [s36.v] W37 fun v38 W39 =>
 ∃ s40 : Sl, v38 = s40.v ∧ callN Tryz.prog W0 M 17 [.agg ⟨[s35.v]⟩, s40.v] W39 fun v41 W42 => ∃ b43 : Bool, v41 = .bool b43 ∧ ∀ (W44 : PW), Ext W42 W44 → Post (.bool b43) W44)
theorem calllaw8_PolyNews (W0 : PW) (M : Nat → Prop) (a0 : Sl) (Post : Value → PW → Prop) (h : Rlaw8_PolyNews W0 M a0 Post) : PCallsM Tryz.prog 3 [a0.v] W0 M Post :=
  fn_sound rfl tt_ok tt_in Tryz.func3 (cuts := [11]) rfl rfl (Nat.le_of_ble_eq_true rfl) (Eq.mpr (by kernel_rfl) h)
end Go.Proofs.YtbingbjhgoanoaaGreat
