/- R13 -/
import Derived.Test.YtbingbjhgoanoaaGreatTt
set_option linter.unusedVariables false
set_option linter.unusedSimpArgs false
set_option maxRecDepth 100000
set_option linter.unusedVariables false
namespace Go.Proofs.YtbingbjhgoanoaaGreat
open Go Go.SX
def Rbook_Terms (W0 : PW) (M : Nat → Prop) (a0 : Sl) (a1 : Int) (a2 : Int) (Post : Value → PW → Prop) : Prop :=
 (a1 < (a0.2 : Int) → ∀ (W1 : PW), Ext W0 W1 → Post (.bool false) W1) ∧
 (¬a1 < (a0.2 : Int) →
 ∃ (F2 : List PL → PW → Prop),
 ∃ (F3 : List PL → PW → Nat),
 F2 [.val (.int .i64 0)] W0 ∧
 ∀ (i4 : Int) (W5 : PW),
 F2 [.val (.int .i64 i4)] W5 →
 (i4 < (a0.2 : Int) →
 inB a0 i4 ∧
 ∃ t6 : ByteArray,
 ElemAt W5 a0 4 (Int.toNat i4) 3 [.string t6] ∧
 (30 < (↑(ByteArray.size t6) : Int) → ∀ (W7 : PW), Ext W5 W7 → Post (.bool false) W7) ∧
 (¬30 < (↑(ByteArray.size t6) : Int) →
 inB a0 i4 ∧
 ((0 : Int) ≤ 0 ∧ (0 : Int) < 3) ∧
 ∃ i8 : Int,
 ElemAt W5 a0 4 (Int.toNat i4) 0 [.int .u8 i8] ∧
 I64 i8 ∧
 (a2 < i8 → ∀ (W9 : PW), Ext W5 W9 → Post (.bool false) W9) ∧
 (¬a2 < i8 →
 inB a0 i4 ∧
 ((0 : Int) ≤ 1 ∧ (1 : Int) < 3) ∧
 ∃ i10 : Int,
 ElemAt W5 a0 4 (Int.toNat i4) 1 [.int .u8 i10] ∧
 I64 i10 ∧
 (a2 < i10 → ∀ (W11 : PW), Ext W5 W11 → Post (.bool false) W11) ∧
 (¬a2 < i10 →
 inB a0 i4 ∧
 ((0 : Int) ≤ 2 ∧ (2 : Int) < 3) ∧
 ∃ i12 : Int,
 ElemAt W5 a0 4 (Int.toNat i4) 2 [.int .u8 i12] ∧
 I64 i12 ∧ (a2 < i12 → ∀ (W13 : PW), Ext W5 W13 → Post (.bool false) W13) ∧ (¬a2 < i12 → I64 (i4 + 1) ∧ stp F2 F3 [.val (.int .i64 (i4 + 1))] W5 [.val (.int .i64 i4)] W5))))) ∧
 (¬i4 < (a0.2 : Int) → ∀ (W14 : PW), Ext W5 W14 → Post (.bool true) W14))
theorem callbook_Terms (W0 : PW) (M : Nat → Prop) (a0 : Sl) (a1 : Int) (a2 : Int) (Post : Value → PW → Prop) (h : Rbook_Terms W0 M a0 a1 a2 Post) : PCallsM Tryz.prog 65 [a0.v, .int .i64 a1, .int .i64 a2] W0 M Post :=
  fn_sound rfl tt_ok tt_in Tryz.func65 (cuts := []) rfl rfl (Nat.le_of_ble_eq_true rfl) (Eq.mpr (by kernel_rfl) h)
def Rlaw8_Of (W0 : PW) (M : Nat → Prop) (a0 : Sl) (a1 : Int) (Post : Value → PW → Prop) : Prop :=
 callN Tryz.prog W0 M 51 [a0.v] W0 fun v1 W2 =>
 ∃ s3 : Sl,
 ∃ b4 : Bool,
 v1 = .tuple ⟨[s3.v, .bool b4]⟩ ∧
 ((!b4) = true → ∀ (W5 : PW), Ext W2 W5 → Post (.tuple ⟨[.agg ⟨[.slice none 0 0]⟩, .slice none 0 0, .bool false]⟩) W5) ∧
 ((!b4) = false →
 callN Tryz.prog W0 M 65 [a0.v, .int .i64 14, .int .i64 a1] W2 fun v6 W7 =>
 ∃ b8 : Bool,
 v6 = .bool b8 ∧
 ((!b8) = true → ∀ (W9 : PW), Ext W7 W9 → Post (.tuple ⟨[.agg ⟨[.slice none 0 0]⟩, .slice none 0 0, .bool false]⟩) W9) ∧
 ((!b8) = false →
 callN Tryz.prog W0 M 25 [a0.v] W7 fun v10 W11 =>
 ∃ s12 : Sl, ∃ i13 : Int, v10 = .tuple ⟨[.agg ⟨[s12.v]⟩, .int .i64 i13]⟩ ∧ ∀ (W14 : PW), Ext W11 W14 → Post (.tuple ⟨[.agg ⟨[s12.v]⟩, s3.v, .bool true]⟩) W14))
theorem calllaw8_Of (W0 : PW) (M : Nat → Prop) (a0 : Sl) (a1 : Int) (Post : Value → PW → Prop) (h : Rlaw8_Of W0 M a0 a1 Post) : PCallsM Tryz.prog 20 [a0.v, .int .i64 a1] W0 M Post :=
  fn_sound rfl tt_ok tt_in Tryz.func20 (cuts := []) rfl rfl (Nat.le_of_ble_eq_true rfl) (Eq.mpr (by kernel_rfl) h)
def Rlaw8_alive (W0 : PW) (M : Nat → Prop) (Post : Value → PW → Prop) : Prop :=
 callN Tryz.prog W0 M (39 : Nat) [Value.int IntKind.i64 (0 : Int)] W0 fun v1 W2 =>
 ∃ s3 : Sl,
 v1 = Value.agg ⟨[s3.v]⟩ ∧
 callN Tryz.prog W0 M (58 : Nat) [Value.int IntKind.i64 (1 : Int)] W2 fun v4 W5 =>
 ∃ s6 : Sl,
 ∃ b7 : Bool,
 ∃ s8 : Sl,
 v4 = Value.agg ⟨[s6.v, Value.bool b7, s8.v]⟩ ∧
 callN Tryz.prog W0 M (41 : Nat) [Value.agg ⟨[s6.v, Value.bool b7, s8.v]⟩] W5 fun v9 W10 =>
 ∃ s11 : Sl,
 v9 = Value.agg ⟨[s11.v]⟩ ∧
 callN Tryz.prog W0 M (31 : Nat) [Value.agg ⟨[s3.v]⟩, Value.agg ⟨[s11.v]⟩] W10 fun v12 W13 =>
 ∃ s14 : Sl,
 v12 = Value.agg ⟨[s14.v]⟩ ∧
 callN Tryz.prog W0 M (58 : Nat) [Value.int IntKind.i64 (1 : Int)] W13 fun v15 W16 =>
 ∃ s17 : Sl,
 ∃ b18 : Bool,
 ∃ s19 : Sl,
 v15 = Value.agg ⟨[s17.v, Value.bool b18, s19.v]⟩ ∧
 callN Tryz.prog W0 M (41 : Nat) [Value.agg ⟨[s17.v, Value.bool b18, s19.v]⟩] W16 fun v20 W21 =>
 ∃ s22 : Sl,
 v20 = Value.agg ⟨[s22.v]⟩ ∧
 callN Tryz.prog W0 M (33 : Nat) [Value.agg ⟨[s3.v]⟩, Value.agg ⟨[s22.v]⟩] W21 fun v23 W24 =>
 ∃ s25 : Sl,
 v23 = Value.agg ⟨[s25.v]⟩ ∧
 callN Tryz.prog W0 M (21 : Nat) [Value.agg ⟨[s14.v]⟩, Value.agg ⟨[s25.v]⟩] W24 fun v26 W27 =>
 ∃ s28 : Sl,
 ∃ b29 : Bool,
 v26 = Value.tuple ⟨[Value.agg ⟨[s28.v]⟩, Value.bool b29]⟩ ∧
 callN Tryz.prog W0 M (24 : Nat) [Value.agg ⟨[s28.v]⟩] W27 fun v30 W31 =>
 ∃ s32 : Sl,
 v30 = s32.v ∧
 (b29 = true →
 ((↑s32.2 : Int) = (2 : Int) →
 inB s32 (0 : Int) ∧
 ∃ i33 : Int,
 ∃ i34 : Int,
 ∃ i35 : Int,
 ∃ t36 : ByteArray,
 ElemAt W31 s32 (4 : Nat) (0 : Nat) (0 : Nat) [Value.int IntKind.u8 i33, Value.int IntKind.u8 i34, Value.int IntKind.u8 i35, Value.string t36] ∧
 ([Value.int IntKind.u8 i33, Value.int IntKind.u8 i34, Value.int IntKind.u8 i35, Value.string t36] =
 [Value.int IntKind.u8 (0 : Int), Value.int IntKind.u8 (0 : Int), Value.int IntKind.u8 (0 : Int), Value.string (ByteArray.mk #[45, 49])] →
 inB s32 (1 : Int) ∧
 ∃ i37 : Int,
 ∃ i38 : Int,
 ∃ i39 : Int,
 ∃ t40 : ByteArray,
 ElemAt W31 s32 (4 : Nat) (1 : Nat) (0 : Nat) [Value.int IntKind.u8 i37, Value.int IntKind.u8 i38, Value.int IntKind.u8 i39, Value.string t40] ∧
 ∀ (W41 : PW),
 Ext W31 W41 →
 Post
 (Value.bool
 (@decide (Array.toList ⟨[Value.int IntKind.u8 i37, Value.int IntKind.u8 i38, Value.int IntKind.u8 i39, Value.string t40]⟩ =
 Array.toList ⟨[Value.int IntKind.u8 (2 : Int), Value.int IntKind.u8 (0 : Int), Value.int IntKind.u8 (0 : Int), Value.string (ByteArray.mk #[49])]⟩) (Classical.propDecidable _)))
 W41) ∧
 (¬[Value.int IntKind.u8 i33, Value.int IntKind.u8 i34, Value.int IntKind.u8 i35, Value.string t36] =
 [Value.int IntKind.u8 (0 : Int), Value.int IntKind.u8 (0 : Int), Value.int IntKind.u8 (0 : Int), Value.string (ByteArray.mk #[45, 49])] →
 ∀ (W42 : PW), Ext W31 W42 → Post (Value.bool false) W42)) ∧
 (¬(↑s32.2 : Int) = (2 : Int) → ∀ (W43 : PW), Ext W31 W43 → Post (Value.bool false) W43)) ∧
 (b29 = false → ∀ (W44 : PW), Ext W31 W44 → Post (Value.bool false) W44)
theorem calllaw8_alive (W0 : PW) (M : Nat → Prop) (Post : Value → PW → Prop) (h : Rlaw8_alive W0 M Post) : PCallsM Tryz.prog 15 [] W0 M Post :=
  fn_sound rfl tt_ok tt_in Tryz.func15 (cuts := []) rfl rfl (Nat.le_of_ble_eq_true rfl) (Eq.mpr (by kernel_rfl) h)
end Go.Proofs.YtbingbjhgoanoaaGreat
