/- R13 -/
import Derived.Test.YtbingbjhgoanoaaGreatTt
set_option linter.unusedVariables false
set_option linter.unusedSimpArgs false
set_option maxRecDepth 100000
set_option linter.unusedVariables false
namespace Go.Proofs.YtbingbjhgoanoaaGreat
open Go Go.SX
def Rbook_SameTerms (W0 : PW) (M : Nat → Prop) (a0 : Sl) (a1 : Sl) (Post : Value → PW → Prop) : Prop :=
 ((a0.2 : Int) ≠ (a1.2 : Int) → ∀ (W1 : PW), Ext W0 W1 → Post (Value.bool false) W1) ∧
 (¬(a0.2 : Int) ≠ (a1.2 : Int) →
 ∃ (F2 : List PL → PW → Prop),
 ∃ (F3 : List PL → PW → Nat),
 F2 [PL.val (Value.int .i64 0)] W0 ∧
 ∀ (i4 : Int) (W5 : PW),
 F2 [PL.val (Value.int .i64 i4)] W5 →
 (i4 < (a0.2 : Int) →
 inB a0 i4 ∧
 ∃ i6 : Int,
 ∃ i7 : Int,
 ∃ i8 : Int,
 ∃ t9 : ByteArray,
 ElemAt W5 a0 4 (Int.toNat i4) 0 [Value.int .u8 i6, Value.int .u8 i7, Value.int .u8 i8, Value.string t9] ∧
 inB a1 i4 ∧
 ∃ i10 : Int,
 ∃ i11 : Int,
 ∃ i12 : Int,
 ∃ t13 : ByteArray,
 ElemAt W5 a1 4 (Int.toNat i4) 0 [Value.int .u8 i10, Value.int .u8 i11, Value.int .u8 i12, Value.string t13] ∧
 ([Value.int .u8 i6, Value.int .u8 i7, Value.int .u8 i8, Value.string t9] ≠ [Value.int .u8 i10, Value.int .u8 i11, Value.int .u8 i12, Value.string t13] → ∀ (W14 : PW), Ext W5 W14 → Post (Value.bool false) W14) ∧
 (¬[Value.int .u8 i6, Value.int .u8 i7, Value.int .u8 i8, Value.string t9] ≠ [Value.int .u8 i10, Value.int .u8 i11, Value.int .u8 i12, Value.string t13] →
 I64 (i4 + 1) ∧ stp F2 F3 [PL.val (Value.int .i64 (i4 + 1))] W5 [PL.val (Value.int .i64 i4)] W5)) ∧
 (¬i4 < (a0.2 : Int) → ∀ (W15 : PW), Ext W5 W15 → Post (Value.bool true) W15))
theorem callbook_SameTerms (W0 : PW) (M : Nat → Prop) (a0 : Sl) (a1 : Sl) (Post : Value → PW → Prop) (h : Rbook_SameTerms W0 M a0 a1 Post) : PCallsM Tryz.prog 52 [a0.v, a1.v] W0 M Post :=
  fn_sound rfl tt_ok tt_in Tryz.func52 (cuts := []) rfl rfl (Nat.le_of_ble_eq_true rfl) (Eq.mpr (by kernel_rfl) h)
def Rbook_Terms (W0 : PW) (M : Nat → Prop) (a0 : Sl) (a1 : Int) (a2 : Int) (Post : Value → PW → Prop) : Prop :=
 (a1 < (a0.2 : Int) → ∀ (W1 : PW), Ext W0 W1 → Post (.bool false) W1) ∧
 (¬a1 < (a0.2 : Int) →
 ∃ (F2 : List PL → PW → Prop),
 ∃ (F3 : List PL → PW → Nat),
 F2 [.val (.int .i64 0)] W0 ∧
 ∀ (i4 : Int) (W5 : PW),
 F2 [.val (.int .i64 i4)] W5 →
 (i4 < (a0.2 : Int) →
 inB a0 i4 ∧
 ∃ t6 : ByteArray,
 ElemAt W5 a0 4 (Int.toNat i4) 3 [.string t6] ∧
 (30 < (↑(ByteArray.size t6) : Int) → ∀ (W7 : PW), Ext W5 W7 → Post (.bool false) W7) ∧
 (¬30 < (↑(ByteArray.size t6) : Int) →
 inB a0 i4 ∧
 ((0 : Int) ≤ 0 ∧ (0 : Int) < 3) ∧
 ∃ i8 : Int,
 ElemAt W5 a0 4 (Int.toNat i4) 0 [.int .u8 i8] ∧
 I64 i8 ∧
 (a2 < i8 → ∀ (W9 : PW), Ext W5 W9 → Post (.bool false) W9) ∧
 (¬a2 < i8 →
 inB a0 i4 ∧
 ((0 : Int) ≤ 1 ∧ (1 : Int) < 3) ∧
 ∃ i10 : Int,
 ElemAt W5 a0 4 (Int.toNat i4) 1 [.int .u8 i10] ∧
 I64 i10 ∧
 (a2 < i10 → ∀ (W11 : PW), Ext W5 W11 → Post (.bool false) W11) ∧
 (¬a2 < i10 →
 inB a0 i4 ∧
 ((0 : Int) ≤ 2 ∧ (2 : Int) < 3) ∧
 ∃ i12 : Int,
 ElemAt W5 a0 4 (Int.toNat i4) 2 [.int .u8 i12] ∧
 I64 i12 ∧ (a2 < i12 → ∀ (W13 : PW), Ext W5 W13 → Post (.bool false) W13) ∧ (¬a2 < i12 → I64 (i4 + 1) ∧ stp F2 F3 [.val (.int .i64 (i4 + 1))] W5 [.val (.int .i64 i4)] W5))))) ∧
 (¬i4 < (a0.2 : Int) → ∀ (W14 : PW), Ext W5 W14 → Post (.bool true) W14))
theorem callbook_Terms (W0 : PW) (M : Nat → Prop) (a0 : Sl) (a1 : Int) (a2 : Int) (Post : Value → PW → Prop) (h : Rbook_Terms W0 M a0 a1 a2 Post) : PCallsM Tryz.prog 65 [a0.v, .int .i64 a1, .int .i64 a2] W0 M Post :=
  fn_sound rfl tt_ok tt_in Tryz.func65 (cuts := []) rfl rfl (Nat.le_of_ble_eq_true rfl) (Eq.mpr (by kernel_rfl) h)
def Rbook_Within (W0 : PW) (M : Nat → Prop) (a0 : Int) (a1 : Int) (a2 : Int) (Post : Value → PW → Prop) : Prop :=
 I64 (a2 - a1) ∧
 I64 (a2 - a1 + 1) ∧
 a2 - a1 + 1 ≠ 0 ∧
 (Int.tmod a0 (a2 - a1 + 1) < 0 →
 I64 (a2 - a1) ∧ I64 (a2 - a1 + 1) ∧ I64 (Int.tmod a0 (a2 - a1 + 1) + (a2 - a1 + 1)) ∧ I64 (a1 + (Int.tmod a0 (a2 - a1 + 1) + (a2 - a1 + 1))) ∧ ∀ (W1 : PW), Ext W0 W1 → Post (.int .i64 (a1 + (Int.tmod a0 (a2 - a1 + 1) + (a2 - a1 + 1)))) W1) ∧
 (¬Int.tmod a0 (a2 - a1 + 1) < 0 → I64 (a1 + Int.tmod a0 (a2 - a1 + 1)) ∧ ∀ (W2 : PW), Ext W0 W2 → Post (.int .i64 (a1 + Int.tmod a0 (a2 - a1 + 1))) W2)
theorem callbook_Within (W0 : PW) (M : Nat → Prop) (a0 : Int) (a1 : Int) (a2 : Int) (Post : Value → PW → Prop) (h : Rbook_Within W0 M a0 a1 a2 Post) : PCallsM Tryz.prog 50 [.int .i64 a0, .int .i64 a1, .int .i64 a2] W0 M Post :=
  fn_sound rfl tt_ok tt_in Tryz.func50 (cuts := []) rfl rfl (Nat.le_of_ble_eq_true rfl) (Eq.mpr (by kernel_rfl) h)
def Rlaw8_Is (W0 : PW) (M : Nat → Prop) (a0_0 : Sl) (a1 : Sl) (Post : Value → PW → Prop) : Prop :=
 callN Tryz.prog W0 M 24 [.agg ⟨[a0_0.v]⟩] W0 fun v1 W2 =>
 ∃ s3 : Sl,
 v1 = s3.v ∧ callN Tryz.prog W0 M 61 [a1.v] W2 fun v4 W5 => ∃ s6 : Sl, v4 = s6.v ∧ callN Tryz.prog W0 M 52 [s3.v, s6.v] W5 fun v7 W8 => ∃ b9 : Bool, v7 = .bool b9 ∧ ∀ (W10 : PW), Ext W8 W10 → Post (.bool b9) W10
theorem calllaw8_Is (W0 : PW) (M : Nat → Prop) (a0_0 : Sl) (a1 : Sl) (Post : Value → PW → Prop) (h : Rlaw8_Is W0 M a0_0 a1 Post) : PCallsM Tryz.prog 17 [.agg #[a0_0.v], a1.v] W0 M Post :=
  fn_sound rfl tt_ok tt_in Tryz.func17 (cuts := []) rfl rfl (Nat.le_of_ble_eq_true rfl) (Eq.mpr (by kernel_rfl) h)
def Rlaw8_Of (W0 : PW) (M : Nat → Prop) (a0 : Sl) (a1 : Int) (Post : Value → PW → Prop) : Prop :=
 callN Tryz.prog W0 M 51 [a0.v] W0 fun v1 W2 =>
 ∃ s3 : Sl,
 ∃ b4 : Bool,
 v1 = .tuple ⟨[s3.v, .bool b4]⟩ ∧
 ((!b4) = true → ∀ (W5 : PW), Ext W2 W5 → Post (.tuple ⟨[.agg ⟨[.slice none 0 0]⟩, .slice none 0 0, .bool false]⟩) W5) ∧
 ((!b4) = false →
 callN Tryz.prog W0 M 65 [a0.v, .int .i64 14, .int .i64 a1] W2 fun v6 W7 =>
 ∃ b8 : Bool,
 v6 = .bool b8 ∧
 ((!b8) = true → ∀ (W9 : PW), Ext W7 W9 → Post (.tuple ⟨[.agg ⟨[.slice none 0 0]⟩, .slice none 0 0, .bool false]⟩) W9) ∧
 ((!b8) = false →
 callN Tryz.prog W0 M 25 [a0.v] W7 fun v10 W11 =>
 ∃ s12 : Sl, ∃ i13 : Int, v10 = .tuple ⟨[.agg ⟨[s12.v]⟩, .int .i64 i13]⟩ ∧ ∀ (W14 : PW), Ext W11 W14 → Post (.tuple ⟨[.agg ⟨[s12.v]⟩, s3.v, .bool true]⟩) W14))
theorem calllaw8_Of (W0 : PW) (M : Nat → Prop) (a0 : Sl) (a1 : Int) (Post : Value → PW → Prop) (h : Rlaw8_Of W0 M a0 a1 Post) : PCallsM Tryz.prog 20 [a0.v, .int .i64 a1] W0 M Post :=
  fn_sound rfl tt_ok tt_in Tryz.func20 (cuts := []) rfl rfl (Nat.le_of_ble_eq_true rfl) (Eq.mpr (by kernel_rfl) h)
def Rlaw8_alive (W0 : PW) (M : Nat → Prop) (Post : Value → PW → Prop) : Prop :=
 callN Tryz.prog W0 M (39 : Nat) [Value.int IntKind.i64 (0 : Int)] W0 fun v1 W2 =>
 ∃ s3 : Sl,
 v1 = Value.agg ⟨[s3.v]⟩ ∧
 (callN Tryz.prog W0 M (58 : Nat) [Value.int IntKind.i64 (1 : Int)] W2 fun v4 W5 =>
 ∃ s6 : Sl,
 ∃ b7 : Bool,
 ∃ s8 : Sl,
 v4 = Value.agg ⟨[s6.v, Value.bool b7, s8.v]⟩ ∧
 (callN Tryz.prog W0 M (41 : Nat) [Value.agg ⟨[s6.v, Value.bool b7, s8.v]⟩] W5 fun v9 W10 =>
 ∃ s11 : Sl,
 v9 = Value.agg ⟨[s11.v]⟩ ∧
 (callN Tryz.prog W0 M (31 : Nat) [Value.agg ⟨[s3.v]⟩, Value.agg ⟨[s11.v]⟩] W10 fun v12 W13 =>
 ∃ s14 : Sl,
 v12 = Value.agg ⟨[s14.v]⟩ ∧
 (callN Tryz.prog W0 M (58 : Nat) [Value.int IntKind.i64 (1 : Int)] W13 fun v15 W16 =>
 ∃ s17 : Sl,
 ∃ b18 : Bool,
 ∃ s19 : Sl,
 v15 = Value.agg ⟨[s17.v, Value.bool b18, s19.v]⟩ ∧
 (callN Tryz.prog W0 M (41 : Nat) [Value.agg ⟨[s17.v, Value.bool b18, s19.v]⟩] W16 fun v20 W21 =>
 ∃ s22 : Sl,
 v20 = Value.agg ⟨[s22.v]⟩ ∧
 (callN Tryz.prog W0 M (33 : Nat) [Value.agg ⟨[s3.v]⟩, Value.agg ⟨[s22.v]⟩] W21 fun v23 W24 =>
 ∃ s25 : Sl,
 v23 = Value.agg ⟨[s25.v]⟩ ∧
 dup (1 : Nat)
 (callN Tryz.prog W0 M (21 : Nat) [Value.agg ⟨[s14.v]⟩, Value.agg ⟨[s25.v]⟩] W24 fun v26 W27 =>
 ∃ s28 : Sl,
 ∃ b29 : Bool,
 v26 = Value.tuple ⟨[Value.agg ⟨[s28.v]⟩, Value.bool b29]⟩ ∧
 callN Tryz.prog W0 M (24 : Nat) [Value.agg ⟨[s28.v]⟩] W27 fun v30 W31 =>
 ∃ s32 : Sl,
 v30 = s32.v ∧
 (b29 = true →
 ((↑s32.2 : Int) = (2 : Int) →
 inB s32 (0 : Int) ∧
 ∃ i33 : Int,
 ∃ i34 : Int,
 ∃ i35 : Int,
 ∃ t36 : ByteArray,
 ElemAt W31 s32 (4 : Nat) (0 : Nat) (0 : Nat) [Value.int IntKind.u8 i33, Value.int IntKind.u8 i34, Value.int IntKind.u8 i35, Value.string t36] ∧
 ([Value.int IntKind.u8 i33, Value.int IntKind.u8 i34, Value.int IntKind.u8 i35, Value.string t36] =
 [Value.int IntKind.u8 (0 : Int), Value.int IntKind.u8 (0 : Int), Value.int IntKind.u8 (0 : Int), Value.string (ByteArray.mk #[45, 49])] →
 inB s32 (1 : Int) ∧
 ∃ i37 : Int,
 ∃ i38 : Int,
 ∃ i39 : Int,
 ∃ t40 : ByteArray,
 ElemAt W31 s32 (4 : Nat) (1 : Nat) (0 : Nat) [Value.int IntKind.u8 i37, Value.int IntKind.u8 i38, Value.int IntKind.u8 i39, Value.string t40] ∧
 ∀ (W41 : PW),
 Ext W31 W41 →
 Post
 (Value.bool
 (@decide (Array.toList ⟨[Value.int IntKind.u8 i37, Value.int IntKind.u8 i38, Value.int IntKind.u8 i39, Value.string t40]⟩ =
 Array.toList ⟨[Value.int IntKind.u8 (2 : Int), Value.int IntKind.u8 (0 : Int), Value.int IntKind.u8 (0 : Int), Value.string (ByteArray.mk #[49])]⟩) (Classical.propDecidable _)))
 W41) ∧
 (¬[Value.int IntKind.u8 i33, Value.int IntKind.u8 i34, Value.int IntKind.u8 i35, Value.string t36] =
 [Value.int IntKind.u8 (0 : Int), Value.int IntKind.u8 (0 : Int), Value.int IntKind.u8 (0 : Int), Value.string (ByteArray.mk #[45, 49])] →
 ∀ (W42 : PW), Ext W31 W42 → Post (Value.bool false) W42)) ∧
 (¬(↑s32.2 : Int) = (2 : Int) → ∀ (W43 : PW), Ext W31 W43 → Post (Value.bool false) W43)) ∧
 (b29 = false → ∀ (W44 : PW), Ext W31 W44 → Post (Value.bool false) W44))) ∧
 callN Tryz.prog W0 M (33 : Nat) [Value.agg ⟨[s3.v]⟩, Value.agg ⟨[s22.v]⟩] W21 fun v45 W46 =>
 ∃ s47 : Sl,
 v45 = Value.agg ⟨[s47.v]⟩ ∧
 callN Tryz.prog W0 M (21 : Nat) [Value.agg ⟨[s14.v]⟩, Value.agg ⟨[s47.v]⟩] W46 fun v48 W49 =>
 ∃ s50 : Sl,
 ∃ b51 : Bool,
 v48 = Value.tuple ⟨[Value.agg ⟨[s50.v]⟩, Value.bool b51]⟩ ∧
 callN Tryz.prog W0 M (24 : Nat) [Value.agg ⟨[s50.v]⟩] W49 fun v52 W53 =>
 ∃ s54 : Sl,
 v52 = s54.v ∧
 (b51 = true →
 ((↑s54.2 : Int) = (2 : Int) →
 inB s54 (0 : Int) ∧
 ∃ i55 : Int,
 ∃ i56 : Int,
 ∃ i57 : Int,
 ∃ t58 : ByteArray,
 ElemAt W53 s54 (4 : Nat) (0 : Nat) (0 : Nat) [Value.int IntKind.u8 i55, Value.int IntKind.u8 i56, Value.int IntKind.u8 i57, Value.string t58] ∧
 ([Value.int IntKind.u8 i55, Value.int IntKind.u8 i56, Value.int IntKind.u8 i57, Value.string t58] =
 [Value.int IntKind.u8 (0 : Int), Value.int IntKind.u8 (0 : Int), Value.int IntKind.u8 (0 : Int), Value.string (ByteArray.mk #[45, 49])] →
 inB s54 (1 : Int) ∧
 ∃ i59 : Int,
 ∃ i60 : Int,
 ∃ i61 : Int,
 ∃ t62 : ByteArray,
 ElemAt W53 s54 (4 : Nat) (1 : Nat) (0 : Nat) [Value.int IntKind.u8 i59, Value.int IntKind.u8 i60, Value.int IntKind.u8 i61, Value.string t62] ∧
 ∀ (W63 : PW),
 Ext W53 W63 →
 Post
 (Value.bool
 (@decide (Array.toList ⟨[Value.int IntKind.u8 i59, Value.int IntKind.u8 i60, Value.int IntKind.u8 i61, Value.string t62]⟩ =
 Array.toList ⟨[Value.int IntKind.u8 (2 : Int), Value.int IntKind.u8 (0 : Int), Value.int IntKind.u8 (0 : Int), Value.string (ByteArray.mk #[49])]⟩) (Classical.propDecidable _)))
 W63) ∧
 (¬[Value.int IntKind.u8 i55, Value.int IntKind.u8 i56, Value.int IntKind.u8 i57, Value.string t58] =
 [Value.int IntKind.u8 (0 : Int), Value.int IntKind.u8 (0 : Int), Value.int IntKind.u8 (0 : Int), Value.string (ByteArray.mk #[45, 49])] →
 ∀ (W64 : PW), Ext W53 W64 → Post (Value.bool false) W64)) ∧
 (¬(↑s54.2 : Int) = (2 : Int) → ∀ (W65 : PW), Ext W53 W65 → Post (Value.bool false) W65)) ∧
 (b51 = false → ∀ (W66 : PW), Ext W53 W66 → Post (Value.bool false) W66)) ∧
 callN Tryz.prog W0 M (41 : Nat) [Value.agg ⟨[s17.v, Value.bool b18, s19.v]⟩] W16 fun v67 W68 =>
 ∃ s69 : Sl,
 v67 = Value.agg ⟨[s69.v]⟩ ∧
 callN Tryz.prog W0 M (33 : Nat) [Value.agg ⟨[s3.v]⟩, Value.agg ⟨[s69.v]⟩] W68 fun v70 W71 =>
 ∃ s72 : Sl,
 v70 = Value.agg ⟨[s72.v]⟩ ∧
 callN Tryz.prog W0 M (21 : Nat) [Value.agg ⟨[s14.v]⟩, Value.agg ⟨[s72.v]⟩] W71 fun v73 W74 =>
 ∃ s75 : Sl,
 ∃ b76 : Bool,
 v73 = Value.tuple ⟨[Value.agg ⟨[s75.v]⟩, Value.bool b76]⟩ ∧
 callN Tryz.prog W0 M (24 : Nat) [Value.agg ⟨[s75.v]⟩] W74 fun v77 W78 =>
 ∃ s79 : Sl,
 v77 = s79.v ∧
 (b76 = true →
 ((↑s79.2 : Int) = (2 : Int) →
 inB s79 (0 : Int) ∧
 ∃ i80 : Int,
 ∃ i81 : Int,
 ∃ i82 : Int,
 ∃ t83 : ByteArray,
 ElemAt W78 s79 (4 : Nat) (0 : Nat) (0 : Nat) [Value.int IntKind.u8 i80, Value.int IntKind.u8 i81, Value.int IntKind.u8 i82, Value.string t83] ∧
 ([Value.int IntKind.u8 i80, Value.int IntKind.u8 i81, Value.int IntKind.u8 i82, Value.string t83] =
 [Value.int IntKind.u8 (0 : Int), Value.int IntKind.u8 (0 : Int), Value.int IntKind.u8 (0 : Int), Value.string (ByteArray.mk #[45, 49])] →
 inB s79 (1 : Int) ∧
 ∃ i84 : Int,
 ∃ i85 : Int,
 ∃ i86 : Int,
 ∃ t87 : ByteArray,
 ElemAt W78 s79 (4 : Nat) (1 : Nat) (0 : Nat) [Value.int IntKind.u8 i84, Value.int IntKind.u8 i85, Value.int IntKind.u8 i86, Value.string t87] ∧
 ∀ (W88 : PW),
 Ext W78 W88 →
 Post
 (Value.bool
 (@decide (Array.toList ⟨[Value.int IntKind.u8 i84, Value.int IntKind.u8 i85, Value.int IntKind.u8 i86, Value.string t87]⟩ =
 Array.toList ⟨[Value.int IntKind.u8 (2 : Int), Value.int IntKind.u8 (0 : Int), Value.int IntKind.u8 (0 : Int), Value.string (ByteArray.mk #[49])]⟩) (Classical.propDecidable _)))
 W88) ∧
 (¬[Value.int IntKind.u8 i80, Value.int IntKind.u8 i81, Value.int IntKind.u8 i82, Value.string t83] =
 [Value.int IntKind.u8 (0 : Int), Value.int IntKind.u8 (0 : Int), Value.int IntKind.u8 (0 : Int), Value.string (ByteArray.mk #[45, 49])] →
 ∀ (W89 : PW), Ext W78 W89 → Post (Value.bool false) W89)) ∧
 (¬(↑s79.2 : Int) = (2 : Int) → ∀ (W90 : PW), Ext W78 W90 → Post (Value.bool false) W90)) ∧
 (b76 = false → ∀ (W91 : PW), Ext W78 W91 → Post (Value.bool false) W91)) ∧
 callN Tryz.prog W0 M (58 : Nat) [Value.int IntKind.i64 (1 : Int)] W13 fun v92 W93 =>
 ∃ s94 : Sl,
 ∃ b95 : Bool,
 ∃ s96 : Sl,
 v92 = Value.agg ⟨[s94.v, Value.bool b95, s96.v]⟩ ∧
 callN Tryz.prog W0 M (41 : Nat) [Value.agg ⟨[s94.v, Value.bool b95, s96.v]⟩] W93 fun v97 W98 =>
 ∃ s99 : Sl,
 v97 = Value.agg ⟨[s99.v]⟩ ∧
 callN Tryz.prog W0 M (33 : Nat) [Value.agg ⟨[s3.v]⟩, Value.agg ⟨[s99.v]⟩] W98 fun v100 W101 =>
 ∃ s102 : Sl,
 v100 = Value.agg ⟨[s102.v]⟩ ∧
 callN Tryz.prog W0 M (21 : Nat) [Value.agg ⟨[s14.v]⟩, Value.agg ⟨[s102.v]⟩] W101 fun v103 W104 =>
 ∃ s105 : Sl,
 ∃ b106 : Bool,
 v103 = Value.tuple ⟨[Value.agg ⟨[s105.v]⟩, Value.bool b106]⟩ ∧
 callN Tryz.prog W0 M (24 : Nat) [Value.agg ⟨[s105.v]⟩] W104 fun v107 W108 =>
 ∃ s109 : Sl,
 v107 = s109.v ∧
 (b106 = true →
 ((↑s109.2 : Int) = (2 : Int) →
 inB s109 (0 : Int) ∧
 ∃ i110 : Int,
 ∃ i111 : Int,
 ∃ i112 : Int,
 ∃ t113 : ByteArray,
 ElemAt W108 s109 (4 : Nat) (0 : Nat) (0 : Nat) [Value.int IntKind.u8 i110, Value.int IntKind.u8 i111, Value.int IntKind.u8 i112, Value.string t113] ∧
 ([Value.int IntKind.u8 i110, Value.int IntKind.u8 i111, Value.int IntKind.u8 i112, Value.string t113] =
 [Value.int IntKind.u8 (0 : Int), Value.int IntKind.u8 (0 : Int), Value.int IntKind.u8 (0 : Int), Value.string (ByteArray.mk #[45, 49])] →
 inB s109 (1 : Int) ∧
 ∃ i114 : Int,
 ∃ i115 : Int,
 ∃ i116 : Int,
 ∃ t117 : ByteArray,
 ElemAt W108 s109 (4 : Nat) (1 : Nat) (0 : Nat) [Value.int IntKind.u8 i114, Value.int IntKind.u8 i115, Value.int IntKind.u8 i116, Value.string t117] ∧
 ∀ (W118 : PW),
 Ext W108 W118 →
 Post
 (Value.bool
 (@decide (Array.toList ⟨[Value.int IntKind.u8 i114, Value.int IntKind.u8 i115, Value.int IntKind.u8 i116, Value.string t117]⟩ =
 Array.toList ⟨[Value.int IntKind.u8 (2 : Int), Value.int IntKind.u8 (0 : Int), Value.int IntKind.u8 (0 : Int), Value.string (ByteArray.mk #[49])]⟩) (Classical.propDecidable _)))
 W118) ∧
 (¬[Value.int IntKind.u8 i110, Value.int IntKind.u8 i111, Value.int IntKind.u8 i112, Value.string t113] =
 [Value.int IntKind.u8 (0 : Int), Value.int IntKind.u8 (0 : Int), Value.int IntKind.u8 (0 : Int), Value.string (ByteArray.mk #[45, 49])] →
 ∀ (W119 : PW), Ext W108 W119 → Post (Value.bool false) W119)) ∧
 (¬(↑s109.2 : Int) = (2 : Int) → ∀ (W120 : PW), Ext W108 W120 → Post (Value.bool false) W120)) ∧
 (b106 = false → ∀ (W121 : PW), Ext W108 W121 → Post (Value.bool false) W121)) ∧
 callN Tryz.prog W0 M (31 : Nat) [Value.agg ⟨[s3.v]⟩, Value.agg ⟨[s11.v]⟩] W10 fun v122 W123 =>
 ∃ s124 : Sl,
 v122 = Value.agg ⟨[s124.v]⟩ ∧
 callN Tryz.prog W0 M (58 : Nat) [Value.int IntKind.i64 (1 : Int)] W123 fun v125 W126 =>
 ∃ s127 : Sl,
 ∃ b128 : Bool,
 ∃ s129 : Sl,
 v125 = Value.agg ⟨[s127.v, Value.bool b128, s129.v]⟩ ∧
 callN Tryz.prog W0 M (41 : Nat) [Value.agg ⟨[s127.v, Value.bool b128, s129.v]⟩] W126 fun v130 W131 =>
 ∃ s132 : Sl,
 v130 = Value.agg ⟨[s132.v]⟩ ∧
 callN Tryz.prog W0 M (33 : Nat) [Value.agg ⟨[s3.v]⟩, Value.agg ⟨[s132.v]⟩] W131 fun v133 W134 =>
 ∃ s135 : Sl,
 v133 = Value.agg ⟨[s135.v]⟩ ∧
 callN Tryz.prog W0 M (21 : Nat) [Value.agg ⟨[s124.v]⟩, Value.agg ⟨[s135.v]⟩] W134 fun v136 W137 =>
 ∃ s138 : Sl,
 ∃ b139 : Bool,
 v136 = Value.tuple ⟨[Value.agg ⟨[s138.v]⟩, Value.bool b139]⟩ ∧
 callN Tryz.prog W0 M (24 : Nat) [Value.agg ⟨[s138.v]⟩] W137 fun v140 W141 =>
 ∃ s142 : Sl,
 v140 = s142.v ∧
 (b139 = true →
 ((↑s142.2 : Int) = (2 : Int) →
 inB s142 (0 : Int) ∧
 ∃ i143 : Int,
 ∃ i144 : Int,
 ∃ i145 : Int,
 ∃ t146 : ByteArray,
 ElemAt W141 s142 (4 : Nat) (0 : Nat) (0 : Nat) [Value.int IntKind.u8 i143, Value.int IntKind.u8 i144, Value.int IntKind.u8 i145, Value.string t146] ∧
 ([Value.int IntKind.u8 i143, Value.int IntKind.u8 i144, Value.int IntKind.u8 i145, Value.string t146] =
 [Value.int IntKind.u8 (0 : Int), Value.int IntKind.u8 (0 : Int), Value.int IntKind.u8 (0 : Int), Value.string (ByteArray.mk #[45, 49])] →
 inB s142 (1 : Int) ∧
 ∃ i147 : Int,
 ∃ i148 : Int,
 ∃ i149 : Int,
 ∃ t150 : ByteArray,
 ElemAt W141 s142 (4 : Nat) (1 : Nat) (0 : Nat) [Value.int IntKind.u8 i147, Value.int IntKind.u8 i148, Value.int IntKind.u8 i149, Value.string t150] ∧
 ∀ (W151 : PW),
 Ext W141 W151 →
 Post
 (Value.bool
 (@decide (Array.toList ⟨[Value.int IntKind.u8 i147, Value.int IntKind.u8 i148, Value.int IntKind.u8 i149, Value.string t150]⟩ =
 Array.toList ⟨[Value.int IntKind.u8 (2 : Int), Value.int IntKind.u8 (0 : Int), Value.int IntKind.u8 (0 : Int), Value.string (ByteArray.mk #[49])]⟩) (Classical.propDecidable _)))
 W151) ∧
 (¬[Value.int IntKind.u8 i143, Value.int IntKind.u8 i144, Value.int IntKind.u8 i145, Value.string t146] =
 [Value.int IntKind.u8 (0 : Int), Value.int IntKind.u8 (0 : Int), Value.int IntKind.u8 (0 : Int), Value.string (ByteArray.mk #[45, 49])] →
 ∀ (W152 : PW), Ext W141 W152 → Post (Value.bool false) W152)) ∧
 (¬(↑s142.2 : Int) = (2 : Int) → ∀ (W153 : PW), Ext W141 W153 → Post (Value.bool false) W153)) ∧
 (b139 = false → ∀ (W154 : PW), Ext W141 W154 → Post (Value.bool false) W154)) ∧
 callN Tryz.prog W0 M (41 : Nat) [Value.agg ⟨[s6.v, Value.bool b7, s8.v]⟩] W5 fun v155 W156 =>
 ∃ s157 : Sl,
 v155 = Value.agg ⟨[s157.v]⟩ ∧
 callN Tryz.prog W0 M (31 : Nat) [Value.agg ⟨[s3.v]⟩, Value.agg ⟨[s157.v]⟩] W156 fun v158 W159 =>
 ∃ s160 : Sl,
 v158 = Value.agg ⟨[s160.v]⟩ ∧
 callN Tryz.prog W0 M (58 : Nat) [Value.int IntKind.i64 (1 : Int)] W159 fun v161 W162 =>
 ∃ s163 : Sl,
 ∃ b164 : Bool,
 ∃ s165 : Sl,
 v161 = Value.agg ⟨[s163.v, Value.bool b164, s165.v]⟩ ∧
 callN Tryz.prog W0 M (41 : Nat) [Value.agg ⟨[s163.v, Value.bool b164, s165.v]⟩] W162 fun v166 W167 =>
 ∃ s168 : Sl,
 v166 = Value.agg ⟨[s168.v]⟩ ∧
 callN Tryz.prog W0 M (33 : Nat) [Value.agg ⟨[s3.v]⟩, Value.agg ⟨[s168.v]⟩] W167 fun v169 W170 =>
 ∃ s171 : Sl,
 v169 = Value.agg ⟨[s171.v]⟩ ∧
 callN Tryz.prog W0 M (21 : Nat) [Value.agg ⟨[s160.v]⟩, Value.agg ⟨[s171.v]⟩] W170 fun v172 W173 =>
 ∃ s174 : Sl,
 ∃ b175 : Bool,
 v172 = Value.tuple ⟨[Value.agg ⟨[s174.v]⟩, Value.bool b175]⟩ ∧
 callN Tryz.prog W0 M (24 : Nat) [Value.agg ⟨[s174.v]⟩] W173 fun v176 W177 =>
 ∃ s178 : Sl,
 v176 = s178.v ∧
 (b175 = true →
 ((↑s178.2 : Int) = (2 : Int) →
 inB s178 (0 : Int) ∧
 ∃ i179 : Int,
 ∃ i180 : Int,
 ∃ i181 : Int,
 ∃ t182 : ByteArray,
 ElemAt W177 s178 (4 : Nat) (0 : Nat) (0 : Nat) [Value.int IntKind.u8 i179, Value.int IntKind.u8 i180, Value.int IntKind.u8 i181, Value.string t182] ∧
 ([Value.int IntKind.u8 i179, Value.int IntKind.u8 i180, Value.int IntKind.u8 i181, Value.string t182] =
 [Value.int IntKind.u8 (0 : Int), Value.int IntKind.u8 (0 : Int), Value.int IntKind.u8 (0 : Int), Value.string (ByteArray.mk #[45, 49])] →
 inB s178 (1 : Int) ∧
 ∃ i183 : Int,
 ∃ i184 : Int,
 ∃ i185 : Int,
 ∃ t186 : ByteArray,
 ElemAt W177 s178 (4 : Nat) (1 : Nat) (0 : Nat) [Value.int IntKind.u8 i183, Value.int IntKind.u8 i184, Value.int IntKind.u8 i185, Value.string t186] ∧
 ∀ (W187 : PW),
 Ext W177 W187 →
 Post
 (Value.bool
 (@decide (Array.toList ⟨[Value.int IntKind.u8 i183, Value.int IntKind.u8 i184, Value.int IntKind.u8 i185, Value.string t186]⟩ =
 Array.toList ⟨[Value.int IntKind.u8 (2 : Int), Value.int IntKind.u8 (0 : Int), Value.int IntKind.u8 (0 : Int), Value.string (ByteArray.mk #[49])]⟩) (Classical.propDecidable _)))
 W187) ∧
 (¬[Value.int IntKind.u8 i179, Value.int IntKind.u8 i180, Value.int IntKind.u8 i181, Value.string t182] =
 [Value.int IntKind.u8 (0 : Int), Value.int IntKind.u8 (0 : Int), Value.int IntKind.u8 (0 : Int), Value.string (ByteArray.mk #[45, 49])] →
 ∀ (W188 : PW), Ext W177 W188 → Post (Value.bool false) W188)) ∧
 (¬(↑s178.2 : Int) = (2 : Int) → ∀ (W189 : PW), Ext W177 W189 → Post (Value.bool false) W189)) ∧
 (b175 = false → ∀ (W190 : PW), Ext W177 W190 → Post (Value.bool false) W190)) ∧
 callN Tryz.prog W0 M (58 : Nat) [Value.int IntKind.i64 (1 : Int)] W2 fun v191 W192 =>
 ∃ s193 : Sl,
 ∃ b194 : Bool,
 ∃ s195 : Sl,
 v191 = Value.agg ⟨[s193.v, Value.bool b194, s195.v]⟩ ∧
 callN Tryz.prog W0 M (41 : Nat) [Value.agg ⟨[s193.v, Value.bool b194, s195.v]⟩] W192 fun v196 W197 =>
 ∃ s198 : Sl,
 v196 = Value.agg ⟨[s198.v]⟩ ∧
 callN Tryz.prog W0 M (31 : Nat) [Value.agg ⟨[s3.v]⟩, Value.agg ⟨[s198.v]⟩] W197 fun v199 W200 =>
 ∃ s201 : Sl,
 v199 = Value.agg ⟨[s201.v]⟩ ∧
 callN Tryz.prog W0 M (58 : Nat) [Value.int IntKind.i64 (1 : Int)] W200 fun v202 W203 =>
 ∃ s204 : Sl,
 ∃ b205 : Bool,
 ∃ s206 : Sl,
 v202 = Value.agg ⟨[s204.v, Value.bool b205, s206.v]⟩ ∧
 callN Tryz.prog W0 M (41 : Nat) [Value.agg ⟨[s204.v, Value.bool b205, s206.v]⟩] W203 fun v207 W208 =>
 ∃ s209 : Sl,
 v207 = Value.agg ⟨[s209.v]⟩ ∧
 callN Tryz.prog W0 M (33 : Nat) [Value.agg ⟨[s3.v]⟩, Value.agg ⟨[s209.v]⟩] W208 fun v210 W211 =>
 ∃ s212 : Sl,
 v210 = Value.agg ⟨[s212.v]⟩ ∧
 callN Tryz.prog W0 M (21 : Nat) [Value.agg ⟨[s201.v]⟩, Value.agg ⟨[s212.v]⟩] W211 fun v213 W214 =>
 ∃ s215 : Sl,
 ∃ b216 : Bool,
 v213 = Value.tuple ⟨[Value.agg ⟨[s215.v]⟩, Value.bool b216]⟩ ∧
 callN Tryz.prog W0 M (24 : Nat) [Value.agg ⟨[s215.v]⟩] W214 fun v217 W218 =>
 ∃ s219 : Sl,
 v217 = s219.v ∧
 (b216 = true →
 ((↑s219.2 : Int) = (2 : Int) →
 inB s219 (0 : Int) ∧
 ∃ i220 : Int,
 ∃ i221 : Int,
 ∃ i222 : Int,
 ∃ t223 : ByteArray,
 ElemAt W218 s219 (4 : Nat) (0 : Nat) (0 : Nat) [Value.int IntKind.u8 i220, Value.int IntKind.u8 i221, Value.int IntKind.u8 i222, Value.string t223] ∧
 ([Value.int IntKind.u8 i220, Value.int IntKind.u8 i221, Value.int IntKind.u8 i222, Value.string t223] =
 [Value.int IntKind.u8 (0 : Int), Value.int IntKind.u8 (0 : Int), Value.int IntKind.u8 (0 : Int), Value.string (ByteArray.mk #[45, 49])] →
 inB s219 (1 : Int) ∧
 ∃ i224 : Int,
 ∃ i225 : Int,
 ∃ i226 : Int,
 ∃ t227 : ByteArray,
 ElemAt W218 s219 (4 : Nat) (1 : Nat) (0 : Nat) [Value.int IntKind.u8 i224, Value.int IntKind.u8 i225, Value.int IntKind.u8 i226, Value.string t227] ∧
 ∀ (W228 : PW),
 Ext W218 W228 →
 Post
 (Value.bool
 (@decide (Array.toList ⟨[Value.int IntKind.u8 i224, Value.int IntKind.u8 i225, Value.int IntKind.u8 i226, Value.string t227]⟩ =
 Array.toList ⟨[Value.int IntKind.u8 (2 : Int), Value.int IntKind.u8 (0 : Int), Value.int IntKind.u8 (0 : Int), Value.string (ByteArray.mk #[49])]⟩) (Classical.propDecidable _)))
 W228) ∧
 (¬[Value.int IntKind.u8 i220, Value.int IntKind.u8 i221, Value.int IntKind.u8 i222, Value.string t223] =
 [Value.int IntKind.u8 (0 : Int), Value.int IntKind.u8 (0 : Int), Value.int IntKind.u8 (0 : Int), Value.string (ByteArray.mk #[45, 49])] →
 ∀ (W229 : PW), Ext W218 W229 → Post (Value.bool false) W229)) ∧
 (¬(↑s219.2 : Int) = (2 : Int) → ∀ (W230 : PW), Ext W218 W230 → Post (Value.bool false) W230)) ∧
 (b216 = false → ∀ (W231 : PW), Ext W218 W231 → Post (Value.bool false) W231)
theorem calllaw8_alive (W0 : PW) (M : Nat → Prop) (Post : Value → PW → Prop) (h : Rlaw8_alive W0 M Post) : PCallsM Tryz.prog 15 [] W0 M Post :=
  fn_sound rfl tt_ok tt_in Tryz.func15 (cuts := []) rfl rfl (Nat.le_of_ble_eq_true rfl) (Eq.mpr (by kernel_rfl) h)
end Go.Proofs.YtbingbjhgoanoaaGreat
