/- R10 -/
import Derived.Test.YtcffcndpefaalaaTt
set_option linter.unusedVariables false
set_option linter.unusedSimpArgs false
set_option maxRecDepth 100000
set_option linter.unusedVariables false
namespace Go.Proofs.Ytcffcndpefaalaa
def Rlaw14_even (W0 : Go.SX.PW) (M : Nat → Prop) (a0 : Go.SX.Sl) (Post : Go.Value → Go.SX.PW → Prop) : Prop :=
 ∃ (F1 : List Go.SX.PL → Go.SX.PW → Prop),
 ∃ (F2 : List Go.SX.PL → Go.SX.PW → Nat),
 F1 [Go.SX.PL.row [], Go.SX.PL.val (Go.Value.int Go.IntKind.i64 (0 : Int))] W0 ∧
 ∀ (l3 : List (List Go.Value)) (i4 : Int) (W5 : Go.SX.PW),
 F1 [Go.SX.PL.row l3, Go.SX.PL.val (Go.Value.int Go.IntKind.i64 i4)] W5 →
 (i4 < (↑a0.2 : Int) →
 Go.SX.inB a0 i4 ∧
 ∃ (s6 : Go.SX.Sl),
 Go.SX.ElemAt W5 a0 (1 : Nat) (Int.toNat i4) (0 : Nat) [Go.SX.Sl.v s6] ∧
 ∃ (l7 : List (List Go.Value)),
 Go.SX.RowA W5 (1 : Nat) s6 l7 ∧
 List.length l7 * (16 : Nat) ≤ (140737488355328 : Nat) ∧
 ∀ (s8 : Go.SX.Sl) (W9 : Go.SX.PW),
 Go.SX.Ext W5 W9 →
 Go.SX.Own W9 (9 : Nat) (1 : Nat) s8 l7 →
 (∀ (n10 : Nat), Go.Value.ownBlock (Go.SX.Sl.v s8) = Option.some n10 → Array.size (Go.SX.PW.w W0).1 ≤ n10 ∧ (n10 < Array.size (Go.SX.PW.w W5).1 → W5.2 n10)) →
 (List.length l3 + List.length [[Go.SX.Sl.v s8]]) * (24 : Nat) ≤ (140737488355328 : Nat) ∧
 ∃ (F11 : List Go.SX.PL → Go.SX.PW → Prop),
 ∃ (F12 : List Go.SX.PL → Go.SX.PW → Nat),
 F11 [Go.SX.PL.val (Go.Value.int Go.IntKind.i64 (0 : Int))] W9 ∧
 ∀ (i13 : Int) (W14 : Go.SX.PW),
 F11 [Go.SX.PL.val (Go.Value.int Go.IntKind.i64 i13)] W14 →
 (i13 < i4 →
 ((0 : Int) ≤ i4 ∧ i4 < (↑(List.length (l3 ++ [[Go.SX.Sl.v s8]])) : Int)) ∧
 ∃ (s15 : Go.SX.Sl),
 Go.SX.OwnAt (l3 ++ [[Go.SX.Sl.v s8]]) (Int.toNat i4) (0 : Nat) [Go.SX.Sl.v s15] ∧
 (i13 < (↑s15.2 : Int) →
 ((0 : Int) ≤ i13 ∧ i13 < (↑(List.length (l3 ++ [[Go.SX.Sl.v s8]])) : Int)) ∧
 ∃ (s16 : Go.SX.Sl),
 Go.SX.OwnAt (l3 ++ [[Go.SX.Sl.v s8]]) (Int.toNat i13) (0 : Nat) [Go.SX.Sl.v s16] ∧
 (i4 < (↑s16.2 : Int) →
 ((0 : Int) ≤ i4 ∧ i4 < (↑(List.length (l3 ++ [[Go.SX.Sl.v s8]])) : Int)) ∧
 ∃ (s17 : Go.SX.Sl),
 Go.SX.OwnAt (l3 ++ [[Go.SX.Sl.v s8]]) (Int.toNat i4) (0 : Nat) [Go.SX.Sl.v s17] ∧
 ((0 : Int) ≤ i13 ∧ i13 < (↑(List.length (l3 ++ [[Go.SX.Sl.v s8]])) : Int)) ∧
 ∃ (s18 : Go.SX.Sl),
 Go.SX.OwnAt (l3 ++ [[Go.SX.Sl.v s8]]) (Int.toNat i13) (0 : Nat) [Go.SX.Sl.v s18] ∧
 Go.SX.inB s18 i4 ∧
 ∃ (t19 : ByteArray),
 Go.SX.ElemAt W14 s18 (1 : Nat) (Int.toNat i4) (0 : Nat) [Go.Value.string t19] ∧
 Go.SX.inB s17 i13 ∧
 Go.SX.storeN W0 M s17 (Int.toNat i13 * (1 : Nat) + (0 : Nat)) [Go.Value.string t19] W14 fun (W20 : Go.SX.PW) =>
 Go.SX.I64 (i13 + (1 : Int)) ∧ F11 [Go.SX.PL.val (Go.Value.int Go.IntKind.i64 (i13 + (1 : Int)))] W20 ∧ F12 [Go.SX.PL.val (Go.Value.int Go.IntKind.i64 (i13 + (1 : Int)))] W20 < F12 [Go.SX.PL.val (Go.Value.int Go.IntKind.i64 i13)] W14) ∧
 (¬i4 < (↑s16.2 : Int) →
 Go.SX.I64 (i4 + (1 : Int)) ∧ F1 [Go.SX.PL.row (l3 ++ [[Go.SX.Sl.v s8]]), Go.SX.PL.val (Go.Value.int Go.IntKind.i64 (i4 + (1 : Int)))] W14 ∧ F2 [Go.SX.PL.row (l3 ++ [[Go.SX.Sl.v s8]]), Go.SX.PL.val (Go.Value.int Go.IntKind.i64 (i4 + (1 : Int)))] W14 < F2 [Go.SX.PL.row l3, Go.SX.PL.val (Go.Value.int Go.IntKind.i64 i4)] W5)) ∧
 (¬i13 < (↑s15.2 : Int) →
 (Bool.false = Bool.true →
 ((0 : Int) ≤ i4 ∧ i4 < (↑(List.length (l3 ++ [[Go.SX.Sl.v s8]])) : Int)) ∧
 ∃ (s21 : Go.SX.Sl),
 Go.SX.OwnAt (l3 ++ [[Go.SX.Sl.v s8]]) (Int.toNat i4) (0 : Nat) [Go.SX.Sl.v s21] ∧
 ((0 : Int) ≤ i13 ∧ i13 < (↑(List.length (l3 ++ [[Go.SX.Sl.v s8]])) : Int)) ∧
 ∃ (s22 : Go.SX.Sl),
 Go.SX.OwnAt (l3 ++ [[Go.SX.Sl.v s8]]) (Int.toNat i13) (0 : Nat) [Go.SX.Sl.v s22] ∧
 Go.SX.inB s22 i4 ∧
 ∃ (t23 : ByteArray),
 Go.SX.ElemAt W14 s22 (1 : Nat) (Int.toNat i4) (0 : Nat) [Go.Value.string t23] ∧
 Go.SX.inB s21 i13 ∧
 Go.SX.storeN W0 M s21 (Int.toNat i13 * (1 : Nat) + (0 : Nat)) [Go.Value.string t23] W14 fun (W24 : Go.SX.PW) =>
 Go.SX.I64 (i13 + (1 : Int)) ∧ F11 [Go.SX.PL.val (Go.Value.int Go.IntKind.i64 (i13 + (1 : Int)))] W24 ∧ F12 [Go.SX.PL.val (Go.Value.int Go.IntKind.i64 (i13 + (1 : Int)))] W24 < F12 [Go.SX.PL.val (Go.Value.int Go.IntKind.i64 i13)] W14) ∧
 (Bool.false = Bool.false →
 Go.SX.I64 (i4 + (1 : Int)) ∧ F1 [Go.SX.PL.row (l3 ++ [[Go.SX.Sl.v s8]]), Go.SX.PL.val (Go.Value.int Go.IntKind.i64 (i4 + (1 : Int)))] W14 ∧ F2 [Go.SX.PL.row (l3 ++ [[Go.SX.Sl.v s8]]), Go.SX.PL.val (Go.Value.int Go.IntKind.i64 (i4 + (1 : Int)))] W14 < F2 [Go.SX.PL.row l3, Go.SX.PL.val (Go.Value.int Go.IntKind.i64 i4)] W5))) ∧
 (¬i13 < i4 →
 (Bool.false = Bool.true →
 ((0 : Int) ≤ i13 ∧ i13 < (↑(List.length (l3 ++ [[Go.SX.Sl.v s8]])) : Int)) ∧
 ∃ (s25 : Go.SX.Sl),
 Go.SX.OwnAt (l3 ++ [[Go.SX.Sl.v s8]]) (Int.toNat i13) (0 : Nat) [Go.SX.Sl.v s25] ∧
 (i4 < (↑s25.2 : Int) →
 ((0 : Int) ≤ i4 ∧ i4 < (↑(List.length (l3 ++ [[Go.SX.Sl.v s8]])) : Int)) ∧
 ∃ (s26 : Go.SX.Sl),
 Go.SX.OwnAt (l3 ++ [[Go.SX.Sl.v s8]]) (Int.toNat i4) (0 : Nat) [Go.SX.Sl.v s26] ∧
 ((0 : Int) ≤ i13 ∧ i13 < (↑(List.length (l3 ++ [[Go.SX.Sl.v s8]])) : Int)) ∧
 ∃ (s27 : Go.SX.Sl),
 Go.SX.OwnAt (l3 ++ [[Go.SX.Sl.v s8]]) (Int.toNat i13) (0 : Nat) [Go.SX.Sl.v s27] ∧
 Go.SX.inB s27 i4 ∧
 ∃ (t28 : ByteArray),
 Go.SX.ElemAt W14 s27 (1 : Nat) (Int.toNat i4) (0 : Nat) [Go.Value.string t28] ∧
 Go.SX.inB s26 i13 ∧
 Go.SX.storeN W0 M s26 (Int.toNat i13 * (1 : Nat) + (0 : Nat)) [Go.Value.string t28] W14 fun (W29 : Go.SX.PW) =>
 Go.SX.I64 (i13 + (1 : Int)) ∧ F11 [Go.SX.PL.val (Go.Value.int Go.IntKind.i64 (i13 + (1 : Int)))] W29 ∧ F12 [Go.SX.PL.val (Go.Value.int Go.IntKind.i64 (i13 + (1 : Int)))] W29 < F12 [Go.SX.PL.val (Go.Value.int Go.IntKind.i64 i13)] W14) ∧
 (¬i4 < (↑s25.2 : Int) →
 Go.SX.I64 (i4 + (1 : Int)) ∧ F1 [Go.SX.PL.row (l3 ++ [[Go.SX.Sl.v s8]]), Go.SX.PL.val (Go.Value.int Go.IntKind.i64 (i4 + (1 : Int)))] W14 ∧ F2 [Go.SX.PL.row (l3 ++ [[Go.SX.Sl.v s8]]), Go.SX.PL.val (Go.Value.int Go.IntKind.i64 (i4 + (1 : Int)))] W14 < F2 [Go.SX.PL.row l3, Go.SX.PL.val (Go.Value.int Go.IntKind.i64 i4)] W5)) ∧
 (Bool.false = Bool.false →
 (Bool.false = Bool.true →
 ((0 : Int) ≤ i4 ∧ i4 < (↑(List.length (l3 ++ [[Go.SX.Sl.v s8]])) : Int)) ∧
 ∃ (s30 : Go.SX.Sl),
 Go.SX.OwnAt (l3 ++ [[Go.SX.Sl.v s8]]) (Int.toNat i4) (0 : Nat) [Go.SX.Sl.v s30] ∧
 ((0 : Int) ≤ i13 ∧ i13 < (↑(List.length (l3 ++ [[Go.SX.Sl.v s8]])) : Int)) ∧
 ∃ (s31 : Go.SX.Sl),
 Go.SX.OwnAt (l3 ++ [[Go.SX.Sl.v s8]]) (Int.toNat i13) (0 : Nat) [Go.SX.Sl.v s31] ∧
 Go.SX.inB s31 i4 ∧
 ∃ (t32 : ByteArray),
 Go.SX.ElemAt W14 s31 (1 : Nat) (Int.toNat i4) (0 : Nat) [Go.Value.string t32] ∧
 Go.SX.inB s30 i13 ∧
 Go.SX.storeN W0 M s30 (Int.toNat i13 * (1 : Nat) + (0 : Nat)) [Go.Value.string t32] W14 fun (W33 : Go.SX.PW) =>
 Go.SX.I64 (i13 + (1 : Int)) ∧ F11 [Go.SX.PL.val (Go.Value.int Go.IntKind.i64 (i13 + (1 : Int)))] W33 ∧ F12 [Go.SX.PL.val (Go.Value.int Go.IntKind.i64 (i13 + (1 : Int)))] W33 < F12 [Go.SX.PL.val (Go.Value.int Go.IntKind.i64 i13)] W14) ∧
 (Bool.false = Bool.false →
 Go.SX.I64 (i4 + (1 : Int)) ∧ F1 [Go.SX.PL.row (l3 ++ [[Go.SX.Sl.v s8]]), Go.SX.PL.val (Go.Value.int Go.IntKind.i64 (i4 + (1 : Int)))] W14 ∧ F2 [Go.SX.PL.row (l3 ++ [[Go.SX.Sl.v s8]]), Go.SX.PL.val (Go.Value.int Go.IntKind.i64 (i4 + (1 : Int)))] W14 < F2 [Go.SX.PL.row l3, Go.SX.PL.val (Go.Value.int Go.IntKind.i64 i4)] W5)))) ∧
 (¬i4 < (↑a0.2 : Int) → ∀ (s34 : Go.SX.Sl) (W35 : Go.SX.PW), Go.SX.Ext W5 W35 → Go.SX.Own W35 (52 : Nat) (1 : Nat) s34 l3 → (∀ (n36 : Nat), Go.Value.ownBlock (Go.SX.Sl.v s34) = Option.some n36 → Array.size (Go.SX.PW.w W0).1 ≤ n36 ∧ (n36 < Array.size (Go.SX.PW.w W5).1 → W5.2 n36)) → ∀ (W37 : Go.SX.PW), Go.SX.Ext W35 W37 → Post (Go.SX.Sl.v s34) W37)
theorem calllaw14_even (W0 : Go.SX.PW) (M : Nat → Prop) (a0 : Go.SX.Sl) (Post : Go.Value → Go.SX.PW → Prop) (h : Rlaw14_even W0 M a0 Post) : Go.SX.PCallsM Go.Proofs.Try.prog 5 [Go.SX.Sl.v a0] W0 M Post :=
  Go.SX.fn_sound rfl tt_ok tt_in Go.Proofs.Try.func5 (cuts := []) rfl rfl (Nat.le_of_ble_eq_true rfl) (Eq.mpr (by kernel_rfl) h)
def Rlaw14_alive (W0 : Go.SX.PW) (M : Nat → Prop) (Post : Go.Value → Go.SX.PW → Prop) : Prop :=
 ∀ (s1 : Go.SX.Sl) (W2 : Go.SX.PW),
 Go.SX.Ext W0 W2 →
 Go.SX.Own W2 (9 : Nat) (1 : Nat) s1 [[Go.Value.string (ByteArray.mk #[50])], [Go.Value.string (ByteArray.mk #[49])]] →
 (∀ (n3 : Nat), Go.Value.ownBlock (Go.SX.Sl.v s1) = Option.some n3 → Array.size (Go.SX.PW.w W0).1 ≤ n3 ∧ (n3 < Array.size (Go.SX.PW.w W0).1 → W0.2 n3)) →
 ∀ (s4 : Go.SX.Sl) (W5 : Go.SX.PW),
 Go.SX.Ext W2 W5 →
 Go.SX.Own W5 (9 : Nat) (1 : Nat) s4 [[Go.Value.string (ByteArray.mk #[49])], [Go.Value.string (ByteArray.mk #[50])]] →
 (∀ (n6 : Nat), Go.Value.ownBlock (Go.SX.Sl.v s4) = Option.some n6 → Array.size (Go.SX.PW.w W0).1 ≤ n6 ∧ (n6 < Array.size (Go.SX.PW.w W2).1 → W2.2 n6)) →
 ∀ (s7 : Go.SX.Sl) (W8 : Go.SX.PW),
 Go.SX.Ext W5 W8 →
 Go.SX.Own W8 (52 : Nat) (1 : Nat) s7 [[Go.SX.Sl.v s1], [Go.SX.Sl.v s4]] →
 (∀ (n9 : Nat), Go.Value.ownBlock (Go.SX.Sl.v s7) = Option.some n9 → Array.size (Go.SX.PW.w W0).1 ≤ n9 ∧ (n9 < Array.size (Go.SX.PW.w W5).1 → W5.2 n9)) →
 Go.SX.callN Go.Proofs.Try.prog W0 M (17 : Nat) [Go.SX.Sl.v s7] W8 fun (v10 : Go.Value) (W11 : Go.SX.PW) =>
 ∃ (s12 : Go.SX.Sl),
 ∃ (i13 : Int),
 v10 = Go.Value.tuple { toList := [Go.SX.Sl.v s12, Go.Value.int Go.IntKind.i64 i13] } ∧
 Go.SX.callN Go.Proofs.Try.prog W0 M (7 : Nat) [Go.SX.Sl.v s12] W11 fun (v14 : Go.Value) (W15 : Go.SX.PW) =>
 ∃ (s16 : Go.SX.Sl),
 ∃ (s17 : Go.SX.Sl),
 ∃ (b18 : Bool),
 v14 = Go.Value.tuple { toList := [Go.SX.Sl.v s16, Go.SX.Sl.v s17, Go.Value.bool b18] } ∧
 (i13 = (0 : Int) →
 (b18 = Bool.true →
 ((↑s17.2 : Int) = (2 : Int) →
 Go.SX.inB s17 (0 : Int) ∧
 ∃ (s19 : Go.SX.Sl),
 ∃ (b20 : Bool),
 ∃ (s21 : Go.SX.Sl),
 Go.SX.ElemAt W15 s17 (3 : Nat) (0 : Nat) (0 : Nat) [Go.SX.Sl.v s19, Go.Value.bool b20, Go.SX.Sl.v s21] ∧
 Go.SX.callN Go.Proofs.Try.prog W0 M (18 : Nat) [Go.Value.agg { toList := [Go.SX.Sl.v s19, Go.Value.bool b20, Go.SX.Sl.v s21] }] W15 fun (v22 : Go.Value) (W23 : Go.SX.PW) =>
 ∃ (t24 : ByteArray),
 v22 = Go.Value.string t24 ∧
 (t24 = (ByteArray.mk #[50]) →
 Go.SX.inB s17 (1 : Int) ∧
 ∃ (s25 : Go.SX.Sl),
 ∃ (b26 : Bool),
 ∃ (s27 : Go.SX.Sl),
 Go.SX.ElemAt W23 s17 (3 : Nat) (1 : Nat) (0 : Nat) [Go.SX.Sl.v s25, Go.Value.bool b26, Go.SX.Sl.v s27] ∧
 Go.SX.callN Go.Proofs.Try.prog W0 M (18 : Nat) [Go.Value.agg { toList := [Go.SX.Sl.v s25, Go.Value.bool b26, Go.SX.Sl.v s27] }] W23 fun (v28 : Go.Value) (W29 : Go.SX.PW) =>
 ∃ (t30 : ByteArray), v28 = Go.Value.string t30 ∧ ∀ (W31 : Go.SX.PW), Go.SX.Ext W29 W31 → Post (Go.Value.bool (Decidable.decide (t30 = { data := #[(51 : UInt8), (47 : UInt8), (50 : UInt8)] }))) W31) ∧
 (¬t24 = (ByteArray.mk #[50]) → ∀ (W32 : Go.SX.PW), Go.SX.Ext W23 W32 → Post (Go.Value.bool Bool.false) W32)) ∧
 (¬(↑s17.2 : Int) = (2 : Int) →
 (Bool.false = Bool.true →
 Go.SX.inB s17 (1 : Int) ∧
 ∃ (s33 : Go.SX.Sl),
 ∃ (b34 : Bool),
 ∃ (s35 : Go.SX.Sl),
 Go.SX.ElemAt W15 s17 (3 : Nat) (1 : Nat) (0 : Nat) [Go.SX.Sl.v s33, Go.Value.bool b34, Go.SX.Sl.v s35] ∧
 Go.SX.callN Go.Proofs.Try.prog W0 M (18 : Nat) [Go.Value.agg { toList := [Go.SX.Sl.v s33, Go.Value.bool b34, Go.SX.Sl.v s35] }] W15 fun (v36 : Go.Value) (W37 : Go.SX.PW) =>
 ∃ (t38 : ByteArray), v36 = Go.Value.string t38 ∧ ∀ (W39 : Go.SX.PW), Go.SX.Ext W37 W39 → Post (Go.Value.bool (Decidable.decide (t38 = { data := #[(51 : UInt8), (47 : UInt8), (50 : UInt8)] }))) W39) ∧
 (Bool.false = Bool.false → ∀ (W40 : Go.SX.PW), Go.SX.Ext W15 W40 → Post (Go.Value.bool Bool.false) W40))) ∧
 (b18 = Bool.false →
 (Bool.false = Bool.true →
 Go.SX.inB s17 (0 : Int) ∧
 ∃ (s41 : Go.SX.Sl),
 ∃ (b42 : Bool),
 ∃ (s43 : Go.SX.Sl),
 Go.SX.ElemAt W15 s17 (3 : Nat) (0 : Nat) (0 : Nat) [Go.SX.Sl.v s41, Go.Value.bool b42, Go.SX.Sl.v s43] ∧
 Go.SX.callN Go.Proofs.Try.prog W0 M (18 : Nat) [Go.Value.agg { toList := [Go.SX.Sl.v s41, Go.Value.bool b42, Go.SX.Sl.v s43] }] W15 fun (v44 : Go.Value) (W45 : Go.SX.PW) =>
 ∃ (t46 : ByteArray),
 v44 = Go.Value.string t46 ∧
 (t46 = (ByteArray.mk #[50]) →
 Go.SX.inB s17 (1 : Int) ∧
 ∃ (s47 : Go.SX.Sl),
 ∃ (b48 : Bool),
 ∃ (s49 : Go.SX.Sl),
 Go.SX.ElemAt W45 s17 (3 : Nat) (1 : Nat) (0 : Nat) [Go.SX.Sl.v s47, Go.Value.bool b48, Go.SX.Sl.v s49] ∧
 Go.SX.callN Go.Proofs.Try.prog W0 M (18 : Nat) [Go.Value.agg { toList := [Go.SX.Sl.v s47, Go.Value.bool b48, Go.SX.Sl.v s49] }] W45 fun (v50 : Go.Value) (W51 : Go.SX.PW) =>
 ∃ (t52 : ByteArray), v50 = Go.Value.string t52 ∧ ∀ (W53 : Go.SX.PW), Go.SX.Ext W51 W53 → Post (Go.Value.bool (Decidable.decide (t52 = { data := #[(51 : UInt8), (47 : UInt8), (50 : UInt8)] }))) W53) ∧
 (¬t46 = (ByteArray.mk #[50]) → ∀ (W54 : Go.SX.PW), Go.SX.Ext W45 W54 → Post (Go.Value.bool Bool.false) W54)) ∧
 (Bool.false = Bool.false →
 (Bool.false = Bool.true →
 Go.SX.inB s17 (1 : Int) ∧
 ∃ (s55 : Go.SX.Sl),
 ∃ (b56 : Bool),
 ∃ (s57 : Go.SX.Sl),
 Go.SX.ElemAt W15 s17 (3 : Nat) (1 : Nat) (0 : Nat) [Go.SX.Sl.v s55, Go.Value.bool b56, Go.SX.Sl.v s57] ∧
 Go.SX.callN Go.Proofs.Try.prog W0 M (18 : Nat) [Go.Value.agg { toList := [Go.SX.Sl.v s55, Go.Value.bool b56, Go.SX.Sl.v s57] }] W15 fun (v58 : Go.Value) (W59 : Go.SX.PW) =>
 ∃ (t60 : ByteArray), v58 = Go.Value.string t60 ∧ ∀ (W61 : Go.SX.PW), Go.SX.Ext W59 W61 → Post (Go.Value.bool (Decidable.decide (t60 = { data := #[(51 : UInt8), (47 : UInt8), (50 : UInt8)] }))) W61) ∧
 (Bool.false = Bool.false → ∀ (W62 : Go.SX.PW), Go.SX.Ext W15 W62 → Post (Go.Value.bool Bool.false) W62)))) ∧
 (¬i13 = (0 : Int) →
 (Bool.false = Bool.true →
 ((↑s17.2 : Int) = (2 : Int) →
 Go.SX.inB s17 (0 : Int) ∧
 ∃ (s63 : Go.SX.Sl),
 ∃ (b64 : Bool),
 ∃ (s65 : Go.SX.Sl),
 Go.SX.ElemAt W15 s17 (3 : Nat) (0 : Nat) (0 : Nat) [Go.SX.Sl.v s63, Go.Value.bool b64, Go.SX.Sl.v s65] ∧
 Go.SX.callN Go.Proofs.Try.prog W0 M (18 : Nat) [Go.Value.agg { toList := [Go.SX.Sl.v s63, Go.Value.bool b64, Go.SX.Sl.v s65] }] W15 fun (v66 : Go.Value) (W67 : Go.SX.PW) =>
 ∃ (t68 : ByteArray),
 v66 = Go.Value.string t68 ∧
 (t68 = (ByteArray.mk #[50]) →
 Go.SX.inB s17 (1 : Int) ∧
 ∃ (s69 : Go.SX.Sl),
 ∃ (b70 : Bool),
 ∃ (s71 : Go.SX.Sl),
 Go.SX.ElemAt W67 s17 (3 : Nat) (1 : Nat) (0 : Nat) [Go.SX.Sl.v s69, Go.Value.bool b70, Go.SX.Sl.v s71] ∧
 Go.SX.callN Go.Proofs.Try.prog W0 M (18 : Nat) [Go.Value.agg { toList := [Go.SX.Sl.v s69, Go.Value.bool b70, Go.SX.Sl.v s71] }] W67 fun (v72 : Go.Value) (W73 : Go.SX.PW) =>
 ∃ (t74 : ByteArray), v72 = Go.Value.string t74 ∧ ∀ (W75 : Go.SX.PW), Go.SX.Ext W73 W75 → Post (Go.Value.bool (Decidable.decide (t74 = { data := #[(51 : UInt8), (47 : UInt8), (50 : UInt8)] }))) W75) ∧
 (¬t68 = (ByteArray.mk #[50]) → ∀ (W76 : Go.SX.PW), Go.SX.Ext W67 W76 → Post (Go.Value.bool Bool.false) W76)) ∧
 (¬(↑s17.2 : Int) = (2 : Int) →
 (Bool.false = Bool.true →
 Go.SX.inB s17 (1 : Int) ∧
 ∃ (s77 : Go.SX.Sl),
 ∃ (b78 : Bool),
 ∃ (s79 : Go.SX.Sl),
 Go.SX.ElemAt W15 s17 (3 : Nat) (1 : Nat) (0 : Nat) [Go.SX.Sl.v s77, Go.Value.bool b78, Go.SX.Sl.v s79] ∧
 Go.SX.callN Go.Proofs.Try.prog W0 M (18 : Nat) [Go.Value.agg { toList := [Go.SX.Sl.v s77, Go.Value.bool b78, Go.SX.Sl.v s79] }] W15 fun (v80 : Go.Value) (W81 : Go.SX.PW) =>
 ∃ (t82 : ByteArray), v80 = Go.Value.string t82 ∧ ∀ (W83 : Go.SX.PW), Go.SX.Ext W81 W83 → Post (Go.Value.bool (Decidable.decide (t82 = { data := #[(51 : UInt8), (47 : UInt8), (50 : UInt8)] }))) W83) ∧
 (Bool.false = Bool.false → ∀ (W84 : Go.SX.PW), Go.SX.Ext W15 W84 → Post (Go.Value.bool Bool.false) W84))) ∧
 (Bool.false = Bool.false →
 (Bool.false = Bool.true →
 Go.SX.inB s17 (0 : Int) ∧
 ∃ (s85 : Go.SX.Sl),
 ∃ (b86 : Bool),
 ∃ (s87 : Go.SX.Sl),
 Go.SX.ElemAt W15 s17 (3 : Nat) (0 : Nat) (0 : Nat) [Go.SX.Sl.v s85, Go.Value.bool b86, Go.SX.Sl.v s87] ∧
 Go.SX.callN Go.Proofs.Try.prog W0 M (18 : Nat) [Go.Value.agg { toList := [Go.SX.Sl.v s85, Go.Value.bool b86, Go.SX.Sl.v s87] }] W15 fun (v88 : Go.Value) (W89 : Go.SX.PW) =>
 ∃ (t90 : ByteArray),
 v88 = Go.Value.string t90 ∧
 (t90 = (ByteArray.mk #[50]) →
 Go.SX.inB s17 (1 : Int) ∧
 ∃ (s91 : Go.SX.Sl),
 ∃ (b92 : Bool),
 ∃ (s93 : Go.SX.Sl),
 Go.SX.ElemAt W89 s17 (3 : Nat) (1 : Nat) (0 : Nat) [Go.SX.Sl.v s91, Go.Value.bool b92, Go.SX.Sl.v s93] ∧
 Go.SX.callN Go.Proofs.Try.prog W0 M (18 : Nat) [Go.Value.agg { toList := [Go.SX.Sl.v s91, Go.Value.bool b92, Go.SX.Sl.v s93] }] W89 fun (v94 : Go.Value) (W95 : Go.SX.PW) =>
 ∃ (t96 : ByteArray), v94 = Go.Value.string t96 ∧ ∀ (W97 : Go.SX.PW), Go.SX.Ext W95 W97 → Post (Go.Value.bool (Decidable.decide (t96 = { data := #[(51 : UInt8), (47 : UInt8), (50 : UInt8)] }))) W97) ∧
 (¬t90 = (ByteArray.mk #[50]) → ∀ (W98 : Go.SX.PW), Go.SX.Ext W89 W98 → Post (Go.Value.bool Bool.false) W98)) ∧
 (Bool.false = Bool.false →
 (Bool.false = Bool.true →
 Go.SX.inB s17 (1 : Int) ∧
 ∃ (s99 : Go.SX.Sl),
 ∃ (b100 : Bool),
 ∃ (s101 : Go.SX.Sl),
 Go.SX.ElemAt W15 s17 (3 : Nat) (1 : Nat) (0 : Nat) [Go.SX.Sl.v s99, Go.Value.bool b100, Go.SX.Sl.v s101] ∧
 Go.SX.callN Go.Proofs.Try.prog W0 M (18 : Nat) [Go.Value.agg { toList := [Go.SX.Sl.v s99, Go.Value.bool b100, Go.SX.Sl.v s101] }] W15 fun (v102 : Go.Value) (W103 : Go.SX.PW) =>
 ∃ (t104 : ByteArray), v102 = Go.Value.string t104 ∧ ∀ (W105 : Go.SX.PW), Go.SX.Ext W103 W105 → Post (Go.Value.bool (Decidable.decide (t104 = { data := #[(51 : UInt8), (47 : UInt8), (50 : UInt8)] }))) W105) ∧
 (Bool.false = Bool.false → ∀ (W106 : Go.SX.PW), Go.SX.Ext W15 W106 → Post (Go.Value.bool Bool.false) W106))))
theorem calllaw14_alive (W0 : Go.SX.PW) (M : Nat → Prop) (Post : Go.Value → Go.SX.PW → Prop) (h : Rlaw14_alive W0 M Post) : Go.SX.PCallsM Go.Proofs.Try.prog 6 [] W0 M Post :=
  Go.SX.fn_sound rfl tt_ok tt_in Go.Proofs.Try.func6 (cuts := []) rfl rfl (Nat.le_of_ble_eq_true rfl) (Eq.mpr (by kernel_rfl) h)
def Rlaw11_Raw (W0 : Go.SX.PW) (M : Nat → Prop) (a0 : Go.SX.Sl) (Post : Go.Value → Go.SX.PW → Prop) : Prop :=
 ∃ (F1 : List Go.SX.PL → Go.SX.PW → Prop),
 ∃ (F2 : List Go.SX.PL → Go.SX.PW → Nat),
 F1 [Go.SX.PL.row [], Go.SX.PL.row [], Go.SX.PL.val (Go.Value.int Go.IntKind.i64 (0 : Int))] W0 ∧
 ∀ (l3 l4 : List (List Go.Value)) (i5 : Int) (W6 : Go.SX.PW),
 F1 [Go.SX.PL.row l3, Go.SX.PL.row l4, Go.SX.PL.val (Go.Value.int Go.IntKind.i64 i5)] W6 →
 (i5 < (↑a0.2 : Int) →
 (i5 < (5 : Int) →
 ∃ (F7 : List Go.SX.PL → Go.SX.PW → Prop),
 ∃ (F8 : List Go.SX.PL → Go.SX.PW → Nat),
 F7 [Go.SX.PL.row [], Go.SX.PL.row [], Go.SX.PL.val (Go.Value.int Go.IntKind.i64 (0 : Int))] W6 ∧
 ∀ (l9 l10 : List (List Go.Value)) (i11 : Int) (W12 : Go.SX.PW),
 F7 [Go.SX.PL.row l9, Go.SX.PL.row l10, Go.SX.PL.val (Go.Value.int Go.IntKind.i64 i11)] W12 →
 Go.SX.inB a0 i5 ∧
 ∃ (s13 : Go.SX.Sl),
 Go.SX.ElemAt W12 a0 (1 : Nat) (Int.toNat i5) (0 : Nat) [Go.SX.Sl.v s13] ∧
 (i11 < (↑s13.2 : Int) →
 (i11 < (5 : Int) →
 Go.SX.inB a0 i5 ∧
 ∃ (s14 : Go.SX.Sl),
 Go.SX.ElemAt W12 a0 (1 : Nat) (Int.toNat i5) (0 : Nat) [Go.SX.Sl.v s14] ∧
 Go.SX.inB s14 i11 ∧
 ∃ (t15 : ByteArray),
 Go.SX.ElemAt W12 s14 (1 : Nat) (Int.toNat i11) (0 : Nat) [Go.Value.string t15] ∧
 Go.SX.callN Go.Proofs.Try.prog W0 M (16 : Nat) [Go.Value.string t15] W12 fun (v16 : Go.Value) (W17 : Go.SX.PW) =>
 ∃ (s18 : Go.SX.Sl),
 ∃ (b19 : Bool),
 ∃ (s20 : Go.SX.Sl),
 ∃ (b21 : Bool),
 ∃ (s22 : Go.SX.Sl),
 ∃ (s23 : Go.SX.Sl),
 ∃ (b24 : Bool),
 v16 = Go.Value.tuple { toList := [Go.Value.agg { toList := [Go.SX.Sl.v s18, Go.Value.bool b19, Go.SX.Sl.v s20] }, Go.Value.agg { toList := [Go.Value.bool b21, Go.SX.Sl.v s22, Go.SX.Sl.v s23] }, Go.Value.bool b24] } ∧
 (b24 = Bool.true →
 Go.SX.inB a0 i5 ∧
 ∃ (s25 : Go.SX.Sl),
 Go.SX.ElemAt W17 a0 (1 : Nat) (Int.toNat i5) (0 : Nat) [Go.SX.Sl.v s25] ∧
 Go.SX.inB s25 i11 ∧
 ∃ (t26 : ByteArray),
 Go.SX.ElemAt W17 s25 (1 : Nat) (Int.toNat i11) (0 : Nat) [Go.Value.string t26] ∧
 ((↑(ByteArray.size t26) : Int) ≤ (20 : Int) →
 Go.SX.dup (1 : Nat)
 ((List.length l9 + List.length [[Go.SX.Sl.v s18, Go.Value.bool b19, Go.SX.Sl.v s20]]) * (56 : Nat) ≤ (140737488355328 : Nat) ∧
 (List.length l10 + List.length [[Go.Value.bool b21, Go.SX.Sl.v s22, Go.SX.Sl.v s23]]) * (56 : Nat) ≤ (140737488355328 : Nat) ∧
 Go.SX.I64 (i11 + (1 : Int)) ∧
 F7 [Go.SX.PL.row (l9 ++ [[Go.SX.Sl.v s18, Go.Value.bool b19, Go.SX.Sl.v s20]]), Go.SX.PL.row (l10 ++ [[Go.Value.bool b21, Go.SX.Sl.v s22, Go.SX.Sl.v s23]]), Go.SX.PL.val (Go.Value.int Go.IntKind.i64 (i11 + (1 : Int)))] W17 ∧
 F8 [Go.SX.PL.row (l9 ++ [[Go.SX.Sl.v s18, Go.Value.bool b19, Go.SX.Sl.v s20]]), Go.SX.PL.row (l10 ++ [[Go.Value.bool b21, Go.SX.Sl.v s22, Go.SX.Sl.v s23]]), Go.SX.PL.val (Go.Value.int Go.IntKind.i64 (i11 + (1 : Int)))] W17 <
 F8 [Go.SX.PL.row l9, Go.SX.PL.row l10, Go.SX.PL.val (Go.Value.int Go.IntKind.i64 i11)] W12) ∧
 (List.length l9 + List.length [[Go.SX.Sl.v s18, Go.Value.bool b19, Go.SX.Sl.v s20]]) * (56 : Nat) ≤ (140737488355328 : Nat) ∧
 (List.length l10 + List.length [[Go.Value.bool b21, Go.SX.Sl.v s22, Go.SX.Sl.v s23]]) * (56 : Nat) ≤ (140737488355328 : Nat) ∧
 Go.SX.I64 (i11 + (1 : Int)) ∧
 F7 [Go.SX.PL.row (l9 ++ [[Go.SX.Sl.v s18, Go.Value.bool b19, Go.SX.Sl.v s20]]), Go.SX.PL.row (l10 ++ [[Go.Value.bool b21, Go.SX.Sl.v s22, Go.SX.Sl.v s23]]), Go.SX.PL.val (Go.Value.int Go.IntKind.i64 (i11 + (1 : Int)))] W17 ∧
 F8 [Go.SX.PL.row (l9 ++ [[Go.SX.Sl.v s18, Go.Value.bool b19, Go.SX.Sl.v s20]]), Go.SX.PL.row (l10 ++ [[Go.Value.bool b21, Go.SX.Sl.v s22, Go.SX.Sl.v s23]]), Go.SX.PL.val (Go.Value.int Go.IntKind.i64 (i11 + (1 : Int)))] W17 <
 F8 [Go.SX.PL.row l9, Go.SX.PL.row l10, Go.SX.PL.val (Go.Value.int Go.IntKind.i64 i11)] W12) ∧
 (¬(↑(ByteArray.size t26) : Int) ≤ (20 : Int) →
 Go.SX.I64 (i11 + (1 : Int)) ∧
 F7 [Go.SX.PL.row l9, Go.SX.PL.row l10, Go.SX.PL.val (Go.Value.int Go.IntKind.i64 (i11 + (1 : Int)))] W17 ∧
 F8 [Go.SX.PL.row l9, Go.SX.PL.row l10, Go.SX.PL.val (Go.Value.int Go.IntKind.i64 (i11 + (1 : Int)))] W17 < F8 [Go.SX.PL.row l9, Go.SX.PL.row l10, Go.SX.PL.val (Go.Value.int Go.IntKind.i64 i11)] W12)) ∧
 (b24 = Bool.false →
 (Bool.false = Bool.true →
 Go.SX.dup (1 : Nat)
 ((List.length l9 + List.length [[Go.SX.Sl.v s18, Go.Value.bool b19, Go.SX.Sl.v s20]]) * (56 : Nat) ≤ (140737488355328 : Nat) ∧
 (List.length l10 + List.length [[Go.Value.bool b21, Go.SX.Sl.v s22, Go.SX.Sl.v s23]]) * (56 : Nat) ≤ (140737488355328 : Nat) ∧
 Go.SX.I64 (i11 + (1 : Int)) ∧
 F7 [Go.SX.PL.row (l9 ++ [[Go.SX.Sl.v s18, Go.Value.bool b19, Go.SX.Sl.v s20]]), Go.SX.PL.row (l10 ++ [[Go.Value.bool b21, Go.SX.Sl.v s22, Go.SX.Sl.v s23]]), Go.SX.PL.val (Go.Value.int Go.IntKind.i64 (i11 + (1 : Int)))] W17 ∧
 F8 [Go.SX.PL.row (l9 ++ [[Go.SX.Sl.v s18, Go.Value.bool b19, Go.SX.Sl.v s20]]), Go.SX.PL.row (l10 ++ [[Go.Value.bool b21, Go.SX.Sl.v s22, Go.SX.Sl.v s23]]), Go.SX.PL.val (Go.Value.int Go.IntKind.i64 (i11 + (1 : Int)))] W17 <
 F8 [Go.SX.PL.row l9, Go.SX.PL.row l10, Go.SX.PL.val (Go.Value.int Go.IntKind.i64 i11)] W12) ∧
 (List.length l9 + List.length [[Go.SX.Sl.v s18, Go.Value.bool b19, Go.SX.Sl.v s20]]) * (56 : Nat) ≤ (140737488355328 : Nat) ∧
 (List.length l10 + List.length [[Go.Value.bool b21, Go.SX.Sl.v s22, Go.SX.Sl.v s23]]) * (56 : Nat) ≤ (140737488355328 : Nat) ∧
 Go.SX.I64 (i11 + (1 : Int)) ∧
 F7 [Go.SX.PL.row (l9 ++ [[Go.SX.Sl.v s18, Go.Value.bool b19, Go.SX.Sl.v s20]]), Go.SX.PL.row (l10 ++ [[Go.Value.bool b21, Go.SX.Sl.v s22, Go.SX.Sl.v s23]]), Go.SX.PL.val (Go.Value.int Go.IntKind.i64 (i11 + (1 : Int)))] W17 ∧
 F8 [Go.SX.PL.row (l9 ++ [[Go.SX.Sl.v s18, Go.Value.bool b19, Go.SX.Sl.v s20]]), Go.SX.PL.row (l10 ++ [[Go.Value.bool b21, Go.SX.Sl.v s22, Go.SX.Sl.v s23]]), Go.SX.PL.val (Go.Value.int Go.IntKind.i64 (i11 + (1 : Int)))] W17 <
 F8 [Go.SX.PL.row l9, Go.SX.PL.row l10, Go.SX.PL.val (Go.Value.int Go.IntKind.i64 i11)] W12) ∧
 (Bool.false = Bool.false →
 Go.SX.I64 (i11 + (1 : Int)) ∧
 F7 [Go.SX.PL.row l9, Go.SX.PL.row l10, Go.SX.PL.val (Go.Value.int Go.IntKind.i64 (i11 + (1 : Int)))] W17 ∧ F8 [Go.SX.PL.row l9, Go.SX.PL.row l10, Go.SX.PL.val (Go.Value.int Go.IntKind.i64 (i11 + (1 : Int)))] W17 < F8 [Go.SX.PL.row l9, Go.SX.PL.row l10, Go.SX.PL.val (Go.Value.int Go.IntKind.i64 i11)] W12))) ∧
 (¬i11 < (5 : Int) →
 ∀ (s27 : Go.SX.Sl) (W28 : Go.SX.PW),
 Go.SX.Ext W12 W28 →
 Go.SX.Own W28 (43 : Nat) (3 : Nat) s27 l9 →
 (∀ (n29 : Nat), Go.Value.ownBlock (Go.SX.Sl.v s27) = Option.some n29 → Array.size (Go.SX.PW.w W0).1 ≤ n29 ∧ (n29 < Array.size (Go.SX.PW.w W12).1 → W12.2 n29)) →
 (List.length l3 + List.length [[Go.SX.Sl.v s27]]) * (24 : Nat) ≤ (140737488355328 : Nat) ∧
 ∀ (s30 : Go.SX.Sl) (W31 : Go.SX.PW),
 Go.SX.Ext W28 W31 →
 Go.SX.Own W31 (57 : Nat) (3 : Nat) s30 l10 →
 (∀ (n32 : Nat), Go.Value.ownBlock (Go.SX.Sl.v s30) = Option.some n32 → Array.size (Go.SX.PW.w W0).1 ≤ n32 ∧ (n32 < Array.size (Go.SX.PW.w W28).1 → W28.2 n32)) →
 (List.length l4 + List.length [[Go.SX.Sl.v s30]]) * (24 : Nat) ≤ (140737488355328 : Nat) ∧
 Go.SX.I64 (i5 + (1 : Int)) ∧
 F1 [Go.SX.PL.row (l3 ++ [[Go.SX.Sl.v s27]]), Go.SX.PL.row (l4 ++ [[Go.SX.Sl.v s30]]), Go.SX.PL.val (Go.Value.int Go.IntKind.i64 (i5 + (1 : Int)))] W31 ∧
 F2 [Go.SX.PL.row (l3 ++ [[Go.SX.Sl.v s27]]), Go.SX.PL.row (l4 ++ [[Go.SX.Sl.v s30]]), Go.SX.PL.val (Go.Value.int Go.IntKind.i64 (i5 + (1 : Int)))] W31 < F2 [Go.SX.PL.row l3, Go.SX.PL.row l4, Go.SX.PL.val (Go.Value.int Go.IntKind.i64 i5)] W6)) ∧
 (¬i11 < (↑s13.2 : Int) →
 (Bool.false = Bool.true →
 Go.SX.inB a0 i5 ∧
 ∃ (s33 : Go.SX.Sl),
 Go.SX.ElemAt W12 a0 (1 : Nat) (Int.toNat i5) (0 : Nat) [Go.SX.Sl.v s33] ∧
 Go.SX.inB s33 i11 ∧
 ∃ (t34 : ByteArray),
 Go.SX.ElemAt W12 s33 (1 : Nat) (Int.toNat i11) (0 : Nat) [Go.Value.string t34] ∧
 Go.SX.callN Go.Proofs.Try.prog W0 M (16 : Nat) [Go.Value.string t34] W12 fun (v35 : Go.Value) (W36 : Go.SX.PW) =>
 ∃ (s37 : Go.SX.Sl),
 ∃ (b38 : Bool),
 ∃ (s39 : Go.SX.Sl),
 ∃ (b40 : Bool),
 ∃ (s41 : Go.SX.Sl),
 ∃ (s42 : Go.SX.Sl),
 ∃ (b43 : Bool),
 v35 = Go.Value.tuple { toList := [Go.Value.agg { toList := [Go.SX.Sl.v s37, Go.Value.bool b38, Go.SX.Sl.v s39] }, Go.Value.agg { toList := [Go.Value.bool b40, Go.SX.Sl.v s41, Go.SX.Sl.v s42] }, Go.Value.bool b43] } ∧
 (b43 = Bool.true →
 Go.SX.inB a0 i5 ∧
 ∃ (s44 : Go.SX.Sl),
 Go.SX.ElemAt W36 a0 (1 : Nat) (Int.toNat i5) (0 : Nat) [Go.SX.Sl.v s44] ∧
 Go.SX.inB s44 i11 ∧
 ∃ (t45 : ByteArray),
 Go.SX.ElemAt W36 s44 (1 : Nat) (Int.toNat i11) (0 : Nat) [Go.Value.string t45] ∧
 ((↑(ByteArray.size t45) : Int) ≤ (20 : Int) →
 Go.SX.dup (1 : Nat)
 ((List.length l9 + List.length [[Go.SX.Sl.v s37, Go.Value.bool b38, Go.SX.Sl.v s39]]) * (56 : Nat) ≤ (140737488355328 : Nat) ∧
 (List.length l10 + List.length [[Go.Value.bool b40, Go.SX.Sl.v s41, Go.SX.Sl.v s42]]) * (56 : Nat) ≤ (140737488355328 : Nat) ∧
 Go.SX.I64 (i11 + (1 : Int)) ∧
 F7 [Go.SX.PL.row (l9 ++ [[Go.SX.Sl.v s37, Go.Value.bool b38, Go.SX.Sl.v s39]]), Go.SX.PL.row (l10 ++ [[Go.Value.bool b40, Go.SX.Sl.v s41, Go.SX.Sl.v s42]]), Go.SX.PL.val (Go.Value.int Go.IntKind.i64 (i11 + (1 : Int)))] W36 ∧
 F8 [Go.SX.PL.row (l9 ++ [[Go.SX.Sl.v s37, Go.Value.bool b38, Go.SX.Sl.v s39]]), Go.SX.PL.row (l10 ++ [[Go.Value.bool b40, Go.SX.Sl.v s41, Go.SX.Sl.v s42]]), Go.SX.PL.val (Go.Value.int Go.IntKind.i64 (i11 + (1 : Int)))] W36 <
 F8 [Go.SX.PL.row l9, Go.SX.PL.row l10, Go.SX.PL.val (Go.Value.int Go.IntKind.i64 i11)] W12) ∧
 (List.length l9 + List.length [[Go.SX.Sl.v s37, Go.Value.bool b38, Go.SX.Sl.v s39]]) * (56 : Nat) ≤ (140737488355328 : Nat) ∧
 (List.length l10 + List.length [[Go.Value.bool b40, Go.SX.Sl.v s41, Go.SX.Sl.v s42]]) * (56 : Nat) ≤ (140737488355328 : Nat) ∧
 Go.SX.I64 (i11 + (1 : Int)) ∧
 F7 [Go.SX.PL.row (l9 ++ [[Go.SX.Sl.v s37, Go.Value.bool b38, Go.SX.Sl.v s39]]), Go.SX.PL.row (l10 ++ [[Go.Value.bool b40, Go.SX.Sl.v s41, Go.SX.Sl.v s42]]), Go.SX.PL.val (Go.Value.int Go.IntKind.i64 (i11 + (1 : Int)))] W36 ∧
 F8 [Go.SX.PL.row (l9 ++ [[Go.SX.Sl.v s37, Go.Value.bool b38, Go.SX.Sl.v s39]]), Go.SX.PL.row (l10 ++ [[Go.Value.bool b40, Go.SX.Sl.v s41, Go.SX.Sl.v s42]]), Go.SX.PL.val (Go.Value.int Go.IntKind.i64 (i11 + (1 : Int)))] W36 <
 F8 [Go.SX.PL.row l9, Go.SX.PL.row l10, Go.SX.PL.val (Go.Value.int Go.IntKind.i64 i11)] W12) ∧
 (¬(↑(ByteArray.size t45) : Int) ≤ (20 : Int) →
 Go.SX.I64 (i11 + (1 : Int)) ∧
 F7 [Go.SX.PL.row l9, Go.SX.PL.row l10, Go.SX.PL.val (Go.Value.int Go.IntKind.i64 (i11 + (1 : Int)))] W36 ∧
 F8 [Go.SX.PL.row l9, Go.SX.PL.row l10, Go.SX.PL.val (Go.Value.int Go.IntKind.i64 (i11 + (1 : Int)))] W36 < F8 [Go.SX.PL.row l9, Go.SX.PL.row l10, Go.SX.PL.val (Go.Value.int Go.IntKind.i64 i11)] W12)) ∧
 (b43 = Bool.false →
 (Bool.false = Bool.true →
 Go.SX.dup (1 : Nat)
 ((List.length l9 + List.length [[Go.SX.Sl.v s37, Go.Value.bool b38, Go.SX.Sl.v s39]]) * (56 : Nat) ≤ (140737488355328 : Nat) ∧
 (List.length l10 + List.length [[Go.Value.bool b40, Go.SX.Sl.v s41, Go.SX.Sl.v s42]]) * (56 : Nat) ≤ (140737488355328 : Nat) ∧
 Go.SX.I64 (i11 + (1 : Int)) ∧
 F7 [Go.SX.PL.row (l9 ++ [[Go.SX.Sl.v s37, Go.Value.bool b38, Go.SX.Sl.v s39]]), Go.SX.PL.row (l10 ++ [[Go.Value.bool b40, Go.SX.Sl.v s41, Go.SX.Sl.v s42]]), Go.SX.PL.val (Go.Value.int Go.IntKind.i64 (i11 + (1 : Int)))] W36 ∧
 F8 [Go.SX.PL.row (l9 ++ [[Go.SX.Sl.v s37, Go.Value.bool b38, Go.SX.Sl.v s39]]), Go.SX.PL.row (l10 ++ [[Go.Value.bool b40, Go.SX.Sl.v s41, Go.SX.Sl.v s42]]), Go.SX.PL.val (Go.Value.int Go.IntKind.i64 (i11 + (1 : Int)))] W36 <
 F8 [Go.SX.PL.row l9, Go.SX.PL.row l10, Go.SX.PL.val (Go.Value.int Go.IntKind.i64 i11)] W12) ∧
 (List.length l9 + List.length [[Go.SX.Sl.v s37, Go.Value.bool b38, Go.SX.Sl.v s39]]) * (56 : Nat) ≤ (140737488355328 : Nat) ∧
 (List.length l10 + List.length [[Go.Value.bool b40, Go.SX.Sl.v s41, Go.SX.Sl.v s42]]) * (56 : Nat) ≤ (140737488355328 : Nat) ∧
 Go.SX.I64 (i11 + (1 : Int)) ∧
 F7 [Go.SX.PL.row (l9 ++ [[Go.SX.Sl.v s37, Go.Value.bool b38, Go.SX.Sl.v s39]]), Go.SX.PL.row (l10 ++ [[Go.Value.bool b40, Go.SX.Sl.v s41, Go.SX.Sl.v s42]]), Go.SX.PL.val (Go.Value.int Go.IntKind.i64 (i11 + (1 : Int)))] W36 ∧
 F8 [Go.SX.PL.row (l9 ++ [[Go.SX.Sl.v s37, Go.Value.bool b38, Go.SX.Sl.v s39]]), Go.SX.PL.row (l10 ++ [[Go.Value.bool b40, Go.SX.Sl.v s41, Go.SX.Sl.v s42]]), Go.SX.PL.val (Go.Value.int Go.IntKind.i64 (i11 + (1 : Int)))] W36 <
 F8 [Go.SX.PL.row l9, Go.SX.PL.row l10, Go.SX.PL.val (Go.Value.int Go.IntKind.i64 i11)] W12) ∧
 (Bool.false = Bool.false →
 Go.SX.I64 (i11 + (1 : Int)) ∧
 F7 [Go.SX.PL.row l9, Go.SX.PL.row l10, Go.SX.PL.val (Go.Value.int Go.IntKind.i64 (i11 + (1 : Int)))] W36 ∧ F8 [Go.SX.PL.row l9, Go.SX.PL.row l10, Go.SX.PL.val (Go.Value.int Go.IntKind.i64 (i11 + (1 : Int)))] W36 < F8 [Go.SX.PL.row l9, Go.SX.PL.row l10, Go.SX.PL.val (Go.Value.int Go.IntKind.i64 i11)] W12))) ∧
 (Bool.false = Bool.false →
 ∀ (s46 : Go.SX.Sl) (W47 : Go.SX.PW),
 Go.SX.Ext W12 W47 →
 Go.SX.Own W47 (43 : Nat) (3 : Nat) s46 l9 →
 (∀ (n48 : Nat), Go.Value.ownBlock (Go.SX.Sl.v s46) = Option.some n48 → Array.size (Go.SX.PW.w W0).1 ≤ n48 ∧ (n48 < Array.size (Go.SX.PW.w W12).1 → W12.2 n48)) →
 (List.length l3 + List.length [[Go.SX.Sl.v s46]]) * (24 : Nat) ≤ (140737488355328 : Nat) ∧
 ∀ (s49 : Go.SX.Sl) (W50 : Go.SX.PW),
 Go.SX.Ext W47 W50 →
 Go.SX.Own W50 (57 : Nat) (3 : Nat) s49 l10 →
 (∀ (n51 : Nat), Go.Value.ownBlock (Go.SX.Sl.v s49) = Option.some n51 → Array.size (Go.SX.PW.w W0).1 ≤ n51 ∧ (n51 < Array.size (Go.SX.PW.w W47).1 → W47.2 n51)) →
 (List.length l4 + List.length [[Go.SX.Sl.v s49]]) * (24 : Nat) ≤ (140737488355328 : Nat) ∧
 Go.SX.I64 (i5 + (1 : Int)) ∧
 F1 [Go.SX.PL.row (l3 ++ [[Go.SX.Sl.v s46]]), Go.SX.PL.row (l4 ++ [[Go.SX.Sl.v s49]]), Go.SX.PL.val (Go.Value.int Go.IntKind.i64 (i5 + (1 : Int)))] W50 ∧
 F2 [Go.SX.PL.row (l3 ++ [[Go.SX.Sl.v s46]]), Go.SX.PL.row (l4 ++ [[Go.SX.Sl.v s49]]), Go.SX.PL.val (Go.Value.int Go.IntKind.i64 (i5 + (1 : Int)))] W50 < F2 [Go.SX.PL.row l3, Go.SX.PL.row l4, Go.SX.PL.val (Go.Value.int Go.IntKind.i64 i5)] W6))) ∧
 (¬i5 < (5 : Int) →
 ∀ (s52 : Go.SX.Sl) (W53 : Go.SX.PW),
 Go.SX.Ext W6 W53 →
 Go.SX.Own W53 (31 : Nat) (1 : Nat) s52 l3 →
 (∀ (n54 : Nat), Go.Value.ownBlock (Go.SX.Sl.v s52) = Option.some n54 → Array.size (Go.SX.PW.w W0).1 ≤ n54 ∧ (n54 < Array.size (Go.SX.PW.w W6).1 → W6.2 n54)) →
 ∀ (s55 : Go.SX.Sl) (W56 : Go.SX.PW),
 Go.SX.Ext W53 W56 → Go.SX.Own W56 (51 : Nat) (1 : Nat) s55 l4 → (∀ (n57 : Nat), Go.Value.ownBlock (Go.SX.Sl.v s55) = Option.some n57 → Array.size (Go.SX.PW.w W0).1 ≤ n57 ∧ (n57 < Array.size (Go.SX.PW.w W53).1 → W53.2 n57)) → ∀ (W58 : Go.SX.PW), Go.SX.Ext W56 W58 → Post (Go.Value.tuple { toList := [Go.SX.Sl.v s52, Go.SX.Sl.v s55] }) W58)) ∧
 (¬i5 < (↑a0.2 : Int) →
 (Bool.false = Bool.true →
 ∃ (F59 : List Go.SX.PL → Go.SX.PW → Prop),
 ∃ (F60 : List Go.SX.PL → Go.SX.PW → Nat),
 F59 [Go.SX.PL.row [], Go.SX.PL.row [], Go.SX.PL.val (Go.Value.int Go.IntKind.i64 (0 : Int))] W6 ∧
 ∀ (l61 l62 : List (List Go.Value)) (i63 : Int) (W64 : Go.SX.PW),
 F59 [Go.SX.PL.row l61, Go.SX.PL.row l62, Go.SX.PL.val (Go.Value.int Go.IntKind.i64 i63)] W64 →
 Go.SX.inB a0 i5 ∧
 ∃ (s65 : Go.SX.Sl),
 Go.SX.ElemAt W64 a0 (1 : Nat) (Int.toNat i5) (0 : Nat) [Go.SX.Sl.v s65] ∧
 (i63 < (↑s65.2 : Int) →
 (i63 < (5 : Int) →
 Go.SX.inB a0 i5 ∧
 ∃ (s66 : Go.SX.Sl),
 Go.SX.ElemAt W64 a0 (1 : Nat) (Int.toNat i5) (0 : Nat) [Go.SX.Sl.v s66] ∧
 Go.SX.inB s66 i63 ∧
 ∃ (t67 : ByteArray),
 Go.SX.ElemAt W64 s66 (1 : Nat) (Int.toNat i63) (0 : Nat) [Go.Value.string t67] ∧
 Go.SX.callN Go.Proofs.Try.prog W0 M (16 : Nat) [Go.Value.string t67] W64 fun (v68 : Go.Value) (W69 : Go.SX.PW) =>
 ∃ (s70 : Go.SX.Sl),
 ∃ (b71 : Bool),
 ∃ (s72 : Go.SX.Sl),
 ∃ (b73 : Bool),
 ∃ (s74 : Go.SX.Sl),
 ∃ (s75 : Go.SX.Sl),
 ∃ (b76 : Bool),
 v68 = Go.Value.tuple { toList := [Go.Value.agg { toList := [Go.SX.Sl.v s70, Go.Value.bool b71, Go.SX.Sl.v s72] }, Go.Value.agg { toList := [Go.Value.bool b73, Go.SX.Sl.v s74, Go.SX.Sl.v s75] }, Go.Value.bool b76] } ∧
 (b76 = Bool.true →
 Go.SX.inB a0 i5 ∧
 ∃ (s77 : Go.SX.Sl),
 Go.SX.ElemAt W69 a0 (1 : Nat) (Int.toNat i5) (0 : Nat) [Go.SX.Sl.v s77] ∧
 Go.SX.inB s77 i63 ∧
 ∃ (t78 : ByteArray),
 Go.SX.ElemAt W69 s77 (1 : Nat) (Int.toNat i63) (0 : Nat) [Go.Value.string t78] ∧
 ((↑(ByteArray.size t78) : Int) ≤ (20 : Int) →
 Go.SX.dup (1 : Nat)
 ((List.length l61 + List.length [[Go.SX.Sl.v s70, Go.Value.bool b71, Go.SX.Sl.v s72]]) * (56 : Nat) ≤ (140737488355328 : Nat) ∧
 (List.length l62 + List.length [[Go.Value.bool b73, Go.SX.Sl.v s74, Go.SX.Sl.v s75]]) * (56 : Nat) ≤ (140737488355328 : Nat) ∧
 Go.SX.I64 (i63 + (1 : Int)) ∧
 F59 [Go.SX.PL.row (l61 ++ [[Go.SX.Sl.v s70, Go.Value.bool b71, Go.SX.Sl.v s72]]), Go.SX.PL.row (l62 ++ [[Go.Value.bool b73, Go.SX.Sl.v s74, Go.SX.Sl.v s75]]), Go.SX.PL.val (Go.Value.int Go.IntKind.i64 (i63 + (1 : Int)))] W69 ∧
 F60 [Go.SX.PL.row (l61 ++ [[Go.SX.Sl.v s70, Go.Value.bool b71, Go.SX.Sl.v s72]]), Go.SX.PL.row (l62 ++ [[Go.Value.bool b73, Go.SX.Sl.v s74, Go.SX.Sl.v s75]]), Go.SX.PL.val (Go.Value.int Go.IntKind.i64 (i63 + (1 : Int)))] W69 <
 F60 [Go.SX.PL.row l61, Go.SX.PL.row l62, Go.SX.PL.val (Go.Value.int Go.IntKind.i64 i63)] W64) ∧
 (List.length l61 + List.length [[Go.SX.Sl.v s70, Go.Value.bool b71, Go.SX.Sl.v s72]]) * (56 : Nat) ≤ (140737488355328 : Nat) ∧
 (List.length l62 + List.length [[Go.Value.bool b73, Go.SX.Sl.v s74, Go.SX.Sl.v s75]]) * (56 : Nat) ≤ (140737488355328 : Nat) ∧
 Go.SX.I64 (i63 + (1 : Int)) ∧
 F59 [Go.SX.PL.row (l61 ++ [[Go.SX.Sl.v s70, Go.Value.bool b71, Go.SX.Sl.v s72]]), Go.SX.PL.row (l62 ++ [[Go.Value.bool b73, Go.SX.Sl.v s74, Go.SX.Sl.v s75]]), Go.SX.PL.val (Go.Value.int Go.IntKind.i64 (i63 + (1 : Int)))] W69 ∧
 F60 [Go.SX.PL.row (l61 ++ [[Go.SX.Sl.v s70, Go.Value.bool b71, Go.SX.Sl.v s72]]), Go.SX.PL.row (l62 ++ [[Go.Value.bool b73, Go.SX.Sl.v s74, Go.SX.Sl.v s75]]), Go.SX.PL.val (Go.Value.int Go.IntKind.i64 (i63 + (1 : Int)))] W69 <
 F60 [Go.SX.PL.row l61, Go.SX.PL.row l62, Go.SX.PL.val (Go.Value.int Go.IntKind.i64 i63)] W64) ∧
 (¬(↑(ByteArray.size t78) : Int) ≤ (20 : Int) →
 Go.SX.I64 (i63 + (1 : Int)) ∧
 F59 [Go.SX.PL.row l61, Go.SX.PL.row l62, Go.SX.PL.val (Go.Value.int Go.IntKind.i64 (i63 + (1 : Int)))] W69 ∧
 F60 [Go.SX.PL.row l61, Go.SX.PL.row l62, Go.SX.PL.val (Go.Value.int Go.IntKind.i64 (i63 + (1 : Int)))] W69 < F60 [Go.SX.PL.row l61, Go.SX.PL.row l62, Go.SX.PL.val (Go.Value.int Go.IntKind.i64 i63)] W64)) ∧
 (b76 = Bool.false →
 (Bool.false = Bool.true →
 Go.SX.dup (1 : Nat)
 ((List.length l61 + List.length [[Go.SX.Sl.v s70, Go.Value.bool b71, Go.SX.Sl.v s72]]) * (56 : Nat) ≤ (140737488355328 : Nat) ∧
 (List.length l62 + List.length [[Go.Value.bool b73, Go.SX.Sl.v s74, Go.SX.Sl.v s75]]) * (56 : Nat) ≤ (140737488355328 : Nat) ∧
 Go.SX.I64 (i63 + (1 : Int)) ∧
 F59 [Go.SX.PL.row (l61 ++ [[Go.SX.Sl.v s70, Go.Value.bool b71, Go.SX.Sl.v s72]]), Go.SX.PL.row (l62 ++ [[Go.Value.bool b73, Go.SX.Sl.v s74, Go.SX.Sl.v s75]]), Go.SX.PL.val (Go.Value.int Go.IntKind.i64 (i63 + (1 : Int)))] W69 ∧
 F60 [Go.SX.PL.row (l61 ++ [[Go.SX.Sl.v s70, Go.Value.bool b71, Go.SX.Sl.v s72]]), Go.SX.PL.row (l62 ++ [[Go.Value.bool b73, Go.SX.Sl.v s74, Go.SX.Sl.v s75]]), Go.SX.PL.val (Go.Value.int Go.IntKind.i64 (i63 + (1 : Int)))] W69 <
 F60 [Go.SX.PL.row l61, Go.SX.PL.row l62, Go.SX.PL.val (Go.Value.int Go.IntKind.i64 i63)] W64) ∧
 (List.length l61 + List.length [[Go.SX.Sl.v s70, Go.Value.bool b71, Go.SX.Sl.v s72]]) * (56 : Nat) ≤ (140737488355328 : Nat) ∧
 (List.length l62 + List.length [[Go.Value.bool b73, Go.SX.Sl.v s74, Go.SX.Sl.v s75]]) * (56 : Nat) ≤ (140737488355328 : Nat) ∧
 Go.SX.I64 (i63 + (1 : Int)) ∧
 F59 [Go.SX.PL.row (l61 ++ [[Go.SX.Sl.v s70, Go.Value.bool b71, Go.SX.Sl.v s72]]), Go.SX.PL.row (l62 ++ [[Go.Value.bool b73, Go.SX.Sl.v s74, Go.SX.Sl.v s75]]), Go.SX.PL.val (Go.Value.int Go.IntKind.i64 (i63 + (1 : Int)))] W69 ∧
 F60 [Go.SX.PL.row (l61 ++ [[Go.SX.Sl.v s70, Go.Value.bool b71, Go.SX.Sl.v s72]]), Go.SX.PL.row (l62 ++ [[Go.Value.bool b73, Go.SX.Sl.v s74, Go.SX.Sl.v s75]]), Go.SX.PL.val (Go.Value.int Go.IntKind.i64 (i63 + (1 : Int)))] W69 <
 F60 [Go.SX.PL.row l61, Go.SX.PL.row l62, Go.SX.PL.val (Go.Value.int Go.IntKind.i64 i63)] W64) ∧
 (Bool.false = Bool.false →
 Go.SX.I64 (i63 + (1 : Int)) ∧
 F59 [Go.SX.PL.row l61, Go.SX.PL.row l62, Go.SX.PL.val (Go.Value.int Go.IntKind.i64 (i63 + (1 : Int)))] W69 ∧ F60 [Go.SX.PL.row l61, Go.SX.PL.row l62, Go.SX.PL.val (Go.Value.int Go.IntKind.i64 (i63 + (1 : Int)))] W69 < F60 [Go.SX.PL.row l61, Go.SX.PL.row l62, Go.SX.PL.val (Go.Value.int Go.IntKind.i64 i63)] W64))) ∧
 (¬i63 < (5 : Int) →
 ∀ (s79 : Go.SX.Sl) (W80 : Go.SX.PW),
 Go.SX.Ext W64 W80 →
 Go.SX.Own W80 (43 : Nat) (3 : Nat) s79 l61 →
 (∀ (n81 : Nat), Go.Value.ownBlock (Go.SX.Sl.v s79) = Option.some n81 → Array.size (Go.SX.PW.w W0).1 ≤ n81 ∧ (n81 < Array.size (Go.SX.PW.w W64).1 → W64.2 n81)) →
 (List.length l3 + List.length [[Go.SX.Sl.v s79]]) * (24 : Nat) ≤ (140737488355328 : Nat) ∧
 ∀ (s82 : Go.SX.Sl) (W83 : Go.SX.PW),
 Go.SX.Ext W80 W83 →
 Go.SX.Own W83 (57 : Nat) (3 : Nat) s82 l62 →
 (∀ (n84 : Nat), Go.Value.ownBlock (Go.SX.Sl.v s82) = Option.some n84 → Array.size (Go.SX.PW.w W0).1 ≤ n84 ∧ (n84 < Array.size (Go.SX.PW.w W80).1 → W80.2 n84)) →
 (List.length l4 + List.length [[Go.SX.Sl.v s82]]) * (24 : Nat) ≤ (140737488355328 : Nat) ∧
 Go.SX.I64 (i5 + (1 : Int)) ∧
 F1 [Go.SX.PL.row (l3 ++ [[Go.SX.Sl.v s79]]), Go.SX.PL.row (l4 ++ [[Go.SX.Sl.v s82]]), Go.SX.PL.val (Go.Value.int Go.IntKind.i64 (i5 + (1 : Int)))] W83 ∧
 F2 [Go.SX.PL.row (l3 ++ [[Go.SX.Sl.v s79]]), Go.SX.PL.row (l4 ++ [[Go.SX.Sl.v s82]]), Go.SX.PL.val (Go.Value.int Go.IntKind.i64 (i5 + (1 : Int)))] W83 < F2 [Go.SX.PL.row l3, Go.SX.PL.row l4, Go.SX.PL.val (Go.Value.int Go.IntKind.i64 i5)] W6)) ∧
 (¬i63 < (↑s65.2 : Int) →
 (Bool.false = Bool.true →
 Go.SX.inB a0 i5 ∧
 ∃ (s85 : Go.SX.Sl),
 Go.SX.ElemAt W64 a0 (1 : Nat) (Int.toNat i5) (0 : Nat) [Go.SX.Sl.v s85] ∧
 Go.SX.inB s85 i63 ∧
 ∃ (t86 : ByteArray),
 Go.SX.ElemAt W64 s85 (1 : Nat) (Int.toNat i63) (0 : Nat) [Go.Value.string t86] ∧
 Go.SX.callN Go.Proofs.Try.prog W0 M (16 : Nat) [Go.Value.string t86] W64 fun (v87 : Go.Value) (W88 : Go.SX.PW) =>
 ∃ (s89 : Go.SX.Sl),
 ∃ (b90 : Bool),
 ∃ (s91 : Go.SX.Sl),
 ∃ (b92 : Bool),
 ∃ (s93 : Go.SX.Sl),
 ∃ (s94 : Go.SX.Sl),
 ∃ (b95 : Bool),
 v87 = Go.Value.tuple { toList := [Go.Value.agg { toList := [Go.SX.Sl.v s89, Go.Value.bool b90, Go.SX.Sl.v s91] }, Go.Value.agg { toList := [Go.Value.bool b92, Go.SX.Sl.v s93, Go.SX.Sl.v s94] }, Go.Value.bool b95] } ∧
 (b95 = Bool.true →
 Go.SX.inB a0 i5 ∧
 ∃ (s96 : Go.SX.Sl),
 Go.SX.ElemAt W88 a0 (1 : Nat) (Int.toNat i5) (0 : Nat) [Go.SX.Sl.v s96] ∧
 Go.SX.inB s96 i63 ∧
 ∃ (t97 : ByteArray),
 Go.SX.ElemAt W88 s96 (1 : Nat) (Int.toNat i63) (0 : Nat) [Go.Value.string t97] ∧
 ((↑(ByteArray.size t97) : Int) ≤ (20 : Int) →
 Go.SX.dup (1 : Nat)
 ((List.length l61 + List.length [[Go.SX.Sl.v s89, Go.Value.bool b90, Go.SX.Sl.v s91]]) * (56 : Nat) ≤ (140737488355328 : Nat) ∧
 (List.length l62 + List.length [[Go.Value.bool b92, Go.SX.Sl.v s93, Go.SX.Sl.v s94]]) * (56 : Nat) ≤ (140737488355328 : Nat) ∧
 Go.SX.I64 (i63 + (1 : Int)) ∧
 F59 [Go.SX.PL.row (l61 ++ [[Go.SX.Sl.v s89, Go.Value.bool b90, Go.SX.Sl.v s91]]), Go.SX.PL.row (l62 ++ [[Go.Value.bool b92, Go.SX.Sl.v s93, Go.SX.Sl.v s94]]), Go.SX.PL.val (Go.Value.int Go.IntKind.i64 (i63 + (1 : Int)))] W88 ∧
 F60 [Go.SX.PL.row (l61 ++ [[Go.SX.Sl.v s89, Go.Value.bool b90, Go.SX.Sl.v s91]]), Go.SX.PL.row (l62 ++ [[Go.Value.bool b92, Go.SX.Sl.v s93, Go.SX.Sl.v s94]]), Go.SX.PL.val (Go.Value.int Go.IntKind.i64 (i63 + (1 : Int)))] W88 <
 F60 [Go.SX.PL.row l61, Go.SX.PL.row l62, Go.SX.PL.val (Go.Value.int Go.IntKind.i64 i63)] W64) ∧
 (List.length l61 + List.length [[Go.SX.Sl.v s89, Go.Value.bool b90, Go.SX.Sl.v s91]]) * (56 : Nat) ≤ (140737488355328 : Nat) ∧
 (List.length l62 + List.length [[Go.Value.bool b92, Go.SX.Sl.v s93, Go.SX.Sl.v s94]]) * (56 : Nat) ≤ (140737488355328 : Nat) ∧
 Go.SX.I64 (i63 + (1 : Int)) ∧
 F59 [Go.SX.PL.row (l61 ++ [[Go.SX.Sl.v s89, Go.Value.bool b90, Go.SX.Sl.v s91]]), Go.SX.PL.row (l62 ++ [[Go.Value.bool b92, Go.SX.Sl.v s93, Go.SX.Sl.v s94]]), Go.SX.PL.val (Go.Value.int Go.IntKind.i64 (i63 + (1 : Int)))] W88 ∧
 F60 [Go.SX.PL.row (l61 ++ [[Go.SX.Sl.v s89, Go.Value.bool b90, Go.SX.Sl.v s91]]), Go.SX.PL.row (l62 ++ [[Go.Value.bool b92, Go.SX.Sl.v s93, Go.SX.Sl.v s94]]), Go.SX.PL.val (Go.Value.int Go.IntKind.i64 (i63 + (1 : Int)))] W88 <
 F60 [Go.SX.PL.row l61, Go.SX.PL.row l62, Go.SX.PL.val (Go.Value.int Go.IntKind.i64 i63)] W64) ∧
 (¬(↑(ByteArray.size t97) : Int) ≤ (20 : Int) →
 Go.SX.I64 (i63 + (1 : Int)) ∧
 F59 [Go.SX.PL.row l61, Go.SX.PL.row l62, Go.SX.PL.val (Go.Value.int Go.IntKind.i64 (i63 + (1 : Int)))] W88 ∧
 F60 [Go.SX.PL.row l61, Go.SX.PL.row l62, Go.SX.PL.val (Go.Value.int Go.IntKind.i64 (i63 + (1 : Int)))] W88 < F60 [Go.SX.PL.row l61, Go.SX.PL.row l62, Go.SX.PL.val (Go.Value.int Go.IntKind.i64 i63)] W64)) ∧
 (b95 = Bool.false →
 (Bool.false = Bool.true →
 Go.SX.dup (1 : Nat)
 ((List.length l61 + List.length [[Go.SX.Sl.v s89, Go.Value.bool b90, Go.SX.Sl.v s91]]) * (56 : Nat) ≤ (140737488355328 : Nat) ∧
 (List.length l62 + List.length [[Go.Value.bool b92, Go.SX.Sl.v s93, Go.SX.Sl.v s94]]) * (56 : Nat) ≤ (140737488355328 : Nat) ∧
 Go.SX.I64 (i63 + (1 : Int)) ∧
 F59 [Go.SX.PL.row (l61 ++ [[Go.SX.Sl.v s89, Go.Value.bool b90, Go.SX.Sl.v s91]]), Go.SX.PL.row (l62 ++ [[Go.Value.bool b92, Go.SX.Sl.v s93, Go.SX.Sl.v s94]]), Go.SX.PL.val (Go.Value.int Go.IntKind.i64 (i63 + (1 : Int)))] W88 ∧
 F60 [Go.SX.PL.row (l61 ++ [[Go.SX.Sl.v s89, Go.Value.bool b90, Go.SX.Sl.v s91]]), Go.SX.PL.row (l62 ++ [[Go.Value.bool b92, Go.SX.Sl.v s93, Go.SX.Sl.v s94]]), Go.SX.PL.val (Go.Value.int Go.IntKind.i64 (i63 + (1 : Int)))] W88 <
 F60 [Go.SX.PL.row l61, Go.SX.PL.row l62, Go.SX.PL.val (Go.Value.int Go.IntKind.i64 i63)] W64) ∧
 (List.length l61 + List.length [[Go.SX.Sl.v s89, Go.Value.bool b90, Go.SX.Sl.v s91]]) * (56 : Nat) ≤ (140737488355328 : Nat) ∧
 (List.length l62 + List.length [[Go.Value.bool b92, Go.SX.Sl.v s93, Go.SX.Sl.v s94]]) * (56 : Nat) ≤ (140737488355328 : Nat) ∧
 Go.SX.I64 (i63 + (1 : Int)) ∧
 F59 [Go.SX.PL.row (l61 ++ [[Go.SX.Sl.v s89, Go.Value.bool b90, Go.SX.Sl.v s91]]), Go.SX.PL.row (l62 ++ [[Go.Value.bool b92, Go.SX.Sl.v s93, Go.SX.Sl.v s94]]), Go.SX.PL.val (Go.Value.int Go.IntKind.i64 (i63 + (1 : Int)))] W88 ∧
 F60 [Go.SX.PL.row (l61 ++ [[Go.SX.Sl.v s89, Go.Value.bool b90, Go.SX.Sl.v s91]]), Go.SX.PL.row (l62 ++ [[Go.Value.bool b92, Go.SX.Sl.v s93, Go.SX.Sl.v s94]]), Go.SX.PL.val (Go.Value.int Go.IntKind.i64 (i63 + (1 : Int)))] W88 <
 F60 [Go.SX.PL.row l61, Go.SX.PL.row l62, Go.SX.PL.val (Go.Value.int Go.IntKind.i64 i63)] W64) ∧
 (Bool.false = Bool.false →
 Go.SX.I64 (i63 + (1 : Int)) ∧
 F59 [Go.SX.PL.row l61, Go.SX.PL.row l62, Go.SX.PL.val (Go.Value.int Go.IntKind.i64 (i63 + (1 : Int)))] W88 ∧ F60 [Go.SX.PL.row l61, Go.SX.PL.row l62, Go.SX.PL.val (Go.Value.int Go.IntKind.i64 (i63 + (1 : Int)))] W88 < F60 [Go.SX.PL.row l61, Go.SX.PL.row l62, Go.SX.PL.val (Go.Value.int Go.IntKind.i64 i63)] W64))) ∧
 (Bool.false = Bool.false →
 ∀ (s98 : Go.SX.Sl) (W99 : Go.SX.PW),
 Go.SX.Ext W64 W99 →
 Go.SX.Own W99 (43 : Nat) (3 : Nat) s98 l61 →
 (∀ (n100 : Nat), Go.Value.ownBlock (Go.SX.Sl.v s98) = Option.some n100 → Array.size (Go.SX.PW.w W0).1 ≤ n100 ∧ (n100 < Array.size (Go.SX.PW.w W64).1 → W64.2 n100)) →
 (List.length l3 + List.length [[Go.SX.Sl.v s98]]) * (24 : Nat) ≤ (140737488355328 : Nat) ∧
 ∀ (s101 : Go.SX.Sl) (W102 : Go.SX.PW),
 Go.SX.Ext W99 W102 →
 Go.SX.Own W102 (57 : Nat) (3 : Nat) s101 l62 →
 (∀ (n103 : Nat), Go.Value.ownBlock (Go.SX.Sl.v s101) = Option.some n103 → Array.size (Go.SX.PW.w W0).1 ≤ n103 ∧ (n103 < Array.size (Go.SX.PW.w W99).1 → W99.2 n103)) →
 (List.length l4 + List.length [[Go.SX.Sl.v s101]]) * (24 : Nat) ≤ (140737488355328 : Nat) ∧
 Go.SX.I64 (i5 + (1 : Int)) ∧
 F1 [Go.SX.PL.row (l3 ++ [[Go.SX.Sl.v s98]]), Go.SX.PL.row (l4 ++ [[Go.SX.Sl.v s101]]), Go.SX.PL.val (Go.Value.int Go.IntKind.i64 (i5 + (1 : Int)))] W102 ∧
 F2 [Go.SX.PL.row (l3 ++ [[Go.SX.Sl.v s98]]), Go.SX.PL.row (l4 ++ [[Go.SX.Sl.v s101]]), Go.SX.PL.val (Go.Value.int Go.IntKind.i64 (i5 + (1 : Int)))] W102 < F2 [Go.SX.PL.row l3, Go.SX.PL.row l4, Go.SX.PL.val (Go.Value.int Go.IntKind.i64 i5)] W6))) ∧
 (Bool.false = Bool.false →
 ∀ (s104 : Go.SX.Sl) (W105 : Go.SX.PW),
 Go.SX.Ext W6 W105 →
 Go.SX.Own W105 (31 : Nat) (1 : Nat) s104 l3 →
 (∀ (n106 : Nat), Go.Value.ownBlock (Go.SX.Sl.v s104) = Option.some n106 → Array.size (Go.SX.PW.w W0).1 ≤ n106 ∧ (n106 < Array.size (Go.SX.PW.w W6).1 → W6.2 n106)) →
 ∀ (s107 : Go.SX.Sl) (W108 : Go.SX.PW),
 Go.SX.Ext W105 W108 → Go.SX.Own W108 (51 : Nat) (1 : Nat) s107 l4 → (∀ (n109 : Nat), Go.Value.ownBlock (Go.SX.Sl.v s107) = Option.some n109 → Array.size (Go.SX.PW.w W0).1 ≤ n109 ∧ (n109 < Array.size (Go.SX.PW.w W105).1 → W105.2 n109)) → ∀ (W110 : Go.SX.PW), Go.SX.Ext W108 W110 → Post (Go.Value.tuple { toList := [Go.SX.Sl.v s104, Go.SX.Sl.v s107] }) W110))
theorem calllaw11_Raw (W0 : Go.SX.PW) (M : Nat → Prop) (a0 : Go.SX.Sl) (Post : Go.Value → Go.SX.PW → Prop) (h : Rlaw11_Raw W0 M a0 Post) : Go.SX.PCallsM Go.Proofs.Try.prog 4 [Go.SX.Sl.v a0] W0 M Post :=
  Go.SX.fn_sound rfl tt_ok tt_in Go.Proofs.Try.func4 (cuts := []) rfl rfl (Nat.le_of_ble_eq_true rfl) (Eq.mpr (by kernel_rfl) h)
def Rlaw14_LdlBack (W0 : Go.SX.PW) (M : Nat → Prop) (a0 : Go.SX.Sl) (Post : Go.Value → Go.SX.PW → Prop) : Prop :=
 Go.SX.callN Go.Proofs.Try.prog W0 M (5 : Nat) [Go.SX.Sl.v a0] W0 fun (v1 : Go.Value) (W2 : Go.SX.PW) =>
 ∃ (s3 : Go.SX.Sl),
 v1 = Go.SX.Sl.v s3 ∧
 Go.SX.callN Go.Proofs.Try.prog W0 M (4 : Nat) [Go.SX.Sl.v s3] W2 fun (v4 : Go.Value) (W5 : Go.SX.PW) =>
 ∃ (s6 : Go.SX.Sl),
 ∃ (s7 : Go.SX.Sl),
 v4 = Go.Value.tuple { toList := [Go.SX.Sl.v s6, Go.SX.Sl.v s7] } ∧
 Go.SX.callN Go.Proofs.Try.prog W0 M (6 : Nat) [] W5 fun (v8 : Go.Value) (W9 : Go.SX.PW) =>
 ∃ (b10 : Bool),
 v8 = Go.Value.bool b10 ∧
 ((!b10) = Bool.true → ∀ (W11 : Go.SX.PW), Go.SX.Ext W9 W11 → Post (Go.Value.bool Bool.false) W11) ∧
 ((!b10) = Bool.false →
 Go.SX.callN Go.Proofs.Try.prog W0 M (7 : Nat) [Go.SX.Sl.v s6] W9 fun (v12 : Go.Value) (W13 : Go.SX.PW) =>
 ∃ (s14 : Go.SX.Sl),
 ∃ (s15 : Go.SX.Sl),
 ∃ (b16 : Bool),
 v12 = Go.Value.tuple { toList := [Go.SX.Sl.v s14, Go.SX.Sl.v s15, Go.Value.bool b16] } ∧
 ((!b16) = Bool.true → ((↑s14.2 : Int) = (0 : Int) → ∀ (W17 : Go.SX.PW), Go.SX.Ext W13 W17 → Post (Go.Value.bool (Decidable.decide ((↑s15.2 : Int) = (0 : Int)))) W17) ∧ (¬(↑s14.2 : Int) = (0 : Int) → ∀ (W18 : Go.SX.PW), Go.SX.Ext W13 W18 → Post (Go.Value.bool Bool.false) W18)) ∧
 ((!b16) = Bool.false →
 ∃ (F19 : List Go.SX.PL → Go.SX.PW → Prop),
 (((↑s14.2 : Int) ≠ (↑s15.2 : Int) → (Bool.true = Bool.true → ∀ (W20 : Go.SX.PW), Go.SX.Ext W13 W20 → Post (Go.Value.bool Bool.false) W20) ∧ (Bool.true = Bool.false → F19 [] W13)) ∧
 (¬(↑s14.2 : Int) ≠ (↑s15.2 : Int) → Go.SX.callN Go.Proofs.Try.prog W0 M (8 : Nat) [Go.SX.Sl.v s14] W13 fun (v21 : Go.Value) (W22 : Go.SX.PW) => ∃ (b23 : Bool), v21 = Go.Value.bool b23 ∧ ((!b23) = Bool.true → ∀ (W24 : Go.SX.PW), Go.SX.Ext W22 W24 → Post (Go.Value.bool Bool.false) W24) ∧ ((!b23) = Bool.false → F19 [] W22))) ∧
 ∀ (W25 : Go.SX.PW),
 F19 [] W25 →
 Go.SX.callN Go.Proofs.Try.prog W0 M (9 : Nat) [Go.Value.int Go.IntKind.i64 (↑s15.2 : Int)] W25 fun (v26 : Go.Value) (W27 : Go.SX.PW) =>
 ∃ (s28 : Go.SX.Sl),
 v26 = Go.SX.Sl.v s28 ∧
 ∃ (F29 : List Go.SX.PL → Go.SX.PW → Prop),
 (Go.SX.callN Go.Proofs.Try.prog W0 M (10 : Nat) [Go.SX.Sl.v s28, Go.Value.int Go.IntKind.i64 (↑s15.2 : Int)] W27 fun (v30 : Go.Value) (W31 : Go.SX.PW) =>
 ∃ (b32 : Bool),
 v30 = Go.Value.bool b32 ∧
 ((!b32) = Bool.true → (Bool.true = Bool.true → ∀ (W33 : Go.SX.PW), Go.SX.Ext W31 W33 → Post (Go.Value.bool Bool.false) W33) ∧ (Bool.true = Bool.false → F29 [] W31)) ∧
 ((!b32) = Bool.false →
 Go.SX.callN Go.Proofs.Try.prog W0 M (10 : Nat) [Go.SX.Sl.v s14, Go.Value.int Go.IntKind.i64 (↑s15.2 : Int)] W31 fun (v34 : Go.Value) (W35 : Go.SX.PW) => ∃ (b36 : Bool), v34 = Go.Value.bool b36 ∧ ((!b36) = Bool.true → ∀ (W37 : Go.SX.PW), Go.SX.Ext W35 W37 → Post (Go.Value.bool Bool.false) W37) ∧ ((!b36) = Bool.false → F29 [] W35))) ∧
 ∀ (W38 : Go.SX.PW),
 F29 [] W38 →
 ∃ (F39 : List Go.SX.PL → Go.SX.PW → Prop),
 ∃ (F40 : List Go.SX.PL → Go.SX.PW → Nat),
 F39 [Go.SX.PL.val (Go.Value.int Go.IntKind.i64 (0 : Int))] W38 ∧
 ∀ (i41 : Int) (W42 : Go.SX.PW),
 F39 [Go.SX.PL.val (Go.Value.int Go.IntKind.i64 i41)] W42 →
 (i41 < (↑s15.2 : Int) →
 Go.SX.inB s28 i41 ∧
 ∃ (s43 : Go.SX.Sl),
 Go.SX.ElemAt W42 s28 (1 : Nat) (Int.toNat i41) (0 : Nat) [Go.SX.Sl.v s43] ∧
 Go.SX.inB s15 i41 ∧
 ∃ (s44 : Go.SX.Sl),
 ∃ (b45 : Bool),
 ∃ (s46 : Go.SX.Sl),
 Go.SX.ElemAt W42 s15 (3 : Nat) (Int.toNat i41) (0 : Nat) [Go.SX.Sl.v s44, Go.Value.bool b45, Go.SX.Sl.v s46] ∧
 Go.SX.inB s43 i41 ∧
 Go.SX.storeN W0 M s43 (Int.toNat i41 * (3 : Nat) + (0 : Nat)) [Go.SX.Sl.v s44, Go.Value.bool b45, Go.SX.Sl.v s46] W42 fun (W47 : Go.SX.PW) =>
 ∃ (F48 : List Go.SX.PL → Go.SX.PW → Prop),
 ∃ (F49 : List Go.SX.PL → Go.SX.PW → Nat),
 F48 [Go.SX.PL.val (Go.Value.int Go.IntKind.i64 i41)] W47 ∧
 ∀ (i50 : Int) (W51 : Go.SX.PW),
 F48 [Go.SX.PL.val (Go.Value.int Go.IntKind.i64 i50)] W51 →
 Go.SX.inB s14 i41 ∧
 ∃ (s52 : Go.SX.Sl),
 Go.SX.ElemAt W51 s14 (1 : Nat) (Int.toNat i41) (0 : Nat) [Go.SX.Sl.v s52] ∧
 (i50 < (↑s52.2 : Int) →
 ∃ (F53 : List Go.SX.PL → Go.SX.PW → Prop),
 ((i50 = i41 →
 Go.SX.callN Go.Proofs.Try.prog W0 M (11 : Nat) [Go.Value.int Go.IntKind.i64 (1 : Int)] W51 fun (v54 : Go.Value) (W55 : Go.SX.PW) =>
 ∃ (s56 : Go.SX.Sl),
 ∃ (b57 : Bool),
 ∃ (s58 : Go.SX.Sl),
 v54 = Go.Value.agg { toList := [Go.SX.Sl.v s56, Go.Value.bool b57, Go.SX.Sl.v s58] } ∧ F53 [Go.SX.PL.val (Go.Value.int Go.IntKind.i64 i50), Go.SX.PL.val (Go.Value.int Go.IntKind.i64 i41), Go.SX.PL.cells [Go.SX.Sl.v s56, Go.Value.bool b57, Go.SX.Sl.v s58]] W55) ∧
 (¬i50 = i41 → F53 [Go.SX.PL.val (Go.Value.int Go.IntKind.i64 i50), Go.SX.PL.val (Go.Value.int Go.IntKind.i64 i41), Go.SX.PL.cells [Go.Value.slice Option.none (0 : Nat) (0 : Nat), Go.Value.bool Bool.false, Go.Value.slice Option.none (0 : Nat) (0 : Nat)]] W51)) ∧
 ∀ (s59 : Go.SX.Sl) (b60 : Bool) (s61 : Go.SX.Sl) (i62 i63 : Int) (W64 : Go.SX.PW),
 F53 [Go.SX.PL.val (Go.Value.int Go.IntKind.i64 i62), Go.SX.PL.val (Go.Value.int Go.IntKind.i64 i63), Go.SX.PL.cells [Go.SX.Sl.v s59, Go.Value.bool b60, Go.SX.Sl.v s61]] W64 →
 Go.SX.inB s14 i41 ∧
 ∃ (s65 : Go.SX.Sl),
 Go.SX.ElemAt W64 s14 (1 : Nat) (Int.toNat i41) (0 : Nat) [Go.SX.Sl.v s65] ∧
 Go.SX.inB s65 i50 ∧
 ∃ (s66 : Go.SX.Sl),
 ∃ (b67 : Bool),
 ∃ (s68 : Go.SX.Sl),
 Go.SX.ElemAt W64 s65 (3 : Nat) (Int.toNat i50) (0 : Nat) [Go.SX.Sl.v s66, Go.Value.bool b67, Go.SX.Sl.v s68] ∧
 Go.SX.callN Go.Proofs.Try.prog W0 M (12 : Nat) [Go.Value.agg { toList := [Go.SX.Sl.v s66, Go.Value.bool b67, Go.SX.Sl.v s68] }, Go.Value.agg { toList := [Go.SX.Sl.v s59, Go.Value.bool b60, Go.SX.Sl.v s61] }] W64 fun (v69 : Go.Value) (W70 : Go.SX.PW) =>
 ∃ (i71 : Int),
 v69 = Go.Value.int Go.IntKind.i64 i71 ∧
 Go.SX.Ext W64 W70 ∧
 (i71 ≠ (0 : Int) → ∀ (W72 : Go.SX.PW), Go.SX.Ext W70 W72 → Post (Go.Value.bool Bool.false) W72) ∧
 (¬i71 ≠ (0 : Int) →
 Go.SX.I64 (i50 + (1 : Int)) ∧ F48 [Go.SX.PL.val (Go.Value.int Go.IntKind.i64 (i50 + (1 : Int)))] W70 ∧ F49 [Go.SX.PL.val (Go.Value.int Go.IntKind.i64 (i50 + (1 : Int)))] W70 < F49 [Go.SX.PL.val (Go.Value.int Go.IntKind.i64 i50)] W51)) ∧
 (¬i50 < (↑s52.2 : Int) → Go.SX.I64 (i41 + (1 : Int)) ∧ F39 [Go.SX.PL.val (Go.Value.int Go.IntKind.i64 (i41 + (1 : Int)))] W51 ∧ F40 [Go.SX.PL.val (Go.Value.int Go.IntKind.i64 (i41 + (1 : Int)))] W51 < F40 [Go.SX.PL.val (Go.Value.int Go.IntKind.i64 i41)] W42)) ∧
 (¬i41 < (↑s15.2 : Int) →
 Go.SX.callN Go.Proofs.Try.prog W0 M (13 : Nat) [Go.SX.Sl.v s14] W42 fun (v73 : Go.Value) (W74 : Go.SX.PW) =>
 ∃ (s75 : Go.SX.Sl),
 ∃ (b76 : Bool),
 v73 = Go.Value.tuple { toList := [Go.SX.Sl.v s75, Go.Value.bool b76] } ∧
 Go.SX.callN Go.Proofs.Try.prog W0 M (14 : Nat) [Go.SX.Sl.v s14, Go.SX.Sl.v s28] W74 fun (v77 : Go.Value) (W78 : Go.SX.PW) =>
 ∃ (s79 : Go.SX.Sl),
 ∃ (b80 : Bool),
 v77 = Go.Value.tuple { toList := [Go.SX.Sl.v s79, Go.Value.bool b80] } ∧
 Go.SX.callN Go.Proofs.Try.prog W0 M (14 : Nat) [Go.SX.Sl.v s79, Go.SX.Sl.v s75] W78 fun (v81 : Go.Value) (W82 : Go.SX.PW) =>
 ∃ (s83 : Go.SX.Sl),
 ∃ (b84 : Bool),
 v81 = Go.Value.tuple { toList := [Go.SX.Sl.v s83, Go.Value.bool b84] } ∧
 (b80 = Bool.true →
 (b84 = Bool.true → Go.SX.callN Go.Proofs.Try.prog W0 M (15 : Nat) [Go.SX.Sl.v s83, Go.SX.Sl.v s6] W82 fun (v85 : Go.Value) (W86 : Go.SX.PW) => ∃ (b87 : Bool), v85 = Go.Value.bool b87 ∧ ∀ (W88 : Go.SX.PW), Go.SX.Ext W86 W88 → Post (Go.Value.bool b87) W88) ∧
 (b84 = Bool.false → ∀ (W89 : Go.SX.PW), Go.SX.Ext W82 W89 → Post (Go.Value.bool Bool.false) W89)) ∧
 (b80 = Bool.false →
 (Bool.false = Bool.true → Go.SX.callN Go.Proofs.Try.prog W0 M (15 : Nat) [Go.SX.Sl.v s83, Go.SX.Sl.v s6] W82 fun (v90 : Go.Value) (W91 : Go.SX.PW) => ∃ (b92 : Bool), v90 = Go.Value.bool b92 ∧ ∀ (W93 : Go.SX.PW), Go.SX.Ext W91 W93 → Post (Go.Value.bool b92) W93) ∧
 (Bool.false = Bool.false → ∀ (W94 : Go.SX.PW), Go.SX.Ext W82 W94 → Post (Go.Value.bool Bool.false) W94)))))
theorem calllaw14_LdlBack (W0 : Go.SX.PW) (M : Nat → Prop) (a0 : Go.SX.Sl) (Post : Go.Value → Go.SX.PW → Prop) (h : Rlaw14_LdlBack W0 M a0 Post) : Go.SX.PCallsM Go.Proofs.Try.prog 3 [Go.SX.Sl.v a0] W0 M Post :=
  Go.SX.fn_sound rfl tt_ok tt_in Go.Proofs.Try.func3 (cuts := [9, 12, 22]) rfl rfl (Nat.le_of_ble_eq_true rfl) (Eq.mpr (by kernel_rfl) h)
end Go.Proofs.Ytcffcndpefaalaa
