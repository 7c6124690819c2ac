/- R7 -/
import Derived.Test.YtcffcndpefaalaaTt
set_option linter.unusedVariables false
set_option linter.unusedSimpArgs false
set_option maxRecDepth 100000
set_option linter.unusedVariables false
namespace Go.Proofs.Ytcffcndpefaalaa
def Rmat_none (W0 : Go.SX.PW) (M : Nat → Prop) (a0 : Int) (a1 : Int) (Post : Go.Value → Go.SX.PW → Prop) : Prop :=
 (a0 = a0 ∧ (0 : Int) ≤ a0 ∧ a0 * (↑(24 : Nat) : Int) ≤ (281474976710656 : Int)) ∧
 ∃ (F1 : List Go.SX.PL → Go.SX.PW → Prop),
 ∃ (F2 : List Go.SX.PL → Go.SX.PW → Nat),
 F1 [Go.SX.PL.val (Go.Value.int Go.IntKind.i64 (0 : Int)), Go.SX.PL.row (List.replicate (Int.toNat a0) [Go.Value.slice Option.none (0 : Nat) (0 : Nat)])] W0 ∧
 ∀ (l3 : List (List Go.Value)) (i4 : Int) (W5 : Go.SX.PW),
 F1 [Go.SX.PL.val (Go.Value.int Go.IntKind.i64 i4), Go.SX.PL.row l3] W5 →
 (i4 < (↑(List.length (List.replicate (Int.toNat a0) [Go.Value.slice Option.none (0 : Nat) (0 : Nat)])) : Int) →
 (a1 = a1 ∧ (0 : Int) ≤ a1 ∧ a1 * (↑(56 : Nat) : Int) ≤ (281474976710656 : Int)) ∧
 ((0 : Int) ≤ i4 ∧ i4 < (↑(List.length l3) : Int)) ∧
 ∀ (s6 : Go.SX.Sl) (W7 : Go.SX.PW),
 Go.SX.Ext W5 W7 →
 Go.SX.Own W7 (43 : Nat) (3 : Nat) s6 (List.replicate (Int.toNat a1) [Go.Value.slice Option.none (0 : Nat) (0 : Nat), Go.Value.bool Bool.false, Go.Value.slice Option.none (0 : Nat) (0 : Nat)]) →
 (∀ (n8 : Nat), Go.Value.ownBlock (Go.SX.Sl.v s6) = Option.some n8 → Array.size (Go.SX.PW.w W0).1 ≤ n8 ∧ (n8 < Array.size (Go.SX.PW.w W5).1 → W5.2 n8)) →
 Int.toNat i4 < List.length l3 ∧
 Go.SX.I64 (i4 + (1 : Int)) ∧ F1 [Go.SX.PL.val (Go.Value.int Go.IntKind.i64 (i4 + (1 : Int))), Go.SX.PL.row (List.set l3 (Int.toNat i4) [Go.SX.Sl.v s6])] W7 ∧ F2 [Go.SX.PL.val (Go.Value.int Go.IntKind.i64 (i4 + (1 : Int))), Go.SX.PL.row (List.set l3 (Int.toNat i4) [Go.SX.Sl.v s6])] W7 < F2 [Go.SX.PL.val (Go.Value.int Go.IntKind.i64 i4), Go.SX.PL.row l3] W5) ∧
 (¬i4 < (↑(List.length (List.replicate (Int.toNat a0) [Go.Value.slice Option.none (0 : Nat) (0 : Nat)])) : Int) →
 ∀ (s9 : Go.SX.Sl) (W10 : Go.SX.PW), Go.SX.Ext W5 W10 → Go.SX.Own W10 (31 : Nat) (1 : Nat) s9 l3 → (∀ (n11 : Nat), Go.Value.ownBlock (Go.SX.Sl.v s9) = Option.some n11 → Array.size (Go.SX.PW.w W0).1 ≤ n11 ∧ (n11 < Array.size (Go.SX.PW.w W5).1 → W5.2 n11)) → ∀ (W12 : Go.SX.PW), Go.SX.Ext W10 W12 → Post (Go.SX.Sl.v s9) W12)
theorem callmat_none (W0 : Go.SX.PW) (M : Nat → Prop) (a0 : Int) (a1 : Int) (Post : Go.Value → Go.SX.PW → Prop) (h : Rmat_none W0 M a0 a1 Post) : Go.SX.PCallsM Go.Proofs.Try.prog 24 [Go.Value.int Go.IntKind.i64 a0, Go.Value.int Go.IntKind.i64 a1] W0 M Post :=
  Go.SX.fn_sound rfl tt_ok tt_in Go.Proofs.Try.func24 (cuts := []) rfl rfl (Nat.le_of_ble_eq_true rfl) (Eq.mpr (by kernel_rfl) h)
def Rmat_even_rat_Rat (W0 : Go.SX.PW) (M : Nat → Prop) (a0 : Go.SX.Sl) (Post : Go.Value → Go.SX.PW → Prop) : Prop :=
 ∃ (F1 : List Go.SX.PL → Go.SX.PW → Prop),
 ∃ (F2 : List Go.SX.PL → Go.SX.PW → Nat),
 F1 [Go.SX.PL.val (Go.Value.int Go.IntKind.i64 (0 : Int))] W0 ∧
 ∀ (i3 : Int) (W4 : Go.SX.PW),
 F1 [Go.SX.PL.val (Go.Value.int Go.IntKind.i64 i3)] W4 →
 (i3 < (↑a0.2 : Int) →
 Go.SX.inB a0 i3 ∧
 ∃ (s5 : Go.SX.Sl),
 Go.SX.ElemAt W4 a0 (1 : Nat) (Int.toNat i3) (0 : Nat) [Go.SX.Sl.v s5] ∧
 Go.SX.inB a0 (0 : Int) ∧
 ∃ (s6 : Go.SX.Sl),
 Go.SX.ElemAt W4 a0 (1 : Nat) (0 : Nat) (0 : Nat) [Go.SX.Sl.v s6] ∧
 ((↑s5.2 : Int) ≠ (↑s6.2 : Int) → ∀ (W7 : Go.SX.PW), Go.SX.Ext W4 W7 → Post (Go.Value.bool Bool.false) W7) ∧ (¬(↑s5.2 : Int) ≠ (↑s6.2 : Int) → Go.SX.I64 (i3 + (1 : Int)) ∧ F1 [Go.SX.PL.val (Go.Value.int Go.IntKind.i64 (i3 + (1 : Int)))] W4 ∧ F2 [Go.SX.PL.val (Go.Value.int Go.IntKind.i64 (i3 + (1 : Int)))] W4 < F2 [Go.SX.PL.val (Go.Value.int Go.IntKind.i64 i3)] W4)) ∧
 (¬i3 < (↑a0.2 : Int) →
 ((1 : Int) ≤ (↑a0.2 : Int) →
 ((↑a0.2 : Int) ≤ (12 : Int) →
 Go.SX.inB a0 (0 : Int) ∧
 ∃ (s8 : Go.SX.Sl),
 Go.SX.ElemAt W4 a0 (1 : Nat) (0 : Nat) (0 : Nat) [Go.SX.Sl.v s8] ∧
 ((1 : Int) ≤ (↑s8.2 : Int) → Go.SX.inB a0 (0 : Int) ∧ ∃ (s9 : Go.SX.Sl), Go.SX.ElemAt W4 a0 (1 : Nat) (0 : Nat) (0 : Nat) [Go.SX.Sl.v s9] ∧ ∀ (W10 : Go.SX.PW), Go.SX.Ext W4 W10 → Post (Go.Value.bool (Decidable.decide ((↑s9.2 : Int) ≤ (12 : Int)))) W10) ∧ (¬(1 : Int) ≤ (↑s8.2 : Int) → ∀ (W11 : Go.SX.PW), Go.SX.Ext W4 W11 → Post (Go.Value.bool Bool.false) W11)) ∧
 (¬(↑a0.2 : Int) ≤ (12 : Int) →
 (Bool.false = Bool.true → Go.SX.inB a0 (0 : Int) ∧ ∃ (s12 : Go.SX.Sl), Go.SX.ElemAt W4 a0 (1 : Nat) (0 : Nat) (0 : Nat) [Go.SX.Sl.v s12] ∧ ∀ (W13 : Go.SX.PW), Go.SX.Ext W4 W13 → Post (Go.Value.bool (Decidable.decide ((↑s12.2 : Int) ≤ (12 : Int)))) W13) ∧ (Bool.false = Bool.false → ∀ (W14 : Go.SX.PW), Go.SX.Ext W4 W14 → Post (Go.Value.bool Bool.false) W14))) ∧
 (¬(1 : Int) ≤ (↑a0.2 : Int) →
 (Bool.false = Bool.true →
 Go.SX.inB a0 (0 : Int) ∧
 ∃ (s15 : Go.SX.Sl),
 Go.SX.ElemAt W4 a0 (1 : Nat) (0 : Nat) (0 : Nat) [Go.SX.Sl.v s15] ∧
 ((1 : Int) ≤ (↑s15.2 : Int) → Go.SX.inB a0 (0 : Int) ∧ ∃ (s16 : Go.SX.Sl), Go.SX.ElemAt W4 a0 (1 : Nat) (0 : Nat) (0 : Nat) [Go.SX.Sl.v s16] ∧ ∀ (W17 : Go.SX.PW), Go.SX.Ext W4 W17 → Post (Go.Value.bool (Decidable.decide ((↑s16.2 : Int) ≤ (12 : Int)))) W17) ∧ (¬(1 : Int) ≤ (↑s15.2 : Int) → ∀ (W18 : Go.SX.PW), Go.SX.Ext W4 W18 → Post (Go.Value.bool Bool.false) W18)) ∧
 (Bool.false = Bool.false →
 (Bool.false = Bool.true → Go.SX.inB a0 (0 : Int) ∧ ∃ (s19 : Go.SX.Sl), Go.SX.ElemAt W4 a0 (1 : Nat) (0 : Nat) (0 : Nat) [Go.SX.Sl.v s19] ∧ ∀ (W20 : Go.SX.PW), Go.SX.Ext W4 W20 → Post (Go.Value.bool (Decidable.decide ((↑s19.2 : Int) ≤ (12 : Int)))) W20) ∧ (Bool.false = Bool.false → ∀ (W21 : Go.SX.PW), Go.SX.Ext W4 W21 → Post (Go.Value.bool Bool.false) W21))))
theorem callmat_even_rat_Rat (W0 : Go.SX.PW) (M : Nat → Prop) (a0 : Go.SX.Sl) (Post : Go.Value → Go.SX.PW → Prop) (h : Rmat_even_rat_Rat W0 M a0 Post) : Go.SX.PCallsM Go.Proofs.Try.prog 23 [Go.SX.Sl.v a0] W0 M Post :=
  Go.SX.fn_sound rfl tt_ok tt_in Go.Proofs.Try.func23 (cuts := []) rfl rfl (Nat.le_of_ble_eq_true rfl) (Eq.mpr (by kernel_rfl) h)
def Rmat_Right (W0 : Go.SX.PW) (M : Nat → Prop) (a0 : Go.SX.Sl) (Post : Go.Value → Go.SX.PW → Prop) : Prop :=
 Go.SX.callN Go.Proofs.Try.prog W0 M (23 : Nat) [Go.SX.Sl.v a0] W0 fun (v1 : Go.Value) (W2 : Go.SX.PW) => ∃ (b3 : Bool), v1 = Go.Value.bool b3 ∧ ∀ (W4 : Go.SX.PW), Go.SX.Ext W2 W4 → Post (Go.Value.bool b3) W4
theorem callmat_Right (W0 : Go.SX.PW) (M : Nat → Prop) (a0 : Go.SX.Sl) (Post : Go.Value → Go.SX.PW → Prop) (h : Rmat_Right W0 M a0 Post) : Go.SX.PCallsM Go.Proofs.Try.prog 8 [Go.SX.Sl.v a0] W0 M Post :=
  Go.SX.fn_sound rfl tt_ok tt_in Go.Proofs.Try.func8 (cuts := []) rfl rfl (Nat.le_of_ble_eq_true rfl) (Eq.mpr (by kernel_rfl) h)
def Rmat_One (W0 : Go.SX.PW) (M : Nat → Prop) (a0 : Int) (Post : Go.Value → Go.SX.PW → Prop) : Prop :=
 Go.SX.callN Go.Proofs.Try.prog W0 M (24 : Nat) [Go.Value.int Go.IntKind.i64 (Go.SX.mn (Go.SX.mx a0 (1 : Int)) (12 : Int)), Go.Value.int Go.IntKind.i64 (Go.SX.mn (Go.SX.mx a0 (1 : Int)) (12 : Int))] W0 fun (v1 : Go.Value) (W2 : Go.SX.PW) =>
 ∃ (s3 : Go.SX.Sl),
 v1 = Go.SX.Sl.v s3 ∧
 ∃ (F4 : List Go.SX.PL → Go.SX.PW → Prop),
 ∃ (F5 : List Go.SX.PL → Go.SX.PW → Nat),
 F4 [Go.SX.PL.val (Go.Value.int Go.IntKind.i64 (0 : Int))] W2 ∧
 ∀ (i6 : Int) (W7 : Go.SX.PW),
 F4 [Go.SX.PL.val (Go.Value.int Go.IntKind.i64 i6)] W7 →
 (i6 < (↑s3.2 : Int) →
 Go.SX.inB s3 i6 ∧
 ∃ (s8 : Go.SX.Sl),
 Go.SX.ElemAt W7 s3 (1 : Nat) (Int.toNat i6) (0 : Nat) [Go.SX.Sl.v s8] ∧
 Go.SX.callN Go.Proofs.Try.prog W0 M (11 : Nat) [Go.Value.int Go.IntKind.i64 (1 : Int)] W7 fun (v9 : Go.Value) (W10 : Go.SX.PW) =>
 ∃ (s11 : Go.SX.Sl),
 ∃ (b12 : Bool),
 ∃ (s13 : Go.SX.Sl),
 v9 = Go.Value.agg { toList := [Go.SX.Sl.v s11, Go.Value.bool b12, Go.SX.Sl.v s13] } ∧
 Go.SX.Ext W7 W10 ∧
 Go.SX.inB s8 i6 ∧
 Go.SX.storeN W0 M s8 (Int.toNat i6 * (3 : Nat) + (0 : Nat)) [Go.SX.Sl.v s11, Go.Value.bool b12, Go.SX.Sl.v s13] W10 fun (W14 : Go.SX.PW) =>
 Go.SX.I64 (i6 + (1 : Int)) ∧ F4 [Go.SX.PL.val (Go.Value.int Go.IntKind.i64 (i6 + (1 : Int)))] W14 ∧ F5 [Go.SX.PL.val (Go.Value.int Go.IntKind.i64 (i6 + (1 : Int)))] W14 < F5 [Go.SX.PL.val (Go.Value.int Go.IntKind.i64 i6)] W7) ∧
 (¬i6 < (↑s3.2 : Int) → ∀ (W15 : Go.SX.PW), Go.SX.Ext W7 W15 → Post (Go.SX.Sl.v s3) W15)
theorem callmat_One (W0 : Go.SX.PW) (M : Nat → Prop) (a0 : Int) (Post : Go.Value → Go.SX.PW → Prop) (h : Rmat_One W0 M a0 Post) : Go.SX.PCallsM Go.Proofs.Try.prog 9 [Go.Value.int Go.IntKind.i64 a0] W0 M Post :=
  Go.SX.fn_sound rfl tt_ok tt_in Go.Proofs.Try.func9 (cuts := []) rfl rfl (Nat.le_of_ble_eq_true rfl) (Eq.mpr (by kernel_rfl) h)
def Rmat_Turn (W0 : Go.SX.PW) (M : Nat → Prop) (a0 : Go.SX.Sl) (Post : Go.Value → Go.SX.PW → Prop) : Prop :=
 Go.SX.callN Go.Proofs.Try.prog W0 M (8 : Nat) [Go.SX.Sl.v a0] W0 fun (v1 : Go.Value) (W2 : Go.SX.PW) =>
 ∃ (b3 : Bool),
 v1 = Go.Value.bool b3 ∧
 ((!b3) = Bool.true → ∀ (W4 : Go.SX.PW), Go.SX.Ext W2 W4 → Post (Go.Value.tuple { toList := [Go.Value.slice Option.none (0 : Nat) (0 : Nat), Go.Value.bool Bool.false] }) W4) ∧
 ((!b3) = Bool.false →
 Go.SX.inB a0 (0 : Int) ∧
 ∃ (s5 : Go.SX.Sl),
 Go.SX.ElemAt W2 a0 (1 : Nat) (0 : Nat) (0 : Nat) [Go.SX.Sl.v s5] ∧
 Go.SX.callN Go.Proofs.Try.prog W0 M (24 : Nat) [Go.Value.int Go.IntKind.i64 (↑s5.2 : Int), Go.Value.int Go.IntKind.i64 (↑a0.2 : Int)] W2 fun (v6 : Go.Value) (W7 : Go.SX.PW) =>
 ∃ (s8 : Go.SX.Sl),
 v6 = Go.SX.Sl.v s8 ∧
 ∃ (F9 : List Go.SX.PL → Go.SX.PW → Prop),
 ∃ (F10 : List Go.SX.PL → Go.SX.PW → Nat),
 F9 [Go.SX.PL.val (Go.Value.int Go.IntKind.i64 (0 : Int))] W7 ∧
 ∀ (i11 : Int) (W12 : Go.SX.PW),
 F9 [Go.SX.PL.val (Go.Value.int Go.IntKind.i64 i11)] W12 →
 (i11 < (↑a0.2 : Int) →
 Go.SX.inB a0 i11 ∧
 ∃ (s13 : Go.SX.Sl),
 Go.SX.ElemAt W12 a0 (1 : Nat) (Int.toNat i11) (0 : Nat) [Go.SX.Sl.v s13] ∧
 ∃ (F14 : List Go.SX.PL → Go.SX.PW → Prop),
 ∃ (F15 : List Go.SX.PL → Go.SX.PW → Nat),
 F14 [Go.SX.PL.val (Go.Value.int Go.IntKind.i64 (0 : Int))] W12 ∧
 ∀ (i16 : Int) (W17 : Go.SX.PW),
 F14 [Go.SX.PL.val (Go.Value.int Go.IntKind.i64 i16)] W17 →
 (i16 < (↑s13.2 : Int) →
 Go.SX.inB s13 i16 ∧
 ∃ (s18 : Go.SX.Sl),
 ∃ (b19 : Bool),
 ∃ (s20 : Go.SX.Sl),
 Go.SX.ElemAt W17 s13 (3 : Nat) (Int.toNat i16) (0 : Nat) [Go.SX.Sl.v s18, Go.Value.bool b19, Go.SX.Sl.v s20] ∧
 Go.SX.inB s8 i16 ∧
 ∃ (s21 : Go.SX.Sl),
 Go.SX.ElemAt W17 s8 (1 : Nat) (Int.toNat i16) (0 : Nat) [Go.SX.Sl.v s21] ∧
 Go.SX.inB s21 i11 ∧
 Go.SX.storeN W0 M s21 (Int.toNat i11 * (3 : Nat) + (0 : Nat)) [Go.SX.Sl.v s18, Go.Value.bool b19, Go.SX.Sl.v s20] W17 fun (W22 : Go.SX.PW) =>
 Go.SX.I64 (i16 + (1 : Int)) ∧ F14 [Go.SX.PL.val (Go.Value.int Go.IntKind.i64 (i16 + (1 : Int)))] W22 ∧ F15 [Go.SX.PL.val (Go.Value.int Go.IntKind.i64 (i16 + (1 : Int)))] W22 < F15 [Go.SX.PL.val (Go.Value.int Go.IntKind.i64 i16)] W17) ∧
 (¬i16 < (↑s13.2 : Int) → Go.SX.I64 (i11 + (1 : Int)) ∧ F9 [Go.SX.PL.val (Go.Value.int Go.IntKind.i64 (i11 + (1 : Int)))] W17 ∧ F10 [Go.SX.PL.val (Go.Value.int Go.IntKind.i64 (i11 + (1 : Int)))] W17 < F10 [Go.SX.PL.val (Go.Value.int Go.IntKind.i64 i11)] W12)) ∧
 (¬i11 < (↑a0.2 : Int) → ∀ (W23 : Go.SX.PW), Go.SX.Ext W12 W23 → Post (Go.Value.tuple { toList := [Go.SX.Sl.v s8, Go.Value.bool Bool.true] }) W23))
theorem callmat_Turn (W0 : Go.SX.PW) (M : Nat → Prop) (a0 : Go.SX.Sl) (Post : Go.Value → Go.SX.PW → Prop) (h : Rmat_Turn W0 M a0 Post) : Go.SX.PCallsM Go.Proofs.Try.prog 13 [Go.SX.Sl.v a0] W0 M Post :=
  Go.SX.fn_sound rfl tt_ok tt_in Go.Proofs.Try.func13 (cuts := []) rfl rfl (Nat.le_of_ble_eq_true rfl) (Eq.mpr (by kernel_rfl) h)
def Rmat_Mul (W0 : Go.SX.PW) (M : Nat → Prop) (a0 : Go.SX.Sl) (a1 : Go.SX.Sl) (Post : Go.Value → Go.SX.PW → Prop) : Prop :=
 ∃ (F1 : List Go.SX.PL → Go.SX.PW → Prop),
 (Go.SX.callN Go.Proofs.Try.prog W0 M (8 : Nat) [Go.SX.Sl.v a0] W0 fun (v2 : Go.Value) (W3 : Go.SX.PW) =>
 ∃ (b4 : Bool),
 v2 = Go.Value.bool b4 ∧
 ((!b4) = Bool.true →
 (Bool.true = Bool.true → (Bool.true = Bool.true → ∀ (W5 : Go.SX.PW), Go.SX.Ext W3 W5 → Post (Go.Value.tuple { toList := [Go.Value.slice Option.none (0 : Nat) (0 : Nat), Go.Value.bool Bool.false] }) W5) ∧ (Bool.true = Bool.false → F1 [] W3)) ∧
 (Bool.true = Bool.false → Go.SX.inB a0 (0 : Int) ∧ ∃ (s6 : Go.SX.Sl), Go.SX.ElemAt W3 a0 (1 : Nat) (0 : Nat) (0 : Nat) [Go.SX.Sl.v s6] ∧ ((↑s6.2 : Int) ≠ (↑a1.2 : Int) → ∀ (W7 : Go.SX.PW), Go.SX.Ext W3 W7 → Post (Go.Value.tuple { toList := [Go.Value.slice Option.none (0 : Nat) (0 : Nat), Go.Value.bool Bool.false] }) W7) ∧ (¬(↑s6.2 : Int) ≠ (↑a1.2 : Int) → F1 [] W3))) ∧
 ((!b4) = Bool.false →
 Go.SX.callN Go.Proofs.Try.prog W0 M (8 : Nat) [Go.SX.Sl.v a1] W3 fun (v8 : Go.Value) (W9 : Go.SX.PW) =>
 ∃ (b10 : Bool),
 v8 = Go.Value.bool b10 ∧
 ((!b10) = Bool.true → (Bool.true = Bool.true → ∀ (W11 : Go.SX.PW), Go.SX.Ext W9 W11 → Post (Go.Value.tuple { toList := [Go.Value.slice Option.none (0 : Nat) (0 : Nat), Go.Value.bool Bool.false] }) W11) ∧ (Bool.true = Bool.false → F1 [] W9)) ∧
 ((!b10) = Bool.false → Go.SX.inB a0 (0 : Int) ∧ ∃ (s12 : Go.SX.Sl), Go.SX.ElemAt W9 a0 (1 : Nat) (0 : Nat) (0 : Nat) [Go.SX.Sl.v s12] ∧ ((↑s12.2 : Int) ≠ (↑a1.2 : Int) → ∀ (W13 : Go.SX.PW), Go.SX.Ext W9 W13 → Post (Go.Value.tuple { toList := [Go.Value.slice Option.none (0 : Nat) (0 : Nat), Go.Value.bool Bool.false] }) W13) ∧ (¬(↑s12.2 : Int) ≠ (↑a1.2 : Int) → F1 [] W9)))) ∧
 ∀ (W14 : Go.SX.PW),
 F1 [] W14 →
 Go.SX.inB a1 (0 : Int) ∧
 ∃ (s15 : Go.SX.Sl),
 Go.SX.ElemAt W14 a1 (1 : Nat) (0 : Nat) (0 : Nat) [Go.SX.Sl.v s15] ∧
 Go.SX.callN Go.Proofs.Try.prog W0 M (24 : Nat) [Go.Value.int Go.IntKind.i64 (↑a0.2 : Int), Go.Value.int Go.IntKind.i64 (↑s15.2 : Int)] W14 fun (v16 : Go.Value) (W17 : Go.SX.PW) =>
 ∃ (s18 : Go.SX.Sl),
 v16 = Go.SX.Sl.v s18 ∧
 ∃ (F19 : List Go.SX.PL → Go.SX.PW → Prop),
 ∃ (F20 : List Go.SX.PL → Go.SX.PW → Nat),
 F19 [Go.SX.PL.val (Go.Value.int Go.IntKind.i64 (0 : Int))] W17 ∧
 ∀ (i21 : Int) (W22 : Go.SX.PW),
 F19 [Go.SX.PL.val (Go.Value.int Go.IntKind.i64 i21)] W22 →
 (i21 < (↑a0.2 : Int) →
 Go.SX.inB a0 i21 ∧
 ∃ (s23 : Go.SX.Sl),
 Go.SX.ElemAt W22 a0 (1 : Nat) (Int.toNat i21) (0 : Nat) [Go.SX.Sl.v s23] ∧
 ∃ (F24 : List Go.SX.PL → Go.SX.PW → Prop),
 ∃ (F25 : List Go.SX.PL → Go.SX.PW → Nat),
 F24 [Go.SX.PL.val (Go.Value.int Go.IntKind.i64 (0 : Int))] W22 ∧
 ∀ (i26 : Int) (W27 : Go.SX.PW),
 F24 [Go.SX.PL.val (Go.Value.int Go.IntKind.i64 i26)] W27 →
 (i26 < (↑s23.2 : Int) →
 Go.SX.inB s23 i26 ∧
 ∃ (s28 : Go.SX.Sl),
 ∃ (b29 : Bool),
 ∃ (s30 : Go.SX.Sl),
 Go.SX.ElemAt W27 s23 (3 : Nat) (Int.toNat i26) (0 : Nat) [Go.SX.Sl.v s28, Go.Value.bool b29, Go.SX.Sl.v s30] ∧
 Go.SX.inB a1 i26 ∧
 ∃ (s31 : Go.SX.Sl),
 Go.SX.ElemAt W27 a1 (1 : Nat) (Int.toNat i26) (0 : Nat) [Go.SX.Sl.v s31] ∧
 ∃ (F32 : List Go.SX.PL → Go.SX.PW → Prop),
 ∃ (F33 : List Go.SX.PL → Go.SX.PW → Nat),
 F32 [Go.SX.PL.val (Go.Value.int Go.IntKind.i64 (0 : Int))] W27 ∧
 ∀ (i34 : Int) (W35 : Go.SX.PW),
 F32 [Go.SX.PL.val (Go.Value.int Go.IntKind.i64 i34)] W35 →
 (i34 < (↑s31.2 : Int) →
 Go.SX.inB s31 i34 ∧
 ∃ (s36 : Go.SX.Sl),
 ∃ (b37 : Bool),
 ∃ (s38 : Go.SX.Sl),
 Go.SX.ElemAt W35 s31 (3 : Nat) (Int.toNat i34) (0 : Nat) [Go.SX.Sl.v s36, Go.Value.bool b37, Go.SX.Sl.v s38] ∧
 Go.SX.inB s18 i21 ∧
 ∃ (s39 : Go.SX.Sl),
 Go.SX.ElemAt W35 s18 (1 : Nat) (Int.toNat i21) (0 : Nat) [Go.SX.Sl.v s39] ∧
 Go.SX.inB s18 i21 ∧
 ∃ (s40 : Go.SX.Sl),
 Go.SX.ElemAt W35 s18 (1 : Nat) (Int.toNat i21) (0 : Nat) [Go.SX.Sl.v s40] ∧
 Go.SX.inB s40 i34 ∧
 ∃ (s41 : Go.SX.Sl),
 ∃ (b42 : Bool),
 ∃ (s43 : Go.SX.Sl),
 Go.SX.ElemAt W35 s40 (3 : Nat) (Int.toNat i34) (0 : Nat) [Go.SX.Sl.v s41, Go.Value.bool b42, Go.SX.Sl.v s43] ∧
 Go.SX.callN Go.Proofs.Try.prog W0 M (30 : Nat) [Go.Value.agg { toList := [Go.SX.Sl.v s28, Go.Value.bool b29, Go.SX.Sl.v s30] }, Go.Value.agg { toList := [Go.SX.Sl.v s36, Go.Value.bool b37, Go.SX.Sl.v s38] }] W35 fun (v44 : Go.Value) (W45 : Go.SX.PW) =>
 ∃ (s46 : Go.SX.Sl),
 ∃ (b47 : Bool),
 ∃ (s48 : Go.SX.Sl),
 v44 = Go.Value.agg { toList := [Go.SX.Sl.v s46, Go.Value.bool b47, Go.SX.Sl.v s48] } ∧
 Go.SX.Ext W35 W45 ∧
 Go.SX.callN Go.Proofs.Try.prog W0 M (29 : Nat) [Go.Value.agg { toList := [Go.SX.Sl.v s41, Go.Value.bool b42, Go.SX.Sl.v s43] }, Go.Value.agg { toList := [Go.SX.Sl.v s46, Go.Value.bool b47, Go.SX.Sl.v s48] }] W45 fun (v49 : Go.Value) (W50 : Go.SX.PW) =>
 ∃ (s51 : Go.SX.Sl),
 ∃ (b52 : Bool),
 ∃ (s53 : Go.SX.Sl),
 v49 = Go.Value.agg { toList := [Go.SX.Sl.v s51, Go.Value.bool b52, Go.SX.Sl.v s53] } ∧
 Go.SX.Ext W45 W50 ∧
 Go.SX.inB s39 i34 ∧
 Go.SX.storeN W0 M s39 (Int.toNat i34 * (3 : Nat) + (0 : Nat)) [Go.SX.Sl.v s51, Go.Value.bool b52, Go.SX.Sl.v s53] W50 fun (W54 : Go.SX.PW) =>
 Go.SX.I64 (i34 + (1 : Int)) ∧ F32 [Go.SX.PL.val (Go.Value.int Go.IntKind.i64 (i34 + (1 : Int)))] W54 ∧ F33 [Go.SX.PL.val (Go.Value.int Go.IntKind.i64 (i34 + (1 : Int)))] W54 < F33 [Go.SX.PL.val (Go.Value.int Go.IntKind.i64 i34)] W35) ∧
 (¬i34 < (↑s31.2 : Int) → Go.SX.I64 (i26 + (1 : Int)) ∧ F24 [Go.SX.PL.val (Go.Value.int Go.IntKind.i64 (i26 + (1 : Int)))] W35 ∧ F25 [Go.SX.PL.val (Go.Value.int Go.IntKind.i64 (i26 + (1 : Int)))] W35 < F25 [Go.SX.PL.val (Go.Value.int Go.IntKind.i64 i26)] W27)) ∧
 (¬i26 < (↑s23.2 : Int) → Go.SX.I64 (i21 + (1 : Int)) ∧ F19 [Go.SX.PL.val (Go.Value.int Go.IntKind.i64 (i21 + (1 : Int)))] W27 ∧ F20 [Go.SX.PL.val (Go.Value.int Go.IntKind.i64 (i21 + (1 : Int)))] W27 < F20 [Go.SX.PL.val (Go.Value.int Go.IntKind.i64 i21)] W22)) ∧
 (¬i21 < (↑a0.2 : Int) → ∀ (W55 : Go.SX.PW), Go.SX.Ext W22 W55 → Post (Go.Value.tuple { toList := [Go.SX.Sl.v s18, Go.Value.bool Bool.true] }) W55)
theorem callmat_Mul (W0 : Go.SX.PW) (M : Nat → Prop) (a0 : Go.SX.Sl) (a1 : Go.SX.Sl) (Post : Go.Value → Go.SX.PW → Prop) (h : Rmat_Mul W0 M a0 a1 Post) : Go.SX.PCallsM Go.Proofs.Try.prog 14 [Go.SX.Sl.v a0, Go.SX.Sl.v a1] W0 M Post :=
  Go.SX.fn_sound rfl tt_ok tt_in Go.Proofs.Try.func14 (cuts := [3]) rfl rfl (Nat.le_of_ble_eq_true rfl) (Eq.mpr (by kernel_rfl) h)
def Rmat_Same (W0 : Go.SX.PW) (M : Nat → Prop) (a0 : Go.SX.Sl) (a1 : Go.SX.Sl) (Post : Go.Value → Go.SX.PW → Prop) : Prop :=
 Go.SX.callN Go.Proofs.Try.prog W0 M (8 : Nat) [Go.SX.Sl.v a0] W0 fun (v1 : Go.Value) (W2 : Go.SX.PW) =>
 ∃ (b3 : Bool),
 v1 = Go.Value.bool b3 ∧
 (b3 = Bool.true →
 Go.SX.callN Go.Proofs.Try.prog W0 M (8 : Nat) [Go.SX.Sl.v a1] W2 fun (v4 : Go.Value) (W5 : Go.SX.PW) =>
 ∃ (b6 : Bool),
 v4 = Go.Value.bool b6 ∧
 (b6 = Bool.true → Go.SX.callN Go.Proofs.Try.prog W0 M (31 : Nat) [Go.SX.Sl.v a0, Go.SX.Sl.v a1, Go.Value.func (Go.Fn.func (32 : Nat)) { toList := [] } { toList := [] }] W5 fun (v7 : Go.Value) (W8 : Go.SX.PW) => ∃ (b9 : Bool), v7 = Go.Value.bool b9 ∧ ∀ (W10 : Go.SX.PW), Go.SX.Ext W8 W10 → Post (Go.Value.bool b9) W10) ∧
 (b6 = Bool.false → ∀ (W11 : Go.SX.PW), Go.SX.Ext W5 W11 → Post (Go.Value.bool Bool.false) W11)) ∧
 (b3 = Bool.false →
 (Bool.false = Bool.true → Go.SX.callN Go.Proofs.Try.prog W0 M (31 : Nat) [Go.SX.Sl.v a0, Go.SX.Sl.v a1, Go.Value.func (Go.Fn.func (32 : Nat)) { toList := [] } { toList := [] }] W2 fun (v12 : Go.Value) (W13 : Go.SX.PW) => ∃ (b14 : Bool), v12 = Go.Value.bool b14 ∧ ∀ (W15 : Go.SX.PW), Go.SX.Ext W13 W15 → Post (Go.Value.bool b14) W15) ∧
 (Bool.false = Bool.false → ∀ (W16 : Go.SX.PW), Go.SX.Ext W2 W16 → Post (Go.Value.bool Bool.false) W16))
theorem callmat_Same (W0 : Go.SX.PW) (M : Nat → Prop) (a0 : Go.SX.Sl) (a1 : Go.SX.Sl) (Post : Go.Value → Go.SX.PW → Prop) (h : Rmat_Same W0 M a0 a1 Post) : Go.SX.PCallsM Go.Proofs.Try.prog 15 [Go.SX.Sl.v a0, Go.SX.Sl.v a1] W0 M Post :=
  Go.SX.fn_sound rfl tt_ok tt_in Go.Proofs.Try.func15 (cuts := []) rfl rfl (Nat.le_of_ble_eq_true rfl) (Eq.mpr (by kernel_rfl) h)
def Rmat_Same_1 (W0 : Go.SX.PW) (M : Nat → Prop) (a0 : Go.SX.Sl) (a1 : Go.SX.Sl) (Post : Go.Value → Go.SX.PW → Prop) : Prop :=
 Go.SX.callN Go.Proofs.Try.prog W0 M (33 : Nat) [Go.SX.Sl.v a0, Go.SX.Sl.v a1, Go.Value.func (Go.Fn.func (34 : Nat)) { toList := [] } { toList := [] }] W0 fun (v1 : Go.Value) (W2 : Go.SX.PW) => ∃ (b3 : Bool), v1 = Go.Value.bool b3 ∧ ∀ (W4 : Go.SX.PW), Go.SX.Ext W2 W4 → Post (Go.Value.bool b3) W4
theorem callmat_Same_1 (W0 : Go.SX.PW) (M : Nat → Prop) (a0 : Go.SX.Sl) (a1 : Go.SX.Sl) (Post : Go.Value → Go.SX.PW → Prop) (h : Rmat_Same_1 W0 M a0 a1 Post) : Go.SX.PCallsM Go.Proofs.Try.prog 32 [Go.SX.Sl.v a0, Go.SX.Sl.v a1] W0 M Post :=
  Go.SX.fn_sound rfl tt_ok tt_in Go.Proofs.Try.func32 (cuts := []) rfl rfl (Nat.le_of_ble_eq_true rfl) (Eq.mpr (by kernel_rfl) h)
def Rmat_Same_1_1 (W0 : Go.SX.PW) (M : Nat → Prop) (a0_0 : Go.SX.Sl) (a0_1 : Bool) (a0_2 : Go.SX.Sl) (a1_0 : Go.SX.Sl) (a1_1 : Bool) (a1_2 : Go.SX.Sl) (Post : Go.Value → Go.SX.PW → Prop) : Prop :=
 Go.SX.callN Go.Proofs.Try.prog W0 M (12 : Nat) [Go.Value.agg { toList := [Go.SX.Sl.v a0_0, Go.Value.bool a0_1, Go.SX.Sl.v a0_2] }, Go.Value.agg { toList := [Go.SX.Sl.v a1_0, Go.Value.bool a1_1, Go.SX.Sl.v a1_2] }] W0 fun (v1 : Go.Value) (W2 : Go.SX.PW) =>
 ∃ (i3 : Int), v1 = Go.Value.int Go.IntKind.i64 i3 ∧ ∀ (W4 : Go.SX.PW), Go.SX.Ext W2 W4 → Post (Go.Value.bool (Decidable.decide (i3 = (0 : Int)))) W4
theorem callmat_Same_1_1 (W0 : Go.SX.PW) (M : Nat → Prop) (a0_0 : Go.SX.Sl) (a0_1 : Bool) (a0_2 : Go.SX.Sl) (a1_0 : Go.SX.Sl) (a1_1 : Bool) (a1_2 : Go.SX.Sl) (Post : Go.Value → Go.SX.PW → Prop) (h : Rmat_Same_1_1 W0 M a0_0 a0_1 a0_2 a1_0 a1_1 a1_2 Post) : Go.SX.PCallsM Go.Proofs.Try.prog 34 [Go.Value.agg #[Go.SX.Sl.v a0_0, Go.Value.bool a0_1, Go.SX.Sl.v a0_2], Go.Value.agg #[Go.SX.Sl.v a1_0, Go.Value.bool a1_1, Go.SX.Sl.v a1_2]] W0 M Post :=
  Go.SX.fn_sound rfl tt_ok tt_in Go.Proofs.Try.func34 (cuts := []) rfl rfl (Nat.le_of_ble_eq_true rfl) (Eq.mpr (by kernel_rfl) h)
def Rslices_EqualFunc_mat_Mat_mat_Mat_rat_Rat_rat_Rat (W0 : Go.SX.PW) (M : Nat → Prop) (a0 : Go.SX.Sl) (a1 : Go.SX.Sl) (Post : Go.Value → Go.SX.PW → Prop) : Prop :=
 ((↑a0.2 : Int) ≠ (↑a1.2 : Int) → ∀ (W1 : Go.SX.PW), Go.SX.Ext W0 W1 → Post (Go.Value.bool Bool.false) W1) ∧
 (¬(↑a0.2 : Int) ≠ (↑a1.2 : Int) →
 ∃ (F2 : List Go.SX.PL → Go.SX.PW → Prop),
 ∃ (F3 : List Go.SX.PL → Go.SX.PW → Nat),
 F2 [Go.SX.PL.val (Go.Value.int Go.IntKind.i64 (0 : Int))] W0 ∧
 ∀ (i4 : Int) (W5 : Go.SX.PW),
 F2 [Go.SX.PL.val (Go.Value.int Go.IntKind.i64 i4)] W5 →
 (i4 < (↑a0.2 : Int) →
 Go.SX.inB a0 i4 ∧
 ∃ (s6 : Go.SX.Sl),
 Go.SX.ElemAt W5 a0 (1 : Nat) (Int.toNat i4) (0 : Nat) [Go.SX.Sl.v s6] ∧
 Go.SX.inB a1 i4 ∧
 ∃ (s7 : Go.SX.Sl),
 Go.SX.ElemAt W5 a1 (1 : Nat) (Int.toNat i4) (0 : Nat) [Go.SX.Sl.v s7] ∧
 Go.SX.callN Go.Proofs.Try.prog W0 M (32 : Nat) [Go.SX.Sl.v s6, Go.SX.Sl.v s7] W5 fun (v8 : Go.Value) (W9 : Go.SX.PW) =>
 ∃ (b10 : Bool),
 v8 = Go.Value.bool b10 ∧
 ((!b10) = Bool.true → ∀ (W11 : Go.SX.PW), Go.SX.Ext W9 W11 → Post (Go.Value.bool Bool.false) W11) ∧ ((!b10) = Bool.false → Go.SX.I64 (i4 + (1 : Int)) ∧ F2 [Go.SX.PL.val (Go.Value.int Go.IntKind.i64 (i4 + (1 : Int)))] W9 ∧ F3 [Go.SX.PL.val (Go.Value.int Go.IntKind.i64 (i4 + (1 : Int)))] W9 < F3 [Go.SX.PL.val (Go.Value.int Go.IntKind.i64 i4)] W5)) ∧
 (¬i4 < (↑a0.2 : Int) → ∀ (W12 : Go.SX.PW), Go.SX.Ext W5 W12 → Post (Go.Value.bool Bool.true) W12))
theorem callslices_EqualFunc_mat_Mat_mat_Mat_rat_Rat_rat_Rat (W0 : Go.SX.PW) (M : Nat → Prop) (a0 : Go.SX.Sl) (a1 : Go.SX.Sl) (Post : Go.Value → Go.SX.PW → Prop) (h : Rslices_EqualFunc_mat_Mat_mat_Mat_rat_Rat_rat_Rat W0 M a0 a1 Post) : Go.SX.PCallsM Go.Proofs.Try.prog 31 [Go.SX.Sl.v a0, Go.SX.Sl.v a1, Go.Value.func (Go.Fn.func (32 : Nat)) #[] #[]] W0 M Post :=
  Go.SX.fn_sound rfl tt_ok tt_in Go.Proofs.Try.func31 (cuts := []) rfl rfl (Nat.le_of_ble_eq_true rfl) (Eq.mpr (by kernel_rfl) h)
def Rslices_EqualFunc_rat_Rat_rat_Rat_rat_Rat_rat_Rat (W0 : Go.SX.PW) (M : Nat → Prop) (a0 : Go.SX.Sl) (a1 : Go.SX.Sl) (Post : Go.Value → Go.SX.PW → Prop) : Prop :=
 ((↑a0.2 : Int) ≠ (↑a1.2 : Int) → ∀ (W1 : Go.SX.PW), Go.SX.Ext W0 W1 → Post (Go.Value.bool Bool.false) W1) ∧
 (¬(↑a0.2 : Int) ≠ (↑a1.2 : Int) →
 ∃ (F2 : List Go.SX.PL → Go.SX.PW → Prop),
 ∃ (F3 : List Go.SX.PL → Go.SX.PW → Nat),
 F2 [Go.SX.PL.val (Go.Value.int Go.IntKind.i64 (0 : Int))] W0 ∧
 ∀ (i4 : Int) (W5 : Go.SX.PW),
 F2 [Go.SX.PL.val (Go.Value.int Go.IntKind.i64 i4)] W5 →
 (i4 < (↑a0.2 : Int) →
 Go.SX.inB a0 i4 ∧
 ∃ (s6 : Go.SX.Sl),
 ∃ (b7 : Bool),
 ∃ (s8 : Go.SX.Sl),
 Go.SX.ElemAt W5 a0 (3 : Nat) (Int.toNat i4) (0 : Nat) [Go.SX.Sl.v s6, Go.Value.bool b7, Go.SX.Sl.v s8] ∧
 Go.SX.inB a1 i4 ∧
 ∃ (s9 : Go.SX.Sl),
 ∃ (b10 : Bool),
 ∃ (s11 : Go.SX.Sl),
 Go.SX.ElemAt W5 a1 (3 : Nat) (Int.toNat i4) (0 : Nat) [Go.SX.Sl.v s9, Go.Value.bool b10, Go.SX.Sl.v s11] ∧
 Go.SX.callN Go.Proofs.Try.prog W0 M (34 : Nat) [Go.Value.agg { toList := [Go.SX.Sl.v s6, Go.Value.bool b7, Go.SX.Sl.v s8] }, Go.Value.agg { toList := [Go.SX.Sl.v s9, Go.Value.bool b10, Go.SX.Sl.v s11] }] W5 fun (v12 : Go.Value) (W13 : Go.SX.PW) =>
 ∃ (b14 : Bool),
 v12 = Go.Value.bool b14 ∧
 ((!b14) = Bool.true → ∀ (W15 : Go.SX.PW), Go.SX.Ext W13 W15 → Post (Go.Value.bool Bool.false) W15) ∧ ((!b14) = Bool.false → Go.SX.I64 (i4 + (1 : Int)) ∧ F2 [Go.SX.PL.val (Go.Value.int Go.IntKind.i64 (i4 + (1 : Int)))] W13 ∧ F3 [Go.SX.PL.val (Go.Value.int Go.IntKind.i64 (i4 + (1 : Int)))] W13 < F3 [Go.SX.PL.val (Go.Value.int Go.IntKind.i64 i4)] W5)) ∧
 (¬i4 < (↑a0.2 : Int) → ∀ (W16 : Go.SX.PW), Go.SX.Ext W5 W16 → Post (Go.Value.bool Bool.true) W16))
theorem callslices_EqualFunc_rat_Rat_rat_Rat_rat_Rat_rat_Rat (W0 : Go.SX.PW) (M : Nat → Prop) (a0 : Go.SX.Sl) (a1 : Go.SX.Sl) (Post : Go.Value → Go.SX.PW → Prop) (h : Rslices_EqualFunc_rat_Rat_rat_Rat_rat_Rat_rat_Rat W0 M a0 a1 Post) : Go.SX.PCallsM Go.Proofs.Try.prog 33 [Go.SX.Sl.v a0, Go.SX.Sl.v a1, Go.Value.func (Go.Fn.func (34 : Nat)) #[] #[]] W0 M Post :=
  Go.SX.fn_sound rfl tt_ok tt_in Go.Proofs.Try.func33 (cuts := []) rfl rfl (Nat.le_of_ble_eq_true rfl) (Eq.mpr (by kernel_rfl) h)
def Rlaw11_Shaped (W0 : Go.SX.PW) (M : Nat → Prop) (a0 : Go.SX.Sl) (a1 : Int) (Post : Go.Value → Go.SX.PW → Prop) : Prop :=
 Go.SX.callN Go.Proofs.Try.prog W0 M (25 : Nat) [Go.SX.Sl.v a0, Go.Value.int Go.IntKind.i64 a1, Go.Value.int Go.IntKind.i64 a1] W0 fun (v1 : Go.Value) (W2 : Go.SX.PW) => ∃ (b3 : Bool), v1 = Go.Value.bool b3 ∧ ∀ (W4 : Go.SX.PW), Go.SX.Ext W2 W4 → Post (Go.Value.bool b3) W4
theorem calllaw11_Shaped (W0 : Go.SX.PW) (M : Nat → Prop) (a0 : Go.SX.Sl) (a1 : Int) (Post : Go.Value → Go.SX.PW → Prop) (h : Rlaw11_Shaped W0 M a0 a1 Post) : Go.SX.PCallsM Go.Proofs.Try.prog 10 [Go.SX.Sl.v a0, Go.Value.int Go.IntKind.i64 a1] W0 M Post :=
  Go.SX.fn_sound rfl tt_ok tt_in Go.Proofs.Try.func10 (cuts := []) rfl rfl (Nat.le_of_ble_eq_true rfl) (Eq.mpr (by kernel_rfl) h)
def Rlaw11_shaped (W0 : Go.SX.PW) (M : Nat → Prop) (a0 : Go.SX.Sl) (a1 : Int) (a2 : Int) (Post : Go.Value → Go.SX.PW → Prop) : Prop :=
 ∃ (F1 : List Go.SX.PL → Go.SX.PW → Prop),
 ∃ (F2 : List Go.SX.PL → Go.SX.PW → Nat),
 F1 [Go.SX.PL.val (Go.Value.int Go.IntKind.i64 (0 : Int))] W0 ∧
 ∀ (i3 : Int) (W4 : Go.SX.PW),
 F1 [Go.SX.PL.val (Go.Value.int Go.IntKind.i64 i3)] W4 →
 (i3 < (↑a0.2 : Int) →
 Go.SX.inB a0 i3 ∧
 ∃ (s5 : Go.SX.Sl),
 Go.SX.ElemAt W4 a0 (1 : Nat) (Int.toNat i3) (0 : Nat) [Go.SX.Sl.v s5] ∧
 ((↑s5.2 : Int) ≠ a2 → ∀ (W6 : Go.SX.PW), Go.SX.Ext W4 W6 → Post (Go.Value.bool Bool.false) W6) ∧ (¬(↑s5.2 : Int) ≠ a2 → Go.SX.I64 (i3 + (1 : Int)) ∧ F1 [Go.SX.PL.val (Go.Value.int Go.IntKind.i64 (i3 + (1 : Int)))] W4 ∧ F2 [Go.SX.PL.val (Go.Value.int Go.IntKind.i64 (i3 + (1 : Int)))] W4 < F2 [Go.SX.PL.val (Go.Value.int Go.IntKind.i64 i3)] W4)) ∧
 (¬i3 < (↑a0.2 : Int) → ∀ (W7 : Go.SX.PW), Go.SX.Ext W4 W7 → Post (Go.Value.bool (Decidable.decide ((↑a0.2 : Int) = a1))) W7)
theorem calllaw11_shaped (W0 : Go.SX.PW) (M : Nat → Prop) (a0 : Go.SX.Sl) (a1 : Int) (a2 : Int) (Post : Go.Value → Go.SX.PW → Prop) (h : Rlaw11_shaped W0 M a0 a1 a2 Post) : Go.SX.PCallsM Go.Proofs.Try.prog 25 [Go.SX.Sl.v a0, Go.Value.int Go.IntKind.i64 a1, Go.Value.int Go.IntKind.i64 a2] W0 M Post :=
  Go.SX.fn_sound rfl tt_ok tt_in Go.Proofs.Try.func25 (cuts := []) rfl rfl (Nat.le_of_ble_eq_true rfl) (Eq.mpr (by kernel_rfl) h)
def Rldl_left (W0 : Go.SX.PW) (M : Nat → Prop) (a0 : Go.SX.Sl) (a1 : Go.SX.Sl) (a2 : Go.SX.Sl) (a3 : Int) (a4 : Int) (Post : Go.Value → Go.SX.PW → Prop) : Prop :=
 Go.SX.inB a0 a3 ∧
 ∃ (s1 : Go.SX.Sl),
 Go.SX.ElemAt W0 a0 (1 : Nat) (Int.toNat a3) (0 : Nat) [Go.SX.Sl.v s1] ∧
 Go.SX.inB s1 a4 ∧
 ∃ (s2 : Go.SX.Sl),
 ∃ (b3 : Bool),
 ∃ (s4 : Go.SX.Sl),
 Go.SX.ElemAt W0 s1 (3 : Nat) (Int.toNat a4) (0 : Nat) [Go.SX.Sl.v s2, Go.Value.bool b3, Go.SX.Sl.v s4] ∧
 ∃ (F5 : List Go.SX.PL → Go.SX.PW → Prop),
 ∃ (F6 : List Go.SX.PL → Go.SX.PW → Nat),
 F5 [Go.SX.PL.val (Go.Value.int Go.IntKind.i64 (0 : Int)), Go.SX.PL.cells [Go.SX.Sl.v s2, Go.Value.bool b3, Go.SX.Sl.v s4]] W0 ∧
 ∀ (s7 : Go.SX.Sl) (b8 : Bool) (s9 : Go.SX.Sl) (i10 : Int) (W11 : Go.SX.PW),
 F5 [Go.SX.PL.val (Go.Value.int Go.IntKind.i64 i10), Go.SX.PL.cells [Go.SX.Sl.v s7, Go.Value.bool b8, Go.SX.Sl.v s9]] W11 →
 (i10 < a4 →
 Go.SX.inB a1 a3 ∧
 ∃ (s12 : Go.SX.Sl),
 Go.SX.ElemAt W11 a1 (1 : Nat) (Int.toNat a3) (0 : Nat) [Go.SX.Sl.v s12] ∧
 Go.SX.inB s12 i10 ∧
 ∃ (s13 : Go.SX.Sl),
 ∃ (b14 : Bool),
 ∃ (s15 : Go.SX.Sl),
 Go.SX.ElemAt W11 s12 (3 : Nat) (Int.toNat i10) (0 : Nat) [Go.SX.Sl.v s13, Go.Value.bool b14, Go.SX.Sl.v s15] ∧
 Go.SX.inB a2 i10 ∧
 ∃ (s16 : Go.SX.Sl),
 ∃ (b17 : Bool),
 ∃ (s18 : Go.SX.Sl),
 Go.SX.ElemAt W11 a2 (3 : Nat) (Int.toNat i10) (0 : Nat) [Go.SX.Sl.v s16, Go.Value.bool b17, Go.SX.Sl.v s18] ∧
 Go.SX.inB a1 a4 ∧
 ∃ (s19 : Go.SX.Sl),
 Go.SX.ElemAt W11 a1 (1 : Nat) (Int.toNat a4) (0 : Nat) [Go.SX.Sl.v s19] ∧
 Go.SX.inB s19 i10 ∧
 ∃ (s20 : Go.SX.Sl),
 ∃ (b21 : Bool),
 ∃ (s22 : Go.SX.Sl),
 Go.SX.ElemAt W11 s19 (3 : Nat) (Int.toNat i10) (0 : Nat) [Go.SX.Sl.v s20, Go.Value.bool b21, Go.SX.Sl.v s22] ∧
 Go.SX.callN Go.Proofs.Try.prog W0 M (30 : Nat) [Go.Value.agg { toList := [Go.SX.Sl.v s13, Go.Value.bool b14, Go.SX.Sl.v s15] }, Go.Value.agg { toList := [Go.SX.Sl.v s16, Go.Value.bool b17, Go.SX.Sl.v s18] }] W11 fun (v23 : Go.Value) (W24 : Go.SX.PW) =>
 ∃ (s25 : Go.SX.Sl),
 ∃ (b26 : Bool),
 ∃ (s27 : Go.SX.Sl),
 v23 = Go.Value.agg { toList := [Go.SX.Sl.v s25, Go.Value.bool b26, Go.SX.Sl.v s27] } ∧
 Go.SX.Ext W11 W24 ∧
 Go.SX.callN Go.Proofs.Try.prog W0 M (30 : Nat) [Go.Value.agg { toList := [Go.SX.Sl.v s25, Go.Value.bool b26, Go.SX.Sl.v s27] }, Go.Value.agg { toList := [Go.SX.Sl.v s20, Go.Value.bool b21, Go.SX.Sl.v s22] }] W24 fun (v28 : Go.Value) (W29 : Go.SX.PW) =>
 ∃ (s30 : Go.SX.Sl),
 ∃ (b31 : Bool),
 ∃ (s32 : Go.SX.Sl),
 v28 = Go.Value.agg { toList := [Go.SX.Sl.v s30, Go.Value.bool b31, Go.SX.Sl.v s32] } ∧
 Go.SX.Ext W24 W29 ∧
 Go.SX.callN Go.Proofs.Try.prog W0 M (41 : Nat) [Go.Value.agg { toList := [Go.SX.Sl.v s7, Go.Value.bool b8, Go.SX.Sl.v s9] }, Go.Value.agg { toList := [Go.SX.Sl.v s30, Go.Value.bool b31, Go.SX.Sl.v s32] }] W29 fun (v33 : Go.Value) (W34 : Go.SX.PW) =>
 ∃ (s35 : Go.SX.Sl),
 ∃ (b36 : Bool),
 ∃ (s37 : Go.SX.Sl),
 v33 = Go.Value.agg { toList := [Go.SX.Sl.v s35, Go.Value.bool b36, Go.SX.Sl.v s37] } ∧
 Go.SX.Ext W29 W34 ∧
 Go.SX.I64 (i10 + (1 : Int)) ∧
 F5 [Go.SX.PL.val (Go.Value.int Go.IntKind.i64 (i10 + (1 : Int))), Go.SX.PL.cells [Go.SX.Sl.v s35, Go.Value.bool b36, Go.SX.Sl.v s37]] W34 ∧
 F6 [Go.SX.PL.val (Go.Value.int Go.IntKind.i64 (i10 + (1 : Int))), Go.SX.PL.cells [Go.SX.Sl.v s35, Go.Value.bool b36, Go.SX.Sl.v s37]] W34 < F6 [Go.SX.PL.val (Go.Value.int Go.IntKind.i64 i10), Go.SX.PL.cells [Go.SX.Sl.v s7, Go.Value.bool b8, Go.SX.Sl.v s9]] W11) ∧
 (¬i10 < a4 → ∀ (W38 : Go.SX.PW), Go.SX.Ext W11 W38 → Post (Go.Value.agg { toList := [Go.SX.Sl.v s7, Go.Value.bool b8, Go.SX.Sl.v s9] }) W38)
theorem callldl_left (W0 : Go.SX.PW) (M : Nat → Prop) (a0 : Go.SX.Sl) (a1 : Go.SX.Sl) (a2 : Go.SX.Sl) (a3 : Int) (a4 : Int) (Post : Go.Value → Go.SX.PW → Prop) (h : Rldl_left W0 M a0 a1 a2 a3 a4 Post) : Go.SX.PCallsM Go.Proofs.Try.prog 20 [Go.SX.Sl.v a0, Go.SX.Sl.v a1, Go.SX.Sl.v a2, Go.Value.int Go.IntKind.i64 a3, Go.Value.int Go.IntKind.i64 a4] W0 M Post :=
  Go.SX.fn_sound rfl tt_ok tt_in Go.Proofs.Try.func20 (cuts := []) rfl rfl (Nat.le_of_ble_eq_true rfl) (Eq.mpr (by kernel_rfl) h)
def Rldl_symmetric (W0 : Go.SX.PW) (M : Nat → Prop) (a0 : Go.SX.Sl) (Post : Go.Value → Go.SX.PW → Prop) : Prop :=
 Go.SX.callN Go.Proofs.Try.prog W0 M (13 : Nat) [Go.SX.Sl.v a0] W0 fun (v1 : Go.Value) (W2 : Go.SX.PW) =>
 ∃ (s3 : Go.SX.Sl),
 ∃ (b4 : Bool),
 v1 = Go.Value.tuple { toList := [Go.SX.Sl.v s3, Go.Value.bool b4] } ∧
 (b4 = Bool.true → Go.SX.callN Go.Proofs.Try.prog W0 M (15 : Nat) [Go.SX.Sl.v a0, Go.SX.Sl.v s3] W2 fun (v5 : Go.Value) (W6 : Go.SX.PW) => ∃ (b7 : Bool), v5 = Go.Value.bool b7 ∧ ∀ (W8 : Go.SX.PW), Go.SX.Ext W6 W8 → Post (Go.Value.bool b7) W8) ∧ (b4 = Bool.false → ∀ (W9 : Go.SX.PW), Go.SX.Ext W2 W9 → Post (Go.Value.bool Bool.false) W9)
theorem callldl_symmetric (W0 : Go.SX.PW) (M : Nat → Prop) (a0 : Go.SX.Sl) (Post : Go.Value → Go.SX.PW → Prop) (h : Rldl_symmetric W0 M a0 Post) : Go.SX.PCallsM Go.Proofs.Try.prog 19 [Go.SX.Sl.v a0] W0 M Post :=
  Go.SX.fn_sound rfl tt_ok tt_in Go.Proofs.Try.func19 (cuts := []) rfl rfl (Nat.le_of_ble_eq_true rfl) (Eq.mpr (by kernel_rfl) h)
end Go.Proofs.Ytcffcndpefaalaa
