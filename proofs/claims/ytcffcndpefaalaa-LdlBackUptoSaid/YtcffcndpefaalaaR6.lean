/- R6 -/
import Derived.Test.YtcffcndpefaalaaTt
set_option linter.unusedVariables false
set_option linter.unusedSimpArgs false
set_option maxRecDepth 100000
set_option linter.unusedVariables false
namespace Go.Proofs.Ytcffcndpefaalaa
def Rref1_trim (W0 : Go.SX.PW) (M : Nat → Prop) (a0 : Go.SX.Sl) (Post : Go.Value → Go.SX.PW → Prop) : Prop :=
 ∃ (F1 : List Go.SX.PL → Go.SX.PW → Prop),
 ∃ (F2 : List Go.SX.PL → Go.SX.PW → Nat),
 F1 [Go.SX.PL.val (Go.Value.int Go.IntKind.i64 (↑a0.2 : Int))] W0 ∧
 ∀ (i3 : Int) (W4 : Go.SX.PW),
 F1 [Go.SX.PL.val (Go.Value.int Go.IntKind.i64 i3)] W4 →
 ((0 : Int) < i3 →
 Go.SX.I64 (i3 - (1 : Int)) ∧
 Go.SX.inB a0 (i3 - (1 : Int)) ∧
 ∃ (i5 : Int),
 Go.SX.ElemAt W4 a0 (1 : Nat) (Int.toNat (i3 - (1 : Int))) (0 : Nat) [Go.Value.int Go.IntKind.u32 i5] ∧
 (i5 = (0 : Int) → Go.SX.I64 (i3 - (1 : Int)) ∧ F1 [Go.SX.PL.val (Go.Value.int Go.IntKind.i64 (i3 - (1 : Int)))] W4 ∧ F2 [Go.SX.PL.val (Go.Value.int Go.IntKind.i64 (i3 - (1 : Int)))] W4 < F2 [Go.SX.PL.val (Go.Value.int Go.IntKind.i64 i3)] W4) ∧
 (¬i5 = (0 : Int) → ((0 : Int) ≤ (0 : Int) ∧ (0 : Int) ≤ i3 ∧ i3 ≤ (↑a0.3 : Int)) ∧ ∀ (W6 : Go.SX.PW), Go.SX.Ext W4 W6 → Post (Go.SX.Sl.v (Go.SX.Sl.cut { A := Go.SX.Sl.A a0, n := Go.SX.Sl.n a0, c := Go.SX.Sl.c a0 } (Go.SX.TyI.size Go.Proofs.Ytcffcndpefaalaa.ty106) (Int.toNat (0 : Int)) (Int.toNat i3))) W6)) ∧
 (¬(0 : Int) < i3 →
 (Bool.false = Bool.true → Go.SX.I64 (i3 - (1 : Int)) ∧ F1 [Go.SX.PL.val (Go.Value.int Go.IntKind.i64 (i3 - (1 : Int)))] W4 ∧ F2 [Go.SX.PL.val (Go.Value.int Go.IntKind.i64 (i3 - (1 : Int)))] W4 < F2 [Go.SX.PL.val (Go.Value.int Go.IntKind.i64 i3)] W4) ∧
 (Bool.false = Bool.false → ((0 : Int) ≤ (0 : Int) ∧ (0 : Int) ≤ i3 ∧ i3 ≤ (↑a0.3 : Int)) ∧ ∀ (W7 : Go.SX.PW), Go.SX.Ext W4 W7 → Post (Go.SX.Sl.v (Go.SX.Sl.cut { A := Go.SX.Sl.A a0, n := Go.SX.Sl.n a0, c := Go.SX.Sl.c a0 } (Go.SX.TyI.size Go.Proofs.Ytcffcndpefaalaa.ty106) (Int.toNat (0 : Int)) (Int.toNat i3))) W7))
theorem callref1_trim (W0 : Go.SX.PW) (M : Nat → Prop) (a0 : Go.SX.Sl) (Post : Go.Value → Go.SX.PW → Prop) (h : Rref1_trim W0 M a0 Post) : Go.SX.PCallsM Go.Proofs.Try.prog 72 [Go.SX.Sl.v a0] W0 M Post :=
  Go.SX.fn_sound rfl tt_ok tt_in Go.Proofs.Try.func72 (cuts := []) rfl rfl (Nat.le_of_ble_eq_true rfl) (Eq.mpr (by kernel_rfl) h)
def Rref1_NatOf (W0 : Go.SX.PW) (M : Nat → Prop) (a0 : Int) (Post : Go.Value → Go.SX.PW → Prop) : Prop :=
 ∀ (s1 : Go.SX.Sl) (W2 : Go.SX.PW),
 Go.SX.Ext W0 W2 →
 Go.SX.Own W2 (106 : Nat) (1 : Nat) s1 [[Go.Value.int Go.IntKind.u32 (Go.IntKind.wrap Go.IntKind.u32 (Go.bits Go.BinOp.and Go.IntKind.u64 a0 (4294967295 : Int)))], [Go.Value.int Go.IntKind.u32 (Go.IntKind.wrap Go.IntKind.u32 (Go.SX.ishr a0 (32 : Nat)))]] →
 (∀ (n3 : Nat), Go.Value.ownBlock (Go.SX.Sl.v s1) = Option.some n3 → Array.size (Go.SX.PW.w W0).1 ≤ n3 ∧ (n3 < Array.size (Go.SX.PW.w W0).1 → W0.2 n3)) → Go.SX.callN Go.Proofs.Try.prog W0 M (72 : Nat) [Go.SX.Sl.v s1] W2 fun (v4 : Go.Value) (W5 : Go.SX.PW) => ∃ (s6 : Go.SX.Sl), v4 = Go.SX.Sl.v s6 ∧ ∀ (W7 : Go.SX.PW), Go.SX.Ext W5 W7 → Post (Go.SX.Sl.v s6) W7
theorem callref1_NatOf (W0 : Go.SX.PW) (M : Nat → Prop) (a0 : Int) (Post : Go.Value → Go.SX.PW → Prop) (h : Rref1_NatOf W0 M a0 Post) : Go.SX.PCallsM Go.Proofs.Try.prog 54 [Go.Value.int Go.IntKind.u64 a0] W0 M Post :=
  Go.SX.fn_sound rfl tt_ok tt_in Go.Proofs.Try.func54 (cuts := []) rfl rfl (Nat.le_of_ble_eq_true rfl) (Eq.mpr (by kernel_rfl) h)
def Rref1_CmpNat (W0 : Go.SX.PW) (M : Nat → Prop) (a0 : Go.SX.Sl) (a1 : Go.SX.Sl) (Post : Go.Value → Go.SX.PW → Prop) : Prop :=
 ((↑a0.2 : Int) ≠ (↑a1.2 : Int) → ((↑a0.2 : Int) < (↑a1.2 : Int) → ∀ (W1 : Go.SX.PW), Go.SX.Ext W0 W1 → Post (Go.Value.int Go.IntKind.i64 (-1 : Int)) W1) ∧ (¬(↑a0.2 : Int) < (↑a1.2 : Int) → ∀ (W2 : Go.SX.PW), Go.SX.Ext W0 W2 → Post (Go.Value.int Go.IntKind.i64 (1 : Int)) W2)) ∧
 (¬(↑a0.2 : Int) ≠ (↑a1.2 : Int) →
 Go.SX.I64 ((↑a0.2 : Int) - (1 : Int)) ∧
 ∃ (F3 : List Go.SX.PL → Go.SX.PW → Prop),
 ∃ (F4 : List Go.SX.PL → Go.SX.PW → Nat),
 F3 [Go.SX.PL.val (Go.Value.int Go.IntKind.i64 ((↑a0.2 : Int) - (1 : Int)))] W0 ∧
 ∀ (i5 : Int) (W6 : Go.SX.PW),
 F3 [Go.SX.PL.val (Go.Value.int Go.IntKind.i64 i5)] W6 →
 ((0 : Int) ≤ i5 →
 Go.SX.inB a0 i5 ∧
 ∃ (i7 : Int),
 Go.SX.ElemAt W6 a0 (1 : Nat) (Int.toNat i5) (0 : Nat) [Go.Value.int Go.IntKind.u32 i7] ∧
 Go.SX.inB a1 i5 ∧
 ∃ (i8 : Int),
 Go.SX.ElemAt W6 a1 (1 : Nat) (Int.toNat i5) (0 : Nat) [Go.Value.int Go.IntKind.u32 i8] ∧
 (i7 < i8 → ∀ (W9 : Go.SX.PW), Go.SX.Ext W6 W9 → Post (Go.Value.int Go.IntKind.i64 (-1 : Int)) W9) ∧
 (¬i7 < i8 →
 Go.SX.inB a0 i5 ∧
 ∃ (i10 : Int),
 Go.SX.ElemAt W6 a0 (1 : Nat) (Int.toNat i5) (0 : Nat) [Go.Value.int Go.IntKind.u32 i10] ∧
 Go.SX.inB a1 i5 ∧
 ∃ (i11 : Int),
 Go.SX.ElemAt W6 a1 (1 : Nat) (Int.toNat i5) (0 : Nat) [Go.Value.int Go.IntKind.u32 i11] ∧
 (i11 < i10 → ∀ (W12 : Go.SX.PW), Go.SX.Ext W6 W12 → Post (Go.Value.int Go.IntKind.i64 (1 : Int)) W12) ∧ (¬i11 < i10 → Go.SX.I64 (i5 - (1 : Int)) ∧ F3 [Go.SX.PL.val (Go.Value.int Go.IntKind.i64 (i5 - (1 : Int)))] W6 ∧ F4 [Go.SX.PL.val (Go.Value.int Go.IntKind.i64 (i5 - (1 : Int)))] W6 < F4 [Go.SX.PL.val (Go.Value.int Go.IntKind.i64 i5)] W6))) ∧
 (¬(0 : Int) ≤ i5 → ∀ (W13 : Go.SX.PW), Go.SX.Ext W6 W13 → Post (Go.Value.int Go.IntKind.i64 (0 : Int)) W13))
theorem callref1_CmpNat (W0 : Go.SX.PW) (M : Nat → Prop) (a0 : Go.SX.Sl) (a1 : Go.SX.Sl) (Post : Go.Value → Go.SX.PW → Prop) (h : Rref1_CmpNat W0 M a0 a1 Post) : Go.SX.PCallsM Go.Proofs.Try.prog 56 [Go.SX.Sl.v a0, Go.SX.Sl.v a1] W0 M Post :=
  Go.SX.fn_sound rfl tt_ok tt_in Go.Proofs.Try.func56 (cuts := []) rfl rfl (Nat.le_of_ble_eq_true rfl) (Eq.mpr (by kernel_rfl) h)
def Rref1_AddNat (W0 : Go.SX.PW) (M : Nat → Prop) (a0 : Go.SX.Sl) (a1 : Go.SX.Sl) (Post : Go.Value → Go.SX.PW → Prop) : Prop :=
 Go.SX.I64 (Go.SX.mx (↑a0.2 : Int) (↑a1.2 : Int) + (1 : Int)) ∧
 (Go.SX.mx (↑a0.2 : Int) (↑a1.2 : Int) + (1 : Int) = Go.SX.mx (↑a0.2 : Int) (↑a1.2 : Int) + (1 : Int) ∧ (0 : Int) ≤ Go.SX.mx (↑a0.2 : Int) (↑a1.2 : Int) + (1 : Int) ∧ (Go.SX.mx (↑a0.2 : Int) (↑a1.2 : Int) + (1 : Int)) * (↑(4 : Nat) : Int) ≤ (281474976710656 : Int)) ∧
 ∃ (F1 : List Go.SX.PL → Go.SX.PW → Prop),
 ∃ (F2 : List Go.SX.PL → Go.SX.PW → Nat),
 F1 [Go.SX.PL.val (Go.Value.int Go.IntKind.u64 (0 : Int)), Go.SX.PL.val (Go.Value.int Go.IntKind.i64 (0 : Int)), Go.SX.PL.row (List.replicate (Int.toNat (Go.SX.mx (↑a0.2 : Int) (↑a1.2 : Int) + (1 : Int))) [Go.Value.int Go.IntKind.u32 (0 : Int)])] W0 ∧
 ∀ (l3 : List (List Go.Value)) (i4 i5 : Int) (W6 : Go.SX.PW),
 F1 [Go.SX.PL.val (Go.Value.int Go.IntKind.u64 i4), Go.SX.PL.val (Go.Value.int Go.IntKind.i64 i5), Go.SX.PL.row l3] W6 →
 (i5 < (↑(List.length l3) : Int) →
 (i5 < (↑a0.2 : Int) →
 Go.SX.inB a0 i5 ∧
 ∃ (i7 : Int),
 Go.SX.ElemAt W6 a0 (1 : Nat) (Int.toNat i5) (0 : Nat) [Go.Value.int Go.IntKind.u32 i7] ∧
 (i5 < (↑a1.2 : Int) →
 Go.SX.inB a1 i5 ∧
 ∃ (i8 : Int),
 Go.SX.ElemAt W6 a1 (1 : Nat) (Int.toNat i5) (0 : Nat) [Go.Value.int Go.IntKind.u32 i8] ∧
 ((0 : Int) ≤ i5 ∧ i5 < (↑(List.length l3) : Int)) ∧
 Int.toNat i5 < List.length l3 ∧
 Go.SX.I64 (i5 + (1 : Int)) ∧
 F1
 [Go.SX.PL.val (Go.Value.int Go.IntKind.u64 (Go.SX.ishr (Go.IntKind.wrap Go.IntKind.u64 (Go.IntKind.wrap Go.IntKind.u64 (i4 + Go.IntKind.wrap Go.IntKind.u64 i7) + Go.IntKind.wrap Go.IntKind.u64 i8)) (32 : Nat))), Go.SX.PL.val (Go.Value.int Go.IntKind.i64 (i5 + (1 : Int))),
 Go.SX.PL.row (List.set l3 (Int.toNat i5) [Go.Value.int Go.IntKind.u32 (Go.IntKind.wrap Go.IntKind.u32 (Go.bits Go.BinOp.and Go.IntKind.u64 (Go.IntKind.wrap Go.IntKind.u64 (Go.IntKind.wrap Go.IntKind.u64 (i4 + Go.IntKind.wrap Go.IntKind.u64 i7) + Go.IntKind.wrap Go.IntKind.u64 i8)) (4294967295 : Int)))])]
 W6 ∧
 F2
 [Go.SX.PL.val (Go.Value.int Go.IntKind.u64 (Go.SX.ishr (Go.IntKind.wrap Go.IntKind.u64 (Go.IntKind.wrap Go.IntKind.u64 (i4 + Go.IntKind.wrap Go.IntKind.u64 i7) + Go.IntKind.wrap Go.IntKind.u64 i8)) (32 : Nat))), Go.SX.PL.val (Go.Value.int Go.IntKind.i64 (i5 + (1 : Int))),
 Go.SX.PL.row (List.set l3 (Int.toNat i5) [Go.Value.int Go.IntKind.u32 (Go.IntKind.wrap Go.IntKind.u32 (Go.bits Go.BinOp.and Go.IntKind.u64 (Go.IntKind.wrap Go.IntKind.u64 (Go.IntKind.wrap Go.IntKind.u64 (i4 + Go.IntKind.wrap Go.IntKind.u64 i7) + Go.IntKind.wrap Go.IntKind.u64 i8)) (4294967295 : Int)))])]
 W6 <
 F2 [Go.SX.PL.val (Go.Value.int Go.IntKind.u64 i4), Go.SX.PL.val (Go.Value.int Go.IntKind.i64 i5), Go.SX.PL.row l3] W6) ∧
 (¬i5 < (↑a1.2 : Int) →
 ((0 : Int) ≤ i5 ∧ i5 < (↑(List.length l3) : Int)) ∧
 Int.toNat i5 < List.length l3 ∧
 Go.SX.I64 (i5 + (1 : Int)) ∧
 F1
 [Go.SX.PL.val (Go.Value.int Go.IntKind.u64 (Go.SX.ishr (Go.IntKind.wrap Go.IntKind.u64 (i4 + Go.IntKind.wrap Go.IntKind.u64 i7)) (32 : Nat))), Go.SX.PL.val (Go.Value.int Go.IntKind.i64 (i5 + (1 : Int))),
 Go.SX.PL.row (List.set l3 (Int.toNat i5) [Go.Value.int Go.IntKind.u32 (Go.IntKind.wrap Go.IntKind.u32 (Go.bits Go.BinOp.and Go.IntKind.u64 (Go.IntKind.wrap Go.IntKind.u64 (i4 + Go.IntKind.wrap Go.IntKind.u64 i7)) (4294967295 : Int)))])]
 W6 ∧
 F2
 [Go.SX.PL.val (Go.Value.int Go.IntKind.u64 (Go.SX.ishr (Go.IntKind.wrap Go.IntKind.u64 (i4 + Go.IntKind.wrap Go.IntKind.u64 i7)) (32 : Nat))), Go.SX.PL.val (Go.Value.int Go.IntKind.i64 (i5 + (1 : Int))),
 Go.SX.PL.row (List.set l3 (Int.toNat i5) [Go.Value.int Go.IntKind.u32 (Go.IntKind.wrap Go.IntKind.u32 (Go.bits Go.BinOp.and Go.IntKind.u64 (Go.IntKind.wrap Go.IntKind.u64 (i4 + Go.IntKind.wrap Go.IntKind.u64 i7)) (4294967295 : Int)))])]
 W6 <
 F2 [Go.SX.PL.val (Go.Value.int Go.IntKind.u64 i4), Go.SX.PL.val (Go.Value.int Go.IntKind.i64 i5), Go.SX.PL.row l3] W6)) ∧
 (¬i5 < (↑a0.2 : Int) →
 (i5 < (↑a1.2 : Int) →
 Go.SX.inB a1 i5 ∧
 ∃ (i9 : Int),
 Go.SX.ElemAt W6 a1 (1 : Nat) (Int.toNat i5) (0 : Nat) [Go.Value.int Go.IntKind.u32 i9] ∧
 ((0 : Int) ≤ i5 ∧ i5 < (↑(List.length l3) : Int)) ∧
 Int.toNat i5 < List.length l3 ∧
 Go.SX.I64 (i5 + (1 : Int)) ∧
 F1
 [Go.SX.PL.val (Go.Value.int Go.IntKind.u64 (Go.SX.ishr (Go.IntKind.wrap Go.IntKind.u64 (i4 + Go.IntKind.wrap Go.IntKind.u64 i9)) (32 : Nat))), Go.SX.PL.val (Go.Value.int Go.IntKind.i64 (i5 + (1 : Int))),
 Go.SX.PL.row (List.set l3 (Int.toNat i5) [Go.Value.int Go.IntKind.u32 (Go.IntKind.wrap Go.IntKind.u32 (Go.bits Go.BinOp.and Go.IntKind.u64 (Go.IntKind.wrap Go.IntKind.u64 (i4 + Go.IntKind.wrap Go.IntKind.u64 i9)) (4294967295 : Int)))])]
 W6 ∧
 F2
 [Go.SX.PL.val (Go.Value.int Go.IntKind.u64 (Go.SX.ishr (Go.IntKind.wrap Go.IntKind.u64 (i4 + Go.IntKind.wrap Go.IntKind.u64 i9)) (32 : Nat))), Go.SX.PL.val (Go.Value.int Go.IntKind.i64 (i5 + (1 : Int))),
 Go.SX.PL.row (List.set l3 (Int.toNat i5) [Go.Value.int Go.IntKind.u32 (Go.IntKind.wrap Go.IntKind.u32 (Go.bits Go.BinOp.and Go.IntKind.u64 (Go.IntKind.wrap Go.IntKind.u64 (i4 + Go.IntKind.wrap Go.IntKind.u64 i9)) (4294967295 : Int)))])]
 W6 <
 F2 [Go.SX.PL.val (Go.Value.int Go.IntKind.u64 i4), Go.SX.PL.val (Go.Value.int Go.IntKind.i64 i5), Go.SX.PL.row l3] W6) ∧
 (¬i5 < (↑a1.2 : Int) →
 ((0 : Int) ≤ i5 ∧ i5 < (↑(List.length l3) : Int)) ∧
 Int.toNat i5 < List.length l3 ∧
 Go.SX.I64 (i5 + (1 : Int)) ∧
 F1 [Go.SX.PL.val (Go.Value.int Go.IntKind.u64 (Go.SX.ishr i4 (32 : Nat))), Go.SX.PL.val (Go.Value.int Go.IntKind.i64 (i5 + (1 : Int))), Go.SX.PL.row (List.set l3 (Int.toNat i5) [Go.Value.int Go.IntKind.u32 (Go.IntKind.wrap Go.IntKind.u32 (Go.bits Go.BinOp.and Go.IntKind.u64 i4 (4294967295 : Int)))])] W6 ∧
 F2 [Go.SX.PL.val (Go.Value.int Go.IntKind.u64 (Go.SX.ishr i4 (32 : Nat))), Go.SX.PL.val (Go.Value.int Go.IntKind.i64 (i5 + (1 : Int))), Go.SX.PL.row (List.set l3 (Int.toNat i5) [Go.Value.int Go.IntKind.u32 (Go.IntKind.wrap Go.IntKind.u32 (Go.bits Go.BinOp.and Go.IntKind.u64 i4 (4294967295 : Int)))])] W6 <
 F2 [Go.SX.PL.val (Go.Value.int Go.IntKind.u64 i4), Go.SX.PL.val (Go.Value.int Go.IntKind.i64 i5), Go.SX.PL.row l3] W6))) ∧
 (¬i5 < (↑(List.length l3) : Int) →
 ∀ (s10 : Go.SX.Sl) (W11 : Go.SX.PW),
 Go.SX.Ext W6 W11 →
 Go.SX.Own W11 (106 : Nat) (1 : Nat) s10 l3 →
 (∀ (n12 : Nat), Go.Value.ownBlock (Go.SX.Sl.v s10) = Option.some n12 → Array.size (Go.SX.PW.w W0).1 ≤ n12 ∧ (n12 < Array.size (Go.SX.PW.w W6).1 → W6.2 n12)) →
 Go.SX.callN Go.Proofs.Try.prog W0 M (72 : Nat) [Go.SX.Sl.v s10] W11 fun (v13 : Go.Value) (W14 : Go.SX.PW) => ∃ (s15 : Go.SX.Sl), v13 = Go.SX.Sl.v s15 ∧ ∀ (W16 : Go.SX.PW), Go.SX.Ext W14 W16 → Post (Go.SX.Sl.v s15) W16)
theorem callref1_AddNat (W0 : Go.SX.PW) (M : Nat → Prop) (a0 : Go.SX.Sl) (a1 : Go.SX.Sl) (Post : Go.Value → Go.SX.PW → Prop) (h : Rref1_AddNat W0 M a0 a1 Post) : Go.SX.PCallsM Go.Proofs.Try.prog 86 [Go.SX.Sl.v a0, Go.SX.Sl.v a1] W0 M Post :=
  Go.SX.fn_sound rfl tt_ok tt_in Go.Proofs.Try.func86 (cuts := []) rfl rfl (Nat.le_of_ble_eq_true rfl) (Eq.mpr (by kernel_rfl) h)
def Rref1_SubNat (W0 : Go.SX.PW) (M : Nat → Prop) (a0 : Go.SX.Sl) (a1 : Go.SX.Sl) (Post : Go.Value → Go.SX.PW → Prop) : Prop :=
 ((↑a0.2 : Int) = (↑a0.2 : Int) ∧ (0 : Int) ≤ (↑a0.2 : Int) ∧ (↑a0.2 : Int) * (↑(4 : Nat) : Int) ≤ (281474976710656 : Int)) ∧
 ∃ (F1 : List Go.SX.PL → Go.SX.PW → Prop),
 ∃ (F2 : List Go.SX.PL → Go.SX.PW → Nat),
 F1 [Go.SX.PL.val (Go.Value.int Go.IntKind.u64 (0 : Int)), Go.SX.PL.val (Go.Value.int Go.IntKind.i64 (0 : Int)), Go.SX.PL.row (List.replicate (Int.toNat (↑a0.2 : Int)) [Go.Value.int Go.IntKind.u32 (0 : Int)])] W0 ∧
 ∀ (l3 : List (List Go.Value)) (i4 i5 : Int) (W6 : Go.SX.PW),
 F1 [Go.SX.PL.val (Go.Value.int Go.IntKind.u64 i4), Go.SX.PL.val (Go.Value.int Go.IntKind.i64 i5), Go.SX.PL.row l3] W6 →
 (i5 < (↑a0.2 : Int) →
 (i5 < (↑a1.2 : Int) →
 Go.SX.inB a1 i5 ∧
 ∃ (i7 : Int),
 Go.SX.ElemAt W6 a1 (1 : Nat) (Int.toNat i5) (0 : Nat) [Go.Value.int Go.IntKind.u32 i7] ∧
 Go.SX.inB a0 i5 ∧
 ∃ (i8 : Int),
 Go.SX.ElemAt W6 a0 (1 : Nat) (Int.toNat i5) (0 : Nat) [Go.Value.int Go.IntKind.u32 i8] ∧
 (Go.IntKind.wrap Go.IntKind.u64 i8 < Go.IntKind.wrap Go.IntKind.u64 (i4 + Go.IntKind.wrap Go.IntKind.u64 i7) →
 ((0 : Int) ≤ i5 ∧ i5 < (↑(List.length l3) : Int)) ∧
 Int.toNat i5 < List.length l3 ∧
 Go.SX.I64 (i5 + (1 : Int)) ∧
 F1
 [Go.SX.PL.val (Go.Value.int Go.IntKind.u64 (1 : Int)), Go.SX.PL.val (Go.Value.int Go.IntKind.i64 (i5 + (1 : Int))),
 Go.SX.PL.row (List.set l3 (Int.toNat i5) [Go.Value.int Go.IntKind.u32 (Go.IntKind.wrap Go.IntKind.u32 (Go.IntKind.wrap Go.IntKind.u64 (Go.IntKind.wrap Go.IntKind.u64 (Go.IntKind.wrap Go.IntKind.u64 i8 + (4294967296 : Int)) - Go.IntKind.wrap Go.IntKind.u64 (i4 + Go.IntKind.wrap Go.IntKind.u64 i7))))])]
 W6 ∧
 F2
 [Go.SX.PL.val (Go.Value.int Go.IntKind.u64 (1 : Int)), Go.SX.PL.val (Go.Value.int Go.IntKind.i64 (i5 + (1 : Int))),
 Go.SX.PL.row (List.set l3 (Int.toNat i5) [Go.Value.int Go.IntKind.u32 (Go.IntKind.wrap Go.IntKind.u32 (Go.IntKind.wrap Go.IntKind.u64 (Go.IntKind.wrap Go.IntKind.u64 (Go.IntKind.wrap Go.IntKind.u64 i8 + (4294967296 : Int)) - Go.IntKind.wrap Go.IntKind.u64 (i4 + Go.IntKind.wrap Go.IntKind.u64 i7))))])]
 W6 <
 F2 [Go.SX.PL.val (Go.Value.int Go.IntKind.u64 i4), Go.SX.PL.val (Go.Value.int Go.IntKind.i64 i5), Go.SX.PL.row l3] W6) ∧
 (¬Go.IntKind.wrap Go.IntKind.u64 i8 < Go.IntKind.wrap Go.IntKind.u64 (i4 + Go.IntKind.wrap Go.IntKind.u64 i7) →
 ((0 : Int) ≤ i5 ∧ i5 < (↑(List.length l3) : Int)) ∧
 Int.toNat i5 < List.length l3 ∧
 Go.SX.I64 (i5 + (1 : Int)) ∧
 F1
 [Go.SX.PL.val (Go.Value.int Go.IntKind.u64 (0 : Int)), Go.SX.PL.val (Go.Value.int Go.IntKind.i64 (i5 + (1 : Int))),
 Go.SX.PL.row (List.set l3 (Int.toNat i5) [Go.Value.int Go.IntKind.u32 (Go.IntKind.wrap Go.IntKind.u32 (Go.IntKind.wrap Go.IntKind.u64 (Go.IntKind.wrap Go.IntKind.u64 i8 - Go.IntKind.wrap Go.IntKind.u64 (i4 + Go.IntKind.wrap Go.IntKind.u64 i7))))])]
 W6 ∧
 F2
 [Go.SX.PL.val (Go.Value.int Go.IntKind.u64 (0 : Int)), Go.SX.PL.val (Go.Value.int Go.IntKind.i64 (i5 + (1 : Int))),
 Go.SX.PL.row (List.set l3 (Int.toNat i5) [Go.Value.int Go.IntKind.u32 (Go.IntKind.wrap Go.IntKind.u32 (Go.IntKind.wrap Go.IntKind.u64 (Go.IntKind.wrap Go.IntKind.u64 i8 - Go.IntKind.wrap Go.IntKind.u64 (i4 + Go.IntKind.wrap Go.IntKind.u64 i7))))])]
 W6 <
 F2 [Go.SX.PL.val (Go.Value.int Go.IntKind.u64 i4), Go.SX.PL.val (Go.Value.int Go.IntKind.i64 i5), Go.SX.PL.row l3] W6)) ∧
 (¬i5 < (↑a1.2 : Int) →
 Go.SX.inB a0 i5 ∧
 ∃ (i9 : Int),
 Go.SX.ElemAt W6 a0 (1 : Nat) (Int.toNat i5) (0 : Nat) [Go.Value.int Go.IntKind.u32 i9] ∧
 (Go.IntKind.wrap Go.IntKind.u64 i9 < i4 →
 ((0 : Int) ≤ i5 ∧ i5 < (↑(List.length l3) : Int)) ∧
 Int.toNat i5 < List.length l3 ∧
 Go.SX.I64 (i5 + (1 : Int)) ∧
 F1 [Go.SX.PL.val (Go.Value.int Go.IntKind.u64 (1 : Int)), Go.SX.PL.val (Go.Value.int Go.IntKind.i64 (i5 + (1 : Int))), Go.SX.PL.row (List.set l3 (Int.toNat i5) [Go.Value.int Go.IntKind.u32 (Go.IntKind.wrap Go.IntKind.u32 (Go.IntKind.wrap Go.IntKind.u64 (Go.IntKind.wrap Go.IntKind.u64 (Go.IntKind.wrap Go.IntKind.u64 i9 + (4294967296 : Int)) - i4)))])] W6 ∧
 F2 [Go.SX.PL.val (Go.Value.int Go.IntKind.u64 (1 : Int)), Go.SX.PL.val (Go.Value.int Go.IntKind.i64 (i5 + (1 : Int))), Go.SX.PL.row (List.set l3 (Int.toNat i5) [Go.Value.int Go.IntKind.u32 (Go.IntKind.wrap Go.IntKind.u32 (Go.IntKind.wrap Go.IntKind.u64 (Go.IntKind.wrap Go.IntKind.u64 (Go.IntKind.wrap Go.IntKind.u64 i9 + (4294967296 : Int)) - i4)))])] W6 <
 F2 [Go.SX.PL.val (Go.Value.int Go.IntKind.u64 i4), Go.SX.PL.val (Go.Value.int Go.IntKind.i64 i5), Go.SX.PL.row l3] W6) ∧
 (¬Go.IntKind.wrap Go.IntKind.u64 i9 < i4 →
 ((0 : Int) ≤ i5 ∧ i5 < (↑(List.length l3) : Int)) ∧
 Int.toNat i5 < List.length l3 ∧
 Go.SX.I64 (i5 + (1 : Int)) ∧
 F1 [Go.SX.PL.val (Go.Value.int Go.IntKind.u64 (0 : Int)), Go.SX.PL.val (Go.Value.int Go.IntKind.i64 (i5 + (1 : Int))), Go.SX.PL.row (List.set l3 (Int.toNat i5) [Go.Value.int Go.IntKind.u32 (Go.IntKind.wrap Go.IntKind.u32 (Go.IntKind.wrap Go.IntKind.u64 (Go.IntKind.wrap Go.IntKind.u64 i9 - i4)))])] W6 ∧
 F2 [Go.SX.PL.val (Go.Value.int Go.IntKind.u64 (0 : Int)), Go.SX.PL.val (Go.Value.int Go.IntKind.i64 (i5 + (1 : Int))), Go.SX.PL.row (List.set l3 (Int.toNat i5) [Go.Value.int Go.IntKind.u32 (Go.IntKind.wrap Go.IntKind.u32 (Go.IntKind.wrap Go.IntKind.u64 (Go.IntKind.wrap Go.IntKind.u64 i9 - i4)))])] W6 <
 F2 [Go.SX.PL.val (Go.Value.int Go.IntKind.u64 i4), Go.SX.PL.val (Go.Value.int Go.IntKind.i64 i5), Go.SX.PL.row l3] W6))) ∧
 (¬i5 < (↑a0.2 : Int) →
 ∀ (s10 : Go.SX.Sl) (W11 : Go.SX.PW),
 Go.SX.Ext W6 W11 →
 Go.SX.Own W11 (106 : Nat) (1 : Nat) s10 l3 →
 (∀ (n12 : Nat), Go.Value.ownBlock (Go.SX.Sl.v s10) = Option.some n12 → Array.size (Go.SX.PW.w W0).1 ≤ n12 ∧ (n12 < Array.size (Go.SX.PW.w W6).1 → W6.2 n12)) → Go.SX.callN Go.Proofs.Try.prog W0 M (72 : Nat) [Go.SX.Sl.v s10] W11 fun (v13 : Go.Value) (W14 : Go.SX.PW) => ∃ (s15 : Go.SX.Sl), v13 = Go.SX.Sl.v s15 ∧ ∀ (W16 : Go.SX.PW), Go.SX.Ext W14 W16 → Post (Go.SX.Sl.v s15) W16)
theorem callref1_SubNat (W0 : Go.SX.PW) (M : Nat → Prop) (a0 : Go.SX.Sl) (a1 : Go.SX.Sl) (Post : Go.Value → Go.SX.PW → Prop) (h : Rref1_SubNat W0 M a0 a1 Post) : Go.SX.PCallsM Go.Proofs.Try.prog 85 [Go.SX.Sl.v a0, Go.SX.Sl.v a1] W0 M Post :=
  Go.SX.fn_sound rfl tt_ok tt_in Go.Proofs.Try.func85 (cuts := []) rfl rfl (Nat.le_of_ble_eq_true rfl) (Eq.mpr (by kernel_rfl) h)
def Rref1_Bits (W0 : Go.SX.PW) (M : Nat → Prop) (a0 : Go.SX.Sl) (Post : Go.Value → Go.SX.PW → Prop) : Prop :=
 ((↑a0.2 : Int) = (0 : Int) → ∀ (W1 : Go.SX.PW), Go.SX.Ext W0 W1 → Post (Go.Value.int Go.IntKind.i64 (0 : Int)) W1) ∧
 (¬(↑a0.2 : Int) = (0 : Int) →
 Go.SX.I64 ((↑a0.2 : Int) - (1 : Int)) ∧
 Go.SX.I64 ((32 : Int) * ((↑a0.2 : Int) - (1 : Int))) ∧
 Go.SX.I64 ((↑a0.2 : Int) - (1 : Int)) ∧
 Go.SX.inB a0 ((↑a0.2 : Int) - (1 : Int)) ∧
 ∃ (i2 : Int),
 Go.SX.ElemAt W0 a0 (1 : Nat) (Int.toNat ((↑a0.2 : Int) - (1 : Int))) (0 : Nat) [Go.Value.int Go.IntKind.u32 i2] ∧
 ∃ (F3 : List Go.SX.PL → Go.SX.PW → Prop),
 ∃ (F4 : List Go.SX.PL → Go.SX.PW → Nat),
 F3 [Go.SX.PL.val (Go.Value.int Go.IntKind.i64 ((32 : Int) * ((↑a0.2 : Int) - (1 : Int)))), Go.SX.PL.val (Go.Value.int Go.IntKind.u32 i2)] W0 ∧
 ∀ (i5 i6 : Int) (W7 : Go.SX.PW),
 F3 [Go.SX.PL.val (Go.Value.int Go.IntKind.i64 i5), Go.SX.PL.val (Go.Value.int Go.IntKind.u32 i6)] W7 →
 ((0 : Int) < i6 →
 Go.SX.I64 (i5 + (1 : Int)) ∧
 F3 [Go.SX.PL.val (Go.Value.int Go.IntKind.i64 (i5 + (1 : Int))), Go.SX.PL.val (Go.Value.int Go.IntKind.u32 (Go.SX.ishr i6 (1 : Nat)))] W7 ∧
 F4 [Go.SX.PL.val (Go.Value.int Go.IntKind.i64 (i5 + (1 : Int))), Go.SX.PL.val (Go.Value.int Go.IntKind.u32 (Go.SX.ishr i6 (1 : Nat)))] W7 < F4 [Go.SX.PL.val (Go.Value.int Go.IntKind.i64 i5), Go.SX.PL.val (Go.Value.int Go.IntKind.u32 i6)] W7) ∧
 (¬(0 : Int) < i6 → ∀ (W8 : Go.SX.PW), Go.SX.Ext W7 W8 → Post (Go.Value.int Go.IntKind.i64 i5) W8))
theorem callref1_Bits (W0 : Go.SX.PW) (M : Nat → Prop) (a0 : Go.SX.Sl) (Post : Go.Value → Go.SX.PW → Prop) (h : Rref1_Bits W0 M a0 Post) : Go.SX.PCallsM Go.Proofs.Try.prog 83 [Go.SX.Sl.v a0] W0 M Post :=
  Go.SX.fn_sound rfl tt_ok tt_in Go.Proofs.Try.func83 (cuts := []) rfl rfl (Nat.le_of_ble_eq_true rfl) (Eq.mpr (by kernel_rfl) h)
def Rref1_Shl (W0 : Go.SX.PW) (M : Nat → Prop) (a0 : Go.SX.Sl) (a1 : Int) (Post : Go.Value → Go.SX.PW → Prop) : Prop :=
 (32 : Int) ≠ (0 : Int) ∧
 Go.SX.I64 ((↑a0.2 : Int) + Go.IntKind.wrap Go.IntKind.i64 (Int.tdiv a1 (32 : Int))) ∧
 Go.SX.I64 ((↑a0.2 : Int) + Go.IntKind.wrap Go.IntKind.i64 (Int.tdiv a1 (32 : Int)) + (1 : Int)) ∧
 ((↑a0.2 : Int) + Go.IntKind.wrap Go.IntKind.i64 (Int.tdiv a1 (32 : Int)) + (1 : Int) = (↑a0.2 : Int) + Go.IntKind.wrap Go.IntKind.i64 (Int.tdiv a1 (32 : Int)) + (1 : Int) ∧
 (0 : Int) ≤ (↑a0.2 : Int) + Go.IntKind.wrap Go.IntKind.i64 (Int.tdiv a1 (32 : Int)) + (1 : Int) ∧ ((↑a0.2 : Int) + Go.IntKind.wrap Go.IntKind.i64 (Int.tdiv a1 (32 : Int)) + (1 : Int)) * (↑(4 : Nat) : Int) ≤ (281474976710656 : Int)) ∧
 ∃ (F1 : List Go.SX.PL → Go.SX.PW → Prop),
 ∃ (F2 : List Go.SX.PL → Go.SX.PW → Nat),
 F1 [Go.SX.PL.val (Go.Value.int Go.IntKind.i64 (0 : Int)), Go.SX.PL.row (List.replicate (Int.toNat ((↑a0.2 : Int) + Go.IntKind.wrap Go.IntKind.i64 (Int.tdiv a1 (32 : Int)) + (1 : Int))) [Go.Value.int Go.IntKind.u32 (0 : Int)])] W0 ∧
 ∀ (l3 : List (List Go.Value)) (i4 : Int) (W5 : Go.SX.PW),
 F1 [Go.SX.PL.val (Go.Value.int Go.IntKind.i64 i4), Go.SX.PL.row l3] W5 →
 (i4 < (↑a0.2 : Int) →
 Go.SX.inB a0 i4 ∧
 ∃ (i6 : Int),
 Go.SX.ElemAt W5 a0 (1 : Nat) (Int.toNat i4) (0 : Nat) [Go.Value.int Go.IntKind.u32 i6] ∧
 (32 : Int) ≠ (0 : Int) ∧
 ((0 : Int) ≤ Go.IntKind.wrap Go.IntKind.u64 (Int.tmod a1 (32 : Int)) ∧ Go.IntKind.wrap Go.IntKind.u64 (Int.tmod a1 (32 : Int)) ≤ (↑(Go.IntKind.bits Go.IntKind.u64) : Int)) ∧
 (32 : Int) ≠ (0 : Int) ∧
 Go.SX.I64 (i4 + Go.IntKind.wrap Go.IntKind.i64 (Int.tdiv a1 (32 : Int))) ∧
 ((0 : Int) ≤ i4 + Go.IntKind.wrap Go.IntKind.i64 (Int.tdiv a1 (32 : Int)) ∧ i4 + Go.IntKind.wrap Go.IntKind.i64 (Int.tdiv a1 (32 : Int)) < (↑(List.length l3) : Int)) ∧
 ∃ (i7 : Int),
 Go.SX.OwnAt l3 (Int.toNat (i4 + Go.IntKind.wrap Go.IntKind.i64 (Int.tdiv a1 (32 : Int)))) (0 : Nat) [Go.Value.int Go.IntKind.u32 i7] ∧
 ((0 : Int) ≤ i4 + Go.IntKind.wrap Go.IntKind.i64 (Int.tdiv a1 (32 : Int)) ∧ i4 + Go.IntKind.wrap Go.IntKind.i64 (Int.tdiv a1 (32 : Int)) < (↑(List.length l3) : Int)) ∧
 Int.toNat (i4 + Go.IntKind.wrap Go.IntKind.i64 (Int.tdiv a1 (32 : Int))) < List.length l3 ∧
 (32 : Int) ≠ (0 : Int) ∧
 Go.SX.I64 (i4 + Go.IntKind.wrap Go.IntKind.i64 (Int.tdiv a1 (32 : Int))) ∧
 Go.SX.I64 (i4 + Go.IntKind.wrap Go.IntKind.i64 (Int.tdiv a1 (32 : Int)) + (1 : Int)) ∧
 ((0 : Int) ≤ i4 + Go.IntKind.wrap Go.IntKind.i64 (Int.tdiv a1 (32 : Int)) + (1 : Int) ∧
 i4 + Go.IntKind.wrap Go.IntKind.i64 (Int.tdiv a1 (32 : Int)) + (1 : Int) <
 (↑(List.length
 (List.set l3 (Int.toNat (i4 + Go.IntKind.wrap Go.IntKind.i64 (Int.tdiv a1 (32 : Int))))
 [Go.Value.int Go.IntKind.u32 (Go.bits Go.BinOp.or Go.IntKind.u32 i7 (Go.IntKind.wrap Go.IntKind.u32 (Go.bits Go.BinOp.and Go.IntKind.u64 (Go.SX.ishl Go.IntKind.u64 (Go.IntKind.wrap Go.IntKind.u64 i6) (Int.toNat (Go.IntKind.wrap Go.IntKind.u64 (Int.tmod a1 (32 : Int))))) (4294967295 : Int))))])) :
 Int)) ∧
 ∃ (i8 : Int),
 Go.SX.OwnAt
 (List.set l3 (Int.toNat (i4 + Go.IntKind.wrap Go.IntKind.i64 (Int.tdiv a1 (32 : Int))))
 [Go.Value.int Go.IntKind.u32 (Go.bits Go.BinOp.or Go.IntKind.u32 i7 (Go.IntKind.wrap Go.IntKind.u32 (Go.bits Go.BinOp.and Go.IntKind.u64 (Go.SX.ishl Go.IntKind.u64 (Go.IntKind.wrap Go.IntKind.u64 i6) (Int.toNat (Go.IntKind.wrap Go.IntKind.u64 (Int.tmod a1 (32 : Int))))) (4294967295 : Int))))])
 (Int.toNat (i4 + Go.IntKind.wrap Go.IntKind.i64 (Int.tdiv a1 (32 : Int)) + (1 : Int))) (0 : Nat) [Go.Value.int Go.IntKind.u32 i8] ∧
 ((0 : Int) ≤ i4 + Go.IntKind.wrap Go.IntKind.i64 (Int.tdiv a1 (32 : Int)) + (1 : Int) ∧
 i4 + Go.IntKind.wrap Go.IntKind.i64 (Int.tdiv a1 (32 : Int)) + (1 : Int) <
 (↑(List.length
 (List.set l3 (Int.toNat (i4 + Go.IntKind.wrap Go.IntKind.i64 (Int.tdiv a1 (32 : Int))))
 [Go.Value.int Go.IntKind.u32 (Go.bits Go.BinOp.or Go.IntKind.u32 i7 (Go.IntKind.wrap Go.IntKind.u32 (Go.bits Go.BinOp.and Go.IntKind.u64 (Go.SX.ishl Go.IntKind.u64 (Go.IntKind.wrap Go.IntKind.u64 i6) (Int.toNat (Go.IntKind.wrap Go.IntKind.u64 (Int.tmod a1 (32 : Int))))) (4294967295 : Int))))])) :
 Int)) ∧
 Int.toNat (i4 + Go.IntKind.wrap Go.IntKind.i64 (Int.tdiv a1 (32 : Int)) + (1 : Int)) <
 List.length
 (List.set l3 (Int.toNat (i4 + Go.IntKind.wrap Go.IntKind.i64 (Int.tdiv a1 (32 : Int))))
 [Go.Value.int Go.IntKind.u32 (Go.bits Go.BinOp.or Go.IntKind.u32 i7 (Go.IntKind.wrap Go.IntKind.u32 (Go.bits Go.BinOp.and Go.IntKind.u64 (Go.SX.ishl Go.IntKind.u64 (Go.IntKind.wrap Go.IntKind.u64 i6) (Int.toNat (Go.IntKind.wrap Go.IntKind.u64 (Int.tmod a1 (32 : Int))))) (4294967295 : Int))))]) ∧
 Go.SX.I64 (i4 + (1 : Int)) ∧
 F1
 [Go.SX.PL.val (Go.Value.int Go.IntKind.i64 (i4 + (1 : Int))),
 Go.SX.PL.row
 (List.set
 (List.set l3 (Int.toNat (i4 + Go.IntKind.wrap Go.IntKind.i64 (Int.tdiv a1 (32 : Int))))
 [Go.Value.int Go.IntKind.u32 (Go.bits Go.BinOp.or Go.IntKind.u32 i7 (Go.IntKind.wrap Go.IntKind.u32 (Go.bits Go.BinOp.and Go.IntKind.u64 (Go.SX.ishl Go.IntKind.u64 (Go.IntKind.wrap Go.IntKind.u64 i6) (Int.toNat (Go.IntKind.wrap Go.IntKind.u64 (Int.tmod a1 (32 : Int))))) (4294967295 : Int))))])
 (Int.toNat (i4 + Go.IntKind.wrap Go.IntKind.i64 (Int.tdiv a1 (32 : Int)) + (1 : Int)))
 [Go.Value.int Go.IntKind.u32 (Go.bits Go.BinOp.or Go.IntKind.u32 i8 (Go.IntKind.wrap Go.IntKind.u32 (Go.SX.ishr (Go.SX.ishl Go.IntKind.u64 (Go.IntKind.wrap Go.IntKind.u64 i6) (Int.toNat (Go.IntKind.wrap Go.IntKind.u64 (Int.tmod a1 (32 : Int))))) (32 : Nat))))])]
 W5 ∧
 F2
 [Go.SX.PL.val (Go.Value.int Go.IntKind.i64 (i4 + (1 : Int))),
 Go.SX.PL.row
 (List.set
 (List.set l3 (Int.toNat (i4 + Go.IntKind.wrap Go.IntKind.i64 (Int.tdiv a1 (32 : Int))))
 [Go.Value.int Go.IntKind.u32 (Go.bits Go.BinOp.or Go.IntKind.u32 i7 (Go.IntKind.wrap Go.IntKind.u32 (Go.bits Go.BinOp.and Go.IntKind.u64 (Go.SX.ishl Go.IntKind.u64 (Go.IntKind.wrap Go.IntKind.u64 i6) (Int.toNat (Go.IntKind.wrap Go.IntKind.u64 (Int.tmod a1 (32 : Int))))) (4294967295 : Int))))])
 (Int.toNat (i4 + Go.IntKind.wrap Go.IntKind.i64 (Int.tdiv a1 (32 : Int)) + (1 : Int)))
 [Go.Value.int Go.IntKind.u32 (Go.bits Go.BinOp.or Go.IntKind.u32 i8 (Go.IntKind.wrap Go.IntKind.u32 (Go.SX.ishr (Go.SX.ishl Go.IntKind.u64 (Go.IntKind.wrap Go.IntKind.u64 i6) (Int.toNat (Go.IntKind.wrap Go.IntKind.u64 (Int.tmod a1 (32 : Int))))) (32 : Nat))))])]
 W5 <
 F2 [Go.SX.PL.val (Go.Value.int Go.IntKind.i64 i4), Go.SX.PL.row l3] W5) ∧
 (¬i4 < (↑a0.2 : Int) →
 ∀ (s9 : Go.SX.Sl) (W10 : Go.SX.PW),
 Go.SX.Ext W5 W10 →
 Go.SX.Own W10 (106 : Nat) (1 : Nat) s9 l3 →
 (∀ (n11 : Nat), Go.Value.ownBlock (Go.SX.Sl.v s9) = Option.some n11 → Array.size (Go.SX.PW.w W0).1 ≤ n11 ∧ (n11 < Array.size (Go.SX.PW.w W5).1 → W5.2 n11)) →
 Go.SX.callN Go.Proofs.Try.prog W0 M (72 : Nat) [Go.SX.Sl.v s9] W10 fun (v12 : Go.Value) (W13 : Go.SX.PW) => ∃ (s14 : Go.SX.Sl), v12 = Go.SX.Sl.v s14 ∧ ∀ (W15 : Go.SX.PW), Go.SX.Ext W13 W15 → Post (Go.SX.Sl.v s14) W15)
theorem callref1_Shl (W0 : Go.SX.PW) (M : Nat → Prop) (a0 : Go.SX.Sl) (a1 : Int) (Post : Go.Value → Go.SX.PW → Prop) (h : Rref1_Shl W0 M a0 a1 Post) : Go.SX.PCallsM Go.Proofs.Try.prog 84 [Go.SX.Sl.v a0, Go.Value.int Go.IntKind.i64 a1] W0 M Post :=
  Go.SX.fn_sound rfl tt_ok tt_in Go.Proofs.Try.func84 (cuts := []) rfl rfl (Nat.le_of_ble_eq_true rfl) (Eq.mpr (by kernel_rfl) h)
def Rref1_DivNat (W0 : Go.SX.PW) (M : Nat → Prop) (a0 : Go.SX.Sl) (a1 : Go.SX.Sl) (Post : Go.Value → Go.SX.PW → Prop) : Prop :=
 Go.SX.callN Go.Proofs.Try.prog W0 M (83 : Nat) [Go.SX.Sl.v a0] W0 fun (v1 : Go.Value) (W2 : Go.SX.PW) =>
 ∃ (i3 : Int),
 v1 = Go.Value.int Go.IntKind.i64 i3 ∧
 Go.SX.callN Go.Proofs.Try.prog W0 M (83 : Nat) [Go.SX.Sl.v a1] W2 fun (v4 : Go.Value) (W5 : Go.SX.PW) =>
 ∃ (i6 : Int),
 v4 = Go.Value.int Go.IntKind.i64 i6 ∧
 Go.SX.I64 (i3 - i6) ∧
 ∃ (F7 : List Go.SX.PL → Go.SX.PW → Prop),
 ∃ (F8 : List Go.SX.PL → Go.SX.PW → Nat),
 F7 [Go.SX.PL.val (Go.SX.Sl.v a0), Go.SX.PL.val (Go.Value.slice Option.none (0 : Nat) (0 : Nat)), Go.SX.PL.val (Go.Value.int Go.IntKind.i64 (i3 - i6))] W5 ∧
 ∀ (s9 s10 : Go.SX.Sl) (i11 : Int) (W12 : Go.SX.PW),
 F7 [Go.SX.PL.val (Go.SX.Sl.v s9), Go.SX.PL.val (Go.SX.Sl.v s10), Go.SX.PL.val (Go.Value.int Go.IntKind.i64 i11)] W12 →
 ((0 : Int) ≤ i11 →
 Go.SX.callN Go.Proofs.Try.prog W0 M (84 : Nat) [Go.SX.Sl.v a1, Go.Value.int Go.IntKind.i64 i11] W12 fun (v13 : Go.Value) (W14 : Go.SX.PW) =>
 ∃ (s15 : Go.SX.Sl),
 v13 = Go.SX.Sl.v s15 ∧
 Go.SX.callN Go.Proofs.Try.prog W0 M (56 : Nat) [Go.SX.Sl.v s15, Go.SX.Sl.v s9] W14 fun (v16 : Go.Value) (W17 : Go.SX.PW) =>
 ∃ (i18 : Int),
 v16 = Go.Value.int Go.IntKind.i64 i18 ∧
 (i18 ≤ (0 : Int) →
 Go.SX.callN Go.Proofs.Try.prog W0 M (85 : Nat) [Go.SX.Sl.v s9, Go.SX.Sl.v s15] W17 fun (v19 : Go.Value) (W20 : Go.SX.PW) =>
 ∃ (s21 : Go.SX.Sl),
 v19 = Go.SX.Sl.v s21 ∧
 Go.SX.callN Go.Proofs.Try.prog W0 M (54 : Nat) [Go.Value.int Go.IntKind.u64 (1 : Int)] W20 fun (v22 : Go.Value) (W23 : Go.SX.PW) =>
 ∃ (s24 : Go.SX.Sl),
 v22 = Go.SX.Sl.v s24 ∧
 Go.SX.callN Go.Proofs.Try.prog W0 M (84 : Nat) [Go.SX.Sl.v s24, Go.Value.int Go.IntKind.i64 i11] W23 fun (v25 : Go.Value) (W26 : Go.SX.PW) =>
 ∃ (s27 : Go.SX.Sl),
 v25 = Go.SX.Sl.v s27 ∧
 Go.SX.callN Go.Proofs.Try.prog W0 M (86 : Nat) [Go.SX.Sl.v s10, Go.SX.Sl.v s27] W26 fun (v28 : Go.Value) (W29 : Go.SX.PW) =>
 ∃ (s30 : Go.SX.Sl),
 v28 = Go.SX.Sl.v s30 ∧
 Go.SX.I64 (i11 - (1 : Int)) ∧
 F7 [Go.SX.PL.val (Go.SX.Sl.v s21), Go.SX.PL.val (Go.SX.Sl.v s30), Go.SX.PL.val (Go.Value.int Go.IntKind.i64 (i11 - (1 : Int)))] W29 ∧
 F8 [Go.SX.PL.val (Go.SX.Sl.v s21), Go.SX.PL.val (Go.SX.Sl.v s30), Go.SX.PL.val (Go.Value.int Go.IntKind.i64 (i11 - (1 : Int)))] W29 < F8 [Go.SX.PL.val (Go.SX.Sl.v s9), Go.SX.PL.val (Go.SX.Sl.v s10), Go.SX.PL.val (Go.Value.int Go.IntKind.i64 i11)] W12) ∧
 (¬i18 ≤ (0 : Int) →
 Go.SX.I64 (i11 - (1 : Int)) ∧
 F7 [Go.SX.PL.val (Go.SX.Sl.v s9), Go.SX.PL.val (Go.SX.Sl.v s10), Go.SX.PL.val (Go.Value.int Go.IntKind.i64 (i11 - (1 : Int)))] W17 ∧
 F8 [Go.SX.PL.val (Go.SX.Sl.v s9), Go.SX.PL.val (Go.SX.Sl.v s10), Go.SX.PL.val (Go.Value.int Go.IntKind.i64 (i11 - (1 : Int)))] W17 < F8 [Go.SX.PL.val (Go.SX.Sl.v s9), Go.SX.PL.val (Go.SX.Sl.v s10), Go.SX.PL.val (Go.Value.int Go.IntKind.i64 i11)] W12)) ∧
 (¬(0 : Int) ≤ i11 → ∀ (W31 : Go.SX.PW), Go.SX.Ext W12 W31 → Post (Go.Value.tuple { toList := [Go.SX.Sl.v s10, Go.SX.Sl.v s9] }) W31)
theorem callref1_DivNat (W0 : Go.SX.PW) (M : Nat → Prop) (a0 : Go.SX.Sl) (a1 : Go.SX.Sl) (Post : Go.Value → Go.SX.PW → Prop) (h : Rref1_DivNat W0 M a0 a1 Post) : Go.SX.PCallsM Go.Proofs.Try.prog 73 [Go.SX.Sl.v a0, Go.SX.Sl.v a1] W0 M Post :=
  Go.SX.fn_sound rfl tt_ok tt_in Go.Proofs.Try.func73 (cuts := []) rfl rfl (Nat.le_of_ble_eq_true rfl) (Eq.mpr (by kernel_rfl) h)
def Rref1_Gcd (W0 : Go.SX.PW) (M : Nat → Prop) (a0 : Go.SX.Sl) (a1 : Go.SX.Sl) (Post : Go.Value → Go.SX.PW → Prop) : Prop :=
 ∃ (F1 : List Go.SX.PL → Go.SX.PW → Prop),
 ∃ (F2 : List Go.SX.PL → Go.SX.PW → Nat),
 F1 [Go.SX.PL.val (Go.SX.Sl.v a0), Go.SX.PL.val (Go.SX.Sl.v a1)] W0 ∧
 ∀ (s3 s4 : Go.SX.Sl) (W5 : Go.SX.PW),
 F1 [Go.SX.PL.val (Go.SX.Sl.v s3), Go.SX.PL.val (Go.SX.Sl.v s4)] W5 →
 ((0 : Int) < (↑s4.2 : Int) →
 Go.SX.callN Go.Proofs.Try.prog W0 M (73 : Nat) [Go.SX.Sl.v s3, Go.SX.Sl.v s4] W5 fun (v6 : Go.Value) (W7 : Go.SX.PW) =>
 ∃ (s8 : Go.SX.Sl), ∃ (s9 : Go.SX.Sl), v6 = Go.Value.tuple { toList := [Go.SX.Sl.v s8, Go.SX.Sl.v s9] } ∧ F1 [Go.SX.PL.val (Go.SX.Sl.v s4), Go.SX.PL.val (Go.SX.Sl.v s9)] W7 ∧ F2 [Go.SX.PL.val (Go.SX.Sl.v s4), Go.SX.PL.val (Go.SX.Sl.v s9)] W7 < F2 [Go.SX.PL.val (Go.SX.Sl.v s3), Go.SX.PL.val (Go.SX.Sl.v s4)] W5) ∧
 (¬(0 : Int) < (↑s4.2 : Int) → ∀ (W10 : Go.SX.PW), Go.SX.Ext W5 W10 → Post (Go.SX.Sl.v s3) W10)
theorem callref1_Gcd (W0 : Go.SX.PW) (M : Nat → Prop) (a0 : Go.SX.Sl) (a1 : Go.SX.Sl) (Post : Go.Value → Go.SX.PW → Prop) (h : Rref1_Gcd W0 M a0 a1 Post) : Go.SX.PCallsM Go.Proofs.Try.prog 57 [Go.SX.Sl.v a0, Go.SX.Sl.v a1] W0 M Post :=
  Go.SX.fn_sound rfl tt_ok tt_in Go.Proofs.Try.func57 (cuts := []) rfl rfl (Nat.le_of_ble_eq_true rfl) (Eq.mpr (by kernel_rfl) h)
def Rref1_NatParse (W0 : Go.SX.PW) (M : Nat → Prop) (a0 : ByteArray) (Post : Go.Value → Go.SX.PW → Prop) : Prop :=
 ∃ (F1 : List Go.SX.PL → Go.SX.PW → Prop),
 (((↑(ByteArray.size a0) : Int) = (0 : Int) →
 (Bool.true = Bool.true → (Bool.true = Bool.true → ∀ (W2 : Go.SX.PW), Go.SX.Ext W0 W2 → Post (Go.Value.tuple { toList := [Go.Value.slice Option.none (0 : Nat) (0 : Nat), Go.Value.bool Bool.false] }) W2) ∧ (Bool.true = Bool.false → F1 [] W0)) ∧
 (Bool.true = Bool.false →
 ((0 : Int) ≤ (0 : Int) ∧ (0 : Int) < (↑(ByteArray.size a0) : Int)) ∧
 (Go.SX.sbyte a0 (0 : Nat) = (48 : Int) → ((1 : Int) < (↑(ByteArray.size a0) : Int) → ∀ (W3 : Go.SX.PW), Go.SX.Ext W0 W3 → Post (Go.Value.tuple { toList := [Go.Value.slice Option.none (0 : Nat) (0 : Nat), Go.Value.bool Bool.false] }) W3) ∧ (¬(1 : Int) < (↑(ByteArray.size a0) : Int) → F1 [] W0)) ∧
 (¬Go.SX.sbyte a0 (0 : Nat) = (48 : Int) → (Bool.false = Bool.true → ∀ (W4 : Go.SX.PW), Go.SX.Ext W0 W4 → Post (Go.Value.tuple { toList := [Go.Value.slice Option.none (0 : Nat) (0 : Nat), Go.Value.bool Bool.false] }) W4) ∧ (Bool.false = Bool.false → F1 [] W0)))) ∧
 (¬(↑(ByteArray.size a0) : Int) = (0 : Int) →
 ((4000 : Int) < (↑(ByteArray.size a0) : Int) → (Bool.true = Bool.true → ∀ (W5 : Go.SX.PW), Go.SX.Ext W0 W5 → Post (Go.Value.tuple { toList := [Go.Value.slice Option.none (0 : Nat) (0 : Nat), Go.Value.bool Bool.false] }) W5) ∧ (Bool.true = Bool.false → F1 [] W0)) ∧
 (¬(4000 : Int) < (↑(ByteArray.size a0) : Int) →
 ((0 : Int) ≤ (0 : Int) ∧ (0 : Int) < (↑(ByteArray.size a0) : Int)) ∧
 (Go.SX.sbyte a0 (0 : Nat) = (48 : Int) → ((1 : Int) < (↑(ByteArray.size a0) : Int) → ∀ (W6 : Go.SX.PW), Go.SX.Ext W0 W6 → Post (Go.Value.tuple { toList := [Go.Value.slice Option.none (0 : Nat) (0 : Nat), Go.Value.bool Bool.false] }) W6) ∧ (¬(1 : Int) < (↑(ByteArray.size a0) : Int) → F1 [] W0)) ∧
 (¬Go.SX.sbyte a0 (0 : Nat) = (48 : Int) → (Bool.false = Bool.true → ∀ (W7 : Go.SX.PW), Go.SX.Ext W0 W7 → Post (Go.Value.tuple { toList := [Go.Value.slice Option.none (0 : Nat) (0 : Nat), Go.Value.bool Bool.false] }) W7) ∧ (Bool.false = Bool.false → F1 [] W0))))) ∧
 ∀ (W8 : Go.SX.PW),
 F1 [] W8 →
 ∃ (F9 : List Go.SX.PL → Go.SX.PW → Prop),
 ∃ (F10 : List Go.SX.PL → Go.SX.PW → Nat),
 F9 [Go.SX.PL.row [], Go.SX.PL.val (Go.Value.int Go.IntKind.i64 (0 : Int))] W8 ∧
 ∀ (l11 : List (List Go.Value)) (i12 : Int) (W13 : Go.SX.PW),
 F9 [Go.SX.PL.row l11, Go.SX.PL.val (Go.Value.int Go.IntKind.i64 i12)] W13 →
 (i12 < (↑(ByteArray.size a0) : Int) →
 ∃ (F14 : List Go.SX.PL → Go.SX.PW → Prop),
 (((0 : Int) ≤ i12 ∧ i12 < (↑(ByteArray.size a0) : Int)) ∧
 (Go.SX.sbyte a0 (Int.toNat i12) < (48 : Int) → (Bool.true = Bool.true → ∀ (W15 : Go.SX.PW), Go.SX.Ext W13 W15 → Post (Go.Value.tuple { toList := [Go.Value.slice Option.none (0 : Nat) (0 : Nat), Go.Value.bool Bool.false] }) W15) ∧ (Bool.true = Bool.false → False)) ∧
 (¬Go.SX.sbyte a0 (Int.toNat i12) < (48 : Int) →
 ((0 : Int) ≤ i12 ∧ i12 < (↑(ByteArray.size a0) : Int)) ∧
 ((57 : Int) < Go.SX.sbyte a0 (Int.toNat i12) → ∀ (W16 : Go.SX.PW), Go.SX.Ext W13 W16 → Post (Go.Value.tuple { toList := [Go.Value.slice Option.none (0 : Nat) (0 : Nat), Go.Value.bool Bool.false] }) W16) ∧
 (¬(57 : Int) < Go.SX.sbyte a0 (Int.toNat i12) → F14 [Go.SX.PL.val (Go.Value.string a0), Go.SX.PL.val (Go.Value.int Go.IntKind.i64 i12), Go.SX.PL.val (Go.Value.bool Bool.false), Go.SX.PL.val (Go.Value.string a0), Go.SX.PL.val (Go.Value.int Go.IntKind.i64 i12)] W13))) ∧
 ∀ (t17 : ByteArray) (i18 : Int) (b19 : Bool) (t20 : ByteArray) (i21 : Int) (W22 : Go.SX.PW),
 F14 [Go.SX.PL.val (Go.Value.string t17), Go.SX.PL.val (Go.Value.int Go.IntKind.i64 i18), Go.SX.PL.val (Go.Value.bool b19), Go.SX.PL.val (Go.Value.string t20), Go.SX.PL.val (Go.Value.int Go.IntKind.i64 i21)] W22 →
 ((0 : Int) ≤ i12 ∧ i12 < (↑(ByteArray.size a0) : Int)) ∧
 ∃ (F23 : List Go.SX.PL → Go.SX.PW → Prop),
 ∃ (F24 : List Go.SX.PL → Go.SX.PW → Nat),
 F23 [Go.SX.PL.val (Go.Value.int Go.IntKind.u64 (Go.IntKind.wrap Go.IntKind.u64 (Go.IntKind.wrap Go.IntKind.u8 (Go.SX.sbyte a0 (Int.toNat i12) - (48 : Int))))), Go.SX.PL.val (Go.Value.int Go.IntKind.i64 (0 : Int)), Go.SX.PL.row l11] W22 ∧
 ∀ (l25 : List (List Go.Value)) (i26 i27 : Int) (W28 : Go.SX.PW),
 F23 [Go.SX.PL.val (Go.Value.int Go.IntKind.u64 i26), Go.SX.PL.val (Go.Value.int Go.IntKind.i64 i27), Go.SX.PL.row l25] W28 →
 (i27 < (↑(List.length l25) : Int) →
 ((0 : Int) ≤ i27 ∧ i27 < (↑(List.length l25) : Int)) ∧
 ∃ (i29 : Int),
 Go.SX.OwnAt l25 (Int.toNat i27) (0 : Nat) [Go.Value.int Go.IntKind.u32 i29] ∧
 ((0 : Int) ≤ i27 ∧ i27 < (↑(List.length l25) : Int)) ∧
 Int.toNat i27 < List.length l25 ∧
 Go.SX.I64 (i27 + (1 : Int)) ∧
 F23
 [Go.SX.PL.val (Go.Value.int Go.IntKind.u64 (Go.SX.ishr (Go.IntKind.wrap Go.IntKind.u64 (i26 + Go.IntKind.wrap Go.IntKind.u64 (Go.IntKind.wrap Go.IntKind.u64 i29 * (10 : Int)))) (32 : Nat))), Go.SX.PL.val (Go.Value.int Go.IntKind.i64 (i27 + (1 : Int))),
 Go.SX.PL.row (List.set l25 (Int.toNat i27) [Go.Value.int Go.IntKind.u32 (Go.IntKind.wrap Go.IntKind.u32 (Go.bits Go.BinOp.and Go.IntKind.u64 (Go.IntKind.wrap Go.IntKind.u64 (i26 + Go.IntKind.wrap Go.IntKind.u64 (Go.IntKind.wrap Go.IntKind.u64 i29 * (10 : Int)))) (4294967295 : Int)))])]
 W28 ∧
 F24
 [Go.SX.PL.val (Go.Value.int Go.IntKind.u64 (Go.SX.ishr (Go.IntKind.wrap Go.IntKind.u64 (i26 + Go.IntKind.wrap Go.IntKind.u64 (Go.IntKind.wrap Go.IntKind.u64 i29 * (10 : Int)))) (32 : Nat))), Go.SX.PL.val (Go.Value.int Go.IntKind.i64 (i27 + (1 : Int))),
 Go.SX.PL.row (List.set l25 (Int.toNat i27) [Go.Value.int Go.IntKind.u32 (Go.IntKind.wrap Go.IntKind.u32 (Go.bits Go.BinOp.and Go.IntKind.u64 (Go.IntKind.wrap Go.IntKind.u64 (i26 + Go.IntKind.wrap Go.IntKind.u64 (Go.IntKind.wrap Go.IntKind.u64 i29 * (10 : Int)))) (4294967295 : Int)))])]
 W28 <
 F24 [Go.SX.PL.val (Go.Value.int Go.IntKind.u64 i26), Go.SX.PL.val (Go.Value.int Go.IntKind.i64 i27), Go.SX.PL.row l25] W28) ∧
 (¬i27 < (↑(List.length l25) : Int) →
 ((0 : Int) < i26 →
 (List.length l25 + List.length [[Go.Value.int Go.IntKind.u32 (Go.IntKind.wrap Go.IntKind.u32 i26)]]) * (4 : Nat) ≤ (140737488355328 : Nat) ∧
 Go.SX.I64 (i12 + (1 : Int)) ∧
 F9 [Go.SX.PL.row (l25 ++ [[Go.Value.int Go.IntKind.u32 (Go.IntKind.wrap Go.IntKind.u32 i26)]]), Go.SX.PL.val (Go.Value.int Go.IntKind.i64 (i12 + (1 : Int)))] W28 ∧
 F10 [Go.SX.PL.row (l25 ++ [[Go.Value.int Go.IntKind.u32 (Go.IntKind.wrap Go.IntKind.u32 i26)]]), Go.SX.PL.val (Go.Value.int Go.IntKind.i64 (i12 + (1 : Int)))] W28 < F10 [Go.SX.PL.row l11, Go.SX.PL.val (Go.Value.int Go.IntKind.i64 i12)] W13) ∧
 (¬(0 : Int) < i26 → Go.SX.I64 (i12 + (1 : Int)) ∧ F9 [Go.SX.PL.row l25, Go.SX.PL.val (Go.Value.int Go.IntKind.i64 (i12 + (1 : Int)))] W28 ∧ F10 [Go.SX.PL.row l25, Go.SX.PL.val (Go.Value.int Go.IntKind.i64 (i12 + (1 : Int)))] W28 < F10 [Go.SX.PL.row l11, Go.SX.PL.val (Go.Value.int Go.IntKind.i64 i12)] W13))) ∧
 (¬i12 < (↑(ByteArray.size a0) : Int) →
 ∀ (s30 : Go.SX.Sl) (W31 : Go.SX.PW),
 Go.SX.Ext W13 W31 → Go.SX.Own W31 (106 : Nat) (1 : Nat) s30 l11 → (∀ (n32 : Nat), Go.Value.ownBlock (Go.SX.Sl.v s30) = Option.some n32 → Array.size (Go.SX.PW.w W0).1 ≤ n32 ∧ (n32 < Array.size (Go.SX.PW.w W13).1 → W13.2 n32)) → ∀ (W33 : Go.SX.PW), Go.SX.Ext W31 W33 → Post (Go.Value.tuple { toList := [Go.SX.Sl.v s30, Go.Value.bool Bool.true] }) W33)
theorem callref1_NatParse (W0 : Go.SX.PW) (M : Nat → Prop) (a0 : ByteArray) (Post : Go.Value → Go.SX.PW → Prop) (h : Rref1_NatParse W0 M a0 Post) : Go.SX.PCallsM Go.Proofs.Try.prog 55 [Go.Value.string a0] W0 M Post :=
  Go.SX.fn_sound rfl tt_ok tt_in Go.Proofs.Try.func55 (cuts := [3, 9]) rfl rfl (Nat.le_of_ble_eq_true rfl) (Eq.mpr (by kernel_rfl) h)
def Rref1_IntParse (W0 : Go.SX.PW) (M : Nat → Prop) (a0 : ByteArray) (Post : Go.Value → Go.SX.PW → Prop) : Prop :=
 ((0 : Int) < (↑(ByteArray.size a0) : Int) →
 ((0 : Int) ≤ (0 : Int) ∧ (0 : Int) < (↑(ByteArray.size a0) : Int)) ∧
 (Go.SX.sbyte a0 (0 : Nat) = (45 : Int) →
 ((0 : Int) ≤ (1 : Int) ∧ (1 : Int) ≤ (↑(ByteArray.size a0) : Int) ∧ (↑(ByteArray.size a0) : Int) ≤ (↑(ByteArray.size a0) : Int)) ∧
 Go.SX.callN Go.Proofs.Try.prog W0 M (55 : Nat) [Go.Value.string (ByteArray.extract a0 (1 : Nat) (Int.toNat (↑(ByteArray.size a0) : Int)))] W0 fun (v1 : Go.Value) (W2 : Go.SX.PW) =>
 ∃ (s3 : Go.SX.Sl),
 ∃ (b4 : Bool),
 v1 = Go.Value.tuple { toList := [Go.SX.Sl.v s3, Go.Value.bool b4] } ∧
 ((!b4) = Bool.true →
 (Bool.true = Bool.true → ∀ (W5 : Go.SX.PW), Go.SX.Ext W2 W5 → Post (Go.Value.tuple { toList := [Go.Value.agg { toList := [Go.Value.bool Bool.false, Go.Value.slice Option.none (0 : Nat) (0 : Nat)] }, Go.Value.bool Bool.false] }) W5) ∧
 (Bool.true = Bool.false → ∀ (W6 : Go.SX.PW), Go.SX.Ext W2 W6 → Post (Go.Value.tuple { toList := [Go.Value.agg { toList := [Go.Value.bool Bool.true, Go.SX.Sl.v s3] }, Go.Value.bool Bool.true] }) W6)) ∧
 ((!b4) = Bool.false →
 ((↑s3.2 : Int) = (0 : Int) → ∀ (W7 : Go.SX.PW), Go.SX.Ext W2 W7 → Post (Go.Value.tuple { toList := [Go.Value.agg { toList := [Go.Value.bool Bool.false, Go.Value.slice Option.none (0 : Nat) (0 : Nat)] }, Go.Value.bool Bool.false] }) W7) ∧
 (¬(↑s3.2 : Int) = (0 : Int) → ∀ (W8 : Go.SX.PW), Go.SX.Ext W2 W8 → Post (Go.Value.tuple { toList := [Go.Value.agg { toList := [Go.Value.bool Bool.true, Go.SX.Sl.v s3] }, Go.Value.bool Bool.true] }) W8))) ∧
 (¬Go.SX.sbyte a0 (0 : Nat) = (45 : Int) →
 Go.SX.callN Go.Proofs.Try.prog W0 M (55 : Nat) [Go.Value.string a0] W0 fun (v9 : Go.Value) (W10 : Go.SX.PW) =>
 ∃ (s11 : Go.SX.Sl), ∃ (b12 : Bool), v9 = Go.Value.tuple { toList := [Go.SX.Sl.v s11, Go.Value.bool b12] } ∧ ∀ (W13 : Go.SX.PW), Go.SX.Ext W10 W13 → Post (Go.Value.tuple { toList := [Go.Value.agg { toList := [Go.Value.bool Bool.false, Go.SX.Sl.v s11] }, Go.Value.bool b12] }) W13)) ∧
 (¬(0 : Int) < (↑(ByteArray.size a0) : Int) →
 (Bool.false = Bool.true →
 ((0 : Int) ≤ (1 : Int) ∧ (1 : Int) ≤ (↑(ByteArray.size a0) : Int) ∧ (↑(ByteArray.size a0) : Int) ≤ (↑(ByteArray.size a0) : Int)) ∧
 Go.SX.callN Go.Proofs.Try.prog W0 M (55 : Nat) [Go.Value.string (ByteArray.extract a0 (1 : Nat) (Int.toNat (↑(ByteArray.size a0) : Int)))] W0 fun (v14 : Go.Value) (W15 : Go.SX.PW) =>
 ∃ (s16 : Go.SX.Sl),
 ∃ (b17 : Bool),
 v14 = Go.Value.tuple { toList := [Go.SX.Sl.v s16, Go.Value.bool b17] } ∧
 ((!b17) = Bool.true →
 (Bool.true = Bool.true → ∀ (W18 : Go.SX.PW), Go.SX.Ext W15 W18 → Post (Go.Value.tuple { toList := [Go.Value.agg { toList := [Go.Value.bool Bool.false, Go.Value.slice Option.none (0 : Nat) (0 : Nat)] }, Go.Value.bool Bool.false] }) W18) ∧
 (Bool.true = Bool.false → ∀ (W19 : Go.SX.PW), Go.SX.Ext W15 W19 → Post (Go.Value.tuple { toList := [Go.Value.agg { toList := [Go.Value.bool Bool.true, Go.SX.Sl.v s16] }, Go.Value.bool Bool.true] }) W19)) ∧
 ((!b17) = Bool.false →
 ((↑s16.2 : Int) = (0 : Int) → ∀ (W20 : Go.SX.PW), Go.SX.Ext W15 W20 → Post (Go.Value.tuple { toList := [Go.Value.agg { toList := [Go.Value.bool Bool.false, Go.Value.slice Option.none (0 : Nat) (0 : Nat)] }, Go.Value.bool Bool.false] }) W20) ∧
 (¬(↑s16.2 : Int) = (0 : Int) → ∀ (W21 : Go.SX.PW), Go.SX.Ext W15 W21 → Post (Go.Value.tuple { toList := [Go.Value.agg { toList := [Go.Value.bool Bool.true, Go.SX.Sl.v s16] }, Go.Value.bool Bool.true] }) W21))) ∧
 (Bool.false = Bool.false →
 Go.SX.callN Go.Proofs.Try.prog W0 M (55 : Nat) [Go.Value.string a0] W0 fun (v22 : Go.Value) (W23 : Go.SX.PW) =>
 ∃ (s24 : Go.SX.Sl), ∃ (b25 : Bool), v22 = Go.Value.tuple { toList := [Go.SX.Sl.v s24, Go.Value.bool b25] } ∧ ∀ (W26 : Go.SX.PW), Go.SX.Ext W23 W26 → Post (Go.Value.tuple { toList := [Go.Value.agg { toList := [Go.Value.bool Bool.false, Go.SX.Sl.v s24] }, Go.Value.bool b25] }) W26))
theorem callref1_IntParse (W0 : Go.SX.PW) (M : Nat → Prop) (a0 : ByteArray) (Post : Go.Value → Go.SX.PW → Prop) (h : Rref1_IntParse W0 M a0 Post) : Go.SX.PCallsM Go.Proofs.Try.prog 53 [Go.Value.string a0] W0 M Post :=
  Go.SX.fn_sound rfl tt_ok tt_in Go.Proofs.Try.func53 (cuts := []) rfl rfl (Nat.le_of_ble_eq_true rfl) (Eq.mpr (by kernel_rfl) h)
def Rref1_RatParse (W0 : Go.SX.PW) (M : Nat → Prop) (a0 : ByteArray) (Post : Go.Value → Go.SX.PW → Prop) : Prop :=
 ∃ (F1 : List Go.SX.PL → Go.SX.PW → Prop),
 (∃ (F2 : List Go.SX.PL → Go.SX.PW → Prop),
 ∃ (F3 : List Go.SX.PL → Go.SX.PW → Nat),
 F2 [Go.SX.PL.val (Go.Value.int Go.IntKind.i64 (-1 : Int)), Go.SX.PL.val (Go.Value.int Go.IntKind.i64 (0 : Int))] W0 ∧
 ∀ (i4 i5 : Int) (W6 : Go.SX.PW),
 F2 [Go.SX.PL.val (Go.Value.int Go.IntKind.i64 i4), Go.SX.PL.val (Go.Value.int Go.IntKind.i64 i5)] W6 →
 (i5 < (↑(ByteArray.size a0) : Int) →
 (i4 < (0 : Int) →
 ((0 : Int) ≤ i5 ∧ i5 < (↑(ByteArray.size a0) : Int)) ∧
 (Go.SX.sbyte a0 (Int.toNat i5) = (47 : Int) →
 Go.SX.I64 (i5 + (1 : Int)) ∧ F2 [Go.SX.PL.val (Go.Value.int Go.IntKind.i64 i5), Go.SX.PL.val (Go.Value.int Go.IntKind.i64 (i5 + (1 : Int)))] W6 ∧ F3 [Go.SX.PL.val (Go.Value.int Go.IntKind.i64 i5), Go.SX.PL.val (Go.Value.int Go.IntKind.i64 (i5 + (1 : Int)))] W6 < F3 [Go.SX.PL.val (Go.Value.int Go.IntKind.i64 i4), Go.SX.PL.val (Go.Value.int Go.IntKind.i64 i5)] W6) ∧
 (¬Go.SX.sbyte a0 (Int.toNat i5) = (47 : Int) →
 Go.SX.I64 (i5 + (1 : Int)) ∧ F2 [Go.SX.PL.val (Go.Value.int Go.IntKind.i64 i4), Go.SX.PL.val (Go.Value.int Go.IntKind.i64 (i5 + (1 : Int)))] W6 ∧ F3 [Go.SX.PL.val (Go.Value.int Go.IntKind.i64 i4), Go.SX.PL.val (Go.Value.int Go.IntKind.i64 (i5 + (1 : Int)))] W6 < F3 [Go.SX.PL.val (Go.Value.int Go.IntKind.i64 i4), Go.SX.PL.val (Go.Value.int Go.IntKind.i64 i5)] W6)) ∧
 (¬i4 < (0 : Int) → F1 [Go.SX.PL.val (Go.Value.int Go.IntKind.i64 i4)] W6)) ∧
 (¬i5 < (↑(ByteArray.size a0) : Int) →
 (Bool.false = Bool.true →
 ((0 : Int) ≤ i5 ∧ i5 < (↑(ByteArray.size a0) : Int)) ∧
 (Go.SX.sbyte a0 (Int.toNat i5) = (47 : Int) →
 Go.SX.I64 (i5 + (1 : Int)) ∧ F2 [Go.SX.PL.val (Go.Value.int Go.IntKind.i64 i5), Go.SX.PL.val (Go.Value.int Go.IntKind.i64 (i5 + (1 : Int)))] W6 ∧ F3 [Go.SX.PL.val (Go.Value.int Go.IntKind.i64 i5), Go.SX.PL.val (Go.Value.int Go.IntKind.i64 (i5 + (1 : Int)))] W6 < F3 [Go.SX.PL.val (Go.Value.int Go.IntKind.i64 i4), Go.SX.PL.val (Go.Value.int Go.IntKind.i64 i5)] W6) ∧
 (¬Go.SX.sbyte a0 (Int.toNat i5) = (47 : Int) →
 Go.SX.I64 (i5 + (1 : Int)) ∧ F2 [Go.SX.PL.val (Go.Value.int Go.IntKind.i64 i4), Go.SX.PL.val (Go.Value.int Go.IntKind.i64 (i5 + (1 : Int)))] W6 ∧ F3 [Go.SX.PL.val (Go.Value.int Go.IntKind.i64 i4), Go.SX.PL.val (Go.Value.int Go.IntKind.i64 (i5 + (1 : Int)))] W6 < F3 [Go.SX.PL.val (Go.Value.int Go.IntKind.i64 i4), Go.SX.PL.val (Go.Value.int Go.IntKind.i64 i5)] W6)) ∧
 (Bool.false = Bool.false → F1 [Go.SX.PL.val (Go.Value.int Go.IntKind.i64 i4)] W6))) ∧
 ∀ (i7 : Int) (W8 : Go.SX.PW),
 F1 [Go.SX.PL.val (Go.Value.int Go.IntKind.i64 i7)] W8 →
 (i7 < (0 : Int) →
 Go.SX.callN Go.Proofs.Try.prog W0 M (53 : Nat) [Go.Value.string a0] W8 fun (v9 : Go.Value) (W10 : Go.SX.PW) =>
 ∃ (b11 : Bool),
 ∃ (s12 : Go.SX.Sl),
 ∃ (b13 : Bool),
 v9 = Go.Value.tuple { toList := [Go.Value.agg { toList := [Go.Value.bool b11, Go.SX.Sl.v s12] }, Go.Value.bool b13] } ∧
 Go.SX.callN Go.Proofs.Try.prog W0 M (54 : Nat) [Go.Value.int Go.IntKind.u64 (1 : Int)] W10 fun (v14 : Go.Value) (W15 : Go.SX.PW) => ∃ (s16 : Go.SX.Sl), v14 = Go.SX.Sl.v s16 ∧ ∀ (W17 : Go.SX.PW), Go.SX.Ext W15 W17 → Post (Go.Value.tuple { toList := [Go.Value.agg { toList := [Go.Value.bool b11, Go.SX.Sl.v s12, Go.SX.Sl.v s16] }, Go.Value.bool b13] }) W17) ∧
 (¬i7 < (0 : Int) →
 ((0 : Int) ≤ (0 : Int) ∧ (0 : Int) ≤ i7 ∧ i7 ≤ (↑(ByteArray.size a0) : Int)) ∧
 Go.SX.callN Go.Proofs.Try.prog W0 M (53 : Nat) [Go.Value.string (ByteArray.extract a0 (0 : Nat) (Int.toNat i7))] W8 fun (v18 : Go.Value) (W19 : Go.SX.PW) =>
 ∃ (b20 : Bool),
 ∃ (s21 : Go.SX.Sl),
 ∃ (b22 : Bool),
 v18 = Go.Value.tuple { toList := [Go.Value.agg { toList := [Go.Value.bool b20, Go.SX.Sl.v s21] }, Go.Value.bool b22] } ∧
 Go.SX.I64 (i7 + (1 : Int)) ∧
 ((0 : Int) ≤ i7 + (1 : Int) ∧ i7 + (1 : Int) ≤ (↑(ByteArray.size a0) : Int) ∧ (↑(ByteArray.size a0) : Int) ≤ (↑(ByteArray.size a0) : Int)) ∧
 Go.SX.callN Go.Proofs.Try.prog W0 M (55 : Nat) [Go.Value.string (ByteArray.extract a0 (Int.toNat (i7 + (1 : Int))) (Int.toNat (↑(ByteArray.size a0) : Int)))] W19 fun (v23 : Go.Value) (W24 : Go.SX.PW) =>
 ∃ (s25 : Go.SX.Sl),
 ∃ (b26 : Bool),
 v23 = Go.Value.tuple { toList := [Go.SX.Sl.v s25, Go.Value.bool b26] } ∧
 ∃ (F27 : List Go.SX.PL → Go.SX.PW → Prop),
 (((!b22) = Bool.true →
 (Bool.true = Bool.true →
 (Bool.true = Bool.true →
 (Bool.true = Bool.true → ∀ (W28 : Go.SX.PW), Go.SX.Ext W24 W28 → Post (Go.Value.tuple { toList := [Go.Value.agg { toList := [Go.Value.bool Bool.false, Go.Value.slice Option.none (0 : Nat) (0 : Nat), Go.Value.slice Option.none (0 : Nat) (0 : Nat)] }, Go.Value.bool Bool.false] }) W28) ∧
 (Bool.true = Bool.false → F27 [Go.SX.PL.cells [Go.Value.bool Bool.false, Go.Value.slice Option.none (0 : Nat) (0 : Nat), Go.Value.slice Option.none (0 : Nat) (0 : Nat)]] W24)) ∧
 (Bool.true = Bool.false →
 Go.SX.callN Go.Proofs.Try.prog W0 M (57 : Nat) [Go.SX.Sl.v s25, Go.SX.Sl.v s21] W24 fun (v29 : Go.Value) (W30 : Go.SX.PW) =>
 ∃ (s31 : Go.SX.Sl),
 v29 = Go.SX.Sl.v s31 ∧
 Go.SX.callN Go.Proofs.Try.prog W0 M (54 : Nat) [Go.Value.int Go.IntKind.u64 (1 : Int)] W30 fun (v32 : Go.Value) (W33 : Go.SX.PW) =>
 ∃ (s34 : Go.SX.Sl),
 v32 = Go.SX.Sl.v s34 ∧
 Go.SX.callN Go.Proofs.Try.prog W0 M (56 : Nat) [Go.SX.Sl.v s31, Go.SX.Sl.v s34] W33 fun (v35 : Go.Value) (W36 : Go.SX.PW) =>
 ∃ (i37 : Int),
 v35 = Go.Value.int Go.IntKind.i64 i37 ∧
 (i37 ≠ (0 : Int) → ∀ (W38 : Go.SX.PW), Go.SX.Ext W36 W38 → Post (Go.Value.tuple { toList := [Go.Value.agg { toList := [Go.Value.bool Bool.false, Go.Value.slice Option.none (0 : Nat) (0 : Nat), Go.Value.slice Option.none (0 : Nat) (0 : Nat)] }, Go.Value.bool Bool.false] }) W38) ∧
 (¬i37 ≠ (0 : Int) → F27 [Go.SX.PL.cells [Go.Value.bool Bool.false, Go.Value.slice Option.none (0 : Nat) (0 : Nat), Go.Value.slice Option.none (0 : Nat) (0 : Nat)]] W36))) ∧
 (Bool.true = Bool.false →
 Go.SX.callN Go.Proofs.Try.prog W0 M (54 : Nat) [Go.Value.int Go.IntKind.u64 (1 : Int)] W24 fun (v39 : Go.Value) (W40 : Go.SX.PW) =>
 ∃ (s41 : Go.SX.Sl),
 v39 = Go.SX.Sl.v s41 ∧
 Go.SX.callN Go.Proofs.Try.prog W0 M (56 : Nat) [Go.SX.Sl.v s25, Go.SX.Sl.v s41] W40 fun (v42 : Go.Value) (W43 : Go.SX.PW) =>
 ∃ (i44 : Int),
 v42 = Go.Value.int Go.IntKind.i64 i44 ∧
 (i44 ≤ (0 : Int) →
 (Bool.true = Bool.true → ∀ (W45 : Go.SX.PW), Go.SX.Ext W43 W45 → Post (Go.Value.tuple { toList := [Go.Value.agg { toList := [Go.Value.bool Bool.false, Go.Value.slice Option.none (0 : Nat) (0 : Nat), Go.Value.slice Option.none (0 : Nat) (0 : Nat)] }, Go.Value.bool Bool.false] }) W45) ∧
 (Bool.true = Bool.false → F27 [Go.SX.PL.cells [Go.Value.bool Bool.false, Go.Value.slice Option.none (0 : Nat) (0 : Nat), Go.Value.slice Option.none (0 : Nat) (0 : Nat)]] W43)) ∧
 (¬i44 ≤ (0 : Int) →
 Go.SX.callN Go.Proofs.Try.prog W0 M (57 : Nat) [Go.SX.Sl.v s25, Go.SX.Sl.v s21] W43 fun (v46 : Go.Value) (W47 : Go.SX.PW) =>
 ∃ (s48 : Go.SX.Sl),
 v46 = Go.SX.Sl.v s48 ∧
 Go.SX.callN Go.Proofs.Try.prog W0 M (54 : Nat) [Go.Value.int Go.IntKind.u64 (1 : Int)] W47 fun (v49 : Go.Value) (W50 : Go.SX.PW) =>
 ∃ (s51 : Go.SX.Sl),
 v49 = Go.SX.Sl.v s51 ∧
 Go.SX.callN Go.Proofs.Try.prog W0 M (56 : Nat) [Go.SX.Sl.v s48, Go.SX.Sl.v s51] W50 fun (v52 : Go.Value) (W53 : Go.SX.PW) =>
 ∃ (i54 : Int),
 v52 = Go.Value.int Go.IntKind.i64 i54 ∧
 (i54 ≠ (0 : Int) → ∀ (W55 : Go.SX.PW), Go.SX.Ext W53 W55 → Post (Go.Value.tuple { toList := [Go.Value.agg { toList := [Go.Value.bool Bool.false, Go.Value.slice Option.none (0 : Nat) (0 : Nat), Go.Value.slice Option.none (0 : Nat) (0 : Nat)] }, Go.Value.bool Bool.false] }) W55) ∧
 (¬i54 ≠ (0 : Int) → F27 [Go.SX.PL.cells [Go.Value.bool Bool.false, Go.Value.slice Option.none (0 : Nat) (0 : Nat), Go.Value.slice Option.none (0 : Nat) (0 : Nat)]] W53)))) ∧
 ((!b22) = Bool.false →
 ((!b26) = Bool.true →
 (Bool.true = Bool.true →
 (Bool.true = Bool.true → ∀ (W56 : Go.SX.PW), Go.SX.Ext W24 W56 → Post (Go.Value.tuple { toList := [Go.Value.agg { toList := [Go.Value.bool Bool.false, Go.Value.slice Option.none (0 : Nat) (0 : Nat), Go.Value.slice Option.none (0 : Nat) (0 : Nat)] }, Go.Value.bool Bool.false] }) W56) ∧
 (Bool.true = Bool.false → F27 [Go.SX.PL.cells [Go.Value.bool Bool.false, Go.Value.slice Option.none (0 : Nat) (0 : Nat), Go.Value.slice Option.none (0 : Nat) (0 : Nat)]] W24)) ∧
 (Bool.true = Bool.false →
 Go.SX.callN Go.Proofs.Try.prog W0 M (57 : Nat) [Go.SX.Sl.v s25, Go.SX.Sl.v s21] W24 fun (v57 : Go.Value) (W58 : Go.SX.PW) =>
 ∃ (s59 : Go.SX.Sl),
 v57 = Go.SX.Sl.v s59 ∧
 Go.SX.callN Go.Proofs.Try.prog W0 M (54 : Nat) [Go.Value.int Go.IntKind.u64 (1 : Int)] W58 fun (v60 : Go.Value) (W61 : Go.SX.PW) =>
 ∃ (s62 : Go.SX.Sl),
 v60 = Go.SX.Sl.v s62 ∧
 Go.SX.callN Go.Proofs.Try.prog W0 M (56 : Nat) [Go.SX.Sl.v s59, Go.SX.Sl.v s62] W61 fun (v63 : Go.Value) (W64 : Go.SX.PW) =>
 ∃ (i65 : Int),
 v63 = Go.Value.int Go.IntKind.i64 i65 ∧
 (i65 ≠ (0 : Int) → ∀ (W66 : Go.SX.PW), Go.SX.Ext W64 W66 → Post (Go.Value.tuple { toList := [Go.Value.agg { toList := [Go.Value.bool Bool.false, Go.Value.slice Option.none (0 : Nat) (0 : Nat), Go.Value.slice Option.none (0 : Nat) (0 : Nat)] }, Go.Value.bool Bool.false] }) W66) ∧
 (¬i65 ≠ (0 : Int) → F27 [Go.SX.PL.cells [Go.Value.bool Bool.false, Go.Value.slice Option.none (0 : Nat) (0 : Nat), Go.Value.slice Option.none (0 : Nat) (0 : Nat)]] W64))) ∧
 ((!b26) = Bool.false →
 Go.SX.callN Go.Proofs.Try.prog W0 M (54 : Nat) [Go.Value.int Go.IntKind.u64 (1 : Int)] W24 fun (v67 : Go.Value) (W68 : Go.SX.PW) =>
 ∃ (s69 : Go.SX.Sl),
 v67 = Go.SX.Sl.v s69 ∧
 Go.SX.callN Go.Proofs.Try.prog W0 M (56 : Nat) [Go.SX.Sl.v s25, Go.SX.Sl.v s69] W68 fun (v70 : Go.Value) (W71 : Go.SX.PW) =>
 ∃ (i72 : Int),
 v70 = Go.Value.int Go.IntKind.i64 i72 ∧
 (i72 ≤ (0 : Int) →
 (Bool.true = Bool.true → ∀ (W73 : Go.SX.PW), Go.SX.Ext W71 W73 → Post (Go.Value.tuple { toList := [Go.Value.agg { toList := [Go.Value.bool Bool.false, Go.Value.slice Option.none (0 : Nat) (0 : Nat), Go.Value.slice Option.none (0 : Nat) (0 : Nat)] }, Go.Value.bool Bool.false] }) W73) ∧
 (Bool.true = Bool.false → F27 [Go.SX.PL.cells [Go.Value.bool Bool.false, Go.Value.slice Option.none (0 : Nat) (0 : Nat), Go.Value.slice Option.none (0 : Nat) (0 : Nat)]] W71)) ∧
 (¬i72 ≤ (0 : Int) →
 Go.SX.callN Go.Proofs.Try.prog W0 M (57 : Nat) [Go.SX.Sl.v s25, Go.SX.Sl.v s21] W71 fun (v74 : Go.Value) (W75 : Go.SX.PW) =>
 ∃ (s76 : Go.SX.Sl),
 v74 = Go.SX.Sl.v s76 ∧
 Go.SX.callN Go.Proofs.Try.prog W0 M (54 : Nat) [Go.Value.int Go.IntKind.u64 (1 : Int)] W75 fun (v77 : Go.Value) (W78 : Go.SX.PW) =>
 ∃ (s79 : Go.SX.Sl),
 v77 = Go.SX.Sl.v s79 ∧
 Go.SX.callN Go.Proofs.Try.prog W0 M (56 : Nat) [Go.SX.Sl.v s76, Go.SX.Sl.v s79] W78 fun (v80 : Go.Value) (W81 : Go.SX.PW) =>
 ∃ (i82 : Int),
 v80 = Go.Value.int Go.IntKind.i64 i82 ∧
 (i82 ≠ (0 : Int) → ∀ (W83 : Go.SX.PW), Go.SX.Ext W81 W83 → Post (Go.Value.tuple { toList := [Go.Value.agg { toList := [Go.Value.bool Bool.false, Go.Value.slice Option.none (0 : Nat) (0 : Nat), Go.Value.slice Option.none (0 : Nat) (0 : Nat)] }, Go.Value.bool Bool.false] }) W83) ∧
 (¬i82 ≠ (0 : Int) → F27 [Go.SX.PL.cells [Go.Value.bool Bool.false, Go.Value.slice Option.none (0 : Nat) (0 : Nat), Go.Value.slice Option.none (0 : Nat) (0 : Nat)]] W81))))) ∧
 ∀ (b84 : Bool) (s85 s86 : Go.SX.Sl) (W87 : Go.SX.PW), F27 [Go.SX.PL.cells [Go.Value.bool b84, Go.SX.Sl.v s85, Go.SX.Sl.v s86]] W87 → ∀ (W88 : Go.SX.PW), Go.SX.Ext W87 W88 → Post (Go.Value.tuple { toList := [Go.Value.agg { toList := [Go.Value.bool b20, Go.SX.Sl.v s21, Go.SX.Sl.v s25] }, Go.Value.bool Bool.true] }) W88)
theorem callref1_RatParse (W0 : Go.SX.PW) (M : Nat → Prop) (a0 : ByteArray) (Post : Go.Value → Go.SX.PW → Prop) (h : Rref1_RatParse W0 M a0 Post) : Go.SX.PCallsM Go.Proofs.Try.prog 35 [Go.Value.string a0] W0 M Post :=
  Go.SX.fn_sound rfl tt_ok tt_in Go.Proofs.Try.func35 (cuts := [7, 14]) rfl rfl (Nat.le_of_ble_eq_true rfl) (Eq.mpr (by kernel_rfl) h)
def Rlaw3_Num (W0 : Go.SX.PW) (M : Nat → Prop) (a0 : ByteArray) (Post : Go.Value → Go.SX.PW → Prop) : Prop :=
 Go.SX.callN Go.Proofs.Try.prog W0 M (35 : Nat) [Go.Value.string a0] W0 fun (v1 : Go.Value) (W2 : Go.SX.PW) =>
 ∃ (b3 : Bool),
 ∃ (s4 : Go.SX.Sl),
 ∃ (s5 : Go.SX.Sl),
 ∃ (b6 : Bool),
 v1 = Go.Value.tuple { toList := [Go.Value.agg { toList := [Go.Value.bool b3, Go.SX.Sl.v s4, Go.SX.Sl.v s5] }, Go.Value.bool b6] } ∧
 ((!b6) = Bool.true →
 (Bool.true = Bool.true →
 ∀ (W7 : Go.SX.PW),
 Go.SX.Ext W2 W7 →
 Post (Go.Value.tuple { toList := [Go.Value.agg { toList := [Go.Value.slice Option.none (0 : Nat) (0 : Nat), Go.Value.bool Bool.false, Go.Value.slice Option.none (0 : Nat) (0 : Nat)] }, Go.Value.agg { toList := [Go.Value.bool Bool.false, Go.Value.slice Option.none (0 : Nat) (0 : Nat), Go.Value.slice Option.none (0 : Nat) (0 : Nat)] }, Go.Value.bool Bool.false] }) W7) ∧
 (Bool.true = Bool.false →
 Go.SX.callN Go.Proofs.Try.prog W0 M (36 : Nat) [Go.Value.string a0] W2 fun (v8 : Go.Value) (W9 : Go.SX.PW) =>
 ∃ (s10 : Go.SX.Sl),
 ∃ (b11 : Bool),
 ∃ (s12 : Go.SX.Sl),
 ∃ (i13 : Int),
 v8 = Go.Value.tuple { toList := [Go.Value.agg { toList := [Go.SX.Sl.v s10, Go.Value.bool b11, Go.SX.Sl.v s12] }, Go.Value.int Go.IntKind.i64 i13] } ∧
 ∀ (W14 : Go.SX.PW), Go.SX.Ext W9 W14 → Post (Go.Value.tuple { toList := [Go.Value.agg { toList := [Go.SX.Sl.v s10, Go.Value.bool b11, Go.SX.Sl.v s12] }, Go.Value.agg { toList := [Go.Value.bool b3, Go.SX.Sl.v s4, Go.SX.Sl.v s5] }, Go.Value.bool Bool.true] }) W14)) ∧
 ((!b6) = Bool.false →
 ((100 : Int) < (↑(ByteArray.size a0) : Int) →
 ∀ (W15 : Go.SX.PW),
 Go.SX.Ext W2 W15 →
 Post (Go.Value.tuple { toList := [Go.Value.agg { toList := [Go.Value.slice Option.none (0 : Nat) (0 : Nat), Go.Value.bool Bool.false, Go.Value.slice Option.none (0 : Nat) (0 : Nat)] }, Go.Value.agg { toList := [Go.Value.bool Bool.false, Go.Value.slice Option.none (0 : Nat) (0 : Nat), Go.Value.slice Option.none (0 : Nat) (0 : Nat)] }, Go.Value.bool Bool.false] }) W15) ∧
 (¬(100 : Int) < (↑(ByteArray.size a0) : Int) →
 Go.SX.callN Go.Proofs.Try.prog W0 M (36 : Nat) [Go.Value.string a0] W2 fun (v16 : Go.Value) (W17 : Go.SX.PW) =>
 ∃ (s18 : Go.SX.Sl),
 ∃ (b19 : Bool),
 ∃ (s20 : Go.SX.Sl),
 ∃ (i21 : Int),
 v16 = Go.Value.tuple { toList := [Go.Value.agg { toList := [Go.SX.Sl.v s18, Go.Value.bool b19, Go.SX.Sl.v s20] }, Go.Value.int Go.IntKind.i64 i21] } ∧
 ∀ (W22 : Go.SX.PW), Go.SX.Ext W17 W22 → Post (Go.Value.tuple { toList := [Go.Value.agg { toList := [Go.SX.Sl.v s18, Go.Value.bool b19, Go.SX.Sl.v s20] }, Go.Value.agg { toList := [Go.Value.bool b3, Go.SX.Sl.v s4, Go.SX.Sl.v s5] }, Go.Value.bool Bool.true] }) W22))
theorem calllaw3_Num (W0 : Go.SX.PW) (M : Nat → Prop) (a0 : ByteArray) (Post : Go.Value → Go.SX.PW → Prop) (h : Rlaw3_Num W0 M a0 Post) : Go.SX.PCallsM Go.Proofs.Try.prog 16 [Go.Value.string a0] W0 M Post :=
  Go.SX.fn_sound rfl tt_ok tt_in Go.Proofs.Try.func16 (cuts := []) rfl rfl (Nat.le_of_ble_eq_true rfl) (Eq.mpr (by kernel_rfl) h)
end Go.Proofs.Ytcffcndpefaalaa
