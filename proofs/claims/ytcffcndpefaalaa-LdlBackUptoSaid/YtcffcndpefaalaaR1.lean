/- R1 -/
import Derived.Test.YtcffcndpefaalaaTt
set_option linter.unusedVariables false
set_option linter.unusedSimpArgs false
set_option maxRecDepth 100000
set_option linter.unusedVariables false
namespace Go.Proofs.Ytcffcndpefaalaa
def Rnat_cut (W0 : Go.SX.PW) (M : Nat → Prop) (a0 : Go.SX.Sl) (Post : Go.Value → Go.SX.PW → Prop) : Prop :=
 ∃ (F1 : List Go.SX.PL → Go.SX.PW → Prop),
 ∃ (F2 : List Go.SX.PL → Go.SX.PW → Nat),
 F1 [Go.SX.PL.val (Go.SX.Sl.v a0)] W0 ∧
 ∀ (s3 : Go.SX.Sl) (W4 : Go.SX.PW),
 F1 [Go.SX.PL.val (Go.SX.Sl.v s3)] W4 →
 ((0 : Int) < (↑s3.2 : Int) →
 Go.SX.I64 ((↑s3.2 : Int) - (1 : Int)) ∧
 Go.SX.inB s3 ((↑s3.2 : Int) - (1 : Int)) ∧
 ∃ (i5 : Int),
 Go.SX.ElemAt W4 s3 (1 : Nat) (Int.toNat ((↑s3.2 : Int) - (1 : Int))) (0 : Nat) [Go.Value.int Go.IntKind.u32 i5] ∧
 (i5 = (0 : Int) →
 Go.SX.I64 ((↑s3.2 : Int) - (1 : Int)) ∧
 ((0 : Int) ≤ (0 : Int) ∧ (0 : Int) ≤ (↑s3.2 : Int) - (1 : Int) ∧ (↑s3.2 : Int) - (1 : Int) ≤ (↑s3.3 : Int)) ∧
 F1 [Go.SX.PL.val (Go.SX.Sl.v (Go.SX.Sl.cut { A := Go.SX.Sl.A s3, n := Go.SX.Sl.n s3, c := Go.SX.Sl.c s3 } (Go.SX.TyI.size Go.Proofs.Ytcffcndpefaalaa.ty106) (Int.toNat (0 : Int)) (Int.toNat ((↑s3.2 : Int) - (1 : Int)))))] W4 ∧
 F2 [Go.SX.PL.val (Go.SX.Sl.v (Go.SX.Sl.cut { A := Go.SX.Sl.A s3, n := Go.SX.Sl.n s3, c := Go.SX.Sl.c s3 } (Go.SX.TyI.size Go.Proofs.Ytcffcndpefaalaa.ty106) (Int.toNat (0 : Int)) (Int.toNat ((↑s3.2 : Int) - (1 : Int)))))] W4 < F2 [Go.SX.PL.val (Go.SX.Sl.v s3)] W4) ∧
 (¬i5 = (0 : Int) → ∀ (W6 : Go.SX.PW), Go.SX.Ext W4 W6 → Post (Go.Value.agg { toList := [Go.SX.Sl.v s3] }) W6)) ∧
 (¬(0 : Int) < (↑s3.2 : Int) →
 (Bool.false = Bool.true →
 Go.SX.I64 ((↑s3.2 : Int) - (1 : Int)) ∧
 ((0 : Int) ≤ (0 : Int) ∧ (0 : Int) ≤ (↑s3.2 : Int) - (1 : Int) ∧ (↑s3.2 : Int) - (1 : Int) ≤ (↑s3.3 : Int)) ∧
 F1 [Go.SX.PL.val (Go.SX.Sl.v (Go.SX.Sl.cut { A := Go.SX.Sl.A s3, n := Go.SX.Sl.n s3, c := Go.SX.Sl.c s3 } (Go.SX.TyI.size Go.Proofs.Ytcffcndpefaalaa.ty106) (Int.toNat (0 : Int)) (Int.toNat ((↑s3.2 : Int) - (1 : Int)))))] W4 ∧
 F2 [Go.SX.PL.val (Go.SX.Sl.v (Go.SX.Sl.cut { A := Go.SX.Sl.A s3, n := Go.SX.Sl.n s3, c := Go.SX.Sl.c s3 } (Go.SX.TyI.size Go.Proofs.Ytcffcndpefaalaa.ty106) (Int.toNat (0 : Int)) (Int.toNat ((↑s3.2 : Int) - (1 : Int)))))] W4 < F2 [Go.SX.PL.val (Go.SX.Sl.v s3)] W4) ∧
 (Bool.false = Bool.false → ∀ (W7 : Go.SX.PW), Go.SX.Ext W4 W7 → Post (Go.Value.agg { toList := [Go.SX.Sl.v s3] }) W7))
theorem callnat_cut (W0 : Go.SX.PW) (M : Nat → Prop) (a0 : Go.SX.Sl) (Post : Go.Value → Go.SX.PW → Prop) (h : Rnat_cut W0 M a0 Post) : Go.SX.PCallsM Go.Proofs.Try.prog 65 [Go.SX.Sl.v a0] W0 M Post :=
  Go.SX.fn_sound rfl tt_ok tt_in Go.Proofs.Try.func65 (cuts := []) rfl rfl (Nat.le_of_ble_eq_true rfl) (Eq.mpr (by kernel_rfl) h)
def Rnat_Of (W0 : Go.SX.PW) (M : Nat → Prop) (a0 : Int) (Post : Go.Value → Go.SX.PW → Prop) : Prop :=
 ∀ (s1 : Go.SX.Sl) (W2 : Go.SX.PW),
 Go.SX.Ext W0 W2 →
 Go.SX.Own W2 (106 : Nat) (1 : Nat) s1 [[Go.Value.int Go.IntKind.u32 (Go.IntKind.wrap Go.IntKind.u32 a0)], [Go.Value.int Go.IntKind.u32 (Go.IntKind.wrap Go.IntKind.u32 (Go.SX.ishr a0 (32 : Nat)))]] →
 (∀ (n3 : Nat), Go.Value.ownBlock (Go.SX.Sl.v s1) = Option.some n3 → Array.size (Go.SX.PW.w W0).1 ≤ n3 ∧ (n3 < Array.size (Go.SX.PW.w W0).1 → W0.2 n3)) →
 Go.SX.callN Go.Proofs.Try.prog W0 M (65 : Nat) [Go.SX.Sl.v s1] W2 fun (v4 : Go.Value) (W5 : Go.SX.PW) => ∃ (s6 : Go.SX.Sl), v4 = Go.Value.agg { toList := [Go.SX.Sl.v s6] } ∧ ∀ (W7 : Go.SX.PW), Go.SX.Ext W5 W7 → Post (Go.Value.agg { toList := [Go.SX.Sl.v s6] }) W7
theorem callnat_Of (W0 : Go.SX.PW) (M : Nat → Prop) (a0 : Int) (Post : Go.Value → Go.SX.PW → Prop) (h : Rnat_Of W0 M a0 Post) : Go.SX.PCallsM Go.Proofs.Try.prog 47 [Go.Value.int Go.IntKind.u64 a0] W0 M Post :=
  Go.SX.fn_sound rfl tt_ok tt_in Go.Proofs.Try.func47 (cuts := []) rfl rfl (Nat.le_of_ble_eq_true rfl) (Eq.mpr (by kernel_rfl) h)
def Rnat_Add (W0 : Go.SX.PW) (M : Nat → Prop) (a0_0 : Go.SX.Sl) (a1_0 : Go.SX.Sl) (Post : Go.Value → Go.SX.PW → Prop) : Prop :=
 ∃ (F1 : List Go.SX.PL → Go.SX.PW → Prop),
 (((↑a0_0.2 : Int) < (↑a1_0.2 : Int) → F1 [Go.SX.PL.cells [Go.SX.Sl.v a1_0], Go.SX.PL.cells [Go.SX.Sl.v a0_0]] W0) ∧ (¬(↑a0_0.2 : Int) < (↑a1_0.2 : Int) → F1 [Go.SX.PL.cells [Go.SX.Sl.v a0_0], Go.SX.PL.cells [Go.SX.Sl.v a1_0]] W0)) ∧
 ∀ (s2 s3 : Go.SX.Sl) (W4 : Go.SX.PW),
 F1 [Go.SX.PL.cells [Go.SX.Sl.v s2], Go.SX.PL.cells [Go.SX.Sl.v s3]] W4 →
 Go.SX.I64 ((↑s2.2 : Int) + (1 : Int)) ∧
 ((↑s2.2 : Int) + (1 : Int) = (↑s2.2 : Int) + (1 : Int) ∧ (0 : Int) ≤ (↑s2.2 : Int) + (1 : Int) ∧ ((↑s2.2 : Int) + (1 : Int)) * (↑(4 : Nat) : Int) ≤ (281474976710656 : Int)) ∧
 ∃ (F5 : List Go.SX.PL → Go.SX.PW → Prop),
 ∃ (F6 : List Go.SX.PL → Go.SX.PW → Nat),
 F5 [Go.SX.PL.val (Go.Value.int Go.IntKind.u64 (0 : Int)), Go.SX.PL.val (Go.Value.int Go.IntKind.i64 (0 : Int)), Go.SX.PL.row (List.replicate (Int.toNat ((↑s2.2 : Int) + (1 : Int))) [Go.Value.int Go.IntKind.u32 (0 : Int)])] W4 ∧
 ∀ (l7 : List (List Go.Value)) (i8 i9 : Int) (W10 : Go.SX.PW),
 F5 [Go.SX.PL.val (Go.Value.int Go.IntKind.u64 i8), Go.SX.PL.val (Go.Value.int Go.IntKind.i64 i9), Go.SX.PL.row l7] W10 →
 (i9 < (↑s2.2 : Int) →
 Go.SX.inB s2 i9 ∧
 ∃ (i11 : Int),
 Go.SX.ElemAt W10 s2 (1 : Nat) (Int.toNat i9) (0 : Nat) [Go.Value.int Go.IntKind.u32 i11] ∧
 (i9 < (↑s3.2 : Int) →
 Go.SX.inB s3 i9 ∧
 ∃ (i12 : Int),
 Go.SX.ElemAt W10 s3 (1 : Nat) (Int.toNat i9) (0 : Nat) [Go.Value.int Go.IntKind.u32 i12] ∧
 ((0 : Int) ≤ i9 ∧ i9 < (↑(List.length l7) : Int)) ∧
 Int.toNat i9 < List.length l7 ∧
 Go.SX.I64 (i9 + (1 : Int)) ∧
 F5
 [Go.SX.PL.val (Go.Value.int Go.IntKind.u64 (Go.SX.ishr (Go.IntKind.wrap Go.IntKind.u64 (Go.IntKind.wrap Go.IntKind.u64 (i8 + Go.IntKind.wrap Go.IntKind.u64 i11) + Go.IntKind.wrap Go.IntKind.u64 i12)) (32 : Nat))), Go.SX.PL.val (Go.Value.int Go.IntKind.i64 (i9 + (1 : Int))),
 Go.SX.PL.row (List.set l7 (Int.toNat i9) [Go.Value.int Go.IntKind.u32 (Go.IntKind.wrap Go.IntKind.u32 (Go.IntKind.wrap Go.IntKind.u64 (Go.IntKind.wrap Go.IntKind.u64 (i8 + Go.IntKind.wrap Go.IntKind.u64 i11) + Go.IntKind.wrap Go.IntKind.u64 i12)))])]
 W10 ∧
 F6
 [Go.SX.PL.val (Go.Value.int Go.IntKind.u64 (Go.SX.ishr (Go.IntKind.wrap Go.IntKind.u64 (Go.IntKind.wrap Go.IntKind.u64 (i8 + Go.IntKind.wrap Go.IntKind.u64 i11) + Go.IntKind.wrap Go.IntKind.u64 i12)) (32 : Nat))), Go.SX.PL.val (Go.Value.int Go.IntKind.i64 (i9 + (1 : Int))),
 Go.SX.PL.row (List.set l7 (Int.toNat i9) [Go.Value.int Go.IntKind.u32 (Go.IntKind.wrap Go.IntKind.u32 (Go.IntKind.wrap Go.IntKind.u64 (Go.IntKind.wrap Go.IntKind.u64 (i8 + Go.IntKind.wrap Go.IntKind.u64 i11) + Go.IntKind.wrap Go.IntKind.u64 i12)))])]
 W10 <
 F6 [Go.SX.PL.val (Go.Value.int Go.IntKind.u64 i8), Go.SX.PL.val (Go.Value.int Go.IntKind.i64 i9), Go.SX.PL.row l7] W10) ∧
 (¬i9 < (↑s3.2 : Int) →
 ((0 : Int) ≤ i9 ∧ i9 < (↑(List.length l7) : Int)) ∧
 Int.toNat i9 < List.length l7 ∧
 Go.SX.I64 (i9 + (1 : Int)) ∧
 F5
 [Go.SX.PL.val (Go.Value.int Go.IntKind.u64 (Go.SX.ishr (Go.IntKind.wrap Go.IntKind.u64 (i8 + Go.IntKind.wrap Go.IntKind.u64 i11)) (32 : Nat))), Go.SX.PL.val (Go.Value.int Go.IntKind.i64 (i9 + (1 : Int))),
 Go.SX.PL.row (List.set l7 (Int.toNat i9) [Go.Value.int Go.IntKind.u32 (Go.IntKind.wrap Go.IntKind.u32 (Go.IntKind.wrap Go.IntKind.u64 (i8 + Go.IntKind.wrap Go.IntKind.u64 i11)))])]
 W10 ∧
 F6
 [Go.SX.PL.val (Go.Value.int Go.IntKind.u64 (Go.SX.ishr (Go.IntKind.wrap Go.IntKind.u64 (i8 + Go.IntKind.wrap Go.IntKind.u64 i11)) (32 : Nat))), Go.SX.PL.val (Go.Value.int Go.IntKind.i64 (i9 + (1 : Int))),
 Go.SX.PL.row (List.set l7 (Int.toNat i9) [Go.Value.int Go.IntKind.u32 (Go.IntKind.wrap Go.IntKind.u32 (Go.IntKind.wrap Go.IntKind.u64 (i8 + Go.IntKind.wrap Go.IntKind.u64 i11)))])]
 W10 <
 F6 [Go.SX.PL.val (Go.Value.int Go.IntKind.u64 i8), Go.SX.PL.val (Go.Value.int Go.IntKind.i64 i9), Go.SX.PL.row l7] W10)) ∧
 (¬i9 < (↑s2.2 : Int) →
 ((0 : Int) ≤ (↑s2.2 : Int) ∧ (↑s2.2 : Int) < (↑(List.length l7) : Int)) ∧
 Int.toNat (↑s2.2 : Int) < List.length l7 ∧
 ∀ (s13 : Go.SX.Sl) (W14 : Go.SX.PW),
 Go.SX.Ext W10 W14 →
 Go.SX.Own W14 (106 : Nat) (1 : Nat) s13 (List.set l7 (Int.toNat (↑s2.2 : Int)) [Go.Value.int Go.IntKind.u32 (Go.IntKind.wrap Go.IntKind.u32 i8)]) →
 (∀ (n15 : Nat), Go.Value.ownBlock (Go.SX.Sl.v s13) = Option.some n15 → Array.size (Go.SX.PW.w W0).1 ≤ n15 ∧ (n15 < Array.size (Go.SX.PW.w W10).1 → W10.2 n15)) →
 Go.SX.callN Go.Proofs.Try.prog W0 M (65 : Nat) [Go.SX.Sl.v s13] W14 fun (v16 : Go.Value) (W17 : Go.SX.PW) => ∃ (s18 : Go.SX.Sl), v16 = Go.Value.agg { toList := [Go.SX.Sl.v s18] } ∧ ∀ (W19 : Go.SX.PW), Go.SX.Ext W17 W19 → Post (Go.Value.agg { toList := [Go.SX.Sl.v s18] }) W19)
theorem callnat_Add (W0 : Go.SX.PW) (M : Nat → Prop) (a0_0 : Go.SX.Sl) (a1_0 : Go.SX.Sl) (Post : Go.Value → Go.SX.PW → Prop) (h : Rnat_Add W0 M a0_0 a1_0 Post) : Go.SX.PCallsM Go.Proofs.Try.prog 70 [Go.Value.agg #[Go.SX.Sl.v a0_0], Go.Value.agg #[Go.SX.Sl.v a1_0]] W0 M Post :=
  Go.SX.fn_sound rfl tt_ok tt_in Go.Proofs.Try.func70 (cuts := [3]) rfl rfl (Nat.le_of_ble_eq_true rfl) (Eq.mpr (by kernel_rfl) h)
def Rnat_Mul (W0 : Go.SX.PW) (M : Nat → Prop) (a0_0 : Go.SX.Sl) (a1_0 : Go.SX.Sl) (Post : Go.Value → Go.SX.PW → Prop) : Prop :=
 Go.SX.I64 ((↑a0_0.2 : Int) + (↑a1_0.2 : Int)) ∧
 ((↑a0_0.2 : Int) + (↑a1_0.2 : Int) = (↑a0_0.2 : Int) + (↑a1_0.2 : Int) ∧ (0 : Int) ≤ (↑a0_0.2 : Int) + (↑a1_0.2 : Int) ∧ ((↑a0_0.2 : Int) + (↑a1_0.2 : Int)) * (↑(4 : Nat) : Int) ≤ (281474976710656 : Int)) ∧
 ∃ (F1 : List Go.SX.PL → Go.SX.PW → Prop),
 ∃ (F2 : List Go.SX.PL → Go.SX.PW → Nat),
 F1 [Go.SX.PL.val (Go.Value.int Go.IntKind.i64 (0 : Int)), Go.SX.PL.row (List.replicate (Int.toNat ((↑a0_0.2 : Int) + (↑a1_0.2 : Int))) [Go.Value.int Go.IntKind.u32 (0 : Int)])] W0 ∧
 ∀ (l3 : List (List Go.Value)) (i4 : Int) (W5 : Go.SX.PW),
 F1 [Go.SX.PL.val (Go.Value.int Go.IntKind.i64 i4), Go.SX.PL.row l3] W5 →
 (i4 < (↑a0_0.2 : Int) →
 Go.SX.inB a0_0 i4 ∧
 ∃ (i6 : Int),
 Go.SX.ElemAt W5 a0_0 (1 : Nat) (Int.toNat i4) (0 : Nat) [Go.Value.int Go.IntKind.u32 i6] ∧
 ∃ (F7 : List Go.SX.PL → Go.SX.PW → Prop),
 ∃ (F8 : List Go.SX.PL → Go.SX.PW → Nat),
 F7 [Go.SX.PL.val (Go.Value.int Go.IntKind.u64 (0 : Int)), Go.SX.PL.val (Go.Value.int Go.IntKind.i64 (0 : Int)), Go.SX.PL.row l3] W5 ∧
 ∀ (l9 : List (List Go.Value)) (i10 i11 : Int) (W12 : Go.SX.PW),
 F7 [Go.SX.PL.val (Go.Value.int Go.IntKind.u64 i10), Go.SX.PL.val (Go.Value.int Go.IntKind.i64 i11), Go.SX.PL.row l9] W12 →
 (i11 < (↑a1_0.2 : Int) →
 Go.SX.inB a1_0 i11 ∧
 ∃ (i13 : Int),
 Go.SX.ElemAt W12 a1_0 (1 : Nat) (Int.toNat i11) (0 : Nat) [Go.Value.int Go.IntKind.u32 i13] ∧
 Go.SX.I64 (i4 + i11) ∧
 ((0 : Int) ≤ i4 + i11 ∧ i4 + i11 < (↑(List.length l9) : Int)) ∧
 ∃ (i14 : Int),
 Go.SX.OwnAt l9 (Int.toNat (i4 + i11)) (0 : Nat) [Go.Value.int Go.IntKind.u32 i14] ∧
 Go.SX.I64 (i4 + i11) ∧
 ((0 : Int) ≤ i4 + i11 ∧ i4 + i11 < (↑(List.length l9) : Int)) ∧
 Int.toNat (i4 + i11) < List.length l9 ∧
 Go.SX.I64 (i11 + (1 : Int)) ∧
 F7
 [Go.SX.PL.val (Go.Value.int Go.IntKind.u64 (Go.SX.ishr (Go.IntKind.wrap Go.IntKind.u64 (i10 + Go.IntKind.wrap Go.IntKind.u64 (Go.IntKind.wrap Go.IntKind.u64 (Go.IntKind.wrap Go.IntKind.u64 i6 * Go.IntKind.wrap Go.IntKind.u64 i13) + Go.IntKind.wrap Go.IntKind.u64 i14))) (32 : Nat))),
 Go.SX.PL.val (Go.Value.int Go.IntKind.i64 (i11 + (1 : Int))),
 Go.SX.PL.row (List.set l9 (Int.toNat (i4 + i11)) [Go.Value.int Go.IntKind.u32 (Go.IntKind.wrap Go.IntKind.u32 (Go.IntKind.wrap Go.IntKind.u64 (i10 + Go.IntKind.wrap Go.IntKind.u64 (Go.IntKind.wrap Go.IntKind.u64 (Go.IntKind.wrap Go.IntKind.u64 i6 * Go.IntKind.wrap Go.IntKind.u64 i13) + Go.IntKind.wrap Go.IntKind.u64 i14))))])]
 W12 ∧
 F8
 [Go.SX.PL.val (Go.Value.int Go.IntKind.u64 (Go.SX.ishr (Go.IntKind.wrap Go.IntKind.u64 (i10 + Go.IntKind.wrap Go.IntKind.u64 (Go.IntKind.wrap Go.IntKind.u64 (Go.IntKind.wrap Go.IntKind.u64 i6 * Go.IntKind.wrap Go.IntKind.u64 i13) + Go.IntKind.wrap Go.IntKind.u64 i14))) (32 : Nat))),
 Go.SX.PL.val (Go.Value.int Go.IntKind.i64 (i11 + (1 : Int))),
 Go.SX.PL.row (List.set l9 (Int.toNat (i4 + i11)) [Go.Value.int Go.IntKind.u32 (Go.IntKind.wrap Go.IntKind.u32 (Go.IntKind.wrap Go.IntKind.u64 (i10 + Go.IntKind.wrap Go.IntKind.u64 (Go.IntKind.wrap Go.IntKind.u64 (Go.IntKind.wrap Go.IntKind.u64 i6 * Go.IntKind.wrap Go.IntKind.u64 i13) + Go.IntKind.wrap Go.IntKind.u64 i14))))])]
 W12 <
 F8 [Go.SX.PL.val (Go.Value.int Go.IntKind.u64 i10), Go.SX.PL.val (Go.Value.int Go.IntKind.i64 i11), Go.SX.PL.row l9] W12) ∧
 (¬i11 < (↑a1_0.2 : Int) →
 Go.SX.I64 (i4 + (↑a1_0.2 : Int)) ∧
 ((0 : Int) ≤ i4 + (↑a1_0.2 : Int) ∧ i4 + (↑a1_0.2 : Int) < (↑(List.length l9) : Int)) ∧
 Int.toNat (i4 + (↑a1_0.2 : Int)) < List.length l9 ∧
 Go.SX.I64 (i4 + (1 : Int)) ∧
 F1 [Go.SX.PL.val (Go.Value.int Go.IntKind.i64 (i4 + (1 : Int))), Go.SX.PL.row (List.set l9 (Int.toNat (i4 + (↑a1_0.2 : Int))) [Go.Value.int Go.IntKind.u32 (Go.IntKind.wrap Go.IntKind.u32 i10)])] W12 ∧
 F2 [Go.SX.PL.val (Go.Value.int Go.IntKind.i64 (i4 + (1 : Int))), Go.SX.PL.row (List.set l9 (Int.toNat (i4 + (↑a1_0.2 : Int))) [Go.Value.int Go.IntKind.u32 (Go.IntKind.wrap Go.IntKind.u32 i10)])] W12 < F2 [Go.SX.PL.val (Go.Value.int Go.IntKind.i64 i4), Go.SX.PL.row l3] W5)) ∧
 (¬i4 < (↑a0_0.2 : Int) →
 ∀ (s15 : Go.SX.Sl) (W16 : Go.SX.PW),
 Go.SX.Ext W5 W16 →
 Go.SX.Own W16 (106 : Nat) (1 : Nat) s15 l3 →
 (∀ (n17 : Nat), Go.Value.ownBlock (Go.SX.Sl.v s15) = Option.some n17 → Array.size (Go.SX.PW.w W0).1 ≤ n17 ∧ (n17 < Array.size (Go.SX.PW.w W5).1 → W5.2 n17)) →
 Go.SX.callN Go.Proofs.Try.prog W0 M (65 : Nat) [Go.SX.Sl.v s15] W16 fun (v18 : Go.Value) (W19 : Go.SX.PW) => ∃ (s20 : Go.SX.Sl), v18 = Go.Value.agg { toList := [Go.SX.Sl.v s20] } ∧ ∀ (W21 : Go.SX.PW), Go.SX.Ext W19 W21 → Post (Go.Value.agg { toList := [Go.SX.Sl.v s20] }) W21)
theorem callnat_Mul (W0 : Go.SX.PW) (M : Nat → Prop) (a0_0 : Go.SX.Sl) (a1_0 : Go.SX.Sl) (Post : Go.Value → Go.SX.PW → Prop) (h : Rnat_Mul W0 M a0_0 a1_0 Post) : Go.SX.PCallsM Go.Proofs.Try.prog 52 [Go.Value.agg #[Go.SX.Sl.v a0_0], Go.Value.agg #[Go.SX.Sl.v a1_0]] W0 M Post :=
  Go.SX.fn_sound rfl tt_ok tt_in Go.Proofs.Try.func52 (cuts := []) rfl rfl (Nat.le_of_ble_eq_true rfl) (Eq.mpr (by kernel_rfl) h)
def Rslices_Clone_uint32_uint32 (W0 : Go.SX.PW) (M : Nat → Prop) (a0 : Go.SX.Sl) (Post : Go.Value → Go.SX.PW → Prop) : Prop :=
 (a0.1 = Option.none → ∀ (W1 : Go.SX.PW), Go.SX.Ext W0 W1 → Post (Go.Value.slice Option.none (0 : Nat) (0 : Nat)) W1) ∧
 (¬a0.1 = Option.none →
 ∃ (l2 : List (List Go.Value)),
 Go.SX.RowA W0 (1 : Nat) a0 l2 ∧
 ((0 : Nat) + List.length l2) * (4 : Nat) ≤ (140737488355328 : Nat) ∧ ∀ (s3 : Go.SX.Sl) (W4 : Go.SX.PW), Go.SX.Ext W0 W4 → Go.SX.Own W4 (106 : Nat) (1 : Nat) s3 ([] ++ l2) → (∀ (n5 : Nat), Go.Value.ownBlock (Go.SX.Sl.v s3) = Option.some n5 → Array.size (Go.SX.PW.w W0).1 ≤ n5 ∧ (n5 < Array.size (Go.SX.PW.w W0).1 → W0.2 n5)) → ∀ (W6 : Go.SX.PW), Go.SX.Ext W4 W6 → Post (Go.SX.Sl.v s3) W6)
theorem callslices_Clone_uint32_uint32 (W0 : Go.SX.PW) (M : Nat → Prop) (a0 : Go.SX.Sl) (Post : Go.Value → Go.SX.PW → Prop) (h : Rslices_Clone_uint32_uint32 W0 M a0 Post) : Go.SX.PCallsM Go.Proofs.Try.prog 63 [Go.SX.Sl.v a0] W0 M Post :=
  Go.SX.fn_sound rfl tt_ok tt_in Go.Proofs.Try.func63 (cuts := []) rfl rfl (Nat.le_of_ble_eq_true rfl) (Eq.mpr (by kernel_rfl) h)
def Rnat_Shr (W0 : Go.SX.PW) (M : Nat → Prop) (a0_0 : Go.SX.Sl) (a1 : Int) (Post : Go.Value → Go.SX.PW → Prop) : Prop :=
 (32 : Int) ≠ (0 : Int) ∧
 ((↑a0_0.2 : Int) ≤ Go.IntKind.wrap Go.IntKind.i64 (Int.tdiv (Go.SX.mn (Go.SX.mx a1 (0 : Int)) (1048576 : Int)) (32 : Int)) → ∀ (W1 : Go.SX.PW), Go.SX.Ext W0 W1 → Post (Go.Value.agg { toList := [Go.Value.slice Option.none (0 : Nat) (0 : Nat)] }) W1) ∧
 (¬(↑a0_0.2 : Int) ≤ Go.IntKind.wrap Go.IntKind.i64 (Int.tdiv (Go.SX.mn (Go.SX.mx a1 (0 : Int)) (1048576 : Int)) (32 : Int)) →
 (32 : Int) ≠ (0 : Int) ∧
 ((0 : Int) ≤ Go.IntKind.wrap Go.IntKind.i64 (Int.tdiv (Go.SX.mn (Go.SX.mx a1 (0 : Int)) (1048576 : Int)) (32 : Int)) ∧ Go.IntKind.wrap Go.IntKind.i64 (Int.tdiv (Go.SX.mn (Go.SX.mx a1 (0 : Int)) (1048576 : Int)) (32 : Int)) ≤ (↑a0_0.2 : Int) ∧ (↑a0_0.2 : Int) ≤ (↑a0_0.3 : Int)) ∧
 ((↑(Int.toNat (↑a0_0.2 : Int) - Int.toNat (Go.IntKind.wrap Go.IntKind.i64 (Int.tdiv (Go.SX.mn (Go.SX.mx a1 (0 : Int)) (1048576 : Int)) (32 : Int)))) : Int) = (↑(Int.toNat (↑a0_0.2 : Int) - Int.toNat (Go.IntKind.wrap Go.IntKind.i64 (Int.tdiv (Go.SX.mn (Go.SX.mx a1 (0 : Int)) (1048576 : Int)) (32 : Int)))) : Int) ∧
 (0 : Int) ≤ (↑(Int.toNat (↑a0_0.2 : Int) - Int.toNat (Go.IntKind.wrap Go.IntKind.i64 (Int.tdiv (Go.SX.mn (Go.SX.mx a1 (0 : Int)) (1048576 : Int)) (32 : Int)))) : Int) ∧ (↑(Int.toNat (↑a0_0.2 : Int) - Int.toNat (Go.IntKind.wrap Go.IntKind.i64 (Int.tdiv (Go.SX.mn (Go.SX.mx a1 (0 : Int)) (1048576 : Int)) (32 : Int)))) : Int) * (↑(4 : Nat) : Int) ≤ (281474976710656 : Int)) ∧
 ∃ (F2 : List Go.SX.PL → Go.SX.PW → Prop),
 ∃ (F3 : List Go.SX.PL → Go.SX.PW → Nat),
 F2 [Go.SX.PL.val (Go.Value.int Go.IntKind.i64 (0 : Int)), Go.SX.PL.row (List.replicate (Int.toNat (↑(Int.toNat (↑a0_0.2 : Int) - Int.toNat (Go.IntKind.wrap Go.IntKind.i64 (Int.tdiv (Go.SX.mn (Go.SX.mx a1 (0 : Int)) (1048576 : Int)) (32 : Int)))) : Int)) [Go.Value.int Go.IntKind.u32 (0 : Int)])] W0 ∧
 ∀ (l4 : List (List Go.Value)) (i5 : Int) (W6 : Go.SX.PW),
 F2 [Go.SX.PL.val (Go.Value.int Go.IntKind.i64 i5), Go.SX.PL.row l4] W6 →
 (i5 < (↑(Int.toNat (↑a0_0.2 : Int) - Int.toNat (Go.IntKind.wrap Go.IntKind.i64 (Int.tdiv (Go.SX.mn (Go.SX.mx a1 (0 : Int)) (1048576 : Int)) (32 : Int)))) : Int) →
 Go.SX.inB (Go.SX.Sl.cut a0_0 (1 : Nat) (Int.toNat (Go.IntKind.wrap Go.IntKind.i64 (Int.tdiv (Go.SX.mn (Go.SX.mx a1 (0 : Int)) (1048576 : Int)) (32 : Int)))) (Int.toNat (↑a0_0.2 : Int))) i5 ∧
 ∃ (i7 : Int),
 Go.SX.ElemAt W6 (Go.SX.Sl.cut a0_0 (1 : Nat) (Int.toNat (Go.IntKind.wrap Go.IntKind.i64 (Int.tdiv (Go.SX.mn (Go.SX.mx a1 (0 : Int)) (1048576 : Int)) (32 : Int)))) (Int.toNat (↑a0_0.2 : Int))) (1 : Nat) (Int.toNat i5) (0 : Nat) [Go.Value.int Go.IntKind.u32 i7] ∧
 (32 : Int) ≠ (0 : Int) ∧
 ((0 : Int) ≤ Int.tmod (Go.SX.mn (Go.SX.mx a1 (0 : Int)) (1048576 : Int)) (32 : Int) ∧ Int.tmod (Go.SX.mn (Go.SX.mx a1 (0 : Int)) (1048576 : Int)) (32 : Int) ≤ (↑(Go.IntKind.bits Go.IntKind.u32) : Int)) ∧
 ((0 : Int) ≤ i5 ∧ i5 < (↑(List.length l4) : Int)) ∧
 Int.toNat i5 < List.length l4 ∧
 ((0 : Int) < i5 →
 Go.SX.I64 (i5 - (1 : Int)) ∧
 ((0 : Int) ≤ i5 - (1 : Int) ∧ i5 - (1 : Int) < (↑(List.length (List.set l4 (Int.toNat i5) [Go.Value.int Go.IntKind.u32 (Go.SX.ishr i7 (Int.toNat (Int.tmod (Go.SX.mn (Go.SX.mx a1 (0 : Int)) (1048576 : Int)) (32 : Int))))])) : Int)) ∧
 ∃ (i8 : Int),
 Go.SX.OwnAt (List.set l4 (Int.toNat i5) [Go.Value.int Go.IntKind.u32 (Go.SX.ishr i7 (Int.toNat (Int.tmod (Go.SX.mn (Go.SX.mx a1 (0 : Int)) (1048576 : Int)) (32 : Int))))]) (Int.toNat (i5 - (1 : Int))) (0 : Nat) [Go.Value.int Go.IntKind.u32 i8] ∧
 (32 : Int) ≠ (0 : Int) ∧
 Go.SX.I64 ((32 : Int) - Int.tmod (Go.SX.mn (Go.SX.mx a1 (0 : Int)) (1048576 : Int)) (32 : Int)) ∧
 ((0 : Int) ≤ (32 : Int) - Int.tmod (Go.SX.mn (Go.SX.mx a1 (0 : Int)) (1048576 : Int)) (32 : Int) ∧ (32 : Int) - Int.tmod (Go.SX.mn (Go.SX.mx a1 (0 : Int)) (1048576 : Int)) (32 : Int) ≤ (↑(Go.IntKind.bits Go.IntKind.u64) : Int)) ∧
 ((0 : Int) ≤ i5 - (1 : Int) ∧ i5 - (1 : Int) < (↑(List.length (List.set l4 (Int.toNat i5) [Go.Value.int Go.IntKind.u32 (Go.SX.ishr i7 (Int.toNat (Int.tmod (Go.SX.mn (Go.SX.mx a1 (0 : Int)) (1048576 : Int)) (32 : Int))))])) : Int)) ∧
 Int.toNat (i5 - (1 : Int)) < List.length (List.set l4 (Int.toNat i5) [Go.Value.int Go.IntKind.u32 (Go.SX.ishr i7 (Int.toNat (Int.tmod (Go.SX.mn (Go.SX.mx a1 (0 : Int)) (1048576 : Int)) (32 : Int))))]) ∧
 Go.SX.I64 (i5 + (1 : Int)) ∧
 F2
 [Go.SX.PL.val (Go.Value.int Go.IntKind.i64 (i5 + (1 : Int))),
 Go.SX.PL.row
 (List.set (List.set l4 (Int.toNat i5) [Go.Value.int Go.IntKind.u32 (Go.SX.ishr i7 (Int.toNat (Int.tmod (Go.SX.mn (Go.SX.mx a1 (0 : Int)) (1048576 : Int)) (32 : Int))))]) (Int.toNat (i5 - (1 : Int)))
 [Go.Value.int Go.IntKind.u32 (Go.bits Go.BinOp.or Go.IntKind.u32 i8 (Go.IntKind.wrap Go.IntKind.u32 (Go.SX.ishl Go.IntKind.u64 (Go.IntKind.wrap Go.IntKind.u64 i7) (Int.toNat ((32 : Int) - Int.tmod (Go.SX.mn (Go.SX.mx a1 (0 : Int)) (1048576 : Int)) (32 : Int))))))])]
 W6 ∧
 F3
 [Go.SX.PL.val (Go.Value.int Go.IntKind.i64 (i5 + (1 : Int))),
 Go.SX.PL.row
 (List.set (List.set l4 (Int.toNat i5) [Go.Value.int Go.IntKind.u32 (Go.SX.ishr i7 (Int.toNat (Int.tmod (Go.SX.mn (Go.SX.mx a1 (0 : Int)) (1048576 : Int)) (32 : Int))))]) (Int.toNat (i5 - (1 : Int)))
 [Go.Value.int Go.IntKind.u32 (Go.bits Go.BinOp.or Go.IntKind.u32 i8 (Go.IntKind.wrap Go.IntKind.u32 (Go.SX.ishl Go.IntKind.u64 (Go.IntKind.wrap Go.IntKind.u64 i7) (Int.toNat ((32 : Int) - Int.tmod (Go.SX.mn (Go.SX.mx a1 (0 : Int)) (1048576 : Int)) (32 : Int))))))])]
 W6 <
 F3 [Go.SX.PL.val (Go.Value.int Go.IntKind.i64 i5), Go.SX.PL.row l4] W6) ∧
 (¬(0 : Int) < i5 →
 Go.SX.I64 (i5 + (1 : Int)) ∧
 F2 [Go.SX.PL.val (Go.Value.int Go.IntKind.i64 (i5 + (1 : Int))), Go.SX.PL.row (List.set l4 (Int.toNat i5) [Go.Value.int Go.IntKind.u32 (Go.SX.ishr i7 (Int.toNat (Int.tmod (Go.SX.mn (Go.SX.mx a1 (0 : Int)) (1048576 : Int)) (32 : Int))))])] W6 ∧
 F3 [Go.SX.PL.val (Go.Value.int Go.IntKind.i64 (i5 + (1 : Int))), Go.SX.PL.row (List.set l4 (Int.toNat i5) [Go.Value.int Go.IntKind.u32 (Go.SX.ishr i7 (Int.toNat (Int.tmod (Go.SX.mn (Go.SX.mx a1 (0 : Int)) (1048576 : Int)) (32 : Int))))])] W6 < F3 [Go.SX.PL.val (Go.Value.int Go.IntKind.i64 i5), Go.SX.PL.row l4] W6)) ∧
 (¬i5 < (↑(Int.toNat (↑a0_0.2 : Int) - Int.toNat (Go.IntKind.wrap Go.IntKind.i64 (Int.tdiv (Go.SX.mn (Go.SX.mx a1 (0 : Int)) (1048576 : Int)) (32 : Int)))) : Int) →
 ∀ (s9 : Go.SX.Sl) (W10 : Go.SX.PW),
 Go.SX.Ext W6 W10 →
 Go.SX.Own W10 (106 : Nat) (1 : Nat) s9 l4 →
 (∀ (n11 : Nat), Go.Value.ownBlock (Go.SX.Sl.v s9) = Option.some n11 → Array.size (Go.SX.PW.w W0).1 ≤ n11 ∧ (n11 < Array.size (Go.SX.PW.w W6).1 → W6.2 n11)) →
 Go.SX.callN Go.Proofs.Try.prog W0 M (65 : Nat) [Go.SX.Sl.v s9] W10 fun (v12 : Go.Value) (W13 : Go.SX.PW) => ∃ (s14 : Go.SX.Sl), v12 = Go.Value.agg { toList := [Go.SX.Sl.v s14] } ∧ ∀ (W15 : Go.SX.PW), Go.SX.Ext W13 W15 → Post (Go.Value.agg { toList := [Go.SX.Sl.v s14] }) W15))
theorem callnat_Shr (W0 : Go.SX.PW) (M : Nat → Prop) (a0_0 : Go.SX.Sl) (a1 : Int) (Post : Go.Value → Go.SX.PW → Prop) (h : Rnat_Shr W0 M a0_0 a1 Post) : Go.SX.PCallsM Go.Proofs.Try.prog 81 [Go.Value.agg #[Go.SX.Sl.v a0_0], Go.Value.int Go.IntKind.i64 a1] W0 M Post :=
  Go.SX.fn_sound rfl tt_ok tt_in Go.Proofs.Try.func81 (cuts := []) rfl rfl (Nat.le_of_ble_eq_true rfl) (Eq.mpr (by kernel_rfl) h)
def Rnat_Shl (W0 : Go.SX.PW) (M : Nat → Prop) (a0_0 : Go.SX.Sl) (a1 : Int) (Post : Go.Value → Go.SX.PW → Prop) : Prop :=
 (32 : Int) ≠ (0 : Int) ∧
 Go.SX.I64 ((↑a0_0.2 : Int) + Go.IntKind.wrap Go.IntKind.i64 (Int.tdiv (Go.SX.mn (Go.SX.mx a1 (0 : Int)) (1048576 : Int)) (32 : Int))) ∧
 Go.SX.I64 ((↑a0_0.2 : Int) + Go.IntKind.wrap Go.IntKind.i64 (Int.tdiv (Go.SX.mn (Go.SX.mx a1 (0 : Int)) (1048576 : Int)) (32 : Int)) + (1 : Int)) ∧
 ((↑a0_0.2 : Int) + Go.IntKind.wrap Go.IntKind.i64 (Int.tdiv (Go.SX.mn (Go.SX.mx a1 (0 : Int)) (1048576 : Int)) (32 : Int)) + (1 : Int) = (↑a0_0.2 : Int) + Go.IntKind.wrap Go.IntKind.i64 (Int.tdiv (Go.SX.mn (Go.SX.mx a1 (0 : Int)) (1048576 : Int)) (32 : Int)) + (1 : Int) ∧
 (0 : Int) ≤ (↑a0_0.2 : Int) + Go.IntKind.wrap Go.IntKind.i64 (Int.tdiv (Go.SX.mn (Go.SX.mx a1 (0 : Int)) (1048576 : Int)) (32 : Int)) + (1 : Int) ∧ ((↑a0_0.2 : Int) + Go.IntKind.wrap Go.IntKind.i64 (Int.tdiv (Go.SX.mn (Go.SX.mx a1 (0 : Int)) (1048576 : Int)) (32 : Int)) + (1 : Int)) * (↑(4 : Nat) : Int) ≤ (281474976710656 : Int)) ∧
 ∃ (F1 : List Go.SX.PL → Go.SX.PW → Prop),
 ∃ (F2 : List Go.SX.PL → Go.SX.PW → Nat),
 F1 [Go.SX.PL.val (Go.Value.int Go.IntKind.i64 (0 : Int)), Go.SX.PL.row (List.replicate (Int.toNat ((↑a0_0.2 : Int) + Go.IntKind.wrap Go.IntKind.i64 (Int.tdiv (Go.SX.mn (Go.SX.mx a1 (0 : Int)) (1048576 : Int)) (32 : Int)) + (1 : Int))) [Go.Value.int Go.IntKind.u32 (0 : Int)])] W0 ∧
 ∀ (l3 : List (List Go.Value)) (i4 : Int) (W5 : Go.SX.PW),
 F1 [Go.SX.PL.val (Go.Value.int Go.IntKind.i64 i4), Go.SX.PL.row l3] W5 →
 (i4 < (↑a0_0.2 : Int) →
 Go.SX.inB a0_0 i4 ∧
 ∃ (i6 : Int),
 Go.SX.ElemAt W5 a0_0 (1 : Nat) (Int.toNat i4) (0 : Nat) [Go.Value.int Go.IntKind.u32 i6] ∧
 (32 : Int) ≠ (0 : Int) ∧
 ((0 : Int) ≤ Int.tmod (Go.SX.mn (Go.SX.mx a1 (0 : Int)) (1048576 : Int)) (32 : Int) ∧ Int.tmod (Go.SX.mn (Go.SX.mx a1 (0 : Int)) (1048576 : Int)) (32 : Int) ≤ (↑(Go.IntKind.bits Go.IntKind.u64) : Int)) ∧
 (32 : Int) ≠ (0 : Int) ∧
 Go.SX.I64 (i4 + Go.IntKind.wrap Go.IntKind.i64 (Int.tdiv (Go.SX.mn (Go.SX.mx a1 (0 : Int)) (1048576 : Int)) (32 : Int))) ∧
 ((0 : Int) ≤ i4 + Go.IntKind.wrap Go.IntKind.i64 (Int.tdiv (Go.SX.mn (Go.SX.mx a1 (0 : Int)) (1048576 : Int)) (32 : Int)) ∧ i4 + Go.IntKind.wrap Go.IntKind.i64 (Int.tdiv (Go.SX.mn (Go.SX.mx a1 (0 : Int)) (1048576 : Int)) (32 : Int)) < (↑(List.length l3) : Int)) ∧
 ∃ (i7 : Int),
 Go.SX.OwnAt l3 (Int.toNat (i4 + Go.IntKind.wrap Go.IntKind.i64 (Int.tdiv (Go.SX.mn (Go.SX.mx a1 (0 : Int)) (1048576 : Int)) (32 : Int)))) (0 : Nat) [Go.Value.int Go.IntKind.u32 i7] ∧
 ((0 : Int) ≤ i4 + Go.IntKind.wrap Go.IntKind.i64 (Int.tdiv (Go.SX.mn (Go.SX.mx a1 (0 : Int)) (1048576 : Int)) (32 : Int)) ∧ i4 + Go.IntKind.wrap Go.IntKind.i64 (Int.tdiv (Go.SX.mn (Go.SX.mx a1 (0 : Int)) (1048576 : Int)) (32 : Int)) < (↑(List.length l3) : Int)) ∧
 Int.toNat (i4 + Go.IntKind.wrap Go.IntKind.i64 (Int.tdiv (Go.SX.mn (Go.SX.mx a1 (0 : Int)) (1048576 : Int)) (32 : Int))) < List.length l3 ∧
 (32 : Int) ≠ (0 : Int) ∧
 Go.SX.I64 (i4 + Go.IntKind.wrap Go.IntKind.i64 (Int.tdiv (Go.SX.mn (Go.SX.mx a1 (0 : Int)) (1048576 : Int)) (32 : Int))) ∧
 Go.SX.I64 (i4 + Go.IntKind.wrap Go.IntKind.i64 (Int.tdiv (Go.SX.mn (Go.SX.mx a1 (0 : Int)) (1048576 : Int)) (32 : Int)) + (1 : Int)) ∧
 ((0 : Int) ≤ i4 + Go.IntKind.wrap Go.IntKind.i64 (Int.tdiv (Go.SX.mn (Go.SX.mx a1 (0 : Int)) (1048576 : Int)) (32 : Int)) + (1 : Int) ∧
 i4 + Go.IntKind.wrap Go.IntKind.i64 (Int.tdiv (Go.SX.mn (Go.SX.mx a1 (0 : Int)) (1048576 : Int)) (32 : Int)) + (1 : Int) <
 (↑(List.length
 (List.set l3 (Int.toNat (i4 + Go.IntKind.wrap Go.IntKind.i64 (Int.tdiv (Go.SX.mn (Go.SX.mx a1 (0 : Int)) (1048576 : Int)) (32 : Int))))
 [Go.Value.int Go.IntKind.u32 (Go.bits Go.BinOp.or Go.IntKind.u32 i7 (Go.IntKind.wrap Go.IntKind.u32 (Go.SX.ishl Go.IntKind.u64 (Go.IntKind.wrap Go.IntKind.u64 i6) (Int.toNat (Int.tmod (Go.SX.mn (Go.SX.mx a1 (0 : Int)) (1048576 : Int)) (32 : Int))))))])) :
 Int)) ∧
 Int.toNat (i4 + Go.IntKind.wrap Go.IntKind.i64 (Int.tdiv (Go.SX.mn (Go.SX.mx a1 (0 : Int)) (1048576 : Int)) (32 : Int)) + (1 : Int)) <
 List.length
 (List.set l3 (Int.toNat (i4 + Go.IntKind.wrap Go.IntKind.i64 (Int.tdiv (Go.SX.mn (Go.SX.mx a1 (0 : Int)) (1048576 : Int)) (32 : Int))))
 [Go.Value.int Go.IntKind.u32 (Go.bits Go.BinOp.or Go.IntKind.u32 i7 (Go.IntKind.wrap Go.IntKind.u32 (Go.SX.ishl Go.IntKind.u64 (Go.IntKind.wrap Go.IntKind.u64 i6) (Int.toNat (Int.tmod (Go.SX.mn (Go.SX.mx a1 (0 : Int)) (1048576 : Int)) (32 : Int))))))]) ∧
 Go.SX.I64 (i4 + (1 : Int)) ∧
 F1
 [Go.SX.PL.val (Go.Value.int Go.IntKind.i64 (i4 + (1 : Int))),
 Go.SX.PL.row
 (List.set
 (List.set l3 (Int.toNat (i4 + Go.IntKind.wrap Go.IntKind.i64 (Int.tdiv (Go.SX.mn (Go.SX.mx a1 (0 : Int)) (1048576 : Int)) (32 : Int))))
 [Go.Value.int Go.IntKind.u32 (Go.bits Go.BinOp.or Go.IntKind.u32 i7 (Go.IntKind.wrap Go.IntKind.u32 (Go.SX.ishl Go.IntKind.u64 (Go.IntKind.wrap Go.IntKind.u64 i6) (Int.toNat (Int.tmod (Go.SX.mn (Go.SX.mx a1 (0 : Int)) (1048576 : Int)) (32 : Int))))))])
 (Int.toNat (i4 + Go.IntKind.wrap Go.IntKind.i64 (Int.tdiv (Go.SX.mn (Go.SX.mx a1 (0 : Int)) (1048576 : Int)) (32 : Int)) + (1 : Int)))
 [Go.Value.int Go.IntKind.u32 (Go.IntKind.wrap Go.IntKind.u32 (Go.SX.ishr (Go.SX.ishl Go.IntKind.u64 (Go.IntKind.wrap Go.IntKind.u64 i6) (Int.toNat (Int.tmod (Go.SX.mn (Go.SX.mx a1 (0 : Int)) (1048576 : Int)) (32 : Int)))) (32 : Nat)))])]
 W5 ∧
 F2
 [Go.SX.PL.val (Go.Value.int Go.IntKind.i64 (i4 + (1 : Int))),
 Go.SX.PL.row
 (List.set
 (List.set l3 (Int.toNat (i4 + Go.IntKind.wrap Go.IntKind.i64 (Int.tdiv (Go.SX.mn (Go.SX.mx a1 (0 : Int)) (1048576 : Int)) (32 : Int))))
 [Go.Value.int Go.IntKind.u32 (Go.bits Go.BinOp.or Go.IntKind.u32 i7 (Go.IntKind.wrap Go.IntKind.u32 (Go.SX.ishl Go.IntKind.u64 (Go.IntKind.wrap Go.IntKind.u64 i6) (Int.toNat (Int.tmod (Go.SX.mn (Go.SX.mx a1 (0 : Int)) (1048576 : Int)) (32 : Int))))))])
 (Int.toNat (i4 + Go.IntKind.wrap Go.IntKind.i64 (Int.tdiv (Go.SX.mn (Go.SX.mx a1 (0 : Int)) (1048576 : Int)) (32 : Int)) + (1 : Int)))
 [Go.Value.int Go.IntKind.u32 (Go.IntKind.wrap Go.IntKind.u32 (Go.SX.ishr (Go.SX.ishl Go.IntKind.u64 (Go.IntKind.wrap Go.IntKind.u64 i6) (Int.toNat (Int.tmod (Go.SX.mn (Go.SX.mx a1 (0 : Int)) (1048576 : Int)) (32 : Int)))) (32 : Nat)))])]
 W5 <
 F2 [Go.SX.PL.val (Go.Value.int Go.IntKind.i64 i4), Go.SX.PL.row l3] W5) ∧
 (¬i4 < (↑a0_0.2 : Int) →
 ∀ (s8 : Go.SX.Sl) (W9 : Go.SX.PW),
 Go.SX.Ext W5 W9 →
 Go.SX.Own W9 (106 : Nat) (1 : Nat) s8 l3 →
 (∀ (n10 : Nat), Go.Value.ownBlock (Go.SX.Sl.v s8) = Option.some n10 → Array.size (Go.SX.PW.w W0).1 ≤ n10 ∧ (n10 < Array.size (Go.SX.PW.w W5).1 → W5.2 n10)) →
 Go.SX.callN Go.Proofs.Try.prog W0 M (65 : Nat) [Go.SX.Sl.v s8] W9 fun (v11 : Go.Value) (W12 : Go.SX.PW) => ∃ (s13 : Go.SX.Sl), v11 = Go.Value.agg { toList := [Go.SX.Sl.v s13] } ∧ ∀ (W14 : Go.SX.PW), Go.SX.Ext W12 W14 → Post (Go.Value.agg { toList := [Go.SX.Sl.v s13] }) W14)
theorem callnat_Shl (W0 : Go.SX.PW) (M : Nat → Prop) (a0_0 : Go.SX.Sl) (a1 : Int) (Post : Go.Value → Go.SX.PW → Prop) (h : Rnat_Shl W0 M a0_0 a1 Post) : Go.SX.PCallsM Go.Proofs.Try.prog 79 [Go.Value.agg #[Go.SX.Sl.v a0_0], Go.Value.int Go.IntKind.i64 a1] W0 M Post :=
  Go.SX.fn_sound rfl tt_ok tt_in Go.Proofs.Try.func79 (cuts := []) rfl rfl (Nat.le_of_ble_eq_true rfl) (Eq.mpr (by kernel_rfl) h)
def Rnat_guess (W0 : Go.SX.PW) (M : Nat → Prop) (a0 : Go.SX.Sl) (a1 : Go.SX.Sl) (Post : Go.Value → Go.SX.PW → Prop) : Prop :=
 Go.SX.inB a0 (↑a1.2 : Int) ∧
 ∃ (i1 : Int),
 Go.SX.ElemAt W0 a0 (1 : Nat) (Int.toNat (↑a1.2 : Int)) (0 : Nat) [Go.Value.int Go.IntKind.u32 i1] ∧
 Go.SX.I64 ((↑a1.2 : Int) - (1 : Int)) ∧
 Go.SX.inB a0 ((↑a1.2 : Int) - (1 : Int)) ∧
 ∃ (i2 : Int),
 Go.SX.ElemAt W0 a0 (1 : Nat) (Int.toNat ((↑a1.2 : Int) - (1 : Int))) (0 : Nat) [Go.Value.int Go.IntKind.u32 i2] ∧
 Go.SX.I64 ((↑a1.2 : Int) - (1 : Int)) ∧
 Go.SX.inB a1 ((↑a1.2 : Int) - (1 : Int)) ∧
 ∃ (i3 : Int),
 Go.SX.ElemAt W0 a1 (1 : Nat) (Int.toNat ((↑a1.2 : Int) - (1 : Int))) (0 : Nat) [Go.Value.int Go.IntKind.u32 i3] ∧
 Go.IntKind.wrap Go.IntKind.u64 i3 ≠ (0 : Int) ∧
 Go.IntKind.wrap Go.IntKind.u64 i3 ≠ (0 : Int) ∧
 ∃ (F4 : List Go.SX.PL → Go.SX.PW → Prop),
 ∃ (F5 : List Go.SX.PL → Go.SX.PW → Nat),
 F4
 [Go.SX.PL.val (Go.Value.int Go.IntKind.u64 (Go.IntKind.wrap Go.IntKind.u64 (Int.tdiv (Go.bits Go.BinOp.or Go.IntKind.u64 (Go.SX.ishl Go.IntKind.u64 (Go.IntKind.wrap Go.IntKind.u64 i1) (32 : Nat)) (Go.IntKind.wrap Go.IntKind.u64 i2)) (Go.IntKind.wrap Go.IntKind.u64 i3)))),
 Go.SX.PL.val (Go.Value.int Go.IntKind.u64 (Int.tmod (Go.bits Go.BinOp.or Go.IntKind.u64 (Go.SX.ishl Go.IntKind.u64 (Go.IntKind.wrap Go.IntKind.u64 i1) (32 : Nat)) (Go.IntKind.wrap Go.IntKind.u64 i2)) (Go.IntKind.wrap Go.IntKind.u64 i3)))]
 W0 ∧
 ∀ (i6 i7 : Int) (W8 : Go.SX.PW),
 F4 [Go.SX.PL.val (Go.Value.int Go.IntKind.u64 i6), Go.SX.PL.val (Go.Value.int Go.IntKind.u64 i7)] W8 →
 (i7 < (4294967296 : Int) →
 ((4294967296 : Int) ≤ i6 →
 (Bool.true = Bool.true →
 F4 [Go.SX.PL.val (Go.Value.int Go.IntKind.u64 (Go.IntKind.wrap Go.IntKind.u64 (i6 - (1 : Int)))), Go.SX.PL.val (Go.Value.int Go.IntKind.u64 (Go.IntKind.wrap Go.IntKind.u64 (i7 + Go.IntKind.wrap Go.IntKind.u64 i3)))] W8 ∧
 F5 [Go.SX.PL.val (Go.Value.int Go.IntKind.u64 (Go.IntKind.wrap Go.IntKind.u64 (i6 - (1 : Int)))), Go.SX.PL.val (Go.Value.int Go.IntKind.u64 (Go.IntKind.wrap Go.IntKind.u64 (i7 + Go.IntKind.wrap Go.IntKind.u64 i3)))] W8 < F5 [Go.SX.PL.val (Go.Value.int Go.IntKind.u64 i6), Go.SX.PL.val (Go.Value.int Go.IntKind.u64 i7)] W8) ∧
 (Bool.true = Bool.false → ∀ (W9 : Go.SX.PW), Go.SX.Ext W8 W9 → Post (Go.Value.int Go.IntKind.u64 i6) W9)) ∧
 (¬(4294967296 : Int) ≤ i6 →
 Go.SX.I64 ((↑a1.2 : Int) - (2 : Int)) ∧
 Go.SX.inB a1 ((↑a1.2 : Int) - (2 : Int)) ∧
 ∃ (i10 : Int),
 Go.SX.ElemAt W8 a1 (1 : Nat) (Int.toNat ((↑a1.2 : Int) - (2 : Int))) (0 : Nat) [Go.Value.int Go.IntKind.u32 i10] ∧
 Go.SX.I64 ((↑a1.2 : Int) - (2 : Int)) ∧
 Go.SX.inB a0 ((↑a1.2 : Int) - (2 : Int)) ∧
 ∃ (i11 : Int),
 Go.SX.ElemAt W8 a0 (1 : Nat) (Int.toNat ((↑a1.2 : Int) - (2 : Int))) (0 : Nat) [Go.Value.int Go.IntKind.u32 i11] ∧
 (Go.bits Go.BinOp.or Go.IntKind.u64 (Go.SX.ishl Go.IntKind.u64 i7 (32 : Nat)) (Go.IntKind.wrap Go.IntKind.u64 i11) < Go.IntKind.wrap Go.IntKind.u64 (i6 * Go.IntKind.wrap Go.IntKind.u64 i10) →
 F4 [Go.SX.PL.val (Go.Value.int Go.IntKind.u64 (Go.IntKind.wrap Go.IntKind.u64 (i6 - (1 : Int)))), Go.SX.PL.val (Go.Value.int Go.IntKind.u64 (Go.IntKind.wrap Go.IntKind.u64 (i7 + Go.IntKind.wrap Go.IntKind.u64 i3)))] W8 ∧
 F5 [Go.SX.PL.val (Go.Value.int Go.IntKind.u64 (Go.IntKind.wrap Go.IntKind.u64 (i6 - (1 : Int)))), Go.SX.PL.val (Go.Value.int Go.IntKind.u64 (Go.IntKind.wrap Go.IntKind.u64 (i7 + Go.IntKind.wrap Go.IntKind.u64 i3)))] W8 < F5 [Go.SX.PL.val (Go.Value.int Go.IntKind.u64 i6), Go.SX.PL.val (Go.Value.int Go.IntKind.u64 i7)] W8) ∧
 (¬Go.bits Go.BinOp.or Go.IntKind.u64 (Go.SX.ishl Go.IntKind.u64 i7 (32 : Nat)) (Go.IntKind.wrap Go.IntKind.u64 i11) < Go.IntKind.wrap Go.IntKind.u64 (i6 * Go.IntKind.wrap Go.IntKind.u64 i10) → ∀ (W12 : Go.SX.PW), Go.SX.Ext W8 W12 → Post (Go.Value.int Go.IntKind.u64 i6) W12))) ∧
 (¬i7 < (4294967296 : Int) →
 (Bool.false = Bool.true →
 F4 [Go.SX.PL.val (Go.Value.int Go.IntKind.u64 (Go.IntKind.wrap Go.IntKind.u64 (i6 - (1 : Int)))), Go.SX.PL.val (Go.Value.int Go.IntKind.u64 (Go.IntKind.wrap Go.IntKind.u64 (i7 + Go.IntKind.wrap Go.IntKind.u64 i3)))] W8 ∧
 F5 [Go.SX.PL.val (Go.Value.int Go.IntKind.u64 (Go.IntKind.wrap Go.IntKind.u64 (i6 - (1 : Int)))), Go.SX.PL.val (Go.Value.int Go.IntKind.u64 (Go.IntKind.wrap Go.IntKind.u64 (i7 + Go.IntKind.wrap Go.IntKind.u64 i3)))] W8 < F5 [Go.SX.PL.val (Go.Value.int Go.IntKind.u64 i6), Go.SX.PL.val (Go.Value.int Go.IntKind.u64 i7)] W8) ∧
 (Bool.false = Bool.false → ∀ (W13 : Go.SX.PW), Go.SX.Ext W8 W13 → Post (Go.Value.int Go.IntKind.u64 i6) W13))
theorem callnat_guess (W0 : Go.SX.PW) (M : Nat → Prop) (a0 : Go.SX.Sl) (a1 : Go.SX.Sl) (Post : Go.Value → Go.SX.PW → Prop) (h : Rnat_guess W0 M a0 a1 Post) : Go.SX.PCallsM Go.Proofs.Try.prog 88 [Go.SX.Sl.v a0, Go.SX.Sl.v a1] W0 M Post :=
  Go.SX.fn_sound rfl tt_ok tt_in Go.Proofs.Try.func88 (cuts := []) rfl rfl (Nat.le_of_ble_eq_true rfl) (Eq.mpr (by kernel_rfl) h)
def Rnat_take (W0 : Go.SX.PW) (M : Nat → Prop) (a0 : Go.SX.Sl) (a1 : Go.SX.Sl) (a2 : Int) (Post : Go.Value → Go.SX.PW → Prop) : Prop :=
 ∃ (F1 : List Go.SX.PL → Go.SX.PW → Prop),
 ∃ (F2 : List Go.SX.PL → Go.SX.PW → Nat),
 F1 [Go.SX.PL.val (Go.Value.int Go.IntKind.u64 (0 : Int)), Go.SX.PL.val (Go.Value.int Go.IntKind.u64 (0 : Int)), Go.SX.PL.val (Go.Value.int Go.IntKind.i64 (0 : Int))] W0 ∧
 ∀ (i3 i4 i5 : Int) (W6 : Go.SX.PW),
 F1 [Go.SX.PL.val (Go.Value.int Go.IntKind.u64 i3), Go.SX.PL.val (Go.Value.int Go.IntKind.u64 i4), Go.SX.PL.val (Go.Value.int Go.IntKind.i64 i5)] W6 →
 (i5 < (↑a1.2 : Int) →
 Go.SX.inB a1 i5 ∧
 ∃ (i7 : Int),
 Go.SX.ElemAt W6 a1 (1 : Nat) (Int.toNat i5) (0 : Nat) [Go.Value.int Go.IntKind.u32 i7] ∧
 Go.SX.inB a0 i5 ∧
 ∃ (i8 : Int),
 Go.SX.ElemAt W6 a0 (1 : Nat) (Int.toNat i5) (0 : Nat) [Go.Value.int Go.IntKind.u32 i8] ∧
 Go.SX.inB a0 i5 ∧
 Go.SX.storeN W0 M a0 (Int.toNat i5 * (1 : Nat) + (0 : Nat))
 [Go.Value.int Go.IntKind.u32 (Go.IntKind.wrap Go.IntKind.u32 (Go.IntKind.wrap Go.IntKind.u64 (Go.IntKind.wrap Go.IntKind.u64 (Go.IntKind.wrap Go.IntKind.u64 i8 - i4) - Go.bits Go.BinOp.and Go.IntKind.u64 (Go.IntKind.wrap Go.IntKind.u64 (i3 + Go.IntKind.wrap Go.IntKind.u64 (a2 * Go.IntKind.wrap Go.IntKind.u64 i7))) (4294967295 : Int))))] W6 fun (W9 : Go.SX.PW) =>
 Go.SX.I64 (i5 + (1 : Int)) ∧
 F1
 [Go.SX.PL.val (Go.Value.int Go.IntKind.u64 (Go.SX.ishr (Go.IntKind.wrap Go.IntKind.u64 (i3 + Go.IntKind.wrap Go.IntKind.u64 (a2 * Go.IntKind.wrap Go.IntKind.u64 i7))) (32 : Nat))),
 Go.SX.PL.val (Go.Value.int Go.IntKind.u64 (Go.SX.ishr (Go.IntKind.wrap Go.IntKind.u64 (Go.IntKind.wrap Go.IntKind.u64 (Go.IntKind.wrap Go.IntKind.u64 i8 - i4) - Go.bits Go.BinOp.and Go.IntKind.u64 (Go.IntKind.wrap Go.IntKind.u64 (i3 + Go.IntKind.wrap Go.IntKind.u64 (a2 * Go.IntKind.wrap Go.IntKind.u64 i7))) (4294967295 : Int))) (63 : Nat))),
 Go.SX.PL.val (Go.Value.int Go.IntKind.i64 (i5 + (1 : Int)))]
 W9 ∧
 F2
 [Go.SX.PL.val (Go.Value.int Go.IntKind.u64 (Go.SX.ishr (Go.IntKind.wrap Go.IntKind.u64 (i3 + Go.IntKind.wrap Go.IntKind.u64 (a2 * Go.IntKind.wrap Go.IntKind.u64 i7))) (32 : Nat))),
 Go.SX.PL.val (Go.Value.int Go.IntKind.u64 (Go.SX.ishr (Go.IntKind.wrap Go.IntKind.u64 (Go.IntKind.wrap Go.IntKind.u64 (Go.IntKind.wrap Go.IntKind.u64 i8 - i4) - Go.bits Go.BinOp.and Go.IntKind.u64 (Go.IntKind.wrap Go.IntKind.u64 (i3 + Go.IntKind.wrap Go.IntKind.u64 (a2 * Go.IntKind.wrap Go.IntKind.u64 i7))) (4294967295 : Int))) (63 : Nat))),
 Go.SX.PL.val (Go.Value.int Go.IntKind.i64 (i5 + (1 : Int)))]
 W9 <
 F2 [Go.SX.PL.val (Go.Value.int Go.IntKind.u64 i3), Go.SX.PL.val (Go.Value.int Go.IntKind.u64 i4), Go.SX.PL.val (Go.Value.int Go.IntKind.i64 i5)] W6) ∧
 (¬i5 < (↑a1.2 : Int) →
 Go.SX.inB a0 (↑a1.2 : Int) ∧
 ∃ (i10 : Int),
 Go.SX.ElemAt W6 a0 (1 : Nat) (Int.toNat (↑a1.2 : Int)) (0 : Nat) [Go.Value.int Go.IntKind.u32 i10] ∧
 Go.SX.inB a0 (↑a1.2 : Int) ∧
 Go.SX.storeN W0 M a0 (Int.toNat (↑a1.2 : Int) * (1 : Nat) + (0 : Nat)) [Go.Value.int Go.IntKind.u32 (Go.IntKind.wrap Go.IntKind.u32 (Go.IntKind.wrap Go.IntKind.u64 (Go.IntKind.wrap Go.IntKind.u64 (Go.IntKind.wrap Go.IntKind.u64 i10 - i4) - i3)))] W6 fun (W11 : Go.SX.PW) =>
 ∀ (W12 : Go.SX.PW), Go.SX.Ext W11 W12 → Post (Go.Value.bool (Decidable.decide (Go.SX.ishr (Go.IntKind.wrap Go.IntKind.u64 (Go.IntKind.wrap Go.IntKind.u64 (Go.IntKind.wrap Go.IntKind.u64 i10 - i4) - i3)) (63 : Nat) = (1 : Int)))) W12)
theorem callnat_take (W0 : Go.SX.PW) (M : Nat → Prop) (a0 : Go.SX.Sl) (a1 : Go.SX.Sl) (a2 : Int) (Post : Go.Value → Go.SX.PW → Prop) (h : Rnat_take W0 M a0 a1 a2 Post) : Go.SX.PCallsM Go.Proofs.Try.prog 89 [Go.SX.Sl.v a0, Go.SX.Sl.v a1, Go.Value.int Go.IntKind.u64 a2] W0 M Post :=
  Go.SX.fn_sound rfl tt_ok tt_in Go.Proofs.Try.func89 (cuts := []) rfl rfl (Nat.le_of_ble_eq_true rfl) (Eq.mpr (by kernel_rfl) h)
def Rnat_long (W0 : Go.SX.PW) (M : Nat → Prop) (a0 : Go.SX.Sl) (a1 : Go.SX.Sl) (Post : Go.Value → Go.SX.PW → Prop) : Prop :=
 Go.SX.I64 ((↑a0.2 : Int) - (↑a1.2 : Int)) ∧
 ((↑a0.2 : Int) - (↑a1.2 : Int) = (↑a0.2 : Int) - (↑a1.2 : Int) ∧ (0 : Int) ≤ (↑a0.2 : Int) - (↑a1.2 : Int) ∧ ((↑a0.2 : Int) - (↑a1.2 : Int)) * (↑(4 : Nat) : Int) ≤ (281474976710656 : Int)) ∧
 Go.SX.I64 ((↑a0.2 : Int) - (↑a1.2 : Int)) ∧
 Go.SX.I64 ((↑a0.2 : Int) - (↑a1.2 : Int) - (1 : Int)) ∧
 ∃ (F1 : List Go.SX.PL → Go.SX.PW → Prop),
 ∃ (F2 : List Go.SX.PL → Go.SX.PW → Nat),
 F1 [Go.SX.PL.val (Go.Value.int Go.IntKind.i64 ((↑a0.2 : Int) - (↑a1.2 : Int) - (1 : Int))), Go.SX.PL.row (List.replicate (Int.toNat ((↑a0.2 : Int) - (↑a1.2 : Int))) [Go.Value.int Go.IntKind.u32 (0 : Int)])] W0 ∧
 ∀ (l3 : List (List Go.Value)) (i4 : Int) (W5 : Go.SX.PW),
 F1 [Go.SX.PL.val (Go.Value.int Go.IntKind.i64 i4), Go.SX.PL.row l3] W5 →
 ((0 : Int) ≤ i4 →
 Go.SX.I64 (i4 + (↑a1.2 : Int)) ∧
 Go.SX.I64 (i4 + (↑a1.2 : Int) + (1 : Int)) ∧
 ((0 : Int) ≤ i4 ∧ i4 ≤ i4 + (↑a1.2 : Int) + (1 : Int) ∧ i4 + (↑a1.2 : Int) + (1 : Int) ≤ (↑a0.3 : Int)) ∧
 Go.SX.callN Go.Proofs.Try.prog W0 M (88 : Nat) [Go.SX.Sl.v (Go.SX.Sl.cut { A := Go.SX.Sl.A a0, n := Go.SX.Sl.n a0, c := Go.SX.Sl.c a0 } (Go.SX.TyI.size Go.Proofs.Ytcffcndpefaalaa.ty106) (Int.toNat i4) (Int.toNat (i4 + (↑a1.2 : Int) + (1 : Int)))), Go.SX.Sl.v a1] W5 fun (v6 : Go.Value) (W7 : Go.SX.PW) =>
 ∃ (i8 : Int),
 v6 = Go.Value.int Go.IntKind.u64 i8 ∧
 Go.SX.I64 (i4 + (↑a1.2 : Int)) ∧
 Go.SX.I64 (i4 + (↑a1.2 : Int) + (1 : Int)) ∧
 ((0 : Int) ≤ i4 ∧ i4 ≤ i4 + (↑a1.2 : Int) + (1 : Int) ∧ i4 + (↑a1.2 : Int) + (1 : Int) ≤ (↑a0.3 : Int)) ∧
 Go.SX.callN Go.Proofs.Try.prog W0 M (89 : Nat) [Go.SX.Sl.v (Go.SX.Sl.cut { A := Go.SX.Sl.A a0, n := Go.SX.Sl.n a0, c := Go.SX.Sl.c a0 } (Go.SX.TyI.size Go.Proofs.Ytcffcndpefaalaa.ty106) (Int.toNat i4) (Int.toNat (i4 + (↑a1.2 : Int) + (1 : Int)))), Go.SX.Sl.v a1, Go.Value.int Go.IntKind.u64 i8] W7 fun (v9 : Go.Value) (W10 : Go.SX.PW) =>
 ∃ (b11 : Bool),
 v9 = Go.Value.bool b11 ∧
 (b11 = Bool.true →
 ∃ (F12 : List Go.SX.PL → Go.SX.PW → Prop),
 ∃ (F13 : List Go.SX.PL → Go.SX.PW → Nat),
 F12 [Go.SX.PL.val (Go.Value.int Go.IntKind.u64 (0 : Int)), Go.SX.PL.val (Go.Value.int Go.IntKind.i64 (0 : Int))] W10 ∧
 ∀ (i14 i15 : Int) (W16 : Go.SX.PW),
 F12 [Go.SX.PL.val (Go.Value.int Go.IntKind.u64 i14), Go.SX.PL.val (Go.Value.int Go.IntKind.i64 i15)] W16 →
 (i15 < (↑a1.2 : Int) →
 Go.SX.inB a1 i15 ∧
 ∃ (i17 : Int),
 Go.SX.ElemAt W16 a1 (1 : Nat) (Int.toNat i15) (0 : Nat) [Go.Value.int Go.IntKind.u32 i17] ∧
 Go.SX.I64 (i15 + i4) ∧
 Go.SX.inB a0 (i15 + i4) ∧
 ∃ (i18 : Int),
 Go.SX.ElemAt W16 a0 (1 : Nat) (Int.toNat (i15 + i4)) (0 : Nat) [Go.Value.int Go.IntKind.u32 i18] ∧
 Go.SX.I64 (i15 + i4) ∧
 Go.SX.inB a0 (i15 + i4) ∧
 Go.SX.storeN W0 M a0 (Int.toNat (i15 + i4) * (1 : Nat) + (0 : Nat)) [Go.Value.int Go.IntKind.u32 (Go.IntKind.wrap Go.IntKind.u32 (Go.IntKind.wrap Go.IntKind.u64 (i14 + Go.IntKind.wrap Go.IntKind.u64 (Go.IntKind.wrap Go.IntKind.u64 i18 + Go.IntKind.wrap Go.IntKind.u64 i17))))] W16 fun (W19 : Go.SX.PW) =>
 Go.SX.I64 (i15 + (1 : Int)) ∧
 F12 [Go.SX.PL.val (Go.Value.int Go.IntKind.u64 (Go.SX.ishr (Go.IntKind.wrap Go.IntKind.u64 (i14 + Go.IntKind.wrap Go.IntKind.u64 (Go.IntKind.wrap Go.IntKind.u64 i18 + Go.IntKind.wrap Go.IntKind.u64 i17))) (32 : Nat))), Go.SX.PL.val (Go.Value.int Go.IntKind.i64 (i15 + (1 : Int)))] W19 ∧
 F13 [Go.SX.PL.val (Go.Value.int Go.IntKind.u64 (Go.SX.ishr (Go.IntKind.wrap Go.IntKind.u64 (i14 + Go.IntKind.wrap Go.IntKind.u64 (Go.IntKind.wrap Go.IntKind.u64 i18 + Go.IntKind.wrap Go.IntKind.u64 i17))) (32 : Nat))), Go.SX.PL.val (Go.Value.int Go.IntKind.i64 (i15 + (1 : Int)))] W19 <
 F13 [Go.SX.PL.val (Go.Value.int Go.IntKind.u64 i14), Go.SX.PL.val (Go.Value.int Go.IntKind.i64 i15)] W16) ∧
 (¬i15 < (↑a1.2 : Int) →
 Go.SX.I64 (i4 + (↑a1.2 : Int)) ∧
 Go.SX.inB a0 (i4 + (↑a1.2 : Int)) ∧
 ∃ (i20 : Int),
 Go.SX.ElemAt W16 a0 (1 : Nat) (Int.toNat (i4 + (↑a1.2 : Int))) (0 : Nat) [Go.Value.int Go.IntKind.u32 i20] ∧
 Go.SX.inB a0 (i4 + (↑a1.2 : Int)) ∧
 Go.SX.storeN W0 M a0 (Int.toNat (i4 + (↑a1.2 : Int)) * (1 : Nat) + (0 : Nat)) [Go.Value.int Go.IntKind.u32 (Go.IntKind.wrap Go.IntKind.u32 (i20 + Go.IntKind.wrap Go.IntKind.u32 i14))] W16 fun (W21 : Go.SX.PW) =>
 ((0 : Int) ≤ i4 ∧ i4 < (↑(List.length l3) : Int)) ∧
 Int.toNat i4 < List.length l3 ∧
 Go.SX.I64 (i4 - (1 : Int)) ∧
 F1 [Go.SX.PL.val (Go.Value.int Go.IntKind.i64 (i4 - (1 : Int))), Go.SX.PL.row (List.set l3 (Int.toNat i4) [Go.Value.int Go.IntKind.u32 (Go.IntKind.wrap Go.IntKind.u32 (Go.IntKind.wrap Go.IntKind.u64 (i8 - (1 : Int))))])] W21 ∧
 F2 [Go.SX.PL.val (Go.Value.int Go.IntKind.i64 (i4 - (1 : Int))), Go.SX.PL.row (List.set l3 (Int.toNat i4) [Go.Value.int Go.IntKind.u32 (Go.IntKind.wrap Go.IntKind.u32 (Go.IntKind.wrap Go.IntKind.u64 (i8 - (1 : Int))))])] W21 < F2 [Go.SX.PL.val (Go.Value.int Go.IntKind.i64 i4), Go.SX.PL.row l3] W5)) ∧
 (b11 = Bool.false →
 ((0 : Int) ≤ i4 ∧ i4 < (↑(List.length l3) : Int)) ∧
 Int.toNat i4 < List.length l3 ∧
 Go.SX.I64 (i4 - (1 : Int)) ∧
 F1 [Go.SX.PL.val (Go.Value.int Go.IntKind.i64 (i4 - (1 : Int))), Go.SX.PL.row (List.set l3 (Int.toNat i4) [Go.Value.int Go.IntKind.u32 (Go.IntKind.wrap Go.IntKind.u32 i8)])] W10 ∧
 F2 [Go.SX.PL.val (Go.Value.int Go.IntKind.i64 (i4 - (1 : Int))), Go.SX.PL.row (List.set l3 (Int.toNat i4) [Go.Value.int Go.IntKind.u32 (Go.IntKind.wrap Go.IntKind.u32 i8)])] W10 < F2 [Go.SX.PL.val (Go.Value.int Go.IntKind.i64 i4), Go.SX.PL.row l3] W5)) ∧
 (¬(0 : Int) ≤ i4 → ∀ (s22 : Go.SX.Sl) (W23 : Go.SX.PW), Go.SX.Ext W5 W23 → Go.SX.Own W23 (106 : Nat) (1 : Nat) s22 l3 → (∀ (n24 : Nat), Go.Value.ownBlock (Go.SX.Sl.v s22) = Option.some n24 → Array.size (Go.SX.PW.w W0).1 ≤ n24 ∧ (n24 < Array.size (Go.SX.PW.w W5).1 → W5.2 n24)) → ∀ (W25 : Go.SX.PW), Go.SX.Ext W23 W25 → Post (Go.SX.Sl.v s22) W25)
theorem callnat_long (W0 : Go.SX.PW) (M : Nat → Prop) (a0 : Go.SX.Sl) (a1 : Go.SX.Sl) (Post : Go.Value → Go.SX.PW → Prop) (h : Rnat_long W0 M a0 a1 Post) : Go.SX.PCallsM Go.Proofs.Try.prog 80 [Go.SX.Sl.v a0, Go.SX.Sl.v a1] W0 M Post :=
  Go.SX.fn_sound rfl tt_ok tt_in Go.Proofs.Try.func80 (cuts := []) rfl rfl (Nat.le_of_ble_eq_true rfl) (Eq.mpr (by kernel_rfl) h)
def Rnat_Div (W0 : Go.SX.PW) (M : Nat → Prop) (a0_0 : Go.SX.Sl) (a1_0 : Go.SX.Sl) (Post : Go.Value → Go.SX.PW → Prop) : Prop :=
 ((↑a1_0.2 : Int) = (0 : Int) → ∀ (W1 : Go.SX.PW), Go.SX.Ext W0 W1 → Post (Go.Value.tuple { toList := [Go.Value.agg { toList := [Go.Value.slice Option.none (0 : Nat) (0 : Nat)] }, Go.Value.agg { toList := [Go.Value.slice Option.none (0 : Nat) (0 : Nat)] }, Go.Value.bool Bool.false] }) W1) ∧
 (¬(↑a1_0.2 : Int) = (0 : Int) →
 Go.SX.callN Go.Proofs.Try.prog W0 M (48 : Nat) [Go.Value.agg { toList := [Go.SX.Sl.v a0_0] }, Go.Value.agg { toList := [Go.SX.Sl.v a1_0] }] W0 fun (v2 : Go.Value) (W3 : Go.SX.PW) =>
 ∃ (i4 : Int),
 v2 = Go.Value.int Go.IntKind.i64 i4 ∧
 (i4 < (0 : Int) → ∀ (W5 : Go.SX.PW), Go.SX.Ext W3 W5 → Post (Go.Value.tuple { toList := [Go.Value.agg { toList := [Go.Value.slice Option.none (0 : Nat) (0 : Nat)] }, Go.Value.agg { toList := [Go.SX.Sl.v a0_0] }, Go.Value.bool Bool.true] }) W5) ∧
 (¬i4 < (0 : Int) →
 ((↑a1_0.2 : Int) = (1 : Int) →
 Go.SX.callN Go.Proofs.Try.prog W0 M (63 : Nat) [Go.SX.Sl.v a0_0] W3 fun (v6 : Go.Value) (W7 : Go.SX.PW) =>
 ∃ (s8 : Go.SX.Sl),
 v6 = Go.SX.Sl.v s8 ∧
 Go.SX.inB a1_0 (0 : Int) ∧
 ∃ (i9 : Int),
 Go.SX.ElemAt W7 a1_0 (1 : Nat) (0 : Nat) (0 : Nat) [Go.Value.int Go.IntKind.u32 i9] ∧
 Go.SX.callN Go.Proofs.Try.prog W0 M (64 : Nat) [Go.SX.Sl.v s8, Go.Value.int Go.IntKind.u32 i9] W7 fun (v10 : Go.Value) (W11 : Go.SX.PW) =>
 ∃ (i12 : Int),
 v10 = Go.Value.int Go.IntKind.u32 i12 ∧
 Go.SX.callN Go.Proofs.Try.prog W0 M (65 : Nat) [Go.SX.Sl.v s8] W11 fun (v13 : Go.Value) (W14 : Go.SX.PW) =>
 ∃ (s15 : Go.SX.Sl),
 v13 = Go.Value.agg { toList := [Go.SX.Sl.v s15] } ∧
 Go.SX.callN Go.Proofs.Try.prog W0 M (47 : Nat) [Go.Value.int Go.IntKind.u64 (Go.IntKind.wrap Go.IntKind.u64 i12)] W14 fun (v16 : Go.Value) (W17 : Go.SX.PW) =>
 ∃ (s18 : Go.SX.Sl), v16 = Go.Value.agg { toList := [Go.SX.Sl.v s18] } ∧ ∀ (W19 : Go.SX.PW), Go.SX.Ext W17 W19 → Post (Go.Value.tuple { toList := [Go.Value.agg { toList := [Go.SX.Sl.v s15] }, Go.Value.agg { toList := [Go.SX.Sl.v s18] }, Go.Value.bool Bool.true] }) W19) ∧
 (¬(↑a1_0.2 : Int) = (1 : Int) →
 Go.SX.I64 ((↑a1_0.2 : Int) - (1 : Int)) ∧
 Go.SX.inB a1_0 ((↑a1_0.2 : Int) - (1 : Int)) ∧
 ∃ (i20 : Int),
 Go.SX.ElemAt W3 a1_0 (1 : Nat) (Int.toNat ((↑a1_0.2 : Int) - (1 : Int))) (0 : Nat) [Go.Value.int Go.IntKind.u32 i20] ∧
 Go.SX.callN Go.Proofs.Try.prog W0 M (78 : Nat) [Go.Value.int Go.IntKind.u32 i20] W3 fun (v21 : Go.Value) (W22 : Go.SX.PW) =>
 ∃ (i23 : Int),
 v21 = Go.Value.int Go.IntKind.i64 i23 ∧
 Go.SX.I64 ((↑a0_0.2 : Int) + (1 : Int)) ∧
 Go.SX.dup (1 : Nat)
 (Go.SX.callN Go.Proofs.Try.prog W0 M (79 : Nat) [Go.Value.agg { toList := [Go.SX.Sl.v a0_0] }, Go.Value.int Go.IntKind.i64 i23] W22 fun (v24 : Go.Value) (W25 : Go.SX.PW) =>
 ∃ (s26 : Go.SX.Sl),
 v24 = Go.Value.agg { toList := [Go.SX.Sl.v s26] } ∧
 Go.SX.appN W0 M (106 : Nat) (1 : Nat) (4 : Nat) s26 [[Go.Value.int Go.IntKind.u32 (0 : Int)], [Go.Value.int Go.IntKind.u32 (0 : Int)]] W25 fun (s27 : Go.SX.Sl) (W28 : Go.SX.PW) =>
 ((0 : Int) ≤ (0 : Int) ∧ (0 : Int) ≤ (↑a0_0.2 : Int) + (1 : Int) ∧ (↑a0_0.2 : Int) + (1 : Int) ≤ (↑s27.3 : Int)) ∧
 Go.SX.callN Go.Proofs.Try.prog W0 M (79 : Nat) [Go.Value.agg { toList := [Go.SX.Sl.v a1_0] }, Go.Value.int Go.IntKind.i64 i23] W28 fun (v29 : Go.Value) (W30 : Go.SX.PW) =>
 ∃ (s31 : Go.SX.Sl),
 v29 = Go.Value.agg { toList := [Go.SX.Sl.v s31] } ∧
 Go.SX.callN Go.Proofs.Try.prog W0 M (80 : Nat) [Go.SX.Sl.v (Go.SX.Sl.cut { A := Go.SX.Sl.A s27, n := Go.SX.Sl.n s27, c := Go.SX.Sl.c s27 } (Go.SX.TyI.size Go.Proofs.Ytcffcndpefaalaa.ty106) (Int.toNat (0 : Int)) (Int.toNat ((↑a0_0.2 : Int) + (1 : Int)))), Go.SX.Sl.v s31] W30 fun (v32 : Go.Value) (W33 : Go.SX.PW) =>
 ∃ (s34 : Go.SX.Sl),
 v32 = Go.SX.Sl.v s34 ∧
 Go.SX.callN Go.Proofs.Try.prog W0 M (65 : Nat) [Go.SX.Sl.v s34] W33 fun (v35 : Go.Value) (W36 : Go.SX.PW) =>
 ∃ (s37 : Go.SX.Sl),
 v35 = Go.Value.agg { toList := [Go.SX.Sl.v s37] } ∧
 Go.SX.callN Go.Proofs.Try.prog W0 M (65 : Nat) [Go.SX.Sl.v (Go.SX.Sl.cut { A := Go.SX.Sl.A s27, n := Go.SX.Sl.n s27, c := Go.SX.Sl.c s27 } (Go.SX.TyI.size Go.Proofs.Ytcffcndpefaalaa.ty106) (Int.toNat (0 : Int)) (Int.toNat ((↑a0_0.2 : Int) + (1 : Int))))] W36 fun (v38 : Go.Value) (W39 : Go.SX.PW) =>
 ∃ (s40 : Go.SX.Sl),
 v38 = Go.Value.agg { toList := [Go.SX.Sl.v s40] } ∧
 Go.SX.callN Go.Proofs.Try.prog W0 M (81 : Nat) [Go.Value.agg { toList := [Go.SX.Sl.v s40] }, Go.Value.int Go.IntKind.i64 i23] W39 fun (v41 : Go.Value) (W42 : Go.SX.PW) =>
 ∃ (s43 : Go.SX.Sl), v41 = Go.Value.agg { toList := [Go.SX.Sl.v s43] } ∧ ∀ (W44 : Go.SX.PW), Go.SX.Ext W42 W44 → Post (Go.Value.tuple { toList := [Go.Value.agg { toList := [Go.SX.Sl.v s37] }, Go.Value.agg { toList := [Go.SX.Sl.v s43] }, Go.Value.bool Bool.true] }) W44))))
theorem callnat_Div (W0 : Go.SX.PW) (M : Nat → Prop) (a0_0 : Go.SX.Sl) (a1_0 : Go.SX.Sl) (Post : Go.Value → Go.SX.PW → Prop) (h : Rnat_Div W0 M a0_0 a1_0 Post) : Go.SX.PCallsM Go.Proofs.Try.prog 68 [Go.Value.agg #[Go.SX.Sl.v a0_0], Go.Value.agg #[Go.SX.Sl.v a1_0]] W0 M Post :=
  Go.SX.fn_sound rfl tt_ok tt_in Go.Proofs.Try.func68 (cuts := []) rfl rfl (Nat.le_of_ble_eq_true rfl) (Eq.mpr (by kernel_rfl) h)
def Rnat_Sub (W0 : Go.SX.PW) (M : Nat → Prop) (a0_0 : Go.SX.Sl) (a1_0 : Go.SX.Sl) (Post : Go.Value → Go.SX.PW → Prop) : Prop :=
 Go.SX.callN Go.Proofs.Try.prog W0 M (48 : Nat) [Go.Value.agg { toList := [Go.SX.Sl.v a0_0] }, Go.Value.agg { toList := [Go.SX.Sl.v a1_0] }] W0 fun (v1 : Go.Value) (W2 : Go.SX.PW) =>
 ∃ (i3 : Int),
 v1 = Go.Value.int Go.IntKind.i64 i3 ∧
 (i3 < (0 : Int) → ∀ (W4 : Go.SX.PW), Go.SX.Ext W2 W4 → Post (Go.Value.tuple { toList := [Go.Value.agg { toList := [Go.Value.slice Option.none (0 : Nat) (0 : Nat)] }, Go.Value.bool Bool.false] }) W4) ∧
 (¬i3 < (0 : Int) →
 ((↑a0_0.2 : Int) = (↑a0_0.2 : Int) ∧ (0 : Int) ≤ (↑a0_0.2 : Int) ∧ (↑a0_0.2 : Int) * (↑(4 : Nat) : Int) ≤ (281474976710656 : Int)) ∧
 ∃ (F5 : List Go.SX.PL → Go.SX.PW → Prop),
 ∃ (F6 : List Go.SX.PL → Go.SX.PW → Nat),
 F5 [Go.SX.PL.val (Go.Value.int Go.IntKind.u64 (0 : Int)), Go.SX.PL.val (Go.Value.int Go.IntKind.i64 (0 : Int)), Go.SX.PL.row (List.replicate (Int.toNat (↑a0_0.2 : Int)) [Go.Value.int Go.IntKind.u32 (0 : Int)])] W2 ∧
 ∀ (l7 : List (List Go.Value)) (i8 i9 : Int) (W10 : Go.SX.PW),
 F5 [Go.SX.PL.val (Go.Value.int Go.IntKind.u64 i8), Go.SX.PL.val (Go.Value.int Go.IntKind.i64 i9), Go.SX.PL.row l7] W10 →
 (i9 < (↑a0_0.2 : Int) →
 Go.SX.inB a0_0 i9 ∧
 ∃ (i11 : Int),
 Go.SX.ElemAt W10 a0_0 (1 : Nat) (Int.toNat i9) (0 : Nat) [Go.Value.int Go.IntKind.u32 i11] ∧
 (i9 < (↑a1_0.2 : Int) →
 Go.SX.inB a1_0 i9 ∧
 ∃ (i12 : Int),
 Go.SX.ElemAt W10 a1_0 (1 : Nat) (Int.toNat i9) (0 : Nat) [Go.Value.int Go.IntKind.u32 i12] ∧
 ((0 : Int) ≤ i9 ∧ i9 < (↑(List.length l7) : Int)) ∧
 Int.toNat i9 < List.length l7 ∧
 Go.SX.I64 (i9 + (1 : Int)) ∧
 F5
 [Go.SX.PL.val (Go.Value.int Go.IntKind.u64 (Go.SX.ishr (Go.IntKind.wrap Go.IntKind.u64 (Go.IntKind.wrap Go.IntKind.u64 (Go.IntKind.wrap Go.IntKind.u64 i11 - i8) - Go.IntKind.wrap Go.IntKind.u64 i12)) (63 : Nat))), Go.SX.PL.val (Go.Value.int Go.IntKind.i64 (i9 + (1 : Int))),
 Go.SX.PL.row (List.set l7 (Int.toNat i9) [Go.Value.int Go.IntKind.u32 (Go.IntKind.wrap Go.IntKind.u32 (Go.IntKind.wrap Go.IntKind.u64 (Go.IntKind.wrap Go.IntKind.u64 (Go.IntKind.wrap Go.IntKind.u64 i11 - i8) - Go.IntKind.wrap Go.IntKind.u64 i12)))])]
 W10 ∧
 F6
 [Go.SX.PL.val (Go.Value.int Go.IntKind.u64 (Go.SX.ishr (Go.IntKind.wrap Go.IntKind.u64 (Go.IntKind.wrap Go.IntKind.u64 (Go.IntKind.wrap Go.IntKind.u64 i11 - i8) - Go.IntKind.wrap Go.IntKind.u64 i12)) (63 : Nat))), Go.SX.PL.val (Go.Value.int Go.IntKind.i64 (i9 + (1 : Int))),
 Go.SX.PL.row (List.set l7 (Int.toNat i9) [Go.Value.int Go.IntKind.u32 (Go.IntKind.wrap Go.IntKind.u32 (Go.IntKind.wrap Go.IntKind.u64 (Go.IntKind.wrap Go.IntKind.u64 (Go.IntKind.wrap Go.IntKind.u64 i11 - i8) - Go.IntKind.wrap Go.IntKind.u64 i12)))])]
 W10 <
 F6 [Go.SX.PL.val (Go.Value.int Go.IntKind.u64 i8), Go.SX.PL.val (Go.Value.int Go.IntKind.i64 i9), Go.SX.PL.row l7] W10) ∧
 (¬i9 < (↑a1_0.2 : Int) →
 ((0 : Int) ≤ i9 ∧ i9 < (↑(List.length l7) : Int)) ∧
 Int.toNat i9 < List.length l7 ∧
 Go.SX.I64 (i9 + (1 : Int)) ∧
 F5
 [Go.SX.PL.val (Go.Value.int Go.IntKind.u64 (Go.SX.ishr (Go.IntKind.wrap Go.IntKind.u64 (Go.IntKind.wrap Go.IntKind.u64 i11 - i8)) (63 : Nat))), Go.SX.PL.val (Go.Value.int Go.IntKind.i64 (i9 + (1 : Int))),
 Go.SX.PL.row (List.set l7 (Int.toNat i9) [Go.Value.int Go.IntKind.u32 (Go.IntKind.wrap Go.IntKind.u32 (Go.IntKind.wrap Go.IntKind.u64 (Go.IntKind.wrap Go.IntKind.u64 i11 - i8)))])]
 W10 ∧
 F6
 [Go.SX.PL.val (Go.Value.int Go.IntKind.u64 (Go.SX.ishr (Go.IntKind.wrap Go.IntKind.u64 (Go.IntKind.wrap Go.IntKind.u64 i11 - i8)) (63 : Nat))), Go.SX.PL.val (Go.Value.int Go.IntKind.i64 (i9 + (1 : Int))),
 Go.SX.PL.row (List.set l7 (Int.toNat i9) [Go.Value.int Go.IntKind.u32 (Go.IntKind.wrap Go.IntKind.u32 (Go.IntKind.wrap Go.IntKind.u64 (Go.IntKind.wrap Go.IntKind.u64 i11 - i8)))])]
 W10 <
 F6 [Go.SX.PL.val (Go.Value.int Go.IntKind.u64 i8), Go.SX.PL.val (Go.Value.int Go.IntKind.i64 i9), Go.SX.PL.row l7] W10)) ∧
 (¬i9 < (↑a0_0.2 : Int) →
 ∀ (s13 : Go.SX.Sl) (W14 : Go.SX.PW),
 Go.SX.Ext W10 W14 →
 Go.SX.Own W14 (106 : Nat) (1 : Nat) s13 l7 →
 (∀ (n15 : Nat), Go.Value.ownBlock (Go.SX.Sl.v s13) = Option.some n15 → Array.size (Go.SX.PW.w W0).1 ≤ n15 ∧ (n15 < Array.size (Go.SX.PW.w W10).1 → W10.2 n15)) →
 Go.SX.callN Go.Proofs.Try.prog W0 M (65 : Nat) [Go.SX.Sl.v s13] W14 fun (v16 : Go.Value) (W17 : Go.SX.PW) => ∃ (s18 : Go.SX.Sl), v16 = Go.Value.agg { toList := [Go.SX.Sl.v s18] } ∧ ∀ (W19 : Go.SX.PW), Go.SX.Ext W17 W19 → Post (Go.Value.tuple { toList := [Go.Value.agg { toList := [Go.SX.Sl.v s18] }, Go.Value.bool Bool.true] }) W19))
theorem callnat_Sub (W0 : Go.SX.PW) (M : Nat → Prop) (a0_0 : Go.SX.Sl) (a1_0 : Go.SX.Sl) (Post : Go.Value → Go.SX.PW → Prop) (h : Rnat_Sub W0 M a0_0 a1_0 Post) : Go.SX.PCallsM Go.Proofs.Try.prog 71 [Go.Value.agg #[Go.SX.Sl.v a0_0], Go.Value.agg #[Go.SX.Sl.v a1_0]] W0 M Post :=
  Go.SX.fn_sound rfl tt_ok tt_in Go.Proofs.Try.func71 (cuts := []) rfl rfl (Nat.le_of_ble_eq_true rfl) (Eq.mpr (by kernel_rfl) h)
def Rnat_Gcd (W0 : Go.SX.PW) (M : Nat → Prop) (a0_0 : Go.SX.Sl) (a1_0 : Go.SX.Sl) (Post : Go.Value → Go.SX.PW → Prop) : Prop :=
 ∃ (F1 : List Go.SX.PL → Go.SX.PW → Prop),
 ∃ (F2 : List Go.SX.PL → Go.SX.PW → Nat),
 F1 [Go.SX.PL.cells [Go.SX.Sl.v a0_0], Go.SX.PL.cells [Go.SX.Sl.v a1_0]] W0 ∧
 ∀ (s3 s4 : Go.SX.Sl) (W5 : Go.SX.PW),
 F1 [Go.SX.PL.cells [Go.SX.Sl.v s3], Go.SX.PL.cells [Go.SX.Sl.v s4]] W5 →
 ((2 : Int) < (↑s4.2 : Int) →
 Go.SX.callN Go.Proofs.Try.prog W0 M (68 : Nat) [Go.Value.agg { toList := [Go.SX.Sl.v s3] }, Go.Value.agg { toList := [Go.SX.Sl.v s4] }] W5 fun (v6 : Go.Value) (W7 : Go.SX.PW) =>
 ∃ (s8 : Go.SX.Sl),
 ∃ (s9 : Go.SX.Sl),
 ∃ (b10 : Bool), v6 = Go.Value.tuple { toList := [Go.Value.agg { toList := [Go.SX.Sl.v s8] }, Go.Value.agg { toList := [Go.SX.Sl.v s9] }, Go.Value.bool b10] } ∧ F1 [Go.SX.PL.cells [Go.SX.Sl.v s4], Go.SX.PL.cells [Go.SX.Sl.v s9]] W7 ∧ F2 [Go.SX.PL.cells [Go.SX.Sl.v s4], Go.SX.PL.cells [Go.SX.Sl.v s9]] W7 < F2 [Go.SX.PL.cells [Go.SX.Sl.v s3], Go.SX.PL.cells [Go.SX.Sl.v s4]] W5) ∧
 (¬(2 : Int) < (↑s4.2 : Int) →
 ((↑s4.2 : Int) = (0 : Int) → ∀ (W11 : Go.SX.PW), Go.SX.Ext W5 W11 → Post (Go.Value.agg { toList := [Go.SX.Sl.v s3] }) W11) ∧
 (¬(↑s4.2 : Int) = (0 : Int) →
 Go.SX.callN Go.Proofs.Try.prog W0 M (68 : Nat) [Go.Value.agg { toList := [Go.SX.Sl.v s3] }, Go.Value.agg { toList := [Go.SX.Sl.v s4] }] W5 fun (v12 : Go.Value) (W13 : Go.SX.PW) =>
 ∃ (s14 : Go.SX.Sl),
 ∃ (s15 : Go.SX.Sl),
 ∃ (b16 : Bool),
 v12 = Go.Value.tuple { toList := [Go.Value.agg { toList := [Go.SX.Sl.v s14] }, Go.Value.agg { toList := [Go.SX.Sl.v s15] }, Go.Value.bool b16] } ∧
 Go.SX.callN Go.Proofs.Try.prog W0 M (76 : Nat) [Go.Value.agg { toList := [Go.SX.Sl.v s4] }] W13 fun (v17 : Go.Value) (W18 : Go.SX.PW) =>
 ∃ (i19 : Int),
 v17 = Go.Value.int Go.IntKind.u64 i19 ∧
 Go.SX.callN Go.Proofs.Try.prog W0 M (76 : Nat) [Go.Value.agg { toList := [Go.SX.Sl.v s15] }] W18 fun (v20 : Go.Value) (W21 : Go.SX.PW) =>
 ∃ (i22 : Int),
 v20 = Go.Value.int Go.IntKind.u64 i22 ∧
 ∃ (F23 : List Go.SX.PL → Go.SX.PW → Prop),
 ∃ (F24 : List Go.SX.PL → Go.SX.PW → Nat),
 F23 [Go.SX.PL.val (Go.Value.int Go.IntKind.u64 i19), Go.SX.PL.val (Go.Value.int Go.IntKind.u64 i22)] W21 ∧
 ∀ (i25 i26 : Int) (W27 : Go.SX.PW),
 F23 [Go.SX.PL.val (Go.Value.int Go.IntKind.u64 i25), Go.SX.PL.val (Go.Value.int Go.IntKind.u64 i26)] W27 →
 (i26 ≠ (0 : Int) →
 i26 ≠ (0 : Int) ∧
 F23 [Go.SX.PL.val (Go.Value.int Go.IntKind.u64 i26), Go.SX.PL.val (Go.Value.int Go.IntKind.u64 (Int.tmod i25 i26))] W27 ∧
 F24 [Go.SX.PL.val (Go.Value.int Go.IntKind.u64 i26), Go.SX.PL.val (Go.Value.int Go.IntKind.u64 (Int.tmod i25 i26))] W27 < F24 [Go.SX.PL.val (Go.Value.int Go.IntKind.u64 i25), Go.SX.PL.val (Go.Value.int Go.IntKind.u64 i26)] W27) ∧
 (¬i26 ≠ (0 : Int) → Go.SX.callN Go.Proofs.Try.prog W0 M (47 : Nat) [Go.Value.int Go.IntKind.u64 i25] W27 fun (v28 : Go.Value) (W29 : Go.SX.PW) => ∃ (s30 : Go.SX.Sl), v28 = Go.Value.agg { toList := [Go.SX.Sl.v s30] } ∧ ∀ (W31 : Go.SX.PW), Go.SX.Ext W29 W31 → Post (Go.Value.agg { toList := [Go.SX.Sl.v s30] }) W31)))
theorem callnat_Gcd (W0 : Go.SX.PW) (M : Nat → Prop) (a0_0 : Go.SX.Sl) (a1_0 : Go.SX.Sl) (Post : Go.Value → Go.SX.PW → Prop) (h : Rnat_Gcd W0 M a0_0 a1_0 Post) : Go.SX.PCallsM Go.Proofs.Try.prog 61 [Go.Value.agg #[Go.SX.Sl.v a0_0], Go.Value.agg #[Go.SX.Sl.v a1_0]] W0 M Post :=
  Go.SX.fn_sound rfl tt_ok tt_in Go.Proofs.Try.func61 (cuts := []) rfl rfl (Nat.le_of_ble_eq_true rfl) (Eq.mpr (by kernel_rfl) h)
def Rnat_Nat_Low (W0 : Go.SX.PW) (M : Nat → Prop) (a0_0 : Go.SX.Sl) (Post : Go.Value → Go.SX.PW → Prop) : Prop :=
 ∃ (F1 : List Go.SX.PL → Go.SX.PW → Prop),
 ∃ (F2 : List Go.SX.PL → Go.SX.PW → Nat),
 F1 [Go.SX.PL.val (Go.Value.int Go.IntKind.u64 (0 : Int)), Go.SX.PL.val (Go.Value.int Go.IntKind.i64 (0 : Int))] W0 ∧
 ∀ (i3 i4 : Int) (W5 : Go.SX.PW),
 F1 [Go.SX.PL.val (Go.Value.int Go.IntKind.u64 i3), Go.SX.PL.val (Go.Value.int Go.IntKind.i64 i4)] W5 →
 (i4 < Go.SX.mn (↑a0_0.2 : Int) (2 : Int) →
 Go.SX.inB a0_0 i4 ∧
 ∃ (i6 : Int),
 Go.SX.ElemAt W5 a0_0 (1 : Nat) (Int.toNat i4) (0 : Nat) [Go.Value.int Go.IntKind.u32 i6] ∧
 Go.SX.I64 ((32 : Int) * i4) ∧
 ((0 : Int) ≤ (32 : Int) * i4 ∧ (32 : Int) * i4 ≤ (↑(Go.IntKind.bits Go.IntKind.u64) : Int)) ∧
 Go.SX.I64 (i4 + (1 : Int)) ∧
 F1 [Go.SX.PL.val (Go.Value.int Go.IntKind.u64 (Go.bits Go.BinOp.or Go.IntKind.u64 i3 (Go.SX.ishl Go.IntKind.u64 (Go.IntKind.wrap Go.IntKind.u64 i6) (Int.toNat ((32 : Int) * i4))))), Go.SX.PL.val (Go.Value.int Go.IntKind.i64 (i4 + (1 : Int)))] W5 ∧
 F2 [Go.SX.PL.val (Go.Value.int Go.IntKind.u64 (Go.bits Go.BinOp.or Go.IntKind.u64 i3 (Go.SX.ishl Go.IntKind.u64 (Go.IntKind.wrap Go.IntKind.u64 i6) (Int.toNat ((32 : Int) * i4))))), Go.SX.PL.val (Go.Value.int Go.IntKind.i64 (i4 + (1 : Int)))] W5 < F2 [Go.SX.PL.val (Go.Value.int Go.IntKind.u64 i3), Go.SX.PL.val (Go.Value.int Go.IntKind.i64 i4)] W5) ∧
 (¬i4 < Go.SX.mn (↑a0_0.2 : Int) (2 : Int) → ∀ (W7 : Go.SX.PW), Go.SX.Ext W5 W7 → Post (Go.Value.int Go.IntKind.u64 i3) W7)
theorem callnat_Nat_Low (W0 : Go.SX.PW) (M : Nat → Prop) (a0_0 : Go.SX.Sl) (Post : Go.Value → Go.SX.PW → Prop) (h : Rnat_Nat_Low W0 M a0_0 Post) : Go.SX.PCallsM Go.Proofs.Try.prog 76 [Go.Value.agg #[Go.SX.Sl.v a0_0]] W0 M Post :=
  Go.SX.fn_sound rfl tt_ok tt_in Go.Proofs.Try.func76 (cuts := []) rfl rfl (Nat.le_of_ble_eq_true rfl) (Eq.mpr (by kernel_rfl) h)
def Rnat_Nat_Bits (W0 : Go.SX.PW) (M : Nat → Prop) (a0_0 : Go.SX.Sl) (Post : Go.Value → Go.SX.PW → Prop) : Prop :=
 ((↑a0_0.2 : Int) = (0 : Int) → ∀ (W1 : Go.SX.PW), Go.SX.Ext W0 W1 → Post (Go.Value.int Go.IntKind.i64 (0 : Int)) W1) ∧
 (¬(↑a0_0.2 : Int) = (0 : Int) →
 Go.SX.I64 ((↑a0_0.2 : Int) - (1 : Int)) ∧
 Go.SX.I64 ((32 : Int) * ((↑a0_0.2 : Int) - (1 : Int))) ∧
 Go.SX.I64 ((↑a0_0.2 : Int) - (1 : Int)) ∧
 Go.SX.inB a0_0 ((↑a0_0.2 : Int) - (1 : Int)) ∧
 ∃ (i2 : Int),
 Go.SX.ElemAt W0 a0_0 (1 : Nat) (Int.toNat ((↑a0_0.2 : Int) - (1 : Int))) (0 : Nat) [Go.Value.int Go.IntKind.u32 i2] ∧
 Go.SX.callN Go.Proofs.Try.prog W0 M (62 : Nat) [Go.Value.int Go.IntKind.u32 i2] W0 fun (v3 : Go.Value) (W4 : Go.SX.PW) => ∃ (i5 : Int), v3 = Go.Value.int Go.IntKind.i64 i5 ∧ Go.SX.I64 ((32 : Int) * ((↑a0_0.2 : Int) - (1 : Int)) + i5) ∧ ∀ (W6 : Go.SX.PW), Go.SX.Ext W4 W6 → Post (Go.Value.int Go.IntKind.i64 ((32 : Int) * ((↑a0_0.2 : Int) - (1 : Int)) + i5)) W6)
theorem callnat_Nat_Bits (W0 : Go.SX.PW) (M : Nat → Prop) (a0_0 : Go.SX.Sl) (Post : Go.Value → Go.SX.PW → Prop) (h : Rnat_Nat_Bits W0 M a0_0 Post) : Go.SX.PCallsM Go.Proofs.Try.prog 38 [Go.Value.agg #[Go.SX.Sl.v a0_0]] W0 M Post :=
  Go.SX.fn_sound rfl tt_ok tt_in Go.Proofs.Try.func38 (cuts := []) rfl rfl (Nat.le_of_ble_eq_true rfl) (Eq.mpr (by kernel_rfl) h)
def Rmath_bits_LeadingZeros32 (W0 : Go.SX.PW) (M : Nat → Prop) (a0 : Int) (Post : Go.Value → Go.SX.PW → Prop) : Prop :=
 Go.SX.callN Go.Proofs.Try.prog W0 M (62 : Nat) [Go.Value.int Go.IntKind.u32 a0] W0 fun (v1 : Go.Value) (W2 : Go.SX.PW) => ∃ (i3 : Int), v1 = Go.Value.int Go.IntKind.i64 i3 ∧ Go.SX.I64 ((32 : Int) - i3) ∧ ∀ (W4 : Go.SX.PW), Go.SX.Ext W2 W4 → Post (Go.Value.int Go.IntKind.i64 ((32 : Int) - i3)) W4
theorem callmath_bits_LeadingZeros32 (W0 : Go.SX.PW) (M : Nat → Prop) (a0 : Int) (Post : Go.Value → Go.SX.PW → Prop) (h : Rmath_bits_LeadingZeros32 W0 M a0 Post) : Go.SX.PCallsM Go.Proofs.Try.prog 78 [Go.Value.int Go.IntKind.u32 a0] W0 M Post :=
  Go.SX.fn_sound rfl tt_ok tt_in Go.Proofs.Try.func78 (cuts := []) rfl rfl (Nat.le_of_ble_eq_true rfl) (Eq.mpr (by kernel_rfl) h)
def Rnat_grow (W0 : Go.SX.PW) (M : Nat → Prop) (a0 : Go.SX.Sl) (a1 : Int) (a2 : Int) (Post : Go.Value → Go.SX.PW → Prop) : Prop :=
 ∃ (F1 : List Go.SX.PL → Go.SX.PW → Prop),
 ∃ (F2 : List Go.SX.PL → Go.SX.PW → Nat),
 F1 [Go.SX.PL.val (Go.Value.int Go.IntKind.u64 (Go.IntKind.wrap Go.IntKind.u64 a2)), Go.SX.PL.val (Go.Value.int Go.IntKind.i64 (0 : Int))] W0 ∧
 ∀ (i3 i4 : Int) (W5 : Go.SX.PW),
 F1 [Go.SX.PL.val (Go.Value.int Go.IntKind.u64 i3), Go.SX.PL.val (Go.Value.int Go.IntKind.i64 i4)] W5 →
 (i4 < (↑a0.2 : Int) →
 Go.SX.inB a0 i4 ∧
 ∃ (i6 : Int),
 Go.SX.ElemAt W5 a0 (1 : Nat) (Int.toNat i4) (0 : Nat) [Go.Value.int Go.IntKind.u32 i6] ∧
 Go.SX.inB a0 i4 ∧
 Go.SX.storeN W0 M a0 (Int.toNat i4 * (1 : Nat) + (0 : Nat)) [Go.Value.int Go.IntKind.u32 (Go.IntKind.wrap Go.IntKind.u32 (Go.IntKind.wrap Go.IntKind.u64 (i3 + Go.IntKind.wrap Go.IntKind.u64 (Go.IntKind.wrap Go.IntKind.u64 i6 * Go.IntKind.wrap Go.IntKind.u64 a1))))] W5 fun (W7 : Go.SX.PW) =>
 Go.SX.I64 (i4 + (1 : Int)) ∧
 F1 [Go.SX.PL.val (Go.Value.int Go.IntKind.u64 (Go.SX.ishr (Go.IntKind.wrap Go.IntKind.u64 (i3 + Go.IntKind.wrap Go.IntKind.u64 (Go.IntKind.wrap Go.IntKind.u64 i6 * Go.IntKind.wrap Go.IntKind.u64 a1))) (32 : Nat))), Go.SX.PL.val (Go.Value.int Go.IntKind.i64 (i4 + (1 : Int)))] W7 ∧
 F2 [Go.SX.PL.val (Go.Value.int Go.IntKind.u64 (Go.SX.ishr (Go.IntKind.wrap Go.IntKind.u64 (i3 + Go.IntKind.wrap Go.IntKind.u64 (Go.IntKind.wrap Go.IntKind.u64 i6 * Go.IntKind.wrap Go.IntKind.u64 a1))) (32 : Nat))), Go.SX.PL.val (Go.Value.int Go.IntKind.i64 (i4 + (1 : Int)))] W7 <
 F2 [Go.SX.PL.val (Go.Value.int Go.IntKind.u64 i3), Go.SX.PL.val (Go.Value.int Go.IntKind.i64 i4)] W5) ∧
 (¬i4 < (↑a0.2 : Int) → ((0 : Int) < i3 → Go.SX.appN W0 M (106 : Nat) (1 : Nat) (4 : Nat) a0 [[Go.Value.int Go.IntKind.u32 (Go.IntKind.wrap Go.IntKind.u32 i3)]] W5 fun (s8 : Go.SX.Sl) (W9 : Go.SX.PW) => ∀ (W10 : Go.SX.PW), Go.SX.Ext W9 W10 → Post (Go.SX.Sl.v s8) W10) ∧ (¬(0 : Int) < i3 → ∀ (W11 : Go.SX.PW), Go.SX.Ext W5 W11 → Post (Go.SX.Sl.v a0) W11))
theorem callnat_grow (W0 : Go.SX.PW) (M : Nat → Prop) (a0 : Go.SX.Sl) (a1 : Int) (a2 : Int) (Post : Go.Value → Go.SX.PW → Prop) (h : Rnat_grow W0 M a0 a1 a2 Post) : Go.SX.PCallsM Go.Proofs.Try.prog 75 [Go.SX.Sl.v a0, Go.Value.int Go.IntKind.u32 a1, Go.Value.int Go.IntKind.u32 a2] W0 M Post :=
  Go.SX.fn_sound rfl tt_ok tt_in Go.Proofs.Try.func75 (cuts := []) rfl rfl (Nat.le_of_ble_eq_true rfl) (Eq.mpr (by kernel_rfl) h)
end Go.Proofs.Ytcffcndpefaalaa
