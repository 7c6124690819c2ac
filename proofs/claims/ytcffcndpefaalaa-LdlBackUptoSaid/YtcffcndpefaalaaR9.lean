/- R9 -/
import Derived.Test.YtcffcndpefaalaaTt
set_option linter.unusedVariables false
set_option linter.unusedSimpArgs false
set_option maxRecDepth 100000
set_option linter.unusedVariables false
namespace Go.Proofs.Ytcffcndpefaalaa
def Rnat_Nat_Text (W0 : Go.SX.PW) (M : Nat → Prop) (a0_0 : Go.SX.Sl) (Post : Go.Value → Go.SX.PW → Prop) : Prop :=
 Go.SX.callN Go.Proofs.Try.prog W0 M (63 : Nat) [Go.SX.Sl.v a0_0] W0 fun (v1 : Go.Value) (W2 : Go.SX.PW) =>
 ∃ (s3 : Go.SX.Sl),
 v1 = Go.SX.Sl.v s3 ∧
 ∃ (F4 : List Go.SX.PL → Go.SX.PW → Prop),
 ∃ (F5 : List Go.SX.PL → Go.SX.PW → Nat),
 F4 [Go.SX.PL.row [], Go.SX.PL.val (Go.SX.Sl.v s3)] W2 ∧
 ∀ (l6 : List (List Go.Value)) (s7 : Go.SX.Sl) (W8 : Go.SX.PW),
 F4 [Go.SX.PL.row l6, Go.SX.PL.val (Go.SX.Sl.v s7)] W8 →
 ((0 : Int) < (↑s7.2 : Int) →
 Go.SX.callN Go.Proofs.Try.prog W0 M (64 : Nat) [Go.SX.Sl.v s7, Go.Value.int Go.IntKind.u32 (1000000000 : Int)] W8 fun (v9 : Go.Value) (W10 : Go.SX.PW) =>
 ∃ (i11 : Int),
 v9 = Go.Value.int Go.IntKind.u32 i11 ∧
 ∃ (F12 : List Go.SX.PL → Go.SX.PW → Prop),
 ∃ (F13 : List Go.SX.PL → Go.SX.PW → Nat),
 F12 [Go.SX.PL.row l6, Go.SX.PL.val (Go.Value.int Go.IntKind.u32 i11), Go.SX.PL.val (Go.Value.int Go.IntKind.i64 (0 : Int))] W10 ∧
 ∀ (l14 : List (List Go.Value)) (i15 i16 : Int) (W17 : Go.SX.PW),
 F12 [Go.SX.PL.row l14, Go.SX.PL.val (Go.Value.int Go.IntKind.u32 i15), Go.SX.PL.val (Go.Value.int Go.IntKind.i64 i16)] W17 →
 (i16 < (9 : Int) →
 (10 : Int) ≠ (0 : Int) ∧
 (List.length l14 + List.length [[Go.Value.int Go.IntKind.u8 (Go.IntKind.wrap Go.IntKind.u8 (Go.IntKind.wrap Go.IntKind.u32 ((48 : Int) + Int.tmod i15 (10 : Int))))]]) * (1 : Nat) ≤ (140737488355328 : Nat) ∧
 (10 : Int) ≠ (0 : Int) ∧
 Go.SX.I64 (i16 + (1 : Int)) ∧
 F12 [Go.SX.PL.row (l14 ++ [[Go.Value.int Go.IntKind.u8 (Go.IntKind.wrap Go.IntKind.u8 (Go.IntKind.wrap Go.IntKind.u32 ((48 : Int) + Int.tmod i15 (10 : Int))))]]), Go.SX.PL.val (Go.Value.int Go.IntKind.u32 (Go.IntKind.wrap Go.IntKind.u32 (Int.tdiv i15 (10 : Int)))), Go.SX.PL.val (Go.Value.int Go.IntKind.i64 (i16 + (1 : Int)))] W17 ∧
 F13 [Go.SX.PL.row (l14 ++ [[Go.Value.int Go.IntKind.u8 (Go.IntKind.wrap Go.IntKind.u8 (Go.IntKind.wrap Go.IntKind.u32 ((48 : Int) + Int.tmod i15 (10 : Int))))]]), Go.SX.PL.val (Go.Value.int Go.IntKind.u32 (Go.IntKind.wrap Go.IntKind.u32 (Int.tdiv i15 (10 : Int)))), Go.SX.PL.val (Go.Value.int Go.IntKind.i64 (i16 + (1 : Int)))] W17 <
 F13 [Go.SX.PL.row l14, Go.SX.PL.val (Go.Value.int Go.IntKind.u32 i15), Go.SX.PL.val (Go.Value.int Go.IntKind.i64 i16)] W17) ∧
 (¬i16 < (9 : Int) →
 Go.SX.callN Go.Proofs.Try.prog W0 M (65 : Nat) [Go.SX.Sl.v s7] W17 fun (v18 : Go.Value) (W19 : Go.SX.PW) => ∃ (s20 : Go.SX.Sl), v18 = Go.Value.agg { toList := [Go.SX.Sl.v s20] } ∧ F4 [Go.SX.PL.row l14, Go.SX.PL.val (Go.SX.Sl.v s20)] W19 ∧ F5 [Go.SX.PL.row l14, Go.SX.PL.val (Go.SX.Sl.v s20)] W19 < F5 [Go.SX.PL.row l6, Go.SX.PL.val (Go.SX.Sl.v s7)] W8)) ∧
 (¬(0 : Int) < (↑s7.2 : Int) →
 ∀ (s21 : Go.SX.Sl) (W22 : Go.SX.PW),
 Go.SX.Ext W8 W22 →
 Go.SX.Own W22 (5 : Nat) (1 : Nat) s21 l6 →
 (∀ (n23 : Nat), Go.Value.ownBlock (Go.SX.Sl.v s21) = Option.some n23 → Array.size (Go.SX.PW.w W0).1 ≤ n23 ∧ (n23 < Array.size (Go.SX.PW.w W8).1 → W8.2 n23)) →
 ∃ (F24 : List Go.SX.PL → Go.SX.PW → Prop),
 ∃ (F25 : List Go.SX.PL → Go.SX.PW → Nat),
 F24 [Go.SX.PL.val (Go.SX.Sl.v s21)] W22 ∧
 ∀ (s26 : Go.SX.Sl) (W27 : Go.SX.PW),
 F24 [Go.SX.PL.val (Go.SX.Sl.v s26)] W27 →
 ((0 : Int) < (↑s26.2 : Int) →
 Go.SX.I64 ((↑s26.2 : Int) - (1 : Int)) ∧
 Go.SX.inB s26 ((↑s26.2 : Int) - (1 : Int)) ∧
 ∃ (i28 : Int),
 Go.SX.ElemAt W27 s26 (1 : Nat) (Int.toNat ((↑s26.2 : Int) - (1 : Int))) (0 : Nat) [Go.Value.int Go.IntKind.u8 i28] ∧
 (i28 = (48 : Int) →
 Go.SX.I64 ((↑s26.2 : Int) - (1 : Int)) ∧
 ((0 : Int) ≤ (0 : Int) ∧ (0 : Int) ≤ (↑s26.2 : Int) - (1 : Int) ∧ (↑s26.2 : Int) - (1 : Int) ≤ (↑s26.3 : Int)) ∧
 F24 [Go.SX.PL.val (Go.SX.Sl.v (Go.SX.Sl.cut { A := Go.SX.Sl.A s26, n := Go.SX.Sl.n s26, c := Go.SX.Sl.c s26 } (Go.SX.TyI.size Go.Proofs.Ytcffcndpefaalaa.ty5) (Int.toNat (0 : Int)) (Int.toNat ((↑s26.2 : Int) - (1 : Int)))))] W27 ∧
 F25 [Go.SX.PL.val (Go.SX.Sl.v (Go.SX.Sl.cut { A := Go.SX.Sl.A s26, n := Go.SX.Sl.n s26, c := Go.SX.Sl.c s26 } (Go.SX.TyI.size Go.Proofs.Ytcffcndpefaalaa.ty5) (Int.toNat (0 : Int)) (Int.toNat ((↑s26.2 : Int) - (1 : Int)))))] W27 < F25 [Go.SX.PL.val (Go.SX.Sl.v s26)] W27) ∧
 (¬i28 = (48 : Int) →
 ((↑s26.2 : Int) = (0 : Int) → ∀ (W29 : Go.SX.PW), Go.SX.Ext W27 W29 → Post (Go.Value.string (ByteArray.mk #[48])) W29) ∧
 (¬(↑s26.2 : Int) = (0 : Int) →
 Go.SX.callN Go.Proofs.Try.prog W0 M (66 : Nat) [Go.SX.Sl.v s26] W27 fun (v30 : Go.Value) (W31 : Go.SX.PW) =>
 v30 = Go.Value.tuple { toList := [] } ∧ ∃ (l32 : List Int), Go.SX.Row W31 (5 : Nat) (1 : Nat) s26 (List.map (fun (i33 : Int) => [Go.Value.int Go.IntKind.u8 i33]) l32) ∧ ∀ (W34 : Go.SX.PW), Go.SX.Ext W31 W34 → Post (Go.Value.string (Go.strOfNums l32)) W34))) ∧
 (¬(0 : Int) < (↑s26.2 : Int) →
 (Bool.false = Bool.true →
 Go.SX.I64 ((↑s26.2 : Int) - (1 : Int)) ∧
 ((0 : Int) ≤ (0 : Int) ∧ (0 : Int) ≤ (↑s26.2 : Int) - (1 : Int) ∧ (↑s26.2 : Int) - (1 : Int) ≤ (↑s26.3 : Int)) ∧
 F24 [Go.SX.PL.val (Go.SX.Sl.v (Go.SX.Sl.cut { A := Go.SX.Sl.A s26, n := Go.SX.Sl.n s26, c := Go.SX.Sl.c s26 } (Go.SX.TyI.size Go.Proofs.Ytcffcndpefaalaa.ty5) (Int.toNat (0 : Int)) (Int.toNat ((↑s26.2 : Int) - (1 : Int)))))] W27 ∧
 F25 [Go.SX.PL.val (Go.SX.Sl.v (Go.SX.Sl.cut { A := Go.SX.Sl.A s26, n := Go.SX.Sl.n s26, c := Go.SX.Sl.c s26 } (Go.SX.TyI.size Go.Proofs.Ytcffcndpefaalaa.ty5) (Int.toNat (0 : Int)) (Int.toNat ((↑s26.2 : Int) - (1 : Int)))))] W27 < F25 [Go.SX.PL.val (Go.SX.Sl.v s26)] W27) ∧
 (Bool.false = Bool.false →
 ((↑s26.2 : Int) = (0 : Int) → ∀ (W35 : Go.SX.PW), Go.SX.Ext W27 W35 → Post (Go.Value.string (ByteArray.mk #[48])) W35) ∧
 (¬(↑s26.2 : Int) = (0 : Int) →
 Go.SX.callN Go.Proofs.Try.prog W0 M (66 : Nat) [Go.SX.Sl.v s26] W27 fun (v36 : Go.Value) (W37 : Go.SX.PW) =>
 v36 = Go.Value.tuple { toList := [] } ∧ ∃ (l38 : List Int), Go.SX.Row W37 (5 : Nat) (1 : Nat) s26 (List.map (fun (i39 : Int) => [Go.Value.int Go.IntKind.u8 i39]) l38) ∧ ∀ (W40 : Go.SX.PW), Go.SX.Ext W37 W40 → Post (Go.Value.string (Go.strOfNums l38)) W40))))
theorem callnat_Nat_Text (W0 : Go.SX.PW) (M : Nat → Prop) (a0_0 : Go.SX.Sl) (Post : Go.Value → Go.SX.PW → Prop) (h : Rnat_Nat_Text W0 M a0_0 Post) : Go.SX.PCallsM Go.Proofs.Try.prog 40 [Go.Value.agg #[Go.SX.Sl.v a0_0]] W0 M Post :=
  Go.SX.fn_sound rfl tt_ok tt_in Go.Proofs.Try.func40 (cuts := [1000011]) rfl rfl (Nat.le_of_ble_eq_true rfl) (Eq.mpr (by kernel_rfl) h)
def Rwhole_Int_Text (W0 : Go.SX.PW) (M : Nat → Prop) (a0_0 : Go.SX.Sl) (a0_1 : Bool) (Post : Go.Value → Go.SX.PW → Prop) : Prop :=
 (a0_1 = Bool.true →
 Go.SX.callN Go.Proofs.Try.prog W0 M (40 : Nat) [Go.Value.agg { toList := [Go.SX.Sl.v a0_0] }] W0 fun (v1 : Go.Value) (W2 : Go.SX.PW) =>
 ∃ (t3 : ByteArray), v1 = Go.Value.string t3 ∧ (↑(ByteArray.size (ByteArray.mk #[45])) : Int) + (↑(ByteArray.size t3) : Int) ≤ (9223372036854775807 : Int) ∧ ∀ (W4 : Go.SX.PW), Go.SX.Ext W2 W4 → Post (Go.Value.string ((ByteArray.mk #[45]) ++ t3)) W4) ∧
 (a0_1 = Bool.false → Go.SX.callN Go.Proofs.Try.prog W0 M (40 : Nat) [Go.Value.agg { toList := [Go.SX.Sl.v a0_0] }] W0 fun (v5 : Go.Value) (W6 : Go.SX.PW) => ∃ (t7 : ByteArray), v5 = Go.Value.string t7 ∧ ∀ (W8 : Go.SX.PW), Go.SX.Ext W6 W8 → Post (Go.Value.string t7) W8)
theorem callwhole_Int_Text (W0 : Go.SX.PW) (M : Nat → Prop) (a0_0 : Go.SX.Sl) (a0_1 : Bool) (Post : Go.Value → Go.SX.PW → Prop) (h : Rwhole_Int_Text W0 M a0_0 a0_1 Post) : Go.SX.PCallsM Go.Proofs.Try.prog 39 [Go.Value.agg #[Go.SX.Sl.v a0_0, Go.Value.bool a0_1]] W0 M Post :=
  Go.SX.fn_sound rfl tt_ok tt_in Go.Proofs.Try.func39 (cuts := []) rfl rfl (Nat.le_of_ble_eq_true rfl) (Eq.mpr (by kernel_rfl) h)
def Rrat_Rat_Text (W0 : Go.SX.PW) (M : Nat → Prop) (a0_0 : Go.SX.Sl) (a0_1 : Bool) (a0_2 : Go.SX.Sl) (Post : Go.Value → Go.SX.PW → Prop) : Prop :=
 Go.SX.callN Go.Proofs.Try.prog W0 M (38 : Nat) [Go.Value.agg { toList := [Go.SX.Sl.v a0_2] }] W0 fun (v1 : Go.Value) (W2 : Go.SX.PW) =>
 ∃ (i3 : Int),
 v1 = Go.Value.int Go.IntKind.i64 i3 ∧
 (i3 = (0 : Int) → Go.SX.callN Go.Proofs.Try.prog W0 M (39 : Nat) [Go.Value.agg { toList := [Go.SX.Sl.v a0_0, Go.Value.bool a0_1] }] W2 fun (v4 : Go.Value) (W5 : Go.SX.PW) => ∃ (t6 : ByteArray), v4 = Go.Value.string t6 ∧ ∀ (W7 : Go.SX.PW), Go.SX.Ext W5 W7 → Post (Go.Value.string t6) W7) ∧
 (¬i3 = (0 : Int) →
 Go.SX.callN Go.Proofs.Try.prog W0 M (39 : Nat) [Go.Value.agg { toList := [Go.SX.Sl.v a0_0, Go.Value.bool a0_1] }] W2 fun (v8 : Go.Value) (W9 : Go.SX.PW) =>
 ∃ (t10 : ByteArray),
 v8 = Go.Value.string t10 ∧
 (↑(ByteArray.size t10) : Int) + (↑(ByteArray.size (ByteArray.mk #[47])) : Int) ≤ (9223372036854775807 : Int) ∧
 Go.SX.callN Go.Proofs.Try.prog W0 M (40 : Nat) [Go.Value.agg { toList := [Go.SX.Sl.v a0_2] }] W9 fun (v11 : Go.Value) (W12 : Go.SX.PW) =>
 ∃ (t13 : ByteArray), v11 = Go.Value.string t13 ∧ (↑(ByteArray.size (t10 ++ (ByteArray.mk #[47]))) : Int) + (↑(ByteArray.size t13) : Int) ≤ (9223372036854775807 : Int) ∧ ∀ (W14 : Go.SX.PW), Go.SX.Ext W12 W14 → Post (Go.Value.string (t10 ++ (ByteArray.mk #[47]) ++ t13)) W14)
theorem callrat_Rat_Text (W0 : Go.SX.PW) (M : Nat → Prop) (a0_0 : Go.SX.Sl) (a0_1 : Bool) (a0_2 : Go.SX.Sl) (Post : Go.Value → Go.SX.PW → Prop) (h : Rrat_Rat_Text W0 M a0_0 a0_1 a0_2 Post) : Go.SX.PCallsM Go.Proofs.Try.prog 18 [Go.Value.agg #[Go.SX.Sl.v a0_0, Go.Value.bool a0_1, Go.SX.Sl.v a0_2]] W0 M Post :=
  Go.SX.fn_sound rfl tt_ok tt_in Go.Proofs.Try.func18 (cuts := []) rfl rfl (Nat.le_of_ble_eq_true rfl) (Eq.mpr (by kernel_rfl) h)
def Rslices_Reverse_byte_byte (W0 : Go.SX.PW) (M : Nat → Prop) (a0 : Go.SX.Sl) (Post : Go.Value → Go.SX.PW → Prop) : Prop :=
 Go.SX.I64 ((↑a0.2 : Int) - (1 : Int)) ∧
 ∃ (F1 : List Go.SX.PL → Go.SX.PW → Prop),
 ∃ (F2 : List Go.SX.PL → Go.SX.PW → Nat),
 F1 [Go.SX.PL.val (Go.Value.int Go.IntKind.i64 (0 : Int)), Go.SX.PL.val (Go.Value.int Go.IntKind.i64 ((↑a0.2 : Int) - (1 : Int)))] W0 ∧
 ∀ (i3 i4 : Int) (W5 : Go.SX.PW),
 F1 [Go.SX.PL.val (Go.Value.int Go.IntKind.i64 i3), Go.SX.PL.val (Go.Value.int Go.IntKind.i64 i4)] W5 →
 (i3 < i4 →
 Go.SX.inB a0 i4 ∧
 ∃ (i6 : Int),
 Go.SX.ElemAt W5 a0 (1 : Nat) (Int.toNat i4) (0 : Nat) [Go.Value.int Go.IntKind.u8 i6] ∧
 Go.SX.inB a0 i3 ∧
 ∃ (i7 : Int),
 Go.SX.ElemAt W5 a0 (1 : Nat) (Int.toNat i3) (0 : Nat) [Go.Value.int Go.IntKind.u8 i7] ∧
 Go.SX.inB a0 i3 ∧
 Go.SX.storeN W0 M a0 (Int.toNat i3 * (1 : Nat) + (0 : Nat)) [Go.Value.int Go.IntKind.u8 i6] W5 fun (W8 : Go.SX.PW) =>
 Go.SX.inB a0 i4 ∧
 Go.SX.storeN W0 M a0 (Int.toNat i4 * (1 : Nat) + (0 : Nat)) [Go.Value.int Go.IntKind.u8 i7] W8 fun (W9 : Go.SX.PW) =>
 Go.SX.I64 (i3 + (1 : Int)) ∧
 Go.SX.I64 (i4 - (1 : Int)) ∧
 F1 [Go.SX.PL.val (Go.Value.int Go.IntKind.i64 (i3 + (1 : Int))), Go.SX.PL.val (Go.Value.int Go.IntKind.i64 (i4 - (1 : Int)))] W9 ∧
 F2 [Go.SX.PL.val (Go.Value.int Go.IntKind.i64 (i3 + (1 : Int))), Go.SX.PL.val (Go.Value.int Go.IntKind.i64 (i4 - (1 : Int)))] W9 < F2 [Go.SX.PL.val (Go.Value.int Go.IntKind.i64 i3), Go.SX.PL.val (Go.Value.int Go.IntKind.i64 i4)] W5) ∧
 (¬i3 < i4 → ∀ (W10 : Go.SX.PW), Go.SX.Ext W5 W10 → Post (Go.Value.tuple { toList := [] }) W10)
theorem callslices_Reverse_byte_byte (W0 : Go.SX.PW) (M : Nat → Prop) (a0 : Go.SX.Sl) (Post : Go.Value → Go.SX.PW → Prop) (h : Rslices_Reverse_byte_byte W0 M a0 Post) : Go.SX.PCallsM Go.Proofs.Try.prog 66 [Go.SX.Sl.v a0] W0 M Post :=
  Go.SX.fn_sound rfl tt_ok tt_in Go.Proofs.Try.func66 (cuts := []) rfl rfl (Nat.le_of_ble_eq_true rfl) (Eq.mpr (by kernel_rfl) h)
def Rmat_even_string (W0 : Go.SX.PW) (M : Nat → Prop) (a0 : Go.SX.Sl) (Post : Go.Value → Go.SX.PW → Prop) : Prop :=
 ∃ (F1 : List Go.SX.PL → Go.SX.PW → Prop),
 ∃ (F2 : List Go.SX.PL → Go.SX.PW → Nat),
 F1 [Go.SX.PL.val (Go.Value.int Go.IntKind.i64 (0 : Int))] W0 ∧
 ∀ (i3 : Int) (W4 : Go.SX.PW),
 F1 [Go.SX.PL.val (Go.Value.int Go.IntKind.i64 i3)] W4 →
 (i3 < (↑a0.2 : Int) →
 Go.SX.inB a0 i3 ∧
 ∃ (s5 : Go.SX.Sl),
 Go.SX.ElemAt W4 a0 (1 : Nat) (Int.toNat i3) (0 : Nat) [Go.SX.Sl.v s5] ∧
 Go.SX.inB a0 (0 : Int) ∧
 ∃ (s6 : Go.SX.Sl),
 Go.SX.ElemAt W4 a0 (1 : Nat) (0 : Nat) (0 : Nat) [Go.SX.Sl.v s6] ∧
 ((↑s5.2 : Int) ≠ (↑s6.2 : Int) → ∀ (W7 : Go.SX.PW), Go.SX.Ext W4 W7 → Post (Go.Value.bool Bool.false) W7) ∧ (¬(↑s5.2 : Int) ≠ (↑s6.2 : Int) → Go.SX.I64 (i3 + (1 : Int)) ∧ F1 [Go.SX.PL.val (Go.Value.int Go.IntKind.i64 (i3 + (1 : Int)))] W4 ∧ F2 [Go.SX.PL.val (Go.Value.int Go.IntKind.i64 (i3 + (1 : Int)))] W4 < F2 [Go.SX.PL.val (Go.Value.int Go.IntKind.i64 i3)] W4)) ∧
 (¬i3 < (↑a0.2 : Int) →
 ((1 : Int) ≤ (↑a0.2 : Int) →
 ((↑a0.2 : Int) ≤ (12 : Int) →
 Go.SX.inB a0 (0 : Int) ∧
 ∃ (s8 : Go.SX.Sl),
 Go.SX.ElemAt W4 a0 (1 : Nat) (0 : Nat) (0 : Nat) [Go.SX.Sl.v s8] ∧
 ((1 : Int) ≤ (↑s8.2 : Int) → Go.SX.inB a0 (0 : Int) ∧ ∃ (s9 : Go.SX.Sl), Go.SX.ElemAt W4 a0 (1 : Nat) (0 : Nat) (0 : Nat) [Go.SX.Sl.v s9] ∧ ∀ (W10 : Go.SX.PW), Go.SX.Ext W4 W10 → Post (Go.Value.bool (Decidable.decide ((↑s9.2 : Int) ≤ (12 : Int)))) W10) ∧ (¬(1 : Int) ≤ (↑s8.2 : Int) → ∀ (W11 : Go.SX.PW), Go.SX.Ext W4 W11 → Post (Go.Value.bool Bool.false) W11)) ∧
 (¬(↑a0.2 : Int) ≤ (12 : Int) →
 (Bool.false = Bool.true → Go.SX.inB a0 (0 : Int) ∧ ∃ (s12 : Go.SX.Sl), Go.SX.ElemAt W4 a0 (1 : Nat) (0 : Nat) (0 : Nat) [Go.SX.Sl.v s12] ∧ ∀ (W13 : Go.SX.PW), Go.SX.Ext W4 W13 → Post (Go.Value.bool (Decidable.decide ((↑s12.2 : Int) ≤ (12 : Int)))) W13) ∧ (Bool.false = Bool.false → ∀ (W14 : Go.SX.PW), Go.SX.Ext W4 W14 → Post (Go.Value.bool Bool.false) W14))) ∧
 (¬(1 : Int) ≤ (↑a0.2 : Int) →
 (Bool.false = Bool.true →
 Go.SX.inB a0 (0 : Int) ∧
 ∃ (s15 : Go.SX.Sl),
 Go.SX.ElemAt W4 a0 (1 : Nat) (0 : Nat) (0 : Nat) [Go.SX.Sl.v s15] ∧
 ((1 : Int) ≤ (↑s15.2 : Int) → Go.SX.inB a0 (0 : Int) ∧ ∃ (s16 : Go.SX.Sl), Go.SX.ElemAt W4 a0 (1 : Nat) (0 : Nat) (0 : Nat) [Go.SX.Sl.v s16] ∧ ∀ (W17 : Go.SX.PW), Go.SX.Ext W4 W17 → Post (Go.Value.bool (Decidable.decide ((↑s16.2 : Int) ≤ (12 : Int)))) W17) ∧ (¬(1 : Int) ≤ (↑s15.2 : Int) → ∀ (W18 : Go.SX.PW), Go.SX.Ext W4 W18 → Post (Go.Value.bool Bool.false) W18)) ∧
 (Bool.false = Bool.false →
 (Bool.false = Bool.true → Go.SX.inB a0 (0 : Int) ∧ ∃ (s19 : Go.SX.Sl), Go.SX.ElemAt W4 a0 (1 : Nat) (0 : Nat) (0 : Nat) [Go.SX.Sl.v s19] ∧ ∀ (W20 : Go.SX.PW), Go.SX.Ext W4 W20 → Post (Go.Value.bool (Decidable.decide ((↑s19.2 : Int) ≤ (12 : Int)))) W20) ∧ (Bool.false = Bool.false → ∀ (W21 : Go.SX.PW), Go.SX.Ext W4 W21 → Post (Go.Value.bool Bool.false) W21))))
theorem callmat_even_string (W0 : Go.SX.PW) (M : Nat → Prop) (a0 : Go.SX.Sl) (Post : Go.Value → Go.SX.PW → Prop) (h : Rmat_even_string W0 M a0 Post) : Go.SX.PCallsM Go.Proofs.Try.prog 37 [Go.SX.Sl.v a0] W0 M Post :=
  Go.SX.fn_sound rfl tt_ok tt_in Go.Proofs.Try.func37 (cuts := []) rfl rfl (Nat.le_of_ble_eq_true rfl) (Eq.mpr (by kernel_rfl) h)
def Rmat_Parse (W0 : Go.SX.PW) (M : Nat → Prop) (a0 : Go.SX.Sl) (Post : Go.Value → Go.SX.PW → Prop) : Prop :=
 Go.SX.callN Go.Proofs.Try.prog W0 M (37 : Nat) [Go.SX.Sl.v a0] W0 fun (v1 : Go.Value) (W2 : Go.SX.PW) =>
 ∃ (b3 : Bool),
 v1 = Go.Value.bool b3 ∧
 ((!b3) = Bool.true → ∀ (W4 : Go.SX.PW), Go.SX.Ext W2 W4 → Post (Go.Value.tuple { toList := [Go.Value.slice Option.none (0 : Nat) (0 : Nat), Go.Value.int Go.IntKind.i64 (1 : Int)] }) W4) ∧
 ((!b3) = Bool.false →
 Go.SX.inB a0 (0 : Int) ∧
 ∃ (s5 : Go.SX.Sl),
 Go.SX.ElemAt W2 a0 (1 : Nat) (0 : Nat) (0 : Nat) [Go.SX.Sl.v s5] ∧
 Go.SX.callN Go.Proofs.Try.prog W0 M (24 : Nat) [Go.Value.int Go.IntKind.i64 (↑a0.2 : Int), Go.Value.int Go.IntKind.i64 (↑s5.2 : Int)] W2 fun (v6 : Go.Value) (W7 : Go.SX.PW) =>
 ∃ (s8 : Go.SX.Sl),
 v6 = Go.SX.Sl.v s8 ∧
 ∃ (F9 : List Go.SX.PL → Go.SX.PW → Prop),
 ∃ (F10 : List Go.SX.PL → Go.SX.PW → Nat),
 F9 [Go.SX.PL.val (Go.Value.int Go.IntKind.i64 (0 : Int))] W7 ∧
 ∀ (i11 : Int) (W12 : Go.SX.PW),
 F9 [Go.SX.PL.val (Go.Value.int Go.IntKind.i64 i11)] W12 →
 (i11 < (↑a0.2 : Int) →
 Go.SX.inB a0 i11 ∧
 ∃ (s13 : Go.SX.Sl),
 Go.SX.ElemAt W12 a0 (1 : Nat) (Int.toNat i11) (0 : Nat) [Go.SX.Sl.v s13] ∧
 ∃ (F14 : List Go.SX.PL → Go.SX.PW → Prop),
 ∃ (F15 : List Go.SX.PL → Go.SX.PW → Nat),
 F14 [Go.SX.PL.val (Go.Value.int Go.IntKind.i64 (0 : Int))] W12 ∧
 ∀ (i16 : Int) (W17 : Go.SX.PW),
 F14 [Go.SX.PL.val (Go.Value.int Go.IntKind.i64 i16)] W17 →
 (i16 < (↑s13.2 : Int) →
 Go.SX.inB s13 i16 ∧
 ∃ (t18 : ByteArray),
 Go.SX.ElemAt W17 s13 (1 : Nat) (Int.toNat i16) (0 : Nat) [Go.Value.string t18] ∧
 Go.SX.callN Go.Proofs.Try.prog W0 M (36 : Nat) [Go.Value.string t18] W17 fun (v19 : Go.Value) (W20 : Go.SX.PW) =>
 ∃ (s21 : Go.SX.Sl),
 ∃ (b22 : Bool),
 ∃ (s23 : Go.SX.Sl),
 ∃ (i24 : Int),
 v19 = Go.Value.tuple { toList := [Go.Value.agg { toList := [Go.SX.Sl.v s21, Go.Value.bool b22, Go.SX.Sl.v s23] }, Go.Value.int Go.IntKind.i64 i24] } ∧
 (i24 ≠ (0 : Int) → ∀ (W25 : Go.SX.PW), Go.SX.Ext W20 W25 → Post (Go.Value.tuple { toList := [Go.Value.slice Option.none (0 : Nat) (0 : Nat), Go.Value.int Go.IntKind.i64 i24] }) W25) ∧
 (¬i24 ≠ (0 : Int) →
 Go.SX.inB s8 i11 ∧
 ∃ (s26 : Go.SX.Sl),
 Go.SX.ElemAt W20 s8 (1 : Nat) (Int.toNat i11) (0 : Nat) [Go.SX.Sl.v s26] ∧
 Go.SX.inB s26 i16 ∧
 Go.SX.storeN W0 M s26 (Int.toNat i16 * (3 : Nat) + (0 : Nat)) [Go.SX.Sl.v s21, Go.Value.bool b22, Go.SX.Sl.v s23] W20 fun (W27 : Go.SX.PW) =>
 Go.SX.I64 (i16 + (1 : Int)) ∧ F14 [Go.SX.PL.val (Go.Value.int Go.IntKind.i64 (i16 + (1 : Int)))] W27 ∧ F15 [Go.SX.PL.val (Go.Value.int Go.IntKind.i64 (i16 + (1 : Int)))] W27 < F15 [Go.SX.PL.val (Go.Value.int Go.IntKind.i64 i16)] W17)) ∧
 (¬i16 < (↑s13.2 : Int) → Go.SX.I64 (i11 + (1 : Int)) ∧ F9 [Go.SX.PL.val (Go.Value.int Go.IntKind.i64 (i11 + (1 : Int)))] W17 ∧ F10 [Go.SX.PL.val (Go.Value.int Go.IntKind.i64 (i11 + (1 : Int)))] W17 < F10 [Go.SX.PL.val (Go.Value.int Go.IntKind.i64 i11)] W12)) ∧
 (¬i11 < (↑a0.2 : Int) → ∀ (W28 : Go.SX.PW), Go.SX.Ext W12 W28 → Post (Go.Value.tuple { toList := [Go.SX.Sl.v s8, Go.Value.int Go.IntKind.i64 (0 : Int)] }) W28))
theorem callmat_Parse (W0 : Go.SX.PW) (M : Nat → Prop) (a0 : Go.SX.Sl) (Post : Go.Value → Go.SX.PW → Prop) (h : Rmat_Parse W0 M a0 Post) : Go.SX.PCallsM Go.Proofs.Try.prog 17 [Go.SX.Sl.v a0] W0 M Post :=
  Go.SX.fn_sound rfl tt_ok tt_in Go.Proofs.Try.func17 (cuts := []) rfl rfl (Nat.le_of_ble_eq_true rfl) (Eq.mpr (by kernel_rfl) h)
end Go.Proofs.Ytcffcndpefaalaa
