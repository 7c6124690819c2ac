/- R3 -/
import Derived.Test.YtcffcndpefaalaaTt
set_option linter.unusedVariables false
set_option linter.unusedSimpArgs false
set_option maxRecDepth 100000
set_option linter.unusedVariables false
namespace Go.Proofs.Ytcffcndpefaalaa
def Rwhole_Of (W0 : Go.SX.PW) (M : Nat → Prop) (a0 : Int) (Post : Go.Value → Go.SX.PW → Prop) : Prop :=
 (a0 < (0 : Int) →
 Go.SX.callN Go.Proofs.Try.prog W0 M (47 : Nat) [Go.Value.int Go.IntKind.u64 (Go.IntKind.wrap Go.IntKind.u64 ((0 : Int) - Go.IntKind.wrap Go.IntKind.u64 a0))] W0 fun (v1 : Go.Value) (W2 : Go.SX.PW) =>
 ∃ (s3 : Go.SX.Sl),
 v1 = Go.Value.agg { toList := [Go.SX.Sl.v s3] } ∧
 Go.SX.callN Go.Proofs.Try.prog W0 M (43 : Nat) [Go.Value.bool Bool.true, Go.Value.agg { toList := [Go.SX.Sl.v s3] }] W2 fun (v4 : Go.Value) (W5 : Go.SX.PW) => ∃ (s6 : Go.SX.Sl), ∃ (b7 : Bool), v4 = Go.Value.agg { toList := [Go.SX.Sl.v s6, Go.Value.bool b7] } ∧ ∀ (W8 : Go.SX.PW), Go.SX.Ext W5 W8 → Post (Go.Value.agg { toList := [Go.SX.Sl.v s6, Go.Value.bool b7] }) W8) ∧
 (¬a0 < (0 : Int) →
 Go.SX.callN Go.Proofs.Try.prog W0 M (47 : Nat) [Go.Value.int Go.IntKind.u64 (Go.IntKind.wrap Go.IntKind.u64 a0)] W0 fun (v9 : Go.Value) (W10 : Go.SX.PW) =>
 ∃ (s11 : Go.SX.Sl),
 v9 = Go.Value.agg { toList := [Go.SX.Sl.v s11] } ∧
 Go.SX.callN Go.Proofs.Try.prog W0 M (43 : Nat) [Go.Value.bool Bool.false, Go.Value.agg { toList := [Go.SX.Sl.v s11] }] W10 fun (v12 : Go.Value) (W13 : Go.SX.PW) => ∃ (s14 : Go.SX.Sl), ∃ (b15 : Bool), v12 = Go.Value.agg { toList := [Go.SX.Sl.v s14, Go.Value.bool b15] } ∧ ∀ (W16 : Go.SX.PW), Go.SX.Ext W13 W16 → Post (Go.Value.agg { toList := [Go.SX.Sl.v s14, Go.Value.bool b15] }) W16)
theorem callwhole_Of (W0 : Go.SX.PW) (M : Nat → Prop) (a0 : Int) (Post : Go.Value → Go.SX.PW → Prop) (h : Rwhole_Of W0 M a0 Post) : Go.SX.PCallsM Go.Proofs.Try.prog 26 [Go.Value.int Go.IntKind.i64 a0] W0 M Post :=
  Go.SX.fn_sound rfl tt_ok tt_in Go.Proofs.Try.func26 (cuts := []) rfl rfl (Nat.le_of_ble_eq_true rfl) (Eq.mpr (by kernel_rfl) h)
def Rwhole_From (W0 : Go.SX.PW) (M : Nat → Prop) (a0 : Bool) (a1_0 : Go.SX.Sl) (Post : Go.Value → Go.SX.PW → Prop) : Prop :=
 (a0 = Bool.true → Go.SX.callN Go.Proofs.Try.prog W0 M (38 : Nat) [Go.Value.agg { toList := [Go.SX.Sl.v a1_0] }] W0 fun (v1 : Go.Value) (W2 : Go.SX.PW) => ∃ (i3 : Int), v1 = Go.Value.int Go.IntKind.i64 i3 ∧ ∀ (W4 : Go.SX.PW), Go.SX.Ext W2 W4 → Post (Go.Value.agg { toList := [Go.SX.Sl.v a1_0, Go.Value.bool (Decidable.decide ((0 : Int) < i3))] }) W4) ∧
 (a0 = Bool.false → ∀ (W5 : Go.SX.PW), Go.SX.Ext W0 W5 → Post (Go.Value.agg { toList := [Go.SX.Sl.v a1_0, Go.Value.bool Bool.false] }) W5)
theorem callwhole_From (W0 : Go.SX.PW) (M : Nat → Prop) (a0 : Bool) (a1_0 : Go.SX.Sl) (Post : Go.Value → Go.SX.PW → Prop) (h : Rwhole_From W0 M a0 a1_0 Post) : Go.SX.PCallsM Go.Proofs.Try.prog 43 [Go.Value.bool a0, Go.Value.agg #[Go.SX.Sl.v a1_0]] W0 M Post :=
  Go.SX.fn_sound rfl tt_ok tt_in Go.Proofs.Try.func43 (cuts := []) rfl rfl (Nat.le_of_ble_eq_true rfl) (Eq.mpr (by kernel_rfl) h)
def Rwhole_Int_Sign (W0 : Go.SX.PW) (M : Nat → Prop) (a0_0 : Go.SX.Sl) (a0_1 : Bool) (Post : Go.Value → Go.SX.PW → Prop) : Prop :=
 (a0_1 = Bool.true → ∀ (W1 : Go.SX.PW), Go.SX.Ext W0 W1 → Post (Go.Value.int Go.IntKind.i64 (-1 : Int)) W1) ∧
 (a0_1 = Bool.false →
 Go.SX.callN Go.Proofs.Try.prog W0 M (38 : Nat) [Go.Value.agg { toList := [Go.SX.Sl.v a0_0] }] W0 fun (v2 : Go.Value) (W3 : Go.SX.PW) =>
 ∃ (i4 : Int), v2 = Go.Value.int Go.IntKind.i64 i4 ∧ (i4 = (0 : Int) → ∀ (W5 : Go.SX.PW), Go.SX.Ext W3 W5 → Post (Go.Value.int Go.IntKind.i64 (0 : Int)) W5) ∧ (¬i4 = (0 : Int) → ∀ (W6 : Go.SX.PW), Go.SX.Ext W3 W6 → Post (Go.Value.int Go.IntKind.i64 (1 : Int)) W6))
theorem callwhole_Int_Sign (W0 : Go.SX.PW) (M : Nat → Prop) (a0_0 : Go.SX.Sl) (a0_1 : Bool) (Post : Go.Value → Go.SX.PW → Prop) (h : Rwhole_Int_Sign W0 M a0_0 a0_1 Post) : Go.SX.PCallsM Go.Proofs.Try.prog 46 [Go.Value.agg #[Go.SX.Sl.v a0_0, Go.Value.bool a0_1]] W0 M Post :=
  Go.SX.fn_sound rfl tt_ok tt_in Go.Proofs.Try.func46 (cuts := []) rfl rfl (Nat.le_of_ble_eq_true rfl) (Eq.mpr (by kernel_rfl) h)
def Rwhole_Int_Abs (W0 : Go.SX.PW) (M : Nat → Prop) (a0_0 : Go.SX.Sl) (a0_1 : Bool) (Post : Go.Value → Go.SX.PW → Prop) : Prop :=
 ∀ (W1 : Go.SX.PW), Go.SX.Ext W0 W1 → Post (Go.Value.agg { toList := [Go.SX.Sl.v a0_0] }) W1
theorem callwhole_Int_Abs (W0 : Go.SX.PW) (M : Nat → Prop) (a0_0 : Go.SX.Sl) (a0_1 : Bool) (Post : Go.Value → Go.SX.PW → Prop) (h : Rwhole_Int_Abs W0 M a0_0 a0_1 Post) : Go.SX.PCallsM Go.Proofs.Try.prog 45 [Go.Value.agg #[Go.SX.Sl.v a0_0, Go.Value.bool a0_1]] W0 M Post :=
  Go.SX.fn_sound rfl tt_ok tt_in Go.Proofs.Try.func45 (cuts := []) rfl rfl (Nat.le_of_ble_eq_true rfl) (Eq.mpr (by kernel_rfl) h)
def Rwhole_Neg (W0 : Go.SX.PW) (M : Nat → Prop) (a0_0 : Go.SX.Sl) (a0_1 : Bool) (Post : Go.Value → Go.SX.PW → Prop) : Prop :=
 Go.SX.callN Go.Proofs.Try.prog W0 M (43 : Nat) [Go.Value.bool !a0_1, Go.Value.agg { toList := [Go.SX.Sl.v a0_0] }] W0 fun (v1 : Go.Value) (W2 : Go.SX.PW) => ∃ (s3 : Go.SX.Sl), ∃ (b4 : Bool), v1 = Go.Value.agg { toList := [Go.SX.Sl.v s3, Go.Value.bool b4] } ∧ ∀ (W5 : Go.SX.PW), Go.SX.Ext W2 W5 → Post (Go.Value.agg { toList := [Go.SX.Sl.v s3, Go.Value.bool b4] }) W5
theorem callwhole_Neg (W0 : Go.SX.PW) (M : Nat → Prop) (a0_0 : Go.SX.Sl) (a0_1 : Bool) (Post : Go.Value → Go.SX.PW → Prop) (h : Rwhole_Neg W0 M a0_0 a0_1 Post) : Go.SX.PCallsM Go.Proofs.Try.prog 77 [Go.Value.agg #[Go.SX.Sl.v a0_0, Go.Value.bool a0_1]] W0 M Post :=
  Go.SX.fn_sound rfl tt_ok tt_in Go.Proofs.Try.func77 (cuts := []) rfl rfl (Nat.le_of_ble_eq_true rfl) (Eq.mpr (by kernel_rfl) h)
def Rwhole_Add (W0 : Go.SX.PW) (M : Nat → Prop) (a0_0 : Go.SX.Sl) (a0_1 : Bool) (a1_0 : Go.SX.Sl) (a1_1 : Bool) (Post : Go.Value → Go.SX.PW → Prop) : Prop :=
 (a0_1 = a1_1 →
 Go.SX.callN Go.Proofs.Try.prog W0 M (70 : Nat) [Go.Value.agg { toList := [Go.SX.Sl.v a0_0] }, Go.Value.agg { toList := [Go.SX.Sl.v a1_0] }] W0 fun (v1 : Go.Value) (W2 : Go.SX.PW) =>
 ∃ (s3 : Go.SX.Sl),
 v1 = Go.Value.agg { toList := [Go.SX.Sl.v s3] } ∧
 Go.SX.callN Go.Proofs.Try.prog W0 M (43 : Nat) [Go.Value.bool a0_1, Go.Value.agg { toList := [Go.SX.Sl.v s3] }] W2 fun (v4 : Go.Value) (W5 : Go.SX.PW) => ∃ (s6 : Go.SX.Sl), ∃ (b7 : Bool), v4 = Go.Value.agg { toList := [Go.SX.Sl.v s6, Go.Value.bool b7] } ∧ ∀ (W8 : Go.SX.PW), Go.SX.Ext W5 W8 → Post (Go.Value.agg { toList := [Go.SX.Sl.v s6, Go.Value.bool b7] }) W8) ∧
 (¬a0_1 = a1_1 →
 Go.SX.callN Go.Proofs.Try.prog W0 M (71 : Nat) [Go.Value.agg { toList := [Go.SX.Sl.v a0_0] }, Go.Value.agg { toList := [Go.SX.Sl.v a1_0] }] W0 fun (v9 : Go.Value) (W10 : Go.SX.PW) =>
 ∃ (s11 : Go.SX.Sl),
 ∃ (b12 : Bool),
 v9 = Go.Value.tuple { toList := [Go.Value.agg { toList := [Go.SX.Sl.v s11] }, Go.Value.bool b12] } ∧
 (b12 = Bool.true →
 Go.SX.callN Go.Proofs.Try.prog W0 M (43 : Nat) [Go.Value.bool a0_1, Go.Value.agg { toList := [Go.SX.Sl.v s11] }] W10 fun (v13 : Go.Value) (W14 : Go.SX.PW) => ∃ (s15 : Go.SX.Sl), ∃ (b16 : Bool), v13 = Go.Value.agg { toList := [Go.SX.Sl.v s15, Go.Value.bool b16] } ∧ ∀ (W17 : Go.SX.PW), Go.SX.Ext W14 W17 → Post (Go.Value.agg { toList := [Go.SX.Sl.v s15, Go.Value.bool b16] }) W17) ∧
 (b12 = Bool.false →
 Go.SX.callN Go.Proofs.Try.prog W0 M (71 : Nat) [Go.Value.agg { toList := [Go.SX.Sl.v a1_0] }, Go.Value.agg { toList := [Go.SX.Sl.v a0_0] }] W10 fun (v18 : Go.Value) (W19 : Go.SX.PW) =>
 ∃ (s20 : Go.SX.Sl),
 ∃ (b21 : Bool),
 v18 = Go.Value.tuple { toList := [Go.Value.agg { toList := [Go.SX.Sl.v s20] }, Go.Value.bool b21] } ∧
 Go.SX.callN Go.Proofs.Try.prog W0 M (43 : Nat) [Go.Value.bool a1_1, Go.Value.agg { toList := [Go.SX.Sl.v s20] }] W19 fun (v22 : Go.Value) (W23 : Go.SX.PW) =>
 ∃ (s24 : Go.SX.Sl), ∃ (b25 : Bool), v22 = Go.Value.agg { toList := [Go.SX.Sl.v s24, Go.Value.bool b25] } ∧ ∀ (W26 : Go.SX.PW), Go.SX.Ext W23 W26 → Post (Go.Value.agg { toList := [Go.SX.Sl.v s24, Go.Value.bool b25] }) W26))
theorem callwhole_Add (W0 : Go.SX.PW) (M : Nat → Prop) (a0_0 : Go.SX.Sl) (a0_1 : Bool) (a1_0 : Go.SX.Sl) (a1_1 : Bool) (Post : Go.Value → Go.SX.PW → Prop) (h : Rwhole_Add W0 M a0_0 a0_1 a1_0 a1_1 Post) : Go.SX.PCallsM Go.Proofs.Try.prog 51 [Go.Value.agg #[Go.SX.Sl.v a0_0, Go.Value.bool a0_1], Go.Value.agg #[Go.SX.Sl.v a1_0, Go.Value.bool a1_1]] W0 M Post :=
  Go.SX.fn_sound rfl tt_ok tt_in Go.Proofs.Try.func51 (cuts := []) rfl rfl (Nat.le_of_ble_eq_true rfl) (Eq.mpr (by kernel_rfl) h)
def Rwhole_Mul (W0 : Go.SX.PW) (M : Nat → Prop) (a0_0 : Go.SX.Sl) (a0_1 : Bool) (a1_0 : Go.SX.Sl) (a1_1 : Bool) (Post : Go.Value → Go.SX.PW → Prop) : Prop :=
 Go.SX.callN Go.Proofs.Try.prog W0 M (52 : Nat) [Go.Value.agg { toList := [Go.SX.Sl.v a0_0] }, Go.Value.agg { toList := [Go.SX.Sl.v a1_0] }] W0 fun (v1 : Go.Value) (W2 : Go.SX.PW) =>
 ∃ (s3 : Go.SX.Sl),
 v1 = Go.Value.agg { toList := [Go.SX.Sl.v s3] } ∧
 Go.SX.callN Go.Proofs.Try.prog W0 M (43 : Nat) [Go.Value.bool (Decidable.decide (a0_1 ≠ a1_1)), Go.Value.agg { toList := [Go.SX.Sl.v s3] }] W2 fun (v4 : Go.Value) (W5 : Go.SX.PW) => ∃ (s6 : Go.SX.Sl), ∃ (b7 : Bool), v4 = Go.Value.agg { toList := [Go.SX.Sl.v s6, Go.Value.bool b7] } ∧ ∀ (W8 : Go.SX.PW), Go.SX.Ext W5 W8 → Post (Go.Value.agg { toList := [Go.SX.Sl.v s6, Go.Value.bool b7] }) W8
theorem callwhole_Mul (W0 : Go.SX.PW) (M : Nat → Prop) (a0_0 : Go.SX.Sl) (a0_1 : Bool) (a1_0 : Go.SX.Sl) (a1_1 : Bool) (Post : Go.Value → Go.SX.PW → Prop) (h : Rwhole_Mul W0 M a0_0 a0_1 a1_0 a1_1 Post) : Go.SX.PCallsM Go.Proofs.Try.prog 49 [Go.Value.agg #[Go.SX.Sl.v a0_0, Go.Value.bool a0_1], Go.Value.agg #[Go.SX.Sl.v a1_0, Go.Value.bool a1_1]] W0 M Post :=
  Go.SX.fn_sound rfl tt_ok tt_in Go.Proofs.Try.func49 (cuts := []) rfl rfl (Nat.le_of_ble_eq_true rfl) (Eq.mpr (by kernel_rfl) h)
def Rwhole_Cmp (W0 : Go.SX.PW) (M : Nat → Prop) (a0_0 : Go.SX.Sl) (a0_1 : Bool) (a1_0 : Go.SX.Sl) (a1_1 : Bool) (Post : Go.Value → Go.SX.PW → Prop) : Prop :=
 (a0_1 ≠ a1_1 →
 (a0_1 = Bool.true → ∀ (W1 : Go.SX.PW), Go.SX.Ext W0 W1 → Post (Go.Value.int Go.IntKind.i64 (-1 : Int)) W1) ∧
 (a0_1 = Bool.false →
 (a0_1 ≠ a1_1 → ∀ (W2 : Go.SX.PW), Go.SX.Ext W0 W2 → Post (Go.Value.int Go.IntKind.i64 (1 : Int)) W2) ∧
 (¬a0_1 ≠ a1_1 →
 (a0_1 = Bool.true → Go.SX.callN Go.Proofs.Try.prog W0 M (48 : Nat) [Go.Value.agg { toList := [Go.SX.Sl.v a1_0] }, Go.Value.agg { toList := [Go.SX.Sl.v a0_0] }] W0 fun (v3 : Go.Value) (W4 : Go.SX.PW) => ∃ (i5 : Int), v3 = Go.Value.int Go.IntKind.i64 i5 ∧ ∀ (W6 : Go.SX.PW), Go.SX.Ext W4 W6 → Post (Go.Value.int Go.IntKind.i64 i5) W6) ∧
 (a0_1 = Bool.false → Go.SX.callN Go.Proofs.Try.prog W0 M (48 : Nat) [Go.Value.agg { toList := [Go.SX.Sl.v a0_0] }, Go.Value.agg { toList := [Go.SX.Sl.v a1_0] }] W0 fun (v7 : Go.Value) (W8 : Go.SX.PW) => ∃ (i9 : Int), v7 = Go.Value.int Go.IntKind.i64 i9 ∧ ∀ (W10 : Go.SX.PW), Go.SX.Ext W8 W10 → Post (Go.Value.int Go.IntKind.i64 i9) W10)))) ∧
 (¬a0_1 ≠ a1_1 →
 (Bool.false = Bool.true → ∀ (W11 : Go.SX.PW), Go.SX.Ext W0 W11 → Post (Go.Value.int Go.IntKind.i64 (-1 : Int)) W11) ∧
 (Bool.false = Bool.false →
 (a0_1 ≠ a1_1 → ∀ (W12 : Go.SX.PW), Go.SX.Ext W0 W12 → Post (Go.Value.int Go.IntKind.i64 (1 : Int)) W12) ∧
 (¬a0_1 ≠ a1_1 →
 (a0_1 = Bool.true → Go.SX.callN Go.Proofs.Try.prog W0 M (48 : Nat) [Go.Value.agg { toList := [Go.SX.Sl.v a1_0] }, Go.Value.agg { toList := [Go.SX.Sl.v a0_0] }] W0 fun (v13 : Go.Value) (W14 : Go.SX.PW) => ∃ (i15 : Int), v13 = Go.Value.int Go.IntKind.i64 i15 ∧ ∀ (W16 : Go.SX.PW), Go.SX.Ext W14 W16 → Post (Go.Value.int Go.IntKind.i64 i15) W16) ∧
 (a0_1 = Bool.false → Go.SX.callN Go.Proofs.Try.prog W0 M (48 : Nat) [Go.Value.agg { toList := [Go.SX.Sl.v a0_0] }, Go.Value.agg { toList := [Go.SX.Sl.v a1_0] }] W0 fun (v17 : Go.Value) (W18 : Go.SX.PW) => ∃ (i19 : Int), v17 = Go.Value.int Go.IntKind.i64 i19 ∧ ∀ (W20 : Go.SX.PW), Go.SX.Ext W18 W20 → Post (Go.Value.int Go.IntKind.i64 i19) W20))))
theorem callwhole_Cmp (W0 : Go.SX.PW) (M : Nat → Prop) (a0_0 : Go.SX.Sl) (a0_1 : Bool) (a1_0 : Go.SX.Sl) (a1_1 : Bool) (Post : Go.Value → Go.SX.PW → Prop) (h : Rwhole_Cmp W0 M a0_0 a0_1 a1_0 a1_1 Post) : Go.SX.PCallsM Go.Proofs.Try.prog 27 [Go.Value.agg #[Go.SX.Sl.v a0_0, Go.Value.bool a0_1], Go.Value.agg #[Go.SX.Sl.v a1_0, Go.Value.bool a1_1]] W0 M Post :=
  Go.SX.fn_sound rfl tt_ok tt_in Go.Proofs.Try.func27 (cuts := []) rfl rfl (Nat.le_of_ble_eq_true rfl) (Eq.mpr (by kernel_rfl) h)
def Rrat_Rat_den (W0 : Go.SX.PW) (M : Nat → Prop) (a0_0 : Go.SX.Sl) (a0_1 : Bool) (a0_2 : Go.SX.Sl) (Post : Go.Value → Go.SX.PW → Prop) : Prop :=
 Go.SX.callN Go.Proofs.Try.prog W0 M (38 : Nat) [Go.Value.agg { toList := [Go.SX.Sl.v a0_2] }] W0 fun (v1 : Go.Value) (W2 : Go.SX.PW) =>
 ∃ (i3 : Int),
 v1 = Go.Value.int Go.IntKind.i64 i3 ∧
 (i3 = (0 : Int) → Go.SX.callN Go.Proofs.Try.prog W0 M (47 : Nat) [Go.Value.int Go.IntKind.u64 (1 : Int)] W2 fun (v4 : Go.Value) (W5 : Go.SX.PW) => ∃ (s6 : Go.SX.Sl), v4 = Go.Value.agg { toList := [Go.SX.Sl.v s6] } ∧ ∀ (W7 : Go.SX.PW), Go.SX.Ext W5 W7 → Post (Go.Value.agg { toList := [Go.SX.Sl.v s6] }) W7) ∧
 (¬i3 = (0 : Int) → ∀ (W8 : Go.SX.PW), Go.SX.Ext W2 W8 → Post (Go.Value.agg { toList := [Go.SX.Sl.v a0_2] }) W8)
theorem callrat_Rat_den (W0 : Go.SX.PW) (M : Nat → Prop) (a0_0 : Go.SX.Sl) (a0_1 : Bool) (a0_2 : Go.SX.Sl) (Post : Go.Value → Go.SX.PW → Prop) (h : Rrat_Rat_den W0 M a0_0 a0_1 a0_2 Post) : Go.SX.PCallsM Go.Proofs.Try.prog 44 [Go.Value.agg #[Go.SX.Sl.v a0_0, Go.Value.bool a0_1, Go.SX.Sl.v a0_2]] W0 M Post :=
  Go.SX.fn_sound rfl tt_ok tt_in Go.Proofs.Try.func44 (cuts := []) rfl rfl (Nat.le_of_ble_eq_true rfl) (Eq.mpr (by kernel_rfl) h)
def Rrat_Rat_Den (W0 : Go.SX.PW) (M : Nat → Prop) (a0_0 : Go.SX.Sl) (a0_1 : Bool) (a0_2 : Go.SX.Sl) (Post : Go.Value → Go.SX.PW → Prop) : Prop :=
 Go.SX.callN Go.Proofs.Try.prog W0 M (44 : Nat) [Go.Value.agg { toList := [Go.SX.Sl.v a0_0, Go.Value.bool a0_1, Go.SX.Sl.v a0_2] }] W0 fun (v1 : Go.Value) (W2 : Go.SX.PW) =>
 ∃ (s3 : Go.SX.Sl),
 v1 = Go.Value.agg { toList := [Go.SX.Sl.v s3] } ∧
 Go.SX.callN Go.Proofs.Try.prog W0 M (43 : Nat) [Go.Value.bool Bool.false, Go.Value.agg { toList := [Go.SX.Sl.v s3] }] W2 fun (v4 : Go.Value) (W5 : Go.SX.PW) => ∃ (s6 : Go.SX.Sl), ∃ (b7 : Bool), v4 = Go.Value.agg { toList := [Go.SX.Sl.v s6, Go.Value.bool b7] } ∧ ∀ (W8 : Go.SX.PW), Go.SX.Ext W5 W8 → Post (Go.Value.agg { toList := [Go.SX.Sl.v s6, Go.Value.bool b7] }) W8
theorem callrat_Rat_Den (W0 : Go.SX.PW) (M : Nat → Prop) (a0_0 : Go.SX.Sl) (a0_1 : Bool) (a0_2 : Go.SX.Sl) (Post : Go.Value → Go.SX.PW → Prop) (h : Rrat_Rat_Den W0 M a0_0 a0_1 a0_2 Post) : Go.SX.PCallsM Go.Proofs.Try.prog 50 [Go.Value.agg #[Go.SX.Sl.v a0_0, Go.Value.bool a0_1, Go.SX.Sl.v a0_2]] W0 M Post :=
  Go.SX.fn_sound rfl tt_ok tt_in Go.Proofs.Try.func50 (cuts := []) rfl rfl (Nat.le_of_ble_eq_true rfl) (Eq.mpr (by kernel_rfl) h)
def Rrat_scaled (W0 : Go.SX.PW) (M : Nat → Prop) (a0_0 : Go.SX.Sl) (a0_1 : Bool) (a0_2 : Go.SX.Sl) (a1_0 : Go.SX.Sl) (a1_1 : Bool) (a1_2 : Go.SX.Sl) (Post : Go.Value → Go.SX.PW → Prop) : Prop :=
 Go.SX.callN Go.Proofs.Try.prog W0 M (38 : Nat) [Go.Value.agg { toList := [Go.SX.Sl.v a1_2] }] W0 fun (v1 : Go.Value) (W2 : Go.SX.PW) =>
 ∃ (i3 : Int),
 v1 = Go.Value.int Go.IntKind.i64 i3 ∧
 (i3 = (0 : Int) → ∀ (W4 : Go.SX.PW), Go.SX.Ext W2 W4 → Post (Go.Value.agg { toList := [Go.SX.Sl.v a0_0, Go.Value.bool a0_1] }) W4) ∧
 (¬i3 = (0 : Int) →
 Go.SX.callN Go.Proofs.Try.prog W0 M (50 : Nat) [Go.Value.agg { toList := [Go.SX.Sl.v a1_0, Go.Value.bool a1_1, Go.SX.Sl.v a1_2] }] W2 fun (v5 : Go.Value) (W6 : Go.SX.PW) =>
 ∃ (s7 : Go.SX.Sl),
 ∃ (b8 : Bool),
 v5 = Go.Value.agg { toList := [Go.SX.Sl.v s7, Go.Value.bool b8] } ∧
 Go.SX.callN Go.Proofs.Try.prog W0 M (49 : Nat) [Go.Value.agg { toList := [Go.SX.Sl.v a0_0, Go.Value.bool a0_1] }, Go.Value.agg { toList := [Go.SX.Sl.v s7, Go.Value.bool b8] }] W6 fun (v9 : Go.Value) (W10 : Go.SX.PW) =>
 ∃ (s11 : Go.SX.Sl), ∃ (b12 : Bool), v9 = Go.Value.agg { toList := [Go.SX.Sl.v s11, Go.Value.bool b12] } ∧ ∀ (W13 : Go.SX.PW), Go.SX.Ext W10 W13 → Post (Go.Value.agg { toList := [Go.SX.Sl.v s11, Go.Value.bool b12] }) W13)
theorem callrat_scaled (W0 : Go.SX.PW) (M : Nat → Prop) (a0_0 : Go.SX.Sl) (a0_1 : Bool) (a0_2 : Go.SX.Sl) (a1_0 : Go.SX.Sl) (a1_1 : Bool) (a1_2 : Go.SX.Sl) (Post : Go.Value → Go.SX.PW → Prop) (h : Rrat_scaled W0 M a0_0 a0_1 a0_2 a1_0 a1_1 a1_2 Post) : Go.SX.PCallsM Go.Proofs.Try.prog 28 [Go.Value.agg #[Go.SX.Sl.v a0_0, Go.Value.bool a0_1, Go.SX.Sl.v a0_2], Go.Value.agg #[Go.SX.Sl.v a1_0, Go.Value.bool a1_1, Go.SX.Sl.v a1_2]] W0 M Post :=
  Go.SX.fn_sound rfl tt_ok tt_in Go.Proofs.Try.func28 (cuts := []) rfl rfl (Nat.le_of_ble_eq_true rfl) (Eq.mpr (by kernel_rfl) h)
def Rrat_Cmp (W0 : Go.SX.PW) (M : Nat → Prop) (a0_0 : Go.SX.Sl) (a0_1 : Bool) (a0_2 : Go.SX.Sl) (a1_0 : Go.SX.Sl) (a1_1 : Bool) (a1_2 : Go.SX.Sl) (Post : Go.Value → Go.SX.PW → Prop) : Prop :=
 Go.SX.callN Go.Proofs.Try.prog W0 M (28 : Nat) [Go.Value.agg { toList := [Go.SX.Sl.v a0_0, Go.Value.bool a0_1, Go.SX.Sl.v a0_2] }, Go.Value.agg { toList := [Go.SX.Sl.v a1_0, Go.Value.bool a1_1, Go.SX.Sl.v a1_2] }] W0 fun (v1 : Go.Value) (W2 : Go.SX.PW) =>
 ∃ (s3 : Go.SX.Sl),
 ∃ (b4 : Bool),
 v1 = Go.Value.agg { toList := [Go.SX.Sl.v s3, Go.Value.bool b4] } ∧
 Go.SX.callN Go.Proofs.Try.prog W0 M (28 : Nat) [Go.Value.agg { toList := [Go.SX.Sl.v a1_0, Go.Value.bool a1_1, Go.SX.Sl.v a1_2] }, Go.Value.agg { toList := [Go.SX.Sl.v a0_0, Go.Value.bool a0_1, Go.SX.Sl.v a0_2] }] W2 fun (v5 : Go.Value) (W6 : Go.SX.PW) =>
 ∃ (s7 : Go.SX.Sl),
 ∃ (b8 : Bool),
 v5 = Go.Value.agg { toList := [Go.SX.Sl.v s7, Go.Value.bool b8] } ∧
 Go.SX.callN Go.Proofs.Try.prog W0 M (27 : Nat) [Go.Value.agg { toList := [Go.SX.Sl.v s3, Go.Value.bool b4] }, Go.Value.agg { toList := [Go.SX.Sl.v s7, Go.Value.bool b8] }] W6 fun (v9 : Go.Value) (W10 : Go.SX.PW) => ∃ (i11 : Int), v9 = Go.Value.int Go.IntKind.i64 i11 ∧ ∀ (W12 : Go.SX.PW), Go.SX.Ext W10 W12 → Post (Go.Value.int Go.IntKind.i64 i11) W12
theorem callrat_Cmp (W0 : Go.SX.PW) (M : Nat → Prop) (a0_0 : Go.SX.Sl) (a0_1 : Bool) (a0_2 : Go.SX.Sl) (a1_0 : Go.SX.Sl) (a1_1 : Bool) (a1_2 : Go.SX.Sl) (Post : Go.Value → Go.SX.PW → Prop) (h : Rrat_Cmp W0 M a0_0 a0_1 a0_2 a1_0 a1_1 a1_2 Post) : Go.SX.PCallsM Go.Proofs.Try.prog 12 [Go.Value.agg #[Go.SX.Sl.v a0_0, Go.Value.bool a0_1, Go.SX.Sl.v a0_2], Go.Value.agg #[Go.SX.Sl.v a1_0, Go.Value.bool a1_1, Go.SX.Sl.v a1_2]] W0 M Post :=
  Go.SX.fn_sound rfl tt_ok tt_in Go.Proofs.Try.func12 (cuts := []) rfl rfl (Nat.le_of_ble_eq_true rfl) (Eq.mpr (by kernel_rfl) h)
def Rrat_Neg (W0 : Go.SX.PW) (M : Nat → Prop) (a0_0 : Go.SX.Sl) (a0_1 : Bool) (a0_2 : Go.SX.Sl) (Post : Go.Value → Go.SX.PW → Prop) : Prop :=
 Go.SX.callN Go.Proofs.Try.prog W0 M (77 : Nat) [Go.Value.agg { toList := [Go.SX.Sl.v a0_0, Go.Value.bool a0_1] }] W0 fun (v1 : Go.Value) (W2 : Go.SX.PW) => ∃ (s3 : Go.SX.Sl), ∃ (b4 : Bool), v1 = Go.Value.agg { toList := [Go.SX.Sl.v s3, Go.Value.bool b4] } ∧ ∀ (W5 : Go.SX.PW), Go.SX.Ext W2 W5 → Post (Go.Value.agg { toList := [Go.SX.Sl.v s3, Go.Value.bool b4, Go.SX.Sl.v a0_2] }) W5
theorem callrat_Neg (W0 : Go.SX.PW) (M : Nat → Prop) (a0_0 : Go.SX.Sl) (a0_1 : Bool) (a0_2 : Go.SX.Sl) (Post : Go.Value → Go.SX.PW → Prop) (h : Rrat_Neg W0 M a0_0 a0_1 a0_2 Post) : Go.SX.PCallsM Go.Proofs.Try.prog 67 [Go.Value.agg #[Go.SX.Sl.v a0_0, Go.Value.bool a0_1, Go.SX.Sl.v a0_2]] W0 M Post :=
  Go.SX.fn_sound rfl tt_ok tt_in Go.Proofs.Try.func67 (cuts := []) rfl rfl (Nat.le_of_ble_eq_true rfl) (Eq.mpr (by kernel_rfl) h)
def Rrat_Add (W0 : Go.SX.PW) (M : Nat → Prop) (a0_0 : Go.SX.Sl) (a0_1 : Bool) (a0_2 : Go.SX.Sl) (a1_0 : Go.SX.Sl) (a1_1 : Bool) (a1_2 : Go.SX.Sl) (Post : Go.Value → Go.SX.PW → Prop) : Prop :=
 Go.SX.callN Go.Proofs.Try.prog W0 M (48 : Nat) [Go.Value.agg { toList := [Go.SX.Sl.v a0_2] }, Go.Value.agg { toList := [Go.SX.Sl.v a1_2] }] W0 fun (v1 : Go.Value) (W2 : Go.SX.PW) =>
 ∃ (i3 : Int),
 v1 = Go.Value.int Go.IntKind.i64 i3 ∧
 (i3 = (0 : Int) →
 Go.SX.callN Go.Proofs.Try.prog W0 M (51 : Nat) [Go.Value.agg { toList := [Go.SX.Sl.v a0_0, Go.Value.bool a0_1] }, Go.Value.agg { toList := [Go.SX.Sl.v a1_0, Go.Value.bool a1_1] }] W2 fun (v4 : Go.Value) (W5 : Go.SX.PW) =>
 ∃ (s6 : Go.SX.Sl),
 ∃ (b7 : Bool),
 v4 = Go.Value.agg { toList := [Go.SX.Sl.v s6, Go.Value.bool b7] } ∧
 Go.SX.callN Go.Proofs.Try.prog W0 M (42 : Nat) [Go.Value.agg { toList := [Go.SX.Sl.v s6, Go.Value.bool b7] }, Go.Value.agg { toList := [Go.SX.Sl.v a0_2] }] W5 fun (v8 : Go.Value) (W9 : Go.SX.PW) =>
 ∃ (s10 : Go.SX.Sl), ∃ (b11 : Bool), ∃ (s12 : Go.SX.Sl), v8 = Go.Value.agg { toList := [Go.SX.Sl.v s10, Go.Value.bool b11, Go.SX.Sl.v s12] } ∧ ∀ (W13 : Go.SX.PW), Go.SX.Ext W9 W13 → Post (Go.Value.agg { toList := [Go.SX.Sl.v s10, Go.Value.bool b11, Go.SX.Sl.v s12] }) W13) ∧
 (¬i3 = (0 : Int) →
 Go.SX.callN Go.Proofs.Try.prog W0 M (28 : Nat) [Go.Value.agg { toList := [Go.SX.Sl.v a0_0, Go.Value.bool a0_1, Go.SX.Sl.v a0_2] }, Go.Value.agg { toList := [Go.SX.Sl.v a1_0, Go.Value.bool a1_1, Go.SX.Sl.v a1_2] }] W2 fun (v14 : Go.Value) (W15 : Go.SX.PW) =>
 ∃ (s16 : Go.SX.Sl),
 ∃ (b17 : Bool),
 v14 = Go.Value.agg { toList := [Go.SX.Sl.v s16, Go.Value.bool b17] } ∧
 Go.SX.callN Go.Proofs.Try.prog W0 M (28 : Nat) [Go.Value.agg { toList := [Go.SX.Sl.v a1_0, Go.Value.bool a1_1, Go.SX.Sl.v a1_2] }, Go.Value.agg { toList := [Go.SX.Sl.v a0_0, Go.Value.bool a0_1, Go.SX.Sl.v a0_2] }] W15 fun (v18 : Go.Value) (W19 : Go.SX.PW) =>
 ∃ (s20 : Go.SX.Sl),
 ∃ (b21 : Bool),
 v18 = Go.Value.agg { toList := [Go.SX.Sl.v s20, Go.Value.bool b21] } ∧
 Go.SX.callN Go.Proofs.Try.prog W0 M (51 : Nat) [Go.Value.agg { toList := [Go.SX.Sl.v s16, Go.Value.bool b17] }, Go.Value.agg { toList := [Go.SX.Sl.v s20, Go.Value.bool b21] }] W19 fun (v22 : Go.Value) (W23 : Go.SX.PW) =>
 ∃ (s24 : Go.SX.Sl),
 ∃ (b25 : Bool),
 v22 = Go.Value.agg { toList := [Go.SX.Sl.v s24, Go.Value.bool b25] } ∧
 Go.SX.callN Go.Proofs.Try.prog W0 M (44 : Nat) [Go.Value.agg { toList := [Go.SX.Sl.v a0_0, Go.Value.bool a0_1, Go.SX.Sl.v a0_2] }] W23 fun (v26 : Go.Value) (W27 : Go.SX.PW) =>
 ∃ (s28 : Go.SX.Sl),
 v26 = Go.Value.agg { toList := [Go.SX.Sl.v s28] } ∧
 Go.SX.callN Go.Proofs.Try.prog W0 M (44 : Nat) [Go.Value.agg { toList := [Go.SX.Sl.v a1_0, Go.Value.bool a1_1, Go.SX.Sl.v a1_2] }] W27 fun (v29 : Go.Value) (W30 : Go.SX.PW) =>
 ∃ (s31 : Go.SX.Sl),
 v29 = Go.Value.agg { toList := [Go.SX.Sl.v s31] } ∧
 Go.SX.callN Go.Proofs.Try.prog W0 M (52 : Nat) [Go.Value.agg { toList := [Go.SX.Sl.v s28] }, Go.Value.agg { toList := [Go.SX.Sl.v s31] }] W30 fun (v32 : Go.Value) (W33 : Go.SX.PW) =>
 ∃ (s34 : Go.SX.Sl),
 v32 = Go.Value.agg { toList := [Go.SX.Sl.v s34] } ∧
 Go.SX.callN Go.Proofs.Try.prog W0 M (42 : Nat) [Go.Value.agg { toList := [Go.SX.Sl.v s24, Go.Value.bool b25] }, Go.Value.agg { toList := [Go.SX.Sl.v s34] }] W33 fun (v35 : Go.Value) (W36 : Go.SX.PW) =>
 ∃ (s37 : Go.SX.Sl), ∃ (b38 : Bool), ∃ (s39 : Go.SX.Sl), v35 = Go.Value.agg { toList := [Go.SX.Sl.v s37, Go.Value.bool b38, Go.SX.Sl.v s39] } ∧ ∀ (W40 : Go.SX.PW), Go.SX.Ext W36 W40 → Post (Go.Value.agg { toList := [Go.SX.Sl.v s37, Go.Value.bool b38, Go.SX.Sl.v s39] }) W40)
theorem callrat_Add (W0 : Go.SX.PW) (M : Nat → Prop) (a0_0 : Go.SX.Sl) (a0_1 : Bool) (a0_2 : Go.SX.Sl) (a1_0 : Go.SX.Sl) (a1_1 : Bool) (a1_2 : Go.SX.Sl) (Post : Go.Value → Go.SX.PW → Prop) (h : Rrat_Add W0 M a0_0 a0_1 a0_2 a1_0 a1_1 a1_2 Post) : Go.SX.PCallsM Go.Proofs.Try.prog 29 [Go.Value.agg #[Go.SX.Sl.v a0_0, Go.Value.bool a0_1, Go.SX.Sl.v a0_2], Go.Value.agg #[Go.SX.Sl.v a1_0, Go.Value.bool a1_1, Go.SX.Sl.v a1_2]] W0 M Post :=
  Go.SX.fn_sound rfl tt_ok tt_in Go.Proofs.Try.func29 (cuts := []) rfl rfl (Nat.le_of_ble_eq_true rfl) (Eq.mpr (by kernel_rfl) h)
def Rrat_Sub (W0 : Go.SX.PW) (M : Nat → Prop) (a0_0 : Go.SX.Sl) (a0_1 : Bool) (a0_2 : Go.SX.Sl) (a1_0 : Go.SX.Sl) (a1_1 : Bool) (a1_2 : Go.SX.Sl) (Post : Go.Value → Go.SX.PW → Prop) : Prop :=
 Go.SX.callN Go.Proofs.Try.prog W0 M (67 : Nat) [Go.Value.agg { toList := [Go.SX.Sl.v a1_0, Go.Value.bool a1_1, Go.SX.Sl.v a1_2] }] W0 fun (v1 : Go.Value) (W2 : Go.SX.PW) =>
 ∃ (s3 : Go.SX.Sl),
 ∃ (b4 : Bool),
 ∃ (s5 : Go.SX.Sl),
 v1 = Go.Value.agg { toList := [Go.SX.Sl.v s3, Go.Value.bool b4, Go.SX.Sl.v s5] } ∧
 Go.SX.callN Go.Proofs.Try.prog W0 M (29 : Nat) [Go.Value.agg { toList := [Go.SX.Sl.v a0_0, Go.Value.bool a0_1, Go.SX.Sl.v a0_2] }, Go.Value.agg { toList := [Go.SX.Sl.v s3, Go.Value.bool b4, Go.SX.Sl.v s5] }] W2 fun (v6 : Go.Value) (W7 : Go.SX.PW) =>
 ∃ (s8 : Go.SX.Sl), ∃ (b9 : Bool), ∃ (s10 : Go.SX.Sl), v6 = Go.Value.agg { toList := [Go.SX.Sl.v s8, Go.Value.bool b9, Go.SX.Sl.v s10] } ∧ ∀ (W11 : Go.SX.PW), Go.SX.Ext W7 W11 → Post (Go.Value.agg { toList := [Go.SX.Sl.v s8, Go.Value.bool b9, Go.SX.Sl.v s10] }) W11
theorem callrat_Sub (W0 : Go.SX.PW) (M : Nat → Prop) (a0_0 : Go.SX.Sl) (a0_1 : Bool) (a0_2 : Go.SX.Sl) (a1_0 : Go.SX.Sl) (a1_1 : Bool) (a1_2 : Go.SX.Sl) (Post : Go.Value → Go.SX.PW → Prop) (h : Rrat_Sub W0 M a0_0 a0_1 a0_2 a1_0 a1_1 a1_2 Post) : Go.SX.PCallsM Go.Proofs.Try.prog 41 [Go.Value.agg #[Go.SX.Sl.v a0_0, Go.Value.bool a0_1, Go.SX.Sl.v a0_2], Go.Value.agg #[Go.SX.Sl.v a1_0, Go.Value.bool a1_1, Go.SX.Sl.v a1_2]] W0 M Post :=
  Go.SX.fn_sound rfl tt_ok tt_in Go.Proofs.Try.func41 (cuts := []) rfl rfl (Nat.le_of_ble_eq_true rfl) (Eq.mpr (by kernel_rfl) h)
def Rrat_Mul (W0 : Go.SX.PW) (M : Nat → Prop) (a0_0 : Go.SX.Sl) (a0_1 : Bool) (a0_2 : Go.SX.Sl) (a1_0 : Go.SX.Sl) (a1_1 : Bool) (a1_2 : Go.SX.Sl) (Post : Go.Value → Go.SX.PW → Prop) : Prop :=
 Go.SX.callN Go.Proofs.Try.prog W0 M (49 : Nat) [Go.Value.agg { toList := [Go.SX.Sl.v a0_0, Go.Value.bool a0_1] }, Go.Value.agg { toList := [Go.SX.Sl.v a1_0, Go.Value.bool a1_1] }] W0 fun (v1 : Go.Value) (W2 : Go.SX.PW) =>
 ∃ (s3 : Go.SX.Sl),
 ∃ (b4 : Bool),
 v1 = Go.Value.agg { toList := [Go.SX.Sl.v s3, Go.Value.bool b4] } ∧
 Go.SX.callN Go.Proofs.Try.prog W0 M (44 : Nat) [Go.Value.agg { toList := [Go.SX.Sl.v a0_0, Go.Value.bool a0_1, Go.SX.Sl.v a0_2] }] W2 fun (v5 : Go.Value) (W6 : Go.SX.PW) =>
 ∃ (s7 : Go.SX.Sl),
 v5 = Go.Value.agg { toList := [Go.SX.Sl.v s7] } ∧
 Go.SX.callN Go.Proofs.Try.prog W0 M (44 : Nat) [Go.Value.agg { toList := [Go.SX.Sl.v a1_0, Go.Value.bool a1_1, Go.SX.Sl.v a1_2] }] W6 fun (v8 : Go.Value) (W9 : Go.SX.PW) =>
 ∃ (s10 : Go.SX.Sl),
 v8 = Go.Value.agg { toList := [Go.SX.Sl.v s10] } ∧
 Go.SX.callN Go.Proofs.Try.prog W0 M (52 : Nat) [Go.Value.agg { toList := [Go.SX.Sl.v s7] }, Go.Value.agg { toList := [Go.SX.Sl.v s10] }] W9 fun (v11 : Go.Value) (W12 : Go.SX.PW) =>
 ∃ (s13 : Go.SX.Sl),
 v11 = Go.Value.agg { toList := [Go.SX.Sl.v s13] } ∧
 Go.SX.callN Go.Proofs.Try.prog W0 M (42 : Nat) [Go.Value.agg { toList := [Go.SX.Sl.v s3, Go.Value.bool b4] }, Go.Value.agg { toList := [Go.SX.Sl.v s13] }] W12 fun (v14 : Go.Value) (W15 : Go.SX.PW) =>
 ∃ (s16 : Go.SX.Sl), ∃ (b17 : Bool), ∃ (s18 : Go.SX.Sl), v14 = Go.Value.agg { toList := [Go.SX.Sl.v s16, Go.Value.bool b17, Go.SX.Sl.v s18] } ∧ ∀ (W19 : Go.SX.PW), Go.SX.Ext W15 W19 → Post (Go.Value.agg { toList := [Go.SX.Sl.v s16, Go.Value.bool b17, Go.SX.Sl.v s18] }) W19
theorem callrat_Mul (W0 : Go.SX.PW) (M : Nat → Prop) (a0_0 : Go.SX.Sl) (a0_1 : Bool) (a0_2 : Go.SX.Sl) (a1_0 : Go.SX.Sl) (a1_1 : Bool) (a1_2 : Go.SX.Sl) (Post : Go.Value → Go.SX.PW → Prop) (h : Rrat_Mul W0 M a0_0 a0_1 a0_2 a1_0 a1_1 a1_2 Post) : Go.SX.PCallsM Go.Proofs.Try.prog 30 [Go.Value.agg #[Go.SX.Sl.v a0_0, Go.Value.bool a0_1, Go.SX.Sl.v a0_2], Go.Value.agg #[Go.SX.Sl.v a1_0, Go.Value.bool a1_1, Go.SX.Sl.v a1_2]] W0 M Post :=
  Go.SX.fn_sound rfl tt_ok tt_in Go.Proofs.Try.func30 (cuts := []) rfl rfl (Nat.le_of_ble_eq_true rfl) (Eq.mpr (by kernel_rfl) h)
def Rrat_Div (W0 : Go.SX.PW) (M : Nat → Prop) (a0_0 : Go.SX.Sl) (a0_1 : Bool) (a0_2 : Go.SX.Sl) (a1_0 : Go.SX.Sl) (a1_1 : Bool) (a1_2 : Go.SX.Sl) (Post : Go.Value → Go.SX.PW → Prop) : Prop :=
 Go.SX.callN Go.Proofs.Try.prog W0 M (22 : Nat) [Go.Value.agg { toList := [Go.SX.Sl.v a1_0, Go.Value.bool a1_1, Go.SX.Sl.v a1_2] }] W0 fun (v1 : Go.Value) (W2 : Go.SX.PW) =>
 ∃ (i3 : Int),
 v1 = Go.Value.int Go.IntKind.i64 i3 ∧
 (i3 = (0 : Int) → ∀ (W4 : Go.SX.PW), Go.SX.Ext W2 W4 → Post (Go.Value.tuple { toList := [Go.Value.agg { toList := [Go.Value.slice Option.none (0 : Nat) (0 : Nat), Go.Value.bool Bool.false, Go.Value.slice Option.none (0 : Nat) (0 : Nat)] }, Go.Value.bool Bool.false] }) W4) ∧
 (¬i3 = (0 : Int) →
 Go.SX.callN Go.Proofs.Try.prog W0 M (22 : Nat) [Go.Value.agg { toList := [Go.SX.Sl.v a1_0, Go.Value.bool a1_1, Go.SX.Sl.v a1_2] }] W2 fun (v5 : Go.Value) (W6 : Go.SX.PW) =>
 ∃ (i7 : Int),
 v5 = Go.Value.int Go.IntKind.i64 i7 ∧
 Go.SX.callN Go.Proofs.Try.prog W0 M (44 : Nat) [Go.Value.agg { toList := [Go.SX.Sl.v a1_0, Go.Value.bool a1_1, Go.SX.Sl.v a1_2] }] W6 fun (v8 : Go.Value) (W9 : Go.SX.PW) =>
 ∃ (s10 : Go.SX.Sl),
 v8 = Go.Value.agg { toList := [Go.SX.Sl.v s10] } ∧
 Go.SX.callN Go.Proofs.Try.prog W0 M (43 : Nat) [Go.Value.bool (Decidable.decide (i7 < (0 : Int))), Go.Value.agg { toList := [Go.SX.Sl.v s10] }] W9 fun (v11 : Go.Value) (W12 : Go.SX.PW) =>
 ∃ (s13 : Go.SX.Sl),
 ∃ (b14 : Bool),
 v11 = Go.Value.agg { toList := [Go.SX.Sl.v s13, Go.Value.bool b14] } ∧
 Go.SX.callN Go.Proofs.Try.prog W0 M (45 : Nat) [Go.Value.agg { toList := [Go.SX.Sl.v a1_0, Go.Value.bool a1_1] }] W12 fun (v15 : Go.Value) (W16 : Go.SX.PW) =>
 ∃ (s17 : Go.SX.Sl),
 v15 = Go.Value.agg { toList := [Go.SX.Sl.v s17] } ∧
 Go.SX.callN Go.Proofs.Try.prog W0 M (42 : Nat) [Go.Value.agg { toList := [Go.SX.Sl.v s13, Go.Value.bool b14] }, Go.Value.agg { toList := [Go.SX.Sl.v s17] }] W16 fun (v18 : Go.Value) (W19 : Go.SX.PW) =>
 ∃ (s20 : Go.SX.Sl),
 ∃ (b21 : Bool),
 ∃ (s22 : Go.SX.Sl),
 v18 = Go.Value.agg { toList := [Go.SX.Sl.v s20, Go.Value.bool b21, Go.SX.Sl.v s22] } ∧
 Go.SX.callN Go.Proofs.Try.prog W0 M (30 : Nat) [Go.Value.agg { toList := [Go.SX.Sl.v a0_0, Go.Value.bool a0_1, Go.SX.Sl.v a0_2] }, Go.Value.agg { toList := [Go.SX.Sl.v s20, Go.Value.bool b21, Go.SX.Sl.v s22] }] W19 fun (v23 : Go.Value) (W24 : Go.SX.PW) =>
 ∃ (s25 : Go.SX.Sl), ∃ (b26 : Bool), ∃ (s27 : Go.SX.Sl), v23 = Go.Value.agg { toList := [Go.SX.Sl.v s25, Go.Value.bool b26, Go.SX.Sl.v s27] } ∧ ∀ (W28 : Go.SX.PW), Go.SX.Ext W24 W28 → Post (Go.Value.tuple { toList := [Go.Value.agg { toList := [Go.SX.Sl.v s25, Go.Value.bool b26, Go.SX.Sl.v s27] }, Go.Value.bool Bool.true] }) W28)
theorem callrat_Div (W0 : Go.SX.PW) (M : Nat → Prop) (a0_0 : Go.SX.Sl) (a0_1 : Bool) (a0_2 : Go.SX.Sl) (a1_0 : Go.SX.Sl) (a1_1 : Bool) (a1_2 : Go.SX.Sl) (Post : Go.Value → Go.SX.PW → Prop) (h : Rrat_Div W0 M a0_0 a0_1 a0_2 a1_0 a1_1 a1_2 Post) : Go.SX.PCallsM Go.Proofs.Try.prog 21 [Go.Value.agg #[Go.SX.Sl.v a0_0, Go.Value.bool a0_1, Go.SX.Sl.v a0_2], Go.Value.agg #[Go.SX.Sl.v a1_0, Go.Value.bool a1_1, Go.SX.Sl.v a1_2]] W0 M Post :=
  Go.SX.fn_sound rfl tt_ok tt_in Go.Proofs.Try.func21 (cuts := []) rfl rfl (Nat.le_of_ble_eq_true rfl) (Eq.mpr (by kernel_rfl) h)
def Rrat_Rat_Sign (W0 : Go.SX.PW) (M : Nat → Prop) (a0_0 : Go.SX.Sl) (a0_1 : Bool) (a0_2 : Go.SX.Sl) (Post : Go.Value → Go.SX.PW → Prop) : Prop :=
 Go.SX.callN Go.Proofs.Try.prog W0 M (46 : Nat) [Go.Value.agg { toList := [Go.SX.Sl.v a0_0, Go.Value.bool a0_1] }] W0 fun (v1 : Go.Value) (W2 : Go.SX.PW) => ∃ (i3 : Int), v1 = Go.Value.int Go.IntKind.i64 i3 ∧ ∀ (W4 : Go.SX.PW), Go.SX.Ext W2 W4 → Post (Go.Value.int Go.IntKind.i64 i3) W4
theorem callrat_Rat_Sign (W0 : Go.SX.PW) (M : Nat → Prop) (a0_0 : Go.SX.Sl) (a0_1 : Bool) (a0_2 : Go.SX.Sl) (Post : Go.Value → Go.SX.PW → Prop) (h : Rrat_Rat_Sign W0 M a0_0 a0_1 a0_2 Post) : Go.SX.PCallsM Go.Proofs.Try.prog 22 [Go.Value.agg #[Go.SX.Sl.v a0_0, Go.Value.bool a0_1, Go.SX.Sl.v a0_2]] W0 M Post :=
  Go.SX.fn_sound rfl tt_ok tt_in Go.Proofs.Try.func22 (cuts := []) rfl rfl (Nat.le_of_ble_eq_true rfl) (Eq.mpr (by kernel_rfl) h)
def Rrat_Of (W0 : Go.SX.PW) (M : Nat → Prop) (a0 : Int) (Post : Go.Value → Go.SX.PW → Prop) : Prop :=
 Go.SX.callN Go.Proofs.Try.prog W0 M (26 : Nat) [Go.Value.int Go.IntKind.i64 a0] W0 fun (v1 : Go.Value) (W2 : Go.SX.PW) => ∃ (s3 : Go.SX.Sl), ∃ (b4 : Bool), v1 = Go.Value.agg { toList := [Go.SX.Sl.v s3, Go.Value.bool b4] } ∧ ∀ (W5 : Go.SX.PW), Go.SX.Ext W2 W5 → Post (Go.Value.agg { toList := [Go.SX.Sl.v s3, Go.Value.bool b4, Go.Value.slice Option.none (0 : Nat) (0 : Nat)] }) W5
theorem callrat_Of (W0 : Go.SX.PW) (M : Nat → Prop) (a0 : Int) (Post : Go.Value → Go.SX.PW → Prop) (h : Rrat_Of W0 M a0 Post) : Go.SX.PCallsM Go.Proofs.Try.prog 11 [Go.Value.int Go.IntKind.i64 a0] W0 M Post :=
  Go.SX.fn_sound rfl tt_ok tt_in Go.Proofs.Try.func11 (cuts := []) rfl rfl (Nat.le_of_ble_eq_true rfl) (Eq.mpr (by kernel_rfl) h)
end Go.Proofs.Ytcffcndpefaalaa
