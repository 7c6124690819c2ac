/- R5 -/
import Derived.Test.YtcffcndpefaalaaTt
set_option linter.unusedVariables false
set_option linter.unusedSimpArgs false
set_option maxRecDepth 100000
set_option linter.unusedVariables false
namespace Go.Proofs.Ytcffcndpefaalaa
def Rnat_Parse (W0 : Go.SX.PW) (M : Nat → Prop) (a0 : ByteArray) (Post : Go.Value → Go.SX.PW → Prop) : Prop :=
 ∃ (F1 : List Go.SX.PL → Go.SX.PW → Prop),
 ((a0 = (ByteArray.mk #[]) →
 (Bool.true = Bool.true → (Bool.true = Bool.true → ∀ (W2 : Go.SX.PW), Go.SX.Ext W0 W2 → Post (Go.Value.tuple { toList := [Go.Value.agg { toList := [Go.Value.slice Option.none (0 : Nat) (0 : Nat)] }, Go.Value.int Go.IntKind.i64 (2 : Int)] }) W2) ∧ (Bool.true = Bool.false → F1 [Go.SX.PL.cells [Go.Value.slice Option.none (0 : Nat) (0 : Nat)]] W0)) ∧
 (Bool.true = Bool.false →
 ((0 : Int) ≤ (0 : Int) ∧ (0 : Int) < (↑(ByteArray.size a0) : Int)) ∧
 (Go.SX.sbyte a0 (0 : Nat) = (48 : Int) →
 ((1 : Int) < (↑(ByteArray.size a0) : Int) → ∀ (W3 : Go.SX.PW), Go.SX.Ext W0 W3 → Post (Go.Value.tuple { toList := [Go.Value.agg { toList := [Go.Value.slice Option.none (0 : Nat) (0 : Nat)] }, Go.Value.int Go.IntKind.i64 (2 : Int)] }) W3) ∧ (¬(1 : Int) < (↑(ByteArray.size a0) : Int) → F1 [Go.SX.PL.cells [Go.Value.slice Option.none (0 : Nat) (0 : Nat)]] W0)) ∧
 (¬Go.SX.sbyte a0 (0 : Nat) = (48 : Int) → (Bool.false = Bool.true → ∀ (W4 : Go.SX.PW), Go.SX.Ext W0 W4 → Post (Go.Value.tuple { toList := [Go.Value.agg { toList := [Go.Value.slice Option.none (0 : Nat) (0 : Nat)] }, Go.Value.int Go.IntKind.i64 (2 : Int)] }) W4) ∧ (Bool.false = Bool.false → F1 [Go.SX.PL.cells [Go.Value.slice Option.none (0 : Nat) (0 : Nat)]] W0)))) ∧
 (¬a0 = (ByteArray.mk #[]) →
 ((4000 : Int) < (↑(ByteArray.size a0) : Int) → (Bool.true = Bool.true → ∀ (W5 : Go.SX.PW), Go.SX.Ext W0 W5 → Post (Go.Value.tuple { toList := [Go.Value.agg { toList := [Go.Value.slice Option.none (0 : Nat) (0 : Nat)] }, Go.Value.int Go.IntKind.i64 (2 : Int)] }) W5) ∧ (Bool.true = Bool.false → F1 [Go.SX.PL.cells [Go.Value.slice Option.none (0 : Nat) (0 : Nat)]] W0)) ∧
 (¬(4000 : Int) < (↑(ByteArray.size a0) : Int) →
 ((0 : Int) ≤ (0 : Int) ∧ (0 : Int) < (↑(ByteArray.size a0) : Int)) ∧
 (Go.SX.sbyte a0 (0 : Nat) = (48 : Int) →
 ((1 : Int) < (↑(ByteArray.size a0) : Int) → ∀ (W6 : Go.SX.PW), Go.SX.Ext W0 W6 → Post (Go.Value.tuple { toList := [Go.Value.agg { toList := [Go.Value.slice Option.none (0 : Nat) (0 : Nat)] }, Go.Value.int Go.IntKind.i64 (2 : Int)] }) W6) ∧ (¬(1 : Int) < (↑(ByteArray.size a0) : Int) → F1 [Go.SX.PL.cells [Go.Value.slice Option.none (0 : Nat) (0 : Nat)]] W0)) ∧
 (¬Go.SX.sbyte a0 (0 : Nat) = (48 : Int) → (Bool.false = Bool.true → ∀ (W7 : Go.SX.PW), Go.SX.Ext W0 W7 → Post (Go.Value.tuple { toList := [Go.Value.agg { toList := [Go.Value.slice Option.none (0 : Nat) (0 : Nat)] }, Go.Value.int Go.IntKind.i64 (2 : Int)] }) W7) ∧ (Bool.false = Bool.false → F1 [Go.SX.PL.cells [Go.Value.slice Option.none (0 : Nat) (0 : Nat)]] W0))))) ∧
 ∀ (s8 : Go.SX.Sl) (W9 : Go.SX.PW),
 F1 [Go.SX.PL.cells [Go.SX.Sl.v s8]] W9 →
 ∃ (F10 : List Go.SX.PL → Go.SX.PW → Prop),
 ∃ (F11 : List Go.SX.PL → Go.SX.PW → Nat),
 F10 [Go.SX.PL.val (Go.Value.slice Option.none (0 : Nat) (0 : Nat)), Go.SX.PL.val (Go.Value.int Go.IntKind.i64 (0 : Int)), Go.SX.PL.cells [Go.SX.Sl.v s8]] W9 ∧
 ∀ (s12 s13 : Go.SX.Sl) (i14 : Int) (W15 : Go.SX.PW),
 F10 [Go.SX.PL.val (Go.SX.Sl.v s13), Go.SX.PL.val (Go.Value.int Go.IntKind.i64 i14), Go.SX.PL.cells [Go.SX.Sl.v s12]] W15 →
 (i14 < (↑(ByteArray.size a0) : Int) →
 ∃ (F16 : List Go.SX.PL → Go.SX.PW → Prop),
 (((0 : Int) ≤ i14 ∧ i14 < (↑(ByteArray.size a0) : Int)) ∧
 (Go.SX.sbyte a0 (Int.toNat i14) < (48 : Int) → (Bool.true = Bool.true → ∀ (W17 : Go.SX.PW), Go.SX.Ext W15 W17 → Post (Go.Value.tuple { toList := [Go.Value.agg { toList := [Go.Value.slice Option.none (0 : Nat) (0 : Nat)] }, Go.Value.int Go.IntKind.i64 (2 : Int)] }) W17) ∧ (Bool.true = Bool.false → False)) ∧
 (¬Go.SX.sbyte a0 (Int.toNat i14) < (48 : Int) →
 ((0 : Int) ≤ i14 ∧ i14 < (↑(ByteArray.size a0) : Int)) ∧
 ((57 : Int) < Go.SX.sbyte a0 (Int.toNat i14) → ∀ (W18 : Go.SX.PW), Go.SX.Ext W15 W18 → Post (Go.Value.tuple { toList := [Go.Value.agg { toList := [Go.Value.slice Option.none (0 : Nat) (0 : Nat)] }, Go.Value.int Go.IntKind.i64 (2 : Int)] }) W18) ∧
 (¬(57 : Int) < Go.SX.sbyte a0 (Int.toNat i14) → F16 [Go.SX.PL.val (Go.Value.string a0), Go.SX.PL.val (Go.Value.int Go.IntKind.i64 i14), Go.SX.PL.val (Go.Value.bool Bool.false), Go.SX.PL.val (Go.Value.string a0), Go.SX.PL.val (Go.Value.int Go.IntKind.i64 i14), Go.SX.PL.cells [Go.SX.Sl.v s12]] W15))) ∧
 ∀ (s19 : Go.SX.Sl) (t20 : ByteArray) (i21 : Int) (b22 : Bool) (t23 : ByteArray) (i24 : Int) (W25 : Go.SX.PW),
 F16 [Go.SX.PL.val (Go.Value.string t20), Go.SX.PL.val (Go.Value.int Go.IntKind.i64 i21), Go.SX.PL.val (Go.Value.bool b22), Go.SX.PL.val (Go.Value.string t23), Go.SX.PL.val (Go.Value.int Go.IntKind.i64 i24), Go.SX.PL.cells [Go.SX.Sl.v s19]] W25 →
 ((0 : Int) ≤ i14 ∧ i14 < (↑(ByteArray.size a0) : Int)) ∧
 Go.SX.callN Go.Proofs.Try.prog W0 M (75 : Nat) [Go.SX.Sl.v s13, Go.Value.int Go.IntKind.u32 (10 : Int), Go.Value.int Go.IntKind.u32 (Go.IntKind.wrap Go.IntKind.u32 (Go.IntKind.wrap Go.IntKind.u8 (Go.SX.sbyte a0 (Int.toNat i14) - (48 : Int))))] W25 fun (v26 : Go.Value) (W27 : Go.SX.PW) =>
 ∃ (s28 : Go.SX.Sl),
 v26 = Go.SX.Sl.v s28 ∧
 Go.SX.I64 (i14 + (1 : Int)) ∧
 F10 [Go.SX.PL.val (Go.SX.Sl.v s28), Go.SX.PL.val (Go.Value.int Go.IntKind.i64 (i14 + (1 : Int))), Go.SX.PL.cells [Go.SX.Sl.v s19]] W27 ∧
 F11 [Go.SX.PL.val (Go.SX.Sl.v s28), Go.SX.PL.val (Go.Value.int Go.IntKind.i64 (i14 + (1 : Int))), Go.SX.PL.cells [Go.SX.Sl.v s19]] W27 < F11 [Go.SX.PL.val (Go.SX.Sl.v s13), Go.SX.PL.val (Go.Value.int Go.IntKind.i64 i14), Go.SX.PL.cells [Go.SX.Sl.v s12]] W15) ∧
 (¬i14 < (↑(ByteArray.size a0) : Int) → ∀ (W29 : Go.SX.PW), Go.SX.Ext W15 W29 → Post (Go.Value.tuple { toList := [Go.Value.agg { toList := [Go.SX.Sl.v s13] }, Go.Value.int Go.IntKind.i64 (0 : Int)] }) W29)
theorem callnat_Parse (W0 : Go.SX.PW) (M : Nat → Prop) (a0 : ByteArray) (Post : Go.Value → Go.SX.PW → Prop) (h : Rnat_Parse W0 M a0 Post) : Go.SX.PCallsM Go.Proofs.Try.prog 60 [Go.Value.string a0] W0 M Post :=
  Go.SX.fn_sound rfl tt_ok tt_in Go.Proofs.Try.func60 (cuts := [3, 9]) rfl rfl (Nat.le_of_ble_eq_true rfl) (Eq.mpr (by kernel_rfl) h)
def Rwhole_Parse (W0 : Go.SX.PW) (M : Nat → Prop) (a0 : ByteArray) (Post : Go.Value → Go.SX.PW → Prop) : Prop :=
 (a0 ≠ (ByteArray.mk #[]) →
 ((0 : Int) ≤ (0 : Int) ∧ (0 : Int) < (↑(ByteArray.size a0) : Int)) ∧
 ∃ (F1 : List Go.SX.PL → Go.SX.PW → Prop),
 ((Go.SX.sbyte a0 (0 : Nat) = (45 : Int) → ((0 : Int) ≤ (1 : Int) ∧ (1 : Int) ≤ (↑(ByteArray.size a0) : Int) ∧ (↑(ByteArray.size a0) : Int) ≤ (↑(ByteArray.size a0) : Int)) ∧ F1 [Go.SX.PL.val (Go.Value.string (ByteArray.extract a0 (1 : Nat) (Int.toNat (↑(ByteArray.size a0) : Int))))] W0) ∧ (¬Go.SX.sbyte a0 (0 : Nat) = (45 : Int) → F1 [Go.SX.PL.val (Go.Value.string a0)] W0)) ∧
 ∀ (t2 : ByteArray) (W3 : Go.SX.PW),
 F1 [Go.SX.PL.val (Go.Value.string t2)] W3 →
 Go.SX.callN Go.Proofs.Try.prog W0 M (60 : Nat) [Go.Value.string t2] W3 fun (v4 : Go.Value) (W5 : Go.SX.PW) =>
 ∃ (s6 : Go.SX.Sl),
 ∃ (i7 : Int),
 v4 = Go.Value.tuple { toList := [Go.Value.agg { toList := [Go.SX.Sl.v s6] }, Go.Value.int Go.IntKind.i64 i7] } ∧
 ∃ (F8 : List Go.SX.PL → Go.SX.PW → Prop),
 ((i7 ≠ (0 : Int) →
 (Bool.true = Bool.true → ∀ (W9 : Go.SX.PW), Go.SX.Ext W5 W9 → Post (Go.Value.tuple { toList := [Go.Value.agg { toList := [Go.Value.slice Option.none (0 : Nat) (0 : Nat), Go.Value.bool Bool.false] }, Go.Value.int Go.IntKind.i64 (2 : Int)] }) W9) ∧
 (Bool.true = Bool.false → F8 [Go.SX.PL.cells [Go.Value.slice Option.none (0 : Nat) (0 : Nat), Go.Value.bool Bool.false]] W5)) ∧
 (¬i7 ≠ (0 : Int) →
 (Go.SX.sbyte a0 (0 : Nat) = (45 : Int) →
 Go.SX.callN Go.Proofs.Try.prog W0 M (38 : Nat) [Go.Value.agg { toList := [Go.SX.Sl.v s6] }] W5 fun (v10 : Go.Value) (W11 : Go.SX.PW) =>
 ∃ (i12 : Int),
 v10 = Go.Value.int Go.IntKind.i64 i12 ∧
 (i12 = (0 : Int) → ∀ (W13 : Go.SX.PW), Go.SX.Ext W11 W13 → Post (Go.Value.tuple { toList := [Go.Value.agg { toList := [Go.Value.slice Option.none (0 : Nat) (0 : Nat), Go.Value.bool Bool.false] }, Go.Value.int Go.IntKind.i64 (2 : Int)] }) W13) ∧
 (¬i12 = (0 : Int) → F8 [Go.SX.PL.cells [Go.Value.slice Option.none (0 : Nat) (0 : Nat), Go.Value.bool Bool.false]] W11)) ∧
 (¬Go.SX.sbyte a0 (0 : Nat) = (45 : Int) →
 (Bool.false = Bool.true → ∀ (W14 : Go.SX.PW), Go.SX.Ext W5 W14 → Post (Go.Value.tuple { toList := [Go.Value.agg { toList := [Go.Value.slice Option.none (0 : Nat) (0 : Nat), Go.Value.bool Bool.false] }, Go.Value.int Go.IntKind.i64 (2 : Int)] }) W14) ∧
 (Bool.false = Bool.false → F8 [Go.SX.PL.cells [Go.Value.slice Option.none (0 : Nat) (0 : Nat), Go.Value.bool Bool.false]] W5)))) ∧
 ∀ (s15 : Go.SX.Sl) (b16 : Bool) (W17 : Go.SX.PW),
 F8 [Go.SX.PL.cells [Go.SX.Sl.v s15, Go.Value.bool b16]] W17 →
 Go.SX.callN Go.Proofs.Try.prog W0 M (43 : Nat) [Go.Value.bool (Decidable.decide (Go.SX.sbyte a0 (0 : Nat) = (45 : Int))), Go.Value.agg { toList := [Go.SX.Sl.v s6] }] W17 fun (v18 : Go.Value) (W19 : Go.SX.PW) =>
 ∃ (s20 : Go.SX.Sl), ∃ (b21 : Bool), v18 = Go.Value.agg { toList := [Go.SX.Sl.v s20, Go.Value.bool b21] } ∧ ∀ (W22 : Go.SX.PW), Go.SX.Ext W19 W22 → Post (Go.Value.tuple { toList := [Go.Value.agg { toList := [Go.SX.Sl.v s20, Go.Value.bool b21] }, Go.Value.int Go.IntKind.i64 (0 : Int)] }) W22) ∧
 (¬a0 ≠ (ByteArray.mk #[]) →
 ∃ (F23 : List Go.SX.PL → Go.SX.PW → Prop),
 ((Bool.false = Bool.true → ((0 : Int) ≤ (1 : Int) ∧ (1 : Int) ≤ (↑(ByteArray.size a0) : Int) ∧ (↑(ByteArray.size a0) : Int) ≤ (↑(ByteArray.size a0) : Int)) ∧ F23 [Go.SX.PL.val (Go.Value.string (ByteArray.extract a0 (1 : Nat) (Int.toNat (↑(ByteArray.size a0) : Int))))] W0) ∧ (Bool.false = Bool.false → F23 [Go.SX.PL.val (Go.Value.string a0)] W0)) ∧
 ∀ (t24 : ByteArray) (W25 : Go.SX.PW),
 F23 [Go.SX.PL.val (Go.Value.string t24)] W25 →
 Go.SX.callN Go.Proofs.Try.prog W0 M (60 : Nat) [Go.Value.string t24] W25 fun (v26 : Go.Value) (W27 : Go.SX.PW) =>
 ∃ (s28 : Go.SX.Sl),
 ∃ (i29 : Int),
 v26 = Go.Value.tuple { toList := [Go.Value.agg { toList := [Go.SX.Sl.v s28] }, Go.Value.int Go.IntKind.i64 i29] } ∧
 ∃ (F30 : List Go.SX.PL → Go.SX.PW → Prop),
 ((i29 ≠ (0 : Int) →
 (Bool.true = Bool.true → ∀ (W31 : Go.SX.PW), Go.SX.Ext W27 W31 → Post (Go.Value.tuple { toList := [Go.Value.agg { toList := [Go.Value.slice Option.none (0 : Nat) (0 : Nat), Go.Value.bool Bool.false] }, Go.Value.int Go.IntKind.i64 (2 : Int)] }) W31) ∧
 (Bool.true = Bool.false → F30 [Go.SX.PL.cells [Go.Value.slice Option.none (0 : Nat) (0 : Nat), Go.Value.bool Bool.false]] W27)) ∧
 (¬i29 ≠ (0 : Int) →
 (Bool.false = Bool.true →
 Go.SX.callN Go.Proofs.Try.prog W0 M (38 : Nat) [Go.Value.agg { toList := [Go.SX.Sl.v s28] }] W27 fun (v32 : Go.Value) (W33 : Go.SX.PW) =>
 ∃ (i34 : Int),
 v32 = Go.Value.int Go.IntKind.i64 i34 ∧
 (i34 = (0 : Int) → ∀ (W35 : Go.SX.PW), Go.SX.Ext W33 W35 → Post (Go.Value.tuple { toList := [Go.Value.agg { toList := [Go.Value.slice Option.none (0 : Nat) (0 : Nat), Go.Value.bool Bool.false] }, Go.Value.int Go.IntKind.i64 (2 : Int)] }) W35) ∧
 (¬i34 = (0 : Int) → F30 [Go.SX.PL.cells [Go.Value.slice Option.none (0 : Nat) (0 : Nat), Go.Value.bool Bool.false]] W33)) ∧
 (Bool.false = Bool.false →
 (Bool.false = Bool.true → ∀ (W36 : Go.SX.PW), Go.SX.Ext W27 W36 → Post (Go.Value.tuple { toList := [Go.Value.agg { toList := [Go.Value.slice Option.none (0 : Nat) (0 : Nat), Go.Value.bool Bool.false] }, Go.Value.int Go.IntKind.i64 (2 : Int)] }) W36) ∧
 (Bool.false = Bool.false → F30 [Go.SX.PL.cells [Go.Value.slice Option.none (0 : Nat) (0 : Nat), Go.Value.bool Bool.false]] W27)))) ∧
 ∀ (s37 : Go.SX.Sl) (b38 : Bool) (W39 : Go.SX.PW),
 F30 [Go.SX.PL.cells [Go.SX.Sl.v s37, Go.Value.bool b38]] W39 →
 Go.SX.callN Go.Proofs.Try.prog W0 M (43 : Nat) [Go.Value.bool Bool.false, Go.Value.agg { toList := [Go.SX.Sl.v s28] }] W39 fun (v40 : Go.Value) (W41 : Go.SX.PW) =>
 ∃ (s42 : Go.SX.Sl), ∃ (b43 : Bool), v40 = Go.Value.agg { toList := [Go.SX.Sl.v s42, Go.Value.bool b43] } ∧ ∀ (W44 : Go.SX.PW), Go.SX.Ext W41 W44 → Post (Go.Value.tuple { toList := [Go.Value.agg { toList := [Go.SX.Sl.v s42, Go.Value.bool b43] }, Go.Value.int Go.IntKind.i64 (0 : Int)] }) W44)
theorem callwhole_Parse (W0 : Go.SX.PW) (M : Nat → Prop) (a0 : ByteArray) (Post : Go.Value → Go.SX.PW → Prop) (h : Rwhole_Parse W0 M a0 Post) : Go.SX.PCallsM Go.Proofs.Try.prog 59 [Go.Value.string a0] W0 M Post :=
  Go.SX.fn_sound rfl tt_ok tt_in Go.Proofs.Try.func59 (cuts := [4, 7]) rfl rfl (Nat.le_of_ble_eq_true rfl) (Eq.mpr (by kernel_rfl) h)
def Rrat_Parse (W0 : Go.SX.PW) (M : Nat → Prop) (a0 : ByteArray) (Post : Go.Value → Go.SX.PW → Prop) : Prop :=
 Go.SX.callN Go.Proofs.Try.prog W0 M (58 : Nat) [Go.Value.string a0, Go.Value.string (ByteArray.mk #[47])] W0 fun (v1 : Go.Value) (W2 : Go.SX.PW) =>
 ∃ (t3 : ByteArray),
 ∃ (t4 : ByteArray),
 ∃ (b5 : Bool),
 v1 = Go.Value.tuple { toList := [Go.Value.string t3, Go.Value.string t4, Go.Value.bool b5] } ∧
 Go.SX.callN Go.Proofs.Try.prog W0 M (59 : Nat) [Go.Value.string t3] W2 fun (v6 : Go.Value) (W7 : Go.SX.PW) =>
 ∃ (s8 : Go.SX.Sl),
 ∃ (b9 : Bool),
 ∃ (i10 : Int),
 v6 = Go.Value.tuple { toList := [Go.Value.agg { toList := [Go.SX.Sl.v s8, Go.Value.bool b9] }, Go.Value.int Go.IntKind.i64 i10] } ∧
 ∃ (F11 : List Go.SX.PL → Go.SX.PW → Prop),
 ((i10 ≠ (0 : Int) →
 (Bool.true = Bool.true → ∀ (W12 : Go.SX.PW), Go.SX.Ext W7 W12 → Post (Go.Value.tuple { toList := [Go.Value.agg { toList := [Go.SX.Sl.v s8, Go.Value.bool b9, Go.Value.slice Option.none (0 : Nat) (0 : Nat)] }, Go.Value.int Go.IntKind.i64 i10] }) W12) ∧
 (Bool.true = Bool.false → F11 [Go.SX.PL.cells [Go.Value.slice Option.none (0 : Nat) (0 : Nat), Go.Value.bool Bool.false, Go.Value.slice Option.none (0 : Nat) (0 : Nat)]] W7)) ∧
 (¬i10 ≠ (0 : Int) →
 ((!b5) = Bool.true → ∀ (W13 : Go.SX.PW), Go.SX.Ext W7 W13 → Post (Go.Value.tuple { toList := [Go.Value.agg { toList := [Go.SX.Sl.v s8, Go.Value.bool b9, Go.Value.slice Option.none (0 : Nat) (0 : Nat)] }, Go.Value.int Go.IntKind.i64 i10] }) W13) ∧
 ((!b5) = Bool.false → F11 [Go.SX.PL.cells [Go.Value.slice Option.none (0 : Nat) (0 : Nat), Go.Value.bool Bool.false, Go.Value.slice Option.none (0 : Nat) (0 : Nat)]] W7))) ∧
 ∀ (s14 : Go.SX.Sl) (b15 : Bool) (s16 : Go.SX.Sl) (W17 : Go.SX.PW),
 F11 [Go.SX.PL.cells [Go.SX.Sl.v s14, Go.Value.bool b15, Go.SX.Sl.v s16]] W17 →
 Go.SX.callN Go.Proofs.Try.prog W0 M (60 : Nat) [Go.Value.string t4] W17 fun (v18 : Go.Value) (W19 : Go.SX.PW) =>
 ∃ (s20 : Go.SX.Sl),
 ∃ (i21 : Int),
 v18 = Go.Value.tuple { toList := [Go.Value.agg { toList := [Go.SX.Sl.v s20] }, Go.Value.int Go.IntKind.i64 i21] } ∧
 ∃ (F22 : List Go.SX.PL → Go.SX.PW → Prop),
 ((i21 ≠ (0 : Int) →
 (Bool.true = Bool.true →
 (Bool.true = Bool.true → ∀ (W23 : Go.SX.PW), Go.SX.Ext W19 W23 → Post (Go.Value.tuple { toList := [Go.Value.agg { toList := [Go.Value.slice Option.none (0 : Nat) (0 : Nat), Go.Value.bool Bool.false, Go.Value.slice Option.none (0 : Nat) (0 : Nat)] }, Go.Value.int Go.IntKind.i64 (2 : Int)] }) W23) ∧
 (Bool.true = Bool.false → F22 [Go.SX.PL.cells [Go.SX.Sl.v s14, Go.Value.bool b15, Go.SX.Sl.v s16]] W19)) ∧
 (Bool.true = Bool.false →
 Go.SX.callN Go.Proofs.Try.prog W0 M (45 : Nat) [Go.Value.agg { toList := [Go.SX.Sl.v s8, Go.Value.bool b9] }] W19 fun (v24 : Go.Value) (W25 : Go.SX.PW) =>
 ∃ (s26 : Go.SX.Sl),
 v24 = Go.Value.agg { toList := [Go.SX.Sl.v s26] } ∧
 Go.SX.callN Go.Proofs.Try.prog W0 M (61 : Nat) [Go.Value.agg { toList := [Go.SX.Sl.v s20] }, Go.Value.agg { toList := [Go.SX.Sl.v s26] }] W25 fun (v27 : Go.Value) (W28 : Go.SX.PW) =>
 ∃ (s29 : Go.SX.Sl),
 v27 = Go.Value.agg { toList := [Go.SX.Sl.v s29] } ∧
 Go.SX.callN Go.Proofs.Try.prog W0 M (38 : Nat) [Go.Value.agg { toList := [Go.SX.Sl.v s29] }] W28 fun (v30 : Go.Value) (W31 : Go.SX.PW) =>
 ∃ (i32 : Int),
 v30 = Go.Value.int Go.IntKind.i64 i32 ∧
 ((1 : Int) < i32 → ∀ (W33 : Go.SX.PW), Go.SX.Ext W31 W33 → Post (Go.Value.tuple { toList := [Go.Value.agg { toList := [Go.Value.slice Option.none (0 : Nat) (0 : Nat), Go.Value.bool Bool.false, Go.Value.slice Option.none (0 : Nat) (0 : Nat)] }, Go.Value.int Go.IntKind.i64 (2 : Int)] }) W33) ∧
 (¬(1 : Int) < i32 → F22 [Go.SX.PL.cells [Go.SX.Sl.v s14, Go.Value.bool b15, Go.SX.Sl.v s16]] W31))) ∧
 (¬i21 ≠ (0 : Int) →
 Go.SX.callN Go.Proofs.Try.prog W0 M (38 : Nat) [Go.Value.agg { toList := [Go.SX.Sl.v s20] }] W19 fun (v34 : Go.Value) (W35 : Go.SX.PW) =>
 ∃ (i36 : Int),
 v34 = Go.Value.int Go.IntKind.i64 i36 ∧
 (i36 < (2 : Int) →
 (Bool.true = Bool.true → ∀ (W37 : Go.SX.PW), Go.SX.Ext W35 W37 → Post (Go.Value.tuple { toList := [Go.Value.agg { toList := [Go.Value.slice Option.none (0 : Nat) (0 : Nat), Go.Value.bool Bool.false, Go.Value.slice Option.none (0 : Nat) (0 : Nat)] }, Go.Value.int Go.IntKind.i64 (2 : Int)] }) W37) ∧
 (Bool.true = Bool.false → F22 [Go.SX.PL.cells [Go.SX.Sl.v s14, Go.Value.bool b15, Go.SX.Sl.v s16]] W35)) ∧
 (¬i36 < (2 : Int) →
 Go.SX.callN Go.Proofs.Try.prog W0 M (45 : Nat) [Go.Value.agg { toList := [Go.SX.Sl.v s8, Go.Value.bool b9] }] W35 fun (v38 : Go.Value) (W39 : Go.SX.PW) =>
 ∃ (s40 : Go.SX.Sl),
 v38 = Go.Value.agg { toList := [Go.SX.Sl.v s40] } ∧
 Go.SX.callN Go.Proofs.Try.prog W0 M (61 : Nat) [Go.Value.agg { toList := [Go.SX.Sl.v s20] }, Go.Value.agg { toList := [Go.SX.Sl.v s40] }] W39 fun (v41 : Go.Value) (W42 : Go.SX.PW) =>
 ∃ (s43 : Go.SX.Sl),
 v41 = Go.Value.agg { toList := [Go.SX.Sl.v s43] } ∧
 Go.SX.callN Go.Proofs.Try.prog W0 M (38 : Nat) [Go.Value.agg { toList := [Go.SX.Sl.v s43] }] W42 fun (v44 : Go.Value) (W45 : Go.SX.PW) =>
 ∃ (i46 : Int),
 v44 = Go.Value.int Go.IntKind.i64 i46 ∧
 ((1 : Int) < i46 → ∀ (W47 : Go.SX.PW), Go.SX.Ext W45 W47 → Post (Go.Value.tuple { toList := [Go.Value.agg { toList := [Go.Value.slice Option.none (0 : Nat) (0 : Nat), Go.Value.bool Bool.false, Go.Value.slice Option.none (0 : Nat) (0 : Nat)] }, Go.Value.int Go.IntKind.i64 (2 : Int)] }) W47) ∧
 (¬(1 : Int) < i46 → F22 [Go.SX.PL.cells [Go.SX.Sl.v s14, Go.Value.bool b15, Go.SX.Sl.v s16]] W45)))) ∧
 ∀ (s48 : Go.SX.Sl) (b49 : Bool) (s50 : Go.SX.Sl) (W51 : Go.SX.PW), F22 [Go.SX.PL.cells [Go.SX.Sl.v s48, Go.Value.bool b49, Go.SX.Sl.v s50]] W51 → ∀ (W52 : Go.SX.PW), Go.SX.Ext W51 W52 → Post (Go.Value.tuple { toList := [Go.Value.agg { toList := [Go.SX.Sl.v s8, Go.Value.bool b9, Go.SX.Sl.v s20] }, Go.Value.int Go.IntKind.i64 (0 : Int)] }) W52
theorem callrat_Parse (W0 : Go.SX.PW) (M : Nat → Prop) (a0 : ByteArray) (Post : Go.Value → Go.SX.PW → Prop) (h : Rrat_Parse W0 M a0 Post) : Go.SX.PCallsM Go.Proofs.Try.prog 36 [Go.Value.string a0] W0 M Post :=
  Go.SX.fn_sound rfl tt_ok tt_in Go.Proofs.Try.func36 (cuts := [5, 8]) rfl rfl (Nat.le_of_ble_eq_true rfl) (Eq.mpr (by kernel_rfl) h)
def Rstrings_Cut (W0 : Go.SX.PW) (M : Nat → Prop) (a0 : ByteArray) (a1 : ByteArray) (Post : Go.Value → Go.SX.PW → Prop) : Prop :=
 Go.SX.callN Go.Proofs.Try.prog W0 M (74 : Nat) [Go.Value.string a0, Go.Value.string a1] W0 fun (v1 : Go.Value) (W2 : Go.SX.PW) =>
 ∃ (t3 : ByteArray), ∃ (t4 : ByteArray), ∃ (b5 : Bool), v1 = Go.Value.tuple { toList := [Go.Value.string t3, Go.Value.string t4, Go.Value.bool b5] } ∧ ∀ (W6 : Go.SX.PW), Go.SX.Ext W2 W6 → Post (Go.Value.tuple { toList := [Go.Value.string t3, Go.Value.string t4, Go.Value.bool b5] }) W6
theorem callstrings_Cut (W0 : Go.SX.PW) (M : Nat → Prop) (a0 : ByteArray) (a1 : ByteArray) (Post : Go.Value → Go.SX.PW → Prop) (h : Rstrings_Cut W0 M a0 a1 Post) : Go.SX.PCallsM Go.Proofs.Try.prog 58 [Go.Value.string a0, Go.Value.string a1] W0 M Post :=
  Go.SX.fn_sound rfl tt_ok tt_in Go.Proofs.Try.func58 (cuts := []) rfl rfl (Nat.le_of_ble_eq_true rfl) (Eq.mpr (by kernel_rfl) h)
def Rinternal_stringslite_Cut (W0 : Go.SX.PW) (M : Nat → Prop) (a0 : ByteArray) (a1 : ByteArray) (Post : Go.Value → Go.SX.PW → Prop) : Prop :=
 Go.SX.callN Go.Proofs.Try.prog W0 M (87 : Nat) [Go.Value.string a0, Go.Value.string a1] W0 fun (v1 : Go.Value) (W2 : Go.SX.PW) =>
 ∃ (i3 : Int),
 v1 = Go.Value.int Go.IntKind.i64 i3 ∧
 ((0 : Int) ≤ i3 →
 ((0 : Int) ≤ (0 : Int) ∧ (0 : Int) ≤ i3 ∧ i3 ≤ (↑(ByteArray.size a0) : Int)) ∧
 Go.SX.I64 (i3 + (↑(ByteArray.size a1) : Int)) ∧
 ((0 : Int) ≤ i3 + (↑(ByteArray.size a1) : Int) ∧ i3 + (↑(ByteArray.size a1) : Int) ≤ (↑(ByteArray.size a0) : Int) ∧ (↑(ByteArray.size a0) : Int) ≤ (↑(ByteArray.size a0) : Int)) ∧
 ∀ (W4 : Go.SX.PW), Go.SX.Ext W2 W4 → Post (Go.Value.tuple { toList := [Go.Value.string (ByteArray.extract a0 (0 : Nat) (Int.toNat i3)), Go.Value.string (ByteArray.extract a0 (Int.toNat (i3 + (↑(ByteArray.size a1) : Int))) (Int.toNat (↑(ByteArray.size a0) : Int))), Go.Value.bool Bool.true] }) W4) ∧
 (¬(0 : Int) ≤ i3 → ∀ (W5 : Go.SX.PW), Go.SX.Ext W2 W5 → Post (Go.Value.tuple { toList := [Go.Value.string a0, Go.Value.string (ByteArray.mk #[]), Go.Value.bool Bool.false] }) W5)
theorem callinternal_stringslite_Cut (W0 : Go.SX.PW) (M : Nat → Prop) (a0 : ByteArray) (a1 : ByteArray) (Post : Go.Value → Go.SX.PW → Prop) (h : Rinternal_stringslite_Cut W0 M a0 a1 Post) : Go.SX.PCallsM Go.Proofs.Try.prog 74 [Go.Value.string a0, Go.Value.string a1] W0 M Post :=
  Go.SX.fn_sound rfl tt_ok tt_in Go.Proofs.Try.func74 (cuts := []) rfl rfl (Nat.le_of_ble_eq_true rfl) (Eq.mpr (by kernel_rfl) h)
def Rinternal_stringslite_Index (W0 : Go.SX.PW) (M : Nat → Prop) (a0 : ByteArray) (a1 : ByteArray) (Post : Go.Value → Go.SX.PW → Prop) : Prop :=
 ((↑(ByteArray.size a1) : Int) = (0 : Int) →
 (Bool.true = Bool.true → ∀ (W1 : Go.SX.PW), Go.SX.Ext W0 W1 → Post (Go.Value.int Go.IntKind.i64 (0 : Int)) W1) ∧
 (Bool.true = Bool.false →
 ((↑(ByteArray.size a1) : Int) = (1 : Int) →
 ((0 : Int) ≤ (0 : Int) ∧ (0 : Int) < (↑(ByteArray.size a1) : Int)) ∧ Go.SX.callN Go.Proofs.Try.prog W0 M (90 : Nat) [Go.Value.string a0, Go.Value.int Go.IntKind.u8 (Go.SX.sbyte a1 (0 : Nat))] W0 fun (v2 : Go.Value) (W3 : Go.SX.PW) => ∃ (i4 : Int), v2 = Go.Value.int Go.IntKind.i64 i4 ∧ ∀ (W5 : Go.SX.PW), Go.SX.Ext W3 W5 → Post (Go.Value.int Go.IntKind.i64 i4) W5) ∧
 (¬(↑(ByteArray.size a1) : Int) = (1 : Int) → ((↑(ByteArray.size a0) : Int) ≤ (↑(ByteArray.size a1) : Int) → ∀ (W6 : Go.SX.PW), Go.SX.Ext W0 W6 → Post (Go.Value.int Go.IntKind.i64 (-1 : Int)) W6) ∧ (¬(↑(ByteArray.size a0) : Int) ≤ (↑(ByteArray.size a1) : Int) → False)))) ∧
 (¬(↑(ByteArray.size a1) : Int) = (0 : Int) →
 (a1 = a0 → ∀ (W7 : Go.SX.PW), Go.SX.Ext W0 W7 → Post (Go.Value.int Go.IntKind.i64 (0 : Int)) W7) ∧
 (¬a1 = a0 →
 ((↑(ByteArray.size a1) : Int) = (1 : Int) →
 ((0 : Int) ≤ (0 : Int) ∧ (0 : Int) < (↑(ByteArray.size a1) : Int)) ∧ Go.SX.callN Go.Proofs.Try.prog W0 M (90 : Nat) [Go.Value.string a0, Go.Value.int Go.IntKind.u8 (Go.SX.sbyte a1 (0 : Nat))] W0 fun (v8 : Go.Value) (W9 : Go.SX.PW) => ∃ (i10 : Int), v8 = Go.Value.int Go.IntKind.i64 i10 ∧ ∀ (W11 : Go.SX.PW), Go.SX.Ext W9 W11 → Post (Go.Value.int Go.IntKind.i64 i10) W11) ∧
 (¬(↑(ByteArray.size a1) : Int) = (1 : Int) → ((↑(ByteArray.size a0) : Int) ≤ (↑(ByteArray.size a1) : Int) → ∀ (W12 : Go.SX.PW), Go.SX.Ext W0 W12 → Post (Go.Value.int Go.IntKind.i64 (-1 : Int)) W12) ∧ (¬(↑(ByteArray.size a0) : Int) ≤ (↑(ByteArray.size a1) : Int) → False))))
theorem callinternal_stringslite_Index (W0 : Go.SX.PW) (M : Nat → Prop) (a0 : ByteArray) (a1 : ByteArray) (Post : Go.Value → Go.SX.PW → Prop) (h : Rinternal_stringslite_Index W0 M a0 a1 Post) : Go.SX.PCallsM Go.Proofs.Try.prog 87 [Go.Value.string a0, Go.Value.string a1] W0 M Post :=
  Go.SX.fn_sound rfl tt_ok tt_in Go.Proofs.Try.func87 (cuts := []) rfl rfl (Nat.le_of_ble_eq_true rfl) (Eq.mpr (by kernel_rfl) h)
def Rinternal_stringslite_IndexByte (W0 : Go.SX.PW) (M : Nat → Prop) (a0 : ByteArray) (a1 : Int) (Post : Go.Value → Go.SX.PW → Prop) : Prop :=
 Go.SX.callN Go.Proofs.Try.prog W0 M (94 : Nat) [Go.Value.string a0, Go.Value.int Go.IntKind.u8 a1] W0 fun (v1 : Go.Value) (W2 : Go.SX.PW) => ∃ (i3 : Int), v1 = Go.Value.int Go.IntKind.i64 i3 ∧ ∀ (W4 : Go.SX.PW), Go.SX.Ext W2 W4 → Post (Go.Value.int Go.IntKind.i64 i3) W4
theorem callinternal_stringslite_IndexByte (W0 : Go.SX.PW) (M : Nat → Prop) (a0 : ByteArray) (a1 : Int) (Post : Go.Value → Go.SX.PW → Prop) (h : Rinternal_stringslite_IndexByte W0 M a0 a1 Post) : Go.SX.PCallsM Go.Proofs.Try.prog 90 [Go.Value.string a0, Go.Value.int Go.IntKind.u8 a1] W0 M Post :=
  Go.SX.fn_sound rfl tt_ok tt_in Go.Proofs.Try.func90 (cuts := []) rfl rfl (Nat.le_of_ble_eq_true rfl) (Eq.mpr (by kernel_rfl) h)
end Go.Proofs.Ytcffcndpefaalaa
