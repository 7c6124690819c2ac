/- R18 -/
import Derived.Test.YtbingbjhgoanoaaGreatTt
set_option linter.unusedVariables false
set_option linter.unusedSimpArgs false
set_option maxRecDepth 100000
set_option linter.unusedVariables false
namespace Go.Proofs.YtbingbjhgoanoaaGreat
open Go Go.SX
 ((a0_0.2 : Int) = 0 → ∀ (W1 : PW), Ext W0 W1 → Post (.int .i64 (-1 : Int)) W1) ∧
 (¬(a0_0.2 : Int) = 0 →
 I64 ((a0_0.2 : Int) - 1) ∧
 inB a0_0 ((a0_0.2 : Int) - 1) ∧
 ∃ i2 : Int,
 ∃ i3 : Int,
 ∃ i4 : Int,
 ElemAt W0 a0_0 6 (Int.toNat ((a0_0.2 : Int) - 1)) 0 [.int .u8 i2, .int .u8 i3, .int .u8 i4] ∧
 callN Tryz.prog W0 M 83 [.agg ⟨[.int .u8 i2, .int .u8 i3, .int .u8 i4]⟩] W0 fun v5 W6 => ∃ i7 : Int, v5 = .int .i64 i7 ∧ ∀ (W8 : PW), Ext W6 W8 → Post (.int .i64 i7) W8)
 ∃ (F1 : List PL → PW → Prop),
 ∃ (F2 : List PL → PW → Nat),
 F1 [.val (.int .i64 0), .val (.int .i64 0)] W0 ∧
 ∀ (i3 i4 : Int) (W5 : PW),
 F1 [.val (.int .i64 i3), .val (.int .i64 i4)] W5 →
 (i4 < (a0_0.2 : Int) →
 inB a0_0 i4 ∧
 ∃ i6 : Int,
 ∃ i7 : Int,
 ∃ i8 : Int,
 ∃ s9 : Sl,
 ∃ b10 : Bool,
 ∃ s11 : Sl,
 ElemAt W5 a0_0 6 (Int.toNat i4) 0 [.int .u8 i6, .int .u8 i7, .int .u8 i8, s9.v, .bool b10, s11.v] ∧
 (0 ≤ a1 →
 (a1 < 3 →
 (0 ≤ a1 ∧ a1 < 3) ∧
 ∃ i12 : Int,
 BoxAt [.int .u8 i6, .int .u8 i7, .int .u8 i8, s9.v, .bool b10, s11.v] (0 + Int.toNat a1 * 1 + 0) [.int .u8 i12] ∧
 I64 i12 ∧ I64 (i4 + 1) ∧ stp F1 F2 [.val (.int .i64 (mx i3 i12)), .val (.int .i64 (i4 + 1))] W5 [.val (.int .i64 i3), .val (.int .i64 i4)] W5) ∧
 (¬a1 < 3 → I64 (i4 + 1) ∧ stp F1 F2 [.val (.int .i64 i3), .val (.int .i64 (i4 + 1))] W5 [.val (.int .i64 i3), .val (.int .i64 i4)] W5)) ∧
 (¬0 ≤ a1 → I64 (i4 + 1) ∧ stp F1 F2 [.val (.int .i64 i3), .val (.int .i64 (i4 + 1))] W5 [.val (.int .i64 i3), .val (.int .i64 i4)] W5)) ∧
 (¬i4 < (a0_0.2 : Int) → ∀ (W13 : PW), Ext W5 W13 → Post (.int .i64 i3) W13)
 ∃ (F1 : List PL → PW → Prop),
 ∃ (F2 : List PL → PW → Nat),
 F1 [.val (.int .i64 0), .val (.int .i64 0)] W0 ∧
 ∀ (i3 i4 : Int) (W5 : PW),
 F1 [.val (.int .i64 i3), .val (.int .i64 i4)] W5 →
 (i4 < (a0_0.2 : Int) →
 inB a0_0 i4 ∧
 ∃ i6 : Int,
 ∃ i7 : Int,
 ∃ i8 : Int,
 ∃ s9 : Sl,
 ∃ b10 : Bool,
 ∃ s11 : Sl,
 ElemAt W5 a0_0 6 (Int.toNat i4) 0 [.int .u8 i6, .int .u8 i7, .int .u8 i8, s9.v, .bool b10, s11.v] ∧
 callN Tryz.prog W0 M 84 [.agg ⟨[.int .u8 i6, .int .u8 i7, .int .u8 i8]⟩] W5 fun v12 W13 =>
 ∃ i14 : Int, v12 = .int .i64 i14 ∧ I64 (i4 + 1) ∧ stp F1 F2 [.val (.int .i64 (mx i3 i14)), .val (.int .i64 (i4 + 1))] W13 [.val (.int .i64 i3), .val (.int .i64 i4)] W5) ∧
 (¬i4 < (a0_0.2 : Int) → ∀ (W15 : PW), Ext W5 W15 → Post (.int .i64 i3) W15)
 ∃ (F1 : List PL → PW → Prop),
 ∃ (F2 : List PL → PW → Nat),
 F1 [.val (.int .i64 0), .val (.int .i64 0)] W0 ∧
 ∀ (i3 i4 : Int) (W5 : PW),
 F1 [.val (.int .i64 i3), .val (.int .i64 i4)] W5 →
 (i4 < 3 →
 (0 ≤ i4 ∧ i4 < 3) ∧
 ∃ i6 : Int,
 BoxAt [.int .u8 a0_0, .int .u8 a0_1, .int .u8 a0_2] (0 + Int.toNat i4 * 1 + 0) [.int .u8 i6] ∧
 (0 < i6 → I64 (i4 + 1) ∧ I64 (i4 + 1) ∧ stp F1 F2 [.val (.int .i64 (i4 + 1)), .val (.int .i64 (i4 + 1))] W5 [.val (.int .i64 i3), .val (.int .i64 i4)] W5) ∧
 (¬0 < i6 → I64 (i4 + 1) ∧ stp F1 F2 [.val (.int .i64 i3), .val (.int .i64 (i4 + 1))] W5 [.val (.int .i64 i3), .val (.int .i64 i4)] W5)) ∧
 (¬i4 < 3 → ∀ (W7 : PW), Ext W5 W7 → Post (.int .i64 i3) W7)
def Rref1_PolyDegree (W0 : PW) (M : Nat → Prop) (a0 : Sl) (Post : Value → PW → Prop) : Prop :=
 ∃ (F1 : List PL → PW → Prop),
 ∃ (F2 : List PL → PW → Nat),
 F1 [.val (.int .i64 (-1 : Int)), .val (.int .i64 0)] W0 ∧
 ∀ (i3 i4 : Int) (W5 : PW),
 F1 [.val (.int .i64 i3), .val (.int .i64 i4)] W5 →
 (i4 < (a0.2 : Int) →
 inB a0 i4 ∧
 ∃ i6 : Int,
 ∃ i7 : Int,
 ∃ i8 : Int,
 ElemAt W5 a0 6 (Int.toNat i4) 0 [.int .u8 i6, .int .u8 i7, .int .u8 i8] ∧
 callN Tryz.prog W0 M 74 [.agg ⟨[.int .u8 i6, .int .u8 i7, .int .u8 i8]⟩] W5 fun v9 W10 =>
 ∃ i11 : Int, v9 = .int .i64 i11 ∧ I64 (i4 + 1) ∧ stp F1 F2 [.val (.int .i64 (mx i3 i11)), .val (.int .i64 (i4 + 1))] W10 [.val (.int .i64 i3), .val (.int .i64 i4)] W5) ∧
 (¬i4 < (a0.2 : Int) → ∀ (W12 : PW), Ext W5 W12 → Post (.int .i64 i3) W12)
theorem callref1_PolyDegree (W0 : PW) (M : Nat → Prop) (a0 : Sl) (Post : Value → PW → Prop) (h : Rref1_PolyDegree W0 M a0 Post) : PCallsM Tryz.prog 28 [a0.v] W0 M Post :=
  fn_sound rfl tt_ok tt_in Tryz.func28 (cuts := []) rfl rfl (Nat.le_of_ble_eq_true rfl) (Eq.mpr (by kernel_rfl) h)
 ∃ (F1 : List PL → PW → Prop),
 ∃ (F2 : List PL → PW → Nat),
 F1 [.val (.int .i64 0), .val (.int .i64 0)] W0 ∧
 ∀ (i3 i4 : Int) (W5 : PW),
 F1 [.val (.int .i64 i3), .val (.int .i64 i4)] W5 →
 (i4 < (a0.2 : Int) →
 inB a0 i4 ∧
 ∃ i6 : Int,
 ∃ i7 : Int,
 ∃ i8 : Int,
 ElemAt W5 a0 6 (Int.toNat i4) 0 [.int .u8 i6, .int .u8 i7, .int .u8 i8] ∧
 callN Tryz.prog W0 M 87 [.agg ⟨[.int .u8 i6, .int .u8 i7, .int .u8 i8]⟩] W5 fun v9 W10 =>
 ∃ i11 : Int, v9 = .int .i64 i11 ∧ I64 (i4 + 1) ∧ stp F1 F2 [.val (.int .i64 (mx i3 i11)), .val (.int .i64 (i4 + 1))] W10 [.val (.int .i64 i3), .val (.int .i64 i4)] W5) ∧
 (¬i4 < (a0.2 : Int) → ∀ (W12 : PW), Ext W5 W12 → Post (.int .i64 i3) W12)
 ∃ (F1 : List PL → PW → Prop),
 ∃ (F2 : List PL → PW → Nat),
 F1 [.val (.int .i64 0), .val (.int .i64 0)] W0 ∧
 ∀ (i3 i4 : Int) (W5 : PW),
 F1 [.val (.int .i64 i3), .val (.int .i64 i4)] W5 →
 (i4 < (a0.2 : Int) →
 (0 ≤ a1 →
 (a1 < 3 →
 inB a0 i4 ∧
 (0 ≤ a1 ∧ a1 < 3) ∧
 ∃ i6 : Int,
 ElemAt W5 a0 6 (Int.toNat i4) (0 + Int.toNat a1 * 1) [.int .u8 i6] ∧
 I64 i6 ∧ I64 (i4 + 1) ∧ stp F1 F2 [.val (.int .i64 (mx i3 i6)), .val (.int .i64 (i4 + 1))] W5 [.val (.int .i64 i3), .val (.int .i64 i4)] W5) ∧
 (¬a1 < 3 → ∀ (W7 : PW), Ext W5 W7 → Post (.int .i64 i3) W7)) ∧
 (¬0 ≤ a1 → ∀ (W8 : PW), Ext W5 W8 → Post (.int .i64 i3) W8)) ∧
 (¬i4 < (a0.2 : Int) → ∀ (W9 : PW), Ext W5 W9 → Post (.int .i64 i3) W9)
 callN Tryz.prog W0 M 20 [a0.v, .int .i64 60] W0 fun v1 W2 =>
 ∃ s3 : Sl,
 ∃ s4 : Sl,
 ∃ b5 : Bool,
 v1 = .tuple ⟨[.agg ⟨[s3.v]⟩, s4.v, .bool b5]⟩ ∧
 callN Tryz.prog W0 M 20 [a1.v, .int .i64 60] W2 fun v6 W7 =>
 ∃ s8 : Sl,
 ∃ s9 : Sl,
 ∃ b10 : Bool,
 v6 = .tuple ⟨[.agg ⟨[s8.v]⟩, s9.v, .bool b10]⟩ ∧
 ((!b5) = true → callN Tryz.prog W0 M 15 [] W7 fun v11 W12 => ∃ b13 : Bool, v11 = .bool b13 ∧ ∀ (W14 : PW), Ext W12 W14 → Post (.bool b13) W14) ∧
 ((!b5) = false →
 ((!b10) = true → callN Tryz.prog W0 M 15 [] W7 fun v15 W16 => ∃ b17 : Bool, v15 = .bool b17 ∧ ∀ (W18 : PW), Ext W16 W18 → Post (.bool b17) W18) ∧
 ((!b10) = false →
 callN Tryz.prog W0 M 15 [] W7 fun v19 W20 =>
 ∃ b21 : Bool,
 v19 = .bool b21 ∧
 ((!b21) = true → callN Tryz.prog W0 M 15 [] W20 fun v22 W23 => ∃ b24 : Bool, v22 = .bool b24 ∧ ∀ (W25 : PW), Ext W23 W25 → Post (.bool b24) W25) ∧
 ((!b21) = false →
 callN Tryz.prog W0 M 21 [.agg ⟨[s3.v]⟩, .agg ⟨[s8.v]⟩] W20 fun v26 W27 =>
 ∃ s28 : Sl,
 ∃ b29 : Bool,
 v26 = .tuple ⟨[.agg ⟨[s28.v]⟩, .bool b29]⟩ ∧
 callN Tryz.prog W0 M 31 [.agg ⟨[s3.v]⟩, .agg ⟨[s8.v]⟩] W27 fun v30 W31 =>
 ∃ s32 : Sl,
 v30 = .agg ⟨[s32.v]⟩ ∧
 callN Tryz.prog W0 M 47 [.agg ⟨[s32.v]⟩] W31 fun v33 W34 =>
 ∃ i35 : Int,
 v33 = .int .i64 i35 ∧
 callN Tryz.prog W0 M 47 [.agg ⟨[s3.v]⟩] W34 fun v36 W37 =>
 ∃ i38 : Int,
 v36 = .int .i64 i38 ∧
 callN Tryz.prog W0 M 47 [.agg ⟨[s8.v]⟩] W37 fun v39 W40 =>
 ∃ i41 : Int,
 v39 = .int .i64 i41 ∧
 (mx i38 i41 < i35 → ∀ (W42 : PW), Ext W40 W42 → Post (.bool false) W42) ∧
 (¬mx i38 i41 < i35 →
 callN Tryz.prog W0 M 48 [.agg ⟨[s32.v]⟩, .int .i64 a2] W40 fun v43 W44 =>
 ∃ i45 : Int,
 v43 = .int .i64 i45 ∧
 callN Tryz.prog W0 M 48 [.agg ⟨[s3.v]⟩, .int .i64 a2] W44 fun v46 W47 =>
 ∃ i48 : Int,
 v46 = .int .i64 i48 ∧
 callN Tryz.prog W0 M 48 [.agg ⟨[s8.v]⟩, .int .i64 a2] W47 fun v49 W50 =>
 ∃ i51 : Int,
 v49 = .int .i64 i51 ∧
 (mx i48 i51 < i45 → ∀ (W52 : PW), Ext W50 W52 → Post (.bool false) W52) ∧
 (¬mx i48 i51 < i45 →
 callN Tryz.prog W0 M 49 [.agg ⟨[s32.v]⟩] W50 fun v53 W54 =>
 ∃ i55 : Int,
 v53 = .int .i64 i55 ∧
 callN Tryz.prog W0 M 49 [.agg ⟨[s3.v]⟩] W54 fun v56 W57 =>
 ∃ i58 : Int,
 v56 = .int .i64 i58 ∧
 callN Tryz.prog W0 M 49 [.agg ⟨[s8.v]⟩] W57 fun v59 W60 =>
 ∃ i61 : Int,
 v59 = .int .i64 i61 ∧
 (mx i58 i61 < i55 → ∀ (W62 : PW), Ext W60 W62 → Post (.bool false) W62) ∧
 (¬mx i58 i61 < i55 →
 ((!b29) = true → ∀ (W63 : PW), Ext W60 W63 → Post (.bool false) W63) ∧
 ((!b29) = false →
 ((s4.2 : Int) = 0 →
 callN Tryz.prog W0 M 47 [.agg ⟨[s28.v]⟩] W60 fun v64 W65 =>
 ∃ i66 : Int, v64 = .int .i64 i66 ∧ ∀ (W67 : PW), Ext W65 W67 → Post (.bool (decide (i66 = (-1 : Int)))) W67) ∧
 (¬(s4.2 : Int) = 0 →
 ((s9.2 : Int) = 0 →
 callN Tryz.prog W0 M 47 [.agg ⟨[s28.v]⟩] W60 fun v68 W69 =>
 ∃ i70 : Int, v68 = .int .i64 i70 ∧ ∀ (W71 : PW), Ext W69 W71 → Post (.bool (decide (i70 = (-1 : Int)))) W71) ∧
 (¬(s9.2 : Int) = 0 →
 callN Tryz.prog W0 M 47 [.agg ⟨[s28.v]⟩] W60 fun v72 W73 =>
 ∃ i74 : Int,
 v72 = .int .i64 i74 ∧
 callN Tryz.prog W0 M 47 [.agg ⟨[s3.v]⟩] W73 fun v75 W76 =>
 ∃ i77 : Int,
 v75 = .int .i64 i77 ∧
 callN Tryz.prog W0 M 47 [.agg ⟨[s8.v]⟩] W76 fun v78 W79 =>
 ∃ i80 : Int,
 v78 = .int .i64 i80 ∧
 I64 (i77 + i80) ∧
 (i74 = i77 + i80 →
 callN Tryz.prog W0 M 48 [.agg ⟨[s28.v]⟩, .int .i64 a2] W79 fun v81 W82 =>
 ∃ i83 : Int,
 v81 = .int .i64 i83 ∧
 callN Tryz.prog W0 M 48 [.agg ⟨[s3.v]⟩, .int .i64 a2] W82 fun v84 W85 =>
 ∃ i86 : Int,
 v84 = .int .i64 i86 ∧
 callN Tryz.prog W0 M 48 [.agg ⟨[s8.v]⟩, .int .i64 a2] W85 fun v87 W88 =>
 ∃ i89 : Int, v87 = .int .i64 i89 ∧ I64 (i86 + i89) ∧ ∀ (W90 : PW), Ext W88 W90 → Post (.bool (decide (i83 = i86 + i89))) W90) ∧
 (¬i74 = i77 + i80 → ∀ (W91 : PW), Ext W79 W91 → Post (.bool false) W91))))))))))
 callN Tryz.prog W0 M 15 [] W0 fun v1 W2 =>
 ∃ b3 : Bool,
 v1 = .bool b3 ∧
 ((!b3) = true → ∀ (W4 : PW), Ext W2 W4 → Post (.bool false) W4) ∧
 ((!b3) = false →
 (30 < (a0.2 : Int) → ∀ (W5 : PW), Ext W2 W5 → Post (.bool true) W5) ∧
 (¬30 < (a0.2 : Int) →
 ∃ (F6 : List PL → PW → Prop),
 ∃ (F7 : List PL → PW → Nat),
 F6 [.val (.int .i64 0)] W2 ∧
 ∀ (i8 : Int) (W9 : PW),
 F6 [.val (.int .i64 i8)] W9 →
 (i8 < (a0.2 : Int) →
 inB a0 i8 ∧
 ∃ t10 : ByteArray,
 ElemAt W9 a0 4 (Int.toNat i8) 3 [.string t10] ∧
 (200 < (↑(ByteArray.size t10) : Int) → ∀ (W11 : PW), Ext W9 W11 → Post (.bool true) W11) ∧ (¬200 < (↑(ByteArray.size t10) : Int) → I64 (i8 + 1) ∧ stp F6 F7 [.val (.int .i64 (i8 + 1))] W9 [.val (.int .i64 i8)] W9)) ∧
 (¬i8 < (a0.2 : Int) →
 ∃ (l12 : List (List Value)),
 RowA W9 4 a0 l12 ∧
 List.length l12 * 24 ≤ 140737488355328 ∧
 ∀ (s13 : Sl) (W14 : PW),
 Ext W9 W14 →
 SX.Own W14 43 4 s13 l12 →
 Fr W0 W9 s13 →
 callN Tryz.prog W0 M 25 [s13.v] W14 fun v15 W16 =>
 ∃ s17 : Sl,
 ∃ i18 : Int,
 v15 = .tuple ⟨[.agg ⟨[s17.v]⟩, .int .i64 i18]⟩ ∧
 callN Tryz.prog W0 M 51 [a0.v] W16 fun v19 W20 =>
 ∃ s21 : Sl,
 ∃ b22 : Bool,
 v19 = .tuple ⟨[s21.v, .bool b22]⟩ ∧
 (decide (i18 = 0) ≠ b22 → ∀ (W23 : PW), Ext W20 W23 → Post (.bool false) W23) ∧
 (¬decide (i18 = 0) ≠ b22 →
 ((!b22) = true →
 (i18 ≠ 2 → ∀ (W24 : PW), Ext W20 W24 → Post (.bool false) W24) ∧
 (¬i18 ≠ 2 →
 callN Tryz.prog W0 M 52 [s13.v, a0.v] W20 fun v25 W26 =>
 ∃ b27 : Bool,
 v25 = .bool b27 ∧
 ((!b27) = true → ∀ (W28 : PW), Ext W26 W28 → Post (.bool false) W28) ∧
 ((!b27) = false →
 callN Tryz.prog W0 M 17 [.agg ⟨[s17.v]⟩, s21.v] W26 fun v29 W30 =>
 ∃ b31 : Bool,
 v29 = .bool b31 ∧
 (b31 = true →
 callN Tryz.prog W0 M 47 [.agg ⟨[s17.v]⟩] W30 fun v32 W33 =>
 ∃ i34 : Int,
 v32 = .int .i64 i34 ∧
 callN Tryz.prog W0 M 28 [s21.v] W33 fun v35 W36 =>
 ∃ i37 : Int,
 v35 = .int .i64 i37 ∧
 (i34 = i37 →
 callN Tryz.prog W0 M 48 [.agg ⟨[s17.v]⟩, .int .i64 a1] W36 fun v38 W39 =>
 ∃ i40 : Int,
 v38 = .int .i64 i40 ∧
 callN Tryz.prog W0 M 53 [s21.v, .int .i64 a1] W39 fun v41 W42 =>
 ∃ i43 : Int,
 v41 = .int .i64 i43 ∧
 (i40 = i43 →
 callN Tryz.prog W0 M 49 [.agg ⟨[s17.v]⟩] W42 fun v44 W45 =>
 ∃ i46 : Int,
 v44 = .int .i64 i46 ∧
 callN Tryz.prog W0 M 54 [s21.v] W45 fun v47 W48 =>
 ∃ i49 : Int,
 v47 = .int .i64 i49 ∧
 (i46 = i49 →
 callN Tryz.prog W0 M 23 [.agg ⟨[s17.v]⟩] W48 fun v50 W51 =>
 ∃ s52 : Sl,
 v50 = s52.v ∧
 ((s52.2 : Int) = (s21.2 : Int) →
 callN Tryz.prog W0 M 23 [.agg ⟨[s17.v]⟩] W51 fun v53 W54 =>
 ∃ s55 : Sl,
 v53 = s55.v ∧
 callN Tryz.prog W0 M 18 [s55.v] W54 fun v56 W57 =>
 ∃ s58 : Sl,
 v56 = .agg ⟨[s58.v]⟩ ∧
 callN Tryz.prog W0 M 37 [.agg ⟨[s17.v]⟩, .agg ⟨[s58.v]⟩] W57 fun v59 W60 =>
 ∃ b61 : Bool, v59 = .bool b61 ∧ ∀ (W62 : PW), Ext W60 W62 → Post (.bool b61) W62) ∧
 (¬(s52.2 : Int) = (s21.2 : Int) → ∀ (W63 : PW), Ext W51 W63 → Post (.bool false) W63)) ∧
 (¬i46 = i49 → ∀ (W64 : PW), Ext W48 W64 → Post (.bool false) W64)) ∧
 (¬i40 = i43 → ∀ (W65 : PW), Ext W42 W65 → Post (.bool false) W65)) ∧
 (¬i34 = i37 → ∀ (W66 : PW), Ext W36 W66 → Post (.bool false) W66)) ∧
 (b31 = false → ∀ (W67 : PW), Ext W30 W67 → Post (.bool false) W67)))) ∧
 ((!b22) = false →
 callN Tryz.prog W0 M 52 [s13.v, a0.v] W20 fun v68 W69 =>
 ∃ b70 : Bool,
 v68 = .bool b70 ∧
 ((!b70) = true → ∀ (W71 : PW), Ext W69 W71 → Post (.bool false) W71) ∧
 ((!b70) = false →
 callN Tryz.prog W0 M 17 [.agg ⟨[s17.v]⟩, s21.v] W69 fun v72 W73 =>
 ∃ b74 : Bool,
 v72 = .bool b74 ∧
 (b74 = true →
 callN Tryz.prog W0 M 47 [.agg ⟨[s17.v]⟩] W73 fun v75 W76 =>
 ∃ i77 : Int,
 v75 = .int .i64 i77 ∧
 callN Tryz.prog W0 M 28 [s21.v] W76 fun v78 W79 =>
 ∃ i80 : Int,
 v78 = .int .i64 i80 ∧
 (i77 = i80 →
 callN Tryz.prog W0 M 48 [.agg ⟨[s17.v]⟩, .int .i64 a1] W79 fun v81 W82 =>
 ∃ i83 : Int,
 v81 = .int .i64 i83 ∧
 callN Tryz.prog W0 M 53 [s21.v, .int .i64 a1] W82 fun v84 W85 =>
 ∃ i86 : Int,
 v84 = .int .i64 i86 ∧
 (i83 = i86 →
 callN Tryz.prog W0 M 49 [.agg ⟨[s17.v]⟩] W85 fun v87 W88 =>
 ∃ i89 : Int,
 v87 = .int .i64 i89 ∧
 callN Tryz.prog W0 M 54 [s21.v] W88 fun v90 W91 =>
 ∃ i92 : Int,
 v90 = .int .i64 i92 ∧
 (i89 = i92 →
 callN Tryz.prog W0 M 23 [.agg ⟨[s17.v]⟩] W91 fun v93 W94 =>
 ∃ s95 : Sl,
 v93 = s95.v ∧
 ((s95.2 : Int) = (s21.2 : Int) →
 callN Tryz.prog W0 M 23 [.agg ⟨[s17.v]⟩] W94 fun v96 W97 =>
 ∃ s98 : Sl,
 v96 = s98.v ∧
 callN Tryz.prog W0 M 18 [s98.v] W97 fun v99 W100 =>
 ∃ s101 : Sl,
 v99 = .agg ⟨[s101.v]⟩ ∧
 callN Tryz.prog W0 M 37 [.agg ⟨[s17.v]⟩, .agg ⟨[s101.v]⟩] W100 fun v102 W103 =>
 ∃ b104 : Bool, v102 = .bool b104 ∧ ∀ (W105 : PW), Ext W103 W105 → Post (.bool b104) W105) ∧
 (¬(s95.2 : Int) = (s21.2 : Int) → ∀ (W106 : PW), Ext W94 W106 → Post (.bool false) W106)) ∧
 (¬i89 = i92 → ∀ (W107 : PW), Ext W91 W107 → Post (.bool false) W107)) ∧
 (¬i83 = i86 → ∀ (W108 : PW), Ext W85 W108 → Post (.bool false) W108)) ∧
 (¬i77 = i80 → ∀ (W109 : PW), Ext W79 W109 → Post (.bool false) W109)) ∧
 (b74 = false → ∀ (W110 : PW), Ext W73 W110 → Post (.bool false) W110)))))))
end Go.Proofs.YtbingbjhgoanoaaGreat
