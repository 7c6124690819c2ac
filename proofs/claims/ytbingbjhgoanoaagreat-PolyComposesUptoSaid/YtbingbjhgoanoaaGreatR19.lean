/- R19 -/
import Derived.Test.YtbingbjhgoanoaaGreatTt
set_option linter.unusedVariables false
set_option linter.unusedSimpArgs false
set_option maxRecDepth 100000
set_option linter.unusedVariables false
namespace Go.Proofs.YtbingbjhgoanoaaGreat
open Go Go.SX
def Rref1_PolyAdd (W0 : PW) (M : Nat → Prop) (a0 : Sl) (a1 : Sl) (Post : Value → PW → Prop) : Prop :=
 ∃ (F1 : List PL → PW → Prop),
 ∃ (F2 : List PL → PW → Nat),
 F1 [.val a0.v, .val (.int .i64 0)] W0 ∧
 ∀ (s3 : Sl) (i4 : Int) (W5 : PW),
 F1 [.val s3.v, .val (.int .i64 i4)] W5 →
 (i4 < (a1.2 : Int) →
 inB a1 i4 ∧
 ∃ i6 : Int,
 ∃ i7 : Int,
 ∃ i8 : Int,
 ∃ b9 : Bool,
 ∃ s10 : Sl,
 ∃ s11 : Sl,
 ElemAt W5 a1 6 (Int.toNat i4) 0 [.int .u8 i6, .int .u8 i7, .int .u8 i8, .bool b9, s10.v, s11.v] ∧
 callN Tryz.prog W0 M 64 [s3.v, .agg ⟨[.int .u8 i6, .int .u8 i7, .int .u8 i8, .bool b9, s10.v, s11.v]⟩] W5 fun v12 W13 =>
 ∃ s14 : Sl, v12 = s14.v ∧ I64 (i4 + 1) ∧ stp F1 F2 [.val s14.v, .val (.int .i64 (i4 + 1))] W13 [.val s3.v, .val (.int .i64 i4)] W5) ∧
 (¬i4 < (a1.2 : Int) → ∀ (W15 : PW), Ext W5 W15 → Post s3.v W15)
theorem callref1_PolyAdd (W0 : PW) (M : Nat → Prop) (a0 : Sl) (a1 : Sl) (Post : Value → PW → Prop) (h : Rref1_PolyAdd W0 M a0 a1 Post) : PCallsM Tryz.prog 32 [a0.v, a1.v] W0 M Post :=
  fn_sound rfl tt_ok tt_in Tryz.func32 (cuts := []) rfl rfl (Nat.le_of_ble_eq_true rfl) (Eq.mpr (by kernel_rfl) h)
 ∃ (F1 : List PL → PW → Prop),
 ∃ (F2 : List PL → PW → Nat),
 F1 [.val (.slice none 0 0), .val (.int .i64 0)] W0 ∧
 ∀ (s3 : Sl) (i4 : Int) (W5 : PW),
 F1 [.val s3.v, .val (.int .i64 i4)] W5 →
 (i4 < (a0.2 : Int) →
 inB a0 i4 ∧
 ∃ i6 : Int,
 ∃ i7 : Int,
 ∃ i8 : Int,
 ElemAt W5 a0 6 (Int.toNat i4) 0 [.int .u8 i6, .int .u8 i7, .int .u8 i8] ∧
 inB a0 i4 ∧
 ∃ b9 : Bool,
 ∃ s10 : Sl,
 ∃ s11 : Sl,
 ElemAt W5 a0 6 (Int.toNat i4) 3 [.bool b9, s10.v, s11.v] ∧
 callN Tryz.prog W0 M 68 [.agg ⟨[.bool b9, s10.v, s11.v]⟩, .agg ⟨[.bool a1_0, a1_1.v, a1_2.v]⟩] W5 fun v12 W13 =>
 ∃ b14 : Bool,
 ∃ s15 : Sl,
 ∃ s16 : Sl,
 v12 = .agg ⟨[.bool b14, s15.v, s16.v]⟩ ∧
 Ext W5 W13 ∧
 callN Tryz.prog W0 M 64 [s3.v, .agg ⟨[.int .u8 i6, .int .u8 i7, .int .u8 i8, .bool b14, s15.v, s16.v]⟩] W13 fun v17 W18 =>
 ∃ s19 : Sl, v17 = s19.v ∧ Ext W13 W18 ∧ I64 (i4 + 1) ∧ stp F1 F2 [.val s19.v, .val (.int .i64 (i4 + 1))] W18 [.val s3.v, .val (.int .i64 i4)] W5) ∧
 (¬i4 < (a0.2 : Int) → ∀ (W20 : PW), Ext W5 W20 → Post s3.v W20)
 callN Tryz.prog W0 M 73 [.int .i64 (-1 : Int)] W0 fun v1 W2 =>
 ∃ b3 : Bool,
 ∃ s4 : Sl,
 ∃ s5 : Sl,
 v1 = .agg ⟨[.bool b3, s4.v, s5.v]⟩ ∧
 callN Tryz.prog W0 M 36 [a1.v, .agg ⟨[.bool b3, s4.v, s5.v]⟩] W2 fun v6 W7 =>
 ∃ s8 : Sl, v6 = s8.v ∧ callN Tryz.prog W0 M 32 [a0.v, s8.v] W7 fun v9 W10 => ∃ s11 : Sl, v9 = s11.v ∧ ∀ (W12 : PW), Ext W10 W12 → Post s11.v W12
 (a0 < 0 → ∀ (W1 : PW), Ext W0 W1 → Post (.slice none 0 0) W1) ∧
 (¬a0 < 0 →
 (3 ≤ a0 → ∀ (W2 : PW), Ext W0 W2 → Post (.slice none 0 0) W2) ∧
 (¬3 ≤ a0 →
 (0 ≤ a0 ∧ a0 < 3) ∧
 Int.toNat a0 < 3 ∧
 ((True ∧
 (Int.toNat a0 = 0 →
 callN Tryz.prog W0 M 73 [.int .i64 1] W0 fun v3 W4 =>
 ∃ b5 : Bool,
 ∃ s6 : Sl,
 ∃ s7 : Sl,
 v3 = .agg ⟨[.bool b5, s6.v, s7.v]⟩ ∧
 ∀ (s8 : Sl) (W9 : PW), Ext W4 W9 → SX.Own W9 47 6 s8 [[.int .u8 1, .int .u8 0, .int .u8 0, .bool b5, s6.v, s7.v]] → Fr W0 W4 s8 → ∀ (W10 : PW), Ext W9 W10 → Post s8.v W10)) ∧
 (Int.toNat a0 = 1 →
 callN Tryz.prog W0 M 73 [.int .i64 1] W0 fun v11 W12 =>
 ∃ b13 : Bool,
 ∃ s14 : Sl,
 ∃ s15 : Sl,
 v11 = .agg ⟨[.bool b13, s14.v, s15.v]⟩ ∧
 ∀ (s16 : Sl) (W17 : PW), Ext W12 W17 → SX.Own W17 47 6 s16 [[.int .u8 0, .int .u8 1, .int .u8 0, .bool b13, s14.v, s15.v]] → Fr W0 W12 s16 → ∀ (W18 : PW), Ext W17 W18 → Post s16.v W18)) ∧
 (Int.toNat a0 = 2 →
 callN Tryz.prog W0 M 73 [.int .i64 1] W0 fun v19 W20 =>
 ∃ b21 : Bool,
 ∃ s22 : Sl,
 ∃ s23 : Sl,
 v19 = .agg ⟨[.bool b21, s22.v, s23.v]⟩ ∧
 ∀ (s24 : Sl) (W25 : PW), Ext W20 W25 → SX.Own W25 47 6 s24 [[.int .u8 0, .int .u8 0, .int .u8 1, .bool b21, s22.v, s23.v]] → Fr W0 W20 s24 → ∀ (W26 : PW), Ext W25 W26 → Post s24.v W26)))
def Rref1_Const (W0 : PW) (M : Nat → Prop) (a0_0 : Bool) (a0_1 : Sl) (a0_2 : Sl) (Post : Value → PW → Prop) : Prop :=
 callN Tryz.prog W0 M 64 [.slice none 0 0, .agg ⟨[.int .u8 0, .int .u8 0, .int .u8 0, .bool a0_0, a0_1.v, a0_2.v]⟩] W0 fun v1 W2 =>
 ∃ s3 : Sl, v1 = s3.v ∧ ∀ (W4 : PW), Ext W2 W4 → Post s3.v W4
theorem callref1_Const (W0 : PW) (M : Nat → Prop) (a0_0 : Bool) (a0_1 : Sl) (a0_2 : Sl) (Post : Value → PW → Prop) (h : Rref1_Const W0 M a0_0 a0_1 a0_2 Post) : PCallsM Tryz.prog 42 [.agg #[.bool a0_0, a0_1.v, a0_2.v]] W0 M Post :=
  fn_sound rfl tt_ok tt_in Tryz.func42 (cuts := []) rfl rfl (Nat.le_of_ble_eq_true rfl) (Eq.mpr (by kernel_rfl) h)
 ((a0.2 : Int) ≠ (a1.2 : Int) → ∀ (W1 : PW), Ext W0 W1 → Post (Value.bool false) W1) ∧
 (¬(a0.2 : Int) ≠ (a1.2 : Int) →
 ∃ (F2 : List PL → PW → Prop),
 ∃ (F3 : List PL → PW → Nat),
 F2 [PL.val (Value.int .i64 0)] W0 ∧
 ∀ (i4 : Int) (W5 : PW),
 F2 [PL.val (Value.int .i64 i4)] W5 →
 (i4 < (a0.2 : Int) →
 inB a0 i4 ∧
 ∃ i6 : Int,
 ∃ i7 : Int,
 ∃ i8 : Int,
 ElemAt W5 a0 6 (Int.toNat i4) 0 [Value.int .u8 i6, Value.int .u8 i7, Value.int .u8 i8] ∧
 inB a1 i4 ∧
 ∃ i9 : Int,
 ∃ i10 : Int,
 ∃ i11 : Int,
 ElemAt W5 a1 6 (Int.toNat i4) 0 [Value.int .u8 i9, Value.int .u8 i10, Value.int .u8 i11] ∧
 ([Value.int .u8 i6, Value.int .u8 i7, Value.int .u8 i8] ≠ [Value.int .u8 i9, Value.int .u8 i10, Value.int .u8 i11] → Ext W5 W5 ∧ ∀ (W12 : PW), Ext W5 W12 → Post (Value.bool false) W12) ∧
 (¬[Value.int .u8 i6, Value.int .u8 i7, Value.int .u8 i8] ≠ [Value.int .u8 i9, Value.int .u8 i10, Value.int .u8 i11] →
 inB a0 i4 ∧
 ∃ b13 : Bool,
 ∃ s14 : Sl,
 ∃ s15 : Sl,
 ElemAt W5 a0 6 (Int.toNat i4) 3 [Value.bool b13, s14.v, s15.v] ∧
 inB a1 i4 ∧
 ∃ b16 : Bool,
 ∃ s17 : Sl,
 ∃ s18 : Sl,
 ElemAt W5 a1 6 (Int.toNat i4) 3 [Value.bool b16, s17.v, s18.v] ∧
 callN Tryz.prog W0 M 78 [Value.agg ⟨[Value.bool b13, s14.v, s15.v]⟩, Value.agg ⟨[Value.bool b16, s17.v, s18.v]⟩] W5 fun v19 W20 =>
 ∃ i21 : Int,
 v19 = Value.int .i64 i21 ∧
 Ext W5 W20 ∧ (i21 ≠ 0 → ∀ (W22 : PW), Ext W20 W22 → Post (Value.bool false) W22) ∧ (¬i21 ≠ 0 → I64 (i4 + 1) ∧ stp F2 F3 [PL.val (Value.int .i64 (i4 + 1))] W20 [PL.val (Value.int .i64 i4)] W5))) ∧
 (¬i4 < (a0.2 : Int) → ∀ (W23 : PW), Ext W5 W23 → Post (Value.bool true) W23))
 callN Tryz.prog W0 M 20 [a0.v, .int .i64 255] W0 fun v1 W2 =>
 ∃ s3 : Sl,
 ∃ s4 : Sl,
 ∃ b5 : Bool,
 v1 = .tuple ⟨[.agg ⟨[s3.v]⟩, s4.v, .bool b5]⟩ ∧
 callN Tryz.prog W0 M 20 [a1.v, .int .i64 255] W2 fun v6 W7 =>
 ∃ s8 : Sl,
 ∃ s9 : Sl,
 ∃ b10 : Bool,
 v6 = .tuple ⟨[.agg ⟨[s8.v]⟩, s9.v, .bool b10]⟩ ∧
 callN Tryz.prog W0 M 16 [.string a2] W7 fun v11 W12 =>
 ∃ s13 : Sl,
 ∃ b14 : Bool,
 ∃ s15 : Sl,
 ∃ b16 : Bool,
 ∃ s17 : Sl,
 ∃ s18 : Sl,
 ∃ b19 : Bool,
 v11 = .tuple ⟨[.agg ⟨[s13.v, .bool b14, s15.v]⟩, .agg ⟨[.bool b16, s17.v, s18.v]⟩, .bool b19]⟩ ∧
 ((!b5) = true → callN Tryz.prog W0 M 15 [] W12 fun v20 W21 => ∃ b22 : Bool, v20 = .bool b22 ∧ ∀ (W23 : PW), Ext W21 W23 → Post (.bool b22) W23) ∧
 ((!b5) = false →
 ((!b10) = true → callN Tryz.prog W0 M 15 [] W12 fun v24 W25 => ∃ b26 : Bool, v24 = .bool b26 ∧ ∀ (W27 : PW), Ext W25 W27 → Post (.bool b26) W27) ∧
 ((!b10) = false →
 ((!b19) = true → callN Tryz.prog W0 M 15 [] W12 fun v28 W29 => ∃ b30 : Bool, v28 = .bool b30 ∧ ∀ (W31 : PW), Ext W29 W31 → Post (.bool b30) W31) ∧
 ((!b19) = false →
 callN Tryz.prog W0 M 15 [] W12 fun v32 W33 =>
 ∃ b34 : Bool,
 v32 = .bool b34 ∧
 ((!b34) = true → callN Tryz.prog W0 M 15 [] W33 fun v35 W36 => ∃ b37 : Bool, v35 = .bool b37 ∧ ∀ (W38 : PW), Ext W36 W38 → Post (.bool b37) W38) ∧
 ((!b34) = false →
 callN Tryz.prog W0 M 31 [.agg ⟨[s3.v]⟩, .agg ⟨[s8.v]⟩] W33 fun v39 W40 =>
 ∃ s41 : Sl,
 v39 = .agg ⟨[s41.v]⟩ ∧
 callN Tryz.prog W0 M 32 [s4.v, s9.v] W40 fun v42 W43 =>
 ∃ s44 : Sl,
 v42 = s44.v ∧
 callN Tryz.prog W0 M 17 [.agg ⟨[s41.v]⟩, s44.v] W43 fun v45 W46 =>
 ∃ b47 : Bool,
 v45 = .bool b47 ∧
 (b47 = true →
 callN Tryz.prog W0 M 33 [.agg ⟨[s3.v]⟩, .agg ⟨[s8.v]⟩] W46 fun v48 W49 =>
 ∃ s50 : Sl,
 v48 = .agg ⟨[s50.v]⟩ ∧
 callN Tryz.prog W0 M 34 [s4.v, s9.v] W49 fun v51 W52 =>
 ∃ s53 : Sl,
 v51 = s53.v ∧
 callN Tryz.prog W0 M 17 [.agg ⟨[s50.v]⟩, s53.v] W52 fun v54 W55 =>
 ∃ b56 : Bool,
 v54 = .bool b56 ∧
 (b56 = true →
 callN Tryz.prog W0 M 35 [.agg ⟨[s3.v]⟩, .agg ⟨[s13.v, .bool b14, s15.v]⟩] W55 fun v57 W58 =>
 ∃ s59 : Sl,
 v57 = .agg ⟨[s59.v]⟩ ∧
 callN Tryz.prog W0 M 36 [s4.v, .agg ⟨[.bool b16, s17.v, s18.v]⟩] W58 fun v60 W61 =>
 ∃ s62 : Sl,
 v60 = s62.v ∧
 callN Tryz.prog W0 M 17 [.agg ⟨[s59.v]⟩, s62.v] W61 fun v63 W64 =>
 ∃ b65 : Bool,
 v63 = .bool b65 ∧
 (b65 = true →
 callN Tryz.prog W0 M 37 [.agg ⟨[s3.v]⟩, .agg ⟨[s8.v]⟩] W64 fun v66 W67 =>
 ∃ b68 : Bool,
 v66 = .bool b68 ∧
 callN Tryz.prog W0 M 38 [s4.v, s9.v] W67 fun v69 W70 =>
 ∃ b71 : Bool,
 v69 = .bool b71 ∧
 (b68 = b71 →
 callN Tryz.prog W0 M 39 [.int .i64 a3] W70 fun v72 W73 =>
 ∃ s74 : Sl,
 v72 = .agg ⟨[s74.v]⟩ ∧
 callN Tryz.prog W0 M 40 [.int .i64 a3] W73 fun v75 W76 =>
 ∃ s77 : Sl,
 v75 = s77.v ∧
 callN Tryz.prog W0 M 17 [.agg ⟨[s74.v]⟩, s77.v] W76 fun v78 W79 =>
 ∃ b80 : Bool,
 v78 = .bool b80 ∧
 (b80 = true →
 callN Tryz.prog W0 M 41 [.agg ⟨[s13.v, .bool b14, s15.v]⟩] W79 fun v81 W82 =>
 ∃ s83 : Sl,
 v81 = .agg ⟨[s83.v]⟩ ∧
 callN Tryz.prog W0 M 42 [.agg ⟨[.bool b16, s17.v, s18.v]⟩] W82 fun v84 W85 =>
 ∃ s86 : Sl,
 v84 = s86.v ∧
 callN Tryz.prog W0 M 17 [.agg ⟨[s83.v]⟩, s86.v] W85 fun v87 W88 =>
 ∃ b89 : Bool, v87 = .bool b89 ∧ ∀ (W90 : PW), Ext W88 W90 → Post (.bool b89) W90) ∧
 (b80 = false → ∀ (W91 : PW), Ext W79 W91 → Post (.bool false) W91)) ∧
 (¬b68 = b71 → ∀ (W92 : PW), Ext W70 W92 → Post (.bool false) W92)) ∧
 (b65 = false → ∀ (W93 : PW), Ext W64 W93 → Post (.bool false) W93)) ∧
 (b56 = false → ∀ (W94 : PW), Ext W55 W94 → Post (.bool false) W94)) ∧
 (b47 = false → ∀ (W95 : PW), Ext W46 W95 → Post (.bool false) W95)))))
end Go.Proofs.YtbingbjhgoanoaaGreat
