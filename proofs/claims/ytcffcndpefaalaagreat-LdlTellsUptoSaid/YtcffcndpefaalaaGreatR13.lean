/- R13 -/
import Derived.Test.YtcffcndpefaalaaGreatTt
set_option linter.unusedVariables false
set_option linter.unusedSimpArgs false
set_option maxRecDepth 100000
set_option linter.unusedVariables false
namespace Go.Proofs.YtcffcndpefaalaaGreat
open Go Go.SX
def Rref1_MatRight (W0 : PW) (M : Nat → Prop) (a0 : Sl) (Post : Value → PW → Prop) : Prop :=
 ((a0.2 : Int) < 1 → ∀ (W1 : PW), Ext W0 W1 → Post (.bool false) W1) ∧
 (¬(a0.2 : Int) < 1 →
 (12 < (a0.2 : Int) → ∀ (W2 : PW), Ext W0 W2 → Post (.bool false) W2) ∧
 (¬12 < (a0.2 : Int) →
 inB a0 0 ∧
 ∃ s3 : Sl,
 ElemAt W0 a0 1 0 0 [s3.v] ∧
 ((s3.2 : Int) < 1 → ∀ (W4 : PW), Ext W0 W4 → Post (.bool false) W4) ∧
 (¬(s3.2 : Int) < 1 →
 inB a0 0 ∧
 ∃ s5 : Sl,
 ElemAt W0 a0 1 0 0 [s5.v] ∧
 (12 < (s5.2 : Int) → ∀ (W6 : PW), Ext W0 W6 → Post (.bool false) W6) ∧
 (¬12 < (s5.2 : Int) →
 ∃ (F7 : List PL → PW → Prop),
 ∃ (F8 : List PL → PW → Nat),
 F7 [.val (.int .i64 0)] W0 ∧
 ∀ (i9 : Int) (W10 : PW),
 F7 [.val (.int .i64 i9)] W10 →
 (i9 < (a0.2 : Int) →
 inB a0 i9 ∧
 ∃ s11 : Sl,
 ElemAt W10 a0 1 (Int.toNat i9) 0 [s11.v] ∧
 inB a0 0 ∧
 ∃ s12 : Sl,
 ElemAt W10 a0 1 0 0 [s12.v] ∧
 ((s11.2 : Int) ≠ (s12.2 : Int) → ∀ (W13 : PW), Ext W10 W13 → Post (.bool false) W13) ∧ (¬(s11.2 : Int) ≠ (s12.2 : Int) → I64 (i9 + 1) ∧ stp F7 F8 [.val (.int .i64 (i9 + 1))] W10 [.val (.int .i64 i9)] W10)) ∧
 (¬i9 < (a0.2 : Int) → ∀ (W14 : PW), Ext W10 W14 → Post (.bool true) W14)))))
theorem callref1_MatRight (W0 : PW) (M : Nat → Prop) (a0 : Sl) (Post : Value → PW → Prop) (h : Rref1_MatRight W0 M a0 Post) : PCallsM Tryz.prog 50 [a0.v] W0 M Post :=
  fn_sound rfl tt_ok tt_in Tryz.func50 (cuts := []) rfl rfl (Nat.le_of_ble_eq_true rfl) (Eq.mpr (by kernel_rfl) h)
def Rref1_square (W0 : PW) (M : Nat → Prop) (a0 : Sl) (Post : Value → PW → Prop) : Prop :=
 callN Tryz.prog W0 M 50 [a0.v] W0 fun v1 W2 =>
 ∃ b3 : Bool, v1 = .bool b3 ∧ (b3 = true → inB a0 0 ∧ ∃ s4 : Sl, ElemAt W2 a0 1 0 0 [s4.v] ∧ ∀ (W5 : PW), Ext W2 W5 → Post (.bool (decide ((a0.2 : Int) = (s4.2 : Int)))) W5) ∧ (b3 = false → ∀ (W6 : PW), Ext W2 W6 → Post (.bool false) W6)
theorem callref1_square (W0 : PW) (M : Nat → Prop) (a0 : Sl) (Post : Value → PW → Prop) (h : Rref1_square W0 M a0 Post) : PCallsM Tryz.prog 21 [a0.v] W0 M Post :=
  fn_sound rfl tt_ok tt_in Tryz.func21 (cuts := []) rfl rfl (Nat.le_of_ble_eq_true rfl) (Eq.mpr (by kernel_rfl) h)
def Rref1_rows (W0 : PW) (M : Nat → Prop) (a0 : Sl) (Post : Value → PW → Prop) : Prop :=
 ∃ (F1 : List PL → PW → Prop),
 ∃ (F2 : List PL → PW → Nat),
 F1 [.row [], .val (.int .i64 0)] W0 ∧
 ∀ (l3 : List (List Value)) (i4 : Int) (W5 : PW),
 F1 [.row l3, .val (.int .i64 i4)] W5 →
 (i4 < (a0.2 : Int) →
 inB a0 i4 ∧
 ∃ s6 : Sl,
 ElemAt W5 a0 1 (Int.toNat i4) 0 [s6.v] ∧
 ∃ (l7 : List (List Value)),
 RowA W5 3 s6 l7 ∧
 List.length l7 * 56 ≤ 140737488355328 ∧
 ∀ (s8 : Sl) (W9 : PW),
 Ext W5 W9 →
 SX.Own W9 58 3 s8 l7 →
 Fr W0 W5 s8 → (List.length l3 + List.length [[s8.v]]) * 24 ≤ 140737488355328 ∧ I64 (i4 + 1) ∧ stp F1 F2 [.row (l3 ++ [[s8.v]]), .val (.int .i64 (i4 + 1))] W9 [.row l3, .val (.int .i64 i4)] W5) ∧
 (¬i4 < (a0.2 : Int) → ∀ (s10 : Sl) (W11 : PW), Ext W5 W11 → SX.Own W11 34 1 s10 l3 → Fr W0 W5 s10 → ∀ (W12 : PW), Ext W11 W12 → Post s10.v W12)
theorem callref1_rows (W0 : PW) (M : Nat → Prop) (a0 : Sl) (Post : Value → PW → Prop) (h : Rref1_rows W0 M a0 Post) : PCallsM Tryz.prog 23 [a0.v] W0 M Post :=
  fn_sound rfl tt_ok tt_in Tryz.func23 (cuts := []) rfl rfl (Nat.le_of_ble_eq_true rfl) (Eq.mpr (by kernel_rfl) h)
def Rref1_One (W0 : PW) (M : Nat → Prop) (a0 : Int) (Post : Value → PW → Prop) : Prop :=
 ∃ (F1 : List PL → PW → Prop),
 ∃ (F2 : List PL → PW → Nat),
 F1 [PL.row [], PL.val (Value.int .i64 0)] W0 ∧
 ∀ (l3 : List (List Value)) (i4 : Int) (W5 : PW),
 F1 [PL.row l3, PL.val (Value.int .i64 i4)] W5 →
 (i4 < mn (mx a0 1) 12 →
 (mn (mx a0 1) 12 = mn (mx a0 1) 12 ∧ 0 ≤ mn (mx a0 1) 12 ∧ mn (mx a0 1) 12 * (↑(56 : Nat) : Int) ≤ 281474976710656) ∧
 callN Tryz.prog W0 M 55 [Value.int .i64 1] W5 fun v6 W7 =>
 ∃ b8 : Bool,
 ∃ s9 : Sl,
 ∃ s10 : Sl,
 v6 = Value.agg ⟨[Value.bool b8, s9.v, s10.v]⟩ ∧
 (0 ≤ i4 ∧ i4 < (↑(List.length (List.replicate (Int.toNat (mn (mx a0 1) 12)) [Value.bool false, Value.slice none 0 0, Value.slice none 0 0])) : Int)) ∧
 Int.toNat i4 < List.length (List.replicate (Int.toNat (mn (mx a0 1) 12)) [Value.bool false, Value.slice none 0 0, Value.slice none 0 0]) ∧
 ∀ (s11 : Sl) (W12 : PW),
 Ext W7 W12 →
 SX.Own W12 58 3 s11 (List.set (List.replicate (Int.toNat (mn (mx a0 1) 12)) [Value.bool false, Value.slice none 0 0, Value.slice none 0 0]) (Int.toNat i4) [Value.bool b8, s9.v, s10.v]) →
 Fr W0 W7 s11 → (List.length l3 + List.length [[s11.v]]) * 24 ≤ 140737488355328 ∧ I64 (i4 + 1) ∧ stp F1 F2 [PL.row (l3 ++ [[s11.v]]), PL.val (Value.int .i64 (i4 + 1))] W12 [PL.row l3, PL.val (Value.int .i64 i4)] W5) ∧
 (¬i4 < mn (mx a0 1) 12 → ∀ (s13 : Sl) (W14 : PW), Ext W5 W14 → SX.Own W14 34 1 s13 l3 → Fr W0 W5 s13 → ∀ (W15 : PW), Ext W14 W15 → Post s13.v W15)
theorem callref1_One (W0 : PW) (M : Nat → Prop) (a0 : Int) (Post : Value → PW → Prop) (h : Rref1_One W0 M a0 Post) : PCallsM Tryz.prog 24 [Value.int .i64 a0] W0 M Post :=
  fn_sound rfl tt_ok tt_in Tryz.func24 (cuts := []) rfl rfl (Nat.le_of_ble_eq_true rfl) (Eq.mpr (by kernel_rfl) h)
def Rref1_Ldl (W0 : PW) (M : Nat → Prop) (a0 : Sl) (Post : Value → PW → Prop) : Prop :=
 callN Tryz.prog W0 M 21 [a0.v] W0 fun v1 W2 =>
 ∃ b3 : Bool,
 v1 = .bool b3 ∧
 ((!b3) = true → ∀ (W4 : PW), Ext W2 W4 → Post (.tuple ⟨[.slice none 0 0, .slice none 0 0, .bool false]⟩) W4) ∧
 ((!b3) = false →
 ∃ (F5 : List PL → PW → Prop),
 ∃ (F6 : List PL → PW → Nat),
 F5 [.val (.int .i64 0)] W2 ∧
 ∀ (i7 : Int) (W8 : PW),
 F5 [.val (.int .i64 i7)] W8 →
 (i7 < (a0.2 : Int) →
 ∃ (F9 : List PL → PW → Prop),
 ∃ (F10 : List PL → PW → Nat),
 F9 [.val (.int .i64 0)] W8 ∧
 ∀ (i11 : Int) (W12 : PW),
 F9 [.val (.int .i64 i11)] W12 →
 (i11 < i7 →
 inB a0 i7 ∧
 ∃ s13 : Sl,
 ElemAt W12 a0 1 (Int.toNat i7) 0 [s13.v] ∧
 inB s13 i11 ∧
 ∃ b14 : Bool,
 ∃ s15 : Sl,
 ∃ s16 : Sl,
 ElemAt W12 s13 3 (Int.toNat i11) 0 [.bool b14, s15.v, s16.v] ∧
 inB a0 i11 ∧
 ∃ s17 : Sl,
 ElemAt W12 a0 1 (Int.toNat i11) 0 [s17.v] ∧
 inB s17 i7 ∧
 ∃ b18 : Bool,
 ∃ s19 : Sl,
 ∃ s20 : Sl,
 ElemAt W12 s17 3 (Int.toNat i7) 0 [.bool b18, s19.v, s20.v] ∧
 callN Tryz.prog W0 M 22 [.agg ⟨[.bool b14, s15.v, s16.v]⟩, .agg ⟨[.bool b18, s19.v, s20.v]⟩] W12 fun v21 W22 =>
 ∃ i23 : Int,
 v21 = .int .i64 i23 ∧
 Ext W12 W22 ∧
 (i23 ≠ 0 → ∀ (W24 : PW), Ext W22 W24 → Post (.tuple ⟨[.slice none 0 0, .slice none 0 0, .bool false]⟩) W24) ∧
 (¬i23 ≠ 0 → I64 (i11 + 1) ∧ stp F9 F10 [.val (.int .i64 (i11 + 1))] W22 [.val (.int .i64 i11)] W12)) ∧
 (¬i11 < i7 → I64 (i7 + 1) ∧ stp F5 F6 [.val (.int .i64 (i7 + 1))] W12 [.val (.int .i64 i7)] W8)) ∧
 (¬i7 < (a0.2 : Int) →
 callN Tryz.prog W0 M 23 [a0.v] W8 fun v25 W26 =>
 ∃ s27 : Sl,
 v25 = s27.v ∧
 callN Tryz.prog W0 M 24 [.int .i64 (a0.2 : Int)] W26 fun v28 W29 =>
 ∃ s30 : Sl,
 v28 = s30.v ∧
 ∃ (F31 : List PL → PW → Prop),
 ∃ (F32 : List PL → PW → Nat),
 F31 [.row [], .val (.int .i64 0)] W29 ∧
 ∀ (l33 : List (List Value)) (i34 : Int) (W35 : PW),
 F31 [.row l33, .val (.int .i64 i34)] W35 →
 (i34 < (a0.2 : Int) →
 inB s27 i34 ∧
 ∃ s36 : Sl,
 ElemAt W35 s27 1 (Int.toNat i34) 0 [s36.v] ∧
 inB s36 i34 ∧
 ∃ b37 : Bool,
 ∃ s38 : Sl,
 ∃ s39 : Sl,
 ElemAt W35 s36 3 (Int.toNat i34) 0 [.bool b37, s38.v, s39.v] ∧
 (List.length l33 + List.length [[.bool b37, s38.v, s39.v]]) * 56 ≤ 140737488355328 ∧
 I64 (i34 + 1) ∧
 ∃ (F40 : List PL → PW → Prop),
 ∃ (F41 : List PL → PW → Nat),
 F40 [.val (.int .i64 (i34 + 1))] W35 ∧
 ∀ (i42 : Int) (W43 : PW),
 F40 [.val (.int .i64 i42)] W43 →
 (i42 < (a0.2 : Int) →
 (0 ≤ i34 ∧ i34 < (↑(List.length (l33 ++ [[.bool b37, s38.v, s39.v]])) : Int)) ∧
 ∃ b44 : Bool,
 ∃ s45 : Sl,
 OwnAt (l33 ++ [[.bool b37, s38.v, s39.v]]) (Int.toNat i34) 0 [.bool b44, s45.v] ∧
 callN Tryz.prog W0 M 25 [.agg ⟨[.bool b44, s45.v]⟩] W43 fun v46 W47 =>
 ∃ i48 : Int,
 v46 = .int .i64 i48 ∧
 (i48 = 0 →
 inB s27 i42 ∧
 ∃ s49 : Sl,
 ElemAt W47 s27 1 (Int.toNat i42) 0 [s49.v] ∧
 inB s49 i34 ∧
 ∃ b50 : Bool,
 ∃ s51 : Sl,
 ElemAt W47 s49 3 (Int.toNat i34) 0 [.bool b50, s51.v] ∧
 callN Tryz.prog W0 M 25 [.agg ⟨[.bool b50, s51.v]⟩] W47 fun v52 W53 =>
 ∃ i54 : Int,
 v52 = .int .i64 i54 ∧
 (i54 ≠ 0 → ∀ (W55 : PW), Ext W53 W55 → Post (.tuple ⟨[.slice none 0 0, .slice none 0 0, .bool false]⟩) W55) ∧
 (¬i54 ≠ 0 → I64 (i42 + 1) ∧ stp F40 F41 [.val (.int .i64 (i42 + 1))] W53 [.val (.int .i64 i42)] W43)) ∧
 (¬i48 = 0 →
 inB s30 i42 ∧
 ∃ s56 : Sl,
 ElemAt W47 s30 1 (Int.toNat i42) 0 [s56.v] ∧
 inB s27 i42 ∧
 ∃ s57 : Sl,
 ElemAt W47 s27 1 (Int.toNat i42) 0 [s57.v] ∧
 inB s57 i34 ∧
 ∃ b58 : Bool,
 ∃ s59 : Sl,
 ∃ s60 : Sl,
 ElemAt W47 s57 3 (Int.toNat i34) 0 [.bool b58, s59.v, s60.v] ∧
 (0 ≤ i34 ∧ i34 < (↑(List.length (l33 ++ [[.bool b37, s38.v, s39.v]])) : Int)) ∧
 ∃ b61 : Bool,
 ∃ s62 : Sl,
 ∃ s63 : Sl,
 OwnAt (l33 ++ [[.bool b37, s38.v, s39.v]]) (Int.toNat i34) 0 [.bool b61, s62.v, s63.v] ∧
 callN Tryz.prog W0 M 26 [.agg ⟨[.bool b58, s59.v, s60.v]⟩, .agg ⟨[.bool b61, s62.v, s63.v]⟩] W47 fun v64 W65 =>
 ∃ b66 : Bool,
 ∃ s67 : Sl,
 ∃ s68 : Sl,
 v64 = .agg ⟨[.bool b66, s67.v, s68.v]⟩ ∧
 Ext W47 W65 ∧
 inB s56 i34 ∧
 storeN W0 M s56 (Int.toNat i34 * 3 + 0) [.bool b66, s67.v, s68.v] W65 fun (W69 : PW) =>
 I64 (i42 + 1) ∧ stp F40 F41 [.val (.int .i64 (i42 + 1))] W69 [.val (.int .i64 i42)] W43)) ∧
 (¬i42 < (a0.2 : Int) →
 I64 (i34 + 1) ∧
 ∃ (F70 : List PL → PW → Prop),
 ∃ (F71 : List PL → PW → Nat),
 F70 [.val (.int .i64 (i34 + 1))] W43 ∧
 ∀ (i72 : Int) (W73 : PW),
 F70 [.val (.int .i64 i72)] W73 →
 (i72 < (a0.2 : Int) →
 I64 (i34 + 1) ∧
 ∃ (F74 : List PL → PW → Prop),
 ∃ (F75 : List PL → PW → Nat),
 F74 [.val (.int .i64 (i34 + 1))] W73 ∧
 ∀ (i76 : Int) (W77 : PW),
 F74 [.val (.int .i64 i76)] W77 →
 (i76 < (a0.2 : Int) →
 inB s27 i72 ∧
 ∃ s78 : Sl,
 ElemAt W77 s27 1 (Int.toNat i72) 0 [s78.v] ∧
 inB s27 i72 ∧
 ∃ s79 : Sl,
 ElemAt W77 s27 1 (Int.toNat i72) 0 [s79.v] ∧
 inB s79 i76 ∧
 ∃ b80 : Bool,
 ∃ s81 : Sl,
 ∃ s82 : Sl,
 ElemAt W77 s79 3 (Int.toNat i76) 0 [.bool b80, s81.v, s82.v] ∧
 inB s30 i72 ∧
 ∃ s83 : Sl,
 ElemAt W77 s30 1 (Int.toNat i72) 0 [s83.v] ∧
 inB s83 i34 ∧
 ∃ b84 : Bool,
 ∃ s85 : Sl,
 ∃ s86 : Sl,
 ElemAt W77 s83 3 (Int.toNat i34) 0 [.bool b84, s85.v, s86.v] ∧
 inB s30 i76 ∧
 ∃ s87 : Sl,
 ElemAt W77 s30 1 (Int.toNat i76) 0 [s87.v] ∧
 inB s87 i34 ∧
 ∃ b88 : Bool,
 ∃ s89 : Sl,
 ∃ s90 : Sl,
 ElemAt W77 s87 3 (Int.toNat i34) 0 [.bool b88, s89.v, s90.v] ∧
 (0 ≤ i34 ∧ i34 < (↑(List.length (l33 ++ [[.bool b37, s38.v, s39.v]])) : Int)) ∧
 ∃ b91 : Bool,
 ∃ s92 : Sl,
 ∃ s93 : Sl,
 OwnAt (l33 ++ [[.bool b37, s38.v, s39.v]]) (Int.toNat i34) 0 [.bool b91, s92.v, s93.v] ∧
 callN Tryz.prog W0 M 28 [.agg ⟨[.bool b84, s85.v, s86.v]⟩, .agg ⟨[.bool b88, s89.v, s90.v]⟩] W77
 fun v94 W95 =>
 ∃ b96 : Bool,
 ∃ s97 : Sl,
 ∃ s98 : Sl,
 v94 = .agg ⟨[.bool b96, s97.v, s98.v]⟩ ∧
 Ext W77 W95 ∧
 callN Tryz.prog W0 M 28 [.agg ⟨[.bool b96, s97.v, s98.v]⟩, .agg ⟨[.bool b91, s92.v, s93.v]⟩]
 W95 fun v99 W100 =>
 ∃ b101 : Bool,
 ∃ s102 : Sl,
 ∃ s103 : Sl,
 v99 = .agg ⟨[.bool b101, s102.v, s103.v]⟩ ∧
 Ext W95 W100 ∧
 callN Tryz.prog W0 M 27
 [.agg ⟨[.bool b80, s81.v, s82.v]⟩, .agg ⟨[.bool b101, s102.v, s103.v]⟩] W100
 fun v104 W105 =>
 ∃ b106 : Bool,
 ∃ s107 : Sl,
 ∃ s108 : Sl,
 v104 = .agg ⟨[.bool b106, s107.v, s108.v]⟩ ∧
 Ext W100 W105 ∧
 inB s78 i76 ∧
 storeN W0 M s78 (Int.toNat i76 * 3 + 0) [.bool b106, s107.v, s108.v] W105 fun (W109 : PW) =>
 I64 (i76 + 1) ∧ stp F74 F75 [.val (.int .i64 (i76 + 1))] W109 [.val (.int .i64 i76)] W77) ∧
 (¬i76 < (a0.2 : Int) → I64 (i72 + 1) ∧ stp F70 F71 [.val (.int .i64 (i72 + 1))] W77 [.val (.int .i64 i72)] W73)) ∧
 (¬i72 < (a0.2 : Int) → I64 (i34 + 1) ∧ stp F31 F32 [.row (l33 ++ [[.bool b37, s38.v, s39.v]]), .val (.int .i64 (i34 + 1))] W73 [.row l33, .val (.int .i64 i34)] W35))) ∧
 (¬i34 < (a0.2 : Int) → ∀ (s110 : Sl) (W111 : PW), Ext W35 W111 → SX.Own W111 58 3 s110 l33 → Fr W0 W35 s110 → ∀ (W112 : PW), Ext W111 W112 → Post (.tuple ⟨[s30.v, s110.v, .bool true]⟩) W112)))
theorem callref1_Ldl (W0 : PW) (M : Nat → Prop) (a0 : Sl) (Post : Value → PW → Prop) (h : Rref1_Ldl W0 M a0 Post) : PCallsM Tryz.prog 8 [a0.v] W0 M Post :=
  fn_sound rfl tt_ok tt_in Tryz.func8 (cuts := []) rfl rfl (Nat.le_of_ble_eq_true rfl) (Eq.mpr (by kernel_rfl) h)
def Rref1_Semi (W0 : PW) (M : Nat → Prop) (a0 : Sl) (Post : Value → PW → Prop) : Prop :=
 callN Tryz.prog W0 M 8 [a0.v] W0 fun v1 W2 =>
 ∃ s3 : Sl,
 ∃ s4 : Sl,
 ∃ b5 : Bool,
 v1 = .tuple ⟨[s3.v, s4.v, .bool b5]⟩ ∧
 ∃ (F6 : List PL → PW → Prop),
 ∃ (F7 : List PL → PW → Nat),
 F6 [.val (.bool b5), .val (.int .i64 0)] W2 ∧
 ∀ (b8 : Bool) (i9 : Int) (W10 : PW),
 F6 [.val (.bool b8), .val (.int .i64 i9)] W10 →
 (i9 < (s4.2 : Int) →
 (b8 = true →
 inB s4 i9 ∧
 ∃ b11 : Bool,
 ∃ s12 : Sl,
 ElemAt W10 s4 3 (Int.toNat i9) 0 [.bool b11, s12.v] ∧
 callN Tryz.prog W0 M 25 [.agg ⟨[.bool b11, s12.v]⟩] W10 fun v13 W14 =>
 ∃ i15 : Int, v13 = .int .i64 i15 ∧ I64 (i9 + 1) ∧ stp F6 F7 [.val (.bool (decide (0 ≤ i15))), .val (.int .i64 (i9 + 1))] W14 [.val (.bool b8), .val (.int .i64 i9)] W10) ∧
 (b8 = false → ∀ (W16 : PW), Ext W10 W16 → Post (.bool b8) W16)) ∧
 (¬i9 < (s4.2 : Int) → ∀ (W17 : PW), Ext W10 W17 → Post (.bool b8) W17)
theorem callref1_Semi (W0 : PW) (M : Nat → Prop) (a0 : Sl) (Post : Value → PW → Prop) (h : Rref1_Semi W0 M a0 Post) : PCallsM Tryz.prog 12 [a0.v] W0 M Post :=
  fn_sound rfl tt_ok tt_in Tryz.func12 (cuts := []) rfl rfl (Nat.le_of_ble_eq_true rfl) (Eq.mpr (by kernel_rfl) h)
def Rldl_Semi (W0 : PW) (M : Nat → Prop) (a0 : Sl) (Post : Value → PW → Prop) : Prop :=
 callN Tryz.prog W0 M 7 [a0.v] W0 fun v1 W2 =>
 ∃ s3 : Sl,
 ∃ s4 : Sl,
 ∃ b5 : Bool,
 v1 = .tuple ⟨[s3.v, s4.v, .bool b5]⟩ ∧
 ∃ (F6 : List PL → PW → Prop),
 ∃ (F7 : List PL → PW → Nat),
 F6 [.val (.int .i64 0)] W2 ∧
 ∀ (i8 : Int) (W9 : PW),
 F6 [.val (.int .i64 i8)] W9 →
 (i8 < (s4.2 : Int) →
 inB s4 i8 ∧
 ∃ s10 : Sl,
 ∃ b11 : Bool,
 ∃ s12 : Sl,
 ElemAt W9 s4 3 (Int.toNat i8) 0 [s10.v, .bool b11, s12.v] ∧
 callN Tryz.prog W0 M 20 [.agg ⟨[s10.v, .bool b11, s12.v]⟩] W9 fun v13 W14 =>
 ∃ i15 : Int, v13 = .int .i64 i15 ∧ (i15 < 0 → ∀ (W16 : PW), Ext W14 W16 → Post (.bool false) W16) ∧ (¬i15 < 0 → I64 (i8 + 1) ∧ stp F6 F7 [.val (.int .i64 (i8 + 1))] W14 [.val (.int .i64 i8)] W9)) ∧
 (¬i8 < (s4.2 : Int) → ∀ (W17 : PW), Ext W9 W17 → Post (.bool b5) W17)
theorem callldl_Semi (W0 : PW) (M : Nat → Prop) (a0 : Sl) (Post : Value → PW → Prop) (h : Rldl_Semi W0 M a0 Post) : PCallsM Tryz.prog 11 [a0.v] W0 M Post :=
  fn_sound rfl tt_ok tt_in Tryz.func11 (cuts := []) rfl rfl (Nat.le_of_ble_eq_true rfl) (Eq.mpr (by kernel_rfl) h)
def Rmat_Plain (W0 : PW) (M : Nat → Prop) (a0 : Sl) (Post : Value → PW → Prop) : Prop :=
 ∃ (F1 : List PL → PW → Prop),
 ∃ (F2 : List PL → PW → Nat),
 F1 [PL.row [], PL.val (Value.int .i64 0)] W0 ∧
 ∀ (l3 : List (List Value)) (i4 : Int) (W5 : PW),
 F1 [PL.row l3, PL.val (Value.int .i64 i4)] W5 →
 (i4 < (a0.2 : Int) →
 inB a0 i4 ∧
 ∃ s6 : Sl,
 ElemAt W5 a0 1 (Int.toNat i4) 0 [s6.v] ∧
 ∃ (F7 : List PL → PW → Prop),
 ∃ (F8 : List PL → PW → Nat),
 F7 [PL.row [], PL.val (Value.int .i64 0)] W5 ∧
 ∀ (l9 : List (List Value)) (i10 : Int) (W11 : PW),
 F7 [PL.row l9, PL.val (Value.int .i64 i10)] W11 →
 (i10 < (s6.2 : Int) →
 inB s6 i10 ∧
 ∃ s12 : Sl,
 ∃ b13 : Bool,
 ∃ s14 : Sl,
 ElemAt W11 s6 3 (Int.toNat i10) 0 [s12.v, Value.bool b13, s14.v] ∧
 callN Tryz.prog W0 M 14 [Value.agg ⟨[s12.v, Value.bool b13, s14.v]⟩] W11 fun v15 W16 =>
 ∃ t17 : ByteArray,
 v15 = Value.string t17 ∧
 (List.length l9 + List.length [[Value.string t17]]) * 16 ≤ 140737488355328 ∧ I64 (i10 + 1) ∧ stp F7 F8 [PL.row (l9 ++ [[Value.string t17]]), PL.val (Value.int .i64 (i10 + 1))] W16 [PL.row l9, PL.val (Value.int .i64 i10)] W11) ∧
 (¬i10 < (s6.2 : Int) →
 ∀ (s18 : Sl) (W19 : PW),
 Ext W11 W19 →
 SX.Own W19 9 1 s18 l9 →
 Fr W0 W11 s18 → (List.length l3 + List.length [[s18.v]]) * 24 ≤ 140737488355328 ∧ I64 (i4 + 1) ∧ stp F1 F2 [PL.row (l3 ++ [[s18.v]]), PL.val (Value.int .i64 (i4 + 1))] W19 [PL.row l3, PL.val (Value.int .i64 i4)] W5)) ∧
 (¬i4 < (a0.2 : Int) → ∀ (s20 : Sl) (W21 : PW), Ext W5 W21 → SX.Own W21 45 1 s20 l3 → Fr W0 W5 s20 → ∀ (W22 : PW), Ext W21 W22 → Post s20.v W22)
theorem callmat_Plain (W0 : PW) (M : Nat → Prop) (a0 : Sl) (Post : Value → PW → Prop) (h : Rmat_Plain W0 M a0 Post) : PCallsM Tryz.prog 30 [a0.v] W0 M Post :=
  fn_sound rfl tt_ok tt_in Tryz.func30 (cuts := []) rfl rfl (Nat.le_of_ble_eq_true rfl) (Eq.mpr (by kernel_rfl) h)
def Rref1_MatPlain (W0 : PW) (M : Nat → Prop) (a0 : Sl) (Post : Value → PW → Prop) : Prop :=
 ∃ (F1 : List PL → PW → Prop),
 ∃ (F2 : List PL → PW → Nat),
 F1 [PL.row [], PL.val (Value.int .i64 0)] W0 ∧
 ∀ (l3 : List (List Value)) (i4 : Int) (W5 : PW),
 F1 [PL.row l3, PL.val (Value.int .i64 i4)] W5 →
 (i4 < (a0.2 : Int) →
 ∃ (F6 : List PL → PW → Prop),
 ∃ (F7 : List PL → PW → Nat),
 F6 [PL.row [], PL.val (Value.int .i64 0)] W5 ∧
 ∀ (l8 : List (List Value)) (i9 : Int) (W10 : PW),
 F6 [PL.row l8, PL.val (Value.int .i64 i9)] W10 →
 inB a0 i4 ∧
 ∃ s11 : Sl,
 ElemAt W10 a0 1 (Int.toNat i4) 0 [s11.v] ∧
 (i9 < (s11.2 : Int) →
 inB a0 i4 ∧
 ∃ s12 : Sl,
 ElemAt W10 a0 1 (Int.toNat i4) 0 [s12.v] ∧
 inB s12 i9 ∧
 ∃ b13 : Bool,
 ∃ s14 : Sl,
 ∃ s15 : Sl,
 ElemAt W10 s12 3 (Int.toNat i9) 0 [Value.bool b13, s14.v, s15.v] ∧
 callN Tryz.prog W0 M 61 [Value.agg ⟨[Value.bool b13, s14.v, s15.v]⟩] W10 fun v16 W17 =>
 ∃ t18 : ByteArray,
 v16 = Value.string t18 ∧
 (List.length l8 + List.length [[Value.string t18]]) * 16 ≤ 140737488355328 ∧ I64 (i9 + 1) ∧ stp F6 F7 [PL.row (l8 ++ [[Value.string t18]]), PL.val (Value.int .i64 (i9 + 1))] W17 [PL.row l8, PL.val (Value.int .i64 i9)] W10) ∧
 (¬i9 < (s11.2 : Int) →
 ∀ (s19 : Sl) (W20 : PW),
 Ext W10 W20 →
 SX.Own W20 9 1 s19 l8 →
 Fr W0 W10 s19 → (List.length l3 + List.length [[s19.v]]) * 24 ≤ 140737488355328 ∧ I64 (i4 + 1) ∧ stp F1 F2 [PL.row (l3 ++ [[s19.v]]), PL.val (Value.int .i64 (i4 + 1))] W20 [PL.row l3, PL.val (Value.int .i64 i4)] W5)) ∧
 (¬i4 < (a0.2 : Int) → ∀ (s21 : Sl) (W22 : PW), Ext W5 W22 → SX.Own W22 45 1 s21 l3 → Fr W0 W5 s21 → ∀ (W23 : PW), Ext W22 W23 → Post s21.v W23)
theorem callref1_MatPlain (W0 : PW) (M : Nat → Prop) (a0 : Sl) (Post : Value → PW → Prop) (h : Rref1_MatPlain W0 M a0 Post) : PCallsM Tryz.prog 31 [a0.v] W0 M Post :=
  fn_sound rfl tt_ok tt_in Tryz.func31 (cuts := []) rfl rfl (Nat.le_of_ble_eq_true rfl) (Eq.mpr (by kernel_rfl) h)
def Rbook_SameTexts (W0 : PW) (M : Nat → Prop) (a0 : Sl) (a1 : Sl) (Post : Value → PW → Prop) : Prop :=
 ((a0.2 : Int) ≠ (a1.2 : Int) → ∀ (W1 : PW), Ext W0 W1 → Post (.bool false) W1) ∧
 (¬(a0.2 : Int) ≠ (a1.2 : Int) →
 ∃ (F2 : List PL → PW → Prop),
 ∃ (F3 : List PL → PW → Nat),
 F2 [.val (.int .i64 0)] W0 ∧
 ∀ (i4 : Int) (W5 : PW),
 F2 [.val (.int .i64 i4)] W5 →
 (i4 < (a0.2 : Int) →
 inB a0 i4 ∧
 ∃ t6 : ByteArray,
 ElemAt W5 a0 1 (Int.toNat i4) 0 [.string t6] ∧
 inB a1 i4 ∧
 ∃ t7 : ByteArray, ElemAt W5 a1 1 (Int.toNat i4) 0 [.string t7] ∧ (t6 ≠ t7 → ∀ (W8 : PW), Ext W5 W8 → Post (.bool false) W8) ∧ (¬t6 ≠ t7 → I64 (i4 + 1) ∧ stp F2 F3 [.val (.int .i64 (i4 + 1))] W5 [.val (.int .i64 i4)] W5)) ∧
 (¬i4 < (a0.2 : Int) → ∀ (W9 : PW), Ext W5 W9 → Post (.bool true) W9))
theorem callbook_SameTexts (W0 : PW) (M : Nat → Prop) (a0 : Sl) (a1 : Sl) (Post : Value → PW → Prop) (h : Rbook_SameTexts W0 M a0 a1 Post) : PCallsM Tryz.prog 60 [a0.v, a1.v] W0 M Post :=
  fn_sound rfl tt_ok tt_in Tryz.func60 (cuts := []) rfl rfl (Nat.le_of_ble_eq_true rfl) (Eq.mpr (by kernel_rfl) h)
def Rbook_SameRows (W0 : PW) (M : Nat → Prop) (a0 : Sl) (a1 : Sl) (Post : Value → PW → Prop) : Prop :=
 ((a0.2 : Int) ≠ (a1.2 : Int) → ∀ (W1 : PW), Ext W0 W1 → Post (.bool false) W1) ∧
 (¬(a0.2 : Int) ≠ (a1.2 : Int) →
 ∃ (F2 : List PL → PW → Prop),
 ∃ (F3 : List PL → PW → Nat),
 F2 [.val (.int .i64 0)] W0 ∧
 ∀ (i4 : Int) (W5 : PW),
 F2 [.val (.int .i64 i4)] W5 →
 (i4 < (a0.2 : Int) →
 inB a0 i4 ∧
 ∃ s6 : Sl,
 ElemAt W5 a0 1 (Int.toNat i4) 0 [s6.v] ∧
 inB a1 i4 ∧
 ∃ s7 : Sl,
 ElemAt W5 a1 1 (Int.toNat i4) 0 [s7.v] ∧
 callN Tryz.prog W0 M 60 [s6.v, s7.v] W5 fun v8 W9 =>
 ∃ b10 : Bool, v8 = .bool b10 ∧ ((!b10) = true → ∀ (W11 : PW), Ext W9 W11 → Post (.bool false) W11) ∧ ((!b10) = false → I64 (i4 + 1) ∧ stp F2 F3 [.val (.int .i64 (i4 + 1))] W9 [.val (.int .i64 i4)] W5)) ∧
 (¬i4 < (a0.2 : Int) → ∀ (W12 : PW), Ext W5 W12 → Post (.bool true) W12))
theorem callbook_SameRows (W0 : PW) (M : Nat → Prop) (a0 : Sl) (a1 : Sl) (Post : Value → PW → Prop) (h : Rbook_SameRows W0 M a0 a1 Post) : PCallsM Tryz.prog 29 [a0.v, a1.v] W0 M Post :=
  fn_sound rfl tt_ok tt_in Tryz.func29 (cuts := []) rfl rfl (Nat.le_of_ble_eq_true rfl) (Eq.mpr (by kernel_rfl) h)
def Rlaw11_Is (W0 : PW) (M : Nat → Prop) (a0 : Sl) (a1 : Sl) (Post : Value → PW → Prop) : Prop :=
 callN Tryz.prog W0 M 30 [a0.v] W0 fun v1 W2 =>
 ∃ s3 : Sl,
 v1 = s3.v ∧ callN Tryz.prog W0 M 31 [a1.v] W2 fun v4 W5 => ∃ s6 : Sl, v4 = s6.v ∧ callN Tryz.prog W0 M 29 [s3.v, s6.v] W5 fun v7 W8 => ∃ b9 : Bool, v7 = .bool b9 ∧ ∀ (W10 : PW), Ext W8 W10 → Post (.bool b9) W10
theorem calllaw11_Is (W0 : PW) (M : Nat → Prop) (a0 : Sl) (a1 : Sl) (Post : Value → PW → Prop) (h : Rlaw11_Is W0 M a0 a1 Post) : PCallsM Tryz.prog 9 [a0.v, a1.v] W0 M Post :=
  fn_sound rfl tt_ok tt_in Tryz.func9 (cuts := []) rfl rfl (Nat.le_of_ble_eq_true rfl) (Eq.mpr (by kernel_rfl) h)
def Rlaw10_Is (W0 : PW) (M : Nat → Prop) (a0 : Sl) (a1 : Sl) (Post : Value → PW → Prop) : Prop :=
 ((a0.2 : Int) ≠ (a1.2 : Int) → ∀ (W1 : PW), Ext W0 W1 → Post (.bool false) W1) ∧
 (¬(a0.2 : Int) ≠ (a1.2 : Int) →
 ∃ (F2 : List PL → PW → Prop),
 ∃ (F3 : List PL → PW → Nat),
 F2 [.val (.int .i64 0)] W0 ∧
 ∀ (i4 : Int) (W5 : PW),
 F2 [.val (.int .i64 i4)] W5 →
 (i4 < (a0.2 : Int) →
 inB a0 i4 ∧
 ∃ s6 : Sl,
 ∃ b7 : Bool,
 ∃ s8 : Sl,
 ElemAt W5 a0 3 (Int.toNat i4) 0 [s6.v, .bool b7, s8.v] ∧
 inB a1 i4 ∧
 ∃ b9 : Bool,
 ∃ s10 : Sl,
 ∃ s11 : Sl,
 ElemAt W5 a1 3 (Int.toNat i4) 0 [.bool b9, s10.v, s11.v] ∧
 callN Tryz.prog W0 M 32 [.agg ⟨[s6.v, .bool b7, s8.v]⟩, .agg ⟨[.bool b9, s10.v, s11.v]⟩] W5 fun v12 W13 =>
 ∃ b14 : Bool, v12 = .bool b14 ∧ ((!b14) = true → ∀ (W15 : PW), Ext W13 W15 → Post (.bool false) W15) ∧ ((!b14) = false → I64 (i4 + 1) ∧ stp F2 F3 [.val (.int .i64 (i4 + 1))] W13 [.val (.int .i64 i4)] W5)) ∧
 (¬i4 < (a0.2 : Int) → ∀ (W16 : PW), Ext W5 W16 → Post (.bool true) W16))
theorem calllaw10_Is (W0 : PW) (M : Nat → Prop) (a0 : Sl) (a1 : Sl) (Post : Value → PW → Prop) (h : Rlaw10_Is W0 M a0 a1 Post) : PCallsM Tryz.prog 10 [a0.v, a1.v] W0 M Post :=
  fn_sound rfl tt_ok tt_in Tryz.func10 (cuts := []) rfl rfl (Nat.le_of_ble_eq_true rfl) (Eq.mpr (by kernel_rfl) h)
def Rlaw14_LdlTells (W0 : PW) (M : Nat → Prop) (a0 : Sl) (a1 : Bool) (Post : Value → PW → Prop) : Prop :=
 callN Tryz.prog W0 M 4 [] W0 fun v1 W2 =>
 ∃ b3 : Bool,
 v1 = .bool b3 ∧
 ((!b3) = true → ∀ (W4 : PW), Ext W2 W4 → Post (.bool false) W4) ∧
 ((!b3) = false →
 (a1 = true →
 callN Tryz.prog W0 M 5 [a0.v] W2 fun v5 W6 =>
 ∃ s7 : Sl,
 v5 = s7.v ∧
 callN Tryz.prog W0 M 6 [s7.v] W6 fun v8 W9 =>
 ∃ s10 : Sl,
 ∃ s11 : Sl,
 v8 = .tuple ⟨[s10.v, s11.v]⟩ ∧
 callN Tryz.prog W0 M 7 [s10.v] W9 fun v12 W13 =>
 ∃ s14 : Sl,
 ∃ s15 : Sl,
 ∃ b16 : Bool,
 v12 = .tuple ⟨[s14.v, s15.v, .bool b16]⟩ ∧
 callN Tryz.prog W0 M 8 [s11.v] W13 fun v17 W18 =>
 ∃ s19 : Sl,
 ∃ s20 : Sl,
 ∃ b21 : Bool,
 v17 = .tuple ⟨[s19.v, s20.v, .bool b21]⟩ ∧
 (b16 = b21 →
 callN Tryz.prog W0 M 9 [s14.v, s19.v] W18 fun v22 W23 =>
 ∃ b24 : Bool,
 v22 = .bool b24 ∧
 (b24 = true →
 callN Tryz.prog W0 M 10 [s15.v, s20.v] W23 fun v25 W26 =>
 ∃ b27 : Bool,
 v25 = .bool b27 ∧
 (b27 = true →
 callN Tryz.prog W0 M 11 [s10.v] W26 fun v28 W29 =>
 ∃ b30 : Bool, v28 = .bool b30 ∧ callN Tryz.prog W0 M 12 [s11.v] W29 fun v31 W32 => ∃ b33 : Bool, v31 = .bool b33 ∧ ∀ (W34 : PW), Ext W32 W34 → Post (.bool (decide (b30 = b33))) W34) ∧
 (b27 = false → ∀ (W35 : PW), Ext W26 W35 → Post (.bool false) W35)) ∧
 (b24 = false → ∀ (W36 : PW), Ext W23 W36 → Post (.bool false) W36)) ∧
 (¬b16 = b21 → ∀ (W37 : PW), Ext W18 W37 → Post (.bool false) W37)) ∧
 (a1 = false →
 callN Tryz.prog W0 M 6 [a0.v] W2 fun v38 W39 =>
 ∃ s40 : Sl,
 ∃ s41 : Sl,
 v38 = .tuple ⟨[s40.v, s41.v]⟩ ∧
 callN Tryz.prog W0 M 7 [s40.v] W39 fun v42 W43 =>
 ∃ s44 : Sl,
 ∃ s45 : Sl,
 ∃ b46 : Bool,
 v42 = .tuple ⟨[s44.v, s45.v, .bool b46]⟩ ∧
 callN Tryz.prog W0 M 8 [s41.v] W43 fun v47 W48 =>
 ∃ s49 : Sl,
 ∃ s50 : Sl,
 ∃ b51 : Bool,
 v47 = .tuple ⟨[s49.v, s50.v, .bool b51]⟩ ∧
 (b46 = b51 →
 callN Tryz.prog W0 M 9 [s44.v, s49.v] W48 fun v52 W53 =>
 ∃ b54 : Bool,
 v52 = .bool b54 ∧
 (b54 = true →
 callN Tryz.prog W0 M 10 [s45.v, s50.v] W53 fun v55 W56 =>
 ∃ b57 : Bool,
 v55 = .bool b57 ∧
 (b57 = true →
 callN Tryz.prog W0 M 11 [s40.v] W56 fun v58 W59 =>
 ∃ b60 : Bool, v58 = .bool b60 ∧ callN Tryz.prog W0 M 12 [s41.v] W59 fun v61 W62 => ∃ b63 : Bool, v61 = .bool b63 ∧ ∀ (W64 : PW), Ext W62 W64 → Post (.bool (decide (b60 = b63))) W64) ∧
 (b57 = false → ∀ (W65 : PW), Ext W56 W65 → Post (.bool false) W65)) ∧
 (b54 = false → ∀ (W66 : PW), Ext W53 W66 → Post (.bool false) W66)) ∧
 (¬b46 = b51 → ∀ (W67 : PW), Ext W48 W67 → Post (.bool false) W67)))
theorem calllaw14_LdlTells (W0 : PW) (M : Nat → Prop) (a0 : Sl) (a1 : Bool) (Post : Value → PW → Prop) (h : Rlaw14_LdlTells W0 M a0 a1 Post) : PCallsM Tryz.prog 3 [a0.v, .bool a1] W0 M Post :=
  fn_sound rfl tt_ok tt_in Tryz.func3 (cuts := []) rfl rfl (Nat.le_of_ble_eq_true rfl) (Eq.mpr (by kernel_rfl) h)
end Go.Proofs.YtcffcndpefaalaaGreat
