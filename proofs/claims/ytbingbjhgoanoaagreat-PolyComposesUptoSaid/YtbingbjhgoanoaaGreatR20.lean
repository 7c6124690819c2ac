/- R20 -/
import Derived.Test.YtbingbjhgoanoaaGreatTt
set_option linter.unusedVariables false
set_option linter.unusedSimpArgs false
set_option maxRecDepth 100000
set_option linter.unusedVariables false
namespace Go.Proofs.YtbingbjhgoanoaaGreat
open Go Go.SX
def Rpoly_Compose (W0 : PW) (M : Nat → Prop) (a0_0 : Sl) (a1_0 : Sl) (a1_1 : Sl) (a1_2 : Sl) (Post : Value → PW → Prop) : Prop :=
 ∃ (F1 : List PL → PW → Prop),
 ∃ (F2 : List PL → PW → Nat),
 F1 [PL.row [], PL.val (Value.int .i64 0), PL.cells [Value.slice none 0 0]] W0 ∧
 ∀ (s3 : Sl) (l4 : List (List Value)) (i5 : Int) (W6 : PW),
 F1 [PL.row l4, PL.val (Value.int .i64 i5), PL.cells [s3.v]] W6 →
 (i5 < (a0_0.2 : Int) →
 inB a0_0 i5 ∧
 ∃ i7 : Int,
 ∃ i8 : Int,
 ∃ i9 : Int,
 ∃ s10 : Sl,
 ∃ b11 : Bool,
 ∃ s12 : Sl,
 ElemAt W6 a0_0 6 (Int.toNat i5) 0 [Value.int .u8 i7, Value.int .u8 i8, Value.int .u8 i9, s10.v, Value.bool b11, s12.v] ∧
 callN Tryz.prog W0 M 41 [Value.agg ⟨[s10.v, Value.bool b11, s12.v]⟩] W6 fun v13 W14 =>
 ∃ s15 : Sl,
 v13 = Value.agg ⟨[s15.v]⟩ ∧
 ∃ (F16 : List PL → PW → Prop),
 ∃ (F17 : List PL → PW → Nat),
 F16 [PL.val (Value.bool true), PL.val (Value.int .i64 0), PL.cells [s15.v], PL.cells [s3.v]] W14 ∧
 ∀ (s18 s19 : Sl) (b20 : Bool) (i21 : Int) (W22 : PW),
 F16 [PL.val (Value.bool b20), PL.val (Value.int .i64 i21), PL.cells [s18.v], PL.cells [s19.v]] W22 →
 (i21 < 3 →
 (0 ≤ i21 ∧ i21 < 3) ∧
 ∃ i23 : Int,
 List.take 1 (List.drop (Int.toNat i21 * 1) [Value.int .u8 i7, Value.int .u8 i8, Value.int .u8 i9]) = [Value.int .u8 i23] ∧
 ∃ (F24 : List PL → PW → Prop),
 ∃ (F25 : List PL → PW → Nat),
 F24 [PL.val (Value.bool b20), PL.val (Value.int .u8 0), PL.cells [s18.v], PL.cells [s19.v]] W22 ∧
 ∀ (s26 s27 : Sl) (b28 : Bool) (i29 : Int) (W30 : PW),
 F24 [PL.val (Value.bool b28), PL.val (Value.int .u8 i29), PL.cells [s26.v], PL.cells [s27.v]] W30 →
 (i29 < i23 →
 (0 ≤ i21 ∧ i21 < 3) ∧
 ∃ s31 : Sl,
 BoxAt [a1_0.v, a1_1.v, a1_2.v] (0 + Int.toNat i21 * 1 + 0) [s31.v] ∧
 callN Tryz.prog W0 M 21 [Value.agg ⟨[s26.v]⟩, Value.agg ⟨[s31.v]⟩] W30 fun v32 W33 =>
 ∃ s34 : Sl,
 ∃ b35 : Bool,
 v32 = Value.tuple ⟨[Value.agg ⟨[s34.v]⟩, Value.bool b35]⟩ ∧
 ((!b35) = true → ∀ (W36 : PW), Ext W33 W36 → Post (Value.tuple ⟨[Value.agg ⟨[Value.slice none 0 0]⟩, Value.bool false]⟩) W36) ∧
 ((!b35) = false →
 stp F24 F25 [PL.val (Value.bool b35), PL.val (Value.int .u8 (IntKind.wrap .u8 (i29 + 1))), PL.cells [s34.v], PL.cells [s27.v]] W33
 [PL.val (Value.bool b28), PL.val (Value.int .u8 i29), PL.cells [s26.v], PL.cells [s27.v]] W30)) ∧
 (¬i29 < i23 →
 I64 (i21 + 1) ∧
 stp F16 F17 [PL.val (Value.bool b28), PL.val (Value.int .i64 (i21 + 1)), PL.cells [s26.v], PL.cells [s27.v]] W30
 [PL.val (Value.bool b20), PL.val (Value.int .i64 i21), PL.cells [s18.v], PL.cells [s19.v]] W22)) ∧
 (¬i21 < 3 →
 ∃ (l37 : List (List Value)),
 RowA W22 6 s18 l37 ∧
 (List.length l4 + List.length l37) * 64 ≤ 140737488355328 ∧
 I64 (i5 + 1) ∧ stp F1 F2 [PL.row (l4 ++ l37), PL.val (Value.int .i64 (i5 + 1)), PL.cells [s19.v]] W22 [PL.row l4, PL.val (Value.int .i64 i5), PL.cells [s3.v]] W6)) ∧
 (¬i5 < (a0_0.2 : Int) →
 ∀ (s38 : Sl) (W39 : PW),
 Ext W6 W39 →
 SX.Own W39 45 6 s38 l4 →
 Fr W0 W6 s38 → callN Tryz.prog W0 M 18 [s38.v] W39 fun v40 W41 => ∃ s42 : Sl, v40 = Value.agg ⟨[s42.v]⟩ ∧ ∀ (W43 : PW), Ext W41 W43 → Post (Value.tuple ⟨[Value.agg ⟨[s42.v]⟩, Value.bool true]⟩) W43)
theorem callpoly_Compose (W0 : PW) (M : Nat → Prop) (a0_0 : Sl) (a1_0 : Sl) (a1_1 : Sl) (a1_2 : Sl) (Post : Value → PW → Prop) (h : Rpoly_Compose W0 M a0_0 a1_0 a1_1 a1_2 Post) : PCallsM Tryz.prog 29 [Value.agg #[a0_0.v], Value.agg #[a1_0.v, a1_1.v, a1_2.v]] W0 M Post :=
  fn_sound rfl tt_ok tt_in Tryz.func29 (cuts := []) rfl rfl (Nat.le_of_ble_eq_true rfl) (Eq.mpr (by kernel_rfl) h)
def Rref1_Compose (W0 : PW) (M : Nat → Prop) (a0 : Sl) (a1_0 : Sl) (a1_1 : Sl) (a1_2 : Sl) (Post : Value → PW → Prop) : Prop :=
 ∃ (F1 : List PL → PW → Prop),
 ∃ (F2 : List PL → PW → Nat),
 F1 [.val (.slice none 0 0), .val (.int .i64 0)] W0 ∧
 ∀ (s3 : Sl) (i4 : Int) (W5 : PW),
 F1 [.val s3.v, .val (.int .i64 i4)] W5 →
 (i4 < (a0.2 : Int) →
 inB a0 i4 ∧
 ∃ b6 : Bool,
 ∃ s7 : Sl,
 ∃ s8 : Sl,
 ElemAt W5 a0 6 (Int.toNat i4) 3 [.bool b6, s7.v, s8.v] ∧
 callN Tryz.prog W0 M 42 [.agg ⟨[.bool b6, s7.v, s8.v]⟩] W5 fun v9 W10 =>
 ∃ s11 : Sl,
 v9 = s11.v ∧
 ∃ (F12 : List PL → PW → Prop),
 ∃ (F13 : List PL → PW → Nat),
 F12 [.val s11.v, .val (.int .i64 0)] W10 ∧
 ∀ (s14 : Sl) (i15 : Int) (W16 : PW),
 F12 [.val s14.v, .val (.int .i64 i15)] W16 →
 (i15 < 3 →
 ∃ (F17 : List PL → PW → Prop),
 ∃ (F18 : List PL → PW → Nat),
 F17 [.val s14.v, .val (.int .i64 0)] W16 ∧
 ∀ (s19 : Sl) (i20 : Int) (W21 : PW),
 F17 [.val s19.v, .val (.int .i64 i20)] W21 →
 inB a0 i4 ∧
 (0 ≤ i15 ∧ i15 < 3) ∧
 ∃ i22 : Int,
 ElemAt W21 a0 6 (Int.toNat i4) (0 + Int.toNat i15 * 1) [.int .u8 i22] ∧
 I64 i22 ∧
 (i20 < i22 →
 (0 ≤ i15 ∧ i15 < 3) ∧
 ∃ s23 : Sl,
 BoxAt [a1_0.v, a1_1.v, a1_2.v] (0 + Int.toNat i15 * 1 + 0) [s23.v] ∧
 callN Tryz.prog W0 M 22 [s19.v, s23.v] W21 fun v24 W25 =>
 ∃ s26 : Sl,
 ∃ b27 : Bool,
 v24 = .tuple ⟨[s26.v, .bool b27]⟩ ∧
 ((!b27) = true → ∀ (W28 : PW), Ext W25 W28 → Post (.tuple ⟨[.slice none 0 0, .bool false]⟩) W28) ∧
 ((!b27) = false → I64 (i20 + 1) ∧ stp F17 F18 [.val s26.v, .val (.int .i64 (i20 + 1))] W25 [.val s19.v, .val (.int .i64 i20)] W21)) ∧
 (¬i20 < i22 → I64 (i15 + 1) ∧ stp F12 F13 [.val s19.v, .val (.int .i64 (i15 + 1))] W21 [.val s14.v, .val (.int .i64 i15)] W16)) ∧
 (¬i15 < 3 →
 callN Tryz.prog W0 M 32 [s3.v, s14.v] W16 fun v29 W30 =>
 ∃ s31 : Sl, v29 = s31.v ∧ I64 (i4 + 1) ∧ stp F1 F2 [.val s31.v, .val (.int .i64 (i4 + 1))] W30 [.val s3.v, .val (.int .i64 i4)] W5)) ∧
 (¬i4 < (a0.2 : Int) → ∀ (W32 : PW), Ext W5 W32 → Post (.tuple ⟨[s3.v, .bool true]⟩) W32)
theorem callref1_Compose (W0 : PW) (M : Nat → Prop) (a0 : Sl) (a1_0 : Sl) (a1_1 : Sl) (a1_2 : Sl) (Post : Value → PW → Prop) (h : Rref1_Compose W0 M a0 a1_0 a1_1 a1_2 Post) : PCallsM Tryz.prog 30 [a0.v, .agg #[a1_0.v, a1_1.v, a1_2.v]] W0 M Post :=
  fn_sound rfl tt_ok tt_in Tryz.func30 (cuts := []) rfl rfl (Nat.le_of_ble_eq_true rfl) (Eq.mpr (by kernel_rfl) h)
def Rlaw8_PolyComposes (W0 : PW) (M : Nat → Prop) (a0 : Sl) (a1 : Sl) (a2 : Sl) (a3 : Sl) (Post : Value → PW → Prop) : Prop :=
 callN Tryz.prog W0 M 20 [a0.v, .int .i64 3] W0 fun v1 W2 =>
 ∃ s3 : Sl,
 ∃ s4 : Sl,
 ∃ b5 : Bool,
 v1 = .tuple ⟨[.agg ⟨[s3.v]⟩, s4.v, .bool b5]⟩ ∧
 callN Tryz.prog W0 M 20 [a1.v, .int .i64 100] W2 fun v6 W7 =>
 ∃ s8 : Sl,
 ∃ s9 : Sl,
 ∃ b10 : Bool,
 v6 = .tuple ⟨[.agg ⟨[s8.v]⟩, s9.v, .bool b10]⟩ ∧
 callN Tryz.prog W0 M 20 [a2.v, .int .i64 100] W7 fun v11 W12 =>
 ∃ s13 : Sl,
 ∃ s14 : Sl,
 ∃ b15 : Bool,
 v11 = .tuple ⟨[.agg ⟨[s13.v]⟩, s14.v, .bool b15]⟩ ∧
 callN Tryz.prog W0 M 20 [a3.v, .int .i64 100] W12 fun v16 W17 =>
 ∃ s18 : Sl,
 ∃ s19 : Sl,
 ∃ b20 : Bool,
 v16 = .tuple ⟨[.agg ⟨[s18.v]⟩, s19.v, .bool b20]⟩ ∧
 ((!b5) = true → callN Tryz.prog W0 M 15 [] W17 fun v21 W22 => ∃ b23 : Bool, v21 = .bool b23 ∧ ∀ (W24 : PW), Ext W22 W24 → Post (.bool b23) W24) ∧
 ((!b5) = false →
 ((!b10) = true → callN Tryz.prog W0 M 15 [] W17 fun v25 W26 => ∃ b27 : Bool, v25 = .bool b27 ∧ ∀ (W28 : PW), Ext W26 W28 → Post (.bool b27) W28) ∧
 ((!b10) = false →
 ((!b15) = true → callN Tryz.prog W0 M 15 [] W17 fun v29 W30 => ∃ b31 : Bool, v29 = .bool b31 ∧ ∀ (W32 : PW), Ext W30 W32 → Post (.bool b31) W32) ∧
 ((!b15) = false →
 ((!b20) = true → callN Tryz.prog W0 M 15 [] W17 fun v33 W34 => ∃ b35 : Bool, v33 = .bool b35 ∧ ∀ (W36 : PW), Ext W34 W36 → Post (.bool b35) W36) ∧
 ((!b20) = false →
 (6 < (a0.2 : Int) → callN Tryz.prog W0 M 15 [] W17 fun v37 W38 => ∃ b39 : Bool, v37 = .bool b39 ∧ ∀ (W40 : PW), Ext W38 W40 → Post (.bool b39) W40) ∧
 (¬6 < (a0.2 : Int) →
 I64 ((a1.2 : Int) + (a2.2 : Int)) ∧
 I64 ((a1.2 : Int) + (a2.2 : Int) + (a3.2 : Int)) ∧
 (10 < (a1.2 : Int) + (a2.2 : Int) + (a3.2 : Int) → callN Tryz.prog W0 M 15 [] W17 fun v41 W42 => ∃ b43 : Bool, v41 = .bool b43 ∧ ∀ (W44 : PW), Ext W42 W44 → Post (.bool b43) W44) ∧
 (¬10 < (a1.2 : Int) + (a2.2 : Int) + (a3.2 : Int) →
 callN Tryz.prog W0 M 28 [s4.v] W17 fun v45 W46 =>
 ∃ i47 : Int,
 v45 = .int .i64 i47 ∧
 (5 < i47 → callN Tryz.prog W0 M 15 [] W46 fun v48 W49 => ∃ b50 : Bool, v48 = .bool b50 ∧ ∀ (W51 : PW), Ext W49 W51 → Post (.bool b50) W51) ∧
 (¬5 < i47 →
 callN Tryz.prog W0 M 15 [] W46 fun v52 W53 =>
 ∃ b54 : Bool,
 v52 = .bool b54 ∧
 ((!b54) = true → callN Tryz.prog W0 M 15 [] W53 fun v55 W56 => ∃ b57 : Bool, v55 = .bool b57 ∧ ∀ (W58 : PW), Ext W56 W58 → Post (.bool b57) W58) ∧
 ((!b54) = false →
 callN Tryz.prog W0 M 29 [.agg ⟨[s3.v]⟩, .agg ⟨[s8.v, s13.v, s18.v]⟩] W53 fun v59 W60 =>
 ∃ s61 : Sl,
 ∃ b62 : Bool,
 v59 = .tuple ⟨[.agg ⟨[s61.v]⟩, .bool b62]⟩ ∧
 callN Tryz.prog W0 M 30 [s4.v, .agg ⟨[s9.v, s14.v, s19.v]⟩] W60 fun v63 W64 =>
 ∃ s65 : Sl,
 ∃ b66 : Bool,
 v63 = .tuple ⟨[s65.v, .bool b66]⟩ ∧
 (b62 = b66 → callN Tryz.prog W0 M 17 [.agg ⟨[s61.v]⟩, s65.v] W64 fun v67 W68 => ∃ b69 : Bool, v67 = .bool b69 ∧ ∀ (W70 : PW), Ext W68 W70 → Post (.bool b69) W70) ∧
 (¬b62 = b66 → ∀ (W71 : PW), Ext W64 W71 → Post (.bool false) W71)))))))))
theorem calllaw8_PolyComposes (W0 : PW) (M : Nat → Prop) (a0 : Sl) (a1 : Sl) (a2 : Sl) (a3 : Sl) (Post : Value → PW → Prop) (h : Rlaw8_PolyComposes W0 M a0 a1 a2 a3 Post) : PCallsM Tryz.prog 7 [a0.v, a1.v, a2.v, a3.v] W0 M Post :=
  fn_sound rfl tt_ok tt_in Tryz.func7 (cuts := []) rfl rfl (Nat.le_of_ble_eq_true rfl) (Eq.mpr (by kernel_rfl) h)
end Go.Proofs.YtbingbjhgoanoaaGreat
