/- R8 -/
import Derived.Test.YtcffcndpefaalaaGreatTt
set_option linter.unusedVariables false
set_option linter.unusedSimpArgs false
set_option maxRecDepth 100000
set_option linter.unusedVariables false
namespace Go.Proofs.YtcffcndpefaalaaGreat
open Go Go.SX
def Rldl_Of (W0 : PW) (M : Nat → Prop) (a0 : Sl) (Post : Value → PW → Prop) : Prop :=
 callN Tryz.prog W0 M 16 [a0.v] W0 fun v1 W2 =>
 ∃ b3 : Bool,
 v1 = .bool b3 ∧
 ((!b3) = true → ∀ (W4 : PW), Ext W2 W4 → Post (.tuple ⟨[.slice none 0 0, .slice none 0 0, .bool false]⟩) W4) ∧
 ((!b3) = false →
 (callN Tryz.prog W0 M 17 [.int .i64 (a0.2 : Int)] W2 fun v5 W6 =>
 ∃ s7 : Sl,
 v5 = s7.v ∧
 ((a0.2 : Int) = (a0.2 : Int) ∧ 0 ≤ (a0.2 : Int) ∧ (a0.2 : Int) * (↑(56 : Nat) : Int) ≤ 281474976710656) ∧
 ∀ (s8 : Sl) (W9 : PW),
 Ext W6 W9 →
 SX.Own W9 52 3 s8 (List.replicate (Int.toNat (a0.2 : Int)) [.slice none 0 0, .bool false, .slice none 0 0]) →
 Fr W0 W6 s8 →
 ∃ (F10 : List PL → PW → Prop),
 ∃ (F11 : List PL → PW → Nat),
 F10 [.val (.int .i64 0)] W9 ∧
 ∀ (i12 : Int) (W13 : PW),
 F10 [.val (.int .i64 i12)] W13 →
 (i12 < (a0.2 : Int) →
 callN Tryz.prog W0 M 18 [a0.v, s7.v, s8.v, .int .i64 i12, .int .i64 i12] W13 fun v14 W15 =>
 ∃ s16 : Sl,
 ∃ b17 : Bool,
 ∃ s18 : Sl,
 v14 = .agg ⟨[s16.v, .bool b17, s18.v]⟩ ∧
 inB s8 i12 ∧
 storeN W0 M s8 (Int.toNat i12 * 3 + 0) [s16.v, .bool b17, s18.v] W15 fun (W19 : PW) =>
 I64 (i12 + 1) ∧
 ∃ (F20 : List PL → PW → Prop),
 ∃ (F21 : List PL → PW → Nat),
 F20 [.val (.int .i64 (i12 + 1))] W19 ∧
 ∀ (i22 : Int) (W23 : PW),
 F20 [.val (.int .i64 i22)] W23 →
 (i22 < (a0.2 : Int) →
 callN Tryz.prog W0 M 18 [a0.v, s7.v, s8.v, .int .i64 i22, .int .i64 i12] W23 fun v24 W25 =>
 ∃ s26 : Sl,
 ∃ b27 : Bool,
 ∃ s28 : Sl,
 v24 = .agg ⟨[s26.v, .bool b27, s28.v]⟩ ∧
 inB s8 i12 ∧
 ∃ s29 : Sl,
 ∃ b30 : Bool,
 ∃ s31 : Sl,
 ElemAt W25 s8 3 (Int.toNat i12) 0 [s29.v, .bool b30, s31.v] ∧
 (callN Tryz.prog W0 M 19 [.agg ⟨[s26.v, .bool b27, s28.v]⟩, .agg ⟨[s29.v, .bool b30, s31.v]⟩] W25 fun v32 W33 =>
 ∃ s34 : Sl,
 ∃ b35 : Bool,
 ∃ s36 : Sl,
 ∃ b37 : Bool,
 v32 = .tuple ⟨[.agg ⟨[s34.v, .bool b35, s36.v]⟩, .bool b37]⟩ ∧
 ∃ (F38 : List PL → PW → Prop),
 (((!b37) = true →
 callN Tryz.prog W0 M 20 [.agg ⟨[s26.v, .bool b27, s28.v]⟩] W33 fun v39 W40 =>
 ∃ i41 : Int,
 v39 = .int .i64 i41 ∧
 (i41 ≠ 0 → ∀ (W42 : PW), Ext W40 W42 → Post (.tuple ⟨[.slice none 0 0, .slice none 0 0, .bool false]⟩) W42) ∧
 (¬i41 ≠ 0 → F38 [.val (.bool b37), .val (.bool true)] W40)) ∧
 ((!b37) = false → F38 [.val (.bool b37), .val (.bool false)] W33)) ∧
 ∀ (b43 b44 : Bool) (W45 : PW),
 F38 [.val (.bool b43), .val (.bool b44)] W45 →
 inB s7 i22 ∧
 ∃ s46 : Sl,
 ElemAt W45 s7 1 (Int.toNat i22) 0 [s46.v] ∧
 inB s46 i12 ∧
 storeN W0 M s46 (Int.toNat i12 * 3 + 0) [s34.v, .bool b35, s36.v] W45 fun (W47 : PW) =>
 I64 (i22 + 1) ∧ stp F20 F21 [.val (.int .i64 (i22 + 1))] W47 [.val (.int .i64 i22)] W23) ∧
 Ext W25 W25 ∧
 callN Tryz.prog W0 M 19 [.agg ⟨[s26.v, .bool b27, s28.v]⟩, .agg ⟨[s29.v, .bool b30, s31.v]⟩] W25 fun v48 W49 =>
 ∃ s50 : Sl,
 ∃ b51 : Bool,
 ∃ s52 : Sl,
 ∃ b53 : Bool,
 v48 = .tuple ⟨[.agg ⟨[s50.v, .bool b51, s52.v]⟩, .bool b53]⟩ ∧
 ∃ (F54 : List PL → PW → Prop),
 (((!b53) = true →
 callN Tryz.prog W0 M 20 [.agg ⟨[s26.v, .bool b27, s28.v]⟩] W49 fun v55 W56 =>
 ∃ i57 : Int,
 v55 = .int .i64 i57 ∧
 (i57 ≠ 0 → ∀ (W58 : PW), Ext W56 W58 → Post (.tuple ⟨[.slice none 0 0, .slice none 0 0, .bool false]⟩) W58) ∧
 (¬i57 ≠ 0 → F54 [.val (.bool b53), .val (.bool true)] W56)) ∧
 ((!b53) = false → F54 [.val (.bool b53), .val (.bool false)] W49)) ∧
 ∀ (b59 b60 : Bool) (W61 : PW),
 F54 [.val (.bool b59), .val (.bool b60)] W61 →
 inB s7 i22 ∧
 ∃ s62 : Sl,
 ElemAt W61 s7 1 (Int.toNat i22) 0 [s62.v] ∧
 inB s62 i12 ∧
 storeN W0 M s62 (Int.toNat i12 * 3 + 0) [s50.v, .bool b51, s52.v] W61 fun (W63 : PW) =>
 I64 (i22 + 1) ∧ stp F20 F21 [.val (.int .i64 (i22 + 1))] W63 [.val (.int .i64 i22)] W23) ∧
 (¬i22 < (a0.2 : Int) → I64 (i12 + 1) ∧ stp F10 F11 [.val (.int .i64 (i12 + 1))] W23 [.val (.int .i64 i12)] W13)) ∧
 (¬i12 < (a0.2 : Int) → ∀ (W64 : PW), Ext W13 W64 → Post (.tuple ⟨[s7.v, s8.v, .bool true]⟩) W64)) ∧
 ((a0.2 : Int) = (a0.2 : Int) ∧ 0 ≤ (a0.2 : Int) ∧ (a0.2 : Int) * (↑(56 : Nat) : Int) ≤ 281474976710656) ∧
 callN Tryz.prog W0 M 17 [.int .i64 (a0.2 : Int)] W2 fun v65 W66 =>
 ∃ s67 : Sl,
 v65 = s67.v ∧
 ∀ (s68 : Sl) (W69 : PW),
 Ext W66 W69 →
 SX.Own W69 52 3 s68 (List.replicate (Int.toNat (a0.2 : Int)) [.slice none 0 0, .bool false, .slice none 0 0]) →
 Fr W0 W66 s68 →
 ∃ (F70 : List PL → PW → Prop),
 ∃ (F71 : List PL → PW → Nat),
 F70 [.val (.int .i64 0)] W69 ∧
 ∀ (i72 : Int) (W73 : PW),
 F70 [.val (.int .i64 i72)] W73 →
 (i72 < (a0.2 : Int) →
 callN Tryz.prog W0 M 18 [a0.v, s67.v, s68.v, .int .i64 i72, .int .i64 i72] W73 fun v74 W75 =>
 ∃ s76 : Sl,
 ∃ b77 : Bool,
 ∃ s78 : Sl,
 v74 = .agg ⟨[s76.v, .bool b77, s78.v]⟩ ∧
 inB s68 i72 ∧
 storeN W0 M s68 (Int.toNat i72 * 3 + 0) [s76.v, .bool b77, s78.v] W75 fun (W79 : PW) =>
 I64 (i72 + 1) ∧
 ∃ (F80 : List PL → PW → Prop),
 ∃ (F81 : List PL → PW → Nat),
 F80 [.val (.int .i64 (i72 + 1))] W79 ∧
 ∀ (i82 : Int) (W83 : PW),
 F80 [.val (.int .i64 i82)] W83 →
 (i82 < (a0.2 : Int) →
 callN Tryz.prog W0 M 18 [a0.v, s67.v, s68.v, .int .i64 i82, .int .i64 i72] W83 fun v84 W85 =>
 ∃ s86 : Sl,
 ∃ b87 : Bool,
 ∃ s88 : Sl,
 v84 = .agg ⟨[s86.v, .bool b87, s88.v]⟩ ∧
 inB s68 i72 ∧
 ∃ s89 : Sl,
 ∃ b90 : Bool,
 ∃ s91 : Sl,
 ElemAt W85 s68 3 (Int.toNat i72) 0 [s89.v, .bool b90, s91.v] ∧
 (callN Tryz.prog W0 M 19 [.agg ⟨[s86.v, .bool b87, s88.v]⟩, .agg ⟨[s89.v, .bool b90, s91.v]⟩] W85 fun v92 W93 =>
 ∃ s94 : Sl,
 ∃ b95 : Bool,
 ∃ s96 : Sl,
 ∃ b97 : Bool,
 v92 = .tuple ⟨[.agg ⟨[s94.v, .bool b95, s96.v]⟩, .bool b97]⟩ ∧
 ∃ (F98 : List PL → PW → Prop),
 (((!b97) = true →
 callN Tryz.prog W0 M 20 [.agg ⟨[s86.v, .bool b87, s88.v]⟩] W93 fun v99 W100 =>
 ∃ i101 : Int,
 v99 = .int .i64 i101 ∧
 (i101 ≠ 0 → ∀ (W102 : PW), Ext W100 W102 → Post (.tuple ⟨[.slice none 0 0, .slice none 0 0, .bool false]⟩) W102) ∧
 (¬i101 ≠ 0 → F98 [.val (.bool b97), .val (.bool true)] W100)) ∧
 ((!b97) = false → F98 [.val (.bool b97), .val (.bool false)] W93)) ∧
 ∀ (b103 b104 : Bool) (W105 : PW),
 F98 [.val (.bool b103), .val (.bool b104)] W105 →
 inB s67 i82 ∧
 ∃ s106 : Sl,
 ElemAt W105 s67 1 (Int.toNat i82) 0 [s106.v] ∧
 inB s106 i72 ∧
 storeN W0 M s106 (Int.toNat i72 * 3 + 0) [s94.v, .bool b95, s96.v] W105 fun (W107 : PW) =>
 I64 (i82 + 1) ∧ stp F80 F81 [.val (.int .i64 (i82 + 1))] W107 [.val (.int .i64 i82)] W83) ∧
 Ext W85 W85 ∧
 callN Tryz.prog W0 M 19 [.agg ⟨[s86.v, .bool b87, s88.v]⟩, .agg ⟨[s89.v, .bool b90, s91.v]⟩] W85 fun v108 W109 =>
 ∃ s110 : Sl,
 ∃ b111 : Bool,
 ∃ s112 : Sl,
 ∃ b113 : Bool,
 v108 = .tuple ⟨[.agg ⟨[s110.v, .bool b111, s112.v]⟩, .bool b113]⟩ ∧
 ∃ (F114 : List PL → PW → Prop),
 (((!b113) = true →
 callN Tryz.prog W0 M 20 [.agg ⟨[s86.v, .bool b87, s88.v]⟩] W109 fun v115 W116 =>
 ∃ i117 : Int,
 v115 = .int .i64 i117 ∧
 (i117 ≠ 0 → ∀ (W118 : PW), Ext W116 W118 → Post (.tuple ⟨[.slice none 0 0, .slice none 0 0, .bool false]⟩) W118) ∧
 (¬i117 ≠ 0 → F114 [.val (.bool b113), .val (.bool true)] W116)) ∧
 ((!b113) = false → F114 [.val (.bool b113), .val (.bool false)] W109)) ∧
 ∀ (b119 b120 : Bool) (W121 : PW),
 F114 [.val (.bool b119), .val (.bool b120)] W121 →
 inB s67 i82 ∧
 ∃ s122 : Sl,
 ElemAt W121 s67 1 (Int.toNat i82) 0 [s122.v] ∧
 inB s122 i72 ∧
 storeN W0 M s122 (Int.toNat i72 * 3 + 0) [s110.v, .bool b111, s112.v] W121 fun (W123 : PW) =>
 I64 (i82 + 1) ∧ stp F80 F81 [.val (.int .i64 (i82 + 1))] W123 [.val (.int .i64 i82)] W83) ∧
 (¬i82 < (a0.2 : Int) → I64 (i72 + 1) ∧ stp F70 F71 [.val (.int .i64 (i72 + 1))] W83 [.val (.int .i64 i72)] W73)) ∧
 (¬i72 < (a0.2 : Int) → ∀ (W124 : PW), Ext W73 W124 → Post (.tuple ⟨[s67.v, s68.v, .bool true]⟩) W124))
theorem callldl_Of (W0 : PW) (M : Nat → Prop) (a0 : Sl) (Post : Value → PW → Prop) (h : Rldl_Of W0 M a0 Post) : PCallsM Tryz.prog 7 [a0.v] W0 M Post :=
  fn_sound rfl tt_ok tt_in Tryz.func7 (cuts := [15, 1000005]) rfl rfl (Nat.le_of_ble_eq_true rfl) (Eq.mpr (by kernel_rfl) h)
end Go.Proofs.YtcffcndpefaalaaGreat
