/- R15 -/
import Derived.Test.YtbingbjhgoanoaaGreatTt
set_option linter.unusedVariables false
set_option linter.unusedSimpArgs false
set_option maxRecDepth 100000
set_option linter.unusedVariables false
namespace Go.Proofs.YtbingbjhgoanoaaGreat
open Go Go.SX
def Rlaw8_PolyOwn (W0 : PW) (M : Nat → Prop) (a0 : Sl) (a1 : ByteArray) (Post : Value → PW → Prop) : Prop :=
 callN Tryz.prog W0 M 20 [a0.v, .int .i64 255] W0 fun v1 W2 =>
 ∃ s3 : Sl,
 ∃ s4 : Sl,
 ∃ b5 : Bool,
 v1 = .tuple ⟨[.agg ⟨[s3.v]⟩, s4.v, .bool b5]⟩ ∧
 callN Tryz.prog W0 M 16 [.string a1] W2 fun v6 W7 =>
 ∃ s8 : Sl,
 ∃ b9 : Bool,
 ∃ s10 : Sl,
 ∃ b11 : Bool,
 ∃ s12 : Sl,
 ∃ s13 : Sl,
 ∃ b14 : Bool,
 v6 = .tuple ⟨[.agg ⟨[s8.v, .bool b9, s10.v]⟩, .agg ⟨[.bool b11, s12.v, s13.v]⟩, .bool b14]⟩ ∧
 ((!b5) = true → callN Tryz.prog W0 M 15 [] W7 fun v15 W16 => ∃ b17 : Bool, v15 = .bool b17 ∧ ∀ (W18 : PW), Ext W16 W18 → Post (.bool b17) W18) ∧
 ((!b5) = false →
 ((!b14) = true → callN Tryz.prog W0 M 15 [] W7 fun v19 W20 => ∃ b21 : Bool, v19 = .bool b21 ∧ ∀ (W22 : PW), Ext W20 W22 → Post (.bool b21) W22) ∧
 ((!b14) = false →
 callN Tryz.prog W0 M 15 [] W7 fun v23 W24 =>
 ∃ b25 : Bool,
 v23 = .bool b25 ∧
 ((!b25) = true → callN Tryz.prog W0 M 15 [] W24 fun v26 W27 => ∃ b28 : Bool, v26 = .bool b28 ∧ ∀ (W29 : PW), Ext W27 W29 → Post (.bool b28) W29) ∧
 ((!b25) = false →
 callN Tryz.prog W0 M 23 [.agg ⟨[s3.v]⟩] W24 fun v30 W31 =>
 ∃ s32 : Sl,
 v30 = s32.v ∧
 callN Tryz.prog W0 M 18 [s32.v] W31 fun v33 W34 =>
 ∃ s35 : Sl,
 v33 = .agg ⟨[s35.v]⟩ ∧
 callN Tryz.prog W0 M 24 [.agg ⟨[s3.v]⟩] W34 fun v36 W37 =>
 ∃ s38 : Sl,
 v36 = s38.v ∧
 ∃ (F39 : List PL → PW → Prop),
 ∃ (F40 : List PL → PW → Nat),
 F39 [.val (.int .i64 0)] W37 ∧
 ∀ (i41 : Int) (W42 : PW),
 F39 [.val (.int .i64 i41)] W42 →
 (i41 < (s32.2 : Int) →
 inB s32 i41 ∧
 storeN W0 M s32 (Int.toNat i41 * 6 + 3) [s8.v, .bool b9, s10.v] W42 fun (W43 : PW) =>
 inB s32 i41 ∧
 storeN W0 M s32 (Int.toNat i41 * 6 + 0) [.int .u8 7, .int .u8 7, .int .u8 7] W43 fun (W44 : PW) =>
 I64 (i41 + 1) ∧ stp F39 F40 [.val (.int .i64 (i41 + 1))] W44 [.val (.int .i64 i41)] W42) ∧
 (¬i41 < (s32.2 : Int) →
 ∃ (F45 : List PL → PW → Prop),
 ∃ (F46 : List PL → PW → Nat),
 F45 [.val (.int .i64 0)] W42 ∧
 ∀ (i47 : Int) (W48 : PW),
 F45 [.val (.int .i64 i47)] W48 →
 (i47 < (s38.2 : Int) →
 inB s38 i47 ∧
 storeN W0 M s38 (Int.toNat i47 * 4 + 3) [.string (ByteArray.mk #[110, 111, 110, 101])] W48 fun (W49 : PW) =>
 I64 (i47 + 1) ∧ stp F45 F46 [.val (.int .i64 (i47 + 1))] W49 [.val (.int .i64 i47)] W48) ∧
 (¬i47 < (s38.2 : Int) →
 ∃ (l50 : List (List Value)),
 RowA W48 4 a0 l50 ∧
 List.length l50 * 24 ≤ 140737488355328 ∧
 ∀ (s51 : Sl) (W52 : PW),
 Ext W48 W52 →
 SX.Own W52 43 4 s51 l50 →
 Fr W0 W48 s51 →
 callN Tryz.prog W0 M 25 [s51.v] W52 fun v53 W54 =>
 ∃ s55 : Sl,
 ∃ i56 : Int,
 v53 = .tuple ⟨[.agg ⟨[s55.v]⟩, .int .i64 i56]⟩ ∧
 ∃ (F57 : List PL → PW → Prop),
 ∃ (F58 : List PL → PW → Nat),
 F57 [.val (.int .i64 0)] W54 ∧
 ∀ (i59 : Int) (W60 : PW),
 F57 [.val (.int .i64 i59)] W60 →
 (i59 < (s51.2 : Int) →
 inB s51 i59 ∧
 storeN W0 M s51 (Int.toNat i59 * 4 + 3) [.string (ByteArray.mk #[120])] W60 fun (W61 : PW) =>
 I64 (i59 + 1) ∧ stp F57 F58 [.val (.int .i64 (i59 + 1))] W61 [.val (.int .i64 i59)] W60) ∧
 (¬i59 < (s51.2 : Int) →
 (i56 = 0 →
 callN Tryz.prog W0 M 17 [.agg ⟨[s3.v]⟩, s4.v] W60 fun v62 W63 =>
 ∃ b64 : Bool,
 v62 = .bool b64 ∧
 (b64 = true →
 callN Tryz.prog W0 M 17 [.agg ⟨[s35.v]⟩, s4.v] W63 fun v65 W66 =>
 ∃ b67 : Bool,
 v65 = .bool b67 ∧
 (b67 = true →
 callN Tryz.prog W0 M 17 [.agg ⟨[s55.v]⟩, s4.v] W66 fun v68 W69 =>
 ∃ b70 : Bool, v68 = .bool b70 ∧ ∀ (W71 : PW), Ext W69 W71 → Post (.bool b70) W71) ∧
 (b67 = false → ∀ (W72 : PW), Ext W66 W72 → Post (.bool false) W72)) ∧
 (b64 = false → ∀ (W73 : PW), Ext W63 W73 → Post (.bool false) W73)) ∧
 (¬i56 = 0 → ∀ (W74 : PW), Ext W60 W74 → Post (.bool false) W74)))))))
theorem calllaw8_PolyOwn (W0 : PW) (M : Nat → Prop) (a0 : Sl) (a1 : ByteArray) (Post : Value → PW → Prop) (h : Rlaw8_PolyOwn W0 M a0 a1 Post) : PCallsM Tryz.prog 5 [a0.v, .string a1] W0 M Post :=
  fn_sound rfl tt_ok tt_in Tryz.func5 (cuts := []) rfl rfl (Nat.le_of_ble_eq_true rfl) (Eq.mpr (by kernel_rfl) h)
end Go.Proofs.YtbingbjhgoanoaaGreat
