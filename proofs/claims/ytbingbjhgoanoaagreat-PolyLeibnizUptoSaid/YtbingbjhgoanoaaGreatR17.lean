/- R17 -/
import Derived.Test.YtbingbjhgoanoaaGreatTt
set_option linter.unusedVariables false
set_option linter.unusedSimpArgs false
set_option maxRecDepth 100000
set_option linter.unusedVariables false
namespace Go.Proofs.YtbingbjhgoanoaaGreat
open Go Go.SX
def Rlaw8_PolyLeibniz (W0 : PW) (M : Nat → Prop) (a0 : Sl) (a1 : Sl) (a2 : Int) (a3 : Int) (Post : Value → PW → Prop) : Prop :=
 callN Tryz.prog W0 M 20 [a0.v, .int .i64 20] W0 fun v1 W2 =>
 ∃ s3 : Sl,
 ∃ s4 : Sl,
 ∃ b5 : Bool,
 v1 = .tuple ⟨[.agg ⟨[s3.v]⟩, s4.v, .bool b5]⟩ ∧
 callN Tryz.prog W0 M 20 [a1.v, .int .i64 20] W2 fun v6 W7 =>
 ∃ s8 : Sl,
 ∃ s9 : Sl,
 ∃ b10 : Bool,
 v6 = .tuple ⟨[.agg ⟨[s8.v]⟩, s9.v, .bool b10]⟩ ∧
 ((!b5) = true → callN Tryz.prog W0 M 15 [] W7 fun v11 W12 => ∃ b13 : Bool, v11 = .bool b13 ∧ ∀ (W14 : PW), Ext W12 W14 → Post (.bool b13) W14) ∧
 ((!b5) = false →
 ((!b10) = true → callN Tryz.prog W0 M 15 [] W7 fun v15 W16 => ∃ b17 : Bool, v15 = .bool b17 ∧ ∀ (W18 : PW), Ext W16 W18 → Post (.bool b17) W18) ∧
 ((!b10) = false →
 callN Tryz.prog W0 M 15 [] W7 fun v19 W20 =>
 ∃ b21 : Bool,
 v19 = .bool b21 ∧
 ((!b21) = true → callN Tryz.prog W0 M 15 [] W20 fun v22 W23 => ∃ b24 : Bool, v22 = .bool b24 ∧ ∀ (W25 : PW), Ext W23 W25 → Post (.bool b24) W25) ∧
 ((!b21) = false →
 callN Tryz.prog W0 M 50 [.int .i64 a2, .int .i64 0, .int .i64 2] W20 fun v26 W27 =>
 ∃ i28 : Int,
 v26 = .int .i64 i28 ∧
 callN Tryz.prog W0 M 50 [.int .i64 a3, .int .i64 0, .int .i64 2] W27 fun v29 W30 =>
 ∃ i31 : Int,
 v29 = .int .i64 i31 ∧
 callN Tryz.prog W0 M 21 [.agg ⟨[s3.v]⟩, .agg ⟨[s8.v]⟩] W30 fun v32 W33 =>
 ∃ s34 : Sl,
 ∃ b35 : Bool,
 v32 = .tuple ⟨[.agg ⟨[s34.v]⟩, .bool b35]⟩ ∧
 callN Tryz.prog W0 M 26 [.agg ⟨[s3.v]⟩, .int .i64 i28] W33 fun v36 W37 =>
 ∃ s38 : Sl,
 v36 = .agg ⟨[s38.v]⟩ ∧
 callN Tryz.prog W0 M 21 [.agg ⟨[s38.v]⟩, .agg ⟨[s8.v]⟩] W37 fun v39 W40 =>
 ∃ s41 : Sl,
 ∃ b42 : Bool,
 v39 = .tuple ⟨[.agg ⟨[s41.v]⟩, .bool b42]⟩ ∧
 callN Tryz.prog W0 M 26 [.agg ⟨[s8.v]⟩, .int .i64 i28] W40 fun v43 W44 =>
 ∃ s45 : Sl,
 v43 = .agg ⟨[s45.v]⟩ ∧
 callN Tryz.prog W0 M 21 [.agg ⟨[s3.v]⟩, .agg ⟨[s45.v]⟩] W44 fun v46 W47 =>
 ∃ s48 : Sl,
 ∃ b49 : Bool,
 v46 = .tuple ⟨[.agg ⟨[s48.v]⟩, .bool b49]⟩ ∧
 (b35 = true →
 (b42 = true →
 (b49 = true →
 callN Tryz.prog W0 M 26 [.agg ⟨[s34.v]⟩, .int .i64 i28] W47 fun v50 W51 =>
 ∃ s52 : Sl,
 v50 = .agg ⟨[s52.v]⟩ ∧
 callN Tryz.prog W0 M 31 [.agg ⟨[s41.v]⟩, .agg ⟨[s48.v]⟩] W51 fun v53 W54 =>
 ∃ s55 : Sl,
 v53 = .agg ⟨[s55.v]⟩ ∧
 callN Tryz.prog W0 M 37 [.agg ⟨[s52.v]⟩, .agg ⟨[s55.v]⟩] W54 fun v56 W57 =>
 ∃ b58 : Bool,
 v56 = .bool b58 ∧
 (b58 = true →
 callN Tryz.prog W0 M 26 [.agg ⟨[s3.v]⟩, .int .i64 i28] W57 fun v59 W60 =>
 ∃ s61 : Sl,
 v59 = .agg ⟨[s61.v]⟩ ∧
 callN Tryz.prog W0 M 26 [.agg ⟨[s61.v]⟩, .int .i64 i31] W60 fun v62 W63 =>
 ∃ s64 : Sl,
 v62 = .agg ⟨[s64.v]⟩ ∧
 callN Tryz.prog W0 M 26 [.agg ⟨[s3.v]⟩, .int .i64 i31] W63 fun v65 W66 =>
 ∃ s67 : Sl,
 v65 = .agg ⟨[s67.v]⟩ ∧
 callN Tryz.prog W0 M 26 [.agg ⟨[s67.v]⟩, .int .i64 i28] W66 fun v68 W69 =>
 ∃ s70 : Sl,
 v68 = .agg ⟨[s70.v]⟩ ∧
 callN Tryz.prog W0 M 37 [.agg ⟨[s64.v]⟩, .agg ⟨[s70.v]⟩] W69 fun v71 W72 =>
 ∃ b73 : Bool, v71 = .bool b73 ∧ ∀ (W74 : PW), Ext W72 W74 → Post (.bool b73) W74) ∧
 (b58 = false → ∀ (W75 : PW), Ext W57 W75 → Post (.bool false) W75)) ∧
 (b49 = false → ∀ (W76 : PW), Ext W47 W76 → Post (.bool false) W76)) ∧
 (b42 = false → ∀ (W77 : PW), Ext W47 W77 → Post (.bool false) W77)) ∧
 (b35 = false → ∀ (W78 : PW), Ext W47 W78 → Post (.bool false) W78))))
theorem calllaw8_PolyLeibniz (W0 : PW) (M : Nat → Prop) (a0 : Sl) (a1 : Sl) (a2 : Int) (a3 : Int) (Post : Value → PW → Prop) (h : Rlaw8_PolyLeibniz W0 M a0 a1 a2 a3 Post) : PCallsM Tryz.prog 12 [a0.v, a1.v, .int .i64 a2, .int .i64 a3] W0 M Post :=
  fn_sound rfl tt_ok tt_in Tryz.func12 (cuts := []) rfl rfl (Nat.le_of_ble_eq_true rfl) (Eq.mpr (by kernel_rfl) h)
end Go.Proofs.YtbingbjhgoanoaaGreat
