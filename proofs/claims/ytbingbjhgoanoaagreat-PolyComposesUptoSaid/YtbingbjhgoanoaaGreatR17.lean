/- R17 -/
import Derived.Test.YtbingbjhgoanoaaGreatTt
set_option linter.unusedVariables false
set_option linter.unusedSimpArgs false
set_option maxRecDepth 100000
set_option linter.unusedVariables false
namespace Go.Proofs.YtbingbjhgoanoaaGreat
open Go Go.SX
 callN Tryz.prog W0 M 76 [a0_0.v, a1_0.v, .func (Fn.func 77) ⟨[]⟩ ⟨[]⟩] W0 fun v1 W2 => ∃ b3 : Bool, v1 = .bool b3 ∧ ∀ (W4 : PW), Ext W2 W4 → Post (.bool b3) W4
 ([Value.int .u8 a0_0, Value.int .u8 a0_1, Value.int .u8 a0_2] = [Value.int .u8 a1_0, Value.int .u8 a1_1, Value.int .u8 a1_2] →
 callN Tryz.prog W0 M 55 [Value.agg ⟨[a0_3.v, Value.bool a0_4, a0_5.v]⟩, Value.agg ⟨[a1_3.v, Value.bool a1_4, a1_5.v]⟩] W0 fun v1 W2 =>
 ∃ i3 : Int, v1 = Value.int .i64 i3 ∧ ∀ (W4 : PW), Ext W2 W4 → Post (Value.bool (decide (i3 = 0))) W4) ∧
 (¬[Value.int .u8 a0_0, Value.int .u8 a0_1, Value.int .u8 a0_2] = [Value.int .u8 a1_0, Value.int .u8 a1_1, Value.int .u8 a1_2] → ∀ (W5 : PW), Ext W0 W5 → Post (Value.bool false) W5)
 ((a0.2 : Int) ≠ (a1.2 : Int) → ∀ (W1 : PW), Ext W0 W1 → Post (.bool false) W1) ∧
 (¬(a0.2 : Int) ≠ (a1.2 : Int) →
 ∃ (F2 : List PL → PW → Prop),
 ∃ (F3 : List PL → PW → Nat),
 F2 [.val (.int .i64 0)] W0 ∧
 ∀ (i4 : Int) (W5 : PW),
 F2 [.val (.int .i64 i4)] W5 →
 (i4 < (a0.2 : Int) →
 inB a0 i4 ∧
 ∃ i6 : Int,
 ∃ i7 : Int,
 ∃ i8 : Int,
 ∃ s9 : Sl,
 ∃ b10 : Bool,
 ∃ s11 : Sl,
 ElemAt W5 a0 6 (Int.toNat i4) 0 [.int .u8 i6, .int .u8 i7, .int .u8 i8, s9.v, .bool b10, s11.v] ∧
 inB a1 i4 ∧
 ∃ i12 : Int,
 ∃ i13 : Int,
 ∃ i14 : Int,
 ∃ s15 : Sl,
 ∃ b16 : Bool,
 ∃ s17 : Sl,
 ElemAt W5 a1 6 (Int.toNat i4) 0 [.int .u8 i12, .int .u8 i13, .int .u8 i14, s15.v, .bool b16, s17.v] ∧
 callN Tryz.prog W0 M 77
 [.agg ⟨[.int .u8 i6, .int .u8 i7, .int .u8 i8, s9.v, .bool b10, s11.v]⟩, .agg ⟨[.int .u8 i12, .int .u8 i13, .int .u8 i14, s15.v, .bool b16, s17.v]⟩]
 W5 fun v18 W19 =>
 ∃ b20 : Bool, v18 = .bool b20 ∧ ((!b20) = true → ∀ (W21 : PW), Ext W19 W21 → Post (.bool false) W21) ∧ ((!b20) = false → I64 (i4 + 1) ∧ stp F2 F3 [.val (.int .i64 (i4 + 1))] W19 [.val (.int .i64 i4)] W5)) ∧
 (¬i4 < (a0.2 : Int) → ∀ (W22 : PW), Ext W5 W22 → Post (.bool true) W22))
 callN Tryz.prog W0 M 20 [a0.v, .int .i64 20] W0 fun v1 W2 =>
 ∃ s3 : Sl,
 ∃ s4 : Sl,
 ∃ b5 : Bool,
 v1 = .tuple ⟨[.agg ⟨[s3.v]⟩, s4.v, .bool b5]⟩ ∧
 callN Tryz.prog W0 M 20 [a1.v, .int .i64 20] W2 fun v6 W7 =>
 ∃ s8 : Sl,
 ∃ s9 : Sl,
 ∃ b10 : Bool,
 v6 = .tuple ⟨[.agg ⟨[s8.v]⟩, s9.v, .bool b10]⟩ ∧
 callN Tryz.prog W0 M 20 [a2.v, .int .i64 20] W7 fun v11 W12 =>
 ∃ s13 : Sl,
 ∃ s14 : Sl,
 ∃ b15 : Bool,
 v11 = .tuple ⟨[.agg ⟨[s13.v]⟩, s14.v, .bool b15]⟩ ∧
 ((!b5) = true → callN Tryz.prog W0 M 15 [] W12 fun v16 W17 => ∃ b18 : Bool, v16 = .bool b18 ∧ ∀ (W19 : PW), Ext W17 W19 → Post (.bool b18) W19) ∧
 ((!b5) = false →
 ((!b10) = true → callN Tryz.prog W0 M 15 [] W12 fun v20 W21 => ∃ b22 : Bool, v20 = .bool b22 ∧ ∀ (W23 : PW), Ext W21 W23 → Post (.bool b22) W23) ∧
 ((!b10) = false →
 ((!b15) = true → callN Tryz.prog W0 M 15 [] W12 fun v24 W25 => ∃ b26 : Bool, v24 = .bool b26 ∧ ∀ (W27 : PW), Ext W25 W27 → Post (.bool b26) W27) ∧
 ((!b15) = false →
 callN Tryz.prog W0 M 15 [] W12 fun v28 W29 =>
 ∃ b30 : Bool,
 v28 = .bool b30 ∧
 ((!b30) = true → callN Tryz.prog W0 M 15 [] W29 fun v31 W32 => ∃ b33 : Bool, v31 = .bool b33 ∧ ∀ (W34 : PW), Ext W32 W34 → Post (.bool b33) W34) ∧
 ((!b30) = false →
 callN Tryz.prog W0 M 31 [.agg ⟨[s3.v]⟩, .agg ⟨[s8.v]⟩] W29 fun v35 W36 =>
 ∃ s37 : Sl,
 v35 = .agg ⟨[s37.v]⟩ ∧
 callN Tryz.prog W0 M 21 [.agg ⟨[s37.v]⟩, .agg ⟨[s13.v]⟩] W36 fun v38 W39 =>
 ∃ s40 : Sl,
 ∃ b41 : Bool,
 v38 = .tuple ⟨[.agg ⟨[s40.v]⟩, .bool b41]⟩ ∧
 callN Tryz.prog W0 M 21 [.agg ⟨[s13.v]⟩, .agg ⟨[s3.v]⟩] W39 fun v42 W43 =>
 ∃ s44 : Sl,
 ∃ b45 : Bool,
 v42 = .tuple ⟨[.agg ⟨[s44.v]⟩, .bool b45]⟩ ∧
 callN Tryz.prog W0 M 21 [.agg ⟨[s13.v]⟩, .agg ⟨[s8.v]⟩] W43 fun v46 W47 =>
 ∃ s48 : Sl,
 ∃ b49 : Bool,
 v46 = .tuple ⟨[.agg ⟨[s48.v]⟩, .bool b49]⟩ ∧
 (b41 = true →
 (b45 = true →
 (b49 = true →
 callN Tryz.prog W0 M 31 [.agg ⟨[s44.v]⟩, .agg ⟨[s48.v]⟩] W47 fun v50 W51 =>
 ∃ s52 : Sl,
 v50 = .agg ⟨[s52.v]⟩ ∧
 callN Tryz.prog W0 M 37 [.agg ⟨[s40.v]⟩, .agg ⟨[s52.v]⟩] W51 fun v53 W54 =>
 ∃ b55 : Bool,
 v53 = .bool b55 ∧
 (b55 = true →
 callN Tryz.prog W0 M 31 [.agg ⟨[s3.v]⟩, .agg ⟨[s8.v]⟩] W54 fun v56 W57 =>
 ∃ s58 : Sl,
 v56 = .agg ⟨[s58.v]⟩ ∧
 callN Tryz.prog W0 M 31 [.agg ⟨[s8.v]⟩, .agg ⟨[s3.v]⟩] W57 fun v59 W60 =>
 ∃ s61 : Sl,
 v59 = .agg ⟨[s61.v]⟩ ∧
 callN Tryz.prog W0 M 37 [.agg ⟨[s58.v]⟩, .agg ⟨[s61.v]⟩] W60 fun v62 W63 =>
 ∃ b64 : Bool,
 v62 = .bool b64 ∧
 (b64 = true →
 callN Tryz.prog W0 M 33 [.agg ⟨[s3.v]⟩, .agg ⟨[s3.v]⟩] W63 fun v65 W66 =>
 ∃ s67 : Sl,
 v65 = .agg ⟨[s67.v]⟩ ∧
 callN Tryz.prog W0 M 23 [.agg ⟨[s67.v]⟩] W66 fun v68 W69 =>
 ∃ s70 : Sl, v68 = s70.v ∧ ∀ (W71 : PW), Ext W69 W71 → Post (.bool (decide ((s70.2 : Int) = 0))) W71) ∧
 (b64 = false → ∀ (W72 : PW), Ext W63 W72 → Post (.bool false) W72)) ∧
 (b55 = false → ∀ (W73 : PW), Ext W54 W73 → Post (.bool false) W73)) ∧
 (b49 = false → ∀ (W74 : PW), Ext W47 W74 → Post (.bool false) W74)) ∧
 (b45 = false → ∀ (W75 : PW), Ext W47 W75 → Post (.bool false) W75)) ∧
 (b41 = false → ∀ (W76 : PW), Ext W47 W76 → Post (.bool false) W76)))))
end Go.Proofs.YtbingbjhgoanoaaGreat
