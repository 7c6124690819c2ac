/- R22 -/
import Derived.Test.YtbingbjhgoanoaaGreatTt
set_option linter.unusedVariables false
set_option linter.unusedSimpArgs false
set_option maxRecDepth 100000
set_option linter.unusedVariables false
namespace Go.Proofs.YtbingbjhgoanoaaGreat
open Go Go.SX
def Rlaw8_PolyValues (W0 : PW) (M : Nat → Prop) (a0 : Sl) (a1 : Sl) (a2_0 : ByteArray) (a2_1 : ByteArray) (a2_2 : ByteArray) (Post : Value → PW → Prop) : Prop :=
 callN Tryz.prog W0 M 20 [a0.v, .int .i64 4] W0 fun v1 W2 =>
 ∃ s3 : Sl,
 ∃ s4 : Sl,
 ∃ b5 : Bool,
 v1 = .tuple ⟨[.agg ⟨[s3.v]⟩, s4.v, .bool b5]⟩ ∧
 callN Tryz.prog W0 M 20 [a1.v, .int .i64 4] W2 fun v6 W7 =>
 ∃ s8 : Sl,
 ∃ s9 : Sl,
 ∃ b10 : Bool,
 v6 = .tuple ⟨[.agg ⟨[s8.v]⟩, s9.v, .bool b10]⟩ ∧
 callN Tryz.prog W0 M 43 [.agg ⟨[.string a2_0, .string a2_1, .string a2_2]⟩] W7 fun v11 W12 =>
 ∃ s13 : Sl,
 ∃ b14 : Bool,
 ∃ s15 : Sl,
 ∃ s16 : Sl,
 ∃ b17 : Bool,
 ∃ s18 : Sl,
 ∃ s19 : Sl,
 ∃ b20 : Bool,
 ∃ s21 : Sl,
 ∃ b22 : Bool,
 ∃ s23 : Sl,
 ∃ s24 : Sl,
 ∃ b25 : Bool,
 ∃ s26 : Sl,
 ∃ s27 : Sl,
 ∃ b28 : Bool,
 ∃ s29 : Sl,
 ∃ s30 : Sl,
 ∃ b31 : Bool,
 v11 =
 .tuple
 {
 toList :=
 [.agg ⟨[s13.v, .bool b14, s15.v, s16.v, .bool b17, s18.v, s19.v, .bool b20, s21.v]⟩,
 .agg ⟨[.bool b22, s23.v, s24.v, .bool b25, s26.v, s27.v, .bool b28, s29.v, s30.v]⟩, .bool b31] } ∧
 ((!b5) = true → callN Tryz.prog W0 M 15 [] W12 fun v32 W33 => ∃ b34 : Bool, v32 = .bool b34 ∧ ∀ (W35 : PW), Ext W33 W35 → Post (.bool b34) W35) ∧
 ((!b5) = false →
 ((!b10) = true → callN Tryz.prog W0 M 15 [] W12 fun v36 W37 => ∃ b38 : Bool, v36 = .bool b38 ∧ ∀ (W39 : PW), Ext W37 W39 → Post (.bool b38) W39) ∧
 ((!b10) = false →
 ((!b31) = true → callN Tryz.prog W0 M 15 [] W12 fun v40 W41 => ∃ b42 : Bool, v40 = .bool b42 ∧ ∀ (W43 : PW), Ext W41 W43 → Post (.bool b42) W43) ∧
 ((!b31) = false →
 (6 < (a0.2 : Int) → callN Tryz.prog W0 M 15 [] W12 fun v44 W45 => ∃ b46 : Bool, v44 = .bool b46 ∧ ∀ (W47 : PW), Ext W45 W47 → Post (.bool b46) W47) ∧
 (¬6 < (a0.2 : Int) →
 (5 < (a1.2 : Int) → callN Tryz.prog W0 M 15 [] W12 fun v48 W49 => ∃ b50 : Bool, v48 = .bool b50 ∧ ∀ (W51 : PW), Ext W49 W51 → Post (.bool b50) W51) ∧
 (¬5 < (a1.2 : Int) →
 callN Tryz.prog W0 M 47 [.agg ⟨[s3.v]⟩] W12 fun v52 W53 =>
 ∃ i54 : Int,
 v52 = .int .i64 i54 ∧
 (5 < i54 → callN Tryz.prog W0 M 15 [] W53 fun v55 W56 => ∃ b57 : Bool, v55 = .bool b57 ∧ ∀ (W58 : PW), Ext W56 W58 → Post (.bool b57) W58) ∧
 (¬5 < i54 →
 callN Tryz.prog W0 M 15 [] W53 fun v59 W60 =>
 ∃ b61 : Bool,
 v59 = .bool b61 ∧
 ((!b61) = true → callN Tryz.prog W0 M 15 [] W60 fun v62 W63 => ∃ b64 : Bool, v62 = .bool b64 ∧ ∀ (W65 : PW), Ext W63 W65 → Post (.bool b64) W65) ∧
 ((!b61) = false →
 callN Tryz.prog W0 M 21 [.agg ⟨[s3.v]⟩, .agg ⟨[s8.v]⟩] W60 fun v66 W67 =>
 ∃ s68 : Sl,
 ∃ b69 : Bool,
 v66 = .tuple ⟨[.agg ⟨[s68.v]⟩, .bool b69]⟩ ∧
 callN Tryz.prog W0 M 39 [.int .i64 0] W67 fun v70 W71 =>
 ∃ s72 : Sl,
 v70 = .agg ⟨[s72.v]⟩ ∧
 callN Tryz.prog W0 M 39 [.int .i64 2] W71 fun v73 W74 =>
 ∃ s75 : Sl,
 v73 = .agg ⟨[s75.v]⟩ ∧
 callN Tryz.prog W0 M 29 [.agg ⟨[s3.v]⟩, .agg ⟨[s8.v, s72.v, s75.v]⟩] W74 fun v76 W77 =>
 ∃ s78 : Sl,
 ∃ b79 : Bool,
 v76 = .tuple ⟨[.agg ⟨[s78.v]⟩, .bool b79]⟩ ∧
 callN Tryz.prog W0 M 45
 [.agg ⟨[s3.v]⟩, .agg ⟨[s13.v, .bool b14, s15.v, s16.v, .bool b17, s18.v, s19.v, .bool b20, s21.v]⟩] W77
 fun v80 W81 =>
 ∃ s82 : Sl,
 ∃ b83 : Bool,
 ∃ s84 : Sl,
 v80 = .agg ⟨[s82.v, .bool b83, s84.v]⟩ ∧
 callN Tryz.prog W0 M 45
 [.agg ⟨[s8.v]⟩, .agg ⟨[s13.v, .bool b14, s15.v, s16.v, .bool b17, s18.v, s19.v, .bool b20, s21.v]⟩] W81
 fun v85 W86 =>
 ∃ s87 : Sl,
 ∃ b88 : Bool,
 ∃ s89 : Sl,
 v85 = .agg ⟨[s87.v, .bool b88, s89.v]⟩ ∧
 (b69 = true →
 (b79 = true →
 callN Tryz.prog W0 M 31 [.agg ⟨[s3.v]⟩, .agg ⟨[s8.v]⟩] W86 fun v90 W91 =>
 ∃ s92 : Sl,
 v90 = .agg ⟨[s92.v]⟩ ∧
 callN Tryz.prog W0 M 45
 [.agg ⟨[s92.v]⟩, .agg ⟨[s13.v, .bool b14, s15.v, s16.v, .bool b17, s18.v, s19.v, .bool b20, s21.v]⟩] W91
 fun v93 W94 =>
 ∃ s95 : Sl,
 ∃ b96 : Bool,
 ∃ s97 : Sl,
 v93 = .agg ⟨[s95.v, .bool b96, s97.v]⟩ ∧
 callN Tryz.prog W0 M 56 [.agg ⟨[s82.v, .bool b83, s84.v]⟩, .agg ⟨[s87.v, .bool b88, s89.v]⟩] W94
 fun v98 W99 =>
 ∃ s100 : Sl,
 ∃ b101 : Bool,
 ∃ s102 : Sl,
 v98 = .agg ⟨[s100.v, .bool b101, s102.v]⟩ ∧
 callN Tryz.prog W0 M 55 [.agg ⟨[s95.v, .bool b96, s97.v]⟩, .agg ⟨[s100.v, .bool b101, s102.v]⟩] W99
 fun v103 W104 =>
 ∃ i105 : Int,
 v103 = .int .i64 i105 ∧
 (i105 = 0 →
 callN Tryz.prog W0 M 45
 [.agg ⟨[s68.v]⟩,
 .agg ⟨[s13.v, .bool b14, s15.v, s16.v, .bool b17, s18.v, s19.v, .bool b20, s21.v]⟩]
 W104 fun v106 W107 =>
 ∃ s108 : Sl,
 ∃ b109 : Bool,
 ∃ s110 : Sl,
 v106 = .agg ⟨[s108.v, .bool b109, s110.v]⟩ ∧
 callN Tryz.prog W0 M 57
 [.agg ⟨[s82.v, .bool b83, s84.v]⟩, .agg ⟨[s87.v, .bool b88, s89.v]⟩] W107
 fun v111 W112 =>
 ∃ s113 : Sl,
 ∃ b114 : Bool,
 ∃ s115 : Sl,
 v111 = .agg ⟨[s113.v, .bool b114, s115.v]⟩ ∧
 callN Tryz.prog W0 M 55
 [.agg ⟨[s108.v, .bool b109, s110.v]⟩, .agg ⟨[s113.v, .bool b114, s115.v]⟩] W112
 fun v116 W117 =>
 ∃ i118 : Int,
 v116 = .int .i64 i118 ∧
 (i118 = 0 →
 ((0 : Int) ≤ 0 ∧ (0 : Int) < 3) ∧
 ((0 : Int) ≤ 2 ∧ (2 : Int) < 3) ∧
 callN Tryz.prog W0 M 45
 [.agg ⟨[s78.v]⟩,
 .agg
 {
 toList :=
 [s13.v, .bool b14, s15.v, s16.v, .bool b17, s18.v, s19.v, .bool b20, s21.v] }]
 W117 fun v119 W120 =>
 ∃ s121 : Sl,
 ∃ b122 : Bool,
 ∃ s123 : Sl,
 v119 = .agg ⟨[s121.v, .bool b122, s123.v]⟩ ∧
 callN Tryz.prog W0 M 45
 [.agg ⟨[s3.v]⟩,
 .agg
 {
 toList :=
 [s87.v, .bool b88, s89.v, s13.v, .bool b14, s15.v, s19.v, .bool b20,
 s21.v] }]
 W120 fun v124 W125 =>
 ∃ s126 : Sl,
 ∃ b127 : Bool,
 ∃ s128 : Sl,
 v124 = .agg ⟨[s126.v, .bool b127, s128.v]⟩ ∧
 callN Tryz.prog W0 M 55
 [.agg ⟨[s121.v, .bool b122, s123.v]⟩,
 .agg ⟨[s126.v, .bool b127, s128.v]⟩]
 W125 fun v129 W130 =>
 ∃ i131 : Int,
 v129 = .int .i64 i131 ∧
 ∀ (W132 : PW), Ext W130 W132 → Post (.bool (decide (i131 = 0))) W132) ∧
 (¬i118 = 0 → Ext W117 W117 ∧ Ext W117 W117 ∧ Ext W117 W117 ∧ ∀ (W133 : PW), Ext W117 W133 → Post (.bool false) W133)) ∧
 (¬i105 = 0 → Ext W104 W104 ∧ Ext W104 W104 ∧ Ext W104 W104 ∧ ∀ (W134 : PW), Ext W104 W134 → Post (.bool false) W134)) ∧
 (b79 = false → Ext W86 W86 ∧ Ext W86 W86 ∧ Ext W86 W86 ∧ ∀ (W135 : PW), Ext W86 W135 → Post (.bool false) W135)) ∧
 (b69 = false → Ext W86 W86 ∧ Ext W86 W86 ∧ Ext W86 W86 ∧ ∀ (W136 : PW), Ext W86 W136 → Post (.bool false) W136))))))))
theorem calllaw8_PolyValues (W0 : PW) (M : Nat → Prop) (a0 : Sl) (a1 : Sl) (a2_0 : ByteArray) (a2_1 : ByteArray) (a2_2 : ByteArray) (Post : Value → PW → Prop) (h : Rlaw8_PolyValues W0 M a0 a1 a2_0 a2_1 a2_2 Post) : PCallsM Tryz.prog 14 [a0.v, a1.v, .agg #[.string a2_0, .string a2_1, .string a2_2]] W0 M Post :=
  fn_sound rfl tt_ok tt_in Tryz.func14 (cuts := []) rfl rfl (Nat.le_of_ble_eq_true rfl) (Eq.mpr (by kernel_rfl) h)
end Go.Proofs.YtbingbjhgoanoaaGreat
