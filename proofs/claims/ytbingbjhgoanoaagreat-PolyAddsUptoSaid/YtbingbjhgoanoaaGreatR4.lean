/- R4 -/
import Derived.Test.YtbingbjhgoanoaaGreatTt
set_option linter.unusedVariables false
set_option linter.unusedSimpArgs false
set_option maxRecDepth 100000
set_option linter.unusedVariables false
namespace Go.Proofs.YtbingbjhgoanoaaGreat
open Go Go.SX
def Rrat_least (W0 : PW) (M : Nat → Prop) (a0_0 : Sl) (a0_1 : Bool) (a1_0 : Sl) (Post : Value → PW → Prop) : Prop :=
 callN Tryz.prog W0 M 105 [.agg ⟨[a1_0.v]⟩] W0 fun v1 W2 =>
 ∃ i3 : Int,
 v1 = .int .i64 i3 ∧
 (i3 < 2 → ∀ (W4 : PW), Ext W2 W4 → Post (.agg ⟨[a0_0.v, .bool a0_1, .slice none 0 0]⟩) W4) ∧
 (¬i3 < 2 →
 callN Tryz.prog W0 M 117 [.agg ⟨[a0_0.v, .bool a0_1]⟩] W2 fun v5 W6 =>
 ∃ i7 : Int,
 v5 = .int .i64 i7 ∧
 (i7 = 0 → ∀ (W8 : PW), Ext W6 W8 → Post (.agg ⟨[a0_0.v, .bool a0_1, .slice none 0 0]⟩) W8) ∧
 (¬i7 = 0 →
 (callN Tryz.prog W0 M 107 [.agg ⟨[a0_0.v, .bool a0_1]⟩] W6 fun v9 W10 =>
 ∃ s11 : Sl,
 v9 = .agg ⟨[s11.v]⟩ ∧
 dup 1
 (callN Tryz.prog W0 M 106 [.agg ⟨[a1_0.v]⟩, .agg ⟨[s11.v]⟩] W10 fun v12 W13 =>
 ∃ s14 : Sl,
 v12 = .agg ⟨[s14.v]⟩ ∧
 callN Tryz.prog W0 M 105 [.agg ⟨[s14.v]⟩] W13 fun v15 W16 =>
 ∃ i17 : Int,
 v15 = .int .i64 i17 ∧
 (1 < i17 →
 (callN Tryz.prog W0 M 107 [.agg ⟨[a0_0.v, .bool a0_1]⟩] W16 fun v18 W19 =>
 ∃ s20 : Sl,
 v18 = .agg ⟨[s20.v]⟩ ∧
 (callN Tryz.prog W0 M 131 [.agg ⟨[s20.v]⟩, .agg ⟨[s14.v]⟩] W19 fun v21 W22 =>
 ∃ s23 : Sl,
 ∃ s24 : Sl,
 ∃ b25 : Bool,
 v21 = .tuple ⟨[.agg ⟨[s23.v]⟩, .agg ⟨[s24.v]⟩, .bool b25]⟩ ∧
 dup 1
 (callN Tryz.prog W0 M 131 [.agg ⟨[a1_0.v]⟩, .agg ⟨[s14.v]⟩] W22 fun v26 W27 =>
 ∃ s28 : Sl,
 ∃ s29 : Sl,
 ∃ b30 : Bool,
 v26 = .tuple ⟨[.agg ⟨[s28.v]⟩, .agg ⟨[s29.v]⟩, .bool b30]⟩ ∧
 callN Tryz.prog W0 M 117 [.agg ⟨[a0_0.v, .bool a0_1]⟩] W27 fun v31 W32 =>
 ∃ i33 : Int,
 v31 = .int .i64 i33 ∧
 callN Tryz.prog W0 M 132 [.bool (decide (i33 < 0)), .agg ⟨[s23.v]⟩] W32 fun v34 W35 =>
 ∃ s36 : Sl,
 ∃ b37 : Bool,
 v34 = .agg ⟨[s36.v, .bool b37]⟩ ∧
 callN Tryz.prog W0 M 105 [.agg ⟨[s28.v]⟩] W35 fun v38 W39 =>
 ∃ i40 : Int,
 v38 = .int .i64 i40 ∧
 (i40 < 2 → ∀ (W41 : PW), Ext W39 W41 → Post (.agg ⟨[s36.v, .bool b37, .slice none 0 0]⟩) W41) ∧
 (¬i40 < 2 → ∀ (W42 : PW), Ext W39 W42 → Post (.agg ⟨[s36.v, .bool b37, s28.v]⟩) W42))) ∧
 dup 1
 (dup 1
 (callN Tryz.prog W0 M 131 [.agg ⟨[s20.v]⟩, .agg ⟨[s14.v]⟩] W19 fun v43 W44 =>
 ∃ s45 : Sl,
 ∃ s46 : Sl,
 ∃ b47 : Bool,
 v43 = .tuple ⟨[.agg ⟨[s45.v]⟩, .agg ⟨[s46.v]⟩, .bool b47]⟩ ∧
 callN Tryz.prog W0 M 131 [.agg ⟨[a1_0.v]⟩, .agg ⟨[s14.v]⟩] W44 fun v48 W49 =>
 ∃ s50 : Sl,
 ∃ s51 : Sl,
 ∃ b52 : Bool,
 v48 = .tuple ⟨[.agg ⟨[s50.v]⟩, .agg ⟨[s51.v]⟩, .bool b52]⟩ ∧
 callN Tryz.prog W0 M 117 [.agg ⟨[a0_0.v, .bool a0_1]⟩] W49 fun v53 W54 =>
 ∃ i55 : Int,
 v53 = .int .i64 i55 ∧
 callN Tryz.prog W0 M 132 [.bool (decide (i55 < 0)), .agg ⟨[s45.v]⟩] W54 fun v56 W57 =>
 ∃ s58 : Sl,
 ∃ b59 : Bool,
 v56 = .agg ⟨[s58.v, .bool b59]⟩ ∧
 callN Tryz.prog W0 M 105 [.agg ⟨[s50.v]⟩] W57 fun v60 W61 =>
 ∃ i62 : Int,
 v60 = .int .i64 i62 ∧
 (i62 < 2 → ∀ (W63 : PW), Ext W61 W63 → Post (.agg ⟨[s58.v, .bool b59, .slice none 0 0]⟩) W63) ∧
 (¬i62 < 2 → ∀ (W64 : PW), Ext W61 W64 → Post (.agg ⟨[s58.v, .bool b59, s50.v]⟩) W64)))) ∧
 dup 1
 ((callN Tryz.prog W0 M 107 [.agg ⟨[a0_0.v, .bool a0_1]⟩] W16 fun v65 W66 =>
 ∃ s67 : Sl,
 v65 = .agg ⟨[s67.v]⟩ ∧
 dup 1
 (callN Tryz.prog W0 M 131 [.agg ⟨[s67.v]⟩, .agg ⟨[s14.v]⟩] W66 fun v68 W69 =>
 ∃ s70 : Sl,
 ∃ s71 : Sl,
 ∃ b72 : Bool,
 v68 = .tuple ⟨[.agg ⟨[s70.v]⟩, .agg ⟨[s71.v]⟩, .bool b72]⟩ ∧
 callN Tryz.prog W0 M 131 [.agg ⟨[a1_0.v]⟩, .agg ⟨[s14.v]⟩] W69 fun v73 W74 =>
 ∃ s75 : Sl,
 ∃ s76 : Sl,
 ∃ b77 : Bool,
 v73 = .tuple ⟨[.agg ⟨[s75.v]⟩, .agg ⟨[s76.v]⟩, .bool b77]⟩ ∧
 callN Tryz.prog W0 M 117 [.agg ⟨[a0_0.v, .bool a0_1]⟩] W74 fun v78 W79 =>
 ∃ i80 : Int,
 v78 = .int .i64 i80 ∧
 callN Tryz.prog W0 M 132 [.bool (decide (i80 < 0)), .agg ⟨[s70.v]⟩] W79 fun v81 W82 =>
 ∃ s83 : Sl,
 ∃ b84 : Bool,
 v81 = .agg ⟨[s83.v, .bool b84]⟩ ∧
 callN Tryz.prog W0 M 105 [.agg ⟨[s75.v]⟩] W82 fun v85 W86 =>
 ∃ i87 : Int,
 v85 = .int .i64 i87 ∧
 (i87 < 2 → ∀ (W88 : PW), Ext W86 W88 → Post (.agg ⟨[s83.v, .bool b84, .slice none 0 0]⟩) W88) ∧
 (¬i87 < 2 → ∀ (W89 : PW), Ext W86 W89 → Post (.agg ⟨[s83.v, .bool b84, s75.v]⟩) W89))) ∧
 callN Tryz.prog W0 M 107 [.agg ⟨[a0_0.v, .bool a0_1]⟩] W16 fun v90 W91 =>
 ∃ s92 : Sl,
 v90 = .agg ⟨[s92.v]⟩ ∧
 callN Tryz.prog W0 M 131 [.agg ⟨[s92.v]⟩, .agg ⟨[s14.v]⟩] W91 fun v93 W94 =>
 ∃ s95 : Sl,
 ∃ s96 : Sl,
 ∃ b97 : Bool,
 v93 = .tuple ⟨[.agg ⟨[s95.v]⟩, .agg ⟨[s96.v]⟩, .bool b97]⟩ ∧
 callN Tryz.prog W0 M 131 [.agg ⟨[a1_0.v]⟩, .agg ⟨[s14.v]⟩] W94 fun v98 W99 =>
 ∃ s100 : Sl,
 ∃ s101 : Sl,
 ∃ b102 : Bool,
 v98 = .tuple ⟨[.agg ⟨[s100.v]⟩, .agg ⟨[s101.v]⟩, .bool b102]⟩ ∧
 callN Tryz.prog W0 M 117 [.agg ⟨[a0_0.v, .bool a0_1]⟩] W99 fun v103 W104 =>
 ∃ i105 : Int,
 v103 = .int .i64 i105 ∧
 callN Tryz.prog W0 M 132 [.bool (decide (i105 < 0)), .agg ⟨[s95.v]⟩] W104 fun v106 W107 =>
 ∃ s108 : Sl,
 ∃ b109 : Bool,
 v106 = .agg ⟨[s108.v, .bool b109]⟩ ∧
 callN Tryz.prog W0 M 105 [.agg ⟨[s100.v]⟩] W107 fun v110 W111 =>
 ∃ i112 : Int,
 v110 = .int .i64 i112 ∧
 (i112 < 2 → ∀ (W113 : PW), Ext W111 W113 → Post (.agg ⟨[s108.v, .bool b109, .slice none 0 0]⟩) W113) ∧
 (¬i112 < 2 → ∀ (W114 : PW), Ext W111 W114 → Post (.agg ⟨[s108.v, .bool b109, s100.v]⟩) W114))) ∧
 (¬1 < i17 →
 callN Tryz.prog W0 M 105 [.agg ⟨[a1_0.v]⟩] W16 fun v115 W116 =>
 ∃ i117 : Int,
 v115 = .int .i64 i117 ∧
 (i117 < 2 → ∀ (W118 : PW), Ext W116 W118 → Post (.agg ⟨[a0_0.v, .bool a0_1, .slice none 0 0]⟩) W118) ∧
 (¬i117 < 2 → ∀ (W119 : PW), Ext W116 W119 → Post (.agg ⟨[a0_0.v, .bool a0_1, a1_0.v]⟩) W119)))) ∧
 callN Tryz.prog W0 M 107 [.agg ⟨[a0_0.v, .bool a0_1]⟩] W6 fun v120 W121 =>
 ∃ s122 : Sl,
 v120 = .agg ⟨[s122.v]⟩ ∧
 callN Tryz.prog W0 M 106 [.agg ⟨[a1_0.v]⟩, .agg ⟨[s122.v]⟩] W121 fun v123 W124 =>
 ∃ s125 : Sl,
 v123 = .agg ⟨[s125.v]⟩ ∧
 callN Tryz.prog W0 M 105 [.agg ⟨[s125.v]⟩] W124 fun v126 W127 =>
 ∃ i128 : Int,
 v126 = .int .i64 i128 ∧
 (1 < i128 →
 (callN Tryz.prog W0 M 107 [.agg ⟨[a0_0.v, .bool a0_1]⟩] W127 fun v129 W130 =>
 ∃ s131 : Sl,
 v129 = .agg ⟨[s131.v]⟩ ∧
 (callN Tryz.prog W0 M 131 [.agg ⟨[s131.v]⟩, .agg ⟨[s125.v]⟩] W130 fun v132 W133 =>
 ∃ s134 : Sl,
 ∃ s135 : Sl,
 ∃ b136 : Bool,
 v132 = .tuple ⟨[.agg ⟨[s134.v]⟩, .agg ⟨[s135.v]⟩, .bool b136]⟩ ∧
 dup 1
 (callN Tryz.prog W0 M 131 [.agg ⟨[a1_0.v]⟩, .agg ⟨[s125.v]⟩] W133 fun v137 W138 =>
 ∃ s139 : Sl,
 ∃ s140 : Sl,
 ∃ b141 : Bool,
 v137 = .tuple ⟨[.agg ⟨[s139.v]⟩, .agg ⟨[s140.v]⟩, .bool b141]⟩ ∧
 callN Tryz.prog W0 M 117 [.agg ⟨[a0_0.v, .bool a0_1]⟩] W138 fun v142 W143 =>
 ∃ i144 : Int,
 v142 = .int .i64 i144 ∧
 callN Tryz.prog W0 M 132 [.bool (decide (i144 < 0)), .agg ⟨[s134.v]⟩] W143 fun v145 W146 =>
 ∃ s147 : Sl,
 ∃ b148 : Bool,
 v145 = .agg ⟨[s147.v, .bool b148]⟩ ∧
 callN Tryz.prog W0 M 105 [.agg ⟨[s139.v]⟩] W146 fun v149 W150 =>
 ∃ i151 : Int,
 v149 = .int .i64 i151 ∧
 (i151 < 2 → ∀ (W152 : PW), Ext W150 W152 → Post (.agg ⟨[s147.v, .bool b148, .slice none 0 0]⟩) W152) ∧
 (¬i151 < 2 → ∀ (W153 : PW), Ext W150 W153 → Post (.agg ⟨[s147.v, .bool b148, s139.v]⟩) W153))) ∧
 dup 1
 (dup 1
 (callN Tryz.prog W0 M 131 [.agg ⟨[s131.v]⟩, .agg ⟨[s125.v]⟩] W130 fun v154 W155 =>
 ∃ s156 : Sl,
 ∃ s157 : Sl,
 ∃ b158 : Bool,
 v154 = .tuple ⟨[.agg ⟨[s156.v]⟩, .agg ⟨[s157.v]⟩, .bool b158]⟩ ∧
 callN Tryz.prog W0 M 131 [.agg ⟨[a1_0.v]⟩, .agg ⟨[s125.v]⟩] W155 fun v159 W160 =>
 ∃ s161 : Sl,
 ∃ s162 : Sl,
 ∃ b163 : Bool,
 v159 = .tuple ⟨[.agg ⟨[s161.v]⟩, .agg ⟨[s162.v]⟩, .bool b163]⟩ ∧
 callN Tryz.prog W0 M 117 [.agg ⟨[a0_0.v, .bool a0_1]⟩] W160 fun v164 W165 =>
 ∃ i166 : Int,
 v164 = .int .i64 i166 ∧
 callN Tryz.prog W0 M 132 [.bool (decide (i166 < 0)), .agg ⟨[s156.v]⟩] W165 fun v167 W168 =>
 ∃ s169 : Sl,
 ∃ b170 : Bool,
 v167 = .agg ⟨[s169.v, .bool b170]⟩ ∧
 callN Tryz.prog W0 M 105 [.agg ⟨[s161.v]⟩] W168 fun v171 W172 =>
 ∃ i173 : Int,
 v171 = .int .i64 i173 ∧
 (i173 < 2 → ∀ (W174 : PW), Ext W172 W174 → Post (.agg ⟨[s169.v, .bool b170, .slice none 0 0]⟩) W174) ∧
 (¬i173 < 2 → ∀ (W175 : PW), Ext W172 W175 → Post (.agg ⟨[s169.v, .bool b170, s161.v]⟩) W175)))) ∧
 dup 1
 ((callN Tryz.prog W0 M 107 [.agg ⟨[a0_0.v, .bool a0_1]⟩] W127 fun v176 W177 =>
 ∃ s178 : Sl,
 v176 = .agg ⟨[s178.v]⟩ ∧
 dup 1
 (callN Tryz.prog W0 M 131 [.agg ⟨[s178.v]⟩, .agg ⟨[s125.v]⟩] W177 fun v179 W180 =>
 ∃ s181 : Sl,
 ∃ s182 : Sl,
 ∃ b183 : Bool,
 v179 = .tuple ⟨[.agg ⟨[s181.v]⟩, .agg ⟨[s182.v]⟩, .bool b183]⟩ ∧
 callN Tryz.prog W0 M 131 [.agg ⟨[a1_0.v]⟩, .agg ⟨[s125.v]⟩] W180 fun v184 W185 =>
 ∃ s186 : Sl,
 ∃ s187 : Sl,
 ∃ b188 : Bool,
 v184 = .tuple ⟨[.agg ⟨[s186.v]⟩, .agg ⟨[s187.v]⟩, .bool b188]⟩ ∧
 callN Tryz.prog W0 M 117 [.agg ⟨[a0_0.v, .bool a0_1]⟩] W185 fun v189 W190 =>
 ∃ i191 : Int,
 v189 = .int .i64 i191 ∧
 callN Tryz.prog W0 M 132 [.bool (decide (i191 < 0)), .agg ⟨[s181.v]⟩] W190 fun v192 W193 =>
 ∃ s194 : Sl,
 ∃ b195 : Bool,
 v192 = .agg ⟨[s194.v, .bool b195]⟩ ∧
 callN Tryz.prog W0 M 105 [.agg ⟨[s186.v]⟩] W193 fun v196 W197 =>
 ∃ i198 : Int,
 v196 = .int .i64 i198 ∧
 (i198 < 2 → ∀ (W199 : PW), Ext W197 W199 → Post (.agg ⟨[s194.v, .bool b195, .slice none 0 0]⟩) W199) ∧
 (¬i198 < 2 → ∀ (W200 : PW), Ext W197 W200 → Post (.agg ⟨[s194.v, .bool b195, s186.v]⟩) W200))) ∧
 callN Tryz.prog W0 M 107 [.agg ⟨[a0_0.v, .bool a0_1]⟩] W127 fun v201 W202 =>
 ∃ s203 : Sl,
 v201 = .agg ⟨[s203.v]⟩ ∧
 callN Tryz.prog W0 M 131 [.agg ⟨[s203.v]⟩, .agg ⟨[s125.v]⟩] W202 fun v204 W205 =>
 ∃ s206 : Sl,
 ∃ s207 : Sl,
 ∃ b208 : Bool,
 v204 = .tuple ⟨[.agg ⟨[s206.v]⟩, .agg ⟨[s207.v]⟩, .bool b208]⟩ ∧
 callN Tryz.prog W0 M 131 [.agg ⟨[a1_0.v]⟩, .agg ⟨[s125.v]⟩] W205 fun v209 W210 =>
 ∃ s211 : Sl,
 ∃ s212 : Sl,
 ∃ b213 : Bool,
 v209 = .tuple ⟨[.agg ⟨[s211.v]⟩, .agg ⟨[s212.v]⟩, .bool b213]⟩ ∧
 callN Tryz.prog W0 M 117 [.agg ⟨[a0_0.v, .bool a0_1]⟩] W210 fun v214 W215 =>
 ∃ i216 : Int,
 v214 = .int .i64 i216 ∧
 callN Tryz.prog W0 M 132 [.bool (decide (i216 < 0)), .agg ⟨[s206.v]⟩] W215 fun v217 W218 =>
 ∃ s219 : Sl,
 ∃ b220 : Bool,
 v217 = .agg ⟨[s219.v, .bool b220]⟩ ∧
 callN Tryz.prog W0 M 105 [.agg ⟨[s211.v]⟩] W218 fun v221 W222 =>
 ∃ i223 : Int,
 v221 = .int .i64 i223 ∧
 (i223 < 2 → ∀ (W224 : PW), Ext W222 W224 → Post (.agg ⟨[s219.v, .bool b220, .slice none 0 0]⟩) W224) ∧
 (¬i223 < 2 → ∀ (W225 : PW), Ext W222 W225 → Post (.agg ⟨[s219.v, .bool b220, s211.v]⟩) W225))) ∧
 (¬1 < i128 →
 callN Tryz.prog W0 M 105 [.agg ⟨[a1_0.v]⟩] W127 fun v226 W227 =>
 ∃ i228 : Int,
 v226 = .int .i64 i228 ∧
 (i228 < 2 → ∀ (W229 : PW), Ext W227 W229 → Post (.agg ⟨[a0_0.v, .bool a0_1, .slice none 0 0]⟩) W229) ∧
 (¬i228 < 2 → ∀ (W230 : PW), Ext W227 W230 → Post (.agg ⟨[a0_0.v, .bool a0_1, a1_0.v]⟩) W230))))
theorem callrat_least (W0 : PW) (M : Nat → Prop) (a0_0 : Sl) (a0_1 : Bool) (a1_0 : Sl) (Post : Value → PW → Prop) (h : Rrat_least W0 M a0_0 a0_1 a1_0 Post) : PCallsM Tryz.prog 91 [.agg #[a0_0.v, .bool a0_1], .agg #[a1_0.v]] W0 M Post :=
  fn_sound rfl tt_ok tt_in Tryz.func91 (cuts := []) rfl rfl (Nat.le_of_ble_eq_true rfl) (Eq.mpr (by kernel_rfl) h)
end Go.Proofs.YtbingbjhgoanoaaGreat
