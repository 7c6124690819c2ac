/- R4 -/
import Derived.Test.YtcffcndpefaalaaTt
set_option linter.unusedVariables false
set_option linter.unusedSimpArgs false
set_option maxRecDepth 100000
set_option linter.unusedVariables false
namespace Go.Proofs.Ytcffcndpefaalaa
def Rrat_least (W0 : Go.SX.PW) (M : Nat → Prop) (a0_0 : Go.SX.Sl) (a0_1 : Bool) (a1_0 : Go.SX.Sl) (Post : Go.Value → Go.SX.PW → Prop) : Prop :=
 Go.SX.callN Go.Proofs.Try.prog W0 M (38 : Nat) [Go.Value.agg { toList := [Go.SX.Sl.v a1_0] }] W0 fun (v1 : Go.Value) (W2 : Go.SX.PW) =>
 ∃ (i3 : Int),
 v1 = Go.Value.int Go.IntKind.i64 i3 ∧
 (i3 < (2 : Int) →
 (Bool.true = Bool.true → ∀ (W4 : Go.SX.PW), Go.SX.Ext W2 W4 → Post (Go.Value.agg { toList := [Go.SX.Sl.v a0_0, Go.Value.bool a0_1, Go.Value.slice Option.none (0 : Nat) (0 : Nat)] }) W4) ∧
 (Bool.true = Bool.false →
 (Go.SX.callN Go.Proofs.Try.prog W0 M (45 : Nat) [Go.Value.agg { toList := [Go.SX.Sl.v a0_0, Go.Value.bool a0_1] }] W2 fun (v5 : Go.Value) (W6 : Go.SX.PW) =>
 ∃ (s7 : Go.SX.Sl),
 v5 = Go.Value.agg { toList := [Go.SX.Sl.v s7] } ∧
 Go.SX.dup (1 : Nat)
 (Go.SX.callN Go.Proofs.Try.prog W0 M (61 : Nat) [Go.Value.agg { toList := [Go.SX.Sl.v a1_0] }, Go.Value.agg { toList := [Go.SX.Sl.v s7] }] W6 fun (v8 : Go.Value) (W9 : Go.SX.PW) =>
 ∃ (s10 : Go.SX.Sl),
 v8 = Go.Value.agg { toList := [Go.SX.Sl.v s10] } ∧
 Go.SX.callN Go.Proofs.Try.prog W0 M (38 : Nat) [Go.Value.agg { toList := [Go.SX.Sl.v s10] }] W9 fun (v11 : Go.Value) (W12 : Go.SX.PW) =>
 ∃ (i13 : Int),
 v11 = Go.Value.int Go.IntKind.i64 i13 ∧
 ((1 : Int) < i13 →
 (Go.SX.callN Go.Proofs.Try.prog W0 M (45 : Nat) [Go.Value.agg { toList := [Go.SX.Sl.v a0_0, Go.Value.bool a0_1] }] W12 fun (v14 : Go.Value) (W15 : Go.SX.PW) =>
 ∃ (s16 : Go.SX.Sl),
 v14 = Go.Value.agg { toList := [Go.SX.Sl.v s16] } ∧
 (Go.SX.callN Go.Proofs.Try.prog W0 M (68 : Nat) [Go.Value.agg { toList := [Go.SX.Sl.v s16] }, Go.Value.agg { toList := [Go.SX.Sl.v s10] }] W15 fun (v17 : Go.Value) (W18 : Go.SX.PW) =>
 ∃ (s19 : Go.SX.Sl),
 ∃ (s20 : Go.SX.Sl),
 ∃ (b21 : Bool),
 v17 = Go.Value.tuple { toList := [Go.Value.agg { toList := [Go.SX.Sl.v s19] }, Go.Value.agg { toList := [Go.SX.Sl.v s20] }, Go.Value.bool b21] } ∧
 Go.SX.dup (1 : Nat)
 (Go.SX.callN Go.Proofs.Try.prog W0 M (68 : Nat) [Go.Value.agg { toList := [Go.SX.Sl.v a1_0] }, Go.Value.agg { toList := [Go.SX.Sl.v s10] }] W18 fun (v22 : Go.Value) (W23 : Go.SX.PW) =>
 ∃ (s24 : Go.SX.Sl),
 ∃ (s25 : Go.SX.Sl),
 ∃ (b26 : Bool),
 v22 = Go.Value.tuple { toList := [Go.Value.agg { toList := [Go.SX.Sl.v s24] }, Go.Value.agg { toList := [Go.SX.Sl.v s25] }, Go.Value.bool b26] } ∧
 Go.SX.callN Go.Proofs.Try.prog W0 M (46 : Nat) [Go.Value.agg { toList := [Go.SX.Sl.v a0_0, Go.Value.bool a0_1] }] W23 fun (v27 : Go.Value) (W28 : Go.SX.PW) =>
 ∃ (i29 : Int),
 v27 = Go.Value.int Go.IntKind.i64 i29 ∧
 Go.SX.callN Go.Proofs.Try.prog W0 M (43 : Nat) [Go.Value.bool (Decidable.decide (i29 < (0 : Int))), Go.Value.agg { toList := [Go.SX.Sl.v s19] }] W28 fun (v30 : Go.Value) (W31 : Go.SX.PW) =>
 ∃ (s32 : Go.SX.Sl),
 ∃ (b33 : Bool),
 v30 = Go.Value.agg { toList := [Go.SX.Sl.v s32, Go.Value.bool b33] } ∧
 Go.SX.callN Go.Proofs.Try.prog W0 M (38 : Nat) [Go.Value.agg { toList := [Go.SX.Sl.v s24] }] W31 fun (v34 : Go.Value) (W35 : Go.SX.PW) =>
 ∃ (i36 : Int),
 v34 = Go.Value.int Go.IntKind.i64 i36 ∧
 (i36 < (2 : Int) → ∀ (W37 : Go.SX.PW), Go.SX.Ext W35 W37 → Post (Go.Value.agg { toList := [Go.SX.Sl.v s32, Go.Value.bool b33, Go.Value.slice Option.none (0 : Nat) (0 : Nat)] }) W37) ∧
 (¬i36 < (2 : Int) → ∀ (W38 : Go.SX.PW), Go.SX.Ext W35 W38 → Post (Go.Value.agg { toList := [Go.SX.Sl.v s32, Go.Value.bool b33, Go.SX.Sl.v s24] }) W38))) ∧
 Go.SX.dup (1 : Nat)
 (Go.SX.dup (1 : Nat)
 (Go.SX.callN Go.Proofs.Try.prog W0 M (68 : Nat) [Go.Value.agg { toList := [Go.SX.Sl.v s16] }, Go.Value.agg { toList := [Go.SX.Sl.v s10] }] W15 fun (v39 : Go.Value) (W40 : Go.SX.PW) =>
 ∃ (s41 : Go.SX.Sl),
 ∃ (s42 : Go.SX.Sl),
 ∃ (b43 : Bool),
 v39 = Go.Value.tuple { toList := [Go.Value.agg { toList := [Go.SX.Sl.v s41] }, Go.Value.agg { toList := [Go.SX.Sl.v s42] }, Go.Value.bool b43] } ∧
 Go.SX.callN Go.Proofs.Try.prog W0 M (68 : Nat) [Go.Value.agg { toList := [Go.SX.Sl.v a1_0] }, Go.Value.agg { toList := [Go.SX.Sl.v s10] }] W40 fun (v44 : Go.Value) (W45 : Go.SX.PW) =>
 ∃ (s46 : Go.SX.Sl),
 ∃ (s47 : Go.SX.Sl),
 ∃ (b48 : Bool),
 v44 = Go.Value.tuple { toList := [Go.Value.agg { toList := [Go.SX.Sl.v s46] }, Go.Value.agg { toList := [Go.SX.Sl.v s47] }, Go.Value.bool b48] } ∧
 Go.SX.callN Go.Proofs.Try.prog W0 M (46 : Nat) [Go.Value.agg { toList := [Go.SX.Sl.v a0_0, Go.Value.bool a0_1] }] W45 fun (v49 : Go.Value) (W50 : Go.SX.PW) =>
 ∃ (i51 : Int),
 v49 = Go.Value.int Go.IntKind.i64 i51 ∧
 Go.SX.callN Go.Proofs.Try.prog W0 M (43 : Nat) [Go.Value.bool (Decidable.decide (i51 < (0 : Int))), Go.Value.agg { toList := [Go.SX.Sl.v s41] }] W50 fun (v52 : Go.Value) (W53 : Go.SX.PW) =>
 ∃ (s54 : Go.SX.Sl),
 ∃ (b55 : Bool),
 v52 = Go.Value.agg { toList := [Go.SX.Sl.v s54, Go.Value.bool b55] } ∧
 Go.SX.callN Go.Proofs.Try.prog W0 M (38 : Nat) [Go.Value.agg { toList := [Go.SX.Sl.v s46] }] W53 fun (v56 : Go.Value) (W57 : Go.SX.PW) =>
 ∃ (i58 : Int),
 v56 = Go.Value.int Go.IntKind.i64 i58 ∧
 (i58 < (2 : Int) → ∀ (W59 : Go.SX.PW), Go.SX.Ext W57 W59 → Post (Go.Value.agg { toList := [Go.SX.Sl.v s54, Go.Value.bool b55, Go.Value.slice Option.none (0 : Nat) (0 : Nat)] }) W59) ∧
 (¬i58 < (2 : Int) → ∀ (W60 : Go.SX.PW), Go.SX.Ext W57 W60 → Post (Go.Value.agg { toList := [Go.SX.Sl.v s54, Go.Value.bool b55, Go.SX.Sl.v s46] }) W60)))) ∧
 Go.SX.dup (1 : Nat)
 ((Go.SX.callN Go.Proofs.Try.prog W0 M (45 : Nat) [Go.Value.agg { toList := [Go.SX.Sl.v a0_0, Go.Value.bool a0_1] }] W12 fun (v61 : Go.Value) (W62 : Go.SX.PW) =>
 ∃ (s63 : Go.SX.Sl),
 v61 = Go.Value.agg { toList := [Go.SX.Sl.v s63] } ∧
 Go.SX.dup (1 : Nat)
 (Go.SX.callN Go.Proofs.Try.prog W0 M (68 : Nat) [Go.Value.agg { toList := [Go.SX.Sl.v s63] }, Go.Value.agg { toList := [Go.SX.Sl.v s10] }] W62 fun (v64 : Go.Value) (W65 : Go.SX.PW) =>
 ∃ (s66 : Go.SX.Sl),
 ∃ (s67 : Go.SX.Sl),
 ∃ (b68 : Bool),
 v64 = Go.Value.tuple { toList := [Go.Value.agg { toList := [Go.SX.Sl.v s66] }, Go.Value.agg { toList := [Go.SX.Sl.v s67] }, Go.Value.bool b68] } ∧
 Go.SX.callN Go.Proofs.Try.prog W0 M (68 : Nat) [Go.Value.agg { toList := [Go.SX.Sl.v a1_0] }, Go.Value.agg { toList := [Go.SX.Sl.v s10] }] W65 fun (v69 : Go.Value) (W70 : Go.SX.PW) =>
 ∃ (s71 : Go.SX.Sl),
 ∃ (s72 : Go.SX.Sl),
 ∃ (b73 : Bool),
 v69 = Go.Value.tuple { toList := [Go.Value.agg { toList := [Go.SX.Sl.v s71] }, Go.Value.agg { toList := [Go.SX.Sl.v s72] }, Go.Value.bool b73] } ∧
 Go.SX.callN Go.Proofs.Try.prog W0 M (46 : Nat) [Go.Value.agg { toList := [Go.SX.Sl.v a0_0, Go.Value.bool a0_1] }] W70 fun (v74 : Go.Value) (W75 : Go.SX.PW) =>
 ∃ (i76 : Int),
 v74 = Go.Value.int Go.IntKind.i64 i76 ∧
 Go.SX.callN Go.Proofs.Try.prog W0 M (43 : Nat) [Go.Value.bool (Decidable.decide (i76 < (0 : Int))), Go.Value.agg { toList := [Go.SX.Sl.v s66] }] W75 fun (v77 : Go.Value) (W78 : Go.SX.PW) =>
 ∃ (s79 : Go.SX.Sl),
 ∃ (b80 : Bool),
 v77 = Go.Value.agg { toList := [Go.SX.Sl.v s79, Go.Value.bool b80] } ∧
 Go.SX.callN Go.Proofs.Try.prog W0 M (38 : Nat) [Go.Value.agg { toList := [Go.SX.Sl.v s71] }] W78 fun (v81 : Go.Value) (W82 : Go.SX.PW) =>
 ∃ (i83 : Int),
 v81 = Go.Value.int Go.IntKind.i64 i83 ∧
 (i83 < (2 : Int) → ∀ (W84 : Go.SX.PW), Go.SX.Ext W82 W84 → Post (Go.Value.agg { toList := [Go.SX.Sl.v s79, Go.Value.bool b80, Go.Value.slice Option.none (0 : Nat) (0 : Nat)] }) W84) ∧
 (¬i83 < (2 : Int) → ∀ (W85 : Go.SX.PW), Go.SX.Ext W82 W85 → Post (Go.Value.agg { toList := [Go.SX.Sl.v s79, Go.Value.bool b80, Go.SX.Sl.v s71] }) W85))) ∧
 Go.SX.callN Go.Proofs.Try.prog W0 M (45 : Nat) [Go.Value.agg { toList := [Go.SX.Sl.v a0_0, Go.Value.bool a0_1] }] W12 fun (v86 : Go.Value) (W87 : Go.SX.PW) =>
 ∃ (s88 : Go.SX.Sl),
 v86 = Go.Value.agg { toList := [Go.SX.Sl.v s88] } ∧
 Go.SX.callN Go.Proofs.Try.prog W0 M (68 : Nat) [Go.Value.agg { toList := [Go.SX.Sl.v s88] }, Go.Value.agg { toList := [Go.SX.Sl.v s10] }] W87 fun (v89 : Go.Value) (W90 : Go.SX.PW) =>
 ∃ (s91 : Go.SX.Sl),
 ∃ (s92 : Go.SX.Sl),
 ∃ (b93 : Bool),
 v89 = Go.Value.tuple { toList := [Go.Value.agg { toList := [Go.SX.Sl.v s91] }, Go.Value.agg { toList := [Go.SX.Sl.v s92] }, Go.Value.bool b93] } ∧
 Go.SX.callN Go.Proofs.Try.prog W0 M (68 : Nat) [Go.Value.agg { toList := [Go.SX.Sl.v a1_0] }, Go.Value.agg { toList := [Go.SX.Sl.v s10] }] W90 fun (v94 : Go.Value) (W95 : Go.SX.PW) =>
 ∃ (s96 : Go.SX.Sl),
 ∃ (s97 : Go.SX.Sl),
 ∃ (b98 : Bool),
 v94 = Go.Value.tuple { toList := [Go.Value.agg { toList := [Go.SX.Sl.v s96] }, Go.Value.agg { toList := [Go.SX.Sl.v s97] }, Go.Value.bool b98] } ∧
 Go.SX.callN Go.Proofs.Try.prog W0 M (46 : Nat) [Go.Value.agg { toList := [Go.SX.Sl.v a0_0, Go.Value.bool a0_1] }] W95 fun (v99 : Go.Value) (W100 : Go.SX.PW) =>
 ∃ (i101 : Int),
 v99 = Go.Value.int Go.IntKind.i64 i101 ∧
 Go.SX.callN Go.Proofs.Try.prog W0 M (43 : Nat) [Go.Value.bool (Decidable.decide (i101 < (0 : Int))), Go.Value.agg { toList := [Go.SX.Sl.v s91] }] W100 fun (v102 : Go.Value) (W103 : Go.SX.PW) =>
 ∃ (s104 : Go.SX.Sl),
 ∃ (b105 : Bool),
 v102 = Go.Value.agg { toList := [Go.SX.Sl.v s104, Go.Value.bool b105] } ∧
 Go.SX.callN Go.Proofs.Try.prog W0 M (38 : Nat) [Go.Value.agg { toList := [Go.SX.Sl.v s96] }] W103 fun (v106 : Go.Value) (W107 : Go.SX.PW) =>
 ∃ (i108 : Int),
 v106 = Go.Value.int Go.IntKind.i64 i108 ∧
 (i108 < (2 : Int) → ∀ (W109 : Go.SX.PW), Go.SX.Ext W107 W109 → Post (Go.Value.agg { toList := [Go.SX.Sl.v s104, Go.Value.bool b105, Go.Value.slice Option.none (0 : Nat) (0 : Nat)] }) W109) ∧
 (¬i108 < (2 : Int) → ∀ (W110 : Go.SX.PW), Go.SX.Ext W107 W110 → Post (Go.Value.agg { toList := [Go.SX.Sl.v s104, Go.Value.bool b105, Go.SX.Sl.v s96] }) W110))) ∧
 (¬(1 : Int) < i13 →
 Go.SX.callN Go.Proofs.Try.prog W0 M (38 : Nat) [Go.Value.agg { toList := [Go.SX.Sl.v a1_0] }] W12 fun (v111 : Go.Value) (W112 : Go.SX.PW) =>
 ∃ (i113 : Int),
 v111 = Go.Value.int Go.IntKind.i64 i113 ∧
 (i113 < (2 : Int) → ∀ (W114 : Go.SX.PW), Go.SX.Ext W112 W114 → Post (Go.Value.agg { toList := [Go.SX.Sl.v a0_0, Go.Value.bool a0_1, Go.Value.slice Option.none (0 : Nat) (0 : Nat)] }) W114) ∧ (¬i113 < (2 : Int) → ∀ (W115 : Go.SX.PW), Go.SX.Ext W112 W115 → Post (Go.Value.agg { toList := [Go.SX.Sl.v a0_0, Go.Value.bool a0_1, Go.SX.Sl.v a1_0] }) W115)))) ∧
 Go.SX.callN Go.Proofs.Try.prog W0 M (45 : Nat) [Go.Value.agg { toList := [Go.SX.Sl.v a0_0, Go.Value.bool a0_1] }] W2 fun (v116 : Go.Value) (W117 : Go.SX.PW) =>
 ∃ (s118 : Go.SX.Sl),
 v116 = Go.Value.agg { toList := [Go.SX.Sl.v s118] } ∧
 Go.SX.callN Go.Proofs.Try.prog W0 M (61 : Nat) [Go.Value.agg { toList := [Go.SX.Sl.v a1_0] }, Go.Value.agg { toList := [Go.SX.Sl.v s118] }] W117 fun (v119 : Go.Value) (W120 : Go.SX.PW) =>
 ∃ (s121 : Go.SX.Sl),
 v119 = Go.Value.agg { toList := [Go.SX.Sl.v s121] } ∧
 Go.SX.callN Go.Proofs.Try.prog W0 M (38 : Nat) [Go.Value.agg { toList := [Go.SX.Sl.v s121] }] W120 fun (v122 : Go.Value) (W123 : Go.SX.PW) =>
 ∃ (i124 : Int),
 v122 = Go.Value.int Go.IntKind.i64 i124 ∧
 ((1 : Int) < i124 →
 (Go.SX.callN Go.Proofs.Try.prog W0 M (45 : Nat) [Go.Value.agg { toList := [Go.SX.Sl.v a0_0, Go.Value.bool a0_1] }] W123 fun (v125 : Go.Value) (W126 : Go.SX.PW) =>
 ∃ (s127 : Go.SX.Sl),
 v125 = Go.Value.agg { toList := [Go.SX.Sl.v s127] } ∧
 (Go.SX.callN Go.Proofs.Try.prog W0 M (68 : Nat) [Go.Value.agg { toList := [Go.SX.Sl.v s127] }, Go.Value.agg { toList := [Go.SX.Sl.v s121] }] W126 fun (v128 : Go.Value) (W129 : Go.SX.PW) =>
 ∃ (s130 : Go.SX.Sl),
 ∃ (s131 : Go.SX.Sl),
 ∃ (b132 : Bool),
 v128 = Go.Value.tuple { toList := [Go.Value.agg { toList := [Go.SX.Sl.v s130] }, Go.Value.agg { toList := [Go.SX.Sl.v s131] }, Go.Value.bool b132] } ∧
 Go.SX.dup (1 : Nat)
 (Go.SX.callN Go.Proofs.Try.prog W0 M (68 : Nat) [Go.Value.agg { toList := [Go.SX.Sl.v a1_0] }, Go.Value.agg { toList := [Go.SX.Sl.v s121] }] W129 fun (v133 : Go.Value) (W134 : Go.SX.PW) =>
 ∃ (s135 : Go.SX.Sl),
 ∃ (s136 : Go.SX.Sl),
 ∃ (b137 : Bool),
 v133 = Go.Value.tuple { toList := [Go.Value.agg { toList := [Go.SX.Sl.v s135] }, Go.Value.agg { toList := [Go.SX.Sl.v s136] }, Go.Value.bool b137] } ∧
 Go.SX.callN Go.Proofs.Try.prog W0 M (46 : Nat) [Go.Value.agg { toList := [Go.SX.Sl.v a0_0, Go.Value.bool a0_1] }] W134 fun (v138 : Go.Value) (W139 : Go.SX.PW) =>
 ∃ (i140 : Int),
 v138 = Go.Value.int Go.IntKind.i64 i140 ∧
 Go.SX.callN Go.Proofs.Try.prog W0 M (43 : Nat) [Go.Value.bool (Decidable.decide (i140 < (0 : Int))), Go.Value.agg { toList := [Go.SX.Sl.v s130] }] W139 fun (v141 : Go.Value) (W142 : Go.SX.PW) =>
 ∃ (s143 : Go.SX.Sl),
 ∃ (b144 : Bool),
 v141 = Go.Value.agg { toList := [Go.SX.Sl.v s143, Go.Value.bool b144] } ∧
 Go.SX.callN Go.Proofs.Try.prog W0 M (38 : Nat) [Go.Value.agg { toList := [Go.SX.Sl.v s135] }] W142 fun (v145 : Go.Value) (W146 : Go.SX.PW) =>
 ∃ (i147 : Int),
 v145 = Go.Value.int Go.IntKind.i64 i147 ∧
 (i147 < (2 : Int) → ∀ (W148 : Go.SX.PW), Go.SX.Ext W146 W148 → Post (Go.Value.agg { toList := [Go.SX.Sl.v s143, Go.Value.bool b144, Go.Value.slice Option.none (0 : Nat) (0 : Nat)] }) W148) ∧
 (¬i147 < (2 : Int) → ∀ (W149 : Go.SX.PW), Go.SX.Ext W146 W149 → Post (Go.Value.agg { toList := [Go.SX.Sl.v s143, Go.Value.bool b144, Go.SX.Sl.v s135] }) W149))) ∧
 Go.SX.dup (1 : Nat)
 (Go.SX.dup (1 : Nat)
 (Go.SX.callN Go.Proofs.Try.prog W0 M (68 : Nat) [Go.Value.agg { toList := [Go.SX.Sl.v s127] }, Go.Value.agg { toList := [Go.SX.Sl.v s121] }] W126 fun (v150 : Go.Value) (W151 : Go.SX.PW) =>
 ∃ (s152 : Go.SX.Sl),
 ∃ (s153 : Go.SX.Sl),
 ∃ (b154 : Bool),
 v150 = Go.Value.tuple { toList := [Go.Value.agg { toList := [Go.SX.Sl.v s152] }, Go.Value.agg { toList := [Go.SX.Sl.v s153] }, Go.Value.bool b154] } ∧
 Go.SX.callN Go.Proofs.Try.prog W0 M (68 : Nat) [Go.Value.agg { toList := [Go.SX.Sl.v a1_0] }, Go.Value.agg { toList := [Go.SX.Sl.v s121] }] W151 fun (v155 : Go.Value) (W156 : Go.SX.PW) =>
 ∃ (s157 : Go.SX.Sl),
 ∃ (s158 : Go.SX.Sl),
 ∃ (b159 : Bool),
 v155 = Go.Value.tuple { toList := [Go.Value.agg { toList := [Go.SX.Sl.v s157] }, Go.Value.agg { toList := [Go.SX.Sl.v s158] }, Go.Value.bool b159] } ∧
 Go.SX.callN Go.Proofs.Try.prog W0 M (46 : Nat) [Go.Value.agg { toList := [Go.SX.Sl.v a0_0, Go.Value.bool a0_1] }] W156 fun (v160 : Go.Value) (W161 : Go.SX.PW) =>
 ∃ (i162 : Int),
 v160 = Go.Value.int Go.IntKind.i64 i162 ∧
 Go.SX.callN Go.Proofs.Try.prog W0 M (43 : Nat) [Go.Value.bool (Decidable.decide (i162 < (0 : Int))), Go.Value.agg { toList := [Go.SX.Sl.v s152] }] W161 fun (v163 : Go.Value) (W164 : Go.SX.PW) =>
 ∃ (s165 : Go.SX.Sl),
 ∃ (b166 : Bool),
 v163 = Go.Value.agg { toList := [Go.SX.Sl.v s165, Go.Value.bool b166] } ∧
 Go.SX.callN Go.Proofs.Try.prog W0 M (38 : Nat) [Go.Value.agg { toList := [Go.SX.Sl.v s157] }] W164 fun (v167 : Go.Value) (W168 : Go.SX.PW) =>
 ∃ (i169 : Int),
 v167 = Go.Value.int Go.IntKind.i64 i169 ∧
 (i169 < (2 : Int) → ∀ (W170 : Go.SX.PW), Go.SX.Ext W168 W170 → Post (Go.Value.agg { toList := [Go.SX.Sl.v s165, Go.Value.bool b166, Go.Value.slice Option.none (0 : Nat) (0 : Nat)] }) W170) ∧
 (¬i169 < (2 : Int) → ∀ (W171 : Go.SX.PW), Go.SX.Ext W168 W171 → Post (Go.Value.agg { toList := [Go.SX.Sl.v s165, Go.Value.bool b166, Go.SX.Sl.v s157] }) W171)))) ∧
 Go.SX.dup (1 : Nat)
 ((Go.SX.callN Go.Proofs.Try.prog W0 M (45 : Nat) [Go.Value.agg { toList := [Go.SX.Sl.v a0_0, Go.Value.bool a0_1] }] W123 fun (v172 : Go.Value) (W173 : Go.SX.PW) =>
 ∃ (s174 : Go.SX.Sl),
 v172 = Go.Value.agg { toList := [Go.SX.Sl.v s174] } ∧
 Go.SX.dup (1 : Nat)
 (Go.SX.callN Go.Proofs.Try.prog W0 M (68 : Nat) [Go.Value.agg { toList := [Go.SX.Sl.v s174] }, Go.Value.agg { toList := [Go.SX.Sl.v s121] }] W173 fun (v175 : Go.Value) (W176 : Go.SX.PW) =>
 ∃ (s177 : Go.SX.Sl),
 ∃ (s178 : Go.SX.Sl),
 ∃ (b179 : Bool),
 v175 = Go.Value.tuple { toList := [Go.Value.agg { toList := [Go.SX.Sl.v s177] }, Go.Value.agg { toList := [Go.SX.Sl.v s178] }, Go.Value.bool b179] } ∧
 Go.SX.callN Go.Proofs.Try.prog W0 M (68 : Nat) [Go.Value.agg { toList := [Go.SX.Sl.v a1_0] }, Go.Value.agg { toList := [Go.SX.Sl.v s121] }] W176 fun (v180 : Go.Value) (W181 : Go.SX.PW) =>
 ∃ (s182 : Go.SX.Sl),
 ∃ (s183 : Go.SX.Sl),
 ∃ (b184 : Bool),
 v180 = Go.Value.tuple { toList := [Go.Value.agg { toList := [Go.SX.Sl.v s182] }, Go.Value.agg { toList := [Go.SX.Sl.v s183] }, Go.Value.bool b184] } ∧
 Go.SX.callN Go.Proofs.Try.prog W0 M (46 : Nat) [Go.Value.agg { toList := [Go.SX.Sl.v a0_0, Go.Value.bool a0_1] }] W181 fun (v185 : Go.Value) (W186 : Go.SX.PW) =>
 ∃ (i187 : Int),
 v185 = Go.Value.int Go.IntKind.i64 i187 ∧
 Go.SX.callN Go.Proofs.Try.prog W0 M (43 : Nat) [Go.Value.bool (Decidable.decide (i187 < (0 : Int))), Go.Value.agg { toList := [Go.SX.Sl.v s177] }] W186 fun (v188 : Go.Value) (W189 : Go.SX.PW) =>
 ∃ (s190 : Go.SX.Sl),
 ∃ (b191 : Bool),
 v188 = Go.Value.agg { toList := [Go.SX.Sl.v s190, Go.Value.bool b191] } ∧
 Go.SX.callN Go.Proofs.Try.prog W0 M (38 : Nat) [Go.Value.agg { toList := [Go.SX.Sl.v s182] }] W189 fun (v192 : Go.Value) (W193 : Go.SX.PW) =>
 ∃ (i194 : Int),
 v192 = Go.Value.int Go.IntKind.i64 i194 ∧
 (i194 < (2 : Int) → ∀ (W195 : Go.SX.PW), Go.SX.Ext W193 W195 → Post (Go.Value.agg { toList := [Go.SX.Sl.v s190, Go.Value.bool b191, Go.Value.slice Option.none (0 : Nat) (0 : Nat)] }) W195) ∧
 (¬i194 < (2 : Int) → ∀ (W196 : Go.SX.PW), Go.SX.Ext W193 W196 → Post (Go.Value.agg { toList := [Go.SX.Sl.v s190, Go.Value.bool b191, Go.SX.Sl.v s182] }) W196))) ∧
 Go.SX.callN Go.Proofs.Try.prog W0 M (45 : Nat) [Go.Value.agg { toList := [Go.SX.Sl.v a0_0, Go.Value.bool a0_1] }] W123 fun (v197 : Go.Value) (W198 : Go.SX.PW) =>
 ∃ (s199 : Go.SX.Sl),
 v197 = Go.Value.agg { toList := [Go.SX.Sl.v s199] } ∧
 Go.SX.callN Go.Proofs.Try.prog W0 M (68 : Nat) [Go.Value.agg { toList := [Go.SX.Sl.v s199] }, Go.Value.agg { toList := [Go.SX.Sl.v s121] }] W198 fun (v200 : Go.Value) (W201 : Go.SX.PW) =>
 ∃ (s202 : Go.SX.Sl),
 ∃ (s203 : Go.SX.Sl),
 ∃ (b204 : Bool),
 v200 = Go.Value.tuple { toList := [Go.Value.agg { toList := [Go.SX.Sl.v s202] }, Go.Value.agg { toList := [Go.SX.Sl.v s203] }, Go.Value.bool b204] } ∧
 Go.SX.callN Go.Proofs.Try.prog W0 M (68 : Nat) [Go.Value.agg { toList := [Go.SX.Sl.v a1_0] }, Go.Value.agg { toList := [Go.SX.Sl.v s121] }] W201 fun (v205 : Go.Value) (W206 : Go.SX.PW) =>
 ∃ (s207 : Go.SX.Sl),
 ∃ (s208 : Go.SX.Sl),
 ∃ (b209 : Bool),
 v205 = Go.Value.tuple { toList := [Go.Value.agg { toList := [Go.SX.Sl.v s207] }, Go.Value.agg { toList := [Go.SX.Sl.v s208] }, Go.Value.bool b209] } ∧
 Go.SX.callN Go.Proofs.Try.prog W0 M (46 : Nat) [Go.Value.agg { toList := [Go.SX.Sl.v a0_0, Go.Value.bool a0_1] }] W206 fun (v210 : Go.Value) (W211 : Go.SX.PW) =>
 ∃ (i212 : Int),
 v210 = Go.Value.int Go.IntKind.i64 i212 ∧
 Go.SX.callN Go.Proofs.Try.prog W0 M (43 : Nat) [Go.Value.bool (Decidable.decide (i212 < (0 : Int))), Go.Value.agg { toList := [Go.SX.Sl.v s202] }] W211 fun (v213 : Go.Value) (W214 : Go.SX.PW) =>
 ∃ (s215 : Go.SX.Sl),
 ∃ (b216 : Bool),
 v213 = Go.Value.agg { toList := [Go.SX.Sl.v s215, Go.Value.bool b216] } ∧
 Go.SX.callN Go.Proofs.Try.prog W0 M (38 : Nat) [Go.Value.agg { toList := [Go.SX.Sl.v s207] }] W214 fun (v217 : Go.Value) (W218 : Go.SX.PW) =>
 ∃ (i219 : Int),
 v217 = Go.Value.int Go.IntKind.i64 i219 ∧
 (i219 < (2 : Int) → ∀ (W220 : Go.SX.PW), Go.SX.Ext W218 W220 → Post (Go.Value.agg { toList := [Go.SX.Sl.v s215, Go.Value.bool b216, Go.Value.slice Option.none (0 : Nat) (0 : Nat)] }) W220) ∧
 (¬i219 < (2 : Int) → ∀ (W221 : Go.SX.PW), Go.SX.Ext W218 W221 → Post (Go.Value.agg { toList := [Go.SX.Sl.v s215, Go.Value.bool b216, Go.SX.Sl.v s207] }) W221))) ∧
 (¬(1 : Int) < i124 →
 Go.SX.callN Go.Proofs.Try.prog W0 M (38 : Nat) [Go.Value.agg { toList := [Go.SX.Sl.v a1_0] }] W123 fun (v222 : Go.Value) (W223 : Go.SX.PW) =>
 ∃ (i224 : Int),
 v222 = Go.Value.int Go.IntKind.i64 i224 ∧
 (i224 < (2 : Int) → ∀ (W225 : Go.SX.PW), Go.SX.Ext W223 W225 → Post (Go.Value.agg { toList := [Go.SX.Sl.v a0_0, Go.Value.bool a0_1, Go.Value.slice Option.none (0 : Nat) (0 : Nat)] }) W225) ∧ (¬i224 < (2 : Int) → ∀ (W226 : Go.SX.PW), Go.SX.Ext W223 W226 → Post (Go.Value.agg { toList := [Go.SX.Sl.v a0_0, Go.Value.bool a0_1, Go.SX.Sl.v a1_0] }) W226)))) ∧
 (¬i3 < (2 : Int) →
 Go.SX.callN Go.Proofs.Try.prog W0 M (46 : Nat) [Go.Value.agg { toList := [Go.SX.Sl.v a0_0, Go.Value.bool a0_1] }] W2 fun (v227 : Go.Value) (W228 : Go.SX.PW) =>
 ∃ (i229 : Int),
 v227 = Go.Value.int Go.IntKind.i64 i229 ∧
 (i229 = (0 : Int) → ∀ (W230 : Go.SX.PW), Go.SX.Ext W228 W230 → Post (Go.Value.agg { toList := [Go.SX.Sl.v a0_0, Go.Value.bool a0_1, Go.Value.slice Option.none (0 : Nat) (0 : Nat)] }) W230) ∧
 (¬i229 = (0 : Int) →
 (Go.SX.callN Go.Proofs.Try.prog W0 M (45 : Nat) [Go.Value.agg { toList := [Go.SX.Sl.v a0_0, Go.Value.bool a0_1] }] W228 fun (v231 : Go.Value) (W232 : Go.SX.PW) =>
 ∃ (s233 : Go.SX.Sl),
 v231 = Go.Value.agg { toList := [Go.SX.Sl.v s233] } ∧
 Go.SX.dup (1 : Nat)
 (Go.SX.callN Go.Proofs.Try.prog W0 M (61 : Nat) [Go.Value.agg { toList := [Go.SX.Sl.v a1_0] }, Go.Value.agg { toList := [Go.SX.Sl.v s233] }] W232 fun (v234 : Go.Value) (W235 : Go.SX.PW) =>
 ∃ (s236 : Go.SX.Sl),
 v234 = Go.Value.agg { toList := [Go.SX.Sl.v s236] } ∧
 Go.SX.callN Go.Proofs.Try.prog W0 M (38 : Nat) [Go.Value.agg { toList := [Go.SX.Sl.v s236] }] W235 fun (v237 : Go.Value) (W238 : Go.SX.PW) =>
 ∃ (i239 : Int),
 v237 = Go.Value.int Go.IntKind.i64 i239 ∧
 ((1 : Int) < i239 →
 (Go.SX.callN Go.Proofs.Try.prog W0 M (45 : Nat) [Go.Value.agg { toList := [Go.SX.Sl.v a0_0, Go.Value.bool a0_1] }] W238 fun (v240 : Go.Value) (W241 : Go.SX.PW) =>
 ∃ (s242 : Go.SX.Sl),
 v240 = Go.Value.agg { toList := [Go.SX.Sl.v s242] } ∧
 (Go.SX.callN Go.Proofs.Try.prog W0 M (68 : Nat) [Go.Value.agg { toList := [Go.SX.Sl.v s242] }, Go.Value.agg { toList := [Go.SX.Sl.v s236] }] W241 fun (v243 : Go.Value) (W244 : Go.SX.PW) =>
 ∃ (s245 : Go.SX.Sl),
 ∃ (s246 : Go.SX.Sl),
 ∃ (b247 : Bool),
 v243 = Go.Value.tuple { toList := [Go.Value.agg { toList := [Go.SX.Sl.v s245] }, Go.Value.agg { toList := [Go.SX.Sl.v s246] }, Go.Value.bool b247] } ∧
 Go.SX.dup (1 : Nat)
 (Go.SX.callN Go.Proofs.Try.prog W0 M (68 : Nat) [Go.Value.agg { toList := [Go.SX.Sl.v a1_0] }, Go.Value.agg { toList := [Go.SX.Sl.v s236] }] W244 fun (v248 : Go.Value) (W249 : Go.SX.PW) =>
 ∃ (s250 : Go.SX.Sl),
 ∃ (s251 : Go.SX.Sl),
 ∃ (b252 : Bool),
 v248 = Go.Value.tuple { toList := [Go.Value.agg { toList := [Go.SX.Sl.v s250] }, Go.Value.agg { toList := [Go.SX.Sl.v s251] }, Go.Value.bool b252] } ∧
 Go.SX.callN Go.Proofs.Try.prog W0 M (46 : Nat) [Go.Value.agg { toList := [Go.SX.Sl.v a0_0, Go.Value.bool a0_1] }] W249 fun (v253 : Go.Value) (W254 : Go.SX.PW) =>
 ∃ (i255 : Int),
 v253 = Go.Value.int Go.IntKind.i64 i255 ∧
 Go.SX.callN Go.Proofs.Try.prog W0 M (43 : Nat) [Go.Value.bool (Decidable.decide (i255 < (0 : Int))), Go.Value.agg { toList := [Go.SX.Sl.v s245] }] W254 fun (v256 : Go.Value) (W257 : Go.SX.PW) =>
 ∃ (s258 : Go.SX.Sl),
 ∃ (b259 : Bool),
 v256 = Go.Value.agg { toList := [Go.SX.Sl.v s258, Go.Value.bool b259] } ∧
 Go.SX.callN Go.Proofs.Try.prog W0 M (38 : Nat) [Go.Value.agg { toList := [Go.SX.Sl.v s250] }] W257 fun (v260 : Go.Value) (W261 : Go.SX.PW) =>
 ∃ (i262 : Int),
 v260 = Go.Value.int Go.IntKind.i64 i262 ∧
 (i262 < (2 : Int) → ∀ (W263 : Go.SX.PW), Go.SX.Ext W261 W263 → Post (Go.Value.agg { toList := [Go.SX.Sl.v s258, Go.Value.bool b259, Go.Value.slice Option.none (0 : Nat) (0 : Nat)] }) W263) ∧
 (¬i262 < (2 : Int) → ∀ (W264 : Go.SX.PW), Go.SX.Ext W261 W264 → Post (Go.Value.agg { toList := [Go.SX.Sl.v s258, Go.Value.bool b259, Go.SX.Sl.v s250] }) W264))) ∧
 Go.SX.dup (1 : Nat)
 (Go.SX.dup (1 : Nat)
 (Go.SX.callN Go.Proofs.Try.prog W0 M (68 : Nat) [Go.Value.agg { toList := [Go.SX.Sl.v s242] }, Go.Value.agg { toList := [Go.SX.Sl.v s236] }] W241 fun (v265 : Go.Value) (W266 : Go.SX.PW) =>
 ∃ (s267 : Go.SX.Sl),
 ∃ (s268 : Go.SX.Sl),
 ∃ (b269 : Bool),
 v265 = Go.Value.tuple { toList := [Go.Value.agg { toList := [Go.SX.Sl.v s267] }, Go.Value.agg { toList := [Go.SX.Sl.v s268] }, Go.Value.bool b269] } ∧
 Go.SX.callN Go.Proofs.Try.prog W0 M (68 : Nat) [Go.Value.agg { toList := [Go.SX.Sl.v a1_0] }, Go.Value.agg { toList := [Go.SX.Sl.v s236] }] W266 fun (v270 : Go.Value) (W271 : Go.SX.PW) =>
 ∃ (s272 : Go.SX.Sl),
 ∃ (s273 : Go.SX.Sl),
 ∃ (b274 : Bool),
 v270 = Go.Value.tuple { toList := [Go.Value.agg { toList := [Go.SX.Sl.v s272] }, Go.Value.agg { toList := [Go.SX.Sl.v s273] }, Go.Value.bool b274] } ∧
 Go.SX.callN Go.Proofs.Try.prog W0 M (46 : Nat) [Go.Value.agg { toList := [Go.SX.Sl.v a0_0, Go.Value.bool a0_1] }] W271 fun (v275 : Go.Value) (W276 : Go.SX.PW) =>
 ∃ (i277 : Int),
 v275 = Go.Value.int Go.IntKind.i64 i277 ∧
 Go.SX.callN Go.Proofs.Try.prog W0 M (43 : Nat) [Go.Value.bool (Decidable.decide (i277 < (0 : Int))), Go.Value.agg { toList := [Go.SX.Sl.v s267] }] W276 fun (v278 : Go.Value) (W279 : Go.SX.PW) =>
 ∃ (s280 : Go.SX.Sl),
 ∃ (b281 : Bool),
 v278 = Go.Value.agg { toList := [Go.SX.Sl.v s280, Go.Value.bool b281] } ∧
 Go.SX.callN Go.Proofs.Try.prog W0 M (38 : Nat) [Go.Value.agg { toList := [Go.SX.Sl.v s272] }] W279 fun (v282 : Go.Value) (W283 : Go.SX.PW) =>
 ∃ (i284 : Int),
 v282 = Go.Value.int Go.IntKind.i64 i284 ∧
 (i284 < (2 : Int) → ∀ (W285 : Go.SX.PW), Go.SX.Ext W283 W285 → Post (Go.Value.agg { toList := [Go.SX.Sl.v s280, Go.Value.bool b281, Go.Value.slice Option.none (0 : Nat) (0 : Nat)] }) W285) ∧
 (¬i284 < (2 : Int) → ∀ (W286 : Go.SX.PW), Go.SX.Ext W283 W286 → Post (Go.Value.agg { toList := [Go.SX.Sl.v s280, Go.Value.bool b281, Go.SX.Sl.v s272] }) W286)))) ∧
 Go.SX.dup (1 : Nat)
 ((Go.SX.callN Go.Proofs.Try.prog W0 M (45 : Nat) [Go.Value.agg { toList := [Go.SX.Sl.v a0_0, Go.Value.bool a0_1] }] W238 fun (v287 : Go.Value) (W288 : Go.SX.PW) =>
 ∃ (s289 : Go.SX.Sl),
 v287 = Go.Value.agg { toList := [Go.SX.Sl.v s289] } ∧
 Go.SX.dup (1 : Nat)
 (Go.SX.callN Go.Proofs.Try.prog W0 M (68 : Nat) [Go.Value.agg { toList := [Go.SX.Sl.v s289] }, Go.Value.agg { toList := [Go.SX.Sl.v s236] }] W288 fun (v290 : Go.Value) (W291 : Go.SX.PW) =>
 ∃ (s292 : Go.SX.Sl),
 ∃ (s293 : Go.SX.Sl),
 ∃ (b294 : Bool),
 v290 = Go.Value.tuple { toList := [Go.Value.agg { toList := [Go.SX.Sl.v s292] }, Go.Value.agg { toList := [Go.SX.Sl.v s293] }, Go.Value.bool b294] } ∧
 Go.SX.callN Go.Proofs.Try.prog W0 M (68 : Nat) [Go.Value.agg { toList := [Go.SX.Sl.v a1_0] }, Go.Value.agg { toList := [Go.SX.Sl.v s236] }] W291 fun (v295 : Go.Value) (W296 : Go.SX.PW) =>
 ∃ (s297 : Go.SX.Sl),
 ∃ (s298 : Go.SX.Sl),
 ∃ (b299 : Bool),
 v295 = Go.Value.tuple { toList := [Go.Value.agg { toList := [Go.SX.Sl.v s297] }, Go.Value.agg { toList := [Go.SX.Sl.v s298] }, Go.Value.bool b299] } ∧
 Go.SX.callN Go.Proofs.Try.prog W0 M (46 : Nat) [Go.Value.agg { toList := [Go.SX.Sl.v a0_0, Go.Value.bool a0_1] }] W296 fun (v300 : Go.Value) (W301 : Go.SX.PW) =>
 ∃ (i302 : Int),
 v300 = Go.Value.int Go.IntKind.i64 i302 ∧
 Go.SX.callN Go.Proofs.Try.prog W0 M (43 : Nat) [Go.Value.bool (Decidable.decide (i302 < (0 : Int))), Go.Value.agg { toList := [Go.SX.Sl.v s292] }] W301 fun (v303 : Go.Value) (W304 : Go.SX.PW) =>
 ∃ (s305 : Go.SX.Sl),
 ∃ (b306 : Bool),
 v303 = Go.Value.agg { toList := [Go.SX.Sl.v s305, Go.Value.bool b306] } ∧
 Go.SX.callN Go.Proofs.Try.prog W0 M (38 : Nat) [Go.Value.agg { toList := [Go.SX.Sl.v s297] }] W304 fun (v307 : Go.Value) (W308 : Go.SX.PW) =>
 ∃ (i309 : Int),
 v307 = Go.Value.int Go.IntKind.i64 i309 ∧
 (i309 < (2 : Int) → ∀ (W310 : Go.SX.PW), Go.SX.Ext W308 W310 → Post (Go.Value.agg { toList := [Go.SX.Sl.v s305, Go.Value.bool b306, Go.Value.slice Option.none (0 : Nat) (0 : Nat)] }) W310) ∧
 (¬i309 < (2 : Int) → ∀ (W311 : Go.SX.PW), Go.SX.Ext W308 W311 → Post (Go.Value.agg { toList := [Go.SX.Sl.v s305, Go.Value.bool b306, Go.SX.Sl.v s297] }) W311))) ∧
 Go.SX.callN Go.Proofs.Try.prog W0 M (45 : Nat) [Go.Value.agg { toList := [Go.SX.Sl.v a0_0, Go.Value.bool a0_1] }] W238 fun (v312 : Go.Value) (W313 : Go.SX.PW) =>
 ∃ (s314 : Go.SX.Sl),
 v312 = Go.Value.agg { toList := [Go.SX.Sl.v s314] } ∧
 Go.SX.callN Go.Proofs.Try.prog W0 M (68 : Nat) [Go.Value.agg { toList := [Go.SX.Sl.v s314] }, Go.Value.agg { toList := [Go.SX.Sl.v s236] }] W313 fun (v315 : Go.Value) (W316 : Go.SX.PW) =>
 ∃ (s317 : Go.SX.Sl),
 ∃ (s318 : Go.SX.Sl),
 ∃ (b319 : Bool),
 v315 = Go.Value.tuple { toList := [Go.Value.agg { toList := [Go.SX.Sl.v s317] }, Go.Value.agg { toList := [Go.SX.Sl.v s318] }, Go.Value.bool b319] } ∧
 Go.SX.callN Go.Proofs.Try.prog W0 M (68 : Nat) [Go.Value.agg { toList := [Go.SX.Sl.v a1_0] }, Go.Value.agg { toList := [Go.SX.Sl.v s236] }] W316 fun (v320 : Go.Value) (W321 : Go.SX.PW) =>
 ∃ (s322 : Go.SX.Sl),
 ∃ (s323 : Go.SX.Sl),
 ∃ (b324 : Bool),
 v320 = Go.Value.tuple { toList := [Go.Value.agg { toList := [Go.SX.Sl.v s322] }, Go.Value.agg { toList := [Go.SX.Sl.v s323] }, Go.Value.bool b324] } ∧
 Go.SX.callN Go.Proofs.Try.prog W0 M (46 : Nat) [Go.Value.agg { toList := [Go.SX.Sl.v a0_0, Go.Value.bool a0_1] }] W321 fun (v325 : Go.Value) (W326 : Go.SX.PW) =>
 ∃ (i327 : Int),
 v325 = Go.Value.int Go.IntKind.i64 i327 ∧
 Go.SX.callN Go.Proofs.Try.prog W0 M (43 : Nat) [Go.Value.bool (Decidable.decide (i327 < (0 : Int))), Go.Value.agg { toList := [Go.SX.Sl.v s317] }] W326 fun (v328 : Go.Value) (W329 : Go.SX.PW) =>
 ∃ (s330 : Go.SX.Sl),
 ∃ (b331 : Bool),
 v328 = Go.Value.agg { toList := [Go.SX.Sl.v s330, Go.Value.bool b331] } ∧
 Go.SX.callN Go.Proofs.Try.prog W0 M (38 : Nat) [Go.Value.agg { toList := [Go.SX.Sl.v s322] }] W329 fun (v332 : Go.Value) (W333 : Go.SX.PW) =>
 ∃ (i334 : Int),
 v332 = Go.Value.int Go.IntKind.i64 i334 ∧
 (i334 < (2 : Int) → ∀ (W335 : Go.SX.PW), Go.SX.Ext W333 W335 → Post (Go.Value.agg { toList := [Go.SX.Sl.v s330, Go.Value.bool b331, Go.Value.slice Option.none (0 : Nat) (0 : Nat)] }) W335) ∧
 (¬i334 < (2 : Int) → ∀ (W336 : Go.SX.PW), Go.SX.Ext W333 W336 → Post (Go.Value.agg { toList := [Go.SX.Sl.v s330, Go.Value.bool b331, Go.SX.Sl.v s322] }) W336))) ∧
 (¬(1 : Int) < i239 →
 Go.SX.callN Go.Proofs.Try.prog W0 M (38 : Nat) [Go.Value.agg { toList := [Go.SX.Sl.v a1_0] }] W238 fun (v337 : Go.Value) (W338 : Go.SX.PW) =>
 ∃ (i339 : Int),
 v337 = Go.Value.int Go.IntKind.i64 i339 ∧
 (i339 < (2 : Int) → ∀ (W340 : Go.SX.PW), Go.SX.Ext W338 W340 → Post (Go.Value.agg { toList := [Go.SX.Sl.v a0_0, Go.Value.bool a0_1, Go.Value.slice Option.none (0 : Nat) (0 : Nat)] }) W340) ∧
 (¬i339 < (2 : Int) → ∀ (W341 : Go.SX.PW), Go.SX.Ext W338 W341 → Post (Go.Value.agg { toList := [Go.SX.Sl.v a0_0, Go.Value.bool a0_1, Go.SX.Sl.v a1_0] }) W341)))) ∧
 Go.SX.callN Go.Proofs.Try.prog W0 M (45 : Nat) [Go.Value.agg { toList := [Go.SX.Sl.v a0_0, Go.Value.bool a0_1] }] W228 fun (v342 : Go.Value) (W343 : Go.SX.PW) =>
 ∃ (s344 : Go.SX.Sl),
 v342 = Go.Value.agg { toList := [Go.SX.Sl.v s344] } ∧
 Go.SX.callN Go.Proofs.Try.prog W0 M (61 : Nat) [Go.Value.agg { toList := [Go.SX.Sl.v a1_0] }, Go.Value.agg { toList := [Go.SX.Sl.v s344] }] W343 fun (v345 : Go.Value) (W346 : Go.SX.PW) =>
 ∃ (s347 : Go.SX.Sl),
 v345 = Go.Value.agg { toList := [Go.SX.Sl.v s347] } ∧
 Go.SX.callN Go.Proofs.Try.prog W0 M (38 : Nat) [Go.Value.agg { toList := [Go.SX.Sl.v s347] }] W346 fun (v348 : Go.Value) (W349 : Go.SX.PW) =>
 ∃ (i350 : Int),
 v348 = Go.Value.int Go.IntKind.i64 i350 ∧
 ((1 : Int) < i350 →
 (Go.SX.callN Go.Proofs.Try.prog W0 M (45 : Nat) [Go.Value.agg { toList := [Go.SX.Sl.v a0_0, Go.Value.bool a0_1] }] W349 fun (v351 : Go.Value) (W352 : Go.SX.PW) =>
 ∃ (s353 : Go.SX.Sl),
 v351 = Go.Value.agg { toList := [Go.SX.Sl.v s353] } ∧
 (Go.SX.callN Go.Proofs.Try.prog W0 M (68 : Nat) [Go.Value.agg { toList := [Go.SX.Sl.v s353] }, Go.Value.agg { toList := [Go.SX.Sl.v s347] }] W352 fun (v354 : Go.Value) (W355 : Go.SX.PW) =>
 ∃ (s356 : Go.SX.Sl),
 ∃ (s357 : Go.SX.Sl),
 ∃ (b358 : Bool),
 v354 = Go.Value.tuple { toList := [Go.Value.agg { toList := [Go.SX.Sl.v s356] }, Go.Value.agg { toList := [Go.SX.Sl.v s357] }, Go.Value.bool b358] } ∧
 Go.SX.dup (1 : Nat)
 (Go.SX.callN Go.Proofs.Try.prog W0 M (68 : Nat) [Go.Value.agg { toList := [Go.SX.Sl.v a1_0] }, Go.Value.agg { toList := [Go.SX.Sl.v s347] }] W355 fun (v359 : Go.Value) (W360 : Go.SX.PW) =>
 ∃ (s361 : Go.SX.Sl),
 ∃ (s362 : Go.SX.Sl),
 ∃ (b363 : Bool),
 v359 = Go.Value.tuple { toList := [Go.Value.agg { toList := [Go.SX.Sl.v s361] }, Go.Value.agg { toList := [Go.SX.Sl.v s362] }, Go.Value.bool b363] } ∧
 Go.SX.callN Go.Proofs.Try.prog W0 M (46 : Nat) [Go.Value.agg { toList := [Go.SX.Sl.v a0_0, Go.Value.bool a0_1] }] W360 fun (v364 : Go.Value) (W365 : Go.SX.PW) =>
 ∃ (i366 : Int),
 v364 = Go.Value.int Go.IntKind.i64 i366 ∧
 Go.SX.callN Go.Proofs.Try.prog W0 M (43 : Nat) [Go.Value.bool (Decidable.decide (i366 < (0 : Int))), Go.Value.agg { toList := [Go.SX.Sl.v s356] }] W365 fun (v367 : Go.Value) (W368 : Go.SX.PW) =>
 ∃ (s369 : Go.SX.Sl),
 ∃ (b370 : Bool),
 v367 = Go.Value.agg { toList := [Go.SX.Sl.v s369, Go.Value.bool b370] } ∧
 Go.SX.callN Go.Proofs.Try.prog W0 M (38 : Nat) [Go.Value.agg { toList := [Go.SX.Sl.v s361] }] W368 fun (v371 : Go.Value) (W372 : Go.SX.PW) =>
 ∃ (i373 : Int),
 v371 = Go.Value.int Go.IntKind.i64 i373 ∧
 (i373 < (2 : Int) → ∀ (W374 : Go.SX.PW), Go.SX.Ext W372 W374 → Post (Go.Value.agg { toList := [Go.SX.Sl.v s369, Go.Value.bool b370, Go.Value.slice Option.none (0 : Nat) (0 : Nat)] }) W374) ∧
 (¬i373 < (2 : Int) → ∀ (W375 : Go.SX.PW), Go.SX.Ext W372 W375 → Post (Go.Value.agg { toList := [Go.SX.Sl.v s369, Go.Value.bool b370, Go.SX.Sl.v s361] }) W375))) ∧
 Go.SX.dup (1 : Nat)
 (Go.SX.dup (1 : Nat)
 (Go.SX.callN Go.Proofs.Try.prog W0 M (68 : Nat) [Go.Value.agg { toList := [Go.SX.Sl.v s353] }, Go.Value.agg { toList := [Go.SX.Sl.v s347] }] W352 fun (v376 : Go.Value) (W377 : Go.SX.PW) =>
 ∃ (s378 : Go.SX.Sl),
 ∃ (s379 : Go.SX.Sl),
 ∃ (b380 : Bool),
 v376 = Go.Value.tuple { toList := [Go.Value.agg { toList := [Go.SX.Sl.v s378] }, Go.Value.agg { toList := [Go.SX.Sl.v s379] }, Go.Value.bool b380] } ∧
 Go.SX.callN Go.Proofs.Try.prog W0 M (68 : Nat) [Go.Value.agg { toList := [Go.SX.Sl.v a1_0] }, Go.Value.agg { toList := [Go.SX.Sl.v s347] }] W377 fun (v381 : Go.Value) (W382 : Go.SX.PW) =>
 ∃ (s383 : Go.SX.Sl),
 ∃ (s384 : Go.SX.Sl),
 ∃ (b385 : Bool),
 v381 = Go.Value.tuple { toList := [Go.Value.agg { toList := [Go.SX.Sl.v s383] }, Go.Value.agg { toList := [Go.SX.Sl.v s384] }, Go.Value.bool b385] } ∧
 Go.SX.callN Go.Proofs.Try.prog W0 M (46 : Nat) [Go.Value.agg { toList := [Go.SX.Sl.v a0_0, Go.Value.bool a0_1] }] W382 fun (v386 : Go.Value) (W387 : Go.SX.PW) =>
 ∃ (i388 : Int),
 v386 = Go.Value.int Go.IntKind.i64 i388 ∧
 Go.SX.callN Go.Proofs.Try.prog W0 M (43 : Nat) [Go.Value.bool (Decidable.decide (i388 < (0 : Int))), Go.Value.agg { toList := [Go.SX.Sl.v s378] }] W387 fun (v389 : Go.Value) (W390 : Go.SX.PW) =>
 ∃ (s391 : Go.SX.Sl),
 ∃ (b392 : Bool),
 v389 = Go.Value.agg { toList := [Go.SX.Sl.v s391, Go.Value.bool b392] } ∧
 Go.SX.callN Go.Proofs.Try.prog W0 M (38 : Nat) [Go.Value.agg { toList := [Go.SX.Sl.v s383] }] W390 fun (v393 : Go.Value) (W394 : Go.SX.PW) =>
 ∃ (i395 : Int),
 v393 = Go.Value.int Go.IntKind.i64 i395 ∧
 (i395 < (2 : Int) → ∀ (W396 : Go.SX.PW), Go.SX.Ext W394 W396 → Post (Go.Value.agg { toList := [Go.SX.Sl.v s391, Go.Value.bool b392, Go.Value.slice Option.none (0 : Nat) (0 : Nat)] }) W396) ∧
 (¬i395 < (2 : Int) → ∀ (W397 : Go.SX.PW), Go.SX.Ext W394 W397 → Post (Go.Value.agg { toList := [Go.SX.Sl.v s391, Go.Value.bool b392, Go.SX.Sl.v s383] }) W397)))) ∧
 Go.SX.dup (1 : Nat)
 ((Go.SX.callN Go.Proofs.Try.prog W0 M (45 : Nat) [Go.Value.agg { toList := [Go.SX.Sl.v a0_0, Go.Value.bool a0_1] }] W349 fun (v398 : Go.Value) (W399 : Go.SX.PW) =>
 ∃ (s400 : Go.SX.Sl),
 v398 = Go.Value.agg { toList := [Go.SX.Sl.v s400] } ∧
 Go.SX.dup (1 : Nat)
 (Go.SX.callN Go.Proofs.Try.prog W0 M (68 : Nat) [Go.Value.agg { toList := [Go.SX.Sl.v s400] }, Go.Value.agg { toList := [Go.SX.Sl.v s347] }] W399 fun (v401 : Go.Value) (W402 : Go.SX.PW) =>
 ∃ (s403 : Go.SX.Sl),
 ∃ (s404 : Go.SX.Sl),
 ∃ (b405 : Bool),
 v401 = Go.Value.tuple { toList := [Go.Value.agg { toList := [Go.SX.Sl.v s403] }, Go.Value.agg { toList := [Go.SX.Sl.v s404] }, Go.Value.bool b405] } ∧
 Go.SX.callN Go.Proofs.Try.prog W0 M (68 : Nat) [Go.Value.agg { toList := [Go.SX.Sl.v a1_0] }, Go.Value.agg { toList := [Go.SX.Sl.v s347] }] W402 fun (v406 : Go.Value) (W407 : Go.SX.PW) =>
 ∃ (s408 : Go.SX.Sl),
 ∃ (s409 : Go.SX.Sl),
 ∃ (b410 : Bool),
 v406 = Go.Value.tuple { toList := [Go.Value.agg { toList := [Go.SX.Sl.v s408] }, Go.Value.agg { toList := [Go.SX.Sl.v s409] }, Go.Value.bool b410] } ∧
 Go.SX.callN Go.Proofs.Try.prog W0 M (46 : Nat) [Go.Value.agg { toList := [Go.SX.Sl.v a0_0, Go.Value.bool a0_1] }] W407 fun (v411 : Go.Value) (W412 : Go.SX.PW) =>
 ∃ (i413 : Int),
 v411 = Go.Value.int Go.IntKind.i64 i413 ∧
 Go.SX.callN Go.Proofs.Try.prog W0 M (43 : Nat) [Go.Value.bool (Decidable.decide (i413 < (0 : Int))), Go.Value.agg { toList := [Go.SX.Sl.v s403] }] W412 fun (v414 : Go.Value) (W415 : Go.SX.PW) =>
 ∃ (s416 : Go.SX.Sl),
 ∃ (b417 : Bool),
 v414 = Go.Value.agg { toList := [Go.SX.Sl.v s416, Go.Value.bool b417] } ∧
 Go.SX.callN Go.Proofs.Try.prog W0 M (38 : Nat) [Go.Value.agg { toList := [Go.SX.Sl.v s408] }] W415 fun (v418 : Go.Value) (W419 : Go.SX.PW) =>
 ∃ (i420 : Int),
 v418 = Go.Value.int Go.IntKind.i64 i420 ∧
 (i420 < (2 : Int) → ∀ (W421 : Go.SX.PW), Go.SX.Ext W419 W421 → Post (Go.Value.agg { toList := [Go.SX.Sl.v s416, Go.Value.bool b417, Go.Value.slice Option.none (0 : Nat) (0 : Nat)] }) W421) ∧
 (¬i420 < (2 : Int) → ∀ (W422 : Go.SX.PW), Go.SX.Ext W419 W422 → Post (Go.Value.agg { toList := [Go.SX.Sl.v s416, Go.Value.bool b417, Go.SX.Sl.v s408] }) W422))) ∧
 Go.SX.callN Go.Proofs.Try.prog W0 M (45 : Nat) [Go.Value.agg { toList := [Go.SX.Sl.v a0_0, Go.Value.bool a0_1] }] W349 fun (v423 : Go.Value) (W424 : Go.SX.PW) =>
 ∃ (s425 : Go.SX.Sl),
 v423 = Go.Value.agg { toList := [Go.SX.Sl.v s425] } ∧
 Go.SX.callN Go.Proofs.Try.prog W0 M (68 : Nat) [Go.Value.agg { toList := [Go.SX.Sl.v s425] }, Go.Value.agg { toList := [Go.SX.Sl.v s347] }] W424 fun (v426 : Go.Value) (W427 : Go.SX.PW) =>
 ∃ (s428 : Go.SX.Sl),
 ∃ (s429 : Go.SX.Sl),
 ∃ (b430 : Bool),
 v426 = Go.Value.tuple { toList := [Go.Value.agg { toList := [Go.SX.Sl.v s428] }, Go.Value.agg { toList := [Go.SX.Sl.v s429] }, Go.Value.bool b430] } ∧
 Go.SX.callN Go.Proofs.Try.prog W0 M (68 : Nat) [Go.Value.agg { toList := [Go.SX.Sl.v a1_0] }, Go.Value.agg { toList := [Go.SX.Sl.v s347] }] W427 fun (v431 : Go.Value) (W432 : Go.SX.PW) =>
 ∃ (s433 : Go.SX.Sl),
 ∃ (s434 : Go.SX.Sl),
 ∃ (b435 : Bool),
 v431 = Go.Value.tuple { toList := [Go.Value.agg { toList := [Go.SX.Sl.v s433] }, Go.Value.agg { toList := [Go.SX.Sl.v s434] }, Go.Value.bool b435] } ∧
 Go.SX.callN Go.Proofs.Try.prog W0 M (46 : Nat) [Go.Value.agg { toList := [Go.SX.Sl.v a0_0, Go.Value.bool a0_1] }] W432 fun (v436 : Go.Value) (W437 : Go.SX.PW) =>
 ∃ (i438 : Int),
 v436 = Go.Value.int Go.IntKind.i64 i438 ∧
 Go.SX.callN Go.Proofs.Try.prog W0 M (43 : Nat) [Go.Value.bool (Decidable.decide (i438 < (0 : Int))), Go.Value.agg { toList := [Go.SX.Sl.v s428] }] W437 fun (v439 : Go.Value) (W440 : Go.SX.PW) =>
 ∃ (s441 : Go.SX.Sl),
 ∃ (b442 : Bool),
 v439 = Go.Value.agg { toList := [Go.SX.Sl.v s441, Go.Value.bool b442] } ∧
 Go.SX.callN Go.Proofs.Try.prog W0 M (38 : Nat) [Go.Value.agg { toList := [Go.SX.Sl.v s433] }] W440 fun (v443 : Go.Value) (W444 : Go.SX.PW) =>
 ∃ (i445 : Int),
 v443 = Go.Value.int Go.IntKind.i64 i445 ∧
 (i445 < (2 : Int) → ∀ (W446 : Go.SX.PW), Go.SX.Ext W444 W446 → Post (Go.Value.agg { toList := [Go.SX.Sl.v s441, Go.Value.bool b442, Go.Value.slice Option.none (0 : Nat) (0 : Nat)] }) W446) ∧
 (¬i445 < (2 : Int) → ∀ (W447 : Go.SX.PW), Go.SX.Ext W444 W447 → Post (Go.Value.agg { toList := [Go.SX.Sl.v s441, Go.Value.bool b442, Go.SX.Sl.v s433] }) W447))) ∧
 (¬(1 : Int) < i350 →
 Go.SX.callN Go.Proofs.Try.prog W0 M (38 : Nat) [Go.Value.agg { toList := [Go.SX.Sl.v a1_0] }] W349 fun (v448 : Go.Value) (W449 : Go.SX.PW) =>
 ∃ (i450 : Int),
 v448 = Go.Value.int Go.IntKind.i64 i450 ∧
 (i450 < (2 : Int) → ∀ (W451 : Go.SX.PW), Go.SX.Ext W449 W451 → Post (Go.Value.agg { toList := [Go.SX.Sl.v a0_0, Go.Value.bool a0_1, Go.Value.slice Option.none (0 : Nat) (0 : Nat)] }) W451) ∧
 (¬i450 < (2 : Int) → ∀ (W452 : Go.SX.PW), Go.SX.Ext W449 W452 → Post (Go.Value.agg { toList := [Go.SX.Sl.v a0_0, Go.Value.bool a0_1, Go.SX.Sl.v a1_0] }) W452))))
theorem callrat_least (W0 : Go.SX.PW) (M : Nat → Prop) (a0_0 : Go.SX.Sl) (a0_1 : Bool) (a1_0 : Go.SX.Sl) (Post : Go.Value → Go.SX.PW → Prop) (h : Rrat_least W0 M a0_0 a0_1 a1_0 Post) : Go.SX.PCallsM Go.Proofs.Try.prog 42 [Go.Value.agg #[Go.SX.Sl.v a0_0, Go.Value.bool a0_1], Go.Value.agg #[Go.SX.Sl.v a1_0]] W0 M Post :=
  Go.SX.fn_sound rfl tt_ok tt_in Go.Proofs.Try.func42 (cuts := []) rfl rfl (Nat.le_of_ble_eq_true rfl) (Eq.mpr (by kernel_rfl) h)
end Go.Proofs.Ytcffcndpefaalaa
