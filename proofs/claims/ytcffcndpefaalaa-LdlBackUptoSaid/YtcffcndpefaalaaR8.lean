/- R8 -/
import Derived.Test.YtcffcndpefaalaaTt
set_option linter.unusedVariables false
set_option linter.unusedSimpArgs false
set_option maxRecDepth 100000
set_option linter.unusedVariables false
namespace Go.Proofs.Ytcffcndpefaalaa
def Rldl_Of (W0 : Go.SX.PW) (M : Nat → Prop) (a0 : Go.SX.Sl) (Post : Go.Value → Go.SX.PW → Prop) : Prop :=
 Go.SX.callN Go.Proofs.Try.prog W0 M (19 : Nat) [Go.SX.Sl.v a0] W0 fun (v1 : Go.Value) (W2 : Go.SX.PW) =>
 ∃ (b3 : Bool),
 v1 = Go.Value.bool b3 ∧
 ((!b3) = Bool.true → ∀ (W4 : Go.SX.PW), Go.SX.Ext W2 W4 → Post (Go.Value.tuple { toList := [Go.Value.slice Option.none (0 : Nat) (0 : Nat), Go.Value.slice Option.none (0 : Nat) (0 : Nat), Go.Value.bool Bool.false] }) W4) ∧
 ((!b3) = Bool.false →
 (Go.SX.callN Go.Proofs.Try.prog W0 M (9 : Nat) [Go.Value.int Go.IntKind.i64 (↑a0.2 : Int)] W2 fun (v5 : Go.Value) (W6 : Go.SX.PW) =>
 ∃ (s7 : Go.SX.Sl),
 v5 = Go.SX.Sl.v s7 ∧
 ((↑a0.2 : Int) = (↑a0.2 : Int) ∧ (0 : Int) ≤ (↑a0.2 : Int) ∧ (↑a0.2 : Int) * (↑(56 : Nat) : Int) ≤ (281474976710656 : Int)) ∧
 ∀ (s8 : Go.SX.Sl) (W9 : Go.SX.PW),
 Go.SX.Ext W6 W9 →
 Go.SX.Own W9 (43 : Nat) (3 : Nat) s8 (List.replicate (Int.toNat (↑a0.2 : Int)) [Go.Value.slice Option.none (0 : Nat) (0 : Nat), Go.Value.bool Bool.false, Go.Value.slice Option.none (0 : Nat) (0 : Nat)]) →
 (∀ (n10 : Nat), Go.Value.ownBlock (Go.SX.Sl.v s8) = Option.some n10 → Array.size (Go.SX.PW.w W0).1 ≤ n10 ∧ (n10 < Array.size (Go.SX.PW.w W6).1 → W6.2 n10)) →
 ∃ (F11 : List Go.SX.PL → Go.SX.PW → Prop),
 ∃ (F12 : List Go.SX.PL → Go.SX.PW → Nat),
 F11 [Go.SX.PL.val (Go.Value.int Go.IntKind.i64 (0 : Int))] W9 ∧
 ∀ (i13 : Int) (W14 : Go.SX.PW),
 F11 [Go.SX.PL.val (Go.Value.int Go.IntKind.i64 i13)] W14 →
 (i13 < (↑a0.2 : Int) →
 Go.SX.callN Go.Proofs.Try.prog W0 M (20 : Nat) [Go.SX.Sl.v a0, Go.SX.Sl.v s7, Go.SX.Sl.v s8, Go.Value.int Go.IntKind.i64 i13, Go.Value.int Go.IntKind.i64 i13] W14 fun (v15 : Go.Value) (W16 : Go.SX.PW) =>
 ∃ (s17 : Go.SX.Sl),
 ∃ (b18 : Bool),
 ∃ (s19 : Go.SX.Sl),
 v15 = Go.Value.agg { toList := [Go.SX.Sl.v s17, Go.Value.bool b18, Go.SX.Sl.v s19] } ∧
 Go.SX.inB s8 i13 ∧
 Go.SX.storeN W0 M s8 (Int.toNat i13 * (3 : Nat) + (0 : Nat)) [Go.SX.Sl.v s17, Go.Value.bool b18, Go.SX.Sl.v s19] W16 fun (W20 : Go.SX.PW) =>
 Go.SX.I64 (i13 + (1 : Int)) ∧
 ∃ (F21 : List Go.SX.PL → Go.SX.PW → Prop),
 ∃ (F22 : List Go.SX.PL → Go.SX.PW → Nat),
 F21 [Go.SX.PL.val (Go.Value.int Go.IntKind.i64 (i13 + (1 : Int)))] W20 ∧
 ∀ (i23 : Int) (W24 : Go.SX.PW),
 F21 [Go.SX.PL.val (Go.Value.int Go.IntKind.i64 i23)] W24 →
 (i23 < (↑a0.2 : Int) →
 Go.SX.callN Go.Proofs.Try.prog W0 M (20 : Nat) [Go.SX.Sl.v a0, Go.SX.Sl.v s7, Go.SX.Sl.v s8, Go.Value.int Go.IntKind.i64 i23, Go.Value.int Go.IntKind.i64 i13] W24 fun (v25 : Go.Value) (W26 : Go.SX.PW) =>
 ∃ (s27 : Go.SX.Sl),
 ∃ (b28 : Bool),
 ∃ (s29 : Go.SX.Sl),
 v25 = Go.Value.agg { toList := [Go.SX.Sl.v s27, Go.Value.bool b28, Go.SX.Sl.v s29] } ∧
 Go.SX.inB s8 i13 ∧
 ∃ (s30 : Go.SX.Sl),
 ∃ (b31 : Bool),
 ∃ (s32 : Go.SX.Sl),
 Go.SX.ElemAt W26 s8 (3 : Nat) (Int.toNat i13) (0 : Nat) [Go.SX.Sl.v s30, Go.Value.bool b31, Go.SX.Sl.v s32] ∧
 (Go.SX.callN Go.Proofs.Try.prog W0 M (21 : Nat) [Go.Value.agg { toList := [Go.SX.Sl.v s27, Go.Value.bool b28, Go.SX.Sl.v s29] }, Go.Value.agg { toList := [Go.SX.Sl.v s30, Go.Value.bool b31, Go.SX.Sl.v s32] }] W26 fun (v33 : Go.Value) (W34 : Go.SX.PW) =>
 ∃ (s35 : Go.SX.Sl),
 ∃ (b36 : Bool),
 ∃ (s37 : Go.SX.Sl),
 ∃ (b38 : Bool),
 v33 = Go.Value.tuple { toList := [Go.Value.agg { toList := [Go.SX.Sl.v s35, Go.Value.bool b36, Go.SX.Sl.v s37] }, Go.Value.bool b38] } ∧
 ∃ (F39 : List Go.SX.PL → Go.SX.PW → Prop),
 (((!b38) = Bool.true →
 Go.SX.callN Go.Proofs.Try.prog W0 M (22 : Nat) [Go.Value.agg { toList := [Go.SX.Sl.v s27, Go.Value.bool b28, Go.SX.Sl.v s29] }] W34 fun (v40 : Go.Value) (W41 : Go.SX.PW) =>
 ∃ (i42 : Int),
 v40 = Go.Value.int Go.IntKind.i64 i42 ∧
 (i42 ≠ (0 : Int) → ∀ (W43 : Go.SX.PW), Go.SX.Ext W41 W43 → Post (Go.Value.tuple { toList := [Go.Value.slice Option.none (0 : Nat) (0 : Nat), Go.Value.slice Option.none (0 : Nat) (0 : Nat), Go.Value.bool Bool.false] }) W43) ∧
 (¬i42 ≠ (0 : Int) → F39 [Go.SX.PL.val (Go.Value.bool b38), Go.SX.PL.val (Go.Value.bool Bool.true)] W41)) ∧
 ((!b38) = Bool.false →
 (Bool.false = Bool.true → ∀ (W44 : Go.SX.PW), Go.SX.Ext W34 W44 → Post (Go.Value.tuple { toList := [Go.Value.slice Option.none (0 : Nat) (0 : Nat), Go.Value.slice Option.none (0 : Nat) (0 : Nat), Go.Value.bool Bool.false] }) W44) ∧
 (Bool.false = Bool.false → F39 [Go.SX.PL.val (Go.Value.bool b38), Go.SX.PL.val (Go.Value.bool Bool.false)] W34))) ∧
 ∀ (b45 b46 : Bool) (W47 : Go.SX.PW),
 F39 [Go.SX.PL.val (Go.Value.bool b45), Go.SX.PL.val (Go.Value.bool b46)] W47 →
 Go.SX.inB s7 i23 ∧
 ∃ (s48 : Go.SX.Sl),
 Go.SX.ElemAt W47 s7 (1 : Nat) (Int.toNat i23) (0 : Nat) [Go.SX.Sl.v s48] ∧
 Go.SX.inB s48 i13 ∧
 Go.SX.storeN W0 M s48 (Int.toNat i13 * (3 : Nat) + (0 : Nat)) [Go.SX.Sl.v s35, Go.Value.bool b36, Go.SX.Sl.v s37] W47 fun (W49 : Go.SX.PW) =>
 Go.SX.I64 (i23 + (1 : Int)) ∧ F21 [Go.SX.PL.val (Go.Value.int Go.IntKind.i64 (i23 + (1 : Int)))] W49 ∧ F22 [Go.SX.PL.val (Go.Value.int Go.IntKind.i64 (i23 + (1 : Int)))] W49 < F22 [Go.SX.PL.val (Go.Value.int Go.IntKind.i64 i23)] W24) ∧
 Go.SX.Ext W26 W26 ∧
 Go.SX.callN Go.Proofs.Try.prog W0 M (21 : Nat) [Go.Value.agg { toList := [Go.SX.Sl.v s27, Go.Value.bool b28, Go.SX.Sl.v s29] }, Go.Value.agg { toList := [Go.SX.Sl.v s30, Go.Value.bool b31, Go.SX.Sl.v s32] }] W26 fun (v50 : Go.Value) (W51 : Go.SX.PW) =>
 ∃ (s52 : Go.SX.Sl),
 ∃ (b53 : Bool),
 ∃ (s54 : Go.SX.Sl),
 ∃ (b55 : Bool),
 v50 = Go.Value.tuple { toList := [Go.Value.agg { toList := [Go.SX.Sl.v s52, Go.Value.bool b53, Go.SX.Sl.v s54] }, Go.Value.bool b55] } ∧
 ∃ (F56 : List Go.SX.PL → Go.SX.PW → Prop),
 (((!b55) = Bool.true →
 Go.SX.callN Go.Proofs.Try.prog W0 M (22 : Nat) [Go.Value.agg { toList := [Go.SX.Sl.v s27, Go.Value.bool b28, Go.SX.Sl.v s29] }] W51 fun (v57 : Go.Value) (W58 : Go.SX.PW) =>
 ∃ (i59 : Int),
 v57 = Go.Value.int Go.IntKind.i64 i59 ∧
 (i59 ≠ (0 : Int) → ∀ (W60 : Go.SX.PW), Go.SX.Ext W58 W60 → Post (Go.Value.tuple { toList := [Go.Value.slice Option.none (0 : Nat) (0 : Nat), Go.Value.slice Option.none (0 : Nat) (0 : Nat), Go.Value.bool Bool.false] }) W60) ∧
 (¬i59 ≠ (0 : Int) → F56 [Go.SX.PL.val (Go.Value.bool b55), Go.SX.PL.val (Go.Value.bool Bool.true)] W58)) ∧
 ((!b55) = Bool.false →
 (Bool.false = Bool.true → ∀ (W61 : Go.SX.PW), Go.SX.Ext W51 W61 → Post (Go.Value.tuple { toList := [Go.Value.slice Option.none (0 : Nat) (0 : Nat), Go.Value.slice Option.none (0 : Nat) (0 : Nat), Go.Value.bool Bool.false] }) W61) ∧
 (Bool.false = Bool.false → F56 [Go.SX.PL.val (Go.Value.bool b55), Go.SX.PL.val (Go.Value.bool Bool.false)] W51))) ∧
 ∀ (b62 b63 : Bool) (W64 : Go.SX.PW),
 F56 [Go.SX.PL.val (Go.Value.bool b62), Go.SX.PL.val (Go.Value.bool b63)] W64 →
 Go.SX.inB s7 i23 ∧
 ∃ (s65 : Go.SX.Sl),
 Go.SX.ElemAt W64 s7 (1 : Nat) (Int.toNat i23) (0 : Nat) [Go.SX.Sl.v s65] ∧
 Go.SX.inB s65 i13 ∧
 Go.SX.storeN W0 M s65 (Int.toNat i13 * (3 : Nat) + (0 : Nat)) [Go.SX.Sl.v s52, Go.Value.bool b53, Go.SX.Sl.v s54] W64 fun (W66 : Go.SX.PW) =>
 Go.SX.I64 (i23 + (1 : Int)) ∧ F21 [Go.SX.PL.val (Go.Value.int Go.IntKind.i64 (i23 + (1 : Int)))] W66 ∧ F22 [Go.SX.PL.val (Go.Value.int Go.IntKind.i64 (i23 + (1 : Int)))] W66 < F22 [Go.SX.PL.val (Go.Value.int Go.IntKind.i64 i23)] W24) ∧
 (¬i23 < (↑a0.2 : Int) → Go.SX.I64 (i13 + (1 : Int)) ∧ F11 [Go.SX.PL.val (Go.Value.int Go.IntKind.i64 (i13 + (1 : Int)))] W24 ∧ F12 [Go.SX.PL.val (Go.Value.int Go.IntKind.i64 (i13 + (1 : Int)))] W24 < F12 [Go.SX.PL.val (Go.Value.int Go.IntKind.i64 i13)] W14)) ∧
 (¬i13 < (↑a0.2 : Int) → ∀ (W67 : Go.SX.PW), Go.SX.Ext W14 W67 → Post (Go.Value.tuple { toList := [Go.SX.Sl.v s7, Go.SX.Sl.v s8, Go.Value.bool Bool.true] }) W67)) ∧
 ((↑a0.2 : Int) = (↑a0.2 : Int) ∧ (0 : Int) ≤ (↑a0.2 : Int) ∧ (↑a0.2 : Int) * (↑(56 : Nat) : Int) ≤ (281474976710656 : Int)) ∧
 Go.SX.callN Go.Proofs.Try.prog W0 M (9 : Nat) [Go.Value.int Go.IntKind.i64 (↑a0.2 : Int)] W2 fun (v68 : Go.Value) (W69 : Go.SX.PW) =>
 ∃ (s70 : Go.SX.Sl),
 v68 = Go.SX.Sl.v s70 ∧
 ∀ (s71 : Go.SX.Sl) (W72 : Go.SX.PW),
 Go.SX.Ext W69 W72 →
 Go.SX.Own W72 (43 : Nat) (3 : Nat) s71 (List.replicate (Int.toNat (↑a0.2 : Int)) [Go.Value.slice Option.none (0 : Nat) (0 : Nat), Go.Value.bool Bool.false, Go.Value.slice Option.none (0 : Nat) (0 : Nat)]) →
 (∀ (n73 : Nat), Go.Value.ownBlock (Go.SX.Sl.v s71) = Option.some n73 → Array.size (Go.SX.PW.w W0).1 ≤ n73 ∧ (n73 < Array.size (Go.SX.PW.w W69).1 → W69.2 n73)) →
 ∃ (F74 : List Go.SX.PL → Go.SX.PW → Prop),
 ∃ (F75 : List Go.SX.PL → Go.SX.PW → Nat),
 F74 [Go.SX.PL.val (Go.Value.int Go.IntKind.i64 (0 : Int))] W72 ∧
 ∀ (i76 : Int) (W77 : Go.SX.PW),
 F74 [Go.SX.PL.val (Go.Value.int Go.IntKind.i64 i76)] W77 →
 (i76 < (↑a0.2 : Int) →
 Go.SX.callN Go.Proofs.Try.prog W0 M (20 : Nat) [Go.SX.Sl.v a0, Go.SX.Sl.v s70, Go.SX.Sl.v s71, Go.Value.int Go.IntKind.i64 i76, Go.Value.int Go.IntKind.i64 i76] W77 fun (v78 : Go.Value) (W79 : Go.SX.PW) =>
 ∃ (s80 : Go.SX.Sl),
 ∃ (b81 : Bool),
 ∃ (s82 : Go.SX.Sl),
 v78 = Go.Value.agg { toList := [Go.SX.Sl.v s80, Go.Value.bool b81, Go.SX.Sl.v s82] } ∧
 Go.SX.inB s71 i76 ∧
 Go.SX.storeN W0 M s71 (Int.toNat i76 * (3 : Nat) + (0 : Nat)) [Go.SX.Sl.v s80, Go.Value.bool b81, Go.SX.Sl.v s82] W79 fun (W83 : Go.SX.PW) =>
 Go.SX.I64 (i76 + (1 : Int)) ∧
 ∃ (F84 : List Go.SX.PL → Go.SX.PW → Prop),
 ∃ (F85 : List Go.SX.PL → Go.SX.PW → Nat),
 F84 [Go.SX.PL.val (Go.Value.int Go.IntKind.i64 (i76 + (1 : Int)))] W83 ∧
 ∀ (i86 : Int) (W87 : Go.SX.PW),
 F84 [Go.SX.PL.val (Go.Value.int Go.IntKind.i64 i86)] W87 →
 (i86 < (↑a0.2 : Int) →
 Go.SX.callN Go.Proofs.Try.prog W0 M (20 : Nat) [Go.SX.Sl.v a0, Go.SX.Sl.v s70, Go.SX.Sl.v s71, Go.Value.int Go.IntKind.i64 i86, Go.Value.int Go.IntKind.i64 i76] W87 fun (v88 : Go.Value) (W89 : Go.SX.PW) =>
 ∃ (s90 : Go.SX.Sl),
 ∃ (b91 : Bool),
 ∃ (s92 : Go.SX.Sl),
 v88 = Go.Value.agg { toList := [Go.SX.Sl.v s90, Go.Value.bool b91, Go.SX.Sl.v s92] } ∧
 Go.SX.inB s71 i76 ∧
 ∃ (s93 : Go.SX.Sl),
 ∃ (b94 : Bool),
 ∃ (s95 : Go.SX.Sl),
 Go.SX.ElemAt W89 s71 (3 : Nat) (Int.toNat i76) (0 : Nat) [Go.SX.Sl.v s93, Go.Value.bool b94, Go.SX.Sl.v s95] ∧
 (Go.SX.callN Go.Proofs.Try.prog W0 M (21 : Nat) [Go.Value.agg { toList := [Go.SX.Sl.v s90, Go.Value.bool b91, Go.SX.Sl.v s92] }, Go.Value.agg { toList := [Go.SX.Sl.v s93, Go.Value.bool b94, Go.SX.Sl.v s95] }] W89 fun (v96 : Go.Value) (W97 : Go.SX.PW) =>
 ∃ (s98 : Go.SX.Sl),
 ∃ (b99 : Bool),
 ∃ (s100 : Go.SX.Sl),
 ∃ (b101 : Bool),
 v96 = Go.Value.tuple { toList := [Go.Value.agg { toList := [Go.SX.Sl.v s98, Go.Value.bool b99, Go.SX.Sl.v s100] }, Go.Value.bool b101] } ∧
 ∃ (F102 : List Go.SX.PL → Go.SX.PW → Prop),
 (((!b101) = Bool.true →
 Go.SX.callN Go.Proofs.Try.prog W0 M (22 : Nat) [Go.Value.agg { toList := [Go.SX.Sl.v s90, Go.Value.bool b91, Go.SX.Sl.v s92] }] W97 fun (v103 : Go.Value) (W104 : Go.SX.PW) =>
 ∃ (i105 : Int),
 v103 = Go.Value.int Go.IntKind.i64 i105 ∧
 (i105 ≠ (0 : Int) → ∀ (W106 : Go.SX.PW), Go.SX.Ext W104 W106 → Post (Go.Value.tuple { toList := [Go.Value.slice Option.none (0 : Nat) (0 : Nat), Go.Value.slice Option.none (0 : Nat) (0 : Nat), Go.Value.bool Bool.false] }) W106) ∧
 (¬i105 ≠ (0 : Int) → F102 [Go.SX.PL.val (Go.Value.bool b101), Go.SX.PL.val (Go.Value.bool Bool.true)] W104)) ∧
 ((!b101) = Bool.false →
 (Bool.false = Bool.true → ∀ (W107 : Go.SX.PW), Go.SX.Ext W97 W107 → Post (Go.Value.tuple { toList := [Go.Value.slice Option.none (0 : Nat) (0 : Nat), Go.Value.slice Option.none (0 : Nat) (0 : Nat), Go.Value.bool Bool.false] }) W107) ∧
 (Bool.false = Bool.false → F102 [Go.SX.PL.val (Go.Value.bool b101), Go.SX.PL.val (Go.Value.bool Bool.false)] W97))) ∧
 ∀ (b108 b109 : Bool) (W110 : Go.SX.PW),
 F102 [Go.SX.PL.val (Go.Value.bool b108), Go.SX.PL.val (Go.Value.bool b109)] W110 →
 Go.SX.inB s70 i86 ∧
 ∃ (s111 : Go.SX.Sl),
 Go.SX.ElemAt W110 s70 (1 : Nat) (Int.toNat i86) (0 : Nat) [Go.SX.Sl.v s111] ∧
 Go.SX.inB s111 i76 ∧
 Go.SX.storeN W0 M s111 (Int.toNat i76 * (3 : Nat) + (0 : Nat)) [Go.SX.Sl.v s98, Go.Value.bool b99, Go.SX.Sl.v s100] W110 fun (W112 : Go.SX.PW) =>
 Go.SX.I64 (i86 + (1 : Int)) ∧ F84 [Go.SX.PL.val (Go.Value.int Go.IntKind.i64 (i86 + (1 : Int)))] W112 ∧ F85 [Go.SX.PL.val (Go.Value.int Go.IntKind.i64 (i86 + (1 : Int)))] W112 < F85 [Go.SX.PL.val (Go.Value.int Go.IntKind.i64 i86)] W87) ∧
 Go.SX.Ext W89 W89 ∧
 Go.SX.callN Go.Proofs.Try.prog W0 M (21 : Nat) [Go.Value.agg { toList := [Go.SX.Sl.v s90, Go.Value.bool b91, Go.SX.Sl.v s92] }, Go.Value.agg { toList := [Go.SX.Sl.v s93, Go.Value.bool b94, Go.SX.Sl.v s95] }] W89 fun (v113 : Go.Value) (W114 : Go.SX.PW) =>
 ∃ (s115 : Go.SX.Sl),
 ∃ (b116 : Bool),
 ∃ (s117 : Go.SX.Sl),
 ∃ (b118 : Bool),
 v113 = Go.Value.tuple { toList := [Go.Value.agg { toList := [Go.SX.Sl.v s115, Go.Value.bool b116, Go.SX.Sl.v s117] }, Go.Value.bool b118] } ∧
 ∃ (F119 : List Go.SX.PL → Go.SX.PW → Prop),
 (((!b118) = Bool.true →
 Go.SX.callN Go.Proofs.Try.prog W0 M (22 : Nat) [Go.Value.agg { toList := [Go.SX.Sl.v s90, Go.Value.bool b91, Go.SX.Sl.v s92] }] W114 fun (v120 : Go.Value) (W121 : Go.SX.PW) =>
 ∃ (i122 : Int),
 v120 = Go.Value.int Go.IntKind.i64 i122 ∧
 (i122 ≠ (0 : Int) → ∀ (W123 : Go.SX.PW), Go.SX.Ext W121 W123 → Post (Go.Value.tuple { toList := [Go.Value.slice Option.none (0 : Nat) (0 : Nat), Go.Value.slice Option.none (0 : Nat) (0 : Nat), Go.Value.bool Bool.false] }) W123) ∧
 (¬i122 ≠ (0 : Int) → F119 [Go.SX.PL.val (Go.Value.bool b118), Go.SX.PL.val (Go.Value.bool Bool.true)] W121)) ∧
 ((!b118) = Bool.false →
 (Bool.false = Bool.true → ∀ (W124 : Go.SX.PW), Go.SX.Ext W114 W124 → Post (Go.Value.tuple { toList := [Go.Value.slice Option.none (0 : Nat) (0 : Nat), Go.Value.slice Option.none (0 : Nat) (0 : Nat), Go.Value.bool Bool.false] }) W124) ∧
 (Bool.false = Bool.false → F119 [Go.SX.PL.val (Go.Value.bool b118), Go.SX.PL.val (Go.Value.bool Bool.false)] W114))) ∧
 ∀ (b125 b126 : Bool) (W127 : Go.SX.PW),
 F119 [Go.SX.PL.val (Go.Value.bool b125), Go.SX.PL.val (Go.Value.bool b126)] W127 →
 Go.SX.inB s70 i86 ∧
 ∃ (s128 : Go.SX.Sl),
 Go.SX.ElemAt W127 s70 (1 : Nat) (Int.toNat i86) (0 : Nat) [Go.SX.Sl.v s128] ∧
 Go.SX.inB s128 i76 ∧
 Go.SX.storeN W0 M s128 (Int.toNat i76 * (3 : Nat) + (0 : Nat)) [Go.SX.Sl.v s115, Go.Value.bool b116, Go.SX.Sl.v s117] W127 fun (W129 : Go.SX.PW) =>
 Go.SX.I64 (i86 + (1 : Int)) ∧ F84 [Go.SX.PL.val (Go.Value.int Go.IntKind.i64 (i86 + (1 : Int)))] W129 ∧ F85 [Go.SX.PL.val (Go.Value.int Go.IntKind.i64 (i86 + (1 : Int)))] W129 < F85 [Go.SX.PL.val (Go.Value.int Go.IntKind.i64 i86)] W87) ∧
 (¬i86 < (↑a0.2 : Int) → Go.SX.I64 (i76 + (1 : Int)) ∧ F74 [Go.SX.PL.val (Go.Value.int Go.IntKind.i64 (i76 + (1 : Int)))] W87 ∧ F75 [Go.SX.PL.val (Go.Value.int Go.IntKind.i64 (i76 + (1 : Int)))] W87 < F75 [Go.SX.PL.val (Go.Value.int Go.IntKind.i64 i76)] W77)) ∧
 (¬i76 < (↑a0.2 : Int) → ∀ (W130 : Go.SX.PW), Go.SX.Ext W77 W130 → Post (Go.Value.tuple { toList := [Go.SX.Sl.v s70, Go.SX.Sl.v s71, Go.Value.bool Bool.true] }) W130))
theorem callldl_Of (W0 : Go.SX.PW) (M : Nat → Prop) (a0 : Go.SX.Sl) (Post : Go.Value → Go.SX.PW → Prop) (h : Rldl_Of W0 M a0 Post) : Go.SX.PCallsM Go.Proofs.Try.prog 7 [Go.SX.Sl.v a0] W0 M Post :=
  Go.SX.fn_sound rfl tt_ok tt_in Go.Proofs.Try.func7 (cuts := [15, 1000005]) rfl rfl (Nat.le_of_ble_eq_true rfl) (Eq.mpr (by kernel_rfl) h)
end Go.Proofs.Ytcffcndpefaalaa
