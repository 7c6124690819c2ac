/- R16 -/
import Derived.Test.YtokefihiadbkbaaGreatDoorTt
set_option linter.unusedVariables false
set_option linter.unusedSimpArgs false
set_option maxRecDepth 100000
namespace Go.Proofs.YtokefihiadbkbaaGreatDoor
open Go Go.SX
def Db8 (W0:PW) (M:Nat→Prop) (a0_0:Sl) (a1:Sl) (Post:Value→PW→Prop):Prop:=
 Aa1 Tryz.prog W0 M 108 [a1.v] W0 fun v1 W2=>
 ∃b3:Bool,
 v1 = .bool b3∧
 (b3=true→Aa1 Tryz.prog W0 M 14 [.agg ⟨[a0_0.v]⟩] W2 fun v4 W5=>∃i6:Int,v4 = .int .i64 i6∧∀(W7:PW),Ext W5 W7→Post (.bool (decide (i6≤(a1.2:Int)))) W7)∧
 (b3=false→∀(W8:PW),Ext W2 W8→Post (.bool false) W8)
theorem Bw2 (W0:PW) (M:Nat→Prop) (a0_0:Sl) (a1:Sl) (Post:Value→PW→Prop) (h:Db8 W0 M a0_0 a1 Post):Aa0 Tryz.prog 64 [.agg #[a0_0.v],a1.v] W0 M Post:=
 Aa3 rfl Aa9 Aa8 Tryz.func64 (cuts:=[]) rfl rfl (Nat.le_of_ble_eq_true rfl) (Eq.mpr (by kernel_rfl) h)
def Gn8 (W0:PW) (M:Nat→Prop) (a0:Sl) (a1_0:Int) (a1_1:Int) (a1_2:Int) (Post:Value→PW→Prop):Prop:=
 ∃(F1:List PL→PW→Prop),
 ∃(F2:List PL→PW→Nat),
 F1
 [.row [],.val (.int .i64 0),
 .cells [.slice none 0 0,.bool false,.slice none 0 0,.slice none 0 0,.bool false,.slice none 0 0,.slice none 0 0,.bool false,.slice none 0 0]]
 W0∧
 ∀(s3:Sl) (b4:Bool) (s5 s6:Sl) (b7:Bool) (s8 s9:Sl) (b10:Bool) (s11:Sl) (l12:List (List Value)) (i13:Int) (W14:PW),
 F1 [.row l12,.val (.int .i64 i13),.cells [s3.v,.bool b4,s5.v,s6.v,.bool b7,s8.v,s9.v,.bool b10,s11.v]] W14→
 (i13<(a0.2:Int)→
 (i13<3→
 (0≤i13∧i13<3)∧
 ∃i15:Int,
 As9 [.int .i64 a1_0,.int .i64 a1_1,.int .i64 a1_2] (0+Int.toNat i13*1+0) [.int .i64 i15]∧
 Aa1 Tryz.prog W0 M 29 [.int .i64 i15,.int .i64 0,.int .i64 8] W14 fun v16 W17=>
 ∃i18:Int,
 v16 = .int .i64 i18∧
 Aa1 Tryz.prog W0 M 49 [.int .i64 i18] W17 fun v19 W20=>
 ∃s21:Sl,
 ∃b22:Bool,
 ∃s23:Sl,
 v19 = .agg ⟨[s21.v,.bool b22,s23.v]⟩∧
 Aa1 Tryz.prog W0 M 49 [.int .i64 8] W20 fun v24 W25=>
 ∃s26:Sl,
 ∃b27:Bool,
 ∃s28:Sl,
 v24 = .agg ⟨[s26.v,.bool b27,s28.v]⟩∧
 Aa1 Tryz.prog W0 M 48 [.agg ⟨[s21.v,.bool b22,s23.v]⟩,.agg ⟨[s26.v,.bool b27,s28.v]⟩] W25 fun v29 W30=>
 ∃s31:Sl,
 ∃b32:Bool,
 ∃s33:Sl,
 ∃b34:Bool,
 v29 = .tuple ⟨[.agg ⟨[s31.v,.bool b32,s33.v]⟩,.bool b34]⟩∧
 inB a0 i13∧
 ∃s35:Sl,
 ∃b36:Bool,
 ∃s37:Sl,
 Aa7 W30 a0 6 (Int.toNat i13) 0 [s35.v,.bool b36,s37.v]∧
 inB a0 i13∧
 ∃s38:Sl,
 ∃b39:Bool,
 ∃s40:Sl,
 ∃s41:Sl,
 ∃b42:Bool,
 ∃s43:Sl,
 Aa7 W30 a0 6 (Int.toNat i13) 0 [s38.v,.bool b39,s40.v,s41.v,.bool b42,s43.v]∧
 Aa1 Tryz.prog W0 M 113 [.agg ⟨[s38.v,.bool b39,s40.v,s41.v,.bool b42,s43.v]⟩] W30 fun v44 W45=>
 ∃s46:Sl,
 ∃b47:Bool,
 ∃s48:Sl,
 v44 = .agg ⟨[s46.v,.bool b47,s48.v]⟩∧
 Ext W30 W45∧
 Aa1 Tryz.prog W0 M 95 [.agg ⟨[s46.v,.bool b47,s48.v]⟩,.agg ⟨[s31.v,.bool b32,s33.v]⟩] W45 fun v49 W50=>
 ∃s51:Sl,
 ∃b52:Bool,
 ∃s53:Sl,
 v49 = .agg ⟨[s51.v,.bool b52,s53.v]⟩∧
 Ext W45 W50∧
 Aa1 Tryz.prog W0 M 21 [.agg ⟨[s35.v,.bool b36,s37.v]⟩,.agg ⟨[s51.v,.bool b52,s53.v]⟩] W50 fun v54 W55=>
 ∃s56:Sl,
 ∃b57:Bool,
 ∃s58:Sl,
 v54 = .agg ⟨[s56.v,.bool b57,s58.v]⟩∧
 (0≤i13∧i13<3)∧
 Int.toNat i13<3∧
 ((True∧
 (Int.toNat i13=0→
 (0≤i13∧i13<3)∧
 ∃s59:Sl,
 ∃b60:Bool,
 ∃s61:Sl,
 As9 [s56.v,.bool b57,s58.v,s6.v,.bool b7,s8.v,s9.v,.bool b10,s11.v] (0+Int.toNat i13*3+0)
 [s59.v,.bool b60,s61.v]∧
 (List.length l12+List.length [[s59.v,.bool b60,s61.v]])*56≤140737488355328∧
 I64 (i13+1)∧
 stp F1 F2
 [.row (l12 ++ [[s59.v,.bool b60,s61.v]]),.val (.int .i64 (i13+1)),
 .cells [s56.v,.bool b57,s58.v,s6.v,.bool b7,s8.v,s9.v,.bool b10,s11.v]]
 W55 [.row l12,.val (.int .i64 i13),.cells [s3.v,.bool b4,s5.v,s6.v,.bool b7,s8.v,s9.v,.bool b10,s11.v]] W14))∧
 (Int.toNat i13=1→
 (0≤i13∧i13<3)∧
 ∃s62:Sl,
 ∃b63:Bool,
 ∃s64:Sl,
 As9 [s3.v,.bool b4,s5.v,s56.v,.bool b57,s58.v,s9.v,.bool b10,s11.v] (0+Int.toNat i13*3+0)
 [s62.v,.bool b63,s64.v]∧
 (List.length l12+List.length [[s62.v,.bool b63,s64.v]])*56≤140737488355328∧
 I64 (i13+1)∧
 stp F1 F2
 [.row (l12 ++ [[s62.v,.bool b63,s64.v]]),.val (.int .i64 (i13+1)),
 .cells [s3.v,.bool b4,s5.v,s56.v,.bool b57,s58.v,s9.v,.bool b10,s11.v]]
 W55 [.row l12,.val (.int .i64 i13),.cells [s3.v,.bool b4,s5.v,s6.v,.bool b7,s8.v,s9.v,.bool b10,s11.v]] W14))∧
 (Int.toNat i13=2→
 (0≤i13∧i13<3)∧
 ∃s65:Sl,
 ∃b66:Bool,
 ∃s67:Sl,
 As9 [s3.v,.bool b4,s5.v,s6.v,.bool b7,s8.v,s56.v,.bool b57,s58.v] (0+Int.toNat i13*3+0)
 [s65.v,.bool b66,s67.v]∧
 (List.length l12+List.length [[s65.v,.bool b66,s67.v]])*56≤140737488355328∧
 I64 (i13+1)∧
 stp F1 F2
 [.row (l12 ++ [[s65.v,.bool b66,s67.v]]),.val (.int .i64 (i13+1)),
 .cells [s3.v,.bool b4,s5.v,s6.v,.bool b7,s8.v,s56.v,.bool b57,s58.v]]
 W55 [.row l12,.val (.int .i64 i13),.cells [s3.v,.bool b4,s5.v,s6.v,.bool b7,s8.v,s9.v,.bool b10,s11.v]] W14))∧
 (¬i13<3→
 ∀(s68:Sl) (W69:PW),
 Ext W14 W69→SX.Own W69 42 3 s68 l12→Fr W0 W14 s68→∀(W70:PW),Ext W69 W70→Post (.tuple ⟨[s68.v,.agg ⟨[s3.v,.bool b4,s5.v,s6.v,.bool b7,s8.v,s9.v,.bool b10,s11.v]⟩]⟩) W70))∧
 (¬i13<(a0.2:Int)→
 ∀(s71:Sl) (W72:PW),
 Ext W14 W72→SX.Own W72 42 3 s71 l12→Fr W0 W14 s71→∀(W73:PW),Ext W72 W73→Post (.tuple ⟨[s71.v,.agg ⟨[s3.v,.bool b4,s5.v,s6.v,.bool b7,s8.v,s9.v,.bool b10,s11.v]⟩]⟩) W73)
theorem Gj5 (W0:PW) (M:Nat→Prop) (a0:Sl) (a1_0:Int) (a1_1:Int) (a1_2:Int) (Post:Value→PW→Prop) (h:Gn8 W0 M a0 a1_0 a1_1 a1_2 Post):Aa0 Tryz.prog 47 [a0.v,.agg #[.int .i64 a1_0,.int .i64 a1_1,.int .i64 a1_2]] W0 M Post:=
 Aa3 rfl Aa9 Aa8 Tryz.func47 (cuts:=[]) rfl rfl (Nat.le_of_ble_eq_true rfl) (Eq.mpr (by kernel_rfl) h)
end Go.Proofs.YtokefihiadbkbaaGreatDoor
