/- R19 -/
import Derived.Test.YtjkkidjbppphpaaGreatDoorTt
set_option linter.unusedVariables false
set_option linter.unusedSimpArgs false
set_option maxRecDepth 100000
namespace Go.Proofs.YtjkkidjbppphpaaGreatDoor
open Go Go.SX
def He0 (W0:PW) (M:Nat→Prop) (a0:Sl) (a1:Sl) (Post:Value→PW→Prop):Prop:=
 Aa1 Tryz.prog W0 M 15 [a0.v,.int .i64 8] W0 fun v1 W2=>
 ∃s3:Sl,
 ∃s4:Sl,
 ∃b5:Bool,
 v1 = .tuple ⟨[.agg ⟨[s3.v]⟩,s4.v,.bool b5]⟩∧
 ((!b5)=true→Aa1 Tryz.prog W0 M 16 [] W2 fun v6 W7=>∃b8:Bool,v6 = .bool b8∧∀(W9:PW),Ext W7 W9→Post (.bool b8) W9)∧
 ((!b5)=false→
 Aa1 Tryz.prog W0 M 16 [] W2 fun v10 W11=>
 ∃b12:Bool,
 v10 = .bool b12∧
 ((!b12)=true→Aa1 Tryz.prog W0 M 16 [] W11 fun v13 W14=>∃b15:Bool,v13 = .bool b15∧∀(W16:PW),Ext W14 W16→Post (.bool b15) W16)∧
 ((!b12)=false→
 Aa1 Tryz.prog W0 M 51 [a1.v,.int .i64 4] W11 fun v17 W18=>
 ∃b19:Bool,
 v17 = .bool b19∧
 ((!b19)=true→Aa1 Tryz.prog W0 M 16 [] W18 fun v20 W21=>∃b22:Bool,v20 = .bool b22∧∀(W23:PW),Ext W21 W23→Post (.bool b22) W23)∧
 ((!b19)=false→
 Aa1 Tryz.prog W0 M 52 [a1.v] W18 fun v24 W25=>
 ∃s26:Sl,
 ∃s27:Sl,
 v24 = .tuple ⟨[s26.v,s27.v]⟩∧
 Aa1 Tryz.prog W0 M 24 [.agg ⟨[s3.v]⟩,s26.v] W25 fun v28 W29=>
 ∃s30:Sl,
 ∃b31:Bool,
 ∃s32:Sl,
 ∃s33:Sl,
 ∃b34:Bool,
 ∃s35:Sl,
 ∃b36:Bool,
 v28 = .tuple ⟨[.agg ⟨[s30.v,.bool b31,s32.v,s33.v,.bool b34,s35.v]⟩,.bool b36]⟩∧
 Aa1 Tryz.prog W0 M 58 [s4.v,s27.v] W29 fun v37 W38=>
 ∃b39:Bool,
 ∃s40:Sl,
 ∃s41:Sl,
 ∃b42:Bool,
 ∃s43:Sl,
 ∃s44:Sl,
 ∃b45:Bool,
 v37 = .tuple ⟨[.agg ⟨[.bool b39,s40.v,s41.v,.bool b42,s43.v,s44.v]⟩,.bool b45]⟩∧
 Aa1 Tryz.prog W0 M 50 [.agg ⟨[s3.v]⟩,s26.v] W38 fun v46 W47=>
 ∃s48:Sl,
 ∃b49:Bool,
 ∃s50:Sl,
 ∃s51:Sl,
 ∃b52:Bool,
 ∃s53:Sl,
 ∃b54:Bool,
 v46 = .tuple ⟨[.agg ⟨[s48.v,.bool b49,s50.v,s51.v,.bool b52,s53.v]⟩,.bool b54]⟩∧
 Aa1 Tryz.prog W0 M 59 [s4.v,s27.v] W47 fun v55 W56=>
 ∃b57:Bool,
 ∃s58:Sl,
 ∃s59:Sl,
 ∃b60:Bool,
 ∃s61:Sl,
 ∃s62:Sl,
 ∃b63:Bool,
 v55 = .tuple ⟨[.agg ⟨[.bool b57,s58.v,s59.v,.bool b60,s61.v,s62.v]⟩,.bool b63]⟩∧
 Aa1 Tryz.prog W0 M 60 [.agg ⟨[s3.v]⟩,s26.v] W56 fun v64 W65=>
 ∃s66:Sl,
 ∃b67:Bool,
 ∃s68:Sl,
 ∃s69:Sl,
 ∃b70:Bool,
 ∃s71:Sl,
 ∃b72:Bool,
 v64 = .tuple ⟨[.agg ⟨[s66.v,.bool b67,s68.v,s69.v,.bool b70,s71.v]⟩,.bool b72]⟩∧
 Aa1 Tryz.prog W0 M 61
 [.agg ⟨[.bool b39,s40.v,s41.v,.bool b42,s43.v,s44.v]⟩,.agg ⟨[.bool b57,s58.v,s59.v,.bool b60,s61.v,s62.v]⟩] W65
 fun v73 W74=>
 ∃b75:Bool,
 ∃s76:Sl,
 ∃s77:Sl,
 ∃b78:Bool,
 ∃s79:Sl,
 ∃s80:Sl,
 ∃b81:Bool,
 v73 = .tuple ⟨[.agg ⟨[.bool b75,s76.v,s77.v,.bool b78,s79.v,s80.v]⟩,.bool b81]⟩∧
 Aa1 Tryz.prog W0 M 62 [.agg ⟨[s3.v]⟩,s26.v] W74 fun v82 W83=>
 ∃b84:Bool,
 v82 = .bool b84∧
 Aa1 Tryz.prog W0 M 63 [s4.v,s27.v] W83 fun v85 W86=>
 ∃b87:Bool,
 v85 = .bool b87∧
 (b84=b87→
 Aa1 Tryz.prog W0 M 64
 [.agg ⟨[s30.v,.bool b31,s32.v,s33.v,.bool b34,s35.v]⟩,.bool b36,
 .agg ⟨[.bool b39,s40.v,s41.v,.bool b42,s43.v,s44.v]⟩,.bool b45]
 W86 fun v88 W89=>
 ∃b90:Bool,
 v88 = .bool b90∧
 (b90=true→
 Aa1 Tryz.prog W0 M 64
 [.agg ⟨[s48.v,.bool b49,s50.v,s51.v,.bool b52,s53.v]⟩,.bool b54,
 .agg ⟨[.bool b57,s58.v,s59.v,.bool b60,s61.v,s62.v]⟩,.bool b63]
 W89 fun v91 W92=>
 ∃b93:Bool,
 v91 = .bool b93∧
 (b93=true→
 Aa1 Tryz.prog W0 M 64
 [.agg ⟨[s66.v,.bool b67,s68.v,s69.v,.bool b70,s71.v]⟩,.bool b72,
 .agg ⟨[.bool b75,s76.v,s77.v,.bool b78,s79.v,s80.v]⟩,.bool b45]
 W92 fun v94 W95=>∃b96:Bool,v94 = .bool b96∧∀(W97:PW),Ext W95 W97→Post (.bool b96) W97)∧
 (b93=false→∀(W98:PW),Ext W92 W98→Post (.bool false) W98))∧
 (b90=false→∀(W99:PW),Ext W89 W99→Post (.bool false) W99))∧
 (¬b84=b87→∀(W100:PW),Ext W86 W100→Post (.bool false) W100))))
theorem Hd0 (W0:PW) (M:Nat→Prop) (a0:Sl) (a1:Sl) (Post:Value→PW→Prop) (h:He0 W0 M a0 a1 Post):Aa0 Tryz.prog 11 [a0.v,a1.v] W0 M Post:=
 Aa3 rfl Aa9 Aa8 Tryz.func11 (cuts:=[]) rfl rfl (Nat.le_of_ble_eq_true rfl) (Eq.mpr (by kernel_rfl) h)
end Go.Proofs.YtjkkidjbppphpaaGreatDoor
