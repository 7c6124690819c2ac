/- R19 -/
import Derived.Test.YtjkkidjbppphpaaGreatDoorTt
set_option linter.unusedVariables false
set_option linter.unusedSimpArgs false
set_option maxRecDepth 100000
set_option linter.unusedVariables false
namespace Go.Proofs.YtjkkidjbppphpaaGreatDoor
open Go Go.SX
def Rlaw9_BoundHas (W0:PW) (M:Nat→Prop) (a0:Sl) (a1:Sl) (a2_0:Int) (a2_1:Int) (a2_2:Int) (Post:Value→PW→Prop):Prop:=
 callN Tryz.prog W0 M 15 [a0.v,.int .i64 8] W0 fun v1 W2=>
 ∃s3:Sl,
 ∃s4:Sl,
 ∃b5:Bool,
 v1 = .tuple ⟨[.agg ⟨[s3.v]⟩,s4.v,.bool b5]⟩∧
 callN Tryz.prog W0 M 21 [a1.v] W2 fun v6 W7=>
 ∃s8:Sl,
 ∃s9:Sl,
 ∃b10:Bool,
 v6 = .tuple ⟨[s8.v,s9.v,.bool b10]⟩∧
 ((!b5)=true→callN Tryz.prog W0 M 16 [] W7 fun v11 W12=>∃b13:Bool,v11 = .bool b13∧∀(W14:PW),Ext W12 W14→Post (.bool b13) W14)∧
 ((!b5)=false→
 ((!b10)=true→callN Tryz.prog W0 M 16 [] W7 fun v15 W16=>∃b17:Bool,v15 = .bool b17∧∀(W18:PW),Ext W16 W18→Post (.bool b17) W18)∧
 ((!b10)=false→
 callN Tryz.prog W0 M 16 [] W7 fun v19 W20=>
 ∃b21:Bool,
 v19 = .bool b21∧
 ((!b21)=true→callN Tryz.prog W0 M 16 [] W20 fun v22 W23=>∃b24:Bool,v22 = .bool b24∧∀(W25:PW),Ext W23 W25→Post (.bool b24) W25)∧
 ((!b21)=false→
 callN Tryz.prog W0 M 23 [.agg ⟨[s3.v]⟩] W20 fun v26 W27=>
 ∃i28:Int,
 v26 = .int .i64 i28∧
 ((s8.2:Int)<i28→callN Tryz.prog W0 M 16 [] W27 fun v29 W30=>∃b31:Bool,v29 = .bool b31∧∀(W32:PW),Ext W30 W32→Post (.bool b31) W32)∧
 (¬(s8.2:Int)<i28→
 callN Tryz.prog W0 M 38 [s8.v,.agg ⟨[.int .i64 a2_0,.int .i64 a2_1,.int .i64 a2_2]⟩] W27 fun v33 W34=>
 ∃s35:Sl,
 ∃s36:Sl,
 ∃b37:Bool,
 ∃s38:Sl,
 ∃s39:Sl,
 ∃b40:Bool,
 ∃s41:Sl,
 ∃s42:Sl,
 ∃b43:Bool,
 ∃s44:Sl,
 v33 = .tuple ⟨[s35.v,.agg ⟨[s36.v,.bool b37,s38.v,s39.v,.bool b40,s41.v,s42.v,.bool b43,s44.v]⟩]⟩∧
 callN Tryz.prog W0 M 39 [.agg ⟨[s3.v]⟩,.agg ⟨[s36.v,.bool b37,s38.v,s39.v,.bool b40,s41.v,s42.v,.bool b43,s44.v]⟩] W34 fun v45 W46=>
 ∃s47:Sl,
 ∃b48:Bool,
 ∃s49:Sl,
 v45 = .agg ⟨[s47.v,.bool b48,s49.v]⟩∧
 callN Tryz.prog W0 M 24 [.agg ⟨[s3.v]⟩,s8.v] W46 fun v50 W51=>
 ∃s52:Sl,
 ∃b53:Bool,
 ∃s54:Sl,
 ∃s55:Sl,
 ∃b56:Bool,
 ∃s57:Sl,
 ∃b58:Bool,
 v50 = .tuple ⟨[.agg ⟨[s52.v,.bool b53,s54.v,s55.v,.bool b56,s57.v]⟩,.bool b58]⟩∧
 callN Tryz.prog W0 M 50 [.agg ⟨[s3.v]⟩,s8.v] W51 fun v59 W60=>
 ∃s61:Sl,
 ∃b62:Bool,
 ∃s63:Sl,
 ∃s64:Sl,
 ∃b65:Bool,
 ∃s66:Sl,
 ∃b67:Bool,
 v59 = .tuple ⟨[.agg ⟨[s61.v,.bool b62,s63.v,s64.v,.bool b65,s66.v]⟩,.bool b67]⟩∧
 callN Tryz.prog W0 M 60 [.agg ⟨[s3.v]⟩,s8.v] W60 fun v68 W69=>
 ∃s70:Sl,
 ∃b71:Bool,
 ∃s72:Sl,
 ∃s73:Sl,
 ∃b74:Bool,
 ∃s75:Sl,
 ∃b76:Bool,
 v68 = .tuple ⟨[.agg ⟨[s70.v,.bool b71,s72.v,s73.v,.bool b74,s75.v]⟩,.bool b76]⟩∧
 (b58=true→
 (b67=true→
 (b76=true→
 callN Tryz.prog W0 M 65
 [.agg ⟨[s52.v,.bool b53,s54.v,s55.v,.bool b56,s57.v]⟩,.agg ⟨[s47.v,.bool b48,s49.v]⟩] W69
 fun v77 W78=>
 ∃b79:Bool,
 v77 = .bool b79∧
 (b79=true→
 callN Tryz.prog W0 M 65
 [.agg ⟨[s61.v,.bool b62,s63.v,s64.v,.bool b65,s66.v]⟩,.agg ⟨[s47.v,.bool b48,s49.v]⟩] W78
 fun v80 W81=>
 ∃b82:Bool,
 v80 = .bool b82∧
 (b82=true→
 callN Tryz.prog W0 M 65
 [.agg ⟨[s70.v,.bool b71,s72.v,s73.v,.bool b74,s75.v]⟩,.agg ⟨[s47.v,.bool b48,s49.v]⟩] W81
 fun v83 W84=>
 ∃b85:Bool,
 v83 = .bool b85∧
 (b85=true→
 callN Tryz.prog W0 M 27
 [.agg ⟨[s70.v,.bool b71,s72.v,s73.v,.bool b74,s75.v]⟩,
 .agg ⟨[s52.v,.bool b53,s54.v,s55.v,.bool b56,s57.v]⟩]
 W84 fun v86 W87=>
 ∃b88:Bool,
 v86 = .bool b88∧
 (b88=true→
 callN Tryz.prog W0 M 27
 [.agg ⟨[s70.v,.bool b71,s72.v,s73.v,.bool b74,s75.v]⟩,
 .agg ⟨[s61.v,.bool b62,s63.v,s64.v,.bool b65,s66.v]⟩]
 W87 fun v89 W90=>∃b91:Bool,v89 = .bool b91∧∀(W92:PW),Ext W90 W92→Post (.bool b91) W92)∧
 (b88=false→∀(W93:PW),Ext W87 W93→Post (.bool false) W93))∧
 (b85=false→∀(W94:PW),Ext W84 W94→Post (.bool false) W94))∧
 (b82=false→∀(W95:PW),Ext W81 W95→Post (.bool false) W95))∧
 (b79=false→∀(W96:PW),Ext W78 W96→Post (.bool false) W96))∧
 (b76=false→∀(W97:PW),Ext W69 W97→Post (.bool false) W97))∧
 (b67=false→∀(W98:PW),Ext W69 W98→Post (.bool false) W98))∧
 (b58=false→∀(W99:PW),Ext W69 W99→Post (.bool false) W99)))))
theorem calllaw9_BoundHas (W0:PW) (M:Nat→Prop) (a0:Sl) (a1:Sl) (a2_0:Int) (a2_1:Int) (a2_2:Int) (Post:Value→PW→Prop) (h:Rlaw9_BoundHas W0 M a0 a1 a2_0 a2_1 a2_2 Post):PCallsM Tryz.prog 12 [a0.v,a1.v,.agg #[.int .i64 a2_0,.int .i64 a2_1,.int .i64 a2_2]] W0 M Post:=
 fn_sound rfl tt_ok tt_in Tryz.func12 (cuts:=[]) rfl rfl (Nat.le_of_ble_eq_true rfl) (Eq.mpr (by kernel_rfl) h)
end Go.Proofs.YtjkkidjbppphpaaGreatDoor
