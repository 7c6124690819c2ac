/- R19 -/
import Derived.Test.YtjkkidjbppphpaaGreatDoorTt
set_option linter.unusedVariables false
set_option linter.unusedSimpArgs false
set_option maxRecDepth 100000
namespace Go.Proofs.YtjkkidjbppphpaaGreatDoor
open Go Go.SX
def Fx7 (W0:PW) (M:Nat→Prop) (a0:Sl) (a1:Sl) (a2:Int) (Post:Value→PW→Prop):Prop:=
 Aa1 Tryz.prog W0 M 15 [a0.v,.int .i64 8] W0 fun v1 W2=>
 ∃s3:Sl,
 ∃s4:Sl,
 ∃b5:Bool,
 v1 = .tuple ⟨[.agg ⟨[s3.v]⟩,s4.v,.bool b5]⟩∧
 Aa1 Tryz.prog W0 M 21 [a1.v] W2 fun v6 W7=>
 ∃s8:Sl,
 ∃s9:Sl,
 ∃b10:Bool,
 v6 = .tuple ⟨[s8.v,s9.v,.bool b10]⟩∧
 ((!b5)=true→Aa1 Tryz.prog W0 M 16 [] W7 fun v11 W12=>∃b13:Bool,v11 = .bool b13∧∀(W14:PW),Ext W12 W14→Post (.bool b13) W14)∧
 ((!b5)=false→
 ((!b10)=true→Aa1 Tryz.prog W0 M 16 [] W7 fun v15 W16=>∃b17:Bool,v15 = .bool b17∧∀(W18:PW),Ext W16 W18→Post (.bool b17) W18)∧
 ((!b10)=false→
 Aa1 Tryz.prog W0 M 16 [] W7 fun v19 W20=>
 ∃b21:Bool,
 v19 = .bool b21∧
 ((!b21)=true→Aa1 Tryz.prog W0 M 16 [] W20 fun v22 W23=>∃b24:Bool,v22 = .bool b24∧∀(W25:PW),Ext W23 W25→Post (.bool b24) W25)∧
 ((!b21)=false→
 Aa1 Tryz.prog W0 M 23 [.agg ⟨[s3.v]⟩] W20 fun v26 W27=>
 ∃i28:Int,
 v26 = .int .i64 i28∧
 ((s8.2:Int)<i28→Aa1 Tryz.prog W0 M 16 [] W27 fun v29 W30=>∃b31:Bool,v29 = .bool b31∧∀(W32:PW),Ext W30 W32→Post (.bool b31) W32)∧
 (¬(s8.2:Int)<i28→
 ((s8.2:Int)=0→Aa1 Tryz.prog W0 M 16 [] W27 fun v33 W34=>∃b35:Bool,v33 = .bool b35∧∀(W36:PW),Ext W34 W36→Post (.bool b35) W36)∧
 (¬(s8.2:Int)=0→
 I64 ((s8.2:Int)-1)∧
 Aa1 Tryz.prog W0 M 32 [.int .i64 a2,.int .i64 0,.int .i64 ((s8.2:Int)-1)] W27 fun v37 W38=>
 ∃i39:Int,
 v37 = .int .i64 i39∧
 Aa1 Tryz.prog W0 M 31 [s8.v,.int .i64 i39] W38 fun v40 W41=>
 ∃s42:Sl,
 ∃s43:Sl,
 ∃b44:Bool,
 v40 = .tuple ⟨[s42.v,s43.v,.bool b44]⟩∧
 Aa1 Tryz.prog W0 M 24 [.agg ⟨[s3.v]⟩,s8.v] W41 fun v45 W46=>
 ∃s47:Sl,
 ∃b48:Bool,
 ∃s49:Sl,
 ∃s50:Sl,
 ∃b51:Bool,
 ∃s52:Sl,
 ∃b53:Bool,
 v45 = .tuple ⟨[.agg ⟨[s47.v,.bool b48,s49.v,s50.v,.bool b51,s52.v]⟩,.bool b53]⟩∧
 Aa1 Tryz.prog W0 M 24 [.agg ⟨[s3.v]⟩,s42.v] W46 fun v54 W55=>
 ∃s56:Sl,
 ∃b57:Bool,
 ∃s58:Sl,
 ∃s59:Sl,
 ∃b60:Bool,
 ∃s61:Sl,
 ∃b62:Bool,
 v54 = .tuple ⟨[.agg ⟨[s56.v,.bool b57,s58.v,s59.v,.bool b60,s61.v]⟩,.bool b62]⟩∧
 Aa1 Tryz.prog W0 M 24 [.agg ⟨[s3.v]⟩,s43.v] W55 fun v63 W64=>
 ∃s65:Sl,
 ∃b66:Bool,
 ∃s67:Sl,
 ∃s68:Sl,
 ∃b69:Bool,
 ∃s70:Sl,
 ∃b71:Bool,
 v63 = .tuple ⟨[.agg ⟨[s65.v,.bool b66,s67.v,s68.v,.bool b69,s70.v]⟩,.bool b71]⟩∧
 (b44=true→
 (b53=true→
 (b62=true→
 (b71=true→
 Aa1 Tryz.prog W0 M 27
 [.agg ⟨[s56.v,.bool b57,s58.v,s59.v,.bool b60,s61.v]⟩,
 .agg ⟨[s47.v,.bool b48,s49.v,s50.v,.bool b51,s52.v]⟩]
 W64 fun v72 W73=>
 ∃b74:Bool,
 v72 = .bool b74∧
 (b74=true→
 Aa1 Tryz.prog W0 M 27
 [.agg ⟨[s65.v,.bool b66,s67.v,s68.v,.bool b69,s70.v]⟩,
 .agg ⟨[s47.v,.bool b48,s49.v,s50.v,.bool b51,s52.v]⟩]
 W73 fun v75 W76=>∃b77:Bool,v75 = .bool b77∧∀(W78:PW),Ext W76 W78→Post (.bool b77) W78)∧
 (b74=false→∀(W79:PW),Ext W73 W79→Post (.bool false) W79))∧
 (b71=false→∀(W80:PW),Ext W64 W80→Post (.bool false) W80))∧
 (b62=false→∀(W81:PW),Ext W64 W81→Post (.bool false) W81))∧
 (b53=false→∀(W82:PW),Ext W64 W82→Post (.bool false) W82))∧
 (b44=false→∀(W83:PW),Ext W64 W83→Post (.bool false) W83))))))
theorem Fx2 (W0:PW) (M:Nat→Prop) (a0:Sl) (a1:Sl) (a2:Int) (Post:Value→PW→Prop) (h:Fx7 W0 M a0 a1 a2 Post):Aa0 Tryz.prog 5 [a0.v,a1.v,.int .i64 a2] W0 M Post:=
 Aa3 rfl Aa9 Aa8 Tryz.func5 (cuts:=[]) rfl rfl (Nat.le_of_ble_eq_true rfl) (Eq.mpr (by kernel_rfl) h)
end Go.Proofs.YtjkkidjbppphpaaGreatDoor
