/- R19 -/
import Derived.Test.YtjkkidjbppphpaaGreatDoorTt
set_option linter.unusedVariables false
set_option linter.unusedSimpArgs false
set_option maxRecDepth 100000
namespace Go.Proofs.YtjkkidjbppphpaaGreatDoor
open Go Go.SX
def Gh6 (W0:PW) (M:Nat→Prop) (a0:Sl) (a1:Sl) (a2_0:Int) (a2_1:Int) (a2_2:Int) (Post:Value→PW→Prop):Prop:=
 Aa1 Tryz.prog W0 M 21 [a1.v] W0 fun v1 W2=>
 ∃s3:Sl,
 ∃s4:Sl,
 ∃b5:Bool,
 v1 = .tuple ⟨[s3.v,s4.v,.bool b5]⟩∧
 ((!b5)=true→Aa1 Tryz.prog W0 M 33 [] W2 fun v6 W7=>∃b8:Bool,v6 = .bool b8∧∀(W9:PW),Ext W7 W9→Post (.bool b8) W9)∧
 ((!b5)=false→
 Aa1 Tryz.prog W0 M 33 [] W2 fun v10 W11=>
 ∃b12:Bool,
 v10 = .bool b12∧
 ((!b12)=true→Aa1 Tryz.prog W0 M 33 [] W11 fun v13 W14=>∃b15:Bool,v13 = .bool b15∧∀(W16:PW),Ext W14 W16→Post (.bool b15) W16)∧
 ((!b12)=false→
 Aa1 Tryz.prog W0 M 34 [a0.v,.int .i64 4] W11 fun v17 W18=>
 ∃s19:Sl,
 ∃s20:Sl,
 v17 = .tuple ⟨[s19.v,s20.v]⟩∧
 ∃(F21:List PL→PW→Prop),
 ∃(F22:List PL→PW→Nat),
 F21 [.val (.int .i64 0)] W18∧
 ∀(i23:Int) (W24:PW),
 F21 [.val (.int .i64 i23)] W24→
 (i23<(s20.2:Int)→
 inB s20 i23∧
 ∃b25:Bool,
 ∃s26:Sl,
 Aa7 W24 s20 5 (Int.toNat i23) 0 [.bool b25,s26.v]∧
 Aa1 Tryz.prog W0 M 35 [.agg ⟨[.bool b25,s26.v]⟩] W24 fun v27 W28=>
 ∃i29:Int,
 v27 = .int .i64 i29∧
 (i29<0→∀(W30:PW),Ext W28 W30→Post (.bool true) W30)∧
 (¬i29<0→
 inB s20 i23∧
 ∃s31:Sl,
 Aa7 W28 s20 5 (Int.toNat i23) 4 [s31.v]∧
 Aa1 Tryz.prog W0 M 36 [s31.v] W28 fun v32 W33=>
 ∃i34:Int,
 v32 = .int .i64 i34∧
 ((s3.2:Int)<i34→∀(W35:PW),Ext W33 W35→Post (.bool true) W35)∧(¬(s3.2:Int)<i34→I64 (i23+1)∧stp F21 F22 [.val (.int .i64 (i23+1))] W33 [.val (.int .i64 i23)] W24)))∧
 (¬i23<(s20.2:Int)→
 Aa1 Tryz.prog W0 M 37 [s19.v,s3.v] W24 fun v36 W37=>
 ∃s38:Sl,
 ∃b39:Bool,
 v36 = .tuple ⟨[.agg ⟨[s38.v]⟩,.bool b39]⟩∧
 Aa1 Tryz.prog W0 M 38 [s3.v,.agg ⟨[.int .i64 a2_0,.int .i64 a2_1,.int .i64 a2_2]⟩] W37 fun v40 W41=>
 ∃s42:Sl,
 ∃s43:Sl,
 ∃b44:Bool,
 ∃s45:Sl,
 ∃s46:Sl,
 ∃b47:Bool,
 ∃s48:Sl,
 ∃s49:Sl,
 ∃b50:Bool,
 ∃s51:Sl,
 v40 = .tuple ⟨[s42.v,.agg ⟨[s43.v,.bool b44,s45.v,s46.v,.bool b47,s48.v,s49.v,.bool b50,s51.v]⟩]⟩∧
 ((!b39)=true→∀(W52:PW),Ext W41 W52→Post (.bool true) W52)∧
 ((!b39)=false→
 Aa1 Tryz.prog W0 M 39 [.agg ⟨[s38.v]⟩,.agg ⟨[s43.v,.bool b44,s45.v,s46.v,.bool b47,s48.v,s49.v,.bool b50,s51.v]⟩] W41
 fun v53 W54=>
 ∃s55:Sl,
 ∃b56:Bool,
 ∃s57:Sl,
 v53 = .agg ⟨[s55.v,.bool b56,s57.v]⟩∧
 Aa1 Tryz.prog W0 M 40 [.agg ⟨[s55.v,.bool b56,s57.v]⟩] W54 fun v58 W59=>
 ∃i60:Int,v58 = .int .i64 i60∧∀(W61:PW),Ext W59 W61→Post (.bool (decide (0≤i60))) W61))))
theorem Gg4 (W0:PW) (M:Nat→Prop) (a0:Sl) (a1:Sl) (a2_0:Int) (a2_1:Int) (a2_2:Int) (Post:Value→PW→Prop) (h:Gh6 W0 M a0 a1 a2_0 a2_1 a2_2 Post):Aa0 Tryz.prog 6 [a0.v,a1.v,.agg #[.int .i64 a2_0,.int .i64 a2_1,.int .i64 a2_2]] W0 M Post:=
 Aa3 rfl Aa9 Aa8 Tryz.func6 (cuts:=[]) rfl rfl (Nat.le_of_ble_eq_true rfl) (Eq.mpr (by kernel_rfl) h)
end Go.Proofs.YtjkkidjbppphpaaGreatDoor
