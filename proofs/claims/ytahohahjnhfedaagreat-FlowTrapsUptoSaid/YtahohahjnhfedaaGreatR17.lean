/- R17 -/
import Derived.Test.YtahohahjnhfedaaGreatTt
set_option linter.unusedVariables false
set_option linter.unusedSimpArgs false
set_option maxRecDepth 100000
namespace Go.Proofs.YtahohahjnhfedaaGreat
open Go Go.SX
def Kc7 (W0:PW) (M:Nat→Prop) (a0:Sl) (a1:Sl) (a2:Sl) (a3:ByteArray) (a4:Int) (Post:Value→PW→Prop):Prop:=
 Aa1 Tryz.prog W0 M 5 [a0.v,.int .i64 3] W0 fun v1 W2=>
 ∃s3:Sl,
 ∃s4:Sl,
 ∃b5:Bool,
 v1 = .tuple ⟨[s3.v,s4.v,.bool b5]⟩∧
 Aa1 Tryz.prog W0 M 6 [.string a3] W2 fun v6 W7=>
 ∃s8:Sl,
 ∃b9:Bool,
 ∃s10:Sl,
 ∃b11:Bool,
 ∃s12:Sl,
 ∃s13:Sl,
 ∃b14:Bool,
 v6 = .tuple ⟨[.agg ⟨[s8.v,.bool b9,s10.v]⟩,.agg ⟨[.bool b11,s12.v,s13.v]⟩,.bool b14]⟩∧
 ((!b5)=true→Aa1 Tryz.prog W0 M 7 [] W7 fun v15 W16=>∃b17:Bool,v15 = .bool b17∧∀(W18:PW),Ext W16 W18→Post (.bool b17) W18)∧
 ((!b5)=false→
 ((!b14)=true→Aa1 Tryz.prog W0 M 7 [] W7 fun v19 W20=>∃b21:Bool,v19 = .bool b21∧∀(W22:PW),Ext W20 W22→Post (.bool b21) W22)∧
 ((!b14)=false→
 Aa1 Tryz.prog W0 M 7 [] W7 fun v23 W24=>
 ∃b25:Bool,
 v23 = .bool b25∧
 ((!b25)=true→Aa1 Tryz.prog W0 M 7 [] W24 fun v26 W27=>∃b28:Bool,v26 = .bool b28∧∀(W29:PW),Ext W27 W29→Post (.bool b28) W29)∧
 ((!b25)=false→
 Aa1 Tryz.prog W0 M 8 [a1.v,.int .i64 4] W24 fun v30 W31=>
 ∃b32:Bool,
 v30 = .bool b32∧
 ((!b32)=true→Aa1 Tryz.prog W0 M 7 [] W31 fun v33 W34=>∃b35:Bool,v33 = .bool b35∧∀(W36:PW),Ext W34 W36→Post (.bool b35) W36)∧
 ((!b32)=false→
 Aa1 Tryz.prog W0 M 8 [a2.v,.int .i64 4] W31 fun v37 W38=>
 ∃b39:Bool,
 v37 = .bool b39∧
 ((!b39)=true→Aa1 Tryz.prog W0 M 7 [] W38 fun v40 W41=>∃b42:Bool,v40 = .bool b42∧∀(W43:PW),Ext W41 W43→Post (.bool b42) W43)∧
 ((!b39)=false→
 (12<(↑(ByteArray.size a3):Int)→Aa1 Tryz.prog W0 M 7 [] W38 fun v44 W45=>∃b46:Bool,v44 = .bool b46∧∀(W47:PW),Ext W45 W47→Post (.bool b46) W47)∧
 (¬12<(↑(ByteArray.size a3):Int)→
 ∃(F48:List PL→PW→Prop),
 ∃(F49:List PL→PW→Nat),
 F48 [.val (.int .i64 0)] W38∧
 ∀(i50:Int) (W51:PW),
 F48 [.val (.int .i64 i50)] W51→
 (i50<(a0.2:Int)→
 inB a0 i50∧
 ∃s52:Sl,
 Aa7 W51 a0 1 (Int.toNat i50) 0 [s52.v]∧
 (4<(s52.2:Int)→∀(W53:PW),Ext W51 W53→Post (.bool true) W53)∧
 (¬4<(s52.2:Int)→
 inB s4 i50∧
 ∃s54:Sl,
 Aa7 W51 s4 1 (Int.toNat i50) 0 [s54.v]∧
 Aa1 Tryz.prog W0 M 9 [s54.v] W51 fun v55 W56=>
 ∃i57:Int,
 v55 = .int .i64 i57∧
 (3<i57→∀(W58:PW),Ext W56 W58→Post (.bool true) W58)∧(¬3<i57→I64 (i50+1)∧stp F48 F49 [.val (.int .i64 (i50+1))] W56 [.val (.int .i64 i50)] W51)))∧
 (¬i50<(a0.2:Int)→
 Aa1 Tryz.prog W0 M 10 [a1.v] W51 fun v59 W60=>
 ∃s61:Sl,
 ∃s62:Sl,
 v59 = .tuple ⟨[s61.v,s62.v]⟩∧
 Aa1 Tryz.prog W0 M 10 [a2.v] W60 fun v63 W64=>
 ∃s65:Sl,
 ∃s66:Sl,
 v63 = .tuple ⟨[s65.v,s66.v]⟩∧
 Aa1 Tryz.prog W0 M 11 [s3.v,s61.v,s65.v,.agg ⟨[s8.v,.bool b9,s10.v]⟩,.int .i64 a4] W64 fun v67 W68=>
 ∃s69:Sl,
 ∃b70:Bool,
 v67 = .tuple ⟨[s69.v,.bool b70]⟩∧
 Aa1 Tryz.prog W0 M 12 [s4.v,s62.v,s66.v,.agg ⟨[.bool b11,s12.v,s13.v]⟩,.int .i64 a4] W68 fun v71 W72=>
 ∃s73:Sl,
 ∃b74:Bool,
 v71 = .tuple ⟨[s73.v,.bool b74]⟩∧
 Aa1 Tryz.prog W0 M 13 [s3.v,s61.v,s65.v,.agg ⟨[s8.v,.bool b9,s10.v]⟩] W72 fun v75 W76=>
 ∃b77:Bool,
 v75 = .bool b77∧
 Aa1 Tryz.prog W0 M 14 [s4.v,s62.v,s66.v,.agg ⟨[.bool b11,s12.v,s13.v]⟩] W76 fun v78 W79=>
 ∃b80:Bool,
 v78 = .bool b80∧
 (b77=b80→
 (b70=b74→Aa1 Tryz.prog W0 M 15 [s69.v,s73.v] W79 fun v81 W82=>∃b83:Bool,v81 = .bool b83∧∀(W84:PW),Ext W82 W84→Post (.bool b83) W84)∧
 (¬b70=b74→∀(W85:PW),Ext W79 W85→Post (.bool false) W85))∧
 (¬b77=b80→∀(W86:PW),Ext W79 W86→Post (.bool false) W86))))))))
theorem Ka4 (W0:PW) (M:Nat→Prop) (a0:Sl) (a1:Sl) (a2:Sl) (a3:ByteArray) (a4:Int) (Post:Value→PW→Prop) (h:Kc7 W0 M a0 a1 a2 a3 a4 Post):Aa0 Tryz.prog 3 [a0.v,a1.v,a2.v,.string a3,.int .i64 a4] W0 M Post:=
 Aa3 rfl Aa9 Aa8 Tryz.func3 (cuts:=[]) rfl rfl (Nat.le_of_ble_eq_true rfl) (Eq.mpr (by kernel_rfl) h)
end Go.Proofs.YtahohahjnhfedaaGreat
