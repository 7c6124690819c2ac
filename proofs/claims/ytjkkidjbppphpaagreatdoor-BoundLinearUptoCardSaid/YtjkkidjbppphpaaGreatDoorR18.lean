/- R18 -/
import Derived.Test.YtjkkidjbppphpaaGreatDoorTt
set_option linter.unusedVariables false
set_option linter.unusedSimpArgs false
set_option maxRecDepth 100000
namespace Go.Proofs.YtjkkidjbppphpaaGreatDoor
open Go Go.SX
def Hl5 (W0:PW) (M:Nat→Prop) (a0_0:Sl) (a1:Sl) (Post:Value→PW→Prop):Prop:=
 Aa1 Tryz.prog W0 M 62 [.agg ⟨[a0_0.v]⟩,a1.v] W0 fun v1 W2=>
 ∃b3:Bool,
 v1 = .bool b3∧
 ((!b3)=true→
 ∀(W4:PW),Ext W2 W4→Post (.tuple ⟨[.agg ⟨[.slice none 0 0,.bool false,.slice none 0 0,.slice none 0 0,.bool false,.slice none 0 0]⟩,.bool false]⟩) W4)∧
 ((!b3)=false→
 Aa1 Tryz.prog W0 M 127 [a1.v] W2 fun v5 W6=>
 ∃s7:Sl,
 v5=s7.v∧
 ∃(l8:List (List Value)),
 Bf9 W6 3 s7 l8∧
 Ai7 [Shp.slice,Shp.bool,Shp.slice,Shp.slice,Shp.bool,Shp.slice,Shp.slice,Shp.bool,Shp.slice]
 (Aj6
 [.slice none 0 0,.bool false,.slice none 0 0,.slice none 0 0,.bool false,.slice none 0 0,.slice none 0 0,.bool false,.slice none 0 0]
 0 (List.flatten (List.take 3 l8))) =
 true∧
 ∀(s9:Sl) (b10:Bool) (s11 s12:Sl) (b13:Bool) (s14 s15:Sl) (b16:Bool) (s17:Sl),
 [s9.v,.bool b10,s11.v,s12.v,.bool b13,s14.v,s15.v,.bool b16,s17.v] =
 Aj6
 [.slice none 0 0,.bool false,.slice none 0 0,.slice none 0 0,.bool false,.slice none 0 0,.slice none 0 0,.bool false,.slice none 0 0]
 0 (List.flatten (List.take 3 l8))→
 Aa1 Tryz.prog W0 M 39 [.agg ⟨[a0_0.v]⟩,.agg ⟨[s9.v,.bool b10,s11.v,s12.v,.bool b13,s14.v,s15.v,.bool b16,s17.v]⟩] W6 fun v18 W19=>
 ∃s20:Sl,
 ∃b21:Bool,
 ∃s22:Sl,
 v18 = .agg ⟨[s20.v,.bool b21,s22.v]⟩∧
 Aa1 Tryz.prog W0 M 84 [.agg ⟨[s20.v,.bool b21,s22.v]⟩] W19 fun v23 W24=>
 ∃s25:Sl,
 ∃b26:Bool,
 ∃s27:Sl,
 ∃s28:Sl,
 ∃b29:Bool,
 ∃s30:Sl,
 v23 = .agg ⟨[s25.v,.bool b26,s27.v,s28.v,.bool b29,s30.v]⟩∧
 ∃(F31:List PL→PW→Prop),
 ∃(F32:List PL→PW→Nat),
 F31 [.val (.int .i64 0),.cells [s25.v,.bool b26,s27.v,s28.v,.bool b29,s30.v]] W24∧
 ∀(s33:Sl) (b34:Bool) (s35 s36:Sl) (b37:Bool) (s38:Sl) (i39:Int) (W40:PW),
 F31 [.val (.int .i64 i39),.cells [s33.v,.bool b34,s35.v,s36.v,.bool b37,s38.v]] W40→
 (i39<(a1.2:Int)→
 inB a1 i39∧
 ∃s41:Sl,
 ∃b42:Bool,
 ∃s43:Sl,
 ∃s44:Sl,
 ∃b45:Bool,
 ∃s46:Sl,
 Aa7 W40 a1 6 (Int.toNat i39) 0 [s41.v,.bool b42,s43.v,s44.v,.bool b45,s46.v]∧
 Aa1 Tryz.prog W0 M 128 [.agg ⟨[a0_0.v]⟩,.int .i64 i39] W40 fun v47 W48=>
 ∃s49:Sl,
 v47 = .agg ⟨[s49.v]⟩∧
 Aa1 Tryz.prog W0 M 93 [a1.v] W48 fun v50 W51=>
 ∃s52:Sl,
 ∃b53:Bool,
 ∃s54:Sl,
 ∃s55:Sl,
 ∃b56:Bool,
 ∃s57:Sl,
 ∃s58:Sl,
 ∃b59:Bool,
 ∃s60:Sl,
 ∃s61:Sl,
 ∃b62:Bool,
 ∃s63:Sl,
 ∃s64:Sl,
 ∃b65:Bool,
 ∃s66:Sl,
 ∃s67:Sl,
 ∃b68:Bool,
 ∃s69:Sl,
 v50 =
 .agg
 {
 toList:=
 [s52.v,.bool b53,s54.v,s55.v,.bool b56,s57.v,s58.v,.bool b59,s60.v,s61.v,.bool b62,s63.v,s64.v,.bool b65,s66.v,
 s67.v,.bool b68,s69.v] }∧
 Aa1 Tryz.prog W0 M 19
 [.agg ⟨[s49.v]⟩,
 .agg
 {
 toList:=
 [s52.v,.bool b53,s54.v,s55.v,.bool b56,s57.v,s58.v,.bool b59,s60.v,s61.v,.bool b62,s63.v,s64.v,.bool b65,s66.v,
 s67.v,.bool b68,s69.v] }]
 W51 fun v70 W71=>
 ∃s72:Sl,
 ∃b73:Bool,
 ∃s74:Sl,
 ∃s75:Sl,
 ∃b76:Bool,
 ∃s77:Sl,
 v70 = .agg ⟨[s72.v,.bool b73,s74.v,s75.v,.bool b76,s77.v]⟩∧
 (0≤i39∧i39<3)∧
 ∃s78:Sl,
 ∃b79:Bool,
 ∃s80:Sl,
 As9 [s9.v,.bool b10,s11.v,s12.v,.bool b13,s14.v,s15.v,.bool b16,s17.v] (0+Int.toNat i39*3+0)
 [s78.v,.bool b79,s80.v]∧
 Aa1 Tryz.prog W0 M 84 [.agg ⟨[s78.v,.bool b79,s80.v]⟩] W71 fun v81 W82=>
 ∃s83:Sl,
 ∃b84:Bool,
 ∃s85:Sl,
 ∃s86:Sl,
 ∃b87:Bool,
 ∃s88:Sl,
 v81 = .agg ⟨[s83.v,.bool b84,s85.v,s86.v,.bool b87,s88.v]⟩∧
 Aa1 Tryz.prog W0 M 129
 [.agg ⟨[s41.v,.bool b42,s43.v,s44.v,.bool b45,s46.v]⟩,
 .agg ⟨[s83.v,.bool b84,s85.v,s86.v,.bool b87,s88.v]⟩]
 W82 fun v89 W90=>
 ∃s91:Sl,
 ∃b92:Bool,
 ∃s93:Sl,
 ∃s94:Sl,
 ∃b95:Bool,
 ∃s96:Sl,
 v89 = .agg ⟨[s91.v,.bool b92,s93.v,s94.v,.bool b95,s96.v]⟩∧
 Aa1 Tryz.prog W0 M 85
 [.agg ⟨[s72.v,.bool b73,s74.v,s75.v,.bool b76,s77.v]⟩,
 .agg ⟨[s91.v,.bool b92,s93.v,s94.v,.bool b95,s96.v]⟩]
 W90 fun v97 W98=>
 ∃s99:Sl,
 ∃b100:Bool,
 ∃s101:Sl,
 ∃s102:Sl,
 ∃b103:Bool,
 ∃s104:Sl,
 v97 = .agg ⟨[s99.v,.bool b100,s101.v,s102.v,.bool b103,s104.v]⟩∧
 Aa1 Tryz.prog W0 M 28
 [.agg ⟨[s33.v,.bool b34,s35.v,s36.v,.bool b37,s38.v]⟩,
 .agg ⟨[s99.v,.bool b100,s101.v,s102.v,.bool b103,s104.v]⟩]
 W98 fun v105 W106=>
 ∃s107:Sl,
 ∃b108:Bool,
 ∃s109:Sl,
 ∃s110:Sl,
 ∃b111:Bool,
 ∃s112:Sl,
 v105 = .agg ⟨[s107.v,.bool b108,s109.v,s110.v,.bool b111,s112.v]⟩∧
 I64 (i39+1)∧
 stp F31 F32
 [.val (.int .i64 (i39+1)),
 .cells [s107.v,.bool b108,s109.v,s110.v,.bool b111,s112.v]]
 W106 [.val (.int .i64 i39),.cells [s33.v,.bool b34,s35.v,s36.v,.bool b37,s38.v]]
 W40)∧
 (¬i39<(a1.2:Int)→∀(W113:PW),Ext W40 W113→Post (.tuple ⟨[.agg ⟨[s33.v,.bool b34,s35.v,s36.v,.bool b37,s38.v]⟩,.bool true]⟩) W113))
theorem Hf5 (W0:PW) (M:Nat→Prop) (a0_0:Sl) (a1:Sl) (Post:Value→PW→Prop) (h:Hl5 W0 M a0_0 a1 Post):Aa0 Tryz.prog 50 [.agg #[a0_0.v],a1.v] W0 M Post:=
 Aa3 rfl Aa9 Aa8 Tryz.func50 (cuts:=[]) rfl rfl (Nat.le_of_ble_eq_true rfl) (Eq.mpr (by kernel_rfl) h)
end Go.Proofs.YtjkkidjbppphpaaGreatDoor
