/- R18 -/
import Derived.Test.YtjkkidjbppphpaaGreatDoorTt
set_option linter.unusedVariables false
set_option linter.unusedSimpArgs false
set_option maxRecDepth 100000
namespace Go.Proofs.YtjkkidjbppphpaaGreatDoor
open Go Go.SX
def Hl5 (W0:PW) (M:Nat→Prop) (a0_0:Sl) (a1:Sl) (Post:Value→PW→Prop):Prop:=
 Aa1 Tryz.prog W0 M 62 [.agg ⟨[a0_0.v]⟩,a1.v] W0 fun v1 W2=>
 ∃b3:Bool,
 v1 = .bool b3∧
 ((!b3)=true→
 ∀(W4:PW),Ext W2 W4→Post (.tuple ⟨[.agg ⟨[.slice none 0 0,.bool false,.slice none 0 0,.slice none 0 0,.bool false,.slice none 0 0]⟩,.bool false]⟩) W4)∧
 ((!b3)=false→
 Aa1 Tryz.prog W0 M 127 [a1.v] W2 fun v5 W6=>
 ∃s7:Sl,
 v5=s7.v∧
 ∃(l8:List (List Value)),
 Bf9 W6 3 s7 l8∧
 Ai7 [Shp.slice,Shp.bool,Shp.slice,Shp.slice,Shp.bool,Shp.slice,Shp.slice,Shp.bool,Shp.slice]
 (Aj6
 [.slice none 0 0,.bool false,.slice none 0 0,.slice none 0 0,.bool false,.slice none 0 0,.slice none 0 0,.bool false,.slice none 0 0]
 0 (List.flatten (List.take 3 l8))) =
 true∧
 ∀(s9:Sl) (b10:Bool) (s11 s12:Sl) (b13:Bool) (s14 s15:Sl) (b16:Bool) (s17:Sl),
 [s9.v,.bool b10,s11.v,s12.v,.bool b13,s14.v,s15.v,.bool b16,s17.v] =
 Aj6
 [.slice none 0 0,.bool false,.slice none 0 0,.slice none 0 0,.bool false,.slice none 0 0,.slice none 0 0,.bool false,.slice none 0 0]
 0 (List.flatten (List.take 3 l8))→
 Aa1 Tryz.prog W0 M 39 [.agg ⟨[a0_0.v]⟩,.agg ⟨[s9.v,.bool b10,s11.v,s12.v,.bool b13,s14.v,s15.v,.bool b16,s17.v]⟩] W6 fun v18 W19=>
 ∃s20:Sl,
 ∃b21:Bool,
 ∃s22:Sl,
 v18 = .agg ⟨[s20.v,.bool b21,s22.v]⟩∧
 Aa1 Tryz.prog W0 M 84 [.agg ⟨[s20.v,.bool b21,s22.v]⟩] W19 fun v23 W24=>
 ∃s25:Sl,
 ∃b26:Bool,
 ∃s27:Sl,
 ∃s28:Sl,
 ∃b29:Bool,
 ∃s30:Sl,
 v23 = .agg ⟨[s25.v,.bool b26,s27.v,s28.v,.bool b29,s30.v]⟩∧
 ∃(F31:List PL→PW→Prop),
 ∃(F32:List PL→PW→Nat),
 F31 [.val (.int .i64 0),.cells [s25.v,.bool b26,s27.v,s28.v,.bool b29,s30.v]] W24∧
 ∀(s33:Sl) (b34:Bool) (s35 s36:Sl) (b37:Bool) (s38:Sl) (i39:Int) (W40:PW),
 F31 [.val (.int .i64 i39),.cells [s33.v,.bool b34,s35.v,s36.v,.bool b37,s38.v]] W40→
 (i39<(a1.2:Int)→
 inB a1 i39∧
 ∃s41:Sl,
 ∃b42:Bool,
 ∃s43:Sl,
 ∃s44:Sl,
 ∃b45:Bool,
 ∃s46:Sl,
 Aa7 W40 a1 6 (Int.toNat i39) 0 [s41.v,.bool b42,s43.v,s44.v,.bool b45,s46.v]∧
 Aa1 Tryz.prog W0 M 128 [.agg ⟨[a0_0.v]⟩,.int .i64 i39] W40 fun v47 W48=>
 ∃s49:Sl,
 v47 = .agg ⟨[s49.v]⟩∧
 Aa1 Tryz.prog W0 M 93 [a1.v] W48 fun v50 W51=>
 ∃s52:Sl,
 ∃b53:Bool,
 ∃s54:Sl,
 ∃s55:Sl,
 ∃b56:Bool,
 ∃s57:Sl,
 ∃s58:Sl,
 ∃b59:Bool,
 ∃s60:Sl,
 ∃s61:Sl,
 ∃b62:Bool,
 ∃s63:Sl,
 ∃s64:Sl,
 ∃b65:Bool,
 ∃s66:Sl,
 ∃s67:Sl,
 ∃b68:Bool,
 ∃s69:Sl,
 v50 =
 .agg
 {
 toList:=
 [s52.v,.bool b53,s54.v,s55.v,.bool b56,s57.v,s58.v,.bool b59,s60.v,s61.v,.bool b62,s63.v,s64.v,.bool b65,s66.v,
 s67.v,.bool b68,s69.v] }∧
 Aa1 Tryz.prog W0 M 19
 [.agg ⟨[s49.v]⟩,
 .agg
 {
 toList:=
 [s52.v,.bool b53,s54.v,s55.v,.bool b56,s57.v,s58.v,.bool b59,s60.v,s61.v,.bool b62,s63.v,s64.v,.bool b65,s66.v,
 s67.v,.bool b68,s69.v] }]
 W51 fun v70 W71=>
 ∃s72:Sl,
 ∃b73:Bool,
 ∃s74:Sl,
 ∃s75:Sl,
 ∃b76:Bool,
 ∃s77:Sl,
 v70 = .agg ⟨[s72.v,.bool b73,s74.v,s75.v,.bool b76,s77.v]⟩∧
 (0≤i39∧i39<3)∧
 ∃s78:Sl,
 ∃b79:Bool,
 ∃s80:Sl,
 As9 [s9.v,.bool b10,s11.v,s12.v,.bool b13,s14.v,s15.v,.bool b16,s17.v] (0+Int.toNat i39*3+0)
 [s78.v,.bool b79,s80.v]∧
 Aa1 Tryz.prog W0 M 84 [.agg ⟨[s78.v,.bool b79,s80.v]⟩] W71 fun v81 W82=>
 ∃s83:Sl,
 ∃b84:Bool,
 ∃s85:Sl,
 ∃s86:Sl,
 ∃b87:Bool,
 ∃s88:Sl,
 v81 = .agg ⟨[s83.v,.bool b84,s85.v,s86.v,.bool b87,s88.v]⟩∧
 Aa1 Tryz.prog W0 M 129
 [.agg ⟨[s41.v,.bool b42,s43.v,s44.v,.bool b45,s46.v]⟩,
 .agg ⟨[s83.v,.bool b84,s85.v,s86.v,.bool b87,s88.v]⟩]
 W82 fun v89 W90=>
 ∃s91:Sl,
 ∃b92:Bool,
 ∃s93:Sl,
 ∃s94:Sl,
 ∃b95:Bool,
 ∃s96:Sl,
 v89 = .agg ⟨[s91.v,.bool b92,s93.v,s94.v,.bool b95,s96.v]⟩∧
 Aa1 Tryz.prog W0 M 85
 [.agg ⟨[s72.v,.bool b73,s74.v,s75.v,.bool b76,s77.v]⟩,
 .agg ⟨[s91.v,.bool b92,s93.v,s94.v,.bool b95,s96.v]⟩]
 W90 fun v97 W98=>
 ∃s99:Sl,
 ∃b100:Bool,
 ∃s101:Sl,
 ∃s102:Sl,
 ∃b103:Bool,
 ∃s104:Sl,
 v97 = .agg ⟨[s99.v,.bool b100,s101.v,s102.v,.bool b103,s104.v]⟩∧
 Aa1 Tryz.prog W0 M 28
 [.agg ⟨[s33.v,.bool b34,s35.v,s36.v,.bool b37,s38.v]⟩,
 .agg ⟨[s99.v,.bool b100,s101.v,s102.v,.bool b103,s104.v]⟩]
 W98 fun v105 W106=>
 ∃s107:Sl,
 ∃b108:Bool,
 ∃s109:Sl,
 ∃s110:Sl,
 ∃b111:Bool,
 ∃s112:Sl,
 v105 = .agg ⟨[s107.v,.bool b108,s109.v,s110.v,.bool b111,s112.v]⟩∧
 I64 (i39+1)∧
 stp F31 F32
 [.val (.int .i64 (i39+1)),
 .cells [s107.v,.bool b108,s109.v,s110.v,.bool b111,s112.v]]
 W106 [.val (.int .i64 i39),.cells [s33.v,.bool b34,s35.v,s36.v,.bool b37,s38.v]]
 W40)∧
 (¬i39<(a1.2:Int)→∀(W113:PW),Ext W40 W113→Post (.tuple ⟨[.agg ⟨[s33.v,.bool b34,s35.v,s36.v,.bool b37,s38.v]⟩,.bool true]⟩) W113))
theorem Hf5 (W0:PW) (M:Nat→Prop) (a0_0:Sl) (a1:Sl) (Post:Value→PW→Prop) (h:Hl5 W0 M a0_0 a1 Post):Aa0 Tryz.prog 50 [.agg #[a0_0.v],a1.v] W0 M Post:=
 Aa3 rfl Aa9 Aa8 Tryz.func50 (cuts:=[]) rfl rfl (Nat.le_of_ble_eq_true rfl) (Eq.mpr (by kernel_rfl) h)
def Hk7 (W0:PW) (M:Nat→Prop) (a0_0:Sl) (a1:Sl) (Post:Value→PW→Prop):Prop:=
 Aa1 Tryz.prog W0 M 24 [.agg ⟨[a0_0.v]⟩,a1.v] W0 fun v1 W2=>
 ∃s3:Sl,
 ∃b4:Bool,
 ∃s5:Sl,
 ∃s6:Sl,
 ∃b7:Bool,
 ∃s8:Sl,
 ∃b9:Bool,
 v1 = .tuple ⟨[.agg ⟨[s3.v,.bool b4,s5.v,s6.v,.bool b7,s8.v]⟩,.bool b9]⟩∧
 Aa1 Tryz.prog W0 M 50 [.agg ⟨[a0_0.v]⟩,a1.v] W2 fun v10 W11=>
 ∃s12:Sl,
 ∃b13:Bool,
 ∃s14:Sl,
 ∃s15:Sl,
 ∃b16:Bool,
 ∃s17:Sl,
 ∃b18:Bool,
 v10 = .tuple ⟨[.agg ⟨[s12.v,.bool b13,s14.v,s15.v,.bool b16,s17.v]⟩,.bool b18]⟩∧
 ((!b18)=true→
 ∀(W19:PW),
 Ext W11 W19→
 Post (.tuple ⟨[.agg ⟨[.slice none 0 0,.bool false,.slice none 0 0,.slice none 0 0,.bool false,.slice none 0 0]⟩,.bool false]⟩) W19)∧
 ((!b18)=false→
 Aa1 Tryz.prog W0 M 147 [.agg ⟨[s3.v,.bool b4,s5.v,s6.v,.bool b7,s8.v]⟩,.agg ⟨[s12.v,.bool b13,s14.v,s15.v,.bool b16,s17.v]⟩] W11 fun v20 W21=>
 ∃s22:Sl,
 ∃b23:Bool,
 ∃s24:Sl,
 ∃s25:Sl,
 ∃b26:Bool,
 ∃s27:Sl,
 ∃b28:Bool,
 v20 = .tuple ⟨[.agg ⟨[s22.v,.bool b23,s24.v,s25.v,.bool b26,s27.v]⟩,.bool b28]⟩∧
 ∀(W29:PW),Ext W21 W29→Post (.tuple ⟨[.agg ⟨[s22.v,.bool b23,s24.v,s25.v,.bool b26,s27.v]⟩,.bool b28]⟩) W29)
theorem Hf1 (W0:PW) (M:Nat→Prop) (a0_0:Sl) (a1:Sl) (Post:Value→PW→Prop) (h:Hk7 W0 M a0_0 a1 Post):Aa0 Tryz.prog 60 [.agg #[a0_0.v],a1.v] W0 M Post:=
 Aa3 rfl Aa9 Aa8 Tryz.func60 (cuts:=[]) rfl rfl (Nat.le_of_ble_eq_true rfl) (Eq.mpr (by kernel_rfl) h)
def Hk3 (W0:PW) (M:Nat→Prop) (a0:Sl) (a1:Sl) (Post:Value→PW→Prop):Prop:=
 Aa1 Tryz.prog W0 M 148 [a1.v] W0 fun v1 W2=>
 ∃b3:Bool,
 v1 = .bool b3∧(b3=true→Aa1 Tryz.prog W0 M 36 [a0.v] W2 fun v4 W5=>∃i6:Int,v4 = .int .i64 i6∧∀(W7:PW),Ext W5 W7→Post (.bool (decide (i6≤(a1.2:Int)))) W7)∧(b3=false→∀(W8:PW),Ext W2 W8→Post (.bool false) W8)
theorem Hf4 (W0:PW) (M:Nat→Prop) (a0:Sl) (a1:Sl) (Post:Value→PW→Prop) (h:Hk3 W0 M a0 a1 Post):Aa0 Tryz.prog 63 [a0.v,a1.v] W0 M Post:=
 Aa3 rfl Aa9 Aa8 Tryz.func63 (cuts:=[]) rfl rfl (Nat.le_of_ble_eq_true rfl) (Eq.mpr (by kernel_rfl) h)
def Hk4 (W0:PW) (M:Nat→Prop) (a0:Sl) (Post:Value→PW→Prop):Prop:=
 Aa1 Tryz.prog W0 M 80 [.int .i64 0] W0 fun v1 W2=>
 ∃b3:Bool,
 ∃s4:Sl,
 ∃s5:Sl,
 v1 = .agg ⟨[.bool b3,s4.v,s5.v]⟩∧
 Aa1 Tryz.prog W0 M 87 [.agg ⟨[.bool b3,s4.v,s5.v]⟩] W2 fun v6 W7=>
 ∃b8:Bool,
 ∃s9:Sl,
 ∃s10:Sl,
 ∃b11:Bool,
 ∃s12:Sl,
 ∃s13:Sl,
 v6 = .agg ⟨[.bool b8,s9.v,s10.v,.bool b11,s12.v,s13.v]⟩∧
 Aa1 Tryz.prog W0 M 80 [.int .i64 0] W7 fun v14 W15=>
 ∃b16:Bool,
 ∃s17:Sl,
 ∃s18:Sl,
 v14 = .agg ⟨[.bool b16,s17.v,s18.v]⟩∧
 Aa1 Tryz.prog W0 M 87 [.agg ⟨[.bool b16,s17.v,s18.v]⟩] W15 fun v19 W20=>
 ∃b21:Bool,
 ∃s22:Sl,
 ∃s23:Sl,
 ∃b24:Bool,
 ∃s25:Sl,
 ∃s26:Sl,
 v19 = .agg ⟨[.bool b21,s22.v,s23.v,.bool b24,s25.v,s26.v]⟩∧
 Aa1 Tryz.prog W0 M 80 [.int .i64 0] W20 fun v27 W28=>
 ∃b29:Bool,
 ∃s30:Sl,
 ∃s31:Sl,
 v27 = .agg ⟨[.bool b29,s30.v,s31.v]⟩∧
 Aa1 Tryz.prog W0 M 87 [.agg ⟨[.bool b29,s30.v,s31.v]⟩] W28 fun v32 W33=>
 ∃b34:Bool,
 ∃s35:Sl,
 ∃s36:Sl,
 ∃b37:Bool,
 ∃s38:Sl,
 ∃s39:Sl,
 v32 = .agg ⟨[.bool b34,s35.v,s36.v,.bool b37,s38.v,s39.v]⟩∧
 ∃(F40:List PL→PW→Prop),
 ∃(F41:List PL→PW→Nat),
 F40
 [.val (.int .i64 0),
 .cells
 [.bool b8,s9.v,s10.v,.bool b11,s12.v,s13.v,.bool b21,s22.v,s23.v,.bool b24,s25.v,s26.v,.bool b34,s35.v,s36.v,.bool b37,s38.v,s39.v]]
 W33∧
 ∀(b42:Bool) (s43 s44:Sl) (b45:Bool) (s46 s47:Sl) (b48:Bool) (s49 s50:Sl) (b51:Bool) (s52 s53:Sl) (b54:Bool) (s55 s56:Sl) (b57:Bool) (s58 s59:Sl) (i60:Int) (W61:PW),
 F40
 [.val (.int .i64 i60),
 .cells
 [.bool b42,s43.v,s44.v,.bool b45,s46.v,s47.v,.bool b48,s49.v,s50.v,.bool b51,s52.v,s53.v,.bool b54,s55.v,s56.v,.bool b57,s58.v,
 s59.v]]
 W61→
 (i60<(a0.2:Int)→
 (i60<3→
 inB a0 i60∧
 ∃b62:Bool,
 ∃s63:Sl,
 ∃s64:Sl,
 ∃b65:Bool,
 ∃s66:Sl,
 ∃s67:Sl,
 Aa7 W61 a0 6 (Int.toNat i60) 0 [.bool b62,s63.v,s64.v,.bool b65,s66.v,s67.v]∧
 (0≤i60∧i60<3)∧
 Int.toNat i60<3∧
 ((True∧
 (Int.toNat i60=0→
 I64 (i60+1)∧
 stp F40 F41
 [.val (.int .i64 (i60+1)),
 .cells
 [.bool b62,s63.v,s64.v,.bool b65,s66.v,s67.v,.bool b48,s49.v,s50.v,.bool b51,s52.v,s53.v,.bool b54,s55.v,s56.v,
 .bool b57,s58.v,s59.v]]
 W61
 [.val (.int .i64 i60),
 .cells
 [.bool b42,s43.v,s44.v,.bool b45,s46.v,s47.v,.bool b48,s49.v,s50.v,.bool b51,s52.v,s53.v,.bool b54,s55.v,s56.v,
 .bool b57,s58.v,s59.v]]
 W61))∧
 (Int.toNat i60=1→
 I64 (i60+1)∧
 stp F40 F41
 [.val (.int .i64 (i60+1)),
 .cells
 [.bool b42,s43.v,s44.v,.bool b45,s46.v,s47.v,.bool b62,s63.v,s64.v,.bool b65,s66.v,s67.v,.bool b54,s55.v,s56.v,
 .bool b57,s58.v,s59.v]]
 W61
 [.val (.int .i64 i60),
 .cells
 [.bool b42,s43.v,s44.v,.bool b45,s46.v,s47.v,.bool b48,s49.v,s50.v,.bool b51,s52.v,s53.v,.bool b54,s55.v,s56.v,
 .bool b57,s58.v,s59.v]]
 W61))∧
 (Int.toNat i60=2→
 I64 (i60+1)∧
 stp F40 F41
 [.val (.int .i64 (i60+1)),
 .cells
 [.bool b42,s43.v,s44.v,.bool b45,s46.v,s47.v,.bool b48,s49.v,s50.v,.bool b51,s52.v,s53.v,.bool b62,s63.v,s64.v,
 .bool b65,s66.v,s67.v]]
 W61
 [.val (.int .i64 i60),
 .cells
 [.bool b42,s43.v,s44.v,.bool b45,s46.v,s47.v,.bool b48,s49.v,s50.v,.bool b51,s52.v,s53.v,.bool b54,s55.v,s56.v,
 .bool b57,s58.v,s59.v]]
 W61))∧
 (¬i60<3→
 ∀(W68:PW),
 Ext W61 W68→
 Post
 (.agg
 {
 toList:=
 [.bool b42,s43.v,s44.v,.bool b45,s46.v,s47.v,.bool b48,s49.v,s50.v,.bool b51,s52.v,s53.v,.bool b54,s55.v,s56.v,.bool b57,s58.v,
 s59.v] })
 W68))∧
 (¬i60<(a0.2:Int)→
 ∀(W69:PW),
 Ext W61 W69→
 Post
 (.agg
 {
 toList:=
 [.bool b42,s43.v,s44.v,.bool b45,s46.v,s47.v,.bool b48,s49.v,s50.v,.bool b51,s52.v,s53.v,.bool b54,s55.v,s56.v,.bool b57,s58.v,
 s59.v] })
 W69)
theorem Hf3 (W0:PW) (M:Nat→Prop) (a0:Sl) (Post:Value→PW→Prop) (h:Hk4 W0 M a0 Post):Aa0 Tryz.prog 142 [a0.v] W0 M Post:=
 Aa3 rfl Aa9 Aa8 Tryz.func142 (cuts:=[]) rfl rfl (Nat.le_of_ble_eq_true rfl) (Eq.mpr (by kernel_rfl) h)
def Hg3 (W0:PW) (M:Nat→Prop) (a0:Sl) (a1:Sl) (Post:Value→PW→Prop):Prop:=
 Aa1 Tryz.prog W0 M 63 [a0.v,a1.v] W0 fun v1 W2=>
 ∃b3:Bool,
 v1 = .bool b3∧
 ((!b3)=true→
 ∀(W4:PW),Ext W2 W4→Post (.tuple ⟨[.agg ⟨[.bool false,.slice none 0 0,.slice none 0 0,.bool false,.slice none 0 0,.slice none 0 0]⟩,.bool false]⟩) W4)∧
 ((!b3)=false→
 Aa1 Tryz.prog W0 M 142 [a1.v] W2 fun v5 W6=>
 ∃b7:Bool,
 ∃s8:Sl,
 ∃s9:Sl,
 ∃b10:Bool,
 ∃s11:Sl,
 ∃s12:Sl,
 ∃b13:Bool,
 ∃s14:Sl,
 ∃s15:Sl,
 ∃b16:Bool,
 ∃s17:Sl,
 ∃s18:Sl,
 ∃b19:Bool,
 ∃s20:Sl,
 ∃s21:Sl,
 ∃b22:Bool,
 ∃s23:Sl,
 ∃s24:Sl,
 v5 = .agg ⟨[.bool b7,s8.v,s9.v,.bool b10,s11.v,s12.v,.bool b13,s14.v,s15.v,.bool b16,s17.v,s18.v,.bool b19,s20.v,s21.v,.bool b22,s23.v,s24.v]⟩∧
 Aa1 Tryz.prog W0 M 20
 [a0.v,.agg ⟨[.bool b7,s8.v,s9.v,.bool b10,s11.v,s12.v,.bool b13,s14.v,s15.v,.bool b16,s17.v,s18.v,.bool b19,s20.v,s21.v,.bool b22,s23.v,s24.v]⟩]
 W6 fun v25 W26=>
 ∃b27:Bool,
 ∃s28:Sl,
 ∃s29:Sl,
 ∃b30:Bool,
 ∃s31:Sl,
 ∃s32:Sl,
 v25 = .agg ⟨[.bool b27,s28.v,s29.v,.bool b30,s31.v,s32.v]⟩∧
 ∀(W33:PW),Ext W26 W33→Post (.tuple ⟨[.agg ⟨[.bool b27,s28.v,s29.v,.bool b30,s31.v,s32.v]⟩,.bool true]⟩) W33)
theorem He2 (W0:PW) (M:Nat→Prop) (a0:Sl) (a1:Sl) (Post:Value→PW→Prop) (h:Hg3 W0 M a0 a1 Post):Aa0 Tryz.prog 58 [a0.v,a1.v] W0 M Post:=
 Aa3 rfl Aa9 Aa8 Tryz.func58 (cuts:=[]) rfl rfl (Nat.le_of_ble_eq_true rfl) (Eq.mpr (by kernel_rfl) h)
def Ho1 (W0:PW) (M:Nat→Prop) (a0_0:Bool) (a0_1:Sl) (a0_2:Sl) (a0_3:Bool) (a0_4:Sl) (a0_5:Sl) (Post:Value→PW→Prop):Prop:=
 Aa1 Tryz.prog W0 M 139 [.agg ⟨[.bool a0_0,a0_1.v,a0_2.v]⟩,.agg ⟨[.bool a0_3,a0_4.v,a0_5.v]⟩] W0 fun v1 W2=>
 ∃b3:Bool,
 ∃s4:Sl,
 ∃s5:Sl,
 v1 = .agg ⟨[.bool b3,s4.v,s5.v]⟩∧
 Aa1 Tryz.prog W0 M 155 [.agg ⟨[.bool b3,s4.v,s5.v]⟩] W2 fun v6 W7=>
 ∃b8:Bool,∃s9:Sl,∃s10:Sl,v6 = .agg ⟨[.bool b8,s9.v,s10.v]⟩∧∀(W11:PW),Ext W7 W11→Post (.agg ⟨[.bool b8,s9.v,s10.v]⟩) W11
theorem Hi6 (W0:PW) (M:Nat→Prop) (a0_0:Bool) (a0_1:Sl) (a0_2:Sl) (a0_3:Bool) (a0_4:Sl) (a0_5:Sl) (Post:Value→PW→Prop) (h:Ho1 W0 M a0_0 a0_1 a0_2 a0_3 a0_4 a0_5 Post):Aa0 Tryz.prog 143 [.agg #[.bool a0_0,a0_1.v,a0_2.v,.bool a0_3,a0_4.v,a0_5.v]] W0 M Post:=
 Aa3 rfl Aa9 Aa8 Tryz.func143 (cuts:=[]) rfl rfl (Nat.le_of_ble_eq_true rfl) (Eq.mpr (by kernel_rfl) h)
def Hh6 (W0:PW) (M:Nat→Prop) (a0_0:Bool) (a0_1:Sl) (a0_2:Sl) (a0_3:Bool) (a0_4:Sl) (a0_5:Sl) (a1_0:Bool) (a1_1:Sl) (a1_2:Sl) (a1_3:Bool) (a1_4:Sl) (a1_5:Sl) (Post:Value→PW→Prop):Prop:=
 Aa1 Tryz.prog W0 M 152 [.agg ⟨[.bool a0_0,a0_1.v,a0_2.v]⟩,.agg ⟨[.bool a1_3,a1_4.v,a1_5.v]⟩] W0 fun v1 W2=>
 ∃b3:Bool,
 ∃s4:Sl,
 ∃s5:Sl,
 v1 = .agg ⟨[.bool b3,s4.v,s5.v]⟩∧
 Aa1 Tryz.prog W0 M 152 [.agg ⟨[.bool a0_3,a0_4.v,a0_5.v]⟩,.agg ⟨[.bool a1_0,a1_1.v,a1_2.v]⟩] W2 fun v6 W7=>
 ∃b8:Bool,∃s9:Sl,∃s10:Sl,v6 = .agg ⟨[.bool b8,s9.v,s10.v]⟩∧∀(W11:PW),Ext W7 W11→Post (.agg ⟨[.bool b3,s4.v,s5.v,.bool b8,s9.v,s10.v]⟩) W11
theorem Hd9 (W0:PW) (M:Nat→Prop) (a0_0:Bool) (a0_1:Sl) (a0_2:Sl) (a0_3:Bool) (a0_4:Sl) (a0_5:Sl) (a1_0:Bool) (a1_1:Sl) (a1_2:Sl) (a1_3:Bool) (a1_4:Sl) (a1_5:Sl) (Post:Value→PW→Prop) (h:Hh6 W0 M a0_0 a0_1 a0_2 a0_3 a0_4 a0_5 a1_0 a1_1 a1_2 a1_3 a1_4 a1_5 Post):Aa0 Tryz.prog 146 [.agg #[.bool a0_0,a0_1.v,a0_2.v,.bool a0_3,a0_4.v,a0_5.v],.agg #[.bool a1_0,a1_1.v,a1_2.v,.bool a1_3,a1_4.v,a1_5.v]] W0 M Post:=
 Aa3 rfl Aa9 Aa8 Tryz.func146 (cuts:=[]) rfl rfl (Nat.le_of_ble_eq_true rfl) (Eq.mpr (by kernel_rfl) h)
def Hn5 (W0:PW) (M:Nat→Prop) (a0:Sl) (a1:Sl) (Post:Value→PW→Prop):Prop:=
 Aa1 Tryz.prog W0 M 63 [a0.v,a1.v] W0 fun v1 W2=>
 ∃b3:Bool,
 v1 = .bool b3∧
 ((!b3)=true→
 ∀(W4:PW),Ext W2 W4→Post (.tuple ⟨[.agg ⟨[.bool false,.slice none 0 0,.slice none 0 0,.bool false,.slice none 0 0,.slice none 0 0]⟩,.bool false]⟩) W4)∧
 ((!b3)=false→
 Aa1 Tryz.prog W0 M 80 [.int .i64 0] W2 fun v5 W6=>
 ∃b7:Bool,
 ∃s8:Sl,
 ∃s9:Sl,
 v5 = .agg ⟨[.bool b7,s8.v,s9.v]⟩∧
 Aa1 Tryz.prog W0 M 80 [.int .i64 0] W6 fun v10 W11=>
 ∃b12:Bool,
 ∃s13:Sl,
 ∃s14:Sl,
 v10 = .agg ⟨[.bool b12,s13.v,s14.v]⟩∧
 Aa1 Tryz.prog W0 M 80 [.int .i64 0] W11 fun v15 W16=>
 ∃b17:Bool,
 ∃s18:Sl,
 ∃s19:Sl,
 v15 = .agg ⟨[.bool b17,s18.v,s19.v]⟩∧
 ∃(F20:List PL→PW→Prop),
 ∃(F21:List PL→PW→Nat),
 F20 [.val (.int .i64 0),.cells [.bool b7,s8.v,s9.v,.bool b12,s13.v,s14.v,.bool b17,s18.v,s19.v]] W16∧
 ∀(b22:Bool) (s23 s24:Sl) (b25:Bool) (s26 s27:Sl) (b28:Bool) (s29 s30:Sl) (i31:Int) (W32:PW),
 F20 [.val (.int .i64 i31),.cells [.bool b22,s23.v,s24.v,.bool b25,s26.v,s27.v,.bool b28,s29.v,s30.v]] W32→
 (i31<(a1.2:Int)→
 inB a1 i31∧
 ∃b33:Bool,
 ∃s34:Sl,
 ∃s35:Sl,
 ∃b36:Bool,
 ∃s37:Sl,
 ∃s38:Sl,
 Aa7 W32 a1 6 (Int.toNat i31) 0 [.bool b33,s34.v,s35.v,.bool b36,s37.v,s38.v]∧
 Aa1 Tryz.prog W0 M 143 [.agg ⟨[.bool b33,s34.v,s35.v,.bool b36,s37.v,s38.v]⟩] W32 fun v39 W40=>
 ∃b41:Bool,
 ∃s42:Sl,
 ∃s43:Sl,
 v39 = .agg ⟨[.bool b41,s42.v,s43.v]⟩∧
 (0≤i31∧i31<3)∧
 Int.toNat i31<3∧
 ((True∧
 (Int.toNat i31=0→
 I64 (i31+1)∧
 stp F20 F21 [.val (.int .i64 (i31+1)),.cells [.bool b41,s42.v,s43.v,.bool b25,s26.v,s27.v,.bool b28,s29.v,s30.v]] W40
 [.val (.int .i64 i31),.cells [.bool b22,s23.v,s24.v,.bool b25,s26.v,s27.v,.bool b28,s29.v,s30.v]] W32))∧
 (Int.toNat i31=1→
 I64 (i31+1)∧
 stp F20 F21 [.val (.int .i64 (i31+1)),.cells [.bool b22,s23.v,s24.v,.bool b41,s42.v,s43.v,.bool b28,s29.v,s30.v]] W40
 [.val (.int .i64 i31),.cells [.bool b22,s23.v,s24.v,.bool b25,s26.v,s27.v,.bool b28,s29.v,s30.v]] W32))∧
 (Int.toNat i31=2→
 I64 (i31+1)∧
 stp F20 F21 [.val (.int .i64 (i31+1)),.cells [.bool b22,s23.v,s24.v,.bool b25,s26.v,s27.v,.bool b41,s42.v,s43.v]] W40
 [.val (.int .i64 i31),.cells [.bool b22,s23.v,s24.v,.bool b25,s26.v,s27.v,.bool b28,s29.v,s30.v]] W32))∧
 (¬i31<(a1.2:Int)→
 Aa1 Tryz.prog W0 M 144 [a0.v,.agg ⟨[.bool b22,s23.v,s24.v,.bool b25,s26.v,s27.v,.bool b28,s29.v,s30.v]⟩] W32 fun v44 W45=>
 ∃b46:Bool,
 ∃s47:Sl,
 ∃s48:Sl,
 v44 = .agg ⟨[.bool b46,s47.v,s48.v]⟩∧
 Aa1 Tryz.prog W0 M 87 [.agg ⟨[.bool b46,s47.v,s48.v]⟩] W45 fun v49 W50=>
 ∃b51:Bool,
 ∃s52:Sl,
 ∃s53:Sl,
 ∃b54:Bool,
 ∃s55:Sl,
 ∃s56:Sl,
 v49 = .agg ⟨[.bool b51,s52.v,s53.v,.bool b54,s55.v,s56.v]⟩∧
 ∃(F57:List PL→PW→Prop),
 ∃(F58:List PL→PW→Nat),
 F57 [.val (.int .i64 0),.cells [.bool b51,s52.v,s53.v,.bool b54,s55.v,s56.v]] W50∧
 ∀(b59:Bool) (s60 s61:Sl) (b62:Bool) (s63 s64:Sl) (i65:Int) (W66:PW),
 F57 [.val (.int .i64 i65),.cells [.bool b59,s60.v,s61.v,.bool b62,s63.v,s64.v]] W66→
 (i65<(a1.2:Int)→
 inB a1 i65∧
 ∃b67:Bool,
 ∃s68:Sl,
 ∃s69:Sl,
 ∃b70:Bool,
 ∃s71:Sl,
 ∃s72:Sl,
 Aa7 W66 a1 6 (Int.toNat i65) 0 [.bool b67,s68.v,s69.v,.bool b70,s71.v,s72.v]∧
 (0≤i65∧i65<3)∧
 ∃b73:Bool,
 ∃s74:Sl,
 ∃s75:Sl,
 As9 [.bool b22,s23.v,s24.v,.bool b25,s26.v,s27.v,.bool b28,s29.v,s30.v] (0+Int.toNat i65*3+0) [.bool b73,s74.v,s75.v]∧
 Aa1 Tryz.prog W0 M 145 [a0.v,.int .i64 i65] W66 fun v76 W77=>
 ∃s78:Sl,
 v76=s78.v∧
 Ext W66 W77∧
 Aa1 Tryz.prog W0 M 142 [a1.v] W77 fun v79 W80=>
 ∃b81:Bool,
 ∃s82:Sl,
 ∃s83:Sl,
 ∃b84:Bool,
 ∃s85:Sl,
 ∃s86:Sl,
 ∃b87:Bool,
 ∃s88:Sl,
 ∃s89:Sl,
 ∃b90:Bool,
 ∃s91:Sl,
 ∃s92:Sl,
 ∃b93:Bool,
 ∃s94:Sl,
 ∃s95:Sl,
 ∃b96:Bool,
 ∃s97:Sl,
 ∃s98:Sl,
 v79 =
 .agg
 {
 toList:=
 [.bool b81,s82.v,s83.v,.bool b84,s85.v,s86.v,.bool b87,s88.v,s89.v,.bool b90,s91.v,s92.v,.bool b93,
 s94.v,s95.v,.bool b96,s97.v,s98.v] }∧
 Ext W77 W80∧
 Aa1 Tryz.prog W0 M 20
 [s78.v,
 .agg
 {
 toList:=
 [.bool b81,s82.v,s83.v,.bool b84,s85.v,s86.v,.bool b87,s88.v,s89.v,.bool b90,s91.v,s92.v,
 .bool b93,s94.v,s95.v,.bool b96,s97.v,s98.v] }]
 W80 fun v99 W100=>
 ∃b101:Bool,
 ∃s102:Sl,
 ∃s103:Sl,
 ∃b104:Bool,
 ∃s105:Sl,
 ∃s106:Sl,
 v99 = .agg ⟨[.bool b101,s102.v,s103.v,.bool b104,s105.v,s106.v]⟩∧
 Ext W80 W100∧
 Aa1 Tryz.prog W0 M 87 [.agg ⟨[.bool b73,s74.v,s75.v]⟩] W100 fun v107 W108=>
 ∃b109:Bool,
 ∃s110:Sl,
 ∃s111:Sl,
 ∃b112:Bool,
 ∃s113:Sl,
 ∃s114:Sl,
 v107 = .agg ⟨[.bool b109,s110.v,s111.v,.bool b112,s113.v,s114.v]⟩∧
 Ext W100 W108∧
 Aa1 Tryz.prog W0 M 146
 [.agg ⟨[.bool b67,s68.v,s69.v,.bool b70,s71.v,s72.v]⟩,
 .agg ⟨[.bool b109,s110.v,s111.v,.bool b112,s113.v,s114.v]⟩]
 W108 fun v115 W116=>
 ∃b117:Bool,
 ∃s118:Sl,
 ∃s119:Sl,
 ∃b120:Bool,
 ∃s121:Sl,
 ∃s122:Sl,
 v115 = .agg ⟨[.bool b117,s118.v,s119.v,.bool b120,s121.v,s122.v]⟩∧
 Aa1 Tryz.prog W0 M 88
 [.agg ⟨[.bool b101,s102.v,s103.v,.bool b104,s105.v,s106.v]⟩,
 .agg ⟨[.bool b117,s118.v,s119.v,.bool b120,s121.v,s122.v]⟩]
 W116 fun v123 W124=>
 ∃b125:Bool,
 ∃s126:Sl,
 ∃s127:Sl,
 ∃b128:Bool,
 ∃s129:Sl,
 ∃s130:Sl,
 v123 = .agg ⟨[.bool b125,s126.v,s127.v,.bool b128,s129.v,s130.v]⟩∧
 Aa1 Tryz.prog W0 M 90
 [.agg ⟨[.bool b59,s60.v,s61.v,.bool b62,s63.v,s64.v]⟩,
 .agg ⟨[.bool b125,s126.v,s127.v,.bool b128,s129.v,s130.v]⟩]
 W124 fun v131 W132=>
 ∃b133:Bool,
 ∃s134:Sl,
 ∃s135:Sl,
 ∃b136:Bool,
 ∃s137:Sl,
 ∃s138:Sl,
 v131 = .agg ⟨[.bool b133,s134.v,s135.v,.bool b136,s137.v,s138.v]⟩∧
 I64 (i65+1)∧
 stp F57 F58
 [.val (.int .i64 (i65+1)),
 .cells [.bool b133,s134.v,s135.v,.bool b136,s137.v,s138.v]]
 W132
 [.val (.int .i64 i65),
 .cells [.bool b59,s60.v,s61.v,.bool b62,s63.v,s64.v]]
 W66)∧
 (¬i65<(a1.2:Int)→∀(W139:PW),Ext W66 W139→Post (.tuple ⟨[.agg ⟨[.bool b59,s60.v,s61.v,.bool b62,s63.v,s64.v]⟩,.bool true]⟩) W139)))
theorem Hg9 (W0:PW) (M:Nat→Prop) (a0:Sl) (a1:Sl) (Post:Value→PW→Prop) (h:Hn5 W0 M a0 a1 Post):Aa0 Tryz.prog 59 [a0.v,a1.v] W0 M Post:=
 Aa3 rfl Aa9 Aa8 Tryz.func59 (cuts:=[]) rfl rfl (Nat.le_of_ble_eq_true rfl) (Eq.mpr (by kernel_rfl) h)
def Hn0 (W0:PW) (M:Nat→Prop) (a0_0:Bool) (a0_1:Sl) (a0_2:Sl) (a0_3:Bool) (a0_4:Sl) (a0_5:Sl) (a1_0:Bool) (a1_1:Sl) (a1_2:Sl) (a1_3:Bool) (a1_4:Sl) (a1_5:Sl) (Post:Value→PW→Prop):Prop:=
 Aa1 Tryz.prog W0 M 141 [.agg ⟨[.bool a1_0,a1_1.v,a1_2.v]⟩,.agg ⟨[.bool a0_0,a0_1.v,a0_2.v]⟩] W0 fun v1 W2=>
 ∃i3:Int,
 v1 = .int .i64 i3∧
 (0<i3→
 Aa1 Tryz.prog W0 M 141 [.agg ⟨[.bool a1_3,a1_4.v,a1_5.v]⟩,.agg ⟨[.bool a0_3,a0_4.v,a0_5.v]⟩] W2 fun v4 W5=>
 ∃i6:Int,
 v4 = .int .i64 i6∧
 (i6<0→
 Aa1 Tryz.prog W0 M 141 [.agg ⟨[.bool a1_0,a1_1.v,a1_2.v]⟩,.agg ⟨[.bool a1_3,a1_4.v,a1_5.v]⟩] W5 fun v7 W8=>
 ∃i9:Int,v7 = .int .i64 i9∧∀(W10:PW),Ext W8 W10→Post (.tuple ⟨[.agg ⟨[.bool a1_0,a1_1.v,a1_2.v,.bool a1_3,a1_4.v,a1_5.v]⟩,.bool (decide (i9≤0))]⟩) W10)∧
 (¬i6<0→
 Aa1 Tryz.prog W0 M 141 [.agg ⟨[.bool a1_0,a1_1.v,a1_2.v]⟩,.agg ⟨[.bool a0_3,a0_4.v,a0_5.v]⟩] W5 fun v11 W12=>
 ∃i13:Int,v11 = .int .i64 i13∧∀(W14:PW),Ext W12 W14→Post (.tuple ⟨[.agg ⟨[.bool a1_0,a1_1.v,a1_2.v,.bool a0_3,a0_4.v,a0_5.v]⟩,.bool (decide (i13≤0))]⟩) W14))∧
 (¬0<i3→
 Aa1 Tryz.prog W0 M 141 [.agg ⟨[.bool a1_3,a1_4.v,a1_5.v]⟩,.agg ⟨[.bool a0_3,a0_4.v,a0_5.v]⟩] W2 fun v15 W16=>
 ∃i17:Int,
 v15 = .int .i64 i17∧
 (i17<0→
 Aa1 Tryz.prog W0 M 141 [.agg ⟨[.bool a0_0,a0_1.v,a0_2.v]⟩,.agg ⟨[.bool a1_3,a1_4.v,a1_5.v]⟩] W16 fun v18 W19=>
 ∃i20:Int,v18 = .int .i64 i20∧∀(W21:PW),Ext W19 W21→Post (.tuple ⟨[.agg ⟨[.bool a0_0,a0_1.v,a0_2.v,.bool a1_3,a1_4.v,a1_5.v]⟩,.bool (decide (i20≤0))]⟩) W21)∧
 (¬i17<0→
 Aa1 Tryz.prog W0 M 141 [.agg ⟨[.bool a0_0,a0_1.v,a0_2.v]⟩,.agg ⟨[.bool a0_3,a0_4.v,a0_5.v]⟩] W16 fun v22 W23=>
 ∃i24:Int,v22 = .int .i64 i24∧∀(W25:PW),Ext W23 W25→Post (.tuple ⟨[.agg ⟨[.bool a0_0,a0_1.v,a0_2.v,.bool a0_3,a0_4.v,a0_5.v]⟩,.bool (decide (i24≤0))]⟩) W25))
theorem Hg4 (W0:PW) (M:Nat→Prop) (a0_0:Bool) (a0_1:Sl) (a0_2:Sl) (a0_3:Bool) (a0_4:Sl) (a0_5:Sl) (a1_0:Bool) (a1_1:Sl) (a1_2:Sl) (a1_3:Bool) (a1_4:Sl) (a1_5:Sl) (Post:Value→PW→Prop) (h:Hn0 W0 M a0_0 a0_1 a0_2 a0_3 a0_4 a0_5 a1_0 a1_1 a1_2 a1_3 a1_4 a1_5 Post):Aa0 Tryz.prog 61 [.agg #[.bool a0_0,a0_1.v,a0_2.v,.bool a0_3,a0_4.v,a0_5.v],.agg #[.bool a1_0,a1_1.v,a1_2.v,.bool a1_3,a1_4.v,a1_5.v]] W0 M Post:=
 Aa3 rfl Aa9 Aa8 Tryz.func61 (cuts:=[]) rfl rfl (Nat.le_of_ble_eq_true rfl) (Eq.mpr (by kernel_rfl) h)
def Hn4 (W0:PW) (M:Nat→Prop) (a0_0:Sl) (a0_1:Bool) (a0_2:Sl) (a0_3:Sl) (a0_4:Bool) (a0_5:Sl) (a1:Bool) (a2_0:Bool) (a2_1:Sl) (a2_2:Sl) (a2_3:Bool) (a2_4:Sl) (a2_5:Sl) (a3:Bool) (Post:Value→PW→Prop):Prop:=
 (a1=a3→
 (a3=true→
 Aa1 Tryz.prog W0 M 18 [.agg ⟨[a0_0.v,.bool a0_1,a0_2.v,a0_3.v,.bool a0_4,a0_5.v]⟩,.agg ⟨[.bool a2_0,a2_1.v,a2_2.v,.bool a2_3,a2_4.v,a2_5.v]⟩] W0 fun v1 W2=>
 ∃b3:Bool,
 v1 = .bool b3∧
 (b3=true→∀(W4:PW),Ext W2 W4→Post (.bool true) W4)∧
 (b3=false→
 ((!a3)=true→
 Aa1 Tryz.prog W0 M 18
 [.agg ⟨[a0_0.v,.bool a0_1,a0_2.v,a0_3.v,.bool a0_4,a0_5.v]⟩,
 .agg ⟨[.bool false,.slice none 0 0,.slice none 0 0,.bool false,.slice none 0 0,.slice none 0 0]⟩]
 W2 fun v5 W6=>∃b7:Bool,v5 = .bool b7∧∀(W8:PW),Ext W6 W8→Post (.bool b7) W8)∧
 ((!a3)=false→∀(W9:PW),Ext W2 W9→Post (.bool false) W9)))∧
 (a3=false→
 ((!a3)=true→
 Aa1 Tryz.prog W0 M 18
 [.agg ⟨[a0_0.v,.bool a0_1,a0_2.v,a0_3.v,.bool a0_4,a0_5.v]⟩,
 .agg ⟨[.bool false,.slice none 0 0,.slice none 0 0,.bool false,.slice none 0 0,.slice none 0 0]⟩]
 W0 fun v10 W11=>∃b12:Bool,v10 = .bool b12∧∀(W13:PW),Ext W11 W13→Post (.bool b12) W13)∧
 ((!a3)=false→∀(W14:PW),Ext W0 W14→Post (.bool false) W14)))∧
 (¬a1=a3→∀(W15:PW),Ext W0 W15→Post (.bool false) W15)
theorem Hg8 (W0:PW) (M:Nat→Prop) (a0_0:Sl) (a0_1:Bool) (a0_2:Sl) (a0_3:Sl) (a0_4:Bool) (a0_5:Sl) (a1:Bool) (a2_0:Bool) (a2_1:Sl) (a2_2:Sl) (a2_3:Bool) (a2_4:Sl) (a2_5:Sl) (a3:Bool) (Post:Value→PW→Prop) (h:Hn4 W0 M a0_0 a0_1 a0_2 a0_3 a0_4 a0_5 a1 a2_0 a2_1 a2_2 a2_3 a2_4 a2_5 a3 Post):Aa0 Tryz.prog 64 [.agg #[a0_0.v,.bool a0_1,a0_2.v,a0_3.v,.bool a0_4,a0_5.v],.bool a1,.agg #[.bool a2_0,a2_1.v,a2_2.v,.bool a2_3,a2_4.v,a2_5.v],.bool a3] W0 M Post:=
 Aa3 rfl Aa9 Aa8 Tryz.func64 (cuts:=[]) rfl rfl (Nat.le_of_ble_eq_true rfl) (Eq.mpr (by kernel_rfl) h)
end Go.Proofs.YtjkkidjbppphpaaGreatDoor
