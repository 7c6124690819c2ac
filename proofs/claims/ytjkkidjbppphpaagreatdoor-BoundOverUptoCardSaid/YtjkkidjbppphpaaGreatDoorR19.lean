/- R19 -/
import Derived.Test.YtjkkidjbppphpaaGreatDoorTt
set_option linter.unusedVariables false
set_option linter.unusedSimpArgs false
set_option maxRecDepth 100000
namespace Go.Proofs.YtjkkidjbppphpaaGreatDoor
open Go Go.SX
def Bv6 (W0:PW) (M:Nat→Prop) (a0:Sl) (a1_0:ByteArray) (a1_1:ByteArray) (a1_2:ByteArray) (a1_3:ByteArray) (a1_4:ByteArray) (a1_5:ByteArray) (Post:Value→PW→Prop):Prop:=
 Aa1 Tryz.prog W0 M 15 [a0.v,.int .i64 8] W0 fun v1 W2=>
 ∃s3:Sl,
 ∃s4:Sl,
 ∃b5:Bool,
 v1 = .tuple ⟨[.agg ⟨[s3.v]⟩,s4.v,.bool b5]⟩∧
 ((!b5)=true→Aa1 Tryz.prog W0 M 16 [] W2 fun v6 W7=>∃b8:Bool,v6 = .bool b8∧∀(W9:PW),Ext W7 W9→Post (.bool b8) W9)∧
 ((!b5)=false→
 Aa1 Tryz.prog W0 M 16 [] W2 fun v10 W11=>
 ∃b12:Bool,
 v10 = .bool b12∧
 ((!b12)=true→Aa1 Tryz.prog W0 M 16 [] W11 fun v13 W14=>∃b15:Bool,v13 = .bool b15∧∀(W16:PW),Ext W14 W16→Post (.bool b15) W16)∧
 ((!b12)=false→
 ∃(F17:List PL→PW→Prop),
 ∃(F18:List PL→PW→Nat),
 F17
 [.val (.int .i64 0),
 .cells
 [.slice none 0 0,.bool false,.slice none 0 0,.slice none 0 0,.bool false,.slice none 0 0,.slice none 0 0,.bool false,
 .slice none 0 0,.slice none 0 0,.bool false,.slice none 0 0,.slice none 0 0,.bool false,.slice none 0 0,.slice none 0 0,
 .bool false,.slice none 0 0],
 .cells
 [.bool false,.slice none 0 0,.slice none 0 0,.bool false,.slice none 0 0,.slice none 0 0,.bool false,.slice none 0 0,
 .slice none 0 0,.bool false,.slice none 0 0,.slice none 0 0,.bool false,.slice none 0 0,.slice none 0 0,.bool false,
 .slice none 0 0,.slice none 0 0]]
 W11∧
 ∀(s19:Sl) (b20:Bool) (s21 s22:Sl) (b23:Bool) (s24 s25:Sl) (b26:Bool) (s27 s28:Sl) (b29:Bool) (s30 s31:Sl) (b32:Bool) (s33 s34:Sl) (b35:Bool) (s36:Sl) (b37:Bool) (s38 s39:Sl) (b40:Bool) (s41 s42:Sl) (b43:Bool) (s44 s45:Sl) (b46:Bool) (s47 s48:Sl) (b49:Bool)
 (s50 s51:Sl) (b52:Bool) (s53 s54:Sl) (i55:Int) (W56:PW),
 F17
 [.val (.int .i64 i55),
 .cells [s19.v,.bool b20,s21.v,s22.v,.bool b23,s24.v,s25.v,.bool b26,s27.v,s28.v,.bool b29,s30.v,s31.v,.bool b32,s33.v,s34.v,.bool b35,s36.v],
 .cells [.bool b37,s38.v,s39.v,.bool b40,s41.v,s42.v,.bool b43,s44.v,s45.v,.bool b46,s47.v,s48.v,.bool b49,s50.v,s51.v,.bool b52,s53.v,s54.v]]
 W56→
 (i55<3→
 (0≤i55∧i55<3)∧
 ∃t57:ByteArray,
 ∃t58:ByteArray,
 As9 [.string a1_0,.string a1_1,.string a1_2,.string a1_3,.string a1_4,.string a1_5] (0+Int.toNat i55*2+0) [.string t57,.string t58]∧
 Aa1 Tryz.prog W0 M 17 [.agg ⟨[.string t57,.string t58]⟩] W56 fun v59 W60=>
 ∃s61:Sl,
 ∃b62:Bool,
 ∃s63:Sl,
 ∃s64:Sl,
 ∃b65:Bool,
 ∃s66:Sl,
 ∃b67:Bool,
 ∃s68:Sl,
 ∃s69:Sl,
 ∃b70:Bool,
 ∃s71:Sl,
 ∃s72:Sl,
 ∃b73:Bool,
 v59 = .tuple ⟨[.agg ⟨[s61.v,.bool b62,s63.v,s64.v,.bool b65,s66.v]⟩,.agg ⟨[.bool b67,s68.v,s69.v,.bool b70,s71.v,s72.v]⟩,.bool b73]⟩∧
 ((!b73)=true→∀(W74:PW),Ext W60 W74→Post (.bool true) W74)∧
 ((!b73)=false→
 (0≤i55∧i55<3)∧
 ∃t75:ByteArray,
 As9 [.string a1_0,.string a1_1,.string a1_2,.string a1_3,.string a1_4,.string a1_5] (0+Int.toNat i55*2+0) [.string t75]∧
 (16<(↑(ByteArray.size t75):Int)→∀(W76:PW),Ext W60 W76→Post (.bool true) W76)∧
 (¬16<(↑(ByteArray.size t75):Int)→
 (0≤i55∧i55<3)∧
 ∃t77:ByteArray,
 As9 [.string a1_0,.string a1_1,.string a1_2,.string a1_3,.string a1_4,.string a1_5] (0+Int.toNat i55*2+1) [.string t77]∧
 (16<(↑(ByteArray.size t77):Int)→∀(W78:PW),Ext W60 W78→Post (.bool true) W78)∧
 (¬16<(↑(ByteArray.size t77):Int)→
 (0≤i55∧i55<3)∧
 Int.toNat i55<3∧
 ((True∧
 (Int.toNat i55=0→
 (0≤i55∧i55<3)∧
 Int.toNat i55<3∧
 ((True∧
 (Int.toNat i55=0→
 I64 (i55+1)∧
 stp F17 F18
 [.val (.int .i64 (i55+1)),
 .cells
 [s61.v,.bool b62,s63.v,s64.v,.bool b65,s66.v,s25.v,.bool b26,s27.v,s28.v,.bool b29,s30.v,s31.v,.bool b32,s33.v,
 s34.v,.bool b35,s36.v],
 .cells
 [.bool b67,s68.v,s69.v,.bool b70,s71.v,s72.v,.bool b43,s44.v,s45.v,.bool b46,s47.v,s48.v,.bool b49,s50.v,s51.v,
 .bool b52,s53.v,s54.v]]
 W60
 [.val (.int .i64 i55),
 .cells
 [s19.v,.bool b20,s21.v,s22.v,.bool b23,s24.v,s25.v,.bool b26,s27.v,s28.v,.bool b29,s30.v,s31.v,.bool b32,s33.v,
 s34.v,.bool b35,s36.v],
 .cells
 [.bool b37,s38.v,s39.v,.bool b40,s41.v,s42.v,.bool b43,s44.v,s45.v,.bool b46,s47.v,s48.v,.bool b49,s50.v,s51.v,
 .bool b52,s53.v,s54.v]]
 W56))∧
 (Int.toNat i55=1→
 I64 (i55+1)∧
 stp F17 F18
 [.val (.int .i64 (i55+1)),
 .cells
 [s61.v,.bool b62,s63.v,s64.v,.bool b65,s66.v,s25.v,.bool b26,s27.v,s28.v,.bool b29,s30.v,s31.v,.bool b32,s33.v,
 s34.v,.bool b35,s36.v],
 .cells
 [.bool b37,s38.v,s39.v,.bool b40,s41.v,s42.v,.bool b67,s68.v,s69.v,.bool b70,s71.v,s72.v,.bool b49,s50.v,s51.v,
 .bool b52,s53.v,s54.v]]
 W60
 [.val (.int .i64 i55),
 .cells
 [s19.v,.bool b20,s21.v,s22.v,.bool b23,s24.v,s25.v,.bool b26,s27.v,s28.v,.bool b29,s30.v,s31.v,.bool b32,s33.v,
 s34.v,.bool b35,s36.v],
 .cells
 [.bool b37,s38.v,s39.v,.bool b40,s41.v,s42.v,.bool b43,s44.v,s45.v,.bool b46,s47.v,s48.v,.bool b49,s50.v,s51.v,
 .bool b52,s53.v,s54.v]]
 W56))∧
 (Int.toNat i55=2→
 I64 (i55+1)∧
 stp F17 F18
 [.val (.int .i64 (i55+1)),
 .cells
 [s61.v,.bool b62,s63.v,s64.v,.bool b65,s66.v,s25.v,.bool b26,s27.v,s28.v,.bool b29,s30.v,s31.v,.bool b32,s33.v,s34.v,
 .bool b35,s36.v],
 .cells
 [.bool b37,s38.v,s39.v,.bool b40,s41.v,s42.v,.bool b43,s44.v,s45.v,.bool b46,s47.v,s48.v,.bool b67,s68.v,s69.v,
 .bool b70,s71.v,s72.v]]
 W60
 [.val (.int .i64 i55),
 .cells
 [s19.v,.bool b20,s21.v,s22.v,.bool b23,s24.v,s25.v,.bool b26,s27.v,s28.v,.bool b29,s30.v,s31.v,.bool b32,s33.v,s34.v,
 .bool b35,s36.v],
 .cells
 [.bool b37,s38.v,s39.v,.bool b40,s41.v,s42.v,.bool b43,s44.v,s45.v,.bool b46,s47.v,s48.v,.bool b49,s50.v,s51.v,
 .bool b52,s53.v,s54.v]]
 W56)))∧
 (Int.toNat i55=1→
 (0≤i55∧i55<3)∧
 Int.toNat i55<3∧
 ((True∧
 (Int.toNat i55=0→
 I64 (i55+1)∧
 stp F17 F18
 [.val (.int .i64 (i55+1)),
 .cells
 [s19.v,.bool b20,s21.v,s22.v,.bool b23,s24.v,s61.v,.bool b62,s63.v,s64.v,.bool b65,s66.v,s31.v,.bool b32,s33.v,
 s34.v,.bool b35,s36.v],
 .cells
 [.bool b67,s68.v,s69.v,.bool b70,s71.v,s72.v,.bool b43,s44.v,s45.v,.bool b46,s47.v,s48.v,.bool b49,s50.v,s51.v,
 .bool b52,s53.v,s54.v]]
 W60
 [.val (.int .i64 i55),
 .cells
 [s19.v,.bool b20,s21.v,s22.v,.bool b23,s24.v,s25.v,.bool b26,s27.v,s28.v,.bool b29,s30.v,s31.v,.bool b32,s33.v,
 s34.v,.bool b35,s36.v],
 .cells
 [.bool b37,s38.v,s39.v,.bool b40,s41.v,s42.v,.bool b43,s44.v,s45.v,.bool b46,s47.v,s48.v,.bool b49,s50.v,s51.v,
 .bool b52,s53.v,s54.v]]
 W56))∧
 (Int.toNat i55=1→
 I64 (i55+1)∧
 stp F17 F18
 [.val (.int .i64 (i55+1)),
 .cells
 [s19.v,.bool b20,s21.v,s22.v,.bool b23,s24.v,s61.v,.bool b62,s63.v,s64.v,.bool b65,s66.v,s31.v,.bool b32,s33.v,s34.v,
 .bool b35,s36.v],
 .cells
 [.bool b37,s38.v,s39.v,.bool b40,s41.v,s42.v,.bool b67,s68.v,s69.v,.bool b70,s71.v,s72.v,.bool b49,s50.v,s51.v,
 .bool b52,s53.v,s54.v]]
 W60
 [.val (.int .i64 i55),
 .cells
 [s19.v,.bool b20,s21.v,s22.v,.bool b23,s24.v,s25.v,.bool b26,s27.v,s28.v,.bool b29,s30.v,s31.v,.bool b32,s33.v,s34.v,
 .bool b35,s36.v],
 .cells
 [.bool b37,s38.v,s39.v,.bool b40,s41.v,s42.v,.bool b43,s44.v,s45.v,.bool b46,s47.v,s48.v,.bool b49,s50.v,s51.v,
 .bool b52,s53.v,s54.v]]
 W56))∧
 (Int.toNat i55=2→
 I64 (i55+1)∧
 stp F17 F18
 [.val (.int .i64 (i55+1)),
 .cells
 [s19.v,.bool b20,s21.v,s22.v,.bool b23,s24.v,s61.v,.bool b62,s63.v,s64.v,.bool b65,s66.v,s31.v,.bool b32,s33.v,s34.v,
 .bool b35,s36.v],
 .cells
 [.bool b37,s38.v,s39.v,.bool b40,s41.v,s42.v,.bool b43,s44.v,s45.v,.bool b46,s47.v,s48.v,.bool b67,s68.v,s69.v,.bool b70,
 s71.v,s72.v]]
 W60
 [.val (.int .i64 i55),
 .cells
 [s19.v,.bool b20,s21.v,s22.v,.bool b23,s24.v,s25.v,.bool b26,s27.v,s28.v,.bool b29,s30.v,s31.v,.bool b32,s33.v,s34.v,
 .bool b35,s36.v],
 .cells
 [.bool b37,s38.v,s39.v,.bool b40,s41.v,s42.v,.bool b43,s44.v,s45.v,.bool b46,s47.v,s48.v,.bool b49,s50.v,s51.v,.bool b52,
 s53.v,s54.v]]
 W56)))∧
 (Int.toNat i55=2→
 (0≤i55∧i55<3)∧
 Int.toNat i55<3∧
 ((True∧
 (Int.toNat i55=0→
 I64 (i55+1)∧
 stp F17 F18
 [.val (.int .i64 (i55+1)),
 .cells
 [s19.v,.bool b20,s21.v,s22.v,.bool b23,s24.v,s25.v,.bool b26,s27.v,s28.v,.bool b29,s30.v,s61.v,.bool b62,s63.v,s64.v,
 .bool b65,s66.v],
 .cells
 [.bool b67,s68.v,s69.v,.bool b70,s71.v,s72.v,.bool b43,s44.v,s45.v,.bool b46,s47.v,s48.v,.bool b49,s50.v,s51.v,
 .bool b52,s53.v,s54.v]]
 W60
 [.val (.int .i64 i55),
 .cells
 [s19.v,.bool b20,s21.v,s22.v,.bool b23,s24.v,s25.v,.bool b26,s27.v,s28.v,.bool b29,s30.v,s31.v,.bool b32,s33.v,s34.v,
 .bool b35,s36.v],
 .cells
 [.bool b37,s38.v,s39.v,.bool b40,s41.v,s42.v,.bool b43,s44.v,s45.v,.bool b46,s47.v,s48.v,.bool b49,s50.v,s51.v,
 .bool b52,s53.v,s54.v]]
 W56))∧
 (Int.toNat i55=1→
 I64 (i55+1)∧
 stp F17 F18
 [.val (.int .i64 (i55+1)),
 .cells
 [s19.v,.bool b20,s21.v,s22.v,.bool b23,s24.v,s25.v,.bool b26,s27.v,s28.v,.bool b29,s30.v,s61.v,.bool b62,s63.v,s64.v,
 .bool b65,s66.v],
 .cells
 [.bool b37,s38.v,s39.v,.bool b40,s41.v,s42.v,.bool b67,s68.v,s69.v,.bool b70,s71.v,s72.v,.bool b49,s50.v,s51.v,.bool b52,
 s53.v,s54.v]]
 W60
 [.val (.int .i64 i55),
 .cells
 [s19.v,.bool b20,s21.v,s22.v,.bool b23,s24.v,s25.v,.bool b26,s27.v,s28.v,.bool b29,s30.v,s31.v,.bool b32,s33.v,s34.v,
 .bool b35,s36.v],
 .cells
 [.bool b37,s38.v,s39.v,.bool b40,s41.v,s42.v,.bool b43,s44.v,s45.v,.bool b46,s47.v,s48.v,.bool b49,s50.v,s51.v,.bool b52,
 s53.v,s54.v]]
 W56))∧
 (Int.toNat i55=2→
 I64 (i55+1)∧
 stp F17 F18
 [.val (.int .i64 (i55+1)),
 .cells
 [s19.v,.bool b20,s21.v,s22.v,.bool b23,s24.v,s25.v,.bool b26,s27.v,s28.v,.bool b29,s30.v,s61.v,.bool b62,s63.v,s64.v,
 .bool b65,s66.v],
 .cells
 [.bool b37,s38.v,s39.v,.bool b40,s41.v,s42.v,.bool b43,s44.v,s45.v,.bool b46,s47.v,s48.v,.bool b67,s68.v,s69.v,.bool b70,
 s71.v,s72.v]]
 W60
 [.val (.int .i64 i55),
 .cells
 [s19.v,.bool b20,s21.v,s22.v,.bool b23,s24.v,s25.v,.bool b26,s27.v,s28.v,.bool b29,s30.v,s31.v,.bool b32,s33.v,s34.v,
 .bool b35,s36.v],
 .cells
 [.bool b37,s38.v,s39.v,.bool b40,s41.v,s42.v,.bool b43,s44.v,s45.v,.bool b46,s47.v,s48.v,.bool b49,s50.v,s51.v,.bool b52,
 s53.v,s54.v]]
 W56))))))∧
 (¬i55<3→
 Aa1 Tryz.prog W0 M 19
 [.agg ⟨[s3.v]⟩,
 .agg ⟨[s19.v,.bool b20,s21.v,s22.v,.bool b23,s24.v,s25.v,.bool b26,s27.v,s28.v,.bool b29,s30.v,s31.v,.bool b32,s33.v,s34.v,.bool b35,s36.v]⟩]
 W56 fun v79 W80=>
 ∃s81:Sl,
 ∃b82:Bool,
 ∃s83:Sl,
 ∃s84:Sl,
 ∃b85:Bool,
 ∃s86:Sl,
 v79 = .agg ⟨[s81.v,.bool b82,s83.v,s84.v,.bool b85,s86.v]⟩∧
 Aa1 Tryz.prog W0 M 20
 [s4.v,
 .agg ⟨[.bool b37,s38.v,s39.v,.bool b40,s41.v,s42.v,.bool b43,s44.v,s45.v,.bool b46,s47.v,s48.v,.bool b49,s50.v,s51.v,.bool b52,s53.v,s54.v]⟩]
 W80 fun v87 W88=>
 ∃b89:Bool,
 ∃s90:Sl,
 ∃s91:Sl,
 ∃b92:Bool,
 ∃s93:Sl,
 ∃s94:Sl,
 v87 = .agg ⟨[.bool b89,s90.v,s91.v,.bool b92,s93.v,s94.v]⟩∧
 Aa1 Tryz.prog W0 M 18 [.agg ⟨[s81.v,.bool b82,s83.v,s84.v,.bool b85,s86.v]⟩,.agg ⟨[.bool b89,s90.v,s91.v,.bool b92,s93.v,s94.v]⟩] W88
 fun v95 W96=>∃b97:Bool,v95 = .bool b97∧∀(W98:PW),Ext W96 W98→Post (.bool b97) W98)))
theorem Be2 (W0:PW) (M:Nat→Prop) (a0:Sl) (a1_0:ByteArray) (a1_1:ByteArray) (a1_2:ByteArray) (a1_3:ByteArray) (a1_4:ByteArray) (a1_5:ByteArray) (Post:Value→PW→Prop) (h:Bv6 W0 M a0 a1_0 a1_1 a1_2 a1_3 a1_4 a1_5 Post):Aa0 Tryz.prog 3 [a0.v,.agg #[.string a1_0,.string a1_1,.string a1_2,.string a1_3,.string a1_4,.string a1_5]] W0 M Post:=
 Aa3 rfl Aa9 Aa8 Tryz.func3 (cuts:=[]) rfl rfl (Nat.le_of_ble_eq_true rfl) (Eq.mpr (by kernel_rfl) h)
end Go.Proofs.YtjkkidjbppphpaaGreatDoor
