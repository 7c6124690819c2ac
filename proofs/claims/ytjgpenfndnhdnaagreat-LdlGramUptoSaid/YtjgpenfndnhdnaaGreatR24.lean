/- R24 -/
import Derived.Test.YtjgpenfndnhdnaaGreatTt
set_option linter.unusedVariables false
set_option linter.unusedSimpArgs false
set_option maxRecDepth 100000
set_option linter.unusedVariables false
namespace Go.Proofs.YtjgpenfndnhdnaaGreat
open Go Go.SX
def Rlaw14_LdlGram (W0:PW) (M:Nat→Prop) (a0:Sl) (a1:Int) (a2_0:ByteArray) (a2_1:ByteArray) (a2_2:ByteArray) (Post:Value→PW→Prop):Prop:=
 callN Tryz.prog W0 M 15 [a0.v,.int .i64 2] W0 fun v1 W2=>
 ∃s3:Sl,
 ∃s4:Sl,
 ∃b5:Bool,
 v1 = .tuple ⟨[.agg ⟨[s3.v]⟩,s4.v,.bool b5]⟩∧
 callN Tryz.prog W0 M 35 [.agg ⟨[.string a2_0,.string a2_1,.string a2_2]⟩] W2 fun v6 W7=>
 ∃s8:Sl,
 ∃b9:Bool,
 ∃s10:Sl,
 ∃s11:Sl,
 ∃b12:Bool,
 ∃s13:Sl,
 ∃s14:Sl,
 ∃b15:Bool,
 ∃s16:Sl,
 ∃b17:Bool,
 ∃s18:Sl,
 ∃s19:Sl,
 ∃b20:Bool,
 ∃s21:Sl,
 ∃s22:Sl,
 ∃b23:Bool,
 ∃s24:Sl,
 ∃s25:Sl,
 ∃b26:Bool,
 v6 =
 .tuple
 {
 toList:=
 [.agg ⟨[s8.v,.bool b9,s10.v,s11.v,.bool b12,s13.v,s14.v,.bool b15,s16.v]⟩,
 .agg ⟨[.bool b17,s18.v,s19.v,.bool b20,s21.v,s22.v,.bool b23,s24.v,s25.v]⟩,.bool b26] }∧
 callN Tryz.prog W0 M 36 [.int .i64 a1,.int .i64 1,.int .i64 3] W7 fun v27 W28=>
 ∃i29:Int,
 v27 = .int .i64 i29∧
 ((!b5)=true→callN Tryz.prog W0 M 37 [] W28 fun v30 W31=>∃b32:Bool,v30 = .bool b32∧∀(W33:PW),Ext W31 W33→Post (.bool b32) W33)∧
 ((!b5)=false→
 ((!b26)=true→callN Tryz.prog W0 M 37 [] W28 fun v34 W35=>∃b36:Bool,v34 = .bool b36∧∀(W37:PW),Ext W35 W37→Post (.bool b36) W37)∧
 ((!b26)=false→
 callN Tryz.prog W0 M 37 [] W28 fun v38 W39=>
 ∃b40:Bool,
 v38 = .bool b40∧
 ((!b40)=true→callN Tryz.prog W0 M 37 [] W39 fun v41 W42=>∃b43:Bool,v41 = .bool b43∧∀(W44:PW),Ext W42 W44→Post (.bool b43) W44)∧
 ((!b40)=false→
 callN Tryz.prog W0 M 16 [.agg ⟨[s3.v]⟩,.int .i64 i29] W39 fun v45 W46=>
 ∃s47:Sl,
 ∃b48:Bool,
 v45 = .tuple ⟨[s47.v,.bool b48]⟩∧
 ((!b48)=true→∀(W49:PW),Ext W46 W49→Post (.bool true) W49)∧
 ((!b48)=false→
 callN Tryz.prog W0 M 38 [s47.v] W46 fun v50 W51=>
 ∃b52:Bool,
 v50 = .bool b52∧
 ((!b52)=true→∀(W53:PW),Ext W51 W53→Post (.bool true) W53)∧
 ((!b52)=false→
 ∃(F54:List PL→PW→Prop),
 ∃(F55:List PL→PW→Nat),
 F54 [.val (.int .i64 i29),.cells [s8.v,.bool b9,s10.v,s11.v,.bool b12,s13.v,s14.v,.bool b15,s16.v]] W51∧
 ∀(s56:Sl) (b57:Bool) (s58 s59:Sl) (b60:Bool) (s61 s62:Sl) (b63:Bool) (s64:Sl) (i65:Int) (W66:PW),
 F54 [.val (.int .i64 i65),.cells [s56.v,.bool b57,s58.v,s59.v,.bool b60,s61.v,s62.v,.bool b63,s64.v]] W66→
 (i65<3→
 (0≤i65∧i65<3)∧
 Int.toNat i65<3∧
 ((True∧
 (Int.toNat i65=0→
 I64 (i65+1)∧
 stp F54 F55
 [.val (.int .i64 (i65+1)),
 .cells [.slice none 0 0,.bool false,.slice none 0 0,s59.v,.bool b60,s61.v,s62.v,.bool b63,s64.v]]
 W66 [.val (.int .i64 i65),.cells [s56.v,.bool b57,s58.v,s59.v,.bool b60,s61.v,s62.v,.bool b63,s64.v]] W66))∧
 (Int.toNat i65=1→
 I64 (i65+1)∧
 stp F54 F55
 [.val (.int .i64 (i65+1)),
 .cells [s56.v,.bool b57,s58.v,.slice none 0 0,.bool false,.slice none 0 0,s62.v,.bool b63,s64.v]]
 W66 [.val (.int .i64 i65),.cells [s56.v,.bool b57,s58.v,s59.v,.bool b60,s61.v,s62.v,.bool b63,s64.v]] W66))∧
 (Int.toNat i65=2→
 I64 (i65+1)∧
 stp F54 F55
 [.val (.int .i64 (i65+1)),
 .cells [s56.v,.bool b57,s58.v,s59.v,.bool b60,s61.v,.slice none 0 0,.bool false,.slice none 0 0]]
 W66 [.val (.int .i64 i65),.cells [s56.v,.bool b57,s58.v,s59.v,.bool b60,s61.v,s62.v,.bool b63,s64.v]] W66))∧
 (¬i65<3→
 callN Tryz.prog W0 M 39 [.agg ⟨[s3.v]⟩,.agg ⟨[s56.v,.bool b57,s58.v,s59.v,.bool b60,s61.v,s62.v,.bool b63,s64.v]⟩] W66
 fun v67 W68=>
 ∃s69:Sl,
 ∃b70:Bool,
 ∃s71:Sl,
 v67 = .agg ⟨[s69.v,.bool b70,s71.v]⟩∧
 callN Tryz.prog W0 M 40 [.agg ⟨[s69.v,.bool b70,s71.v]⟩] W68 fun v72 W73=>
 ∃i74:Int,v72 = .int .i64 i74∧∀(W75:PW),Ext W73 W75→Post (.bool (decide (0≤i74))) W75))))))
theorem calllaw14_LdlGram (W0:PW) (M:Nat→Prop) (a0:Sl) (a1:Int) (a2_0:ByteArray) (a2_1:ByteArray) (a2_2:ByteArray) (Post:Value→PW→Prop) (h:Rlaw14_LdlGram W0 M a0 a1 a2_0 a2_1 a2_2 Post):PCallsM Tryz.prog 7 [a0.v,.int .i64 a1,.agg #[.string a2_0,.string a2_1,.string a2_2]] W0 M Post:=
 fn_sound rfl tt_ok tt_in Tryz.func7 (cuts:=[]) rfl rfl (Nat.le_of_ble_eq_true rfl) (Eq.mpr (by kernel_rfl) h)
end Go.Proofs.YtjgpenfndnhdnaaGreat
