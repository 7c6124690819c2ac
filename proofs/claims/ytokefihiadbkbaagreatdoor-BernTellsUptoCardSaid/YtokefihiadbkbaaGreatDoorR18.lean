/- R18 -/
import Derived.Test.YtokefihiadbkbaaGreatDoorTt
set_option linter.unusedVariables false
set_option linter.unusedSimpArgs false
set_option maxRecDepth 100000
namespace Go.Proofs.YtokefihiadbkbaaGreatDoor
open Go Go.SX
def Ir1 (W0:PW) (M:Nat→Prop) (a0:Sl) (a1_0:Sl) (a1_1:Bool) (a1_2:Sl) (a1_3:Sl) (a1_4:Bool) (a1_5:Sl) (Post:Value→PW→Prop):Prop:=
 ∃(F1:List PL→PW→Prop),
 ∃(F2:List PL→PW→Nat),
 F1 [.val (.int .i64 0)] W0∧
 ∀(i3:Int) (W4:PW),
 F1 [.val (.int .i64 i3)] W4→
 (i3<(a0.2:Int)→
 I64 ((a0.2:Int)-2)∧
 ∃(F5:List PL→PW→Prop),
 ∃(F6:List PL→PW→Nat),
 F5 [.val (.int .i64 ((a0.2:Int)-2))] W4∧
 ∀(i7:Int) (W8:PW),
 F5 [.val (.int .i64 i7)] W8→
 (i3≤i7→
 inB a0 i7∧
 ∃s9:Sl,
 ∃b10:Bool,
 ∃s11:Sl,
 Aa7 W8 a0 3 (Int.toNat i7) 0 [s9.v,.bool b10,s11.v]∧
 I64 (i7+1)∧
 inB a0 (i7+1)∧
 ∃s12:Sl,
 ∃b13:Bool,
 ∃s14:Sl,
 Aa7 W8 a0 3 (Int.toNat (i7+1)) 0 [s12.v,.bool b13,s14.v]∧
 Aa1 Tryz.prog W0 M 95 [.agg ⟨[a1_0.v,.bool a1_1,a1_2.v]⟩,.agg ⟨[s12.v,.bool b13,s14.v]⟩] W8 fun v15 W16=>
 ∃s17:Sl,
 ∃b18:Bool,
 ∃s19:Sl,
 v15 = .agg ⟨[s17.v,.bool b18,s19.v]⟩∧
 Ext W8 W16∧
 Aa1 Tryz.prog W0 M 21 [.agg ⟨[s9.v,.bool b10,s11.v]⟩,.agg ⟨[s17.v,.bool b18,s19.v]⟩] W16 fun v20 W21=>
 ∃s22:Sl,
 ∃b23:Bool,
 ∃s24:Sl,
 v20 = .agg ⟨[s22.v,.bool b23,s24.v]⟩∧
 inB a0 i7∧An9 W0 M a0 (Int.toNat i7*3+0) [s22.v,.bool b23,s24.v] W21 fun(W25:PW)=>I64 (i7-1)∧stp F5 F6 [.val (.int .i64 (i7-1))] W25 [.val (.int .i64 i7)] W8)∧
 (¬i3≤i7→I64 (i3+1)∧stp F1 F2 [.val (.int .i64 (i3+1))] W8 [.val (.int .i64 i3)] W4))∧
 (¬i3<(a0.2:Int)→
 Aa1 Tryz.prog W0 M 49 [.int .i64 1] W4 fun v26 W27=>
 ∃s28:Sl,
 ∃b29:Bool,
 ∃s30:Sl,
 v26 = .agg ⟨[s28.v,.bool b29,s30.v]⟩∧
 ∃(F31:List PL→PW→Prop),
 ∃(F32:List PL→PW→Nat),
 F31 [.val (.int .i64 0),.cells [s28.v,.bool b29,s30.v]] W27∧
 ∀(s33:Sl) (b34:Bool) (s35:Sl) (i36:Int) (W37:PW),
 F31 [.val (.int .i64 i36),.cells [s33.v,.bool b34,s35.v]] W37→
 (i36<(a0.2:Int)→
 inB a0 i36∧
 ∃s38:Sl,
 ∃b39:Bool,
 ∃s40:Sl,
 Aa7 W37 a0 3 (Int.toNat i36) 0 [s38.v,.bool b39,s40.v]∧
 Aa1 Tryz.prog W0 M 95 [.agg ⟨[s38.v,.bool b39,s40.v]⟩,.agg ⟨[s33.v,.bool b34,s35.v]⟩] W37 fun v41 W42=>
 ∃s43:Sl,
 ∃b44:Bool,
 ∃s45:Sl,
 v41 = .agg ⟨[s43.v,.bool b44,s45.v]⟩∧
 inB a0 i36∧
 An9 W0 M a0 (Int.toNat i36*3+0) [s43.v,.bool b44,s45.v] W42 fun(W46:PW)=>
 Aa1 Tryz.prog W0 M 113 [.agg ⟨[a1_0.v,.bool a1_1,a1_2.v,a1_3.v,.bool a1_4,a1_5.v]⟩] W46 fun v47 W48=>
 ∃s49:Sl,
 ∃b50:Bool,
 ∃s51:Sl,
 v47 = .agg ⟨[s49.v,.bool b50,s51.v]⟩∧
 Aa1 Tryz.prog W0 M 95 [.agg ⟨[s33.v,.bool b34,s35.v]⟩,.agg ⟨[s49.v,.bool b50,s51.v]⟩] W48 fun v52 W53=>
 ∃s54:Sl,
 ∃b55:Bool,
 ∃s56:Sl,
 v52 = .agg ⟨[s54.v,.bool b55,s56.v]⟩∧
 I64 (i36+1)∧stp F31 F32 [.val (.int .i64 (i36+1)),.cells [s54.v,.bool b55,s56.v]] W53 [.val (.int .i64 i36),.cells [s33.v,.bool b34,s35.v]] W37)∧
 (¬i36<(a0.2:Int)→∀(W57:PW),Ext W37 W57→Post (.tuple ⟨[]⟩) W57))
theorem Ij9 (W0:PW) (M:Nat→Prop) (a0:Sl) (a1_0:Sl) (a1_1:Bool) (a1_2:Sl) (a1_3:Sl) (a1_4:Bool) (a1_5:Sl) (Post:Value→PW→Prop) (h:Ir1 W0 M a0 a1_0 a1_1 a1_2 a1_3 a1_4 a1_5 Post):Aa0 Tryz.prog 69 [a0.v,.agg #[a1_0.v,.bool a1_1,a1_2.v,a1_3.v,.bool a1_4,a1_5.v]] W0 M Post:=
 Aa3 rfl Aa9 Aa8 Tryz.func69 (cuts:=[]) rfl rfl (Nat.le_of_ble_eq_true rfl) (Eq.mpr (by kernel_rfl) h)
def Ii3 (W0:PW) (M:Nat→Prop) (a0:Sl) (Post:Value→PW→Prop):Prop:=
 I64 ((a0.2:Int)-1)∧
 ∃(F1:List PL→PW→Prop),
 ∃(F2:List PL→PW→Nat),
 F1 [.val (.int .i64 0)] W0∧
 ∀(i3:Int) (W4:PW),
 F1 [.val (.int .i64 i3)] W4→
 (i3<(a0.2:Int)→
 inB a0 i3∧
 ∃s5:Sl,
 ∃b6:Bool,
 ∃s7:Sl,
 Aa7 W4 a0 3 (Int.toNat i3) 0 [s5.v,.bool b6,s7.v]∧
 Aa1 Tryz.prog W0 M 138 [.int .i64 ((a0.2:Int)-1),.int .i64 i3] W4 fun v8 W9=>
 ∃s10:Sl,
 ∃b11:Bool,
 ∃s12:Sl,
 v8 = .agg ⟨[s10.v,.bool b11,s12.v]⟩∧
 Ext W4 W9∧
 Aa1 Tryz.prog W0 M 48 [.agg ⟨[s5.v,.bool b6,s7.v]⟩,.agg ⟨[s10.v,.bool b11,s12.v]⟩] W9 fun v13 W14=>
 ∃s15:Sl,
 ∃b16:Bool,
 ∃s17:Sl,
 ∃b18:Bool,
 v13 = .tuple ⟨[.agg ⟨[s15.v,.bool b16,s17.v]⟩,.bool b18]⟩∧
 inB a0 i3∧An9 W0 M a0 (Int.toNat i3*3+0) [s15.v,.bool b16,s17.v] W14 fun(W19:PW)=>I64 (i3+1)∧stp F1 F2 [.val (.int .i64 (i3+1))] W19 [.val (.int .i64 i3)] W4)∧
 (¬i3<(a0.2:Int)→
 ∃(F20:List PL→PW→Prop),
 ∃(F21:List PL→PW→Nat),
 F20 [.val (.int .i64 ((a0.2:Int)-1))] W4∧
 ∀(i22:Int) (W23:PW),
 F20 [.val (.int .i64 i22)] W23→
 (0≤i22→
 I64 (i22+1)∧
 ∃(F24:List PL→PW→Prop),
 ∃(F25:List PL→PW→Nat),
 F24 [.val (.int .i64 0),.cells [.slice none 0 0,.bool false,.slice none 0 0]] W23∧
 ∀(s26:Sl) (b27:Bool) (s28:Sl) (i29:Int) (W30:PW),
 F24 [.val (.int .i64 i29),.cells [s26.v,.bool b27,s28.v]] W30→
 (i29<i22+1→
 inB a0 i29∧
 ∃s31:Sl,
 ∃b32:Bool,
 ∃s33:Sl,
 Aa7 W30 a0 3 (Int.toNat i29) 0 [s31.v,.bool b32,s33.v]∧
 Aa1 Tryz.prog W0 M 138 [.int .i64 i22,.int .i64 i29] W30 fun v34 W35=>
 ∃s36:Sl,
 ∃b37:Bool,
 ∃s38:Sl,
 v34 = .agg ⟨[s36.v,.bool b37,s38.v]⟩∧
 Ext W30 W35∧
 Aa1 Tryz.prog W0 M 95 [.agg ⟨[s36.v,.bool b37,s38.v]⟩,.agg ⟨[s31.v,.bool b32,s33.v]⟩] W35 fun v39 W40=>
 ∃s41:Sl,
 ∃b42:Bool,
 ∃s43:Sl,
 v39 = .agg ⟨[s41.v,.bool b42,s43.v]⟩∧
 Aa1 Tryz.prog W0 M 21 [.agg ⟨[s26.v,.bool b27,s28.v]⟩,.agg ⟨[s41.v,.bool b42,s43.v]⟩] W40 fun v44 W45=>
 ∃s46:Sl,
 ∃b47:Bool,
 ∃s48:Sl,
 v44 = .agg ⟨[s46.v,.bool b47,s48.v]⟩∧
 I64 (i29+1)∧stp F24 F25 [.val (.int .i64 (i29+1)),.cells [s46.v,.bool b47,s48.v]] W45 [.val (.int .i64 i29),.cells [s26.v,.bool b27,s28.v]] W30)∧
 (¬i29<i22+1→
 inB a0 i22∧An9 W0 M a0 (Int.toNat i22*3+0) [s26.v,.bool b27,s28.v] W30 fun(W49:PW)=>I64 (i22-1)∧stp F20 F21 [.val (.int .i64 (i22-1))] W49 [.val (.int .i64 i22)] W23))∧
 (¬0≤i22→∀(W50:PW),Ext W23 W50→Post (.tuple ⟨[]⟩) W50))
theorem Ik6 (W0:PW) (M:Nat→Prop) (a0:Sl) (Post:Value→PW→Prop) (h:Ii3 W0 M a0 Post):Aa0 Tryz.prog 70 [a0.v] W0 M Post:=
 Aa3 rfl Aa9 Aa8 Tryz.func70 (cuts:=[]) rfl rfl (Nat.le_of_ble_eq_true rfl) (Eq.mpr (by kernel_rfl) h)
def Il8 (W0:PW) (M:Nat→Prop) (a0:Sl) (c0:Option Addr) (Post:Value→PW→Prop):Prop:=
 ∃s1:Sl,
 ∃b2:Bool,
 ∃s3:Sl,
 ∃s4:Sl,
 ∃b5:Bool,
 ∃s6:Sl,
 Aa7 W0 {A:=c0,n:=1,c:=1 } 1 0 0 [s1.v,.bool b2,s3.v,s4.v,.bool b5,s6.v]∧
 Aa1 Tryz.prog W0 M 69 [a0.v,.agg ⟨[s1.v,.bool b2,s3.v,s4.v,.bool b5,s6.v]⟩] W0 fun v7 W8=>
 v7 = .tuple ⟨[]⟩∧Aa1 Tryz.prog W0 M 70 [a0.v] W8 fun v9 W10=>v9 = .tuple ⟨[]⟩∧∀(W11:PW),Ext W10 W11→Post (.tuple ⟨[]⟩) W11
theorem Ih7 (W0:PW) (M:Nat→Prop) (a0:Sl) (c0:Option Addr) (Post:Value→PW→Prop) (h:Il8 W0 M a0 c0 Post):Aa0 Tryz.prog 68 [a0.v,.pointer c0] W0 M Post:=
 Aa3 rfl Aa9 Aa8 Tryz.func68 (cuts:=[]) rfl rfl (Nat.le_of_ble_eq_true rfl) (Eq.mpr (by kernel_rfl) h)
def Iq1 (W0:PW) (M:Nat→Prop) (a0_0:Sl) (a1:Sl) (Post:Value→PW→Prop):Prop:=
 Aa1 Tryz.prog W0 M 64 [Value.agg ⟨[a0_0.v]⟩,a1.v] W0 fun v1 W2=>
 ∃b3:Bool,
 v1=Value.bool b3∧
 ((!b3)=true→∀(W4:PW),Ext W2 W4→Post (Value.tuple ⟨[Value.slice none 0 0,Value.bool false]⟩) W4)∧
 ((!b3)=false→
 ∃(F5:List PL→PW→Prop),
 ∃(F6:List PL→PW→Nat),
 F5 [PL.row [],PL.val (Value.int .i64 0)] W2∧
 ∀(l7:List (List Value)) (i8:Int) (W9:PW),
 F5 [PL.row l7,PL.val (Value.int .i64 i8)] W9→
 (i8<(a1.2:Int)→
 Aa1 Tryz.prog W0 M 30 [Value.agg ⟨[a0_0.v]⟩,Value.int .i64 i8] W9 fun v10 W11=>
 ∃i12:Int,
 v10=Value.int .i64 i12∧
 (List.length l7+List.length [[Value.int .i64 i12]])*8≤140737488355328∧I64 (i8+1)∧stp F5 F6 [PL.row (l7 ++ [[Value.int .i64 i12]]),PL.val (Value.int .i64 (i8+1))] W11 [PL.row l7,PL.val (Value.int .i64 i8)] W9)∧
 (¬i8<(a1.2:Int)→
 ∀(s13:Sl) (W14:PW),
 Ext W9 W14→
 SX.Own W14 3 1 s13 l7→
 Fr W0 W9 s13→
 Aa1 Tryz.prog W0 M 65 [s13.v] W14 fun v15 W16=>
 ∃i17:Int,
 ∃b18:Bool,
 v15=Value.tuple ⟨[Value.int .i64 i17,Value.bool b18]⟩∧
 ((!b18)=true→∀(W19:PW),Ext W16 W19→Post (Value.tuple ⟨[Value.slice none 0 0,Value.bool false]⟩) W19)∧
 ((!b18)=false→
 (i17=i17∧0≤i17∧i17*(↑(56:Nat):Int)≤281474976710656)∧
 Aa1 Tryz.prog W0 M 66 [Value.agg ⟨[a0_0.v]⟩] W16 fun v20 W21=>
 ∃s22:Sl,
 v20=s22.v∧
 ∃(F23:List PL→PW→Prop),
 ∃(F24:List PL→PW→Nat),
 F23 [PL.val (Value.int .i64 0),PL.row (List.replicate (Int.toNat i17) [Value.slice none 0 0,Value.bool false,Value.slice none 0 0])] W21∧
 ∀(l25:List (List Value)) (i26:Int) (W27:PW),
 F23 [PL.val (Value.int .i64 i26),PL.row l25] W27→
 (i26<(s22.2:Int)→
 inB s22 i26∧
 ∃i28:Int,
 ∃i29:Int,
 ∃i30:Int,
 ∃s31:Sl,
 ∃b32:Bool,
 ∃s33:Sl,
 Aa7 W27 s22 6 (Int.toNat i26) 0 [Value.int .u8 i28,Value.int .u8 i29,Value.int .u8 i30,s31.v,Value.bool b32,s33.v]∧
 ∃(F34:List PL→PW→Prop),
 ∃(F35:List PL→PW→Nat),
 F34 [PL.val (Value.int .i64 0),PL.val (Value.int .i64 1),PL.val (Value.int .i64 0)] W27∧
 ∀(i36 i37 i38:Int) (W39:PW),
 F34 [PL.val (Value.int .i64 i36),PL.val (Value.int .i64 i37),PL.val (Value.int .i64 i38)] W39→
 (i38<(s13.2:Int)→
 inB s13 i38∧
 ∃i40:Int,
 Aa7 W39 s13 1 (Int.toNat i38) 0 [Value.int .i64 i40]∧
 (0≤i38∧i38<3)∧
 ∃i41:Int,
 As9 [Value.int .u8 i28,Value.int .u8 i29,Value.int .u8 i30,s31.v,Value.bool b32,s33.v] (0+Int.toNat i38*1+0) [Value.int .u8 i41]∧
 I64 i41∧
 I64 (i41*i37)∧
 I64 (i36+i41*i37)∧
 I64 (i40+1)∧
 I64 (i37*(i40+1))∧
 I64 (i38+1)∧
 stp F34 F35 [PL.val (Value.int .i64 (i36+i41*i37)),PL.val (Value.int .i64 (i37*(i40+1))),PL.val (Value.int .i64 (i38+1))] W39
 [PL.val (Value.int .i64 i36),PL.val (Value.int .i64 i37),PL.val (Value.int .i64 i38)] W39)∧
 (¬i38<(s13.2:Int)→
 (0≤i36∧i36<(↑(List.length l25):Int))∧
 Int.toNat i36<List.length l25∧
 I64 (i26+1)∧stp F23 F24 [PL.val (Value.int .i64 (i26+1)),PL.row (List.set l25 (Int.toNat i36) [s31.v,Value.bool b32,s33.v])] W39 [PL.val (Value.int .i64 i26),PL.row l25] W27))∧
 (¬i26<(s22.2:Int)→
 ∀(s42:Sl) (W43:PW),
 Ext W27 W43→
 SX.Own W43 42 3 s42 l25→
 Fr W0 W27 s42→
 ∃(F44:List PL→PW→Prop),
 ∃(F45:List PL→PW→Nat),
 F44 [PL.val (Value.int .i64 0)] W43∧
 ∀(i46:Int) (W47:PW),
 F44 [PL.val (Value.int .i64 i46)] W47→
 (i46<(a1.2:Int)→
 inB a1 i46∧
 ∃s48:Sl,
 ∃b49:Bool,
 ∃s50:Sl,
 ∃s51:Sl,
 ∃b52:Bool,
 ∃s53:Sl,
 Aa7 W47 a1 6 (Int.toNat i46) 0 [s48.v,Value.bool b49,s50.v,s51.v,Value.bool b52,s53.v]∧
 ∀(x54:Option Addr) (W55:PW),
 Ext W47 W55→
 Aa7 W55 {A:=x54,n:=1,c:=1 } 1 0 0 [s48.v,Value.bool b49,s50.v,s51.v,Value.bool b52,s53.v]→
 Fr W0 W47 {A:=x54,n:=1,c:=1 }→
 Aa1 Tryz.prog W0 M 67 [s42.v,s13.v,Value.int .i64 i46,Value.func (Fn.func 68) ⟨[]⟩ ⟨[Value.pointer x54]⟩] W55 fun v56 W57=>
 v56=Value.tuple ⟨[]⟩∧I64 (i46+1)∧stp F44 F45 [PL.val (Value.int .i64 (i46+1))] W57 [PL.val (Value.int .i64 i46)] W47)∧
 (¬i46<(a1.2:Int)→∀(W58:PW),Ext W47 W58→Post (Value.tuple ⟨[s42.v,Value.bool true]⟩) W58)))))
theorem Ik9 (W0:PW) (M:Nat→Prop) (a0_0:Sl) (a1:Sl) (Post:Value→PW→Prop) (h:Iq1 W0 M a0_0 a1 Post):Aa0 Tryz.prog 18 [Value.agg #[a0_0.v],a1.v] W0 M Post:=
 Aa3 rfl Aa9 Aa8 Tryz.func18 (cuts:=[1000026]) rfl rfl (Nat.le_of_ble_eq_true rfl) (Eq.mpr (by kernel_rfl) h)
def Jj4 (W0:PW) (M:Nat→Prop) (a0_0:Sl) (a1:Sl) (Post:Value→PW→Prop):Prop:=
 Aa1 Tryz.prog W0 M 18 [.agg ⟨[a0_0.v]⟩,a1.v] W0 fun v1 W2=>
 ∃s3:Sl,
 ∃b4:Bool,
 v1 = .tuple ⟨[s3.v,.bool b4]⟩∧
 ((!b4)=true→
 ∀(W5:PW),Ext W2 W5→Post (.tuple ⟨[.agg ⟨[.slice none 0 0,.bool false,.slice none 0 0,.slice none 0 0,.bool false,.slice none 0 0]⟩,.bool false]⟩) W5)∧
 ((!b4)=false→
 inB s3 0∧
 ∃s6:Sl,
 ∃b7:Bool,
 ∃s8:Sl,
 Aa7 W2 s3 3 0 0 [s6.v,.bool b7,s8.v]∧
 Aa1 Tryz.prog W0 M 92 [.agg ⟨[s6.v,.bool b7,s8.v]⟩] W2 fun v9 W10=>
 ∃s11:Sl,
 ∃b12:Bool,
 ∃s13:Sl,
 ∃s14:Sl,
 ∃b15:Bool,
 ∃s16:Sl,
 v9 = .agg ⟨[s11.v,.bool b12,s13.v,s14.v,.bool b15,s16.v]⟩∧
 ∃(F17:List PL→PW→Prop),
 ∃(F18:List PL→PW→Nat),
 F17 [.val (.int .i64 0),.cells [s11.v,.bool b12,s13.v,s14.v,.bool b15,s16.v]] W10∧
 ∀(s19:Sl) (b20:Bool) (s21 s22:Sl) (b23:Bool) (s24:Sl) (i25:Int) (W26:PW),
 F17 [.val (.int .i64 i25),.cells [s19.v,.bool b20,s21.v,s22.v,.bool b23,s24.v]] W26→
 (i25<(s3.2:Int)→
 inB s3 i25∧
 ∃s27:Sl,
 ∃b28:Bool,
 ∃s29:Sl,
 Aa7 W26 s3 3 (Int.toNat i25) 0 [s27.v,.bool b28,s29.v]∧
 Aa1 Tryz.prog W0 M 92 [.agg ⟨[s27.v,.bool b28,s29.v]⟩] W26 fun v30 W31=>
 ∃s32:Sl,
 ∃b33:Bool,
 ∃s34:Sl,
 ∃s35:Sl,
 ∃b36:Bool,
 ∃s37:Sl,
 v30 = .agg ⟨[s32.v,.bool b33,s34.v,s35.v,.bool b36,s37.v]⟩∧
 Aa1 Tryz.prog W0 M 93 [.agg ⟨[s19.v,.bool b20,s21.v,s22.v,.bool b23,s24.v]⟩,.agg ⟨[s32.v,.bool b33,s34.v,s35.v,.bool b36,s37.v]⟩] W31
 fun v38 W39=>
 ∃s40:Sl,
 ∃b41:Bool,
 ∃s42:Sl,
 ∃s43:Sl,
 ∃b44:Bool,
 ∃s45:Sl,
 v38 = .agg ⟨[s40.v,.bool b41,s42.v,s43.v,.bool b44,s45.v]⟩∧
 I64 (i25+1)∧
 stp F17 F18 [.val (.int .i64 (i25+1)),.cells [s40.v,.bool b41,s42.v,s43.v,.bool b44,s45.v]] W39
 [.val (.int .i64 i25),.cells [s19.v,.bool b20,s21.v,s22.v,.bool b23,s24.v]] W26)∧
 (¬i25<(s3.2:Int)→∀(W46:PW),Ext W26 W46→Post (.tuple ⟨[.agg ⟨[s19.v,.bool b20,s21.v,s22.v,.bool b23,s24.v]⟩,.bool true]⟩) W46))
theorem Jh4 (W0:PW) (M:Nat→Prop) (a0_0:Sl) (a1:Sl) (Post:Value→PW→Prop) (h:Jj4 W0 M a0_0 a1 Post):Aa0 Tryz.prog 25 [.agg #[a0_0.v],a1.v] W0 M Post:=
 Aa3 rfl Aa9 Aa8 Tryz.func25 (cuts:=[]) rfl rfl (Nat.le_of_ble_eq_true rfl) (Eq.mpr (by kernel_rfl) h)
end Go.Proofs.YtokefihiadbkbaaGreatDoor
