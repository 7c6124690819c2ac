/- R19 -/
import Derived.Test.YtokefihiadbkbaaGreatDoorTt
set_option linter.unusedVariables false
set_option linter.unusedSimpArgs false
set_option maxRecDepth 100000
namespace Go.Proofs.YtokefihiadbkbaaGreatDoor
open Go Go.SX
def It9 (W0:PW) (M:Nat→Prop) (a0:Int) (a1:Int) (Post:Value→PW→Prop):Prop:=
 Aa1 Tryz.prog W0 M 87 [.int .i64 1] W0 fun v1 W2=>
 ∃b3:Bool,
 ∃s4:Sl,
 ∃s5:Sl,
 v1 = .agg ⟨[.bool b3,s4.v,s5.v]⟩∧
 ∃(F6:List PL→PW→Prop),
 ∃(F7:List PL→PW→Nat),
 F6 [.val (.int .i64 0),.cells [.bool b3,s4.v,s5.v]] W2∧
 ∀(b8:Bool) (s9 s10:Sl) (i11:Int) (W12:PW),
 F6 [.val (.int .i64 i11),.cells [.bool b8,s9.v,s10.v]] W12→
 (i11<a1→
 I64 (a0-i11)∧
 I64 (i11+1)∧
 Aa1 Tryz.prog W0 M 87 [.int .i64 (a0-i11)] W12 fun v13 W14=>
 ∃b15:Bool,
 ∃s16:Sl,
 ∃s17:Sl,
 v13 = .agg ⟨[.bool b15,s16.v,s17.v]⟩∧
 Aa1 Tryz.prog W0 M 87 [.int .i64 (i11+1)] W14 fun v18 W19=>
 ∃b20:Bool,
 ∃s21:Sl,
 ∃s22:Sl,
 v18 = .agg ⟨[.bool b20,s21.v,s22.v]⟩∧
 Aa1 Tryz.prog W0 M 89 [.agg ⟨[.bool b15,s16.v,s17.v]⟩,.agg ⟨[.bool b20,s21.v,s22.v]⟩] W19 fun v23 W24=>
 ∃b25:Bool,
 ∃s26:Sl,
 ∃s27:Sl,
 v23 = .agg ⟨[.bool b25,s26.v,s27.v]⟩∧
 Aa1 Tryz.prog W0 M 88 [.agg ⟨[.bool b8,s9.v,s10.v]⟩,.agg ⟨[.bool b25,s26.v,s27.v]⟩] W24 fun v28 W29=>
 ∃b30:Bool,
 ∃s31:Sl,
 ∃s32:Sl,
 v28 = .agg ⟨[.bool b30,s31.v,s32.v]⟩∧
 I64 (i11+1)∧stp F6 F7 [.val (.int .i64 (i11+1)),.cells [.bool b30,s31.v,s32.v]] W29 [.val (.int .i64 i11),.cells [.bool b8,s9.v,s10.v]] W12)∧
 (¬i11<a1→∀(W33:PW),Ext W12 W33→Post (.agg ⟨[.bool b8,s9.v,s10.v]⟩) W33)
theorem Im5 (W0:PW) (M:Nat→Prop) (a0:Int) (a1:Int) (Post:Value→PW→Prop) (h:It9 W0 M a0 a1 Post):Aa0 Tryz.prog 90 [.int .i64 a0,.int .i64 a1] W0 M Post:=
 Aa3 rfl Aa9 Aa8 Tryz.func90 (cuts:=[]) rfl rfl (Nat.le_of_ble_eq_true rfl) (Eq.mpr (by kernel_rfl) h)
def In6 (W0:PW) (M:Nat→Prop) (a0:Sl) (a1:Sl) (Post:Value→PW→Prop):Prop:=
 ((a1.2:Int)<1→∀(W1:PW),Ext W0 W1→Post (Value.tuple ⟨[Value.slice none 0 0,Value.bool false]⟩) W1)∧
 (¬(a1.2:Int)<1→
 (3<(a1.2:Int)→∀(W2:PW),Ext W0 W2→Post (Value.tuple ⟨[Value.slice none 0 0,Value.bool false]⟩) W2)∧
 (¬3<(a1.2:Int)→
 ∃(F3:List PL→PW→Prop),
 ∃(F4:List PL→PW→Nat),
 F3 [PL.row [],PL.val (Value.int .i64 1),PL.val (Value.int .i64 0)] W0∧
 ∀(l5:List (List Value)) (i6 i7:Int) (W8:PW),
 F3 [PL.row l5,PL.val (Value.int .i64 i6),PL.val (Value.int .i64 i7)] W8→
 (i7<(a1.2:Int)→
 inB a1 i7∧
 ∃i9:Int,
 Aa7 W8 a1 1 (Int.toNat i7) 0 [Value.int .i64 i9]∧
 (i9<0→∀(W10:PW),Ext W8 W10→Post (Value.tuple ⟨[Value.slice none 0 0,Value.bool false]⟩) W10)∧
 (¬i9<0→
 inB a1 i7∧
 ∃i11:Int,
 Aa7 W8 a1 1 (Int.toNat i7) 0 [Value.int .i64 i11]∧
 (16<i11→∀(W12:PW),Ext W8 W12→Post (Value.tuple ⟨[Value.slice none 0 0,Value.bool false]⟩) W12)∧
 (¬16<i11→
 (List.length l5+List.length [[Value.int .i64 i6]])*8≤140737488355328∧
 inB a1 i7∧
 ∃i13:Int,
 Aa7 W8 a1 1 (Int.toNat i7) 0 [Value.int .i64 i13]∧
 I64 (i13+1)∧
 I64 (i6*(i13+1))∧
 I64 (i7+1)∧
 stp F3 F4 [PL.row (l5 ++ [[Value.int .i64 i6]]),PL.val (Value.int .i64 (i6*(i13+1))),PL.val (Value.int .i64 (i7+1))] W8 [PL.row l5,PL.val (Value.int .i64 i6),PL.val (Value.int .i64 i7)] W8)))∧
 (¬i7<(a1.2:Int)→∀(s14:Sl) (W15:PW),Ext W8 W15→SX.Own W15 3 1 s14 l5→Fr W0 W8 s14→∀(W16:PW),Ext W15 W16→Post (Value.tuple ⟨[s14.v,Value.bool (decide (i6=(a0.2:Int)))]⟩) W16)))
theorem Ij3 (W0:PW) (M:Nat→Prop) (a0:Sl) (a1:Sl) (Post:Value→PW→Prop) (h:In6 W0 M a0 a1 Post):Aa0 Tryz.prog 98 [a0.v,a1.v] W0 M Post:=
 Aa3 rfl Aa9 Aa8 Tryz.func98 (cuts:=[]) rfl rfl (Nat.le_of_ble_eq_true rfl) (Eq.mpr (by kernel_rfl) h)
def Io8 (W0:PW) (M:Nat→Prop) (a0:Sl) (a1:Sl) (a2:Sl) (Post:Value→PW→Prop):Prop:=
 Aa1 Tryz.prog W0 M 98 [a0.v,a1.v] W0 fun v1 W2=>
 ∃s3:Sl,
 ∃b4:Bool,
 v1 = .tuple ⟨[s3.v,.bool b4]⟩∧
 ((!b4)=true→∀(W5:PW),Ext W2 W5→Post (.tuple ⟨[.agg ⟨[.bool false,.slice none 0 0,.slice none 0 0]⟩,.bool false]⟩) W5)∧
 ((!b4)=false→
 ((a2.2:Int)≠(a1.2:Int)→∀(W6:PW),Ext W2 W6→Post (.tuple ⟨[.agg ⟨[.bool false,.slice none 0 0,.slice none 0 0]⟩,.bool false]⟩) W6)∧
 (¬(a2.2:Int)≠(a1.2:Int)→
 Aa1 Tryz.prog W0 M 87 [.int .i64 0] W2 fun v7 W8=>
 ∃b9:Bool,
 ∃s10:Sl,
 ∃s11:Sl,
 v7 = .agg ⟨[.bool b9,s10.v,s11.v]⟩∧
 ∃(F12:List PL→PW→Prop),
 ∃(F13:List PL→PW→Nat),
 F12 [.val (.int .i64 0),.cells [.bool b9,s10.v,s11.v]] W8∧
 ∀(b14:Bool) (s15 s16:Sl) (i17:Int) (W18:PW),
 F12 [.val (.int .i64 i17),.cells [.bool b14,s15.v,s16.v]] W18→
 (i17<(a0.2:Int)→
 inB a0 i17∧
 ∃b19:Bool,
 ∃s20:Sl,
 ∃s21:Sl,
 Aa7 W18 a0 3 (Int.toNat i17) 0 [.bool b19,s20.v,s21.v]∧
 ∃(F22:List PL→PW→Prop),
 ∃(F23:List PL→PW→Nat),
 F22 [.val (.int .i64 0),.cells [.bool b19,s20.v,s21.v]] W18∧
 ∀(b24:Bool) (s25 s26:Sl) (i27:Int) (W28:PW),
 F22 [.val (.int .i64 i27),.cells [.bool b24,s25.v,s26.v]] W28→
 (i27<(a1.2:Int)→
 inB s3 i27∧
 ∃i29:Int,
 Aa7 W28 s3 1 (Int.toNat i27) 0 [.int .i64 i29]∧
 i29≠0∧
 inB a1 i27∧
 ∃i30:Int,
 Aa7 W28 a1 1 (Int.toNat i27) 0 [.int .i64 i30]∧
 I64 (i30+1)∧
 i30+1≠0∧
 inB a1 i27∧
 ∃i31:Int,
 Aa7 W28 a1 1 (Int.toNat i27) 0 [.int .i64 i31]∧
 inB a2 i27∧
 ∃b32:Bool,
 ∃s33:Sl,
 ∃s34:Sl,
 Aa7 W28 a2 3 (Int.toNat i27) 0 [.bool b32,s33.v,s34.v]∧
 inB a2 i27∧
 ∃b35:Bool,
 ∃s36:Sl,
 ∃s37:Sl,
 Aa7 W28 a2 3 (Int.toNat i27) 0 [.bool b35,s36.v,s37.v]∧
 inB a1 i27∧
 ∃i38:Int,
 Aa7 W28 a1 1 (Int.toNat i27) 0 [.int .i64 i38]∧
 I64 (i38-Int.tmod (IntKind.wrap .i64 (Int.tdiv i17 i29)) (i30+1))∧
 Aa1 Tryz.prog W0 M 90 [.int .i64 i31,.int .i64 (Int.tmod (IntKind.wrap .i64 (Int.tdiv i17 i29)) (i30+1))] W28 fun v39 W40=>
 ∃b41:Bool,
 ∃s42:Sl,
 ∃s43:Sl,
 v39 = .agg ⟨[.bool b41,s42.v,s43.v]⟩∧
 Ext W28 W40∧
 Aa1 Tryz.prog W0 M 99 [.agg ⟨[.bool b32,s33.v,s34.v]⟩,.int .i64 (Int.tmod (IntKind.wrap .i64 (Int.tdiv i17 i29)) (i30+1))] W40
 fun v44 W45=>
 ∃b46:Bool,
 ∃s47:Sl,
 ∃s48:Sl,
 v44 = .agg ⟨[.bool b46,s47.v,s48.v]⟩∧
 Ext W40 W45∧
 Aa1 Tryz.prog W0 M 87 [.int .i64 1] W45 fun v49 W50=>
 ∃b51:Bool,
 ∃s52:Sl,
 ∃s53:Sl,
 v49 = .agg ⟨[.bool b51,s52.v,s53.v]⟩∧
 Ext W45 W50∧
 Aa1 Tryz.prog W0 M 100 [.agg ⟨[.bool b51,s52.v,s53.v]⟩,.agg ⟨[.bool b35,s36.v,s37.v]⟩] W50
 fun v54 W55=>
 ∃b56:Bool,
 ∃s57:Sl,
 ∃s58:Sl,
 v54 = .agg ⟨[.bool b56,s57.v,s58.v]⟩∧
 Ext W50 W55∧
 Aa1 Tryz.prog W0 M 99
 [.agg ⟨[.bool b56,s57.v,s58.v]⟩,.int .i64 (i38-Int.tmod (IntKind.wrap .i64 (Int.tdiv i17 i29)) (i30+1))] W55
 fun v59 W60=>
 ∃b61:Bool,
 ∃s62:Sl,
 ∃s63:Sl,
 v59 = .agg ⟨[.bool b61,s62.v,s63.v]⟩∧
 Ext W55 W60∧
 Aa1 Tryz.prog W0 M 88 [.agg ⟨[.bool b46,s47.v,s48.v]⟩,.agg ⟨[.bool b61,s62.v,s63.v]⟩] W60
 fun v64 W65=>
 ∃b66:Bool,
 ∃s67:Sl,
 ∃s68:Sl,
 v64 = .agg ⟨[.bool b66,s67.v,s68.v]⟩∧
 Ext W60 W65∧
 Aa1 Tryz.prog W0 M 88 [.agg ⟨[.bool b41,s42.v,s43.v]⟩,.agg ⟨[.bool b66,s67.v,s68.v]⟩] W65
 fun v69 W70=>
 ∃b71:Bool,
 ∃s72:Sl,
 ∃s73:Sl,
 v69 = .agg ⟨[.bool b71,s72.v,s73.v]⟩∧
 Ext W65 W70∧
 Aa1 Tryz.prog W0 M 88
 [.agg ⟨[.bool b24,s25.v,s26.v]⟩,.agg ⟨[.bool b71,s72.v,s73.v]⟩] W70
 fun v74 W75=>
 ∃b76:Bool,
 ∃s77:Sl,
 ∃s78:Sl,
 v74 = .agg ⟨[.bool b76,s77.v,s78.v]⟩∧
 Ext W70 W75∧
 I64 (i27+1)∧
 stp F22 F23 [.val (.int .i64 (i27+1)),.cells [.bool b76,s77.v,s78.v]] W75
 [.val (.int .i64 i27),.cells [.bool b24,s25.v,s26.v]] W28)∧
 (¬i27<(a1.2:Int)→
 Aa1 Tryz.prog W0 M 91 [.agg ⟨[.bool b14,s15.v,s16.v]⟩,.agg ⟨[.bool b24,s25.v,s26.v]⟩] W28 fun v79 W80=>
 ∃b81:Bool,
 ∃s82:Sl,
 ∃s83:Sl,
 v79 = .agg ⟨[.bool b81,s82.v,s83.v]⟩∧
 I64 (i17+1)∧stp F12 F13 [.val (.int .i64 (i17+1)),.cells [.bool b81,s82.v,s83.v]] W80 [.val (.int .i64 i17),.cells [.bool b14,s15.v,s16.v]] W18))∧
 (¬i17<(a0.2:Int)→∀(W84:PW),Ext W18 W84→Post (.tuple ⟨[.agg ⟨[.bool b14,s15.v,s16.v]⟩,.bool true]⟩) W84)))
theorem Ii5 (W0:PW) (M:Nat→Prop) (a0:Sl) (a1:Sl) (a2:Sl) (Post:Value→PW→Prop) (h:Io8 W0 M a0 a1 a2 Post):Aa0 Tryz.prog 34 [a0.v,a1.v,a2.v] W0 M Post:=
 Aa3 rfl Aa9 Aa8 Tryz.func34 (cuts:=[]) rfl rfl (Nat.le_of_ble_eq_true rfl) (Eq.mpr (by kernel_rfl) h)
def In3 (W0:PW) (M:Nat→Prop) (a0:Sl) (a1:Sl) (a2:Int) (Post:Value→PW→Prop):Prop:=
 Aa1 Tryz.prog W0 M 98 [a0.v,a1.v] W0 fun v1 W2=>
 ∃s3:Sl,
 ∃b4:Bool,
 v1 = .tuple ⟨[s3.v,.bool b4]⟩∧
 ((!b4)=true→∀(W5:PW),Ext W2 W5→Post (.tuple ⟨[.slice none 0 0,.slice none 0 0,.bool false]⟩) W5)∧
 ((!b4)=false→
 (a2<0→∀(W6:PW),Ext W2 W6→Post (.tuple ⟨[.slice none 0 0,.slice none 0 0,.bool false]⟩) W6)∧
 (¬a2<0→
 ((a1.2:Int)≤a2→∀(W7:PW),Ext W2 W7→Post (.tuple ⟨[.slice none 0 0,.slice none 0 0,.bool false]⟩) W7)∧
 (¬(a1.2:Int)≤a2→
 ∃(l8:List (List Value)),
 Bf9 W2 3 a0 l8∧
 List.length l8*56≤140737488355328∧
 ∃(l9:List (List Value)),
 Bf9 W2 3 a0 l9∧
 List.length l9*56≤140737488355328∧
 inB a1 a2∧
 ∃i10:Int,
 Aa7 W2 a1 1 (Int.toNat a2) 0 [.int .i64 i10]∧
 ∃(F11:List PL→PW→Prop),
 ∃(F12:List PL→PW→Nat),
 F11 [.val (.int .i64 0),.row l8,.row l9] W2∧
 ∀(l13 l14:List (List Value)) (i15:Int) (W16:PW),
 F11 [.val (.int .i64 i15),.row l13,.row l14] W16→
 (i15<(a0.2:Int)→
 inB s3 a2∧
 ∃i17:Int,
 Aa7 W16 s3 1 (Int.toNat a2) 0 [.int .i64 i17]∧
 i17≠0∧
 I64 (i10+1)∧
 i10+1≠0∧
 (Int.tmod (IntKind.wrap .i64 (Int.tdiv i15 i17)) (i10+1)≠0→I64 (i15+1)∧stp F11 F12 [.val (.int .i64 (i15+1)),.row l13,.row l14] W16 [.val (.int .i64 i15),.row l13,.row l14] W16)∧
 (¬Int.tmod (IntKind.wrap .i64 (Int.tdiv i15 i17)) (i10+1)≠0→
 I64 (i10+1)∧
 (i10+1=i10+1∧0≤i10+1∧(i10+1)*(↑(56:Nat):Int)≤281474976710656)∧
 ∃(F18:List PL→PW→Prop),
 ∃(F19:List PL→PW→Nat),
 F18 [.val (.int .i64 0),.row (List.replicate (Int.toNat (i10+1)) [.bool false,.slice none 0 0,.slice none 0 0])] W16∧
 ∀(l20:List (List Value)) (i21:Int) (W22:PW),
 F18 [.val (.int .i64 i21),.row l20] W22→
 (i21≤i10→
 inB s3 a2∧
 ∃i23:Int,
 Aa7 W22 s3 1 (Int.toNat a2) 0 [.int .i64 i23]∧
 I64 (i21*i23)∧
 I64 (i15+i21*i23)∧
 inB a0 (i15+i21*i23)∧
 ∃b24:Bool,
 ∃s25:Sl,
 ∃s26:Sl,
 Aa7 W22 a0 3 (Int.toNat (i15+i21*i23)) 0 [.bool b24,s25.v,s26.v]∧
 (0≤i21∧i21<(↑(List.length l20):Int))∧
 Int.toNat i21<List.length l20∧
 I64 (i21+1)∧stp F18 F19 [.val (.int .i64 (i21+1)),.row (List.set l20 (Int.toNat i21) [.bool b24,s25.v,s26.v])] W22 [.val (.int .i64 i21),.row l20] W22)∧
 (¬i21≤i10→
 ∃(F27:List PL→PW→Prop),
 ∃(F28:List PL→PW→Nat),
 F27 [.val (.int .i64 0),.row l13,.row l14,.row l20] W22∧
 ∀(l29 l30 l31:List (List Value)) (i32:Int) (W33:PW),
 F27 [.val (.int .i64 i32),.row l29,.row l30,.row l31] W33→
 (i32≤i10→
 inB s3 a2∧
 ∃i34:Int,
 Aa7 W33 s3 1 (Int.toNat a2) 0 [.int .i64 i34]∧
 I64 (i32*i34)∧
 I64 (i15+i32*i34)∧
 ((0:Int)≤0∧0<(↑(List.length l31):Int))∧
 ∃b35:Bool,
 ∃s36:Sl,
 ∃s37:Sl,
 Ck3 l31 0 0 [.bool b35,s36.v,s37.v]∧
 (0≤i15+i32*i34∧i15+i32*i34<(↑(List.length l29):Int))∧
 Int.toNat (i15+i32*i34)<List.length l29∧
 I64 (i10-i32)∧
 inB s3 a2∧
 ∃i38:Int,
 Aa7 W33 s3 1 (Int.toNat a2) 0 [.int .i64 i38]∧
 I64 ((i10-i32)*i38)∧
 I64 (i15+(i10-i32)*i38)∧
 I64 (i10-i32)∧
 (0≤i10-i32∧i10-i32<(↑(List.length l31):Int))∧
 ∃b39:Bool,
 ∃s40:Sl,
 ∃s41:Sl,
 Ck3 l31 (Int.toNat (i10-i32)) 0 [.bool b39,s40.v,s41.v]∧
 (0≤i15+(i10-i32)*i38∧i15+(i10-i32)*i38<(↑(List.length l30):Int))∧
 Int.toNat (i15+(i10-i32)*i38)<List.length l30∧
 ∃(F42:List PL→PW→Prop),
 ∃(F43:List PL→PW→Nat),
 F42 [.val (.int .i64 0),.row l31] W33∧
 ∀(l44:List (List Value)) (i45:Int) (W46:PW),
 F42 [.val (.int .i64 i45),.row l44] W46→
 I64 (i10-i32)∧
 (i45<i10-i32→
 (0≤i45∧i45<(↑(List.length l44):Int))∧
 ∃b47:Bool,
 ∃s48:Sl,
 ∃s49:Sl,
 Ck3 l44 (Int.toNat i45) 0 [.bool b47,s48.v,s49.v]∧
 I64 (i45+1)∧
 (0≤i45+1∧i45+1<(↑(List.length l44):Int))∧
 ∃b50:Bool,
 ∃s51:Sl,
 ∃s52:Sl,
 Ck3 l44 (Int.toNat (i45+1)) 0 [.bool b50,s51.v,s52.v]∧
 Aa1 Tryz.prog W0 M 91 [.agg ⟨[.bool b47,s48.v,s49.v]⟩,.agg ⟨[.bool b50,s51.v,s52.v]⟩]
 W46 fun v53 W54=>
 ∃b55:Bool,
 ∃s56:Sl,
 ∃s57:Sl,
 v53 = .agg ⟨[.bool b55,s56.v,s57.v]⟩∧
 Aa1 Tryz.prog W0 M 103 [.agg ⟨[.bool b55,s56.v,s57.v]⟩] W54 fun v58 W59=>
 ∃b60:Bool,
 ∃s61:Sl,
 ∃s62:Sl,
 v58 = .agg ⟨[.bool b60,s61.v,s62.v]⟩∧
 (0≤i45∧i45<(↑(List.length l44):Int))∧
 Int.toNat i45<List.length l44∧
 I64 (i45+1)∧
 stp F42 F43 [.val (.int .i64 (i45+1)),.row (List.set l44 (Int.toNat i45) [.bool b60,s61.v,s62.v])] W59
 [.val (.int .i64 i45),.row l44] W46)∧
 (¬i45<i10-i32→
 I64 (i32+1)∧
 stp F27 F28
 [.val (.int .i64 (i32+1)),.row (List.set l29 (Int.toNat (i15+i32*i34)) [.bool b35,s36.v,s37.v]),
 .row (List.set l30 (Int.toNat (i15+(i10-i32)*i38)) [.bool b39,s40.v,s41.v]),.row l44]
 W46 [.val (.int .i64 i32),.row l29,.row l30,.row l31] W33))∧
 (¬i32≤i10→I64 (i15+1)∧stp F11 F12 [.val (.int .i64 (i15+1)),.row l29,.row l30] W33 [.val (.int .i64 i15),.row l13,.row l14] W16))))∧
 (¬i15<(a0.2:Int)→
 ∀(s63:Sl) (W64:PW),
 Ext W16 W64→
 SX.Own W64 47 3 s63 l13→Fr W0 W16 s63→∀(s65:Sl) (W66:PW),Ext W64 W66→SX.Own W66 47 3 s65 l14→Fr W0 W64 s65→∀(W67:PW),Ext W66 W67→Post (.tuple ⟨[s63.v,s65.v,.bool true]⟩) W67))))
theorem Ij5 (W0:PW) (M:Nat→Prop) (a0:Sl) (a1:Sl) (a2:Int) (Post:Value→PW→Prop) (h:In3 W0 M a0 a1 a2 Post):Aa0 Tryz.prog 36 [a0.v,a1.v,.int .i64 a2] W0 M Post:=
 Aa3 rfl Aa9 Aa8 Tryz.func36 (cuts:=[]) rfl rfl (Nat.le_of_ble_eq_true rfl) (Eq.mpr (by kernel_rfl) h)
end Go.Proofs.YtokefihiadbkbaaGreatDoor
