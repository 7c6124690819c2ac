/- R6 -/
import Derived.Test.YtahohahjnhfedaaGreatDoorTt
set_option linter.unusedVariables false
set_option linter.unusedSimpArgs false
set_option maxRecDepth 100000
namespace Go.Proofs.YtahohahjnhfedaaGreatDoor
open Go Go.SX
def Ei1 (W0:PW) (M:Nat→Prop) (a0:Sl) (Post:Value→PW→Prop):Prop:=
 ∀(W1:PW),Ext W0 W1→Post (.agg ⟨[.bool false,a0.v]⟩) W1
theorem Cz3 (W0:PW) (M:Nat→Prop) (a0:Sl) (Post:Value→PW→Prop) (h:Ei1 W0 M a0 Post):Aa0 Tryz.prog 88 [a0.v] W0 M Post:=
 Aa3 rfl Aa9 Aa8 Tryz.func88 (cuts:=[]) rfl rfl (Nat.le_of_ble_eq_true rfl) (Eq.mpr (by kernel_rfl) h)
def Ee9 (W0:PW) (M:Nat→Prop) (a0_0:Bool) (a0_1:Sl) (a0_2:Sl) (Post:Value→PW→Prop):Prop:=
 ((a0_2.2:Int)=0→Aa1 Tryz.prog W0 M 52 [.int .u64 1] W0 fun v1 W2=>∃s3:Sl,v1=s3.v∧∀(W4:PW),Ext W2 W4→Post s3.v W4)∧(¬(a0_2.2:Int)=0→∀(W5:PW),Ext W0 W5→Post a0_2.v W5)
theorem Cq5 (W0:PW) (M:Nat→Prop) (a0_0:Bool) (a0_1:Sl) (a0_2:Sl) (Post:Value→PW→Prop) (h:Ee9 W0 M a0_0 a0_1 a0_2 Post):Aa0 Tryz.prog 89 [.agg #[.bool a0_0,a0_1.v,a0_2.v]] W0 M Post:=
 Aa3 rfl Aa9 Aa8 Tryz.func89 (cuts:=[]) rfl rfl (Nat.le_of_ble_eq_true rfl) (Eq.mpr (by kernel_rfl) h)
def Dd9 (W0:PW) (M:Nat→Prop) (a0:Int) (Post:Value→PW→Prop):Prop:=
 Aa1 Tryz.prog W0 M 69 [.int .i64 a0] W0 fun v1 W2=>
 ∃b3:Bool,∃s4:Sl,v1 = .agg ⟨[.bool b3,s4.v]⟩∧Aa1 Tryz.prog W0 M 52 [.int .u64 1] W2 fun v5 W6=>∃s7:Sl,v5=s7.v∧∀(W8:PW),Ext W6 W8→Post (.agg ⟨[.bool b3,s4.v,s7.v]⟩) W8
theorem Ca8 (W0:PW) (M:Nat→Prop) (a0:Int) (Post:Value→PW→Prop) (h:Dd9 W0 M a0 Post):Aa0 Tryz.prog 26 [.int .i64 a0] W0 M Post:=
 Aa3 rfl Aa9 Aa8 Tryz.func26 (cuts:=[]) rfl rfl (Nat.le_of_ble_eq_true rfl) (Eq.mpr (by kernel_rfl) h)
def Db7 (W0:PW) (M:Nat→Prop) (a0_0:Bool) (a0_1:Sl) (a1_0:Bool) (a1_1:Sl) (Post:Value→PW→Prop):Prop:=
 ∃(F1:List PL→PW→Prop),
 ((a1_0=true→
 Aa1 Tryz.prog W0 M 151 [.agg ⟨[.bool a0_0,a0_1.v]⟩] W0 fun v2 W3=>
 ∃b4:Bool,
 ∃s5:Sl,
 v2 = .agg ⟨[.bool b4,s5.v]⟩∧
 Aa1 Tryz.prog W0 M 151 [.agg ⟨[.bool a1_0,a1_1.v]⟩] W3 fun v6 W7=>∃b8:Bool,∃s9:Sl,v6 = .agg ⟨[.bool b8,s9.v]⟩∧F1 [.cells [.bool b4,s5.v],.cells [.bool b8,s9.v]] W7)∧
 (a1_0=false→F1 [.cells [.bool a0_0,a0_1.v],.cells [.bool a1_0,a1_1.v]] W0))∧
 ∀(b10:Bool) (s11:Sl) (b12:Bool) (s13:Sl) (W14:PW),
 F1 [.cells [.bool b10,s11.v],.cells [.bool b12,s13.v]] W14→
 Aa1 Tryz.prog W0 M 52 [.int .u64 1] W14 fun v15 W16=>
 ∃s17:Sl,
 v15=s17.v∧
 Aa1 Tryz.prog W0 M 54 [s13.v,s17.v] W16 fun v18 W19=>
 ∃i20:Int,
 v18 = .int .i64 i20∧
 (i20=0→∀(W21:PW),Ext W19 W21→Post (.agg ⟨[.bool b10,s11.v,s13.v]⟩) W21)∧
 (¬i20=0→
 Aa1 Tryz.prog W0 M 55 [s13.v,s11.v] W19 fun v22 W23=>
 ∃s24:Sl,
 v22=s24.v∧
 Aa1 Tryz.prog W0 M 52 [.int .u64 1] W23 fun v25 W26=>
 ∃s27:Sl,
 v25=s27.v∧
 Aa1 Tryz.prog W0 M 54 [s24.v,s27.v] W26 fun v28 W29=>
 ∃i30:Int,
 v28 = .int .i64 i30∧
 (i30≠0→
 Aa1 Tryz.prog W0 M 95 [s11.v,s24.v] W29 fun v31 W32=>
 ∃s33:Sl,
 ∃s34:Sl,
 v31 = .tuple ⟨[s33.v,s34.v]⟩∧
 Aa1 Tryz.prog W0 M 95 [s13.v,s24.v] W32 fun v35 W36=>
 ∃s37:Sl,
 ∃s38:Sl,
 v35 = .tuple ⟨[s37.v,s38.v]⟩∧
 Aa1 Tryz.prog W0 M 122 [.bool b10,s33.v] W36 fun v39 W40=>
 ∃b41:Bool,∃s42:Sl,v39 = .agg ⟨[.bool b41,s42.v]⟩∧∀(W43:PW),Ext W40 W43→Post (.agg ⟨[.bool b41,s42.v,s37.v]⟩) W43)∧
 (¬i30≠0→∀(W44:PW),Ext W29 W44→Post (.agg ⟨[.bool b10,s11.v,s13.v]⟩) W44))
theorem Bz2 (W0:PW) (M:Nat→Prop) (a0_0:Bool) (a0_1:Sl) (a1_0:Bool) (a1_1:Sl) (Post:Value→PW→Prop) (h:Db7 W0 M a0_0 a0_1 a1_0 a1_1 Post):Aa0 Tryz.prog 143 [.agg #[.bool a0_0,a0_1.v],.agg #[.bool a1_0,a1_1.v]] W0 M Post:=
 Aa3 rfl Aa9 Aa8 Tryz.func143 (cuts:=[3]) rfl rfl (Nat.le_of_ble_eq_true rfl) (Eq.mpr (by kernel_rfl) h)
def Cr3 (W0:PW) (M:Nat→Prop) (a0:Sl) (a1:Sl) (Post:Value→PW→Prop):Prop:=
 I64 ((a0.2:Int)+(a1.2:Int))∧
 I64 ((a0.2:Int)+(a1.2:Int)+1)∧
 ((a0.2:Int)+(a1.2:Int)+1=(a0.2:Int)+(a1.2:Int)+1∧0≤(a0.2:Int)+(a1.2:Int)+1∧((a0.2:Int)+(a1.2:Int)+1)*(↑(4:Nat):Int)≤281474976710656)∧
 ∃(F1:List PL→PW→Prop),
 ∃(F2:List PL→PW→Nat),
 F1 [.val (.int .i64 0),.row (List.replicate (Int.toNat ((a0.2:Int)+(a1.2:Int)+1)) [.int .u32 0])] W0∧
 ∀(l3:List (List Value)) (i4:Int) (W5:PW),
 F1 [.val (.int .i64 i4),.row l3] W5→
 (i4<(a0.2:Int)→
 ∃(F6:List PL→PW→Prop),
 ∃(F7:List PL→PW→Nat),
 F6 [.val (.int .u64 0),.val (.int .i64 0),.row l3] W5∧
 ∀(l8:List (List Value)) (i9 i10:Int) (W11:PW),
 F6 [.val (.int .u64 i9),.val (.int .i64 i10),.row l8] W11→
 (i10<(a1.2:Int)→
 inB a0 i4∧
 ∃i12:Int,
 Aa7 W11 a0 1 (Int.toNat i4) 0 [.int .u32 i12]∧
 inB a1 i10∧
 ∃i13:Int,
 Aa7 W11 a1 1 (Int.toNat i10) 0 [.int .u32 i13]∧
 I64 (i4+i10)∧
 (0≤i4+i10∧i4+i10<(↑(List.length l8):Int))∧
 ∃i14:Int,
 Ck3 l8 (Int.toNat (i4+i10)) 0 [.int .u32 i14]∧
 I64 (i4+i10)∧
 (0≤i4+i10∧i4+i10<(↑(List.length l8):Int))∧
 Int.toNat (i4+i10)<List.length l8∧
 I64 (i10+1)∧
 stp F6 F7
 [.val (.int .u64 (Ah0 (IntKind.wrap .u64 (i9+IntKind.wrap .u64 (IntKind.wrap .u64 (IntKind.wrap .u64 i12*IntKind.wrap .u64 i13)+IntKind.wrap .u64 i14))) 32)),
 .val (.int .i64 (i10+1)),
 .row
 (List.set l8 (Int.toNat (i4+i10))
 [.int .u32
 (IntKind.wrap .u32 (bits BinOp.and .u64 (IntKind.wrap .u64 (i9+IntKind.wrap .u64 (IntKind.wrap .u64 (IntKind.wrap .u64 i12*IntKind.wrap .u64 i13)+IntKind.wrap .u64 i14))) 4294967295))])]
 W11 [.val (.int .u64 i9),.val (.int .i64 i10),.row l8] W11)∧
 (¬i10<(a1.2:Int)→
 I64 (i4+(a1.2:Int))∧
 (0≤i4+(a1.2:Int)∧i4+(a1.2:Int)<(↑(List.length l8):Int))∧
 Int.toNat (i4+(a1.2:Int))<List.length l8∧I64 (i4+1)∧stp F1 F2 [.val (.int .i64 (i4+1)),.row (List.set l8 (Int.toNat (i4+(a1.2:Int))) [.int .u32 (IntKind.wrap .u32 i9)])] W11 [.val (.int .i64 i4),.row l3] W5))∧
 (¬i4<(a0.2:Int)→∀(s15:Sl) (W16:PW),Ext W5 W16→SX.Own W16 141 1 s15 l3→Fr W0 W5 s15→Aa1 Tryz.prog W0 M 94 [s15.v] W16 fun v17 W18=>∃s19:Sl,v17=s19.v∧∀(W20:PW),Ext W18 W20→Post s19.v W20)
theorem Bt6 (W0:PW) (M:Nat→Prop) (a0:Sl) (a1:Sl) (Post:Value→PW→Prop) (h:Cr3 W0 M a0 a1 Post):Aa0 Tryz.prog 123 [a0.v,a1.v] W0 M Post:=
 Aa3 rfl Aa9 Aa8 Tryz.func123 (cuts:=[]) rfl rfl (Nat.le_of_ble_eq_true rfl) (Eq.mpr (by kernel_rfl) h)
def Da8 (W0:PW) (M:Nat→Prop) (a0_0:Bool) (a0_1:Sl) (a1_0:Bool) (a1_1:Sl) (Post:Value→PW→Prop):Prop:=
 Aa1 Tryz.prog W0 M 123 [a0_1.v,a1_1.v] W0 fun v1 W2=>
 ∃s3:Sl,
 v1=s3.v∧Aa1 Tryz.prog W0 M 122 [.bool (decide (a0_0≠a1_0)),s3.v] W2 fun v4 W5=>∃b6:Bool,∃s7:Sl,v4 = .agg ⟨[.bool b6,s7.v]⟩∧∀(W8:PW),Ext W5 W8→Post (.agg ⟨[.bool b6,s7.v]⟩) W8
theorem Bq1 (W0:PW) (M:Nat→Prop) (a0_0:Bool) (a0_1:Sl) (a1_0:Bool) (a1_1:Sl) (Post:Value→PW→Prop) (h:Da8 W0 M a0_0 a0_1 a1_0 a1_1 Post):Aa0 Tryz.prog 87 [.agg #[.bool a0_0,a0_1.v],.agg #[.bool a1_0,a1_1.v]] W0 M Post:=
 Aa3 rfl Aa9 Aa8 Tryz.func87 (cuts:=[]) rfl rfl (Nat.le_of_ble_eq_true rfl) (Eq.mpr (by kernel_rfl) h)
def Cz5 (W0:PW) (M:Nat→Prop) (a0_0:Bool) (a0_1:Sl) (a1_0:Bool) (a1_1:Sl) (Post:Value→PW→Prop):Prop:=
 (a0_0=a1_0→
 Aa1 Tryz.prog W0 M 131 [a0_1.v,a1_1.v] W0 fun v1 W2=>
 ∃s3:Sl,v1=s3.v∧Aa1 Tryz.prog W0 M 122 [.bool a0_0,s3.v] W2 fun v4 W5=>∃b6:Bool,∃s7:Sl,v4 = .agg ⟨[.bool b6,s7.v]⟩∧∀(W8:PW),Ext W5 W8→Post (.agg ⟨[.bool b6,s7.v]⟩) W8)∧
 (¬a0_0=a1_0→
 Aa1 Tryz.prog W0 M 54 [a0_1.v,a1_1.v] W0 fun v9 W10=>
 ∃i11:Int,
 v9 = .int .i64 i11∧
 (0≤i11→
 Aa1 Tryz.prog W0 M 130 [a0_1.v,a1_1.v] W10 fun v12 W13=>
 ∃s14:Sl,
 v12=s14.v∧Aa1 Tryz.prog W0 M 122 [.bool a0_0,s14.v] W13 fun v15 W16=>∃b17:Bool,∃s18:Sl,v15 = .agg ⟨[.bool b17,s18.v]⟩∧∀(W19:PW),Ext W16 W19→Post (.agg ⟨[.bool b17,s18.v]⟩) W19)∧
 (¬0≤i11→
 Aa1 Tryz.prog W0 M 130 [a1_1.v,a0_1.v] W10 fun v20 W21=>
 ∃s22:Sl,
 v20=s22.v∧Aa1 Tryz.prog W0 M 122 [.bool a1_0,s22.v] W21 fun v23 W24=>∃b25:Bool,∃s26:Sl,v23 = .agg ⟨[.bool b25,s26.v]⟩∧∀(W27:PW),Ext W24 W27→Post (.agg ⟨[.bool b25,s26.v]⟩) W27))
theorem Bv0 (W0:PW) (M:Nat→Prop) (a0_0:Bool) (a0_1:Sl) (a1_0:Bool) (a1_1:Sl) (Post:Value→PW→Prop) (h:Cz5 W0 M a0_0 a0_1 a1_0 a1_1 Post):Aa0 Tryz.prog 144 [.agg #[.bool a0_0,a0_1.v],.agg #[.bool a1_0,a1_1.v]] W0 M Post:=
 Aa3 rfl Aa9 Aa8 Tryz.func144 (cuts:=[]) rfl rfl (Nat.le_of_ble_eq_true rfl) (Eq.mpr (by kernel_rfl) h)
def Cp4 (W0:PW) (M:Nat→Prop) (a0_0:Bool) (a0_1:Sl) (a1_0:Bool) (a1_1:Sl) (Post:Value→PW→Prop):Prop:=
 Aa1 Tryz.prog W0 M 151 [.agg ⟨[.bool a1_0,a1_1.v]⟩] W0 fun v1 W2=>
 ∃b3:Bool,
 ∃s4:Sl,
 v1 = .agg ⟨[.bool b3,s4.v]⟩∧
 Aa1 Tryz.prog W0 M 144 [.agg ⟨[.bool a0_0,a0_1.v]⟩,.agg ⟨[.bool b3,s4.v]⟩] W2 fun v5 W6=>
 ∃b7:Bool,∃s8:Sl,v5 = .agg ⟨[.bool b7,s8.v]⟩∧∀(W9:PW),Ext W6 W9→Post (.agg ⟨[.bool b7,s8.v]⟩) W9
theorem Bs2 (W0:PW) (M:Nat→Prop) (a0_0:Bool) (a0_1:Sl) (a1_0:Bool) (a1_1:Sl) (Post:Value→PW→Prop) (h:Cp4 W0 M a0_0 a0_1 a1_0 a1_1 Post):Aa0 Tryz.prog 121 [.agg #[.bool a0_0,a0_1.v],.agg #[.bool a1_0,a1_1.v]] W0 M Post:=
 Aa3 rfl Aa9 Aa8 Tryz.func121 (cuts:=[]) rfl rfl (Nat.le_of_ble_eq_true rfl) (Eq.mpr (by kernel_rfl) h)
def Co9 (W0:PW) (M:Nat→Prop) (a0_0:Bool) (a0_1:Sl) (a1_0:Bool) (a1_1:Sl) (Post:Value→PW→Prop):Prop:=
 Aa1 Tryz.prog W0 M 121 [.agg ⟨[.bool a0_0,a0_1.v]⟩,.agg ⟨[.bool a1_0,a1_1.v]⟩] W0 fun v1 W2=>
 ∃b3:Bool,∃s4:Sl,v1 = .agg ⟨[.bool b3,s4.v]⟩∧Aa1 Tryz.prog W0 M 109 [.agg ⟨[.bool b3,s4.v]⟩] W2 fun v5 W6=>∃i7:Int,v5 = .int .i64 i7∧∀(W8:PW),Ext W6 W8→Post (.int .i64 i7) W8
theorem By7 (W0:PW) (M:Nat→Prop) (a0_0:Bool) (a0_1:Sl) (a1_0:Bool) (a1_1:Sl) (Post:Value→PW→Prop) (h:Co9 W0 M a0_0 a0_1 a1_0 a1_1 Post):Aa0 Tryz.prog 86 [.agg #[.bool a0_0,a0_1.v],.agg #[.bool a1_0,a1_1.v]] W0 M Post:=
 Aa3 rfl Aa9 Aa8 Tryz.func86 (cuts:=[]) rfl rfl (Nat.le_of_ble_eq_true rfl) (Eq.mpr (by kernel_rfl) h)
def Cp7 (W0:PW) (M:Nat→Prop) (a0_0:Bool) (a0_1:Sl) (Post:Value→PW→Prop):Prop:=
 Aa1 Tryz.prog W0 M 122 [.bool !a0_0,a0_1.v] W0 fun v1 W2=>∃b3:Bool,∃s4:Sl,v1 = .agg ⟨[.bool b3,s4.v]⟩∧∀(W5:PW),Ext W2 W5→Post (.agg ⟨[.bool b3,s4.v]⟩) W5
theorem Bw5 (W0:PW) (M:Nat→Prop) (a0_0:Bool) (a0_1:Sl) (Post:Value→PW→Prop) (h:Cp7 W0 M a0_0 a0_1 Post):Aa0 Tryz.prog 151 [.agg #[.bool a0_0,a0_1.v]] W0 M Post:=
 Aa3 rfl Aa9 Aa8 Tryz.func151 (cuts:=[]) rfl rfl (Nat.le_of_ble_eq_true rfl) (Eq.mpr (by kernel_rfl) h)
def Cg6 (W0:PW) (M:Nat→Prop) (a0:Bool) (a1:Sl) (Post:Value→PW→Prop):Prop:=
 (a0=true→∀(W1:PW),Ext W0 W1→Post (.agg ⟨[.bool (decide (0<(a1.2:Int))),a1.v]⟩) W1)∧(a0=false→∀(W2:PW),Ext W0 W2→Post (.agg ⟨[.bool false,a1.v]⟩) W2)
theorem Bn3 (W0:PW) (M:Nat→Prop) (a0:Bool) (a1:Sl) (Post:Value→PW→Prop) (h:Cg6 W0 M a0 a1 Post):Aa0 Tryz.prog 122 [.bool a0,a1.v] W0 M Post:=
 Aa3 rfl Aa9 Aa8 Tryz.func122 (cuts:=[]) rfl rfl (Nat.le_of_ble_eq_true rfl) (Eq.mpr (by kernel_rfl) h)
def Dg6 (W0:PW) (M:Nat→Prop) (a0:Int) (Post:Value→PW→Prop):Prop:=
 (a0<0→
 I64 (a0+1)∧
 I64 (0-(a0+1))∧
 Aa1 Tryz.prog W0 M 52 [.int .u64 (IntKind.wrap .u64 (IntKind.wrap .u64 (0-(a0+1))+1))] W0 fun v1 W2=>∃s3:Sl,v1=s3.v∧∀(W4:PW),Ext W2 W4→Post (.agg ⟨[.bool true,s3.v]⟩) W4)∧
 (¬a0<0→Aa1 Tryz.prog W0 M 52 [.int .u64 (IntKind.wrap .u64 a0)] W0 fun v5 W6=>∃s7:Sl,v5=s7.v∧∀(W8:PW),Ext W6 W8→Post (.agg ⟨[.bool false,s7.v]⟩) W8)
theorem Ca7 (W0:PW) (M:Nat→Prop) (a0:Int) (Post:Value→PW→Prop) (h:Dg6 W0 M a0 Post):Aa0 Tryz.prog 69 [.int .i64 a0] W0 M Post:=
 Aa3 rfl Aa9 Aa8 Tryz.func69 (cuts:=[]) rfl rfl (Nat.le_of_ble_eq_true rfl) (Eq.mpr (by kernel_rfl) h)
def Dv8 (W0:PW) (M:Nat→Prop) (a0_0:Bool) (a0_1:Sl) (Post:Value→PW→Prop):Prop:=
 ((a0_1.2:Int)=0→∀(W1:PW),Ext W0 W1→Post (.int .i64 0) W1)∧(¬(a0_1.2:Int)=0→(a0_0=true→∀(W2:PW),Ext W0 W2→Post (.int .i64 (-1:Int)) W2)∧(a0_0=false→∀(W3:PW),Ext W0 W3→Post (.int .i64 1) W3))
theorem Cn4 (W0:PW) (M:Nat→Prop) (a0_0:Bool) (a0_1:Sl) (Post:Value→PW→Prop) (h:Dv8 W0 M a0_0 a0_1 Post):Aa0 Tryz.prog 109 [.agg #[.bool a0_0,a0_1.v]] W0 M Post:=
 Aa3 rfl Aa9 Aa8 Tryz.func109 (cuts:=[]) rfl rfl (Nat.le_of_ble_eq_true rfl) (Eq.mpr (by kernel_rfl) h)
def Cz6 (W0:PW) (M:Nat→Prop) (a0_0:Bool) (a0_1:Sl) (a0_2:Sl) (a1_0:Bool) (a1_1:Sl) (a1_2:Sl) (Post:Value→PW→Prop):Prop:=
 Aa1 Tryz.prog W0 M 89 [.agg ⟨[.bool a1_0,a1_1.v,a1_2.v]⟩] W0 fun v1 W2=>
 ∃s3:Sl,
 v1=s3.v∧
 Aa1 Tryz.prog W0 M 88 [s3.v] W2 fun v4 W5=>
 ∃b6:Bool,
 ∃s7:Sl,
 v4 = .agg ⟨[.bool b6,s7.v]⟩∧
 Aa1 Tryz.prog W0 M 87 [.agg ⟨[.bool a0_0,a0_1.v]⟩,.agg ⟨[.bool b6,s7.v]⟩] W5 fun v8 W9=>
 ∃b10:Bool,
 ∃s11:Sl,
 v8 = .agg ⟨[.bool b10,s11.v]⟩∧
 Aa1 Tryz.prog W0 M 89 [.agg ⟨[.bool a0_0,a0_1.v,a0_2.v]⟩] W9 fun v12 W13=>
 ∃s14:Sl,
 v12=s14.v∧
 Aa1 Tryz.prog W0 M 88 [s14.v] W13 fun v15 W16=>
 ∃b17:Bool,
 ∃s18:Sl,
 v15 = .agg ⟨[.bool b17,s18.v]⟩∧
 Aa1 Tryz.prog W0 M 87 [.agg ⟨[.bool a1_0,a1_1.v]⟩,.agg ⟨[.bool b17,s18.v]⟩] W16 fun v19 W20=>
 ∃b21:Bool,
 ∃s22:Sl,
 v19 = .agg ⟨[.bool b21,s22.v]⟩∧
 Aa1 Tryz.prog W0 M 144 [.agg ⟨[.bool b10,s11.v]⟩,.agg ⟨[.bool b21,s22.v]⟩] W20 fun v23 W24=>
 ∃b25:Bool,
 ∃s26:Sl,
 v23 = .agg ⟨[.bool b25,s26.v]⟩∧
 Aa1 Tryz.prog W0 M 89 [.agg ⟨[.bool a0_0,a0_1.v,a0_2.v]⟩] W24 fun v27 W28=>
 ∃s29:Sl,
 v27=s29.v∧
 Aa1 Tryz.prog W0 M 89 [.agg ⟨[.bool a1_0,a1_1.v,a1_2.v]⟩] W28 fun v30 W31=>
 ∃s32:Sl,
 v30=s32.v∧
 Aa1 Tryz.prog W0 M 123 [s29.v,s32.v] W31 fun v33 W34=>
 ∃s35:Sl,
 v33=s35.v∧
 Aa1 Tryz.prog W0 M 88 [s35.v] W34 fun v36 W37=>
 ∃b38:Bool,
 ∃s39:Sl,
 v36 = .agg ⟨[.bool b38,s39.v]⟩∧
 Aa1 Tryz.prog W0 M 143 [.agg ⟨[.bool b25,s26.v]⟩,.agg ⟨[.bool b38,s39.v]⟩] W37 fun v40 W41=>
 ∃b42:Bool,∃s43:Sl,∃s44:Sl,v40 = .agg ⟨[.bool b42,s43.v,s44.v]⟩∧∀(W45:PW),Ext W41 W45→Post (.agg ⟨[.bool b42,s43.v,s44.v]⟩) W45
theorem Bq8 (W0:PW) (M:Nat→Prop) (a0_0:Bool) (a0_1:Sl) (a0_2:Sl) (a1_0:Bool) (a1_1:Sl) (a1_2:Sl) (Post:Value→PW→Prop) (h:Cz6 W0 M a0_0 a0_1 a0_2 a1_0 a1_1 a1_2 Post):Aa0 Tryz.prog 108 [.agg #[.bool a0_0,a0_1.v,a0_2.v],.agg #[.bool a1_0,a1_1.v,a1_2.v]] W0 M Post:=
 Aa3 rfl Aa9 Aa8 Tryz.func108 (cuts:=[]) rfl rfl (Nat.le_of_ble_eq_true rfl) (Eq.mpr (by kernel_rfl) h)
def Dc1 (W0:PW) (M:Nat→Prop) (a0_0:Bool) (a0_1:Sl) (a0_2:Sl) (a1_0:Bool) (a1_1:Sl) (a1_2:Sl) (Post:Value→PW→Prop):Prop:=
 Aa1 Tryz.prog W0 M 89 [.agg ⟨[.bool a1_0,a1_1.v,a1_2.v]⟩] W0 fun v1 W2=>
 ∃s3:Sl,
 v1=s3.v∧
 Aa1 Tryz.prog W0 M 88 [s3.v] W2 fun v4 W5=>
 ∃b6:Bool,
 ∃s7:Sl,
 v4 = .agg ⟨[.bool b6,s7.v]⟩∧
 Aa1 Tryz.prog W0 M 87 [.agg ⟨[.bool a0_0,a0_1.v]⟩,.agg ⟨[.bool b6,s7.v]⟩] W5 fun v8 W9=>
 ∃b10:Bool,
 ∃s11:Sl,
 v8 = .agg ⟨[.bool b10,s11.v]⟩∧
 Aa1 Tryz.prog W0 M 89 [.agg ⟨[.bool a0_0,a0_1.v,a0_2.v]⟩] W9 fun v12 W13=>
 ∃s14:Sl,
 v12=s14.v∧
 Aa1 Tryz.prog W0 M 88 [s14.v] W13 fun v15 W16=>
 ∃b17:Bool,
 ∃s18:Sl,
 v15 = .agg ⟨[.bool b17,s18.v]⟩∧
 Aa1 Tryz.prog W0 M 87 [.agg ⟨[.bool a1_0,a1_1.v]⟩,.agg ⟨[.bool b17,s18.v]⟩] W16 fun v19 W20=>
 ∃b21:Bool,
 ∃s22:Sl,
 v19 = .agg ⟨[.bool b21,s22.v]⟩∧
 Aa1 Tryz.prog W0 M 86 [.agg ⟨[.bool b10,s11.v]⟩,.agg ⟨[.bool b21,s22.v]⟩] W20 fun v23 W24=>
 ∃i25:Int,v23 = .int .i64 i25∧∀(W26:PW),Ext W24 W26→Post (.int .i64 i25) W26
theorem Bs0 (W0:PW) (M:Nat→Prop) (a0_0:Bool) (a0_1:Sl) (a0_2:Sl) (a1_0:Bool) (a1_1:Sl) (a1_2:Sl) (Post:Value→PW→Prop) (h:Dc1 W0 M a0_0 a0_1 a0_2 a1_0 a1_1 a1_2 Post):Aa0 Tryz.prog 48 [.agg #[.bool a0_0,a0_1.v,a0_2.v],.agg #[.bool a1_0,a1_1.v,a1_2.v]] W0 M Post:=
 Aa3 rfl Aa9 Aa8 Tryz.func48 (cuts:=[]) rfl rfl (Nat.le_of_ble_eq_true rfl) (Eq.mpr (by kernel_rfl) h)
end Go.Proofs.YtahohahjnhfedaaGreatDoor
