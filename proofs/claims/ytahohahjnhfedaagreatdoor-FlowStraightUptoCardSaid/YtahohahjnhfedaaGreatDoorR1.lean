/- R1 -/
import Derived.Test.YtahohahjnhfedaaGreatDoorTt
set_option linter.unusedVariables false
set_option linter.unusedSimpArgs false
set_option maxRecDepth 100000
namespace Go.Proofs.YtahohahjnhfedaaGreatDoor
open Go Go.SX
def Fa4 (W0:PW) (M:Nat→Prop) (a0:Sl) (Post:Value→PW→Prop):Prop:=
 ∃(F1:List PL→PW→Prop),
 ∃(F2:List PL→PW→Nat),
 F1 [.val a0.v] W0∧
 ∀(s3:Sl) (W4:PW),
 F1 [.val s3.v] W4→
 (0<(s3.2:Int)→
 I64 ((s3.2:Int)-1)∧
 inB s3 ((s3.2:Int)-1)∧
 ∃i5:Int,
 Aa7 W4 s3 1 (Int.toNat ((s3.2:Int)-1)) 0 [.int .u32 i5]∧
 (i5=0→
 I64 ((s3.2:Int)-1)∧
 ((0:Int)≤0∧0≤(s3.2:Int)-1∧(s3.2:Int)-1≤(s3.3:Int))∧
 stp F1 F2 [.val (Sl.v (Sl.cut {A:=Sl.A s3,n:=Sl.n s3,c:=Sl.c s3 } (TyI.size Ld1) (Int.toNat 0) (Int.toNat ((s3.2:Int)-1))))] W4 [.val s3.v] W4)∧
 (¬i5=0→∀(W6:PW),Ext W4 W6→Post (.agg ⟨[s3.v]⟩) W6))∧
 (¬0<(s3.2:Int)→∀(W7:PW),Ext W4 W7→Post (.agg ⟨[s3.v]⟩) W7)
theorem Bw4 (W0:PW) (M:Nat→Prop) (a0:Sl) (Post:Value→PW→Prop) (h:Fa4 W0 M a0 Post):Aa0 Tryz.prog 77 [a0.v] W0 M Post:=
 Aa3 rfl Aa9 Aa8 Tryz.func77 (cuts:=[]) rfl rfl (Nat.le_of_ble_eq_true rfl) (Eq.mpr (by kernel_rfl) h)
def Fg7 (W0:PW) (M:Nat→Prop) (a0:Int) (Post:Value→PW→Prop):Prop:=
 ∀(s1:Sl) (W2:PW),
 Ext W0 W2→
 SX.Own W2 141 1 s1 [[.int .u32 (IntKind.wrap .u32 a0)],[.int .u32 (IntKind.wrap .u32 (Ah0 a0 32))]]→
 Fr W0 W0 s1→Aa1 Tryz.prog W0 M 77 [s1.v] W2 fun v3 W4=>∃s5:Sl,v3 = .agg ⟨[s5.v]⟩∧∀(W6:PW),Ext W4 W6→Post (.agg ⟨[s5.v]⟩) W6
theorem Dw9 (W0:PW) (M:Nat→Prop) (a0:Int) (Post:Value→PW→Prop) (h:Fg7 W0 M a0 Post):Aa0 Tryz.prog 78 [.int .u64 a0] W0 M Post:=
 Aa3 rfl Aa9 Aa8 Tryz.func78 (cuts:=[]) rfl rfl (Nat.le_of_ble_eq_true rfl) (Eq.mpr (by kernel_rfl) h)
def Eu7 (W0:PW) (M:Nat→Prop) (a0_0:Sl) (a1_0:Sl) (Post:Value→PW→Prop):Prop:=
 ∃(F1:List PL→PW→Prop),
 (((a0_0.2:Int)<(a1_0.2:Int)→F1 [.cells [a1_0.v],.cells [a0_0.v]] W0)∧(¬(a0_0.2:Int)<(a1_0.2:Int)→F1 [.cells [a0_0.v],.cells [a1_0.v]] W0))∧
 ∀(s2 s3:Sl) (W4:PW),
 F1 [.cells [s2.v],.cells [s3.v]] W4→
 I64 ((s2.2:Int)+1)∧
 ((s2.2:Int)+1=(s2.2:Int)+1∧0≤(s2.2:Int)+1∧((s2.2:Int)+1)*(↑(4:Nat):Int)≤281474976710656)∧
 ∃(F5:List PL→PW→Prop),
 ∃(F6:List PL→PW→Nat),
 F5 [.val (.int .u64 0),.val (.int .i64 0),.row (List.replicate (Int.toNat ((s2.2:Int)+1)) [.int .u32 0])] W4∧
 ∀(l7:List (List Value)) (i8 i9:Int) (W10:PW),
 F5 [.val (.int .u64 i8),.val (.int .i64 i9),.row l7] W10→
 (i9<(s2.2:Int)→
 inB s2 i9∧
 ∃i11:Int,
 Aa7 W10 s2 1 (Int.toNat i9) 0 [.int .u32 i11]∧
 (i9<(s3.2:Int)→
 inB s3 i9∧
 ∃i12:Int,
 Aa7 W10 s3 1 (Int.toNat i9) 0 [.int .u32 i12]∧
 (0≤i9∧i9<(↑(List.length l7):Int))∧
 Int.toNat i9<List.length l7∧
 I64 (i9+1)∧
 stp F5 F6
 [.val (.int .u64 (Ah0 (IntKind.wrap .u64 (IntKind.wrap .u64 (i8+IntKind.wrap .u64 i11)+IntKind.wrap .u64 i12)) 32)),.val (.int .i64 (i9+1)),
 .row (List.set l7 (Int.toNat i9) [.int .u32 (IntKind.wrap .u32 (IntKind.wrap .u64 (IntKind.wrap .u64 (i8+IntKind.wrap .u64 i11)+IntKind.wrap .u64 i12)))])]
 W10 [.val (.int .u64 i8),.val (.int .i64 i9),.row l7] W10)∧
 (¬i9<(s3.2:Int)→
 (0≤i9∧i9<(↑(List.length l7):Int))∧
 Int.toNat i9<List.length l7∧
 I64 (i9+1)∧
 stp F5 F6
 [.val (.int .u64 (Ah0 (IntKind.wrap .u64 (i8+IntKind.wrap .u64 i11)) 32)),.val (.int .i64 (i9+1)),
 .row (List.set l7 (Int.toNat i9) [.int .u32 (IntKind.wrap .u32 (IntKind.wrap .u64 (i8+IntKind.wrap .u64 i11)))])]
 W10 [.val (.int .u64 i8),.val (.int .i64 i9),.row l7] W10))∧
 (¬i9<(s2.2:Int)→
 (0≤(s2.2:Int)∧(s2.2:Int)<(↑(List.length l7):Int))∧
 Int.toNat (s2.2:Int)<List.length l7∧
 ∀(s13:Sl) (W14:PW),
 Ext W10 W14→
 SX.Own W14 141 1 s13 (List.set l7 (Int.toNat (s2.2:Int)) [.int .u32 (IntKind.wrap .u32 i8)])→
 Fr W0 W10 s13→Aa1 Tryz.prog W0 M 77 [s13.v] W14 fun v15 W16=>∃s17:Sl,v15 = .agg ⟨[s17.v]⟩∧∀(W18:PW),Ext W16 W18→Post (.agg ⟨[s17.v]⟩) W18)
theorem Di3 (W0:PW) (M:Nat→Prop) (a0_0:Sl) (a1_0:Sl) (Post:Value→PW→Prop) (h:Eu7 W0 M a0_0 a1_0 Post):Aa0 Tryz.prog 74 [.agg #[a0_0.v],.agg #[a1_0.v]] W0 M Post:=
 Aa3 rfl Aa9 Aa8 Tryz.func74 (cuts:=[3]) rfl rfl (Nat.le_of_ble_eq_true rfl) (Eq.mpr (by kernel_rfl) h)
def Eu2 (W0:PW) (M:Nat→Prop) (a0_0:Sl) (a1_0:Sl) (Post:Value→PW→Prop):Prop:=
 I64 ((a0_0.2:Int)+(a1_0.2:Int))∧
 ((a0_0.2:Int)+(a1_0.2:Int)=(a0_0.2:Int)+(a1_0.2:Int)∧0≤(a0_0.2:Int)+(a1_0.2:Int)∧((a0_0.2:Int)+(a1_0.2:Int))*(↑(4:Nat):Int)≤281474976710656)∧
 ∃(F1:List PL→PW→Prop),
 ∃(F2:List PL→PW→Nat),
 F1 [.val (.int .i64 0),.row (List.replicate (Int.toNat ((a0_0.2:Int)+(a1_0.2:Int))) [.int .u32 0])] W0∧
 ∀(l3:List (List Value)) (i4:Int) (W5:PW),
 F1 [.val (.int .i64 i4),.row l3] W5→
 (i4<(a0_0.2:Int)→
 inB a0_0 i4∧
 ∃i6:Int,
 Aa7 W5 a0_0 1 (Int.toNat i4) 0 [.int .u32 i6]∧
 ∃(F7:List PL→PW→Prop),
 ∃(F8:List PL→PW→Nat),
 F7 [.val (.int .u64 0),.val (.int .i64 0),.row l3] W5∧
 ∀(l9:List (List Value)) (i10 i11:Int) (W12:PW),
 F7 [.val (.int .u64 i10),.val (.int .i64 i11),.row l9] W12→
 (i11<(a1_0.2:Int)→
 inB a1_0 i11∧
 ∃i13:Int,
 Aa7 W12 a1_0 1 (Int.toNat i11) 0 [.int .u32 i13]∧
 I64 (i4+i11)∧
 (0≤i4+i11∧i4+i11<(↑(List.length l9):Int))∧
 ∃i14:Int,
 Ck3 l9 (Int.toNat (i4+i11)) 0 [.int .u32 i14]∧
 I64 (i4+i11)∧
 (0≤i4+i11∧i4+i11<(↑(List.length l9):Int))∧
 Int.toNat (i4+i11)<List.length l9∧
 I64 (i11+1)∧
 stp F7 F8
 [.val (.int .u64 (Ah0 (IntKind.wrap .u64 (i10+IntKind.wrap .u64 (IntKind.wrap .u64 (IntKind.wrap .u64 i6*IntKind.wrap .u64 i13)+IntKind.wrap .u64 i14))) 32)),
 .val (.int .i64 (i11+1)),
 .row (List.set l9 (Int.toNat (i4+i11)) [.int .u32 (IntKind.wrap .u32 (IntKind.wrap .u64 (i10+IntKind.wrap .u64 (IntKind.wrap .u64 (IntKind.wrap .u64 i6*IntKind.wrap .u64 i13)+IntKind.wrap .u64 i14))))])]
 W12 [.val (.int .u64 i10),.val (.int .i64 i11),.row l9] W12)∧
 (¬i11<(a1_0.2:Int)→
 I64 (i4+(a1_0.2:Int))∧
 (0≤i4+(a1_0.2:Int)∧i4+(a1_0.2:Int)<(↑(List.length l9):Int))∧
 Int.toNat (i4+(a1_0.2:Int))<List.length l9∧
 I64 (i4+1)∧stp F1 F2 [.val (.int .i64 (i4+1)),.row (List.set l9 (Int.toNat (i4+(a1_0.2:Int))) [.int .u32 (IntKind.wrap .u32 i10)])] W12 [.val (.int .i64 i4),.row l3] W5))∧
 (¬i4<(a0_0.2:Int)→
 ∀(s15:Sl) (W16:PW),
 Ext W5 W16→SX.Own W16 141 1 s15 l3→Fr W0 W5 s15→Aa1 Tryz.prog W0 M 77 [s15.v] W16 fun v17 W18=>∃s19:Sl,v17 = .agg ⟨[s19.v]⟩∧∀(W20:PW),Ext W18 W20→Post (.agg ⟨[s19.v]⟩) W20)
theorem Dl8 (W0:PW) (M:Nat→Prop) (a0_0:Sl) (a1_0:Sl) (Post:Value→PW→Prop) (h:Eu2 W0 M a0_0 a1_0 Post):Aa0 Tryz.prog 34 [.agg #[a0_0.v],.agg #[a1_0.v]] W0 M Post:=
 Aa3 rfl Aa9 Aa8 Tryz.func34 (cuts:=[]) rfl rfl (Nat.le_of_ble_eq_true rfl) (Eq.mpr (by kernel_rfl) h)
def Aq2 (W0:PW) (M:Nat→Prop) (a0:Sl) (Post:Value→PW→Prop):Prop:=
 (a0.1=none→∀(W1:PW),Ext W0 W1→Post (.slice none 0 0) W1)∧
 (¬a0.1=none→∃(l2:List (List Value)),Bf9 W0 1 a0 l2∧(0+List.length l2)*4≤140737488355328∧∀(s3:Sl) (W4:PW),Ext W0 W4→SX.Own W4 141 1 s3 ([] ++ l2)→Fr W0 W0 s3→∀(W5:PW),Ext W4 W5→Post s3.v W5)
theorem Am5 (W0:PW) (M:Nat→Prop) (a0:Sl) (Post:Value→PW→Prop) (h:Aq2 W0 M a0 Post):Aa0 Tryz.prog 112 [a0.v] W0 M Post:=
 Aa3 rfl Aa9 Aa8 Tryz.func112 (cuts:=[]) rfl rfl (Nat.le_of_ble_eq_true rfl) (Eq.mpr (by kernel_rfl) h)
def Dq5 (W0:PW) (M:Nat→Prop) (a0_0:Sl) (a1:Int) (Post:Value→PW→Prop):Prop:=
 (32:Int)≠(0:Int)∧
 ((↑a0_0.2:Int)≤IntKind.wrap IntKind.i64 (Int.tdiv (mn (mx a1 (0:Int)) (1048576:Int)) (32:Int))→∀(W1:PW),Ext W0 W1→Post (Value.agg ⟨[Value.slice none (0:Nat) (0:Nat)]⟩) W1)∧
 (¬(↑a0_0.2:Int)≤IntKind.wrap IntKind.i64 (Int.tdiv (mn (mx a1 (0:Int)) (1048576:Int)) (32:Int))→
 (32:Int)≠(0:Int)∧
 ((0:Int)≤IntKind.wrap IntKind.i64 (Int.tdiv (mn (mx a1 (0:Int)) (1048576:Int)) (32:Int))∧IntKind.wrap IntKind.i64 (Int.tdiv (mn (mx a1 (0:Int)) (1048576:Int)) (32:Int))≤(↑a0_0.2:Int)∧(↑a0_0.2:Int)≤(↑a0_0.3:Int))∧
 ((↑(Int.toNat (↑a0_0.2:Int)-Int.toNat (IntKind.wrap IntKind.i64 (Int.tdiv (mn (mx a1 (0:Int)) (1048576:Int)) (32:Int)))):Int)=(↑(Int.toNat (↑a0_0.2:Int)-Int.toNat (IntKind.wrap IntKind.i64 (Int.tdiv (mn (mx a1 (0:Int)) (1048576:Int)) (32:Int)))):Int)∧
 (0:Int)≤(↑(Int.toNat (↑a0_0.2:Int)-Int.toNat (IntKind.wrap IntKind.i64 (Int.tdiv (mn (mx a1 (0:Int)) (1048576:Int)) (32:Int)))):Int)∧(↑(Int.toNat (↑a0_0.2:Int)-Int.toNat (IntKind.wrap IntKind.i64 (Int.tdiv (mn (mx a1 (0:Int)) (1048576:Int)) (32:Int)))):Int)*(↑(4:Nat):Int)≤(281474976710656:Int))∧
 ∃(F2:List PL→PW→Prop),
 ∃(F3:List PL→PW→Nat),
 F2 [PL.val (Value.int IntKind.i64 (0:Int)),PL.row (List.replicate (Int.toNat (↑(Int.toNat (↑a0_0.2:Int)-Int.toNat (IntKind.wrap IntKind.i64 (Int.tdiv (mn (mx a1 (0:Int)) (1048576:Int)) (32:Int)))):Int)) [Value.int IntKind.u32 (0:Int)])] W0∧
 ∀(l4:List (List Value)) (i5:Int) (W6:PW),
 F2 [PL.val (Value.int IntKind.i64 i5),PL.row l4] W6→
 (i5<(↑(Int.toNat (↑a0_0.2:Int)-Int.toNat (IntKind.wrap IntKind.i64 (Int.tdiv (mn (mx a1 (0:Int)) (1048576:Int)) (32:Int)))):Int)→
 inB (Sl.cut a0_0 (1:Nat) (Int.toNat (IntKind.wrap IntKind.i64 (Int.tdiv (mn (mx a1 (0:Int)) (1048576:Int)) (32:Int)))) (Int.toNat (↑a0_0.2:Int))) i5∧
 ∃i7:Int,
 Aa7 W6 (Sl.cut a0_0 (1:Nat) (Int.toNat (IntKind.wrap IntKind.i64 (Int.tdiv (mn (mx a1 (0:Int)) (1048576:Int)) (32:Int)))) (Int.toNat (↑a0_0.2:Int))) (1:Nat) (Int.toNat i5) (0:Nat) [Value.int IntKind.u32 i7]∧
 (32:Int)≠(0:Int)∧
 ((0:Int)≤Int.tmod (mn (mx a1 (0:Int)) (1048576:Int)) (32:Int)∧Int.tmod (mn (mx a1 (0:Int)) (1048576:Int)) (32:Int)≤(↑(IntKind.bits IntKind.u32):Int))∧
 ((0:Int)≤i5∧i5<(↑(List.length l4):Int))∧
 Int.toNat i5<List.length l4∧
 ((0:Int)<i5→
 I64 (i5-(1:Int))∧
 ((0:Int)≤i5-(1:Int)∧i5-(1:Int)<(↑(List.length (List.set l4 (Int.toNat i5) [Value.int IntKind.u32 (Ah0 i7 (Int.toNat (Int.tmod (mn (mx a1 (0:Int)) (1048576:Int)) (32:Int))))])):Int))∧
 ∃i8:Int,
 Ck3 (List.set l4 (Int.toNat i5) [Value.int IntKind.u32 (Ah0 i7 (Int.toNat (Int.tmod (mn (mx a1 (0:Int)) (1048576:Int)) (32:Int))))]) (Int.toNat (i5-(1:Int))) (0:Nat) [Value.int IntKind.u32 i8]∧
 (32:Int)≠(0:Int)∧
 I64 ((32:Int)-Int.tmod (mn (mx a1 (0:Int)) (1048576:Int)) (32:Int))∧
 ((0:Int)≤(32:Int)-Int.tmod (mn (mx a1 (0:Int)) (1048576:Int)) (32:Int)∧(32:Int)-Int.tmod (mn (mx a1 (0:Int)) (1048576:Int)) (32:Int)≤(↑(IntKind.bits IntKind.u64):Int))∧
 ((0:Int)≤i5-(1:Int)∧i5-(1:Int)<(↑(List.length (List.set l4 (Int.toNat i5) [Value.int IntKind.u32 (Ah0 i7 (Int.toNat (Int.tmod (mn (mx a1 (0:Int)) (1048576:Int)) (32:Int))))])):Int))∧
 Int.toNat (i5-(1:Int))<List.length (List.set l4 (Int.toNat i5) [Value.int IntKind.u32 (Ah0 i7 (Int.toNat (Int.tmod (mn (mx a1 (0:Int)) (1048576:Int)) (32:Int))))])∧
 I64 (i5+(1:Int))∧
 stp F2 F3
 [PL.val (Value.int IntKind.i64 (i5+(1:Int))),
 PL.row
 (List.set (List.set l4 (Int.toNat i5) [Value.int IntKind.u32 (Ah0 i7 (Int.toNat (Int.tmod (mn (mx a1 (0:Int)) (1048576:Int)) (32:Int))))]) (Int.toNat (i5-(1:Int)))
 [Value.int IntKind.u32 (bits BinOp.or IntKind.u32 i8 (IntKind.wrap IntKind.u32 (Bc5 IntKind.u64 (IntKind.wrap IntKind.u64 i7) (Int.toNat ((32:Int)-Int.tmod (mn (mx a1 (0:Int)) (1048576:Int)) (32:Int))))))])]
 W6 [PL.val (Value.int IntKind.i64 i5),PL.row l4] W6)∧
 (¬(0:Int)<i5→
 I64 (i5+(1:Int))∧stp F2 F3 [PL.val (Value.int IntKind.i64 (i5+(1:Int))),PL.row (List.set l4 (Int.toNat i5) [Value.int IntKind.u32 (Ah0 i7 (Int.toNat (Int.tmod (mn (mx a1 (0:Int)) (1048576:Int)) (32:Int))))])] W6 [PL.val (Value.int IntKind.i64 i5),PL.row l4] W6))∧
 (¬i5<(↑(Int.toNat (↑a0_0.2:Int)-Int.toNat (IntKind.wrap IntKind.i64 (Int.tdiv (mn (mx a1 (0:Int)) (1048576:Int)) (32:Int)))):Int)→
 ∀(s9:Sl) (W10:PW),
 Ext W6 W10→SX.Own W10 (141:Nat) (1:Nat) s9 l4→Fr W0 W6 s9→Aa1 Tryz.prog W0 M (77:Nat) [s9.v] W10 fun v11 W12=>∃s13:Sl,v11=Value.agg ⟨[s13.v]⟩∧∀(W14:PW),Ext W12 W14→Post (Value.agg ⟨[s13.v]⟩) W14))
theorem Df5 (W0:PW) (M:Nat→Prop) (a0_0:Sl) (a1:Int) (Post:Value→PW→Prop) (h:Dq5 W0 M a0_0 a1 Post):Aa0 Tryz.prog 117 [Value.agg #[a0_0.v],Value.int IntKind.i64 a1] W0 M Post:=
 Aa3 rfl Aa9 Aa8 Tryz.func117 (cuts:=[]) rfl rfl (Nat.le_of_ble_eq_true rfl) (Eq.mpr (by kernel_rfl) h)
def Dp1 (W0:PW) (M:Nat→Prop) (a0_0:Sl) (a1:Int) (Post:Value→PW→Prop):Prop:=
 (32:Int)≠(0:Int)∧
 I64 ((↑a0_0.2:Int)+IntKind.wrap IntKind.i64 (Int.tdiv (mn (mx a1 (0:Int)) (1048576:Int)) (32:Int)))∧
 I64 ((↑a0_0.2:Int)+IntKind.wrap IntKind.i64 (Int.tdiv (mn (mx a1 (0:Int)) (1048576:Int)) (32:Int))+(1:Int))∧
 ((↑a0_0.2:Int)+IntKind.wrap IntKind.i64 (Int.tdiv (mn (mx a1 (0:Int)) (1048576:Int)) (32:Int))+(1:Int)=(↑a0_0.2:Int)+IntKind.wrap IntKind.i64 (Int.tdiv (mn (mx a1 (0:Int)) (1048576:Int)) (32:Int))+(1:Int)∧
 (0:Int)≤(↑a0_0.2:Int)+IntKind.wrap IntKind.i64 (Int.tdiv (mn (mx a1 (0:Int)) (1048576:Int)) (32:Int))+(1:Int)∧((↑a0_0.2:Int)+IntKind.wrap IntKind.i64 (Int.tdiv (mn (mx a1 (0:Int)) (1048576:Int)) (32:Int))+(1:Int))*(↑(4:Nat):Int)≤(281474976710656:Int))∧
 ∃(F1:List PL→PW→Prop),
 ∃(F2:List PL→PW→Nat),
 F1 [PL.val (Value.int IntKind.i64 (0:Int)),PL.row (List.replicate (Int.toNat ((↑a0_0.2:Int)+IntKind.wrap IntKind.i64 (Int.tdiv (mn (mx a1 (0:Int)) (1048576:Int)) (32:Int))+(1:Int))) [Value.int IntKind.u32 (0:Int)])] W0∧
 ∀(l3:List (List Value)) (i4:Int) (W5:PW),
 F1 [PL.val (Value.int IntKind.i64 i4),PL.row l3] W5→
 (i4<(↑a0_0.2:Int)→
 inB a0_0 i4∧
 ∃i6:Int,
 Aa7 W5 a0_0 (1:Nat) (Int.toNat i4) (0:Nat) [Value.int IntKind.u32 i6]∧
 (32:Int)≠(0:Int)∧
 ((0:Int)≤Int.tmod (mn (mx a1 (0:Int)) (1048576:Int)) (32:Int)∧Int.tmod (mn (mx a1 (0:Int)) (1048576:Int)) (32:Int)≤(↑(IntKind.bits IntKind.u64):Int))∧
 (32:Int)≠(0:Int)∧
 I64 (i4+IntKind.wrap IntKind.i64 (Int.tdiv (mn (mx a1 (0:Int)) (1048576:Int)) (32:Int)))∧
 ((0:Int)≤i4+IntKind.wrap IntKind.i64 (Int.tdiv (mn (mx a1 (0:Int)) (1048576:Int)) (32:Int))∧i4+IntKind.wrap IntKind.i64 (Int.tdiv (mn (mx a1 (0:Int)) (1048576:Int)) (32:Int))<(↑(List.length l3):Int))∧
 ∃i7:Int,
 Ck3 l3 (Int.toNat (i4+IntKind.wrap IntKind.i64 (Int.tdiv (mn (mx a1 (0:Int)) (1048576:Int)) (32:Int)))) (0:Nat) [Value.int IntKind.u32 i7]∧
 ((0:Int)≤i4+IntKind.wrap IntKind.i64 (Int.tdiv (mn (mx a1 (0:Int)) (1048576:Int)) (32:Int))∧i4+IntKind.wrap IntKind.i64 (Int.tdiv (mn (mx a1 (0:Int)) (1048576:Int)) (32:Int))<(↑(List.length l3):Int))∧
 Int.toNat (i4+IntKind.wrap IntKind.i64 (Int.tdiv (mn (mx a1 (0:Int)) (1048576:Int)) (32:Int)))<List.length l3∧
 (32:Int)≠(0:Int)∧
 I64 (i4+IntKind.wrap IntKind.i64 (Int.tdiv (mn (mx a1 (0:Int)) (1048576:Int)) (32:Int)))∧
 I64 (i4+IntKind.wrap IntKind.i64 (Int.tdiv (mn (mx a1 (0:Int)) (1048576:Int)) (32:Int))+(1:Int))∧
 ((0:Int)≤i4+IntKind.wrap IntKind.i64 (Int.tdiv (mn (mx a1 (0:Int)) (1048576:Int)) (32:Int))+(1:Int)∧
 i4+IntKind.wrap IntKind.i64 (Int.tdiv (mn (mx a1 (0:Int)) (1048576:Int)) (32:Int))+(1:Int) <
 (↑(List.length
 (List.set l3 (Int.toNat (i4+IntKind.wrap IntKind.i64 (Int.tdiv (mn (mx a1 (0:Int)) (1048576:Int)) (32:Int))))
 [Value.int IntKind.u32 (bits BinOp.or IntKind.u32 i7 (IntKind.wrap IntKind.u32 (Bc5 IntKind.u64 (IntKind.wrap IntKind.u64 i6) (Int.toNat (Int.tmod (mn (mx a1 (0:Int)) (1048576:Int)) (32:Int))))))])):
 Int))∧
 Int.toNat (i4+IntKind.wrap IntKind.i64 (Int.tdiv (mn (mx a1 (0:Int)) (1048576:Int)) (32:Int))+(1:Int)) <
 List.length
 (List.set l3 (Int.toNat (i4+IntKind.wrap IntKind.i64 (Int.tdiv (mn (mx a1 (0:Int)) (1048576:Int)) (32:Int))))
 [Value.int IntKind.u32 (bits BinOp.or IntKind.u32 i7 (IntKind.wrap IntKind.u32 (Bc5 IntKind.u64 (IntKind.wrap IntKind.u64 i6) (Int.toNat (Int.tmod (mn (mx a1 (0:Int)) (1048576:Int)) (32:Int))))))])∧
 I64 (i4+(1:Int))∧
 stp F1 F2
 [PL.val (Value.int IntKind.i64 (i4+(1:Int))),
 PL.row
 (List.set
 (List.set l3 (Int.toNat (i4+IntKind.wrap IntKind.i64 (Int.tdiv (mn (mx a1 (0:Int)) (1048576:Int)) (32:Int))))
 [Value.int IntKind.u32 (bits BinOp.or IntKind.u32 i7 (IntKind.wrap IntKind.u32 (Bc5 IntKind.u64 (IntKind.wrap IntKind.u64 i6) (Int.toNat (Int.tmod (mn (mx a1 (0:Int)) (1048576:Int)) (32:Int))))))])
 (Int.toNat (i4+IntKind.wrap IntKind.i64 (Int.tdiv (mn (mx a1 (0:Int)) (1048576:Int)) (32:Int))+(1:Int)))
 [Value.int IntKind.u32 (IntKind.wrap IntKind.u32 (Ah0 (Bc5 IntKind.u64 (IntKind.wrap IntKind.u64 i6) (Int.toNat (Int.tmod (mn (mx a1 (0:Int)) (1048576:Int)) (32:Int)))) (32:Nat)))])]
 W5 [PL.val (Value.int IntKind.i64 i4),PL.row l3] W5)∧
 (¬i4<(↑a0_0.2:Int)→
 ∀(s8:Sl) (W9:PW),
 Ext W5 W9→SX.Own W9 (141:Nat) (1:Nat) s8 l3→Fr W0 W5 s8→Aa1 Tryz.prog W0 M (77:Nat) [s8.v] W9 fun v10 W11=>∃s12:Sl,v10=Value.agg ⟨[s12.v]⟩∧∀(W13:PW),Ext W11 W13→Post (Value.agg ⟨[s12.v]⟩) W13)
theorem Dd7 (W0:PW) (M:Nat→Prop) (a0_0:Sl) (a1:Int) (Post:Value→PW→Prop) (h:Dp1 W0 M a0_0 a1 Post):Aa0 Tryz.prog 115 [Value.agg #[a0_0.v],Value.int IntKind.i64 a1] W0 M Post:=
 Aa3 rfl Aa9 Aa8 Tryz.func115 (cuts:=[]) rfl rfl (Nat.le_of_ble_eq_true rfl) (Eq.mpr (by kernel_rfl) h)
def Cf8 (W0:PW) (M:Nat→Prop) (a0:Sl) (a1:Sl) (Post:Value→PW→Prop):Prop:=
 inB a0 (a1.2:Int)∧
 ∃i1:Int,
 Aa7 W0 a0 1 (Int.toNat (a1.2:Int)) 0 [.int .u32 i1]∧
 I64 ((a1.2:Int)-1)∧
 inB a0 ((a1.2:Int)-1)∧
 ∃i2:Int,
 Aa7 W0 a0 1 (Int.toNat ((a1.2:Int)-1)) 0 [.int .u32 i2]∧
 I64 ((a1.2:Int)-1)∧
 inB a1 ((a1.2:Int)-1)∧
 ∃i3:Int,
 Aa7 W0 a1 1 (Int.toNat ((a1.2:Int)-1)) 0 [.int .u32 i3]∧
 IntKind.wrap .u64 i3≠0∧
 IntKind.wrap .u64 i3≠0∧
 ∃(F4:List PL→PW→Prop),
 ∃(F5:List PL→PW→Nat),
 F4
 [.val (.int .u64 (IntKind.wrap .u64 (Int.tdiv (bits BinOp.or .u64 (Bc5 .u64 (IntKind.wrap .u64 i1) 32) (IntKind.wrap .u64 i2)) (IntKind.wrap .u64 i3)))),
 .val (.int .u64 (Int.tmod (bits BinOp.or .u64 (Bc5 .u64 (IntKind.wrap .u64 i1) 32) (IntKind.wrap .u64 i2)) (IntKind.wrap .u64 i3)))]
 W0∧
 ∀(i6 i7:Int) (W8:PW),
 F4 [.val (.int .u64 i6),.val (.int .u64 i7)] W8→
 (i7<4294967296→
 (4294967296≤i6→stp F4 F5 [.val (.int .u64 (IntKind.wrap .u64 (i6-1))),.val (.int .u64 (IntKind.wrap .u64 (i7+IntKind.wrap .u64 i3)))] W8 [.val (.int .u64 i6),.val (.int .u64 i7)] W8)∧
 (¬4294967296≤i6→
 I64 ((a1.2:Int)-2)∧
 inB a1 ((a1.2:Int)-2)∧
 ∃i9:Int,
 Aa7 W8 a1 1 (Int.toNat ((a1.2:Int)-2)) 0 [.int .u32 i9]∧
 I64 ((a1.2:Int)-2)∧
 inB a0 ((a1.2:Int)-2)∧
 ∃i10:Int,
 Aa7 W8 a0 1 (Int.toNat ((a1.2:Int)-2)) 0 [.int .u32 i10]∧
 (bits BinOp.or .u64 (Bc5 .u64 i7 32) (IntKind.wrap .u64 i10)<IntKind.wrap .u64 (i6*IntKind.wrap .u64 i9)→
 stp F4 F5 [.val (.int .u64 (IntKind.wrap .u64 (i6-1))),.val (.int .u64 (IntKind.wrap .u64 (i7+IntKind.wrap .u64 i3)))] W8 [.val (.int .u64 i6),.val (.int .u64 i7)] W8)∧
 (¬bits BinOp.or .u64 (Bc5 .u64 i7 32) (IntKind.wrap .u64 i10)<IntKind.wrap .u64 (i6*IntKind.wrap .u64 i9)→∀(W11:PW),Ext W8 W11→Post (.int .u64 i6) W11)))∧
 (¬i7<4294967296→∀(W12:PW),Ext W8 W12→Post (.int .u64 i6) W12)
theorem Cl2 (W0:PW) (M:Nat→Prop) (a0:Sl) (a1:Sl) (Post:Value→PW→Prop) (h:Cf8 W0 M a0 a1 Post):Aa0 Tryz.prog 146 [a0.v,a1.v] W0 M Post:=
 Aa3 rfl Aa9 Aa8 Tryz.func146 (cuts:=[]) rfl rfl (Nat.le_of_ble_eq_true rfl) (Eq.mpr (by kernel_rfl) h)
def Eh0 (W0:PW) (M:Nat→Prop) (a0:Sl) (a1:Sl) (a2:Int) (Post:Value→PW→Prop):Prop:=
 ∃(F1:List PL→PW→Prop),
 ∃(F2:List PL→PW→Nat),
 F1 [.val (.int .u64 0),.val (.int .u64 0),.val (.int .i64 0)] W0∧
 ∀(i3 i4 i5:Int) (W6:PW),
 F1 [.val (.int .u64 i3),.val (.int .u64 i4),.val (.int .i64 i5)] W6→
 (i5<(a1.2:Int)→
 inB a1 i5∧
 ∃i7:Int,
 Aa7 W6 a1 1 (Int.toNat i5) 0 [.int .u32 i7]∧
 inB a0 i5∧
 ∃i8:Int,
 Aa7 W6 a0 1 (Int.toNat i5) 0 [.int .u32 i8]∧
 inB a0 i5∧
 An9 W0 M a0 (Int.toNat i5*1+0)
 [.int .u32 (IntKind.wrap .u32 (IntKind.wrap .u64 (IntKind.wrap .u64 (IntKind.wrap .u64 i8-i4)-bits BinOp.and .u64 (IntKind.wrap .u64 (i3+IntKind.wrap .u64 (a2*IntKind.wrap .u64 i7))) 4294967295)))] W6 fun(W9:PW)=>
 I64 (i5+1)∧
 stp F1 F2
 [.val (.int .u64 (Ah0 (IntKind.wrap .u64 (i3+IntKind.wrap .u64 (a2*IntKind.wrap .u64 i7))) 32)),
 .val (.int .u64 (Ah0 (IntKind.wrap .u64 (IntKind.wrap .u64 (IntKind.wrap .u64 i8-i4)-bits BinOp.and .u64 (IntKind.wrap .u64 (i3+IntKind.wrap .u64 (a2*IntKind.wrap .u64 i7))) 4294967295)) 63)),
 .val (.int .i64 (i5+1))]
 W9 [.val (.int .u64 i3),.val (.int .u64 i4),.val (.int .i64 i5)] W6)∧
 (¬i5<(a1.2:Int)→
 inB a0 (a1.2:Int)∧
 ∃i10:Int,
 Aa7 W6 a0 1 (Int.toNat (a1.2:Int)) 0 [.int .u32 i10]∧
 inB a0 (a1.2:Int)∧
 An9 W0 M a0 (Int.toNat (a1.2:Int)*1+0) [.int .u32 (IntKind.wrap .u32 (IntKind.wrap .u64 (IntKind.wrap .u64 (IntKind.wrap .u64 i10-i4)-i3)))] W6 fun(W11:PW)=>
 ∀(W12:PW),Ext W11 W12→Post (.bool (decide (Ah0 (IntKind.wrap .u64 (IntKind.wrap .u64 (IntKind.wrap .u64 i10-i4)-i3)) 63=1))) W12)
theorem Dc5 (W0:PW) (M:Nat→Prop) (a0:Sl) (a1:Sl) (a2:Int) (Post:Value→PW→Prop) (h:Eh0 W0 M a0 a1 a2 Post):Aa0 Tryz.prog 147 [a0.v,a1.v,.int .u64 a2] W0 M Post:=
 Aa3 rfl Aa9 Aa8 Tryz.func147 (cuts:=[]) rfl rfl (Nat.le_of_ble_eq_true rfl) (Eq.mpr (by kernel_rfl) h)
def Cy6 (W0:PW) (M:Nat→Prop) (a0:Sl) (a1:Sl) (Post:Value→PW→Prop):Prop:=
 I64 ((a0.2:Int)-(a1.2:Int))∧
 ((a0.2:Int)-(a1.2:Int)=(a0.2:Int)-(a1.2:Int)∧0≤(a0.2:Int)-(a1.2:Int)∧((a0.2:Int)-(a1.2:Int))*(↑(4:Nat):Int)≤281474976710656)∧
 I64 ((a0.2:Int)-(a1.2:Int))∧
 I64 ((a0.2:Int)-(a1.2:Int)-1)∧
 ∃(F1:List PL→PW→Prop),
 ∃(F2:List PL→PW→Nat),
 F1 [.val (.int .i64 ((a0.2:Int)-(a1.2:Int)-1)),.row (List.replicate (Int.toNat ((a0.2:Int)-(a1.2:Int))) [.int .u32 0])] W0∧
 ∀(l3:List (List Value)) (i4:Int) (W5:PW),
 F1 [.val (.int .i64 i4),.row l3] W5→
 (0≤i4→
 I64 (i4+(a1.2:Int))∧
 I64 (i4+(a1.2:Int)+1)∧
 (0≤i4∧i4≤i4+(a1.2:Int)+1∧i4+(a1.2:Int)+1≤(a0.3:Int))∧
 Aa1 Tryz.prog W0 M 146 [Sl.v (Sl.cut {A:=Sl.A a0,n:=Sl.n a0,c:=Sl.c a0 } (TyI.size Ld1) (Int.toNat i4) (Int.toNat (i4+(a1.2:Int)+1))),a1.v] W5 fun v6 W7=>
 ∃i8:Int,
 v6 = .int .u64 i8∧
 I64 (i4+(a1.2:Int))∧
 I64 (i4+(a1.2:Int)+1)∧
 (0≤i4∧i4≤i4+(a1.2:Int)+1∧i4+(a1.2:Int)+1≤(a0.3:Int))∧
 Aa1 Tryz.prog W0 M 147 [Sl.v (Sl.cut {A:=Sl.A a0,n:=Sl.n a0,c:=Sl.c a0 } (TyI.size Ld1) (Int.toNat i4) (Int.toNat (i4+(a1.2:Int)+1))),a1.v,.int .u64 i8] W7 fun v9 W10=>
 ∃b11:Bool,
 v9 = .bool b11∧
 (b11=true→
 ∃(F12:List PL→PW→Prop),
 ∃(F13:List PL→PW→Nat),
 F12 [.val (.int .u64 0),.val (.int .i64 0)] W10∧
 ∀(i14 i15:Int) (W16:PW),
 F12 [.val (.int .u64 i14),.val (.int .i64 i15)] W16→
 (i15<(a1.2:Int)→
 inB a1 i15∧
 ∃i17:Int,
 Aa7 W16 a1 1 (Int.toNat i15) 0 [.int .u32 i17]∧
 I64 (i15+i4)∧
 inB a0 (i15+i4)∧
 ∃i18:Int,
 Aa7 W16 a0 1 (Int.toNat (i15+i4)) 0 [.int .u32 i18]∧
 I64 (i15+i4)∧
 inB a0 (i15+i4)∧
 An9 W0 M a0 (Int.toNat (i15+i4)*1+0) [.int .u32 (IntKind.wrap .u32 (IntKind.wrap .u64 (i14+IntKind.wrap .u64 (IntKind.wrap .u64 i18+IntKind.wrap .u64 i17))))] W16 fun(W19:PW)=>
 I64 (i15+1)∧
 stp F12 F13 [.val (.int .u64 (Ah0 (IntKind.wrap .u64 (i14+IntKind.wrap .u64 (IntKind.wrap .u64 i18+IntKind.wrap .u64 i17))) 32)),.val (.int .i64 (i15+1))] W19
 [.val (.int .u64 i14),.val (.int .i64 i15)] W16)∧
 (¬i15<(a1.2:Int)→
 I64 (i4+(a1.2:Int))∧
 inB a0 (i4+(a1.2:Int))∧
 ∃i20:Int,
 Aa7 W16 a0 1 (Int.toNat (i4+(a1.2:Int))) 0 [.int .u32 i20]∧
 inB a0 (i4+(a1.2:Int))∧
 An9 W0 M a0 (Int.toNat (i4+(a1.2:Int))*1+0) [.int .u32 (IntKind.wrap .u32 (i20+IntKind.wrap .u32 i14))] W16 fun(W21:PW)=>
 (0≤i4∧i4<(↑(List.length l3):Int))∧
 Int.toNat i4<List.length l3∧
 I64 (i4-1)∧
 stp F1 F2 [.val (.int .i64 (i4-1)),.row (List.set l3 (Int.toNat i4) [.int .u32 (IntKind.wrap .u32 (IntKind.wrap .u64 (i8-1)))])] W21 [.val (.int .i64 i4),.row l3] W5))∧
 (b11=false→
 (0≤i4∧i4<(↑(List.length l3):Int))∧
 Int.toNat i4<List.length l3∧I64 (i4-1)∧stp F1 F2 [.val (.int .i64 (i4-1)),.row (List.set l3 (Int.toNat i4) [.int .u32 (IntKind.wrap .u32 i8)])] W10 [.val (.int .i64 i4),.row l3] W5))∧
 (¬0≤i4→∀(s22:Sl) (W23:PW),Ext W5 W23→SX.Own W23 141 1 s22 l3→Fr W0 W5 s22→∀(W24:PW),Ext W23 W24→Post s22.v W24)
theorem Cv2 (W0:PW) (M:Nat→Prop) (a0:Sl) (a1:Sl) (Post:Value→PW→Prop) (h:Cy6 W0 M a0 a1 Post):Aa0 Tryz.prog 116 [a0.v,a1.v] W0 M Post:=
 Aa3 rfl Aa9 Aa8 Tryz.func116 (cuts:=[]) rfl rfl (Nat.le_of_ble_eq_true rfl) (Eq.mpr (by kernel_rfl) h)
def Ez4 (W0:PW) (M:Nat→Prop) (a0_0:Sl) (a1_0:Sl) (Post:Value→PW→Prop):Prop:=
 ((a1_0.2:Int)=0→∀(W1:PW),Ext W0 W1→Post (.tuple ⟨[.agg ⟨[.slice none 0 0]⟩,.agg ⟨[.slice none 0 0]⟩,.bool false]⟩) W1)∧
 (¬(a1_0.2:Int)=0→
 Aa1 Tryz.prog W0 M 30 [.agg ⟨[a0_0.v]⟩,.agg ⟨[a1_0.v]⟩] W0 fun v2 W3=>
 ∃i4:Int,
 v2 = .int .i64 i4∧
 (i4<0→∀(W5:PW),Ext W3 W5→Post (.tuple ⟨[.agg ⟨[.slice none 0 0]⟩,.agg ⟨[a0_0.v]⟩,.bool true]⟩) W5)∧
 (¬i4<0→
 ((a1_0.2:Int)=1→
 Aa1 Tryz.prog W0 M 112 [a0_0.v] W3 fun v6 W7=>
 ∃s8:Sl,
 v6=s8.v∧
 inB a1_0 0∧
 ∃i9:Int,
 Aa7 W7 a1_0 1 0 0 [.int .u32 i9]∧
 Aa1 Tryz.prog W0 M 113 [s8.v,.int .u32 i9] W7 fun v10 W11=>
 ∃i12:Int,
 v10 = .int .u32 i12∧
 Aa1 Tryz.prog W0 M 77 [s8.v] W11 fun v13 W14=>
 ∃s15:Sl,
 v13 = .agg ⟨[s15.v]⟩∧
 Aa1 Tryz.prog W0 M 78 [.int .u64 (IntKind.wrap .u64 i12)] W14 fun v16 W17=>
 ∃s18:Sl,v16 = .agg ⟨[s18.v]⟩∧∀(W19:PW),Ext W17 W19→Post (.tuple ⟨[.agg ⟨[s15.v]⟩,.agg ⟨[s18.v]⟩,.bool true]⟩) W19)∧
 (¬(a1_0.2:Int)=1→
 I64 ((a1_0.2:Int)-1)∧
 inB a1_0 ((a1_0.2:Int)-1)∧
 ∃i20:Int,
 Aa7 W3 a1_0 1 (Int.toNat ((a1_0.2:Int)-1)) 0 [.int .u32 i20]∧
 Aa1 Tryz.prog W0 M 114 [.int .u32 i20] W3 fun v21 W22=>
 ∃i23:Int,
 v21 = .int .i64 i23∧
 I64 ((a0_0.2:Int)+1)∧
 dup 1
 (Aa1 Tryz.prog W0 M 115 [.agg ⟨[a0_0.v]⟩,.int .i64 i23] W22 fun v24 W25=>
 ∃s26:Sl,
 v24 = .agg ⟨[s26.v]⟩∧
 Es7 W0 M 141 1 4 s26 [[.int .u32 0],[.int .u32 0]] W25 fun(s27:Sl) (W28:PW)=>
 ((0:Int)≤0∧0≤(a0_0.2:Int)+1∧(a0_0.2:Int)+1≤(s27.3:Int))∧
 Aa1 Tryz.prog W0 M 115 [.agg ⟨[a1_0.v]⟩,.int .i64 i23] W28 fun v29 W30=>
 ∃s31:Sl,
 v29 = .agg ⟨[s31.v]⟩∧
 Aa1 Tryz.prog W0 M 116 [Sl.v (Sl.cut {A:=Sl.A s27,n:=Sl.n s27,c:=Sl.c s27 } (TyI.size Ld1) (Int.toNat 0) (Int.toNat ((a0_0.2:Int)+1))),s31.v] W30 fun v32 W33=>
 ∃s34:Sl,
 v32=s34.v∧
 Aa1 Tryz.prog W0 M 77 [s34.v] W33 fun v35 W36=>
 ∃s37:Sl,
 v35 = .agg ⟨[s37.v]⟩∧
 Aa1 Tryz.prog W0 M 77 [Sl.v (Sl.cut {A:=Sl.A s27,n:=Sl.n s27,c:=Sl.c s27 } (TyI.size Ld1) (Int.toNat 0) (Int.toNat ((a0_0.2:Int)+1)))] W36 fun v38 W39=>
 ∃s40:Sl,
 v38 = .agg ⟨[s40.v]⟩∧
 Aa1 Tryz.prog W0 M 117 [.agg ⟨[s40.v]⟩,.int .i64 i23] W39 fun v41 W42=>
 ∃s43:Sl,v41 = .agg ⟨[s43.v]⟩∧∀(W44:PW),Ext W42 W44→Post (.tuple ⟨[.agg ⟨[s37.v]⟩,.agg ⟨[s43.v]⟩,.bool true]⟩) W44))))
theorem Dm5 (W0:PW) (M:Nat→Prop) (a0_0:Sl) (a1_0:Sl) (Post:Value→PW→Prop) (h:Ez4 W0 M a0_0 a1_0 Post):Aa0 Tryz.prog 72 [.agg #[a0_0.v],.agg #[a1_0.v]] W0 M Post:=
 Aa3 rfl Aa9 Aa8 Tryz.func72 (cuts:=[]) rfl rfl (Nat.le_of_ble_eq_true rfl) (Eq.mpr (by kernel_rfl) h)
def Fb2 (W0:PW) (M:Nat→Prop) (a0_0:Sl) (a1_0:Sl) (Post:Value→PW→Prop):Prop:=
 Aa1 Tryz.prog W0 M 30 [.agg ⟨[a0_0.v]⟩,.agg ⟨[a1_0.v]⟩] W0 fun v1 W2=>
 ∃i3:Int,
 v1 = .int .i64 i3∧
 (i3<0→∀(W4:PW),Ext W2 W4→Post (.tuple ⟨[.agg ⟨[.slice none 0 0]⟩,.bool false]⟩) W4)∧
 (¬i3<0→
 ((a0_0.2:Int)=(a0_0.2:Int)∧0≤(a0_0.2:Int)∧(a0_0.2:Int)*(↑(4:Nat):Int)≤281474976710656)∧
 ∃(F5:List PL→PW→Prop),
 ∃(F6:List PL→PW→Nat),
 F5 [.val (.int .u64 0),.val (.int .i64 0),.row (List.replicate (Int.toNat (a0_0.2:Int)) [.int .u32 0])] W2∧
 ∀(l7:List (List Value)) (i8 i9:Int) (W10:PW),
 F5 [.val (.int .u64 i8),.val (.int .i64 i9),.row l7] W10→
 (i9<(a0_0.2:Int)→
 inB a0_0 i9∧
 ∃i11:Int,
 Aa7 W10 a0_0 1 (Int.toNat i9) 0 [.int .u32 i11]∧
 (i9<(a1_0.2:Int)→
 inB a1_0 i9∧
 ∃i12:Int,
 Aa7 W10 a1_0 1 (Int.toNat i9) 0 [.int .u32 i12]∧
 (0≤i9∧i9<(↑(List.length l7):Int))∧
 Int.toNat i9<List.length l7∧
 I64 (i9+1)∧
 stp F5 F6
 [.val (.int .u64 (Ah0 (IntKind.wrap .u64 (IntKind.wrap .u64 (IntKind.wrap .u64 i11-i8)-IntKind.wrap .u64 i12)) 63)),.val (.int .i64 (i9+1)),
 .row (List.set l7 (Int.toNat i9) [.int .u32 (IntKind.wrap .u32 (IntKind.wrap .u64 (IntKind.wrap .u64 (IntKind.wrap .u64 i11-i8)-IntKind.wrap .u64 i12)))])]
 W10 [.val (.int .u64 i8),.val (.int .i64 i9),.row l7] W10)∧
 (¬i9<(a1_0.2:Int)→
 (0≤i9∧i9<(↑(List.length l7):Int))∧
 Int.toNat i9<List.length l7∧
 I64 (i9+1)∧
 stp F5 F6
 [.val (.int .u64 (Ah0 (IntKind.wrap .u64 (IntKind.wrap .u64 i11-i8)) 63)),.val (.int .i64 (i9+1)),
 .row (List.set l7 (Int.toNat i9) [.int .u32 (IntKind.wrap .u32 (IntKind.wrap .u64 (IntKind.wrap .u64 i11-i8)))])]
 W10 [.val (.int .u64 i8),.val (.int .i64 i9),.row l7] W10))∧
 (¬i9<(a0_0.2:Int)→
 ∀(s13:Sl) (W14:PW),
 Ext W10 W14→
 SX.Own W14 141 1 s13 l7→
 Fr W0 W10 s13→Aa1 Tryz.prog W0 M 77 [s13.v] W14 fun v15 W16=>∃s17:Sl,v15 = .agg ⟨[s17.v]⟩∧∀(W18:PW),Ext W16 W18→Post (.tuple ⟨[.agg ⟨[s17.v]⟩,.bool true]⟩) W18))
theorem Df0 (W0:PW) (M:Nat→Prop) (a0_0:Sl) (a1_0:Sl) (Post:Value→PW→Prop) (h:Fb2 W0 M a0_0 a1_0 Post):Aa0 Tryz.prog 75 [.agg #[a0_0.v],.agg #[a1_0.v]] W0 M Post:=
 Aa3 rfl Aa9 Aa8 Tryz.func75 (cuts:=[]) rfl rfl (Nat.le_of_ble_eq_true rfl) (Eq.mpr (by kernel_rfl) h)
def Ev2 (W0:PW) (M:Nat→Prop) (a0_0:Sl) (a1_0:Sl) (Post:Value→PW→Prop):Prop:=
 ∃(F1:List PL→PW→Prop),
 ∃(F2:List PL→PW→Nat),
 F1 [.cells [a0_0.v],.cells [a1_0.v]] W0∧
 ∀(s3 s4:Sl) (W5:PW),
 F1 [.cells [s3.v],.cells [s4.v]] W5→
 (2<(s4.2:Int)→
 Aa1 Tryz.prog W0 M 72 [.agg ⟨[s3.v]⟩,.agg ⟨[s4.v]⟩] W5 fun v6 W7=>
 ∃s8:Sl,∃s9:Sl,∃b10:Bool,v6 = .tuple ⟨[.agg ⟨[s8.v]⟩,.agg ⟨[s9.v]⟩,.bool b10]⟩∧stp F1 F2 [.cells [s4.v],.cells [s9.v]] W7 [.cells [s3.v],.cells [s4.v]] W5)∧
 (¬2<(s4.2:Int)→
 ((s4.2:Int)=0→∀(W11:PW),Ext W5 W11→Post (.agg ⟨[s3.v]⟩) W11)∧
 (¬(s4.2:Int)=0→
 Aa1 Tryz.prog W0 M 72 [.agg ⟨[s3.v]⟩,.agg ⟨[s4.v]⟩] W5 fun v12 W13=>
 ∃s14:Sl,
 ∃s15:Sl,
 ∃b16:Bool,
 v12 = .tuple ⟨[.agg ⟨[s14.v]⟩,.agg ⟨[s15.v]⟩,.bool b16]⟩∧
 Aa1 Tryz.prog W0 M 99 [.agg ⟨[s4.v]⟩] W13 fun v17 W18=>
 ∃i19:Int,
 v17 = .int .u64 i19∧
 Aa1 Tryz.prog W0 M 99 [.agg ⟨[s15.v]⟩] W18 fun v20 W21=>
 ∃i22:Int,
 v20 = .int .u64 i22∧
 ∃(F23:List PL→PW→Prop),
 ∃(F24:List PL→PW→Nat),
 F23 [.val (.int .u64 i19),.val (.int .u64 i22)] W21∧
 ∀(i25 i26:Int) (W27:PW),
 F23 [.val (.int .u64 i25),.val (.int .u64 i26)] W27→
 (i26≠0→i26≠0∧stp F23 F24 [.val (.int .u64 i26),.val (.int .u64 (Int.tmod i25 i26))] W27 [.val (.int .u64 i25),.val (.int .u64 i26)] W27)∧
 (¬i26≠0→Aa1 Tryz.prog W0 M 78 [.int .u64 i25] W27 fun v28 W29=>∃s30:Sl,v28 = .agg ⟨[s30.v]⟩∧∀(W31:PW),Ext W29 W31→Post (.agg ⟨[s30.v]⟩) W31)))
theorem Dg3 (W0:PW) (M:Nat→Prop) (a0_0:Sl) (a1_0:Sl) (Post:Value→PW→Prop) (h:Ev2 W0 M a0_0 a1_0 Post):Aa0 Tryz.prog 60 [.agg #[a0_0.v],.agg #[a1_0.v]] W0 M Post:=
 Aa3 rfl Aa9 Aa8 Tryz.func60 (cuts:=[]) rfl rfl (Nat.le_of_ble_eq_true rfl) (Eq.mpr (by kernel_rfl) h)
def Bk8 (W0:PW) (M:Nat→Prop) (a0_0:Sl) (Post:Value→PW→Prop):Prop:=
 ∃(F1:List PL→PW→Prop),
 ∃(F2:List PL→PW→Nat),
 F1 [.val (.int .u64 0),.val (.int .i64 0)] W0∧
 ∀(i3 i4:Int) (W5:PW),
 F1 [.val (.int .u64 i3),.val (.int .i64 i4)] W5→
 (i4<mn (a0_0.2:Int) 2→
 inB a0_0 i4∧
 ∃i6:Int,
 Aa7 W5 a0_0 1 (Int.toNat i4) 0 [.int .u32 i6]∧
 I64 (32*i4)∧
 ((0:Int)≤32*i4∧32*i4≤(↑(IntKind.bits .u64):Int))∧
 I64 (i4+1)∧
 stp F1 F2 [.val (.int .u64 (bits BinOp.or .u64 i3 (Bc5 .u64 (IntKind.wrap .u64 i6) (Int.toNat (32*i4))))),.val (.int .i64 (i4+1))] W5 [.val (.int .u64 i3),.val (.int .i64 i4)] W5)∧
 (¬i4<mn (a0_0.2:Int) 2→∀(W7:PW),Ext W5 W7→Post (.int .u64 i3) W7)
theorem Bv7 (W0:PW) (M:Nat→Prop) (a0_0:Sl) (Post:Value→PW→Prop) (h:Bk8 W0 M a0_0 Post):Aa0 Tryz.prog 99 [.agg #[a0_0.v]] W0 M Post:=
 Aa3 rfl Aa9 Aa8 Tryz.func99 (cuts:=[]) rfl rfl (Nat.le_of_ble_eq_true rfl) (Eq.mpr (by kernel_rfl) h)
def Cm0 (W0:PW) (M:Nat→Prop) (a0_0:Sl) (Post:Value→PW→Prop):Prop:=
 ((a0_0.2:Int)=0→∀(W1:PW),Ext W0 W1→Post (.int .i64 0) W1)∧
 (¬(a0_0.2:Int)=0→
 I64 ((a0_0.2:Int)-1)∧
 I64 (32*((a0_0.2:Int)-1))∧
 I64 ((a0_0.2:Int)-1)∧
 inB a0_0 ((a0_0.2:Int)-1)∧
 ∃i2:Int,
 Aa7 W0 a0_0 1 (Int.toNat ((a0_0.2:Int)-1)) 0 [.int .u32 i2]∧
 Aa1 Tryz.prog W0 M 98 [.int .u32 i2] W0 fun v3 W4=>∃i5:Int,v3 = .int .i64 i5∧I64 (32*((a0_0.2:Int)-1)+i5)∧∀(W6:PW),Ext W4 W6→Post (.int .i64 (32*((a0_0.2:Int)-1)+i5)) W6)
theorem Bn5 (W0:PW) (M:Nat→Prop) (a0_0:Sl) (Post:Value→PW→Prop) (h:Cm0 W0 M a0_0 Post):Aa0 Tryz.prog 59 [.agg #[a0_0.v]] W0 M Post:=
 Aa3 rfl Aa9 Aa8 Tryz.func59 (cuts:=[]) rfl rfl (Nat.le_of_ble_eq_true rfl) (Eq.mpr (by kernel_rfl) h)
def Ar5 (W0:PW) (M:Nat→Prop) (a0:Int) (Post:Value→PW→Prop):Prop:=
 Aa1 Tryz.prog W0 M 98 [.int .u32 a0] W0 fun v1 W2=>∃i3:Int,v1 = .int .i64 i3∧I64 (32-i3)∧∀(W4:PW),Ext W2 W4→Post (.int .i64 (32-i3)) W4
theorem Ao3 (W0:PW) (M:Nat→Prop) (a0:Int) (Post:Value→PW→Prop) (h:Ar5 W0 M a0 Post):Aa0 Tryz.prog 114 [.int .u32 a0] W0 M Post:=
 Aa3 rfl Aa9 Aa8 Tryz.func114 (cuts:=[]) rfl rfl (Nat.le_of_ble_eq_true rfl) (Eq.mpr (by kernel_rfl) h)
def Ee5 (W0:PW) (M:Nat→Prop) (a0:Sl) (a1:Int) (a2:Int) (Post:Value→PW→Prop):Prop:=
 ∃(F1:List PL→PW→Prop),
 ∃(F2:List PL→PW→Nat),
 F1 [.val (.int .u64 (IntKind.wrap .u64 a2)),.val (.int .i64 0)] W0∧
 ∀(i3 i4:Int) (W5:PW),
 F1 [.val (.int .u64 i3),.val (.int .i64 i4)] W5→
 (i4<(a0.2:Int)→
 inB a0 i4∧
 ∃i6:Int,
 Aa7 W5 a0 1 (Int.toNat i4) 0 [.int .u32 i6]∧
 inB a0 i4∧
 An9 W0 M a0 (Int.toNat i4*1+0) [.int .u32 (IntKind.wrap .u32 (IntKind.wrap .u64 (i3+IntKind.wrap .u64 (IntKind.wrap .u64 i6*IntKind.wrap .u64 a1))))] W5 fun(W7:PW)=>
 I64 (i4+1)∧
 stp F1 F2 [.val (.int .u64 (Ah0 (IntKind.wrap .u64 (i3+IntKind.wrap .u64 (IntKind.wrap .u64 i6*IntKind.wrap .u64 a1))) 32)),.val (.int .i64 (i4+1))] W7
 [.val (.int .u64 i3),.val (.int .i64 i4)] W5)∧
 (¬i4<(a0.2:Int)→(0<i3→Es7 W0 M 141 1 4 a0 [[.int .u32 (IntKind.wrap .u32 i3)]] W5 fun(s8:Sl) (W9:PW)=>∀(W10:PW),Ext W9 W10→Post s8.v W10)∧(¬0<i3→∀(W11:PW),Ext W5 W11→Post a0.v W11))
theorem Db4 (W0:PW) (M:Nat→Prop) (a0:Sl) (a1:Int) (a2:Int) (Post:Value→PW→Prop) (h:Ee5 W0 M a0 a1 a2 Post):Aa0 Tryz.prog 97 [a0.v,.int .u32 a1,.int .u32 a2] W0 M Post:=
 Aa3 rfl Aa9 Aa8 Tryz.func97 (cuts:=[]) rfl rfl (Nat.le_of_ble_eq_true rfl) (Eq.mpr (by kernel_rfl) h)
end Go.Proofs.YtahohahjnhfedaaGreatDoor
