import Derived.Test.YtkgeopnakkcdoaaGreatDoorTt
set_option linter.unusedVariables false
set_option linter.unusedSimpArgs false
set_option maxRecDepth 100000
namespace Go.Proofs.YtkgeopnakkcdoaaGreatDoor
open Go Go.SX
section
variable {W0:PW} {M:Nat->Prop} {Post:Value->PW->Prop} {p0 p1 p2 p3 p4 p5 p6:Sl} {q0 q1 q2:Bool} {k0:Int}
theorem Gq4 (h:lp [PL.val (Value.int .i64 0),PL.cells [Value.slice none 0 0,Value.bool false,Value.slice none 0 0]] W0 λ l m=>∀(s3:Sl) (b:Bool) (c:Sl) i6 a,nx l m [PL.val (Value.int .i64 i6),PL.cells [s3.v,Value.bool b,c.v]] a λ n=>iP (i6<(p0.2:Int)) (l8 a p0 6 i6 0 λ i8 i9 i10 o p q=>lp [PL.val (Value.int .i64 0),PL.cells [o.v,Value.bool p,q.v]] a λ r s=>∀(d:Sl) (e:Bool) (f:Sl) i19 g,nx r s [PL.val (Value.int .i64 i19),PL.cells [d.v,Value.bool e,f.v]] g λ t=>iP (i19<3) ((0<=i19/\i19<3)/\∃i21:Int,List.take 1 (List.drop (Int.toNat i19*1) [Value.int .u8 i8,Value.int .u8 i9,Value.int .u8 i10]) = [Value.int .u8 i21]/\(0<=i19/\i19<3)/\∃(i:Sl) (j:Bool) (k:Sl),As9 [p1.v,Value.bool q0,p2.v,p3.v,Value.bool q1,p4.v,p5.v,Value.bool q2,p6.v] (0+Int.toNat i19*3+0) [i.v,Value.bool j,k.v]/\I64 i21/\c11 W0 M 87 [Value.agg ⟨[i.v,Value.bool j,k.v]⟩,Value.int .i64 i21] g λ u v w x=>c11 W0 M 61 [Value.agg ⟨[d.v,Value.bool e,f.v]⟩,Value.agg ⟨[u.v,Value.bool v,w.v]⟩] x λ y z A B=>I64 (i19+1)/\t [PL.val (Value.int .i64 (i19+1)),PL.cells [y.v,Value.bool z,A.v]] B) (c11 W0 M 82 [Value.agg ⟨[s3.v,Value.bool b,c.v]⟩,Value.agg ⟨[d.v,Value.bool e,f.v]⟩] g λ C D E F=>I64 (i6+1)/\n [PL.val (Value.int .i64 (i6+1)),PL.cells [C.v,Value.bool D,E.v]] F)) (rt Post a (Value.agg ⟨[s3.v,Value.bool b,c.v]⟩))):Aa0 Tryz.prog 28 [Value.agg #[p0.v],Value.agg #[p1.v,Value.bool q0,p2.v,p3.v,Value.bool q1,p4.v,p5.v,Value.bool q2,p6.v]] W0 M Post:=fns Tryz.func28 h
end
end Go.Proofs.YtkgeopnakkcdoaaGreatDoor
namespace Go.Proofs.YtkgeopnakkcdoaaGreatDoor
open Go Go.SX
section
variable {W0:PW} {M:Nat->Prop} {Post:Value->PW->Prop} {p0:Sl} {k0 k1 k2:Int}
theorem Cn0 (h:lp [.val (.int .i64 0),.val (.int .i64 0)] W0 λ b c=>∀i3 i4 a,nx b c [.val (.int .i64 i3),.val (.int .i64 i4)] a λ d=>iP (i4<(p0.2:Int)) (l8 a p0 6 i4 0 λ i6 i7 i8 f g i=>c9 W0 M 221 [.agg ⟨[.int .u8 i6,.int .u8 i7,.int .u8 i8]⟩] a λ i14 e=>I64 (i4+1)/\d [.val (.int .i64 (mx i3 i14)),.val (.int .i64 (i4+1))] e) (rt Post a (.int .i64 i3))):Aa0 Tryz.prog 166 [.agg #[p0.v]] W0 M Post:=fns Tryz.func166 h
end
end Go.Proofs.YtkgeopnakkcdoaaGreatDoor
namespace Go.Proofs.YtkgeopnakkcdoaaGreatDoor
open Go Go.SX
section
variable {W0:PW} {M:Nat->Prop} {Post:Value->PW->Prop} {p0 p1 p2:Sl} {q0:Bool}
end
end Go.Proofs.YtkgeopnakkcdoaaGreatDoor
namespace Go.Proofs.YtkgeopnakkcdoaaGreatDoor
open Go Go.SX
section
variable {W0:PW} {M:Nat->Prop} {Post:Value->PW->Prop} {p0:Sl} {k0:Int}
end
end Go.Proofs.YtkgeopnakkcdoaaGreatDoor
namespace Go.Proofs.YtkgeopnakkcdoaaGreatDoor
open Go Go.SX
section
variable {W0:PW} {M:Nat->Prop} {Post:Value->PW->Prop} {q0:Bool} {p0 p1:Sl}
end
end Go.Proofs.YtkgeopnakkcdoaaGreatDoor
