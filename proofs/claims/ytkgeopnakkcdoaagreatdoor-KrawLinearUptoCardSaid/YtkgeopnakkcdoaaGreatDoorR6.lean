import Derived.Test.YtkgeopnakkcdoaaGreatDoorTt
set_option linter.unusedVariables false
set_option linter.unusedSimpArgs false
set_option maxRecDepth 100000
namespace Go.Proofs.YtkgeopnakkcdoaaGreatDoor
open Go Go.SX
section
variable {W0:PW} {M:Nat->Prop} {Post:Value->PW->Prop} {k0 k1 k2 k3 k4 k5:Int} {p0 p1 p2:Sl} {q0:Bool}
end
end Go.Proofs.YtkgeopnakkcdoaaGreatDoor
namespace Go.Proofs.YtkgeopnakkcdoaaGreatDoor
open Go Go.SX
section
variable {W0:PW} {M:Nat->Prop} {Post:Value->PW->Prop} {p0 p1:Sl} {k0 k1 k2:Int}
end
end Go.Proofs.YtkgeopnakkcdoaaGreatDoor
namespace Go.Proofs.YtkgeopnakkcdoaaGreatDoor
open Go Go.SX
section
variable {W0:PW} {M:Nat->Prop} {Post:Value->PW->Prop} {p0 p1 p2:Sl} {q0:Bool} {k0:Int}
theorem Ai9 (h:iP (p0.1=none) (rt Post W0 (.slice none 0 0)) (∃a:List (List Value),Bf9 W0 6 p0 a/\(0+a.length)*64<=140737488355328/\∀(s3:Sl) (b:PW),Ext W0 b->SX.Own b 169 6 s3 ([] ++ a)->Fr W0 W0 s3->rt Post b s3.v)):Aa0 Tryz.prog 180 [p0.v] W0 M Post:=fns Tryz.func180 h
theorem Bc4 (h:c7 W0 M 180 [p0.v] W0 λ s3 a=>rt Post a s3.v):Aa0 Tryz.prog 103 [.agg #[p0.v]] W0 M Post:=fns Tryz.func103 h
theorem Gk3 (h:∀(s1:Sl) (a:PW),Ext W0 a->SX.Own a 169 6 s1 [[.int .u8 0,.int .u8 0,.int .u8 0,p0.v,.bool q0,p1.v]]->Fr W0 W0 s1->c17 W0 M 100 [s1.v] a λ b c=>rt Post c (.agg ⟨[b.v]⟩)):Aa0 Tryz.prog 33 [.agg #[p0.v,.bool q0,p1.v]] W0 M Post:=fns Tryz.func33 h
theorem Ct2 (h:iP (k0<0) (rt Post W0 (.agg ⟨[.slice none 0 0]⟩)) (iP (3<=k0) (rt Post W0 (.agg ⟨[.slice none 0 0]⟩)) ((0<=k0/\k0<3)/\Int.toNat k0<3/\((True/\(Int.toNat k0=0->c11 W0 M 81 [.int .i64 1] W0 λ k l m g=>∀(a:Sl) (b:PW),Ext g b->SX.Own b 169 6 a [[.int .u8 1,.int .u8 0,.int .u8 0,k.v,.bool l,m.v]]->Fr W0 g a->c17 W0 M 100 [a.v] b λ n o=>rt Post o (.agg ⟨[n.v]⟩)))/\(Int.toNat k0=1->c11 W0 M 81 [.int .i64 1] W0 λ p q r i=>∀(c:Sl) (d:PW),Ext i d->SX.Own d 169 6 c [[.int .u8 0,.int .u8 1,.int .u8 0,p.v,.bool q,r.v]]->Fr W0 i c->c17 W0 M 100 [c.v] d λ s t=>rt Post t (.agg ⟨[s.v]⟩)))/\(Int.toNat k0=2->c11 W0 M 81 [.int .i64 1] W0 λ u v w j=>∀(e:Sl) (f:PW),Ext j f->SX.Own f 169 6 e [[.int .u8 0,.int .u8 0,.int .u8 1,u.v,.bool v,w.v]]->Fr W0 j e->c17 W0 M 100 [e.v] f λ x y=>rt Post y (.agg ⟨[x.v]⟩))))):Aa0 Tryz.prog 37 [.int .i64 k0] W0 M Post:=fns Tryz.func37 h
theorem Cw7 (h:∀(s1:Sl) (a:PW),Ext W0 a->SX.Own a 65 1 s1 [[p0.v],[p1.v]]->Fr W0 W0 s1->c7 W0 M 102 [s1.v] a λ b c=>c17 W0 M 100 [b.v] c λ d e=>rt Post e (.agg ⟨[d.v]⟩)):Aa0 Tryz.prog 35 [.agg #[p0.v],.agg #[p1.v]] W0 M Post:=fns Tryz.func35 h
theorem Cs5 (h:c11 W0 M 81 [.int .i64 (-1:Int)] W0 λ s3 a b c=>c17 W0 M 36 [.agg ⟨[p1.v]⟩,.agg ⟨[s3.v,.bool a,b.v]⟩] c λ d e=>c17 W0 M 35 [.agg ⟨[p0.v]⟩,.agg ⟨[d.v]⟩] e λ f g=>rt Post g (.agg ⟨[f.v]⟩)):Aa0 Tryz.prog 55 [.agg #[p0.v],.agg #[p1.v]] W0 M Post:=fns Tryz.func55 h
theorem Cb6 (h:c7 W0 M 103 [.agg ⟨[p0.v]⟩] W0 λ s3 b=>lp [.val (.int .i64 0)] b λ c d=>∀i6 a,nx c d [.val (.int .i64 i6)] a λ e=>iP (i6<(s3.2:Int)) (l21 a s3 6 i6 3 λ f g i=>c11 W0 M 61 [.agg ⟨[f.v,.bool g,i.v]⟩,.agg ⟨[p1.v,.bool q0,p2.v]⟩] a λ j k l m=>inB s3 i6/\An9 W0 M s3 (Int.toNat i6*6+3) [j.v,.bool k,l.v] m λ(n:PW)=>I64 (i6+1)/\e [.val (.int .i64 (i6+1))] n) (c17 W0 M 100 [s3.v] a λ o p=>rt Post p (.agg ⟨[o.v]⟩))):Aa0 Tryz.prog 36 [.agg #[p0.v],.agg #[p1.v,.bool q0,p2.v]] W0 M Post:=fns Tryz.func36 h
theorem Ai2 (h:lp [.val (.int .i64 0),.val (.int .i64 0)] W0 λ f g=>∀i3 i4 b,nx f g [.val (.int .i64 i3),.val (.int .i64 i4)] b λ i=>iP (i4<(p0.2:Int)) (l1 b p0 1 i4 0 λ c=>I64 (i3+(c.2:Int))/\iP (i3+(c.2:Int)<0) False (I64 (i4+1)/\i [.val (.int .i64 (i3+(c.2:Int))),.val (.int .i64 (i4+1))] b)) (c7 W0 M 179 [.slice none 0 0,.int .i64 i3] b λ j k=>lp [.val j.v,.val (.int .i64 0)] k λ l m=>∀(d:Sl) i13 a,nx l m [.val d.v,.val (.int .i64 i13)] a λ n=>iP (i13<(p0.2:Int)) (l1 a p0 1 i13 0 λ o=>∃e:List (List Value),Bf9 a 6 o e/\Es7 W0 M 169 6 64 d e a λ(p:Sl) (q:PW)=>I64 (i13+1)/\n [.val p.v,.val (.int .i64 (i13+1))] q) (rt Post a d.v))):Aa0 Tryz.prog 102 [p0.v] W0 M Post:=fns Tryz.func102 h
end
end Go.Proofs.YtkgeopnakkcdoaaGreatDoor
namespace Go.Proofs.YtkgeopnakkcdoaaGreatDoor
open Go Go.SX
section
variable {W0:PW} {M:Nat->Prop} {Post:Value->PW->Prop} {p0 p1:Sl}
end
end Go.Proofs.YtkgeopnakkcdoaaGreatDoor
namespace Go.Proofs.YtkgeopnakkcdoaaGreatDoor
open Go Go.SX
section
variable {W0:PW} {M:Nat->Prop} {Post:Value->PW->Prop} {p0:Sl} {k0:Int}
theorem Hh0 (h:iP (k0<0) (rt Post W0 (.agg ⟨[.slice none 0 0]⟩)) (iP (3<=k0) (rt Post W0 (.agg ⟨[.slice none 0 0]⟩)) (lp [.row [],.val (.int .i64 0)] W0 λ s t=>∀a i6 b,nx s t [.row a,.val (.int .i64 i6)] b λ f=>iP (i6<(p0.2:Int)) (l8 b p0 6 i6 0 λ i8 i9 i10 c d e=>(0<=k0/\k0<3)/\∃i14:Int,As9 [.int .u8 i8,.int .u8 i9,.int .u8 i10,c.v,.bool d,e.v] (0+Int.toNat k0*1+0) [.int .u8 i14]/\iP (0<i14) ((0<=k0/\k0<3)/\∃i15:Int,As9 [.int .u8 i8,.int .u8 i9,.int .u8 i10,c.v,.bool d,e.v] (0+Int.toNat k0*1+0) [.int .u8 i15]/\(0<=k0/\k0<3)/\Int.toNat k0<3/\((True/\(Int.toNat k0=0->I64 i14/\c11 W0 M 81 [.int .i64 i14] b λ u v w x=>c11 W0 M 61 [.agg ⟨[c.v,.bool d,e.v]⟩,.agg ⟨[u.v,.bool v,w.v]⟩] x λ j k l y=>(a.length+List.length [[.int .u8 (IntKind.wrap .u8 (i15-1)),.int .u8 i9,.int .u8 i10,j.v,.bool k,l.v]])*64<=140737488355328/\I64 (i6+1)/\f [.row (a ++ [[.int .u8 (IntKind.wrap .u8 (i15-1)),.int .u8 i9,.int .u8 i10,j.v,.bool k,l.v]]),.val (.int .i64 (i6+1))] y))/\(Int.toNat k0=1->I64 i14/\c11 W0 M 81 [.int .i64 i14] b λ z A B C=>c11 W0 M 61 [.agg ⟨[c.v,.bool d,e.v]⟩,.agg ⟨[z.v,.bool A,B.v]⟩] C λ m n o D=>(a.length+List.length [[.int .u8 i8,.int .u8 (IntKind.wrap .u8 (i15-1)),.int .u8 i10,m.v,.bool n,o.v]])*64<=140737488355328/\I64 (i6+1)/\f [.row (a ++ [[.int .u8 i8,.int .u8 (IntKind.wrap .u8 (i15-1)),.int .u8 i10,m.v,.bool n,o.v]]),.val (.int .i64 (i6+1))] D))/\(Int.toNat k0=2->I64 i14/\c11 W0 M 81 [.int .i64 i14] b λ E F G H=>c11 W0 M 61 [.agg ⟨[c.v,.bool d,e.v]⟩,.agg ⟨[E.v,.bool F,G.v]⟩] H λ p q r I=>(a.length+List.length [[.int .u8 i8,.int .u8 i9,.int .u8 (IntKind.wrap .u8 (i15-1)),p.v,.bool q,r.v]])*64<=140737488355328/\I64 (i6+1)/\f [.row (a ++ [[.int .u8 i8,.int .u8 i9,.int .u8 (IntKind.wrap .u8 (i15-1)),p.v,.bool q,r.v]]),.val (.int .i64 (i6+1))] I)) (I64 (i6+1)/\f [.row a,.val (.int .i64 (i6+1))] b)) (∀(g:Sl) (i:PW),Ext b i->SX.Own i 169 6 g a->Fr W0 b g->c17 W0 M 100 [g.v] i λ J K=>rt Post K (.agg ⟨[J.v]⟩))))):Aa0 Tryz.prog 67 [.agg #[p0.v],.int .i64 k0] W0 M Post:=fns Tryz.func67 h
end
end Go.Proofs.YtkgeopnakkcdoaaGreatDoor
