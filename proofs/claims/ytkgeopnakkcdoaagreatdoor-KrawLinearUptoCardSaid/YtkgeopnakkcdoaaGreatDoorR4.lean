import Derived.Test.YtkgeopnakkcdoaaGreatDoorTt
set_option linter.unusedVariables false
set_option linter.unusedSimpArgs false
set_option maxRecDepth 100000
namespace Go.Proofs.YtkgeopnakkcdoaaGreatDoor
open Go Go.SX
section
variable {W0:PW} {M:Nat->Prop} {Post:Value->PW->Prop} {p0 p1:Sl} {q0:Bool}
theorem Gg3 (h:lp [.val (.int .i64 0)] W0 λ b c=>∀i3 a,nx b c [.val (.int .i64 i3)] a λ d=>iP (i3<(p0.2:Int)) (l1 a p0 1 i3 0 λ e=>inB p0 0/\m19 a p0 1 0 0 λ f=>iP ((e.2:Int)≠(f.2:Int)) (rt Post a (.bool false)) (I64 (i3+1)/\d [.val (.int .i64 (i3+1))] a)) (iP (1<=(p0.2:Int)) (iP ((p0.2:Int)<=12) (inB p0 0/\m19 a p0 1 0 0 λ g=>iP (1<=(g.2:Int)) (inB p0 0/\m19 a p0 1 0 0 λ i=>rt Post a (.bool (decide ((i.2:Int)<=12)))) (rt Post a (.bool false))) (rt Post a (.bool false))) (rt Post a (.bool false)))):Aa0 Tryz.prog 135 [p0.v] W0 M Post:=fns Tryz.func135 h
theorem Gn6 (h:c2 W0 M 135 [p0.v] W0 λ i c=>iB (!i) (rt Post c (.tuple ⟨[.slice none 0 0,.int .i64 1]⟩)) (inB p0 0/\m19 c p0 1 0 0 λ j=>c7 W0 M 93 [.int .i64 (p0.2:Int),.int .i64 (j.2:Int)] c λ e k=>lp [.val (.int .i64 0)] k λ l m=>∀i11 a,nx l m [.val (.int .i64 i11)] a λ n=>iP (i11<(p0.2:Int)) (l1 a p0 1 i11 0 λ f=>lp [.val (.int .i64 0)] a λ o p=>∀i16 b,nx o p [.val (.int .i64 i16)] b λ q=>iP (i16<(f.2:Int)) (l0 b f 1 i16 0 λ t18=>c28 W0 M 32 [.string t18] b λ r s t i24 d=>iP (i24≠0) (rt Post d (.tuple ⟨[.slice none 0 0,.int .i64 i24]⟩)) (l1 d e 1 i11 0 λ g=>inB g i16/\An9 W0 M g (Int.toNat i16*3+0) [r.v,.bool s,t.v] d λ(u:PW)=>I64 (i16+1)/\q [.val (.int .i64 (i16+1))] u)) (I64 (i11+1)/\n [.val (.int .i64 (i11+1))] b)) (rt Post a (.tuple ⟨[e.v,.int .i64 0]⟩)))):Aa0 Tryz.prog 53 [p0.v] W0 M Post:=fns Tryz.func53 h
end
end Go.Proofs.YtkgeopnakkcdoaaGreatDoor
namespace Go.Proofs.YtkgeopnakkcdoaaGreatDoor
open Go Go.SX
section
variable {W0:PW} {M:Nat->Prop} {Post:Value->PW->Prop} {p0:Sl}
end
end Go.Proofs.YtkgeopnakkcdoaaGreatDoor
namespace Go.Proofs.YtkgeopnakkcdoaaGreatDoor
open Go Go.SX
section
variable {W0:PW} {M:Nat->Prop} {Post:Value->PW->Prop} {p0 p1 p2 p3:Sl} {q0 q1:Bool} {k0:Int}
theorem Cz3 (h:rt Post W0 (.agg ⟨[.bool false,p0.v]⟩)):Aa0 Tryz.prog 152 [p0.v] W0 M Post:=fns Tryz.func152 h
theorem Cq5 (h:iP ((p1.2:Int)=0) (c7 W0 M 156 [.int .u64 1] W0 λ s3 a=>rt Post a s3.v) (rt Post W0 p1.v)):Aa0 Tryz.prog 154 [.agg #[.bool q0,p0.v,p1.v]] W0 M Post:=fns Tryz.func154 h
theorem Bt6 (h:I64 ((p0.2:Int)+(p1.2:Int))/\I64 ((p0.2:Int)+(p1.2:Int)+1)/\((p0.2:Int)+(p1.2:Int)+1=(p0.2:Int)+(p1.2:Int)+1/\0<=(p0.2:Int)+(p1.2:Int)+1/\((p0.2:Int)+(p1.2:Int)+1)*(↑(4:Nat):Int)<=281474976710656)/\lp [.val (.int .i64 0),.row (List.replicate ((p0.2:Int)+(p1.2:Int)+1).toNat [.int .u32 0])] W0 λ e f=>∀l3 i4 b,nx e f [.val (.int .i64 i4),.row l3] b λ g=>iP (i4<(p0.2:Int)) (lp [.val (.int .u64 0),.val (.int .i64 0),.row l3] b λ i j=>∀l8 i9 i10 a,nx i j [.val (.int .u64 i9),.val (.int .i64 i10),.row l8] a λ k=>iP (i10<(p1.2:Int)) (l43 a p0 1 i4 0 λ i12=>l43 a p1 1 i10 0 λ i13=>I64 (i4+i10)/\(0<=i4+i10/\i4+i10<(l8.length:Int))/\∃i14:Int,Ck3 l8 (i4+i10).toNat 0 [.int .u32 i14]/\I64 (i4+i10)/\(0<=i4+i10/\i4+i10<(l8.length:Int))/\Int.toNat (i4+i10)<l8.length/\I64 (i10+1)/\k [.val (.int .u64 (Ah0 (IntKind.wrap .u64 (i9+IntKind.wrap .u64 (IntKind.wrap .u64 (IntKind.wrap .u64 i12*IntKind.wrap .u64 i13)+IntKind.wrap .u64 i14))) 32)),.val (.int .i64 (i10+1)),.row (List.set l8 (i4+i10).toNat [.int .u32 (IntKind.wrap .u32 (bits BinOp.and .u64 (IntKind.wrap .u64 (i9+IntKind.wrap .u64 (IntKind.wrap .u64 (IntKind.wrap .u64 i12*IntKind.wrap .u64 i13)+IntKind.wrap .u64 i14))) 4294967295))])] a) (I64 (i4+(p1.2:Int))/\(0<=i4+(p1.2:Int)/\i4+(p1.2:Int)<(l8.length:Int))/\Int.toNat (i4+(p1.2:Int))<l8.length/\I64 (i4+1)/\g [.val (.int .i64 (i4+1)),.row (List.set l8 (i4+(p1.2:Int)).toNat [.int .u32 (IntKind.wrap .u32 i9)])] a)) (∀(c:Sl) (d:PW),Ext b d->SX.Own d 257 1 c l3->Fr W0 b c->c7 W0 M 215 [c.v] d λ l m=>rt Post m l.v)):Aa0 Tryz.prog 153 [p0.v,p1.v] W0 M Post:=fns Tryz.func153 h
theorem Bq1 (h:c7 W0 M 153 [p0.v,p1.v] W0 λ s3 a=>c52 W0 M 214 [.bool (decide (q0≠q1)),s3.v] a λ b c d=>rt Post d (.agg ⟨[.bool b,c.v]⟩)):Aa0 Tryz.prog 151 [.agg #[.bool q0,p0.v],.agg #[.bool q1,p1.v]] W0 M Post:=fns Tryz.func151 h
theorem Bv0 (h:iP (q0=q1) (c7 W0 M 249 [p0.v,p1.v] W0 λ s3 b=>c52 W0 M 214 [.bool q0,s3.v] b λ c d e=>rt Post e (.agg ⟨[.bool c,d.v]⟩)) (c9 W0 M 200 [p0.v,p1.v] W0 λ i11 a=>iP (0<=i11) (c7 W0 M 250 [p0.v,p1.v] a λ f g=>c52 W0 M 214 [.bool q0,f.v] g λ i j k=>rt Post k (.agg ⟨[.bool i,j.v]⟩)) (c7 W0 M 250 [p1.v,p0.v] a λ l m=>c52 W0 M 214 [.bool q1,l.v] m λ n o p=>rt Post p (.agg ⟨[.bool n,o.v]⟩)))):Aa0 Tryz.prog 211 [.agg #[.bool q0,p0.v],.agg #[.bool q1,p1.v]] W0 M Post:=fns Tryz.func211 h
theorem Bs2 (h:c52 W0 M 212 [.agg ⟨[.bool q1,p1.v]⟩] W0 λ a s4 b=>c52 W0 M 211 [.agg ⟨[.bool q0,p0.v]⟩,.agg ⟨[.bool a,s4.v]⟩] b λ c d e=>rt Post e (.agg ⟨[.bool c,d.v]⟩)):Aa0 Tryz.prog 242 [.agg #[.bool q0,p0.v],.agg #[.bool q1,p1.v]] W0 M Post:=fns Tryz.func242 h
theorem By7 (h:c52 W0 M 242 [.agg ⟨[.bool q0,p0.v]⟩,.agg ⟨[.bool q1,p1.v]⟩] W0 λ a s4 b=>c9 W0 M 15 [.agg ⟨[.bool a,s4.v]⟩] b λ i7 c=>rt Post c (.int .i64 i7)):Aa0 Tryz.prog 194 [.agg #[.bool q0,p0.v],.agg #[.bool q1,p1.v]] W0 M Post:=fns Tryz.func194 h
theorem Bw5 (h:c52 W0 M 214 [.bool !q0,p0.v] W0 λ a s4 b=>rt Post b (.agg ⟨[.bool a,s4.v]⟩)):Aa0 Tryz.prog 212 [.agg #[.bool q0,p0.v]] W0 M Post:=fns Tryz.func212 h
theorem Bn3 (h:iB q0 (rt Post W0 (.agg ⟨[.bool (decide (0<(p0.2:Int))),p0.v]⟩)) (rt Post W0 (.agg ⟨[.bool false,p0.v]⟩))):Aa0 Tryz.prog 214 [.bool q0,p0.v] W0 M Post:=fns Tryz.func214 h
theorem Cn4 (h:iP ((p0.2:Int)=0) (rt Post W0 (.int .i64 0)) (iB q0 (rt Post W0 (.int .i64 (-1:Int))) (rt Post W0 (.int .i64 1)))):Aa0 Tryz.prog 15 [.agg #[.bool q0,p0.v]] W0 M Post:=fns Tryz.func15 h
theorem Bs0 (h:c7 W0 M 154 [.agg ⟨[.bool q1,p2.v,p3.v]⟩] W0 λ s3 a=>c52 W0 M 152 [s3.v] a λ b c d=>c52 W0 M 151 [.agg ⟨[.bool q0,p0.v]⟩,.agg ⟨[.bool b,c.v]⟩] d λ e f g=>c7 W0 M 154 [.agg ⟨[.bool q0,p0.v,p1.v]⟩] g λ i j=>c52 W0 M 152 [i.v] j λ k l m=>c52 W0 M 151 [.agg ⟨[.bool q1,p2.v]⟩,.agg ⟨[.bool k,l.v]⟩] m λ n o p=>c9 W0 M 194 [.agg ⟨[.bool e,f.v]⟩,.agg ⟨[.bool n,o.v]⟩] p λ i25 q=>rt Post q (.int .i64 i25)):Aa0 Tryz.prog 131 [.agg #[.bool q0,p0.v,p1.v],.agg #[.bool q1,p2.v,p3.v]] W0 M Post:=fns Tryz.func131 h
end
end Go.Proofs.YtkgeopnakkcdoaaGreatDoor
namespace Go.Proofs.YtkgeopnakkcdoaaGreatDoor
open Go Go.SX
section
variable {W0:PW} {M:Nat->Prop} {Post:Value->PW->Prop} {p0 p1 p2 p3:Sl} {q0 q1:Bool}
end
end Go.Proofs.YtkgeopnakkcdoaaGreatDoor
