import Derived.Test.YtkgeopnakkcdoaaGreatDoorW1
import Derived.RangeFuncBox
import Derived.RangeFuncLeaves
import Derived.Shelf.Abstract
import Derived.WalkKit
import Derived.OwnWalkIn
import Derived.TacticsInMore
import Derived.LoopNIn
import Derived.LoopIn
import Derived.Test.YtkgeopnakkcdoaaGreatDoorLib2
set_option linter.unusedVariables false
set_option linter.unusedSimpArgs false
set_option maxRecDepth 100000
namespace Go.Proofs.YtkgeopnakkcdoaaGreatDoor
open Go Go.SX
variable {i:Nat}{l r:List Nat}
def Fm4 (us vs:List Nat) (m g o:Nat) (cs:Array Value) (W0:PW) (l:List PL) (W:PW):Prop:=
 match l with
 | [.val (.int .i64 i),.row xs]=>∃(j:Nat) (ws zs:List Nat),i=(j:Int)-1/\xs=cel zs/\j<=m/\Aq5 W0 W g cs 257 o (cv ws)/\ws.length=us.length/\Dig ws/\zs.length=m/\Dig zs/\
   val (ws.drop j)<val vs/\val us=val ws+B^j*(val vs*val (zs.drop j))
 | _=>False
def Fg9 (l:List PL) (W:PW):Nat:=
 match l with
 | [.val (.int .i64 i),_]=>(i+1).toNat
 | _=>0
def Fs7 (A b R vs:List Nat) (g o:Nat) (cs:Array Value) (W0:PW) (l:List PL) (W:PW):Prop:=
 match l with
 | [.val (.int .u64 c),.val (.int .i64 i)]=>∃(e a:Nat) (T:List Nat),c=(e:Int)/\i=(a:Int)/\a<=vs.length/\Aq5 W0 W g cs 257 o (cv (A ++ T ++ R))/\T.length=b.length/\Dig T/\T.drop a=b.drop a/\
   val (T.take a)+B^a*e=val (b.take a)+val (vs.take a)/\e<=1
 | _=>False
def Fp3 (vs:List Nat) (l:List PL) (W:PW):Nat:=
 match l with
 | [_,.val (.int .i64 i)]=>vs.length-i.toNat
 | _=>0
theorem Ev0 {a:Nat}{b:Nat}{V:Nat}{q:Nat}{β:Nat}{z:Nat}{r:Nat}:a+b*(r+V*q)+b*β*(V*z)=a+b*r+b*(V*(q+β*z)):=by grind
theorem Dr0 (h:l.drop i=r.drop i):l[i]?=r[i]?:=by
 have:=congrArg (λ l=>l[0]?) h
 simpa using this
theorem Eq2 (h:l.drop i=r.drop i):l.drop (i+1)=r.drop (i+1):=by
 have:=congrArg (List.drop 1) h
 simpa[List.drop_drop] using this
theorem Ea3 {W0:PW}{u:Sl}{us:List Nat}{vs:List Nat}{g:Nat}{o:Nat}{cs:Array Value}{v:Sl}(hm:Mut W0 257 u g o cs us)(bU: ∀g',g'=g->True)(O:Ad4 257 W0 v vs)(P: ∀a:Addr,v.A=Option.some a->a.block≠g)(hl:vs.length<=us.length)(C:2<=vs.length)(bd:Dig us)(Q:Dig vs)(ht: ∀h:vs.length-1<vs.length,vs[vs.length-1]≠0)(aG:val (us.drop (us.length-vs.length))<val vs)(hb:us.length<=549755813888):
  Aa0 Tryz.prog 228 [u.v,v.v] W0 (λ b=>b=g) λ r W'=>∃(s':Sl) (ws zs:List Nat),r=s'.v/\Go.SX.Own W' 257 1 s' (cel zs)/\Aq4 W0 s'/\zs.length=us.length-vs.length/\Dig zs/\ws.length=us.length/\Dig ws/\Aq5 W0 W' g cs 257 o (cv ws)/\
   val us=val ws+val vs*val zs/\val ws<val vs:=by
 apply Cv2;have hn:=O.n;have bY:=hm.n;have bZ:=hm.nc;obtain⟨m,b0⟩: ∃m,us.length=m+vs.length:=⟨us.length-vs.length,by omega⟩;have bf:us.length-vs.length=m:=by omega
 rw[bf] at aG⊢;obtain⟨n,bg⟩: ∃n,vs.length=n:=⟨_,rfl⟩;have bh:(u.n:Int)=((m+n:Nat):Int):=by omega
 have bi:(v.n:Int)=(n:Int):=by omega
 have ai:may W0 (λ b=>b=g) g:=.inl rfl;have bj:TyI.size Mk6=1:=rfl;simp only[bh,bi,bj];refine⟨by unfold I64;omega,⟨trivial,by omega,by omega⟩,by unfold I64;omega,by unfold I64;omega,Fm4 us vs m g o cs W0,Fg9,?_,?_⟩
 ·refine⟨m,us,List.replicate m 0,by push_cast;omega,?_,Nat.le_refl _,hm.start (Ext.refl _),rfl,bd,by simp,λ d hd=>?_,aG,by simp[val]⟩
  ·rw[show Int.toNat (((m+n:Nat):Int)-(n:Int))=m by omega];exact Ae3 _
  ·rw[(List.mem_replicate.1 hd).2];decide
 rintro l3 i4 W5 ⟨j,ws,zs,rfl,rfl,hj,U,aI,F,aJ,aK,aL,aM⟩;have aN:Ad4 257 W5 v vs:=Row.other O U.ext λ a G=>P a G;refine⟨λ b2=>?_,λ aO bl b3 bm hO hf b4 aP=>?_⟩
 ·obtain⟨p,rfl⟩: ∃p,j=p+1:=⟨j-1,by omega⟩
  have ep:((p+1:Nat):Int)-1=(p:Int):=by omega
  have bp:(p:Int)+(n:Int)+1=((p+n+1:Nat):Int):=by omega
  have bq:(p:Int)+(n:Int)=((p+n:Nat):Int):=by omega
  rw[ep,bp,bq,show Int.toNat (p:Int)=p from rfl,show Int.toNat ((p+n+1:Nat):Int)=p+n+1 from rfl,show Int.toNat ((p+n:Nat):Int)=p+n from rfl];obtain⟨A,V⟩: ∃A,ws.take p=A:=⟨_,rfl⟩;obtain⟨S,X⟩: ∃S,(ws.take (p+n+1)).drop p=S:=⟨_,rfl⟩;obtain⟨R,Y⟩: ∃R,ws.drop (p+n+1)=R:=⟨_,rfl⟩;have w:A.length=p:=by rw[<-V];simp;omega
  have H:S.length=n+1:=by rw[<-X];simp;omega
  have b5:R.length=m+n-(p+n+1):=by rw[<-Y];simp;omega
  have aQ:ws=A ++ S ++ R:=by
   rw[<-V,<-X,<-Y];have h1:(ws.take (p+n+1)).take p=ws.take p:=by rw[List.take_take,Nat.min_eq_left (by omega)]
   rw[<-h1,List.take_append_drop,List.take_append_drop]
  have aj:Dig S:=by rw[<-X];exact(F.take _).drop _
  have br:Dig A:=by rw[<-V];exact F.take _
  have bs:Dig R:=by rw[<-Y];exact F.drop _
  have bt:=hm.put U aI;have Z:=bt.cut (lo:=p) (hi:=p+n+1) (by omega) (by omega);rw[X] at Z;obtain⟨uc,aR⟩: ∃uc,Sl.cut ⟨u.A,u.n,u.c⟩ 1 p (p+n+1)=uc:=⟨_,rfl⟩;have bu:Sl.cut u 1 p (p+n+1)=uc:=aR;rw[bu] at Z;rw[aR];have hX:ws.drop p=S ++ R:=by rw[aQ,List.append_assoc,List.drop_left' w]
  have aT:val vs<B^n:=by rw[<-bg];exact Ax5 Q
  have aa:val (ws.drop p)<val vs*B:=by
   have h1:=Ah9 (l:=ws) (k:=p) (by omega);have C:=F.at (k:=p) (by omega);rw[h1];have h3:=Nat.mul_le_mul_left B (show val (ws.drop (p+1))+1<=val vs by omega);rw[Nat.mul_add,Nat.mul_comm B (val vs)] at h3;omega
  have al:val (S ++ R)=val S+B^(n+1)*val R:=by rw[Ag8,H]
  have am:val R=0:=by
   rw[hX,al] at aa;apply Nat.eq_zero_of_not_pos;intro h;have h1:=Nat.mul_le_mul_left (B^(n+1)) h;rw[Nat.mul_one,Nat.pow_succ] at h1;have C:=Nat.mul_lt_mul_of_pos_right aT Ad3;rw[Nat.pow_succ] at aa;omega
  have aU:val S<val vs*B:=by rw[hX,al,am,Nat.mul_zero,Nat.add_zero] at aa;exact aa
  have bw:val ws=val A+B^p*val S:=by
   rw[aQ,List.append_assoc,Ag8,w,al,am,Nat.mul_zero,Nat.add_zero]
  have ab:0<val vs:=by omega
  have aV:val S/val vs<B:=(Nat.div_lt_iff_lt_mul ab).2 (by rw[Nat.mul_comm];exact aU);obtain⟨q,hq⟩: ∃q,val S/val vs=q:=⟨_,rfl⟩;have bx:val S<B^(n+1):=by rw[<-H];exact Ax5 aj
  have done: ∀(D:PW) (f:List Nat),f.length=n+1->Dig f->val f=val S%val vs->Aq5 W0 D g cs 257 o (cv (A ++ f ++ R))->
    Fm4 us vs m g o cs W0 [.val (.int .i64 ((p:Int)-1)),.row (List.set (cel zs) p [.int .u32 (q:Int)])] D:=λ D f b6 bz aW bA=>by
   have hlen:(A ++ f ++ R).length=us.length:=by simp;omega
   have bB:(A ++ f ++ R).drop p=f ++ R:=by rw[List.append_assoc,List.drop_left' w]
   have aX:val (f ++ R)=val f:=by rw[Ag8,am,Nat.mul_zero,Nat.add_zero]
   refine⟨p,A ++ f ++ R,zs.set p q,rfl,by rw[Ae9],by omega,bA,hlen,(br.append bz).append bs,by simpa using aJ,aK.set (by rw[<-hq];exact aV),?_,?_⟩
   ·rw[bB,aX,aW]
    exact Nat.mod_lt _ ab
   ·rw[aM,bw]
    have I:val (A ++ f ++ R)=val A+B^p*(val S%val vs):=by rw[List.append_assoc,Ag8,w,aX,aW]
    have J:val ((zs.set p q).drop p)=q+B*val (zs.drop (p+1)):=by
     rw[Ah9 (by simp;omega),List.getElem_set_self,Ah5 (Nat.lt_succ_self p)]
    rw[I,J];have aY:=Nat.mod_add_div (val S) (val vs);rw[hq] at aY;rw[Nat.pow_succ]
    conv=>lhs;rw[<-aY]
    exact Ev0
  have dec: ∀D (S1 S2:List PL),Fg9 (.val (.int .i64 ((p:Int)-1))::S1) D<Fg9 (.val (.int .i64 (p:Int))::S2) W5\/S1.length≠1\/S2.length≠1:=λ D S1 S2=>by
   match S1,S2 with
   | [x],[y]=>
    left;show((p:Int)-1+1).toNat<((p:Int)+1).toNat;omega
   | [],_=>right;left;simp
   | _ :: _ :: _,_=>right;left;simp
   | [x],[]=>right;right;simp
   | [x],_ :: _ :: _=>right;right;simp
  refine⟨by unfold I64;omega,by unfold I64;omega,⟨by omega,by omega,by omega⟩,?_⟩;refine Dz5 Z.row aN aj Q (by omega) C ht aU (by omega) λ L W7 ao ⟨b8,b9,bC⟩=>⟨_,rfl,by unfold I64;omega,by unfold I64;omega,⟨by omega,by omega,by omega⟩,?_⟩;have bD:=Z.ext ao;have bE:=U.ext' ao;have bF:=aN.ext ao;intro W8 ap;have bH:=bD.ext ap;have aZ:=bE.ext' ap;have bI:Ad4 257 W8 v vs:=bF.ext ap;refine⟨λ b=>b=g,_,Dw7 bH bI P (by omega) aj Q bC (by omega),λ g' bJ=>by subst bJ;exact⟨aZ.S,ai⟩,λ r ae ca hP=>?_⟩;obtain⟨neg,e,rfl,aO,a0,N,a1,bL⟩:=hP;have aq:Aq5 W0 ae g cs 257 o (cv (A ++ e ++ R)):=by
   have:=aZ.then bL (by omega) (by omega);rw[show o+p-o=p by omega,a0,H,V,show p+(n+1)=p+n+1 by omega,Y] at this;exact this
  have bM:val e<B^(n+1):=by
   have:=Ax5 N
   rwa [a0,H] at this
  rw[H] at a1;have a2:=Eu9 ab (Nat.le_of_lt aT) hq.symm (by omega) bM a1 aO bx;refine⟨_,rfl,λ ar=>?_,λ ar=>?_⟩
  ·-- one cb many
   have cc:neg=1:=of_decide_eq_true ar;obtain⟨_,a3,a4⟩:neg=1/\L=q+1/\val e+val vs=val S%val vs+B^(n+1):=by
    rcases a2 with⟨h,_⟩ | h
    ·omega
    ·exact h
   have cd:Ad4 257 ae v vs:=Row.other O aq.ext λ a G=>P a G;refine⟨Fs7 A e R vs g o cs W0,Fp3 vs,⟨0,0,e,rfl,rfl,by omega,aq,rfl,N,rfl,by simp[val],by omega⟩,?_⟩;rintro i14 i15 au ⟨c,i,T,rfl,rfl,hi,af,bN,av,ag,aw,hc⟩;have ax:(A ++ T ++ R).length=us.length:=by simp;omega
   have bO:=hm.put af ax;have E:=bO.row;have a5:Ad4 257 au v vs:=Row.other O af.ext λ a G=>P a G;refine⟨λ aL=>?_,λ cf=>?_⟩
   ·have ay:i<vs.length:=by omega
    have az:i<T.length:=by omega
    have aA:i<e.length:=by omega
    have dv:=Q.at ay;have dz:=N.at aA;obtain⟨x,hx⟩: ∃x,vs[i]=x:=⟨_,rfl⟩;obtain⟨y,z⟩: ∃y,e[i]=y:=⟨_,rfl⟩;have aB:T[i]?=Option.some y:=by rw[Dr0 ag,List.getElem?_eq_getElem aA,z]
    have a7:=Ad4.at a5 ay;rw[hx] at a7 dv;rw[z] at dz;have aC:Aa7 au u 1 (p+i) 0 [.int .u32 (y:Int)]:=Ad4.atq E (by rw[Eo4 w az,aB]);have ei:(i:Int)+(p:Int)=((p+i:Nat):Int):=by omega
    have I:IntKind.wrap .u64 ((c:Int)+IntKind.wrap .u64 (IntKind.wrap .u64 (y:Int)+IntKind.wrap .u64 (x:Int)))=((c+y+x:Nat):Int):=by
     unfold B at dv dz;rw[Ab1 (n:=x) (by omega),Ab1 (n:=y) (by omega),<-Int.natCast_add,Ab1 (n:=y+x) (by omega),<-Int.natCast_add,Ab1 (by omega),Nat.add_assoc]
    rw[ei];refine⟨Ad4.inB a5 (by omega) (by omega),_,a7,by unfold I64;omega,Ad4.inB E (by omega) (by omega),_,aC,by unfold I64;omega,Ad4.inB E (by omega) (by omega),?_⟩;rw[I,Ao0,Ab9,Nat.mul_one,Nat.add_zero,show Int.toNat ((p+i:Nat):Int)=p+i from rfl];refine Ar7 hm af ax (by omega) ai λ cg a8=>⟨by unfold I64;omega,⟨(c+y+x)/B,i+1,T.set i ((c+y+x)%B),rfl,by push_cast;rfl,by omega,?_,by simpa using bN,av.set (Nat.mod_lt _ Ad3),?_,?_,?_⟩,?_⟩
    ·rw[Ef6 w az] at a8
     exact a8
    ·rw[Ah5 (Nat.lt_succ_self i)]
     exact Eq2 ag
    ·rw[Ac1 az,Aa4 ay,Aa4 aA,hx,z,Nat.pow_succ]
     exact Bo5 aw
    ·have:c+y+x<2*B:=by omega
     have:=(Nat.div_lt_iff_lt_mul Ad3).2 this;omega
    ·show vs.length-Int.toNat ((i:Int)+1)<vs.length-Int.toNat (i:Int)
     omega
   ·have bQ:i=n:=by omega
    rw[bQ] at ag aw;have aD:n<T.length:=by omega
    have aE:n<e.length:=by omega
    have dz:=N.at aE;obtain⟨y,z⟩: ∃y,e[n]=y:=⟨_,rfl⟩;rw[z] at dz;have aB:T[n]?=Option.some y:=by rw[Dr0 ag,List.getElem?_eq_getElem aE,z]
    have aC:Aa7 au u 1 (p+n) 0 [.int .u32 (y:Int)]:=Ad4.atq E (by rw[Eo4 w aD,aB]);have ch:val e=val (e.take n)+B^n*y:=by
     rw[<-z,<-Aa4 aE,show n+1=e.length by omega,List.take_length]
    have a9:val (T.take n)+B^n*(y+c)=val S%val vs+B^(n+1):=by
     rw[List.take_of_length_le (show vs.length<=n by omega)] at aw;rw[Nat.mul_add];omega
    have bR:=Ae6 av n;have ci:=Nat.mod_lt (val S) ab;have ba:y+c=B:=by
     have h1:(val (T.take n)+B^n*(y+c))/B^n=y+c:=by
      rw[Nat.add_mul_div_left _ _ (Nat.pow_pos Ad3),Nat.div_eq_of_lt bR,Nat.zero_add]
     rw[a9,Nat.pow_succ,Nat.add_mul_div_left _ _ (Nat.pow_pos Ad3),Nat.div_eq_of_lt (by omega),Nat.zero_add] at h1;exact h1.symm
    have bS:val (T.take n)=val S%val vs:=by
     rw[ba,Nat.pow_succ] at a9;omega
    have I:IntKind.wrap .u32 ((y:Int)+IntKind.wrap .u32 (c:Int))=((0:Nat):Int):=by
     rw[Ab9,<-Int.natCast_add,Ab9,Nat.mod_eq_of_lt (a:=c) (by unfold B;omega),ba,Nat.mod_self]
    have J:IntKind.wrap .u32 (IntKind.wrap .u64 ((L:Int)-1))=(q:Int):=by
     rw[show(L:Int)-1=(q:Int) by omega,Ab1 (by unfold B at aV;omega),Ab9,Nat.mod_eq_of_lt (by omega)]
    refine⟨by unfold I64;omega,Ad4.inB E (by omega) (by omega),_,aC,Ad4.inB E (by omega) (by omega),?_⟩;rw[I,J,Nat.mul_one,Nat.add_zero];refine Ar7 hm af ax (by omega) ai λ bb bc=>⟨⟨by omega,by rw[Aa5];omega⟩,by rw[Aa5];omega,by unfold I64;omega,?_,?_⟩
    ·rw[Ef6 w aD] at bc
     refine done bb (T.set n 0) (by simp;omega) (av.set Ad3) ?_ bc;have h1:(T.set n 0).take (n+1)=T.set n 0:=List.take_of_length_le (by simp;omega);have C:=Ac1 (d:=0) aD;rw[h1,Nat.mul_zero,Nat.add_zero] at C;rw[C,bS]
    ·rcases dec bb [_] [_] with h | h | h
     ·exact h
     ·simp at h
     ·simp at h
  ·have cj:neg=0:=by
    have:=of_decide_eq_false ar;omega
   obtain⟨_,a3,a4⟩:neg=0/\L=q/\val e=val S%val vs:=by
    rcases a2 with h | ⟨h,_⟩
    ·exact h
    ·omega
   have J:IntKind.wrap .u32 (L:Int)=(q:Int):=by
    rw[Ab9,Nat.mod_eq_of_lt (by omega),a3]
   rw[J];refine⟨⟨by omega,by rw[Aa5];omega⟩,by rw[Aa5];omega,by unfold I64;omega,done ae e (by omega) N a4 aq,?_⟩;rcases dec ae [_] [_] with h | h | h
   ·exact h
   ·simp at h
   ·simp at h
 ·have:j=0:=by omega
  subst this;refine⟨bl,ws,zs,rfl,hO.ext aP,λ g hg=>(hf g hg).1,aJ,aK,aI,F,(U.ext' bm).ext' aP,?_,aL⟩;rw[aM];simp
end Go.Proofs.YtkgeopnakkcdoaaGreatDoor
namespace Go.Proofs.YtkgeopnakkcdoaaGreatDoor
open Go Go.SX Go.RowKit Go.Shelf
attribute [local go_sem] Oper.semAt_some
def bk (zs:List Nat) (k:Nat):Nat×Nat:=(zs.length-1-k,zs[zs.length-1-k]?.getD 0)
def bks (zs:List Nat) (k:Nat):List (Nat×Nat):=(List.range k).map (bk zs)
theorem Bo8 (zs:List Nat)(k:Nat):bks zs (k+1)=bks zs k ++ [bk zs k]:=by simp[bks,List.range_succ]
theorem Ah8 (zs:List Nat)(k:Nat):(bks zs k).length=k:=by simp[bks]
def Fr7 (a:Nat) (v:Value) (b off:Nat) (zs:List Nat) (pre:List (Nat×Nat)) (W:World):Prop:=W.cell? ⟨a,0,none⟩=some v/\∀j,j<zs.length-pre.length->W.cell? ⟨b,off+j,none⟩=some (.int .u32 ((zs[j]?.getD 0:Nat):Int))
def Fi6 (zs:List Nat) (pre:List (Nat×Nat)) (x:Nat×Nat):Prop:=pre.length<zs.length/\pre=bks zs pre.length/\x=bk zs pre.length
def Ec8 (x:Nat×Nat):Array Value:=#[.int .i64 (x.1:Int),.int .u32 (x.2:Int)]
set_option maxRecDepth 100000 in
set_option maxHeartbeats 2000000 in
theorem Ex0 (n:Nat)(E:1<=n)(a b off cap:Nat)(zs:List Nat)(F:zs.length<=1099511627776):
  Bv9 Fence.wide n Tryz.prog 252 #[.pointer (some ⟨a,0,none⟩)] Ec8 (Fr7 a (.slice (some ⟨b,off,none⟩) zs.length cap) b off zs) (Fi6 zs) (λ xs=>xs=bks zs zs.length) (λ pre=>∃k,k<zs.length/\pre=bks zs (k+1)):=by
 intro l J G W h z j;refine callsIn_of_wp Tryz.func252 rfl trivial ?_ rfl;simp only[Tryz.ntmps252,List.size_toArray,List.length_cons,List.length_nil,Nat.reduceAdd,Nat.reduceSub,Array.replicate_succ,Array.replicate_zero,List.push_toArray,List.append_toArray,List.nil_append,List.cons_append];have H:W.cell? ⟨a,0,none⟩=some (.slice (some ⟨b,off,none⟩) zs.length cap):=(h _ _ j).1
 gi_wp2
 gi_loopw [3,7,8,9,10,11,12,13,14,15,16,17,18] (λ i _ _ _ _ _ _ _ _ _ _ _ _ wr=>∃m:Nat,m<=zs.length/\i = .int .i64 ((m:Int)-1)/\J (bks zs (zs.length-m)) wr)
  (λ i _ _ _ _ _ _ _ _ _ _ _ _ _=>(intOf i+1).toNat)
 case atStart=>exact⟨zs.length,Nat.le_refl _,rfl,by simpa[bks] using j⟩
 case round=>
  obtain⟨m,hm,rfl,c⟩:=hrel;obtain⟨I,A⟩:=h _ _ c
  cases m with
  | zero=>
   gi_wp2
   go_end0
   exact⟨⟨_,rfl⟩,.inl ⟨_,rfl,by simpa using c⟩⟩
  | succ k=>
   have hk:k<zs.length:=by omega
   have B:wr.cell? ⟨b,off+k,none⟩=some (.int .u32 ((zs[k]?.getD 0:Nat):Int)):=A k (by rw[Ah8];omega);have C:((k+1:Nat):Int)-1=(k:Int):=by omega
   have f:bk zs (zs.length-(k+1))=(k,zs[k]?.getD 0):=by simp only[bk];rw[show zs.length-1-(zs.length-(k+1))=k by omega]
   obtain⟨fn,tmps,assign,body,p,q⟩:=z _ (bk zs (zs.length-(k+1))) wr c ⟨by rw[Ah8];omega,by rw[Ah8],by rw[Ah8]⟩;obtain⟨d,D⟩: ∃d,zs[k]?.getD 0=d:=⟨_,rfl⟩;rw[D] at B f;rw[f] at p q;rw[C];dsimp only[Ec8] at p;have u:bks zs (zs.length-(k+1)) ++ [(k,d)]=bks zs (zs.length-(k+1)+1):=by rw[Bo8,f]
   gi_wp2
   refine q.mono ?_;rintro e L (⟨rfl,v⟩ | ⟨rfl,w⟩)
   ·rw[u,show zs.length-(k+1)+1=zs.length-k by omega] at v
    gi_wp2
    go_roundw
    case rel=>exact⟨k,by omega,rfl,v⟩
    case measure=>simp[intOf]
   ·rw[u] at w
    gi_wp2
    refine bodyPost_ret (results_none rfl _ _ _) rfl ?_;exact⟨⟨_,rfl⟩,.inr ⟨_,⟨_,by omega,rfl⟩,w⟩⟩
set_option maxRecDepth 100000 in
set_option maxHeartbeats 2000000 in
theorem Cp3 (n:Nat)(h:1<=n)(a:Nat)(A:Option Addr)(cap:Nat)(Mem:List (Nat×Nat)->World->Prop)(c: ∀pre W,Mem pre W->W.cell? ⟨a,0,none⟩=some (.slice A 0 cap)):
  Bv9 Fence.wide n Tryz.prog 252 #[.pointer (some ⟨a,0,none⟩)] Ec8 Mem (Fi6 []) (λ xs=>xs=bks [] 0) (λ pre=>∃k,k<0/\pre=bks [] (k+1)):=by
 intro l J j W e m b;refine callsIn_of_wp Tryz.func252 rfl trivial ?_ rfl;simp only[Tryz.ntmps252,List.size_toArray,List.length_cons,List.length_nil,Nat.reduceAdd,Nat.reduceSub,Array.replicate_succ,Array.replicate_zero,List.push_toArray,List.append_toArray,List.nil_append,List.cons_append];have p:W.cell? ⟨a,0,none⟩=some (.slice A 0 cap):=c _ _ (e _ _ b)
 gi_wp2
 gi_loopw [3,7,8] (λ i _ _ wr=>i = .int .i64 (-1)/\J [] wr) (λ _ _ _ _=>0)
 case atStart=>exact⟨by simp,b⟩
 case round=>
  obtain⟨rfl,f⟩:=hrel
  gi_wp2
  go_end0
  exact⟨⟨_,rfl⟩,.inl ⟨_,rfl,f⟩⟩
def bkA (a:Nat) (A:Option Addr) (cap:Nat) (zs:List Nat) (pre:List (Nat×Nat)) (W:World):Prop:=W.cell? ⟨a,0,none⟩=some (.slice A zs.length cap)/\∀b off,A=some ⟨b,off,none⟩->∀j,j<zs.length-pre.length->W.cell? ⟨b,off+j,none⟩=some (.int .u32 ((zs[j]?.getD 0:Nat):Int))
theorem Ef1 (n:Nat)(c:1<=n)(a:Nat)(A:Option Addr)(cap:Nat)(zs:List Nat)(f:zs.length<=1099511627776)(j:zs = []\/∃b off,A=some ⟨b,off,none⟩):
  Bv9 Fence.wide n Tryz.prog 252 #[.pointer (some ⟨a,0,none⟩)] Ec8 (bkA a A cap zs) (Fi6 zs) (λ xs=>xs=bks zs zs.length) (λ pre=>∃k,k<zs.length/\pre=bks zs (k+1)):=by
 rcases j with rfl | ⟨b,off,rfl⟩
 ·exact Cp3 n c a A cap _ λ pre W h=>h.1
 ·intro l J m W e p q
  exact Ex0 n c a b off cap zs f l J m W (λ pre W' h=>⟨(e pre W' h).1,(e pre W' h).2 b off rfl⟩) p q
set_option maxHeartbeats 1000000 in
theorem Bs1 (n:Nat)(a:Option Addr)(len cap:Nat)(w:World):
  CallsIn Fence.wide n Tryz.prog 218 #[.slice a len cap] w λ e w'=>e = .returned (.func (.func 252) #[] #[.pointer (some ⟨w.heap.size,0,none⟩)])/\w'=w.alloc (.cells #[.slice a len cap] 44):=by
 refine callsIn_of_wp Tryz.func218 rfl trivial ?_ rfl;simp only[Tryz.ntmps218,List.size_toArray,List.length_cons,List.length_nil,Nat.reduceAdd,Nat.reduceSub,Array.replicate_succ,Array.replicate_zero,List.push_toArray,List.append_toArray,List.nil_append,List.cons_append]
 gi_wp2
 go_ret
 exact⟨rfl,rfl⟩
end Go.Proofs.YtkgeopnakkcdoaaGreatDoor
namespace Go.Proofs.YtkgeopnakkcdoaaGreatDoor
open Go Go.SX Go.RowKit Go.Shelf
variable {M:Nat->Prop}{W0:PW}{l:List Nat}{s:Sl}{x y:Nat}
attribute [local go_sem] Oper.semAt_some
def Dt2 (x y:Nat):Int:=if x<y then -1 else if x=y then 0 else 1
theorem Al0 (h:x<y):Dt2 x y = -1:=by simp[Dt2,h]
theorem Ap9 (x:Nat):Dt2 x x=0:=by simp[Dt2]
theorem Aj4 (h:y<x):Dt2 x y=1:=by
 unfold Dt2;rw[if_neg (by omega),if_neg (by omega)]
def Lim (a :Nat) (W:World) (A:Option Addr) (l:List Nat):Prop:=l = []\/∃b off,A=some ⟨b,off,none⟩/\b<a/\∀j,j<l.length->W.cell? ⟨b,off+j,none⟩=some (.int .u32 ((l[j]?.getD 0:Nat):Int))
theorem Lim.below {a:Nat}{V:World}{W:World}{A:Option Addr}(h:Lim a V A l)(e:Below a V W):Lim a W A l:=by
 rcases h with h | ⟨b,off,f,c,k⟩
 ·exact .inl h
 ·exact .inr ⟨b,off,f,c,λ j m=>(e.cell (p:=⟨b,off+j,none⟩) c).trans (k j m)⟩
theorem Cj5 {r:List Nat}{i:Nat}(f:Dig l)(a:i<l.length)(b:i<r.length)(h:l.drop (i+1)=r.drop (i+1))(j:l[i]<r[i]):val l<val r:=by
 have c:=Am8 l (k:=i+1) a;have e:=Am8 r (k:=i+1) b;rw[Aa4 a] at c;rw[Aa4 b] at e;rw[c,e,h];have h1:=Ae6 f i;have m:=Nat.mul_le_mul_left (B^i) (show l[i]+1<=r[i] from j);rw[Nat.mul_add,Nat.mul_one] at m;omega
set_option maxRecDepth 100000 in
set_option maxHeartbeats 4000000 in
theorem Fm1 (n:Nat)(hn:3<=n)(A a:Option Addr)(cap m:Nat)(x y:Nat)(hx:nl x<=549755813888)(hy:nl y<=549755813888)(w:World)(hX:Lim w.heap.size w A (dg x))(hY:Lim w.heap.size w a (dg y)):
  CallsIn Fence.wide n Tryz.prog 164 #[.agg #[.slice A (dg x).length cap],.agg #[.slice a (dg y).length m]] w λ e W'=>e = .returned (.int .i64 (Dt2 x y))/\An0 w W':=by
 refine callsIn_of_wp_marks Tryz.func164 rfl trivial ?_ rfl;simp only[Tryz.ntmps164,List.size_toArray,List.length_cons,List.length_nil,Nat.reduceAdd,Nat.reduceSub,Array.replicate_succ,Array.replicate_zero,List.push_toArray,List.append_toArray,List.nil_append,List.cons_append];have T: ∀v,An0 w (((w.alloc (.cells #[.slice A (dg x).length cap] 46)).alloc (.cells #[.slice a (dg y).length m] 46)).alloc (.cells #[v] 3)):=λ v=>⟨((((Below.refl _ w).alloc (Nat.le_refl _) _).alloc (by simp) _).alloc (by simp;omega) _),Nat.le_refl _⟩
 gi_wp2
 ·have u:(dg x).length<(dg y).length:=by assumption
  refine⟨.int .i64 (-1),by simp[results,Tryz.f164,go_sem],?_,T _⟩;rw[Al0];apply Nat.lt_of_not_le;intro h;have:=Ad1 h;unfold nl at this;omega
 ·have ac:¬(dg x).length<(dg y).length:=by assumption
  have J:((((dg x).length:Nat):Int) != (((dg y).length:Nat):Int))=true:=by assumption
  have aE:(dg x).length≠(dg y).length:=by
   intro e;rw[e] at J;simp at J
  refine⟨.int .i64 1,by simp[results,Tryz.f164,go_sem],?_,T _⟩;rw[Aj4];apply Nat.lt_of_not_le;intro h;have:=Ad1 h;unfold nl at this;omega
 ·have J:((((dg x).length:Nat):Int) != (((dg y).length:Nat):Int))=false:=by assumption
  have hle:(dg x).length=(dg y).length:=by
   have:(((dg x).length:Nat):Int)=(((dg y).length:Nat):Int):=by
    rcases Decidable.em ((((dg x).length:Nat):Int)=(((dg y).length:Nat):Int)) with h | h
    ·exact h
    ·simp only[bne_eq_false_iff_eq] at J
     exact J
   omega
  refine⟨trivial,λ _=>by omega,(Bs1 (n-1) _ _ _ _).mono ?_⟩;rintro e w' ⟨rfl,rfl⟩
  gi_wp2
  obtain⟨E,H⟩: ∃E,((((w.alloc (.cells #[.slice A (dg y).length cap] 46)).alloc (.cells #[.slice a (dg y).length m] 46)).alloc (.cells #[.int .i64 0] 3)).alloc (.cells #[.slice A (dg y).length cap] 44))=E:=⟨_,rfl⟩;have aF:E.heap.size=w.heap.size+1+1+1+1:=by rw[<-H];simp
  have am:An0 w E:=by rw[<-H];have:=T (.int .i64 0);rw[hle] at this;exact⟨this.b.alloc (by simp;omega) _,this.d⟩
  have bL:Boxed E (w.heap.size+1+1+1) 44 (.slice A (dg y).length cap):=by
   rw[<-H];have:=Boxed.new (((w.alloc (.cells #[.slice A (dg y).length cap] 46)).alloc (.cells #[.slice a (dg y).length m] 46)).alloc (.cells #[.int .i64 0] 3)) 44 (.slice A (dg y).length cap)
   simpa using this
  have bR:Boxed E (w.heap.size+1+1) 3 (.int .i64 0):=by
   rw[<-H];have:=Boxed.new ((w.alloc (.cells #[.slice A (dg y).length cap] 46)).alloc (.cells #[.slice a (dg y).length m] 46)) 3 (.int .i64 0)
   simpa using this.alloc (.cells #[.slice A (dg y).length cap] 44)
  have bY:Boxed E (w.heap.size+1) 46 (.slice a (dg y).length m):=by
   rw[<-H];have:=Boxed.new (w.alloc (.cells #[.slice A (dg y).length cap] 46)) 46 (.slice a (dg y).length m)
   simpa using(this.alloc (.cells #[.int .i64 0] 3)).alloc (.cells #[.slice A (dg y).length cap] 44)
  rw[H];have aG:(dg x).length<=549755813888:=hx;have aH:(dg y).length<=549755813888:=hy;have ap:dg x = []\/∃b off,A=some ⟨b,off,none⟩:=by
   rcases hX with h | ⟨b,off,h,_⟩
   ·exact .inl h
   ·exact .inr ⟨b,off,h⟩
  have aq: ∀{W:World},Below w.heap.size w W->∀k,k<(dg y).length->∃b off,a=some ⟨b,off,none⟩/\W.cell? ⟨b,off+k,none⟩=some (.int .u32 (((dg y)[k]?.getD 0:Nat):Int)):=λ f k hk=>by
   rcases hY.below f with h | ⟨b,off,h,_,L⟩
   ·rw[h] at hk;simp at hk
   ·exact⟨b,off,h,L k hk⟩
  refine As7 (α:=Nat×Nat) (n:=n) rfl (by omega) (gf:=252) (lb:=#[.pointer (some ⟨w.heap.size+1+1+1,0,none⟩)]) rfl trivial (enters_of Tryz.func252 (by kernel_rfl) rfl)
   (Ef1 (n-1) (by omega) (w.heap.size+1+1+1) A cap (dg x) (by omega) ap) (λ _=>rfl)
   (λ pre W=>((∀p∈pre,(dg y)[p.1]?.getD 0=p.2)/\W.cell? ⟨w.heap.size+1+1,0,none⟩=some (.int .i64 0)/\W.frozen? ⟨w.heap.size+1+1,0,none⟩=false/\W.cell? ⟨w.heap.size+1,0,none⟩=some (.slice a (dg y).length m)/\W.cell? ⟨w.heap.size+1+1+1,0,none⟩=some (.slice A (dg y).length cap))/\An0 w W)
   (λ c pre W=>(c = .ret/\∃N last,pre=N ++ [last]/\(∀p∈N,(dg y)[p.1]?.getD 0=p.2)/\((last.2<(dg y)[last.1]?.getD 0/\W.cell? ⟨w.heap.size+1+1,0,none⟩=some (.int .i64 (-1)))\/((dg y)[last.1]?.getD 0<last.2/\W.cell? ⟨w.heap.size+1+1,0,none⟩=some (.int .i64 1))))/\An0 w W)
   ?_ ?_ ?_ ?_
   (λ x=>{tmps:=#[.agg #[.slice A (dg y).length cap],.agg #[.slice a (dg y).length m],.pointer (some ⟨w.heap.size,0,none⟩),.pointer (some ⟨w.heap.size+1,0,none⟩),.pointer (some ⟨w.heap.size+1+1,0,none⟩),.int .i64 (x.1:Int),.int .u32 (x.2:Int),
     .pointer (some ⟨w.heap.size,0,none⟩),.slice A (dg y).length cap,.int .i64 ((dg y).length:Nat),.pointer (some ⟨w.heap.size+1,0,none⟩),.slice a (dg y).length m,.int .i64 ((dg y).length:Nat),.bool false,undef,undef,undef,undef,undef,undef,undef,
     .pointer (some ⟨w.heap.size,0,none⟩),.slice A (dg y).length cap,.func (.func 252) #[] #[.pointer (some ⟨w.heap.size+1+1+1,0,none⟩)],.int .i64 (x.1:Int),.int .u32 (x.2:Int),undef,undef,undef,undef,undef,undef,undef,undef,undef,undef,undef,undef,undef,undef,undef,undef],defers:=[] }) ?assign ?body ?done ?stop
  case assign=>
   intro l p W K z;simp only[Ec8]
   gi_wp2
   exact z
  case body=>
   rintro l pre p W ⟨⟨U,q,ae,af,Q⟩,f⟩ ⟨hlen,aI,ar⟩;have hi:p.1<(dg y).length:=by rw[ar];simp only[bk];omega
   obtain⟨b',au,av,aw⟩:=aq f.b p.1 hi;subst av;obtain⟨d,V⟩: ∃d,(dg y)[p.1]?.getD 0=d:=⟨_,rfl⟩;rw[V] at aw;obtain⟨i,v⟩:=p;dsimp only at *
   gi_wp2
   ·have u:v<d:=by assumption
    exact⟨(KeepsOthers.setCell _ _ _).from _,⟨rfl,pre,(i,v),rfl,U,.inl ⟨by rw[V];exact u,World.cell?_setCell_same' _ _ _ (by rw[q];rfl)⟩⟩,f.setCell (p:=⟨w.heap.size+1+1,0,none⟩) (by show w.heap.size<=w.heap.size+1+1;omega) _⟩
   ·have u:d<v:=by assumption
    exact⟨(KeepsOthers.setCell _ _ _).from _,⟨rfl,pre,(i,v),rfl,U,.inr ⟨by rw[V];exact u,World.cell?_setCell_same' _ _ _ (by rw[q];rfl)⟩⟩,f.setCell (p:=⟨w.heap.size+1+1,0,none⟩) (by show w.heap.size<=w.heap.size+1+1;omega) _⟩
   ·have h1:¬v<d:=by assumption
    have R:¬d<v:=by assumption
    refine⟨KeepsFrom.refl _ _,trivial,⟨λ p ax=>?_,q,ae,af,Q⟩,f⟩;rcases List.mem_append.1 ax with h | h
    ·exact U p h
    ·simp at h;subst h;show(dg y)[i]?.getD 0=v;omega
  case done=>
   rintro D ps W hD rfl ⟨⟨ac,q,ae,af,Q⟩,f⟩ z
   gi_wp2
   have X:=(KeepsOthers.setCell W ⟨w.heap.size+1+1,0,none⟩ (.int .i64 0)).same D _ z rfl;refine⟨by simp,.inl ⟨_,_,rfl,run_takeDeferred X,?_⟩⟩;have O:=cell_kept (World.cell?_setCell_same' W ⟨w.heap.size+1+1,0,none⟩ (.int .i64 0) (by rw[q];rfl)) (grownBy_putObj' _ D (.deferred none)) (λ r e=>by cases e;exact⟨_,X,rfl⟩);refine⟨.int .i64 0,?_,?_,(f.setCell (p:=⟨w.heap.size+1+1,0,none⟩) (by show w.heap.size<=w.heap.size+1+1;omega) _).put (by omega) X rfl rfl⟩
   ·simp[results,Tryz.f164,go_sem,O]
   ·have az:dg x=dg y:=by
     apply List.ext_getElem hle;intro i h1 R;have hm:bk (dg x) ((dg x).length-1-i)∈bks (dg x) (dg x).length:=List.mem_map.2 ⟨_,List.mem_range.2 (by omega),rfl⟩;have:=ac _ hm;simp only[bk] at this;rw[show(dg x).length-1-((dg x).length-1-i)=i by omega] at this;rw[List.getElem?_eq_getElem h1,List.getElem?_eq_getElem R] at this;exact this.symm
    have:x=y:=by rw[<-Ac5 x,<-Ac5 y,az]
    rw[this,Ap9]
  case stop=>
   rintro D c pre W hD ⟨k,hk,rfl⟩ ⟨⟨rfl,N,last,S,Y,I⟩,f⟩ z
   gi_wp2
   refine⟨by simp,.inl ⟨_,_,rfl,run_takeDeferred z,?_⟩⟩;rw[Bo8] at S;obtain⟨rfl,e5⟩:=List.append_inj' S rfl;have e6:last=bk (dg x) k:=by simpa using e5.symm
   subst e6;obtain⟨i,hi⟩: ∃i,(dg x).length-1-k=i:=⟨_,rfl⟩;have Z:i<(dg x).length:=by omega
   have aa:i<(dg y).length:=by omega
   simp only[bk,hi] at I;rw[List.getElem?_eq_getElem Z,List.getElem?_eq_getElem aa] at I;simp only[Option.getD_some] at I;have ag:(dg x).drop (i+1)=(dg y).drop (i+1):=by
    apply List.ext_getElem (by simp;omega);intro j h1 R;simp only[List.length_drop] at h1 R;rw[List.getElem_drop,List.getElem_drop];have hm:bk (dg x) ((dg x).length-1-(i+1+j))∈bks (dg x) k:=List.mem_map.2 ⟨_,List.mem_range.2 (by omega),rfl⟩;have:=Y _ hm;simp only[bk] at this;rw[show(dg x).length-1-((dg x).length-1-(i+1+j))=i+1+j by omega] at this;rw[List.getElem?_eq_getElem (by omega),List.getElem?_eq_getElem (by omega)] at this;exact this.symm
   have ah:=f.put (o':=.deferred none) (by omega) z rfl rfl;rcases I with⟨u,q⟩ | ⟨u,q⟩
   ·have O:=cell_kept q (grownBy_putObj' _ D (.deferred none)) (λ r e=>by cases e;exact⟨_,z,rfl⟩)
    have P:=Cj5 (Ad8 x) Z aa ag u;rw[Ac5,Ac5] at P;exact⟨.int .i64 (-1),by simp[results,Tryz.f164,go_sem,O],by rw[Al0 P],ah⟩
   ·have O:=cell_kept q (grownBy_putObj' _ D (.deferred none)) (λ r e=>by cases e;exact⟨_,z,rfl⟩)
    have P:=Cj5 (Ad8 y) aa Z ag.symm u;rw[Ac5,Ac5] at P;exact⟨.int .i64 1,by simp[results,Tryz.f164,go_sem,O],by rw[Aj4 P],ah⟩
  ·exact Af7.and (Own.Ey9 (λ s A B row C F G=>⟨C.1,cell_kept C.2.1 F G,(frozen_kept C.2.1 F G).trans C.2.2.1,cell_kept C.2.2.2.1 F G,cell_kept C.2.2.2.2 F G⟩) _) (Am0 (by omega))
  ·exact λ c=>Af7.and (Own.Ey9 (λ s A B row C F G=>by
    obtain⟨L,N,last,S,Y,I⟩:=C;exact⟨L,N,last,S,Y,I.imp (λ h=>⟨h.1,cell_kept h.2 F G⟩) (λ h=>⟨h.1,cell_kept h.2 F G⟩)⟩) _) (Am0 (by omega))
  ·rintro pre W ⟨⟨_,_,_,_,Q⟩,f⟩
   refine⟨by rw[hle];exact Q,λ b off hA j hj=>?_⟩;rcases hX.below f.b with h | ⟨b',au,h,_,L⟩
   ·rw[h] at hj;simp at hj
   ·rw[hA] at h
    cases h;exact L j (by omega)
  ·exact⟨⟨by simp,bR.cell,bR.frozen,bY.cell,bL.cell⟩,am⟩
theorem Bd7 {w':World}{w:World}(h:An0 w w'):Am7 M w w':=⟨h.b.os,h.b.tape,h.b.output,h.b.size,λ b a _=>h.b.block b a,h.d⟩
theorem Fd3 {t:TypeId}{W:PW}(h:Ad4 t W s l):Lim W.w.heap.size W.w s.A l:=by
 obtain⟨m,_,_,_,a⟩:=h;rcases a with a | ⟨b,o,cs,fz,f,n,c,k⟩
 ·left;simpa[cel] using a
 ·refine .inr ⟨b,o,f,(Array.getElem?_eq_some_iff.1 c).1,λ j e=>?_⟩
  have:=k j (.int .u32 ((l[j]:Nat):Int)) (by rw[Al2];simp[cv,e]);simp only[World.cell?,c];rw[List.getElem?_eq_getElem e]
  simpa using this
theorem Ei9 {t:Sl}(h1:Aa6 257 W0 s x)(a:Aa6 257 W0 t y)(b:nl x<=549755813888)(c:nl y<=549755813888):
  Aa0 Tryz.prog 164 [.agg #[s.v],.agg #[t.v]] W0 M λ v W'=>v = .int .i64 (Dt2 x y)/\True:=by
 refine⟨⟨_,Tryz.func164,rfl,rfl⟩,λ _=>?_⟩;have f:s.n=(dg x).length:=h1.n;have h:t.n=(dg y).length:=a.n;have:=callsIn_wide.1 (Fm1 5 (by omega) s.A t.A s.c t.c x y b c W0.w (Fd3 h1) (Fd3 a));rw[<-f,<-h] at this;exact Calls.mono this λ e w' ⟨he,j⟩=>⟨_,he,Bd7 j,rfl,trivial⟩
theorem Ap6 {K:Value->PW->Prop}{W:PW}{t:Sl}(h1:Aa6 257 W s x)(b:Aa6 257 W t y)(c:nl x<=549755813888)(e:nl y<=549755813888)(f: ∀(W':PW),Ext W W'->(True)->K (.int .i64 (Dt2 x y)) W'):
  Aa1 Tryz.prog W0 M 164 [.agg #[s.v],.agg #[t.v]] W K:=
 Mi4 (λ _ a=>Ei9 (h1.ext a) (b.ext a) c e) fun | _,W',a,⟨rfl,h⟩=>f W' a h
end Go.Proofs.YtkgeopnakkcdoaaGreatDoor
namespace Go.Proofs.YtkgeopnakkcdoaaGreatDoor
open Go Go.SX Go.RowKit Go.Shelf
variable {B' by' d g o:Nat}{W W':World}{cs:Array Value}{fz:Nat×Nat}{t:TypeId}{us ws:List Nat}
attribute [local go_sem] Oper.semAt_some
theorem Be8 {b:Nat}{off:Nat}(v:Value)(h:W.heap[b]?=some (.cells cs t fz)):(W.setCell ⟨b,off,none⟩ v).heap[b]?=some (.cells (cs.setIfInBounds off v) t fz):=by
 obtain⟨a,hk⟩:=Array.getElem?_eq_some_iff.1 h;show(W.heap.modify b _)[b]?=_;rw[Array.getElem?_eq_getElem (by rw[Array.size_modify];exact a),Array.getElem_modify_self,hk];rfl
theorem Eu6 {i:Nat}(hi:i<ws.length):(Aj6 cs.toList o (cv ws)).toArray.setIfInBounds (o+i) (.int .u32 (d:Int))=(Aj6 cs.toList o (cv (ws.set i d))).toArray:=by
 apply Array.ext';simp only[Array.toList_setIfInBounds];have:=Db5 (l:=cs.toList) (o:=o) (p:=o+i) (us:=ws) (ws:=[d]) (by omega) (by simp;omega);rw[show o+i-o=i by omega] at this;rw[Fd8 ws i d hi];exact this
theorem Af8 {B:Nat}{v:Value}(h:Boxed W B t v)(a:B≠B')(o:Nat)(u:Value):Boxed (W.setCell ⟨B',o,none⟩ u) B t v:=(Below.heap_setCell W ⟨B',o,none⟩ u B a).trans h
theorem Cu4 {j:Nat}(h:W.heap[g]?=some (.cells (Aj6 cs.toList o (cv ws)).toArray t fz))(b:o+ws.length<=cs.size)(a:ws[j]?=some d):W.cell? ⟨g,o+j,none⟩=some (.int .u32 (d:Int)):=by
 have c:=(List.getElem?_eq_some_iff.1 a).1;simp only[World.cell?,h];have:(Aj6 cs.toList o (cv ws))[o+j]?=some (.int .u32 (d:Int)):=by
  rw[Ap0,if_pos (by rw[Ag7];simp;omega),show o+j-o=j by omega];simp[cv,a]
 simpa using this
def shI (w:World) (g o:Nat) (cs:Array Value) (us:List Nat) (A:Option Addr) (cap by':Nat) (pre:List (Nat×Nat)) (W:World):Prop:=
 (∃(ws:List Nat) (r:Nat),W.heap[g]?=some (.cells (Aj6 cs.toList o (cv ws)).toArray 257 (0,0))/\ws.length=us.length/\Dig ws/\ws.take (us.length-pre.length)=us.take (us.length-pre.length)/\
  val (us.drop (us.length-pre.length))=by'*val (ws.drop (us.length-pre.length))+r/\r<by'/\Boxed W (w.heap.size+1+1) 244 (.int .u64 (r:Int)))/\
 (Boxed W w.heap.size 44 (.slice A us.length cap)/\Boxed W (w.heap.size+1) 257 (.int .u32 (by':Int))/\Boxed W (w.heap.size+1+1+1) 44 (.slice A us.length cap))/\Am7 (λ b=>b=g) w W
theorem Bd8 {row:Option Nat}{B:Nat}{v:Value}(h:Boxed W B t v)(b:W.grownBy W' row)(c: ∀r,row=some r->B'<=r/\∃o:Obj,W.heap[r]?=some o/\o.isCells=false):Boxed W' B t v:=by
 refine h.kept b λ e=>?_;obtain⟨_,o,a,f⟩:=c B e.symm;have h:W.heap[B]?=_:=h;rw[h] at a;cases a;cases f
theorem Dp8 {M:Nat->Prop}{w:World}{row:Option Nat}{B:Nat}(h:Am7 M w W)(a:W.grownBy W' row)(f:W.drawn<=W'.drawn)(k:w.heap.size<=B)(j: ∀r,row=some r->B<=r/\∃o:Obj,W.heap[r]?=some o/\o.isCells=false):Am7 M w W':=
 ⟨a.os.trans h.os,a.tape.trans h.tape,a.output.trans h.output,Nat.le_trans h.size a.size,λ b c hm=>(a.block b (Nat.lt_of_lt_of_le c h.size) (λ e=>by have:=(j b e.symm).1;omega)).trans (h.block b c hm),Nat.le_trans h.drawn f⟩
theorem Cr9 {row:Option Nat}{B:Nat}(h:W.heap[g]?=some (.cells cs t fz))(b:W.grownBy W' row)(c: ∀r,row=some r->B<=r/\∃o:Obj,W.heap[r]?=some o/\o.isCells=false):W'.heap[g]?=some (.cells cs t fz):=by
 refine(b.block g (Array.getElem?_eq_some_iff.1 h).1 λ e=>?_).trans h;obtain⟨_,o,a,f⟩:=c g e.symm;rw[h] at a;cases a;cases f
theorem Fi4 {cap:Nat}{w:World}{A:Option Addr}{B:Nat}(c:w.heap.size<=B):Af7 B (shI w g o cs us A cap by'):=by
 rintro pre W W' row ⟨⟨ws,r,h1,e,f,h,j,k,m⟩,⟨n,p,q⟩,u⟩ a v b;exact⟨⟨ws,r,Cr9 h1 a b,e,f,h,j,k,Bd8 m a b⟩,⟨Bd8 n a b,Bd8 p a b,Bd8 q a b⟩,Dp8 u a v c b⟩
set_option maxRecDepth 100000 in
set_option maxHeartbeats 4000000 in
theorem Ey1 (n:Nat)(hn:3<=n)(g o cap by':Nat)(cs:Array Value)(us:List Nat)(hl:us.length<=549755813888)(V:0<by')(ag:by'<B)(am:Dig us)(w:World)(hg:w.heap[g]?=some (.cells cs 257 (0,0)))(a7:o+us.length<=cs.size)(aI: ∀j v,(cv us)[j]?=some v->cs[o+j]?=some v):
  CallsIn Fence.wide n Tryz.prog 225 #[.slice (some ⟨g,o,none⟩) us.length cap,.int .u32 (by':Int)] w λ e W'=>∃ws,e = .returned (.int .u32 ((val us%by':Nat):Int))/\ws.length=us.length/\Dig ws/\val ws=val us/by'/\W'.heap[g]?=some (.cells (Aj6 cs.toList o (cv ws)).toArray 257 (0,0))/\Am7 (λ b=>b=g) w W':=by
 refine callsIn_of_wp_marks Tryz.func225 rfl trivial ?_ rfl;simp only[Tryz.ntmps225,List.size_toArray,List.length_cons,List.length_nil,Nat.reduceAdd,Nat.reduceSub,Array.replicate_succ,Array.replicate_zero,List.push_toArray,List.append_toArray,List.nil_append,List.cons_append]
 gi_wp2
 refine⟨trivial,λ _=>by omega,(Bs1 (n-1) _ _ _ _).mono ?_⟩;rintro e w' ⟨rfl,rfl⟩
 gi_wp2
 obtain⟨C,I⟩: ∃C,((((w.alloc (.cells #[.slice (some ⟨g,o,none⟩) us.length cap] 44)).alloc (.cells #[.int .u32 (by':Int)] 257)).alloc (.cells #[.int .u64 0] 244)).alloc (.cells #[.slice (some ⟨g,o,none⟩) us.length cap] 44))=C:=⟨_,rfl⟩;have a8:C.heap.size=w.heap.size+1+1+1+1:=by rw[<-I];simp
 have aJ:g<w.heap.size:=(Array.getElem?_eq_some_iff.1 hg).1;have O:Below w.heap.size w C:=by rw[<-I];exact((((Below.refl _ w).alloc (Nat.le_refl _) _).alloc (by simp) _).alloc (by simp;omega) _).alloc (by simp;omega) _
 have b0:Boxed C w.heap.size 44 (.slice (some ⟨g,o,none⟩) us.length cap):=by
  rw[<-I];exact(((Boxed.new w 44 (.slice (some ⟨g,o,none⟩) us.length cap)).alloc (.cells #[.int .u32 (by':Int)] 257)).alloc (.cells #[.int .u64 0] 244)).alloc (.cells #[.slice (some ⟨g,o,none⟩) us.length cap] 44)
 have b1:Boxed C (w.heap.size+1) 257 (.int .u32 (by':Int)):=by
  rw[<-I];have:=((Boxed.new (w.alloc (.cells #[.slice (some ⟨g,o,none⟩) us.length cap] 44)) 257 (.int .u32 (by':Int))).alloc (.cells #[.int .u64 0] 244)).alloc (.cells #[.slice (some ⟨g,o,none⟩) us.length cap] 44)
  simpa using this
 have b2:Boxed C (w.heap.size+1+1) 244 (.int .u64 0):=by
  rw[<-I];have:=(Boxed.new ((w.alloc (.cells #[.slice (some ⟨g,o,none⟩) us.length cap] 44)).alloc (.cells #[.int .u32 (by':Int)] 257)) 244 (.int .u64 0)).alloc (.cells #[.slice (some ⟨g,o,none⟩) us.length cap] 44)
  simpa using this
 have b3:Boxed C (w.heap.size+1+1+1) 44 (.slice (some ⟨g,o,none⟩) us.length cap):=by
  rw[<-I];have:=Boxed.new (((w.alloc (.cells #[.slice (some ⟨g,o,none⟩) us.length cap] 44)).alloc (.cells #[.int .u32 (by':Int)] 257)).alloc (.cells #[.int .u64 0] 244)) 44 (.slice (some ⟨g,o,none⟩) us.length cap)
  simpa using this
 rw[I];refine As7 (α:=Nat×Nat) (n:=n) rfl (by omega) (gf:=252) (lb:=#[.pointer (some ⟨w.heap.size+1+1+1,0,none⟩)]) rfl trivial (enters_of Tryz.func252 (by kernel_rfl) rfl)
  (Ef1 (n-1) (by omega) (w.heap.size+1+1+1) (some ⟨g,o,none⟩) cap us (by omega) (.inr ⟨g,o,rfl⟩)) (λ _=>rfl)
  (shI w g o cs us (some ⟨g,o,none⟩) cap by') (λ _ _ _=>False) (Fi4 (by omega)) (λ _ _ _ _ _ h _ _ _=>h.elim) ?_ ?_
  (λ x=>{tmps:=#[.slice (some ⟨g,o,none⟩) us.length cap,.int .u32 (by':Int),.pointer (some ⟨w.heap.size,0,none⟩),.pointer (some ⟨w.heap.size+1,0,none⟩),.int .u32 0,.pointer (some ⟨w.heap.size+1+1,0,none⟩),.int .i64 (x.1:Int),.int .u32 (x.2:Int),
    .slice (some ⟨g,o,none⟩) us.length cap,.func (.func 252) #[] #[.pointer (some ⟨w.heap.size+1+1+1,0,none⟩)],.int .i64 (x.1:Int),.int .u32 (x.2:Int),undef,undef,undef,undef,undef,undef,undef,undef,undef,undef,undef,undef,undef,undef,undef,undef,undef,undef,undef],defers:=[] }) ?assign ?body ?done ?stop
 case assign=>
  intro l p W K X;simp only[Ec8]
  gi_wp2
  exact X
 case body=>
  rintro l pre ⟨i,v⟩ W ⟨⟨ws,r,h1,Y,Z,J,L,h6,P⟩,⟨h8,h9,ad⟩,E⟩ ⟨hlen,aL,R⟩;have hi:i=us.length-1-pre.length:=by simp only[bk] at R;cases R;rfl
  have hv:v=us[us.length-1-pre.length]?.getD 0:=by simp only[bk] at R;cases R;rfl
  have ae:i<us.length:=by omega
  have aM:us.length-pre.length=i+1:=by omega
  have ap:us.length-(pre ++ [(i,v)]).length=i:=by simp;omega
  have ah:us[i]?=some v:=by
   rw[hv,<-hi,List.getElem?_eq_getElem ae];rfl
  rw[aM] at J L;have aN:ws[i]?=some v:=by
   have:=congrArg (λ l=>l[i]?) J;simp only[List.getElem?_take] at this;rw[if_pos (by omega),if_pos (by omega)] at this;rw[this,ah]
  have aq:v<B:=am v (List.mem_of_getElem? ah);have ar:i<ws.length:=by omega
  have c7:=P.cell;have f7:=P.frozen;have c8:=h8.cell;have c9:=h9.cell;have cg:W.cell? ⟨g,o+i,none⟩=some (.int .u32 (v:Int)):=Cu4 h1 (by omega) aN;have fg:W.frozen? ⟨g,o+i,none⟩=false:=by simp[World.frozen?,h1]
  clear R aL hv hi;have aQ:by'≠0:=by omega
  gi_wp2
  have av:r<B:=by omega
  obtain⟨y,hy⟩: ∃y,r*B+v=y:=⟨_,rfl⟩;have ey:bits .or .u64 (IntKind.wrap .u64 ((r:Int)*4294967296)) (IntKind.wrap .u64 (v:Int))=(y:Int):=by
   rw[Ab1 (n:=v) (by unfold B at aq;omega),<-hy];have:IntKind.wrap .u64 ((r:Int)*4294967296)=((r*B:Nat):Int):=Eh5 av;rw[this,Dq8 aq av]
  rw[ey];have aR:y<by'*B:=by rw[<-hy];have:=Nat.mul_le_mul_right B (show r+1<=by' by omega);rw[Nat.add_mul] at this;omega
  have ax:y/by'<B:=(Nat.div_lt_iff_lt_mul V).2 (by rw[Nat.mul_comm];exact aR);have ay:y<18446744073709551616:=by
   have:=Nat.mul_le_mul_right B (Nat.le_of_lt ag);unfold B at *;omega
  have aS:IntKind.wrap .u64 (by':Int)=(by':Int):=Ab1 (by unfold B at ag;omega);have aT:IntKind.wrap .u64 (Int.tdiv (y:Int) (by':Int))=((y/by':Nat):Int):=by
   rw[Int.tdiv_eq_ediv_of_nonneg (by omega),<-Int.natCast_ediv,Ab1 (Nat.lt_of_le_of_lt (Nat.div_le_self ..) ay)]
  have az:IntKind.wrap .u32 ((y/by':Nat):Int)=((y/by':Nat):Int):=by rw[Ab9,Nat.mod_eq_of_lt ax]
  have aA:IntKind.wrap .u64 ((y:Int)/(by':Int))=(y:Int)/(by':Int):=by
   have:=Ab1 (n:=y/by') (Nat.lt_of_le_of_lt (Nat.div_le_self ..) ay)
   rwa [Int.natCast_ediv] at this
  have aB:IntKind.wrap .u32 ((y:Int)/(by':Int))=(y:Int)/(by':Int):=by
   have:=az
   rwa [Int.natCast_ediv] at this
  refine Cq1 (S:=λ w'=>w'.cell? ⟨w.heap.size+1+1,0,none⟩=some (.int .u64 (y:Int))/\w'.cell? ⟨w.heap.size,0,none⟩=some (.slice (some ⟨g,o,none⟩) us.length cap)/\w'.cell? ⟨w.heap.size+1,0,none⟩=some (.int .u32 (by':Int))) rfl ?_ ?_ ?_
  ·intro j o ho c hc
   have hm:=Array.mem_of_getElem? ho;simp only[List.mem_toArray,List.mem_cons,List.not_mem_nil,or_false] at hm;rcases hm with rfl | rfl | rfl | rfl | rfl | rfl | rfl | rfl | rfl<;>cases hc
  ·rintro⟨a,w,h⟩
   exact h
  have aW: ∃f,World.drew (W.setCell ⟨w.heap.size+1+1,0,none⟩ (.int .u64 (y:Int)))=f:=⟨_,rfl⟩;obtain⟨f,F⟩:=aW;have aj:Boxed f (w.heap.size+1+1) 244 (.int .u64 (y:Int)):=by rw[<-F];exact P.set _
  have ak:Boxed f w.heap.size 44 (.slice (some ⟨g,o,none⟩) us.length cap):=by rw[<-F];exact Af8 h8 (by omega) _ _
  have al:Boxed f (w.heap.size+1) 257 (.int .u32 (by':Int)):=by rw[<-F];exact Af8 h9 (by omega) _ _
  have aC:Boxed f (w.heap.size+1+1+1) 44 (.slice (some ⟨g,o,none⟩) us.length cap):=by rw[<-F];exact Af8 ad (by omega) _ _
  have af:f.heap[g]?=some (.cells (Aj6 cs.toList o (cv ws)).toArray 257 (0,0)):=by
   rw[<-F];exact(Below.heap_setCell W ⟨w.heap.size+1+1,0,none⟩ _ g (by simp;omega)).trans h1
  have N:Am7 (λ b=>b=g) w f:=by
   rw[<-F];exact⟨E.os,E.tape,E.output,by simpa using E.size,λ b u hm=>(Below.heap_setCell W ⟨w.heap.size+1+1,0,none⟩ _ b (by simp;omega)).trans (E.block b u hm),Nat.le_trans E.drawn (Nat.le_trans (Nat.le_of_eq (Ao2 _ _ _).symm) (Nat.le_succ _))⟩
  have aD:KeepsFrom C.heap.size W f:=by
   rw[<-F];exact⟨by simp,λ k T hk u _=>(Below.heap_setCell W ⟨w.heap.size+1+1,0,none⟩ _ k (by simp;omega)).trans u⟩
  have aE:f.cell? ⟨g,o+i,none⟩=some (.int .u32 (v:Int)):=by
   have:f.cell? ⟨g,o+i,none⟩=W.cell? ⟨g,o+i,none⟩:=by simp only[World.cell?,af,h1]
   rw[this];exact cg
  have aF:f.frozen? ⟨g,o+i,none⟩=false:=by simp[World.frozen?,af]
  rw[F];have G:f.cell? ⟨w.heap.size+1+1,0,none⟩=some (.int .u64 (y:Int))/\f.cell? ⟨w.heap.size,0,none⟩=some (.slice (some ⟨g,o,none⟩) us.length cap)/\f.cell? ⟨w.heap.size+1,0,none⟩=some (.int .u32 (by':Int)):=⟨aj.cell,ak.cell,al.cell⟩;refine wpAnyH_take (i:=0) (v:=.slice (some ⟨g,o,none⟩) us.length cap) rfl (by kernel_rfl) (by kernel_rfl) (by kernel_rfl) (λ _ _ _ h=>h) (.inl ⟨by rfl,λ w' m=>?_⟩) G ?_
  ·obtain⟨s1,s2,s3⟩:=m
   simp[execOp,go_sem,s1,s2,s3]
  refine wpAnyH_take (i:=1) (v:=.int .i64 (i:Int)) rfl (by kernel_rfl) (by kernel_rfl) (by kernel_rfl) (λ _ _ _ h=>h) (.inl ⟨by rfl,λ w' m=>?_⟩) G ?_
  ·obtain⟨s1,s2,s3⟩:=m
   simp[execOp,go_sem,s1,s2,s3]
  refine wpAnyH_take (i:=2) (v:=.int .u64 (y:Int)) rfl (by kernel_rfl) (by kernel_rfl) (by kernel_rfl) (λ _ _ _ h=>h) (.inl ⟨by rfl,λ w' m=>?_⟩) G ?_
  ·obtain⟨s1,s2,s3⟩:=m
   simp[execOp,go_sem,s1,s2,s3]
  refine wpAnyH_take (i:=3) (v:=.int .u32 (by':Int)) rfl (by kernel_rfl) (by kernel_rfl) (by kernel_rfl) (λ _ _ _ h=>h) (.inl ⟨by rfl,λ w' m=>?_⟩) G ?_
  ·obtain⟨s1,s2,s3⟩:=m
   simp[execOp,go_sem,s1,s2,s3]
  refine wpAnyH_take (i:=4) (v:=.int .u64 (by':Int)) rfl (by kernel_rfl) (by kernel_rfl) (by kernel_rfl) (λ _ _ _ h=>h) (.inl ⟨by rfl,λ w' m=>?_⟩) G ?_
  ·obtain⟨s1,s2,s3⟩:=m
   simp[execOp,go_sem,s1,s2,s3,aS]
  refine wpAnyH_take (i:=5) (v:=.int .u64 ((y/by':Nat):Int)) rfl (by kernel_rfl) (by kernel_rfl) (by kernel_rfl) (λ _ _ _ h=>h) (.inl ⟨by rfl,λ w' m=>?_⟩) G ?_
  ·obtain⟨s1,s2,s3⟩:=m
   simp[execOp,go_sem,s1,s2,s3,aQ];exact aA
  refine wpAnyH_take (i:=6) (v:=.int .u32 ((y/by':Nat):Int)) rfl (by kernel_rfl) (by kernel_rfl) (by kernel_rfl) (λ _ _ _ h=>h) (.inl ⟨by rfl,λ w' m=>?_⟩) G ?_
  ·obtain⟨s1,s2,s3⟩:=m
   simp[execOp,go_sem,s1,s2,s3];exact aB
  refine wpAnyH_take (i:=7) (v:=.pointer (some ⟨g,o+i,none⟩)) rfl (by kernel_rfl) (by kernel_rfl) (by kernel_rfl) (λ _ _ _ h=>h) (.inl ⟨by rfl,λ w' m=>?_⟩) G ?_
  ·obtain⟨s1,s2,s3⟩:=m
   simp[execOp,go_sem,s1,s2,s3,ae]
  refine wpAnyH_all (rs:=[8]) (by kernel_rfl) (by simp) (λ j U=>?_);obtain rfl:j=8:=by simpa using U
  unfold wpOp;dsimp only;simp only[Region.wanted];refine Or.inl ?_;simp[Oper.wp,execOp,go_sem,aE,aF];rw[<-Int.natCast_ediv];obtain⟨A,H⟩: ∃A,f.setCell ⟨g,o+i,none⟩ (.int .u32 ((y/by':Nat):Int))=A:=⟨_,rfl⟩;have d7:Boxed A (w.heap.size+1+1) 244 (.int .u64 (y:Int)):=by rw[<-H];exact Af8 aj (by omega) _ _
  have d8:Boxed A w.heap.size 44 (.slice (some ⟨g,o,none⟩) us.length cap):=by rw[<-H];exact Af8 ak (by omega) _ _
  have d9:Boxed A (w.heap.size+1) 257 (.int .u32 (by':Int)):=by rw[<-H];exact Af8 al (by omega) _ _
  have d10:Boxed A (w.heap.size+1+1+1) 44 (.slice (some ⟨g,o,none⟩) us.length cap):=by rw[<-H];exact Af8 aC (by omega) _ _
  have aX:A.heap[g]?=some (.cells (Aj6 cs.toList o (cv (ws.set i (y/by')))).toArray 257 (0,0)):=by
   rw[<-H,Be8 _ af,Eu6 ar]
  have Q:Am7 (λ b=>b=g) w A:=by
   rw[<-H];exact⟨N.os,N.tape,N.output,by simpa using N.size,λ b u hm=>(Below.heap_setCell f ⟨g,o+i,none⟩ _ b hm).trans (N.block b u hm),by rw[Ao2];exact N.drawn⟩
  have aY:KeepsFrom C.heap.size W A:=by
   rw[<-H];refine aD.trans ⟨by simp,λ k T hk u _=>(Below.heap_setCell f ⟨g,o+i,none⟩ _ k (by simp;omega)).trans u⟩
  rw[H];have e7:=d7.cell;have ba:=d7.frozen;have e9:=d9.cell;refine⟨G,wpAnyH_done (by kernel_rfl) ?_ _⟩;have bc:Int.tmod (y:Int) (by':Int)=((y%by':Nat):Int):=by
   rw[Int.tmod_eq_emod_of_nonneg (by omega)];rfl
  clear af N aD aE aF aj ak al aC F H cg fg c7 f7 c8 c9 aT aA az aB ey
  gi_wp2
  have aZ:(y:Int)%(by':Int)=((y%by':Nat):Int):=(Int.natCast_emod y by').symm;rw[aZ];refine⟨?_,trivial,⟨ws.set i (y/by'),y%by',?_,by simpa using Y,Z.set ax,?_,?_,Nat.mod_lt _ V,d7.set _⟩,⟨Af8 d8 (by omega) _ _,Af8 d9 (by omega) _ _,Af8 d10 (by omega) _ _⟩,?_⟩
  ·exact aY.trans ⟨by simp,λ k T hk u _=>(Below.heap_setCell A ⟨w.heap.size+1+1,0,none⟩ _ k (by simp;omega)).trans u⟩
  ·exact(Below.heap_setCell A ⟨w.heap.size+1+1,0,none⟩ _ g (by simp;omega)).trans aX
  ·rw[ap,At3 (Nat.le_refl _)]
   have:=congrArg (List.take i) J
   rwa [List.take_take,List.take_take,Nat.min_eq_left (by omega)] at this
  ·rw[ap,Ah9 ae,Ah9 (l:=ws.set i (y/by')) (k:=i) (by simpa using ar),List.getElem_set_self,Ah5 (Nat.lt_succ_self i),L]
   have e1:us[i]=v:=by
    have:=ah;rw[List.getElem?_eq_getElem ae] at this;exact Option.some.inj this
   rw[e1];have e2:=Nat.mod_add_div y by';generalize val (ws.drop (i+1))=z;generalize y/by'=q at *;generalize y%by'=s at *;have e3:v+B*(by'*z+r)=by'*(B*z)+y:=by
    rw[<-hy,Nat.mul_add,Nat.mul_left_comm,Nat.mul_comm r B];omega
   rw[e3,Nat.mul_add];omega
  ·exact⟨Q.os,Q.tape,Q.output,by simpa using Q.size,λ b u hm=>(Below.heap_setCell A ⟨w.heap.size+1+1,0,none⟩ _ b (by simp;omega)).trans (Q.block b u hm),by rw[Ao2];exact Q.drawn⟩
 case done=>
  rintro D ps W hD rfl ⟨⟨ws,r,h1,Y,Z,J,L,h6,P⟩,⟨h8,h9,ad⟩,E⟩ X;rw[Ah8,Nat.sub_self,List.drop_zero,List.drop_zero] at L;have c7:=P.cell;clear J
  gi_wp2
  have aG:W.grownBy (W.putObj D (.deferred none)) (some D):=grownBy_putObj' _ D _;have aH: ∀k,(some D:Option Nat)=some k->C.heap.size<=k/\∃T:Obj,W.heap[k]?=some T/\T.isCells=false:=λ k e=>by
   cases e;exact⟨hD,_,X,rfl⟩
  have er:val us%by'=r:=by rw[L,Nat.mul_add_mod,Nat.mod_eq_of_lt h6]
  have a3:val ws=val us/by':=by rw[L,Nat.mul_add_div V,Nat.div_eq_of_lt h6,Nat.add_zero]
  refine⟨by simp,.inl ⟨_,_,rfl,run_takeDeferred X,?_⟩⟩;refine⟨_,results_tmp rfl _ _ _,ws,?_,Y,Z,a3,Cr9 h1 aG aH,Dp8 E aG (Nat.le_refl _) (by omega) aH⟩;rw[er];show Ending.returned (Value.int .u32 ((r:Int)%4294967296))=_;rw[Int.emod_eq_of_lt (by omega) (by unfold B at ag;omega)]
 case stop=>
  rintro D c pre W _ _ h _;exact h.elim
 ·rintro pre W ⟨⟨ws,r,h1,Y,Z,J,L,h6,P⟩,⟨h8,h9,ad⟩,E⟩
  refine⟨ad.cell,λ b off hA j U=>?_⟩;cases hA;refine Cu4 h1 (by omega) ?_;have:=congrArg (λ l=>l[j]?) J;simp only[List.getElem?_take] at this;rw[if_pos (by omega),if_pos (by omega)] at this;rw[this,List.getElem?_eq_getElem (by omega)];rfl
 ·refine⟨⟨us,0,?_,rfl,am,rfl,by simp[val],V,b2⟩,⟨b0,b1,b3⟩,O.os,O.tape,O.output,O.size,λ b u _=>O.block b u,by rw[<-I];exact Nat.le_refl _⟩
  rw[O.block g aJ,hg];congr 2;apply Array.ext';apply List.ext_getElem?;intro k;simp only[Ap0,Ag7];split
  ·rename_i hk
   have U:k-o<(cv us).length:=by rw[Ag7];omega
   have:=aI (k-o) _ (List.getElem?_eq_getElem U);rw[show o+(k-o)=k by omega] at this;rw[List.getElem?_eq_getElem U]
   simpa using this
  ·rfl
theorem Bw9 {W0:PW}{u:Sl}(hm:Mut W0 257 u g o cs us)(c:Dig us)(f:0<by')(h:by'<B)(j:us.length<=549755813888):
  Aa0 Tryz.prog 225 [u.v,.int .u32 (by':Int)] W0 (λ b=>b=g) λ r W'=>∃ws:List Nat,r = .int .u32 ((val us%by':Nat):Int)/\ws.length=us.length/\Dig ws/\val ws=val us/by'/\Aq5 W0 W' g cs 257 o (cv ws):=by
 refine⟨⟨_,Tryz.func225,rfl,rfl⟩,λ _=>?_⟩;have:=callsIn_wide.1 (Ey1 5 (by omega) g o u.c by' cs us j f h c W0.w hm.heap hm.room hm.at');rw[<-hm.A,<-hm.n] at this;exact Calls.mono this λ e w' ⟨ws,he,h1,k,m,n,a⟩=>⟨_,he,a,ws,rfl,h1.trans hm.n,k,m,⟨a.size,λ b p q v=>⟨a.block b p v,q⟩⟩,hm.S,n⟩
end Go.Proofs.YtkgeopnakkcdoaaGreatDoor
namespace Go.Proofs.YtkgeopnakkcdoaaGreatDoor
open Go Go.SX
variable {K:Value->PW->Prop}{M:Nat->Prop}{W W0:PW}{s:Sl}{x y:Nat}
theorem Af6 {t:TypeId}(W:PW):Aa6 t W ⟨none,0,0⟩ 0:=⟨by simp[cel,Ae8],by simp,by decide,by simp[cel,Ae8],.inl (by simp[cel,Ae8])⟩
theorem Di1 {β:Nat}{a:Nat}{b:Nat}{f:Nat}{p:Nat}{z:Nat}{d:Nat}{u:Nat}{c low neg:Nat}(h:a+b=f+p*c)(j:z+c+d=u+β*neg):a+p*z+(b+p*d)=f+p*u+p*β*neg:=by
 have e:p*(z+c+d)=p*(u+β*neg):=by rw[j]
 grind
def Ft7 (x y:Nat) (b:PW) (l:List PL) (W:PW):Prop:=
 match l with
 | [.val (.int .u64 c),.val (.int .i64 k),.row xs]=>Ext b W/\∃(a k':Nat) (zs:List Nat),c=(a:Int)/\k=(k':Int)/\xs=cel zs/\k'<=nl x/\zs.length=nl x/\Dig zs/\
   val (zs.take k')+val ((dg y).take k')=val ((dg x).take k')+B^k'*a/\a<=1
 | _=>False
theorem Eh4 {t:Sl}(h1:Aa6 257 W0 s x)(n:Aa6 257 W0 t y)(I:nl x<=549755813888)(J:nl y<=549755813888):
  Aa0 Tryz.prog 220 [.agg #[s.v],.agg #[t.v]] W0 M λ v W'=>∃(s':Sl),v = .tuple #[.agg #[Sl.v s'],.bool (decide (y<=x))]/\Aa6 257 W' s' (x-y):=by
 apply Df0;have U:=h1.n;have V:=n.n;refine Ap6 h1 n I J λ L C _=>⟨_,rfl,λ a N X=>⟨⟨none,0,0⟩,?_,?_⟩,λ D=>?_⟩
 ·have:x<y:=by
   apply Nat.lt_of_not_le;intro h;rcases Nat.lt_or_eq_of_le h with h | rfl
   ·rw[Aj4 h] at a;omega
   ·rw[Ap9] at a;omega
  rw[decide_eq_false (by omega)]
 ·have:x<y:=by
   apply Nat.lt_of_not_le;intro h;rcases Nat.lt_or_eq_of_le h with h | rfl
   ·rw[Aj4 h] at a;omega
   ·rw[Ap9] at a;omega
  rw[show x-y=0 by omega];exact Af6 N
 have hle:y<=x:=by
  apply Nat.le_of_not_lt;intro h;rw[Al0 h] at D;omega
 have Y:=Ad1 hle;have O:=h1.ext C;have P:=n.ext C;refine⟨⟨rfl,by omega,by omega⟩,Ft7 x y L,Fr6 x,?_,?_⟩
 ·refine⟨Ext.refl _,0,0,List.replicate (nl x) 0,rfl,rfl,?_,by omega,by simp,λ d Q=>?_,by simp[val],by omega⟩
  ·rw[show Int.toNat (s.n:Int)=nl x by omega];exact Ae3 _
  ·rw[(List.mem_replicate.1 Q).2];decide
 rintro Z i8 i9 aa ⟨b,c,k,zs,rfl,rfl,rfl,hk,p,f,j,E⟩;have F:=O.ext b;have G:=P.ext b;have ab:(dg x).length=nl x:=rfl;have ac:(dg y).length=nl y:=rfl;refine⟨λ a=>?_,λ D ad ae af hO ag=>?_⟩
 ·have m:k<(dg x).length:=by omega
  have da:=(Ad8 x).at m;obtain⟨u,hu⟩: ∃u,(dg x)[k]=u:=⟨_,rfl⟩;rw[hu] at da;have H:IntKind.wrap .u64 (u:Int)=(u:Int):=Ab1 (by unfold B at da;omega);refine⟨Ad4.inB F (by omega) (by omega),(u:Nat),by rw[<-hu];exact Ad4.at F m,λ ah=>?_,λ ai=>?_⟩
  ·have q:k<(dg y).length:=by omega
   have db:=(Ad8 y).at q;obtain⟨v,w⟩: ∃v,(dg y)[k]=v:=⟨_,rfl⟩;rw[w] at db;have ev:IntKind.wrap .u64 (v:Int)=(v:Int):=Ab1 (by unfold B at db;omega);obtain⟨z,neg,s1,s2,s3,s4,A⟩:=Cg9 da E db;refine⟨Ad4.inB G (by omega) (by omega),(v:Nat),by rw[<-w];exact Ad4.at G q,⟨by omega,by rw[Aa5];omega⟩,by rw[Aa5];omega,by unfold I64;omega,?_,?_⟩
   ·rw[H,ev,s1,s2,show Int.toNat (k:Int)=k from rfl,Ae9]
    refine⟨b,neg,k+1,_,rfl,by push_cast;rfl,rfl,by omega,by simpa using p,f.set s4,?_,s3⟩;rw[Ac1 (by omega),Aa4 m,Aa4 q,hu,w,Nat.pow_succ];exact Di1 (low:=0) j A
   ·show nl x-Int.toNat ((k:Int)+1)<nl x-Int.toNat (k:Int)
    omega
  ·obtain⟨z,neg,s1,s2,s3,s4,A⟩:=Eh3 da E
   refine⟨⟨by omega,by rw[Aa5];omega⟩,by rw[Aa5];omega,by unfold I64;omega,?_,?_⟩
   ·rw[H,s1,s2,show Int.toNat (k:Int)=k from rfl,Ae9]
    refine⟨b,neg,k+1,_,rfl,by push_cast;rfl,rfl,by omega,by simpa using p,f.set s4,?_,s3⟩;rw[Ac1 (by omega),Aa4 m,Dm7 (by omega),hu,Nat.pow_succ];have:=Di1 (low:=0) (d:=0) j (by rw[Nat.add_zero];exact A)
    rwa [Nat.mul_zero,Nat.add_zero] at this
   ·show nl x-Int.toNat ((k:Int)+1)<nl x-Int.toNat (k:Int)
    omega
 ·have R:k=nl x:=by omega
  subst R;rw[show(dg x).take (nl x)=dg x from List.take_of_length_le (Nat.le_refl _),show(dg y).take (nl x)=dg y from List.take_of_length_le (by omega),Ac5,Ac5,<-p,List.take_length] at j;have aj:=Ax5 f;have S:c=0:=by
   rcases(show c=0\/c=1 by omega) with h | h
   ·exact h
   ·subst h;omega
  subst S;have e:val zs=x-y:=by rw[Nat.mul_zero] at j;omega
  refine Ap7 hO.row f (by omega) λ s' ak al h=>⟨s',rfl,λ am T=>⟨s',?_,?_⟩⟩
  ·rw[decide_eq_true hle]
  ·rw[e] at h
   exact h.ext T
theorem Bq3 {t:Sl}(h1:Aa6 257 W s x)(b:Aa6 257 W t y)(c:nl x<=549755813888)(e:nl y<=549755813888)(f: ∀(s':Sl) (W':PW),Ext W W'->(Aa6 257 W' s' (x-y))->K (.tuple #[.agg #[Sl.v s'],.bool (decide (y<=x))]) W'):
  Aa1 Tryz.prog W0 M 220 [.agg #[s.v],.agg #[t.v]] W K:=
 Mi4 (λ _ a=>Eh4 (h1.ext a) (b.ext a) c e) fun | _,W',a,⟨s',rfl,h⟩=>f s' W' a h
theorem Fh4 {a:Nat}{b:Nat}(c:b<B)(e:a<B):bits .or .u64 (b:Int) ((a*B:Nat):Int)=((b+a*B:Nat):Int):=by
 unfold B at *;rw[bits_or_u64_nat _ _ (by omega) (by omega),Nat.or_comm,nat_join 32 _ _ (by omega) (by omega),Nat.add_comm]
def Fv3 (x:Nat) (W0:PW) (l:List PL) (W:PW):Prop:=
 match l with
 | [.val (.int .u64 v),.val (.int .i64 k)]=>Ext W0 W/\∃k':Nat,k=(k':Int)/\k'<=min (nl x) 2/\v=(val ((dg x).take k'):Int)
 | _=>False
def Fv2 (l:List PL) (W:PW):Nat:=
 match l with
 | [_,.val (.int .i64 k)]=>2-k.toNat
 | _=>0
theorem Eo5 (h:Aa6 257 W0 s x)(w:nl x<=549755813888):
  Aa0 Tryz.prog 175 [.agg #[s.v]] W0 M λ v W'=>v = .int .u64 ((x%(B*B):Nat):Int)/\True:=by
 apply Bv7;have z:=h.n;have m:(dg x).length=nl x:=rfl;have n:mn (s.n:Int) 2=((min (nl x) 2:Nat):Int):=by unfold mn;split<;>omega
 simp only[n];refine⟨Fv3 x W0,Fv2,⟨Ext.refl _,0,rfl,by omega,by simp[val]⟩,?_⟩;rintro i3 i4 A ⟨c,k,rfl,hk,rfl⟩;refine⟨λ C=>?_,λ D E F=>⟨?_,trivial⟩⟩
 ·have a:k<(dg x).length:=by omega
  have da:=(Ad8 x).at a;have f:=h.ext c;obtain⟨u,hu⟩: ∃u,(dg x)[k]=u:=⟨_,rfl⟩;rw[hu] at da;have p:IntKind.wrap .u64 (u:Int)=(u:Int):=Ab1 (by unfold B at da;omega);have q:IntKind.bits .u64=64:=rfl;have ev:bits .or .u64 ((val ((dg x).take k):Nat):Int) (Bc5 .u64 (u:Int) (Int.toNat (32*(k:Int))))=((val ((dg x).take (k+1)):Nat):Int):=by
   rcases(show k=0\/k=1 by omega) with rfl | rfl
   ·rw[Aa4 a,hu,show Int.toNat (32*((0:Nat):Int))=0 from rfl,Dr8 (by unfold B at da;omega)]
    simp only[List.take_zero,val,Nat.pow_zero,Nat.mul_one,Nat.one_mul,Nat.zero_add];rw[bits_or_u64_nat _ _ (by decide) (by unfold B at da;omega),Nat.zero_or]
   ·rw[Aa4 a,hu,show Int.toNat (32*((1:Nat):Int))=32 from rfl,Eh5 da]
    have h1:=Ae6 (Ad8 x) 1;rw[Nat.pow_one] at h1;rw[Fh4 h1 da,Nat.pow_one,Nat.mul_comm u B]
  refine⟨Ad4.inB f (by omega) (by omega),(u:Nat),by rw[<-hu];exact Ad4.at f a,by unfold I64;omega,⟨by omega,by rw[q];omega⟩,by unfold I64;omega,⟨c,k+1,by push_cast;rfl,by omega,by rw[p,ev]⟩,?_⟩;show 2-Int.toNat ((k:Int)+1)<2-Int.toNat (k:Int);omega
 ·have j:k=min (nl x) 2:=by omega
  congr 2;rcases Nat.le_total (nl x) 2 with b | b
  ·rw[j,Nat.min_eq_left b,<-m,List.take_length,Ac5]
   have:=Bb4 x;have:=Nat.pow_le_pow_right Ad3 b;rw[Nat.pow_succ,Nat.pow_one] at this;rw[Nat.mod_eq_of_lt (by omega)]
  ·rw[j,Nat.min_eq_right b]
   have e:=Am8 (dg x) (k:=2) (by omega);rw[Ac5] at e;have h1:=Ae6 (Ad8 x) 2;rw[Nat.pow_succ,Nat.pow_one] at e h1
   conv=>rhs;rw[e]
   rw[Nat.add_mul_mod_self_left,Nat.mod_eq_of_lt h1]
theorem Bw7 (h:Aa6 257 W s x)(b:nl x<=549755813888)(c: ∀(W':PW),Ext W W'->(True)->K (.int .u64 ((x%(B*B):Nat):Int)) W'):
  Aa1 Tryz.prog W0 M 175 [.agg #[s.v]] W K:=
 Mi4 (λ _ a=>Eo5 (h.ext a) b) fun | _,W',a,⟨rfl,h⟩=>c W' a h
end Go.Proofs.YtkgeopnakkcdoaaGreatDoor
