/- nat: long. -/
import Derived.Test.YtjkkidjbppphpaaGreatDoorW2
import Derived.RangeFuncBox
import Derived.RangeFuncLeaves
import Derived.Shelf.Abstract
import Derived.WalkKit
import Derived.OwnWalkIn
import Derived.TacticsInMore
import Derived.LoopNIn
import Derived.LoopIn
import Derived.Test.YtjkkidjbppphpaaGreatDoorLib2
set_option linter.unusedVariables false
set_option linter.unusedSimpArgs false
set_option maxRecDepth 100000
namespace Go.Proofs.YtjkkidjbppphpaaGreatDoor
open Go Go.SX
def Fm4 (us vs:List Nat) (m g o:Nat) (cs:Array Value) (W0:PW) (l:List PL) (W:PW):Prop:=
 match l with
 | [.val (.int .i64 i),.row xs]=>∃(j:Nat) (ws zs:List Nat),i=(j:Int)-1∧xs=cel zs∧j≤m∧Aq5 W0 W g cs 284 o (cv ws)∧ws.length=us.length∧Dig ws∧zs.length=m∧Dig zs∧
   val (ws.drop j)<val vs∧val us=val ws+B^j*(val vs*val (zs.drop j))
 | _=>False
def Fg9 (l:List PL) (W:PW):Nat:=
 match l with
 | [.val (.int .i64 i),_]=>(i+1).toNat
 | _=>0
def Fs7 (A zs1 R vs:List Nat) (g o:Nat) (cs:Array Value) (W0:PW) (l:List PL) (W:PW):Prop:=
 match l with
 | [.val (.int .u64 c),.val (.int .i64 i)]=>∃(c' i':Nat) (T:List Nat),c=(c':Int)∧i=(i':Int)∧i'≤vs.length∧Aq5 W0 W g cs 284 o (cv (A ++ T ++ R))∧T.length=zs1.length∧Dig T∧T.drop i'=zs1.drop i'∧
   val (T.take i')+B^i'*c'=val (zs1.take i')+val (vs.take i')∧c'≤1
 | _=>False
def Fp3 (vs:List Nat) (l:List PL) (W:PW):Nat:=
 match l with
 | [_,.val (.int .i64 i)]=>vs.length-i.toNat
 | _=>0
theorem Ev0 {a b r V q β z:Nat} :a+b*(r+V*q)+b*β*(V*z)=a+b*r+b*(V*(q+β*z)):=by grind
theorem Dr0 {l r:List Nat} {i:Nat} (h:l.drop i=r.drop i):l[i]?=r[i]?:=by
 have:=congrArg (fun l=>l[0]?) h
 simpa using this
theorem Eq2 {l r:List Nat} {i:Nat} (h:l.drop i=r.drop i):l.drop (i+1)=r.drop (i+1):=by
 have:=congrArg (List.drop 1) h
 simpa[List.drop_drop] using this
theorem Ea3 {W0:PW} {u v:Sl} {us vs:List Nat} {g o:Nat} {cs:Array Value} (hm:Mut W0 284 u g o cs us) (hfr: ∀g',g'=g→True) (hv:Ad4 284 W0 v vs) (hne: ∀a:Addr,v.A=Option.some a→a.block≠g) (hl:vs.length≤us.length) (h2:2≤vs.length) (hdu:Dig us) (hdv:Dig vs)
  (ht: ∀h:vs.length-1<vs.length,vs[vs.length-1]≠0) (hUV:val (us.drop (us.length-vs.length))<val vs) (hb:us.length≤549755813888):
  Aa0 Tryz.prog 238 [u.v,v.v] W0 (fun b=>b=g) fun r W'=>∃(s':Sl) (ws zs:List Nat),r=s'.v∧Go.SX.Own W' 284 1 s' (cel zs)∧Aq4 W0 s'∧zs.length=us.length-vs.length∧Dig zs∧ws.length=us.length∧Dig ws∧Aq5 W0 W' g cs 284 o (cv ws)∧
   val us=val ws+val vs*val zs∧val ws<val vs:=by
 apply Cv2
 have hn:=hv.n
 have hun:=hm.n
 have huc:=hm.nc
 obtain⟨m,hmm⟩: ∃m,us.length=m+vs.length:=⟨us.length-vs.length,by omega⟩
 have hmm':us.length-vs.length=m:=by omega
 rw[hmm'] at hUV⊢
 obtain⟨n,hnn⟩: ∃n,vs.length=n:=⟨_,rfl⟩
 have eun:(u.n:Int)=((m+n:Nat):Int):=by omega
 have evn:(v.n:Int)=(n:Int):=by omega
 have hmay:may W0 (fun b=>b=g) g:=.inl rfl
 have esz:TyI.size Fw6=1:=rfl
 unfold Cy6
 simp only[eun,evn,esz]
 refine⟨by unfold I64;omega,⟨trivial,by omega,by omega⟩,by unfold I64;omega,by unfold I64;omega,Fm4 us vs m g o cs W0,Fg9,?_,?_⟩
 ·refine⟨m,us,List.replicate m 0,by push_cast;omega,?_,Nat.le_refl _,hm.start (Ext.refl _),rfl,hdu,by simp,fun d hd=>?_,hUV,by simp[val]⟩
  ·rw[show Int.toNat (((m+n:Nat):Int)-(n:Int))=m by omega];exact Ae3 _
  ·rw[(List.mem_replicate.1 hd).2];decide
 rintro l3 i4 W5 ⟨j,ws,zs,rfl,rfl,hj,hput,hwl,hdw,hzl,hdz,hlt,hval⟩
 have hv5:Ad4 284 W5 v vs:=Row.other hv hput.ext fun a ha=>hne a ha
 refine⟨fun hpos=>?_,fun hneg s22 W23 hE23 hO hf W25 hE25=>?_⟩
 ·obtain⟨p,rfl⟩: ∃p,j=p+1:=⟨j-1,by omega⟩
  have ep:((p+1:Nat):Int)-1=(p:Int):=by omega
  have epn:(p:Int)+(n:Int)+1=((p+n+1:Nat):Int):=by omega
  have epn0:(p:Int)+(n:Int)=((p+n:Nat):Int):=by omega
  rw[ep,epn,epn0,show Int.toNat (p:Int)=p from rfl,show Int.toNat ((p+n+1:Nat):Int)=p+n+1 from rfl,show Int.toNat ((p+n:Nat):Int)=p+n from rfl]
  obtain⟨A,hA⟩: ∃A,ws.take p=A:=⟨_,rfl⟩
  obtain⟨S,hS⟩: ∃S,(ws.take (p+n+1)).drop p=S:=⟨_,rfl⟩
  obtain⟨R,hR⟩: ∃R,ws.drop (p+n+1)=R:=⟨_,rfl⟩
  have hAl:A.length=p:=by rw[←hA];simp;omega
  have hSl:S.length=n+1:=by rw[←hS];simp;omega
  have hRl:R.length=m+n-(p+n+1):=by rw[←hR];simp;omega
  have hws:ws=A ++ S ++ R:=by
   rw[←hA,←hS,←hR]
   have h1:(ws.take (p+n+1)).take p=ws.take p:=by rw[List.take_take,Nat.min_eq_left (by omega)]
   rw[←h1,List.take_append_drop,List.take_append_drop]
  have hdS:Dig S:=by rw[←hS];exact(hdw.take _).drop _
  have hdA:Dig A:=by rw[←hA];exact hdw.take _
  have hdR:Dig R:=by rw[←hR];exact hdw.drop _
  have hm5:=hm.put hput hwl
  have hcutA:=hm5.cut (lo:=p) (hi:=p+n+1) (by omega) (by omega)
  rw[hS] at hcutA
  obtain⟨uc,huc'⟩: ∃uc,Sl.cut ⟨u.A,u.n,u.c⟩ 1 p (p+n+1)=uc:=⟨_,rfl⟩
  have huc2:Sl.cut u 1 p (p+n+1)=uc:=huc'
  rw[huc2] at hcutA
  rw[huc']
  have hX:ws.drop p=S ++ R:=by rw[hws,List.append_assoc,List.drop_left' hAl]
  have hV0:val vs<B^n:=by rw[←hnn];exact Ax5 hdv
  have hXlt:val (ws.drop p)<val vs*B:=by
   have h1:=Ah9 (l:=ws) (k:=p) (by omega)
   have h2:=hdw.at (k:=p) (by omega)
   rw[h1]
   have h3:=Nat.mul_le_mul_left B (show val (ws.drop (p+1))+1≤val vs by omega)
   rw[Nat.mul_add,Nat.mul_comm B (val vs)] at h3
   omega
  have hSR:val (S ++ R)=val S+B^(n+1)*val R:=by rw[Ag8,hSl]
  have hR0:val R=0:=by
   rw[hX,hSR] at hXlt
   apply Nat.eq_zero_of_not_pos
   intro h
   have h1:=Nat.mul_le_mul_left (B^(n+1)) h
   rw[Nat.mul_one,Nat.pow_succ] at h1
   have h2:=Nat.mul_lt_mul_of_pos_right hV0 Ad3
   rw[Nat.pow_succ] at hXlt
   omega
  have hSV:val S<val vs*B:=by rw[hX,hSR,hR0,Nat.mul_zero,Nat.add_zero] at hXlt;exact hXlt
  have hwsv:val ws=val A+B^p*val S:=by
   rw[hws,List.append_assoc,Ag8,hAl,hSR,hR0,Nat.mul_zero,Nat.add_zero]
  have hVp:0<val vs:=by omega
  have hqB:val S/val vs<B:=(Nat.div_lt_iff_lt_mul hVp).2 (by rw[Nat.mul_comm];exact hSV)
  obtain⟨q,hq⟩: ∃q,val S/val vs=q:=⟨_,rfl⟩
  have hSB:val S<B^(n+1):=by rw[←hSl];exact Ax5 hdS
  have done: ∀(Wn:PW) (S':List Nat),S'.length=n+1→Dig S'→val S'=val S%val vs→Aq5 W0 Wn g cs 284 o (cv (A ++ S' ++ R))→
    Fm4 us vs m g o cs W0 [.val (.int .i64 ((p:Int)-1)),.row (List.set (cel zs) p [.int .u32 (q:Int)])] Wn:=fun Wn S' hl' hd' hv' hput'=>by
   have hlen:(A ++ S' ++ R).length=us.length:=by simp;omega
   have hdrop:(A ++ S' ++ R).drop p=S' ++ R:=by rw[List.append_assoc,List.drop_left' hAl]
   have hS'R:val (S' ++ R)=val S':=by rw[Ag8,hR0,Nat.mul_zero,Nat.add_zero]
   refine⟨p,A ++ S' ++ R,zs.set p q,rfl,by rw[Ae9],by omega,hput',hlen,(hdA.append hd').append hdR,by simpa using hzl,hdz.set (by rw[←hq];exact hqB),?_,?_⟩
   ·rw[hdrop,hS'R,hv']
    exact Nat.mod_lt _ hVp
   ·rw[hval,hwsv]
    have e1:val (A ++ S' ++ R)=val A+B^p*(val S%val vs):=by rw[List.append_assoc,Ag8,hAl,hS'R,hv']
    have e2:val ((zs.set p q).drop p)=q+B*val (zs.drop (p+1)):=by
     rw[Ah9 (by simp;omega),List.getElem_set_self,Ah5 (Nat.lt_succ_self p)]
    rw[e1,e2]
    have hdm:=Nat.mod_add_div (val S) (val vs)
    rw[hq] at hdm
    rw[Nat.pow_succ]
    conv=>lhs;rw[←hdm]
    exact Ev0
  have dec: ∀Wn (S1 S2:List PL),Fg9 (.val (.int .i64 ((p:Int)-1)) :: S1) Wn<Fg9 (.val (.int .i64 (p:Int)) :: S2) W5∨S1.length≠1∨S2.length≠1:=fun Wn S1 S2=>by
   match S1,S2 with
   | [x],[y]=>
    left
    show((p:Int)-1+1).toNat<((p:Int)+1).toNat
    omega
   | [],_=>right;left;simp
   | _ :: _ :: _,_=>right;left;simp
   | [x],[]=>right;right;simp
   | [x],_ :: _ :: _=>right;right;simp
  refine⟨by unfold I64;omega,by unfold I64;omega,⟨by omega,by omega,by omega⟩,?_⟩
  refine Dz5 hcutA.row hv5 hdS hdv (by omega) h2 ht hSV (by omega) fun gq W7 hE7 ⟨hg1,hg2,hg3⟩=>⟨_,rfl,by unfold I64;omega,by unfold I64;omega,⟨by omega,by omega,by omega⟩,?_⟩
  have hcut7:=hcutA.ext hE7
  have hput7:=hput.ext' hE7
  have hv7:=hv5.ext hE7
  intro W8 hE8
  have hcut8:=hcut7.ext hE8
  have hput8:=hput7.ext' hE8
  have hv8:Ad4 284 W8 v vs:=hv7.ext hE8
  refine⟨fun b=>b=g,_,Dw7 hcut8 hv8 hne (by omega) hdS hdv hg3 (by omega),fun g' hg'=>by subst hg';exact⟨hput8.S,hmay⟩,fun r W10 hE10 hP=>?_⟩
  obtain⟨neg,zs1,rfl,hneg,hz1l,hdz1,hz1v,hput1⟩:=hP
  have hput10:Aq5 W0 W10 g cs 284 o (cv (A ++ zs1 ++ R)):=by
   have:=hput8.then hput1 (by omega) (by omega)
   rw[show o+p-o=p by omega,hz1l,hSl,hA,show p+(n+1)=p+n+1 by omega,hR] at this
   exact this
  have hz1B:val zs1<B^(n+1):=by
   have:=Ax5 hdz1
   rwa [hz1l,hSl] at this
  rw[hSl] at hz1v
  have hend:=Eu9 hVp (Nat.le_of_lt hV0) hq.symm (by omega) hz1B hz1v hneg hSB
  refine⟨_,rfl,fun hb11=>?_,fun hb11=>?_⟩
  ·-- one too many
   have hneg1:neg=1:=of_decide_eq_true hb11
   obtain⟨_,hgq,hzV⟩:neg=1∧gq=q+1∧val zs1+val vs=val S%val vs+B^(n+1):=by
    rcases hend with⟨h,_⟩ | h
    ·omega
    ·exact h
   have hv10:Ad4 284 W10 v vs:=Row.other hv hput10.ext fun a ha=>hne a ha
   refine⟨Fs7 A zs1 R vs g o cs W0,Fp3 vs,⟨0,0,zs1,rfl,rfl,by omega,hput10,rfl,hdz1,rfl,by simp[val],by omega⟩,?_⟩
   rintro i14 i15 W16 ⟨c,i,T,rfl,rfl,hi,hput16,hTl,hdT,hTd,hTv,hc⟩
   have hlen16:(A ++ T ++ R).length=us.length:=by simp;omega
   have hm16:=hm.put hput16 hlen16
   have hu16:=hm16.row
   have hv16:Ad4 284 W16 v vs:=Row.other hv hput16.ext fun a ha=>hne a ha
   refine⟨fun hlt=>?_,fun hge=>?_⟩
   ·have hiv:i<vs.length:=by omega
    have hiT:i<T.length:=by omega
    have hiz:i<zs1.length:=by omega
    have dv:=hdv.at hiv
    have dz:=hdz1.at hiz
    obtain⟨x,hx⟩: ∃x,vs[i]=x:=⟨_,rfl⟩
    obtain⟨y,hy⟩: ∃y,zs1[i]=y:=⟨_,rfl⟩
    have hTi:T[i]?=Option.some y:=by rw[Dr0 hTd,List.getElem?_eq_getElem hiz,hy]
    have hvx:=Ad4.at hv16 hiv
    rw[hx] at hvx dv
    rw[hy] at dz
    have hux:Aa7 W16 u 1 (p+i) 0 [.int .u32 (y:Int)]:=Ad4.atq hu16 (by rw[Eo4 hAl hiT,hTi])
    have ei:(i:Int)+(p:Int)=((p+i:Nat):Int):=by omega
    have e1:IntKind.wrap .u64 ((c:Int)+IntKind.wrap .u64 (IntKind.wrap .u64 (y:Int)+IntKind.wrap .u64 (x:Int)))=((c+y+x:Nat):Int):=by
     unfold B at dv dz
     rw[Ab1 (n:=x) (by omega),Ab1 (n:=y) (by omega),←Int.natCast_add,Ab1 (n:=y+x) (by omega),←Int.natCast_add,Ab1 (by omega),Nat.add_assoc]
    rw[ei]
    refine⟨Ad4.inB hv16 (by omega) (by omega),_,hvx,by unfold I64;omega,Ad4.inB hu16 (by omega) (by omega),_,hux,by unfold I64;omega,Ad4.inB hu16 (by omega) (by omega),?_⟩
    rw[e1,Ao0,Ab9,Nat.mul_one,Nat.add_zero,show Int.toNat ((p+i:Nat):Int)=p+i from rfl]
    refine Ar7 hm hput16 hlen16 (by omega) hmay fun W19 hput19=>⟨by unfold I64;omega,⟨(c+y+x)/B,i+1,T.set i ((c+y+x)%B),rfl,by push_cast;rfl,by omega,?_,by simpa using hTl,hdT.set (Nat.mod_lt _ Ad3),?_,?_,?_⟩,?_⟩
    ·rw[Ef6 hAl hiT] at hput19
     exact hput19
    ·rw[Ah5 (Nat.lt_succ_self i)]
     exact Eq2 hTd
    ·rw[Ac1 hiT,Aa4 hiv,Aa4 hiz,hx,hy,Nat.pow_succ]
     exact Bo5 hTv
    ·have:c+y+x<2*B:=by omega
     have:=(Nat.div_lt_iff_lt_mul Ad3).2 this
     omega
    ·show vs.length-Int.toNat ((i:Int)+1)<vs.length-Int.toNat (i:Int)
     omega
   ·have hin:i=n:=by omega
    rw[hin] at hTd hTv
    have hnT:n<T.length:=by omega
    have hnz:n<zs1.length:=by omega
    have dz:=hdz1.at hnz
    obtain⟨y,hy⟩: ∃y,zs1[n]=y:=⟨_,rfl⟩
    rw[hy] at dz
    have hTi:T[n]?=Option.some y:=by rw[Dr0 hTd,List.getElem?_eq_getElem hnz,hy]
    have hux:Aa7 W16 u 1 (p+n) 0 [.int .u32 (y:Int)]:=Ad4.atq hu16 (by rw[Eo4 hAl hnT,hTi])
    have hzs1:val zs1=val (zs1.take n)+B^n*y:=by
     rw[←hy,←Aa4 hnz,show n+1=zs1.length by omega,List.take_length]
    have hsum:val (T.take n)+B^n*(y+c)=val S%val vs+B^(n+1):=by
     rw[List.take_of_length_le (show vs.length≤n by omega)] at hTv
     rw[Nat.mul_add]
     omega
    have hTB:=Ae6 hdT n
    have hmodV:=Nat.mod_lt (val S) hVp
    have hyc:y+c=B:=by
     have h1:(val (T.take n)+B^n*(y+c))/B^n=y+c:=by
      rw[Nat.add_mul_div_left _ _ (Nat.pow_pos Ad3),Nat.div_eq_of_lt hTB,Nat.zero_add]
     rw[hsum,Nat.pow_succ,Nat.add_mul_div_left _ _ (Nat.pow_pos Ad3),Nat.div_eq_of_lt (by omega),Nat.zero_add] at h1
     exact h1.symm
    have hTn:val (T.take n)=val S%val vs:=by
     rw[hyc,Nat.pow_succ] at hsum
     omega
    have e1:IntKind.wrap .u32 ((y:Int)+IntKind.wrap .u32 (c:Int))=((0:Nat):Int):=by
     rw[Ab9,←Int.natCast_add,Ab9,Nat.mod_eq_of_lt (a:=c) (by unfold B;omega),hyc,Nat.mod_self]
    have e2:IntKind.wrap .u32 (IntKind.wrap .u64 ((gq:Int)-1))=(q:Int):=by
     rw[show(gq:Int)-1=(q:Int) by omega,Ab1 (by unfold B at hqB;omega),Ab9,Nat.mod_eq_of_lt (by omega)]
    refine⟨by unfold I64;omega,Ad4.inB hu16 (by omega) (by omega),_,hux,Ad4.inB hu16 (by omega) (by omega),?_⟩
    rw[e1,e2,Nat.mul_one,Nat.add_zero]
    refine Ar7 hm hput16 hlen16 (by omega) hmay fun W21 hput21=>⟨⟨by omega,by rw[Aa5];omega⟩,by rw[Aa5];omega,by unfold I64;omega,?_,?_⟩
    ·rw[Ef6 hAl hnT] at hput21
     refine done W21 (T.set n 0) (by simp;omega) (hdT.set Ad3) ?_ hput21
     have h1:(T.set n 0).take (n+1)=T.set n 0:=List.take_of_length_le (by simp;omega)
     have h2:=Ac1 (d:=0) hnT
     rw[h1,Nat.mul_zero,Nat.add_zero] at h2
     rw[h2,hTn]
    ·rcases dec W21 [_] [_] with h | h | h
     ·exact h
     ·simp at h
     ·simp at h
  ·have hneg0:neg=0:=by
    have:=of_decide_eq_false hb11
    omega
   obtain⟨_,hgq,hzV⟩:neg=0∧gq=q∧val zs1=val S%val vs:=by
    rcases hend with h | ⟨h,_⟩
    ·exact h
    ·omega
   have e2:IntKind.wrap .u32 (gq:Int)=(q:Int):=by
    rw[Ab9,Nat.mod_eq_of_lt (by omega),hgq]
   rw[e2]
   refine⟨⟨by omega,by rw[Aa5];omega⟩,by rw[Aa5];omega,by unfold I64;omega,done W10 zs1 (by omega) hdz1 hzV hput10,?_⟩
   rcases dec W10 [_] [_] with h | h | h
   ·exact h
   ·simp at h
   ·simp at h
 ·have:j=0:=by omega
  subst this
  refine⟨s22,ws,zs,rfl,hO.ext hE25,fun g hg=>(hf g hg).1,hzl,hdz,hwl,hdw,(hput.ext' hE23).ext' hE25,?_,hlt⟩
  rw[hval]
  simp
end Go.Proofs.YtjkkidjbppphpaaGreatDoor
/- slices.Backward of limbs; nat.Cmp. -/
namespace Go.Proofs.YtjkkidjbppphpaaGreatDoor
open Go Go.SX Go.RowKit Go.Shelf
attribute [local go_sem] Oper.semAt_some
def bk (zs:List Nat) (k:Nat):Nat×Nat:=(zs.length-1-k,zs[zs.length-1-k]?.getD 0)
def bks (zs:List Nat) (k:Nat):List (Nat×Nat):=(List.range k).map (bk zs)
theorem Bo8 (zs:List Nat) (k:Nat):bks zs (k+1)=bks zs k ++ [bk zs k]:=by simp[bks,List.range_succ]
theorem Ah8 (zs:List Nat) (k:Nat):(bks zs k).length=k:=by simp[bks]
def Fr7 (Bs:Nat) (v:Value) (b off:Nat) (zs:List Nat) (pre:List (Nat×Nat)) (W:World):Prop:=W.cell? ⟨Bs,0,none⟩=some v∧∀j,j<zs.length-pre.length→W.cell? ⟨b,off+j,none⟩=some (.int .u32 ((zs[j]?.getD 0:Nat):Int))
def Fi6 (zs:List Nat) (pre:List (Nat×Nat)) (x:Nat×Nat):Prop:=pre.length<zs.length∧pre=bks zs pre.length∧x=bk zs pre.length
def Ec8 (x:Nat×Nat):Array Value:=#[.int .i64 (x.1:Int),.int .u32 (x.2:Int)]
set_option maxRecDepth 100000 in
set_option maxHeartbeats 2000000 in
theorem Ex0 (n:Nat) (hn:1≤n) (Bs b off cap:Nat) (zs:List Nat) (hreach:zs.length≤1099511627776):
  Bv9 Fence.wide n Tryz.prog 235 #[.pointer (some ⟨Bs,0,none⟩)] Ec8 (Fr7 Bs (.slice (some ⟨b,off,none⟩) zs.length cap) b off zs) (Fi6 zs) (fun xs=>xs=bks zs zs.length) (fun pre=>∃k,k<zs.length∧pre=bks zs (k+1)):=by
 intro l J Jx W hJ hY h0
 refine callsIn_of_wp Tryz.func235 rfl trivial ?_ rfl
 simp only[Tryz.ntmps235,List.size_toArray,List.length_cons,List.length_nil,Nat.reduceAdd,Nat.reduceSub,Array.replicate_succ,Array.replicate_zero,List.push_toArray,List.append_toArray,List.nil_append,List.cons_append]
 have hbox:W.cell? ⟨Bs,0,none⟩=some (.slice (some ⟨b,off,none⟩) zs.length cap):=(hJ _ _ h0).1
 gi_wp2
 gi_loopw [3,7,8,9,10,11,12,13,14,15,16,17,18] (fun i _ _ _ _ _ _ _ _ _ _ _ _ wr=>∃m:Nat,m≤zs.length∧i = .int .i64 ((m:Int)-1)∧J (bks zs (zs.length-m)) wr)
  (fun i _ _ _ _ _ _ _ _ _ _ _ _ _=>(intOf i+1).toNat)
 case atStart=>exact⟨zs.length,Nat.le_refl _,rfl,by simpa[bks] using h0⟩
 case round=>
  obtain⟨m,hm,rfl,hJs⟩:=hrel
  obtain⟨hbx,hmem⟩:=hJ _ _ hJs
  cases m with
  | zero=>
   gi_wp2
   go_end0
   exact⟨⟨_,rfl⟩,.inl ⟨_,rfl,by simpa using hJs⟩⟩
  | succ k=>
   have hk:k<zs.length:=by omega
   have hcx:wr.cell? ⟨b,off+k,none⟩=some (.int .u32 ((zs[k]?.getD 0:Nat):Int)):=hmem k (by rw[Ah8];omega)
   have e1:((k+1:Nat):Int)-1=(k:Int):=by omega
   have hx:bk zs (zs.length-(k+1))=(k,zs[k]?.getD 0):=by simp only[bk];rw[show zs.length-1-(zs.length-(k+1))=k by omega]
   obtain⟨fn,tmps,assign,body,hy,hR⟩:=hY _ (bk zs (zs.length-(k+1))) wr hJs ⟨by rw[Ah8];omega,by rw[Ah8],by rw[Ah8]⟩
   obtain⟨d,hd⟩: ∃d,zs[k]?.getD 0=d:=⟨_,rfl⟩
   rw[hd] at hcx hx
   rw[hx] at hy hR
   rw[e1]
   dsimp only[Ec8] at hy
   have hpre:bks zs (zs.length-(k+1)) ++ [(k,d)]=bks zs (zs.length-(k+1)+1):=by rw[Bo8,hx]
   gi_wp2
   refine hR.mono ?_
   rintro e W3 (⟨rfl,hJ3⟩ | ⟨rfl,hJx3⟩)
   ·rw[hpre,show zs.length-(k+1)+1=zs.length-k by omega] at hJ3
    gi_wp2
    go_roundw
    case rel=>exact⟨k,by omega,rfl,hJ3⟩
    case measure=>simp[intOf]
   ·rw[hpre] at hJx3
    gi_wp2
    refine bodyPost_ret (results_none rfl _ _ _) rfl ?_
    exact⟨⟨_,rfl⟩,.inr ⟨_,⟨_,by omega,rfl⟩,hJx3⟩⟩
set_option maxRecDepth 100000 in
set_option maxHeartbeats 2000000 in
theorem Cp3 (n:Nat) (hn:1≤n) (Bs:Nat) (A:Option Addr) (cap:Nat) (Mem:List (Nat×Nat)→World→Prop) (hMem: ∀pre W,Mem pre W→W.cell? ⟨Bs,0,none⟩=some (.slice A 0 cap)):
  Bv9 Fence.wide n Tryz.prog 235 #[.pointer (some ⟨Bs,0,none⟩)] Ec8 Mem (Fi6 []) (fun xs=>xs=bks [] 0) (fun pre=>∃k,k<0∧pre=bks [] (k+1)):=by
 intro l J Jx W hJ hY h0
 refine callsIn_of_wp Tryz.func235 rfl trivial ?_ rfl
 simp only[Tryz.ntmps235,List.size_toArray,List.length_cons,List.length_nil,Nat.reduceAdd,Nat.reduceSub,Array.replicate_succ,Array.replicate_zero,List.push_toArray,List.append_toArray,List.nil_append,List.cons_append]
 have hbox:W.cell? ⟨Bs,0,none⟩=some (.slice A 0 cap):=hMem _ _ (hJ _ _ h0)
 gi_wp2
 gi_loopw [3,7,8] (fun i _ _ wr=>i = .int .i64 (-1)∧J [] wr) (fun _ _ _ _=>0)
 case atStart=>exact⟨by simp,h0⟩
 case round=>
  obtain⟨rfl,hJs⟩:=hrel
  gi_wp2
  go_end0
  exact⟨⟨_,rfl⟩,.inl ⟨_,rfl,hJs⟩⟩
def bkA (Bs:Nat) (A:Option Addr) (cap:Nat) (zs:List Nat) (pre:List (Nat×Nat)) (W:World):Prop:=W.cell? ⟨Bs,0,none⟩=some (.slice A zs.length cap)∧∀b off,A=some ⟨b,off,none⟩→∀j,j<zs.length-pre.length→W.cell? ⟨b,off+j,none⟩=some (.int .u32 ((zs[j]?.getD 0:Nat):Int))
theorem Ef1 (n:Nat) (hn:1≤n) (Bs:Nat) (A:Option Addr) (cap:Nat) (zs:List Nat) (hreach:zs.length≤1099511627776) (hA:zs = []∨∃b off,A=some ⟨b,off,none⟩):
  Bv9 Fence.wide n Tryz.prog 235 #[.pointer (some ⟨Bs,0,none⟩)] Ec8 (bkA Bs A cap zs) (Fi6 zs) (fun xs=>xs=bks zs zs.length) (fun pre=>∃k,k<zs.length∧pre=bks zs (k+1)):=by
 rcases hA with rfl | ⟨b,off,rfl⟩
 ·exact Cp3 n hn Bs A cap _ fun pre W h=>h.1
 ·intro l J Jx W hJ hY h0
  exact Ex0 n hn Bs b off cap zs hreach l J Jx W (fun pre W' h=>⟨(hJ pre W' h).1,(hJ pre W' h).2 b off rfl⟩) hY h0
set_option maxHeartbeats 1000000 in
theorem Bs1 (n:Nat) (a:Option Addr) (len cap:Nat) (w:World):
  CallsIn Fence.wide n Tryz.prog 196 #[.slice a len cap] w fun e w'=>e = .returned (.func (.func 235) #[] #[.pointer (some ⟨w.heap.size,0,none⟩)])∧w'=w.alloc (.cells #[.slice a len cap] 34):=by
 refine callsIn_of_wp Tryz.func196 rfl trivial ?_ rfl
 simp only[Tryz.ntmps196,List.size_toArray,List.length_cons,List.length_nil,Nat.reduceAdd,Nat.reduceSub,Array.replicate_succ,Array.replicate_zero,List.push_toArray,List.append_toArray,List.nil_append,List.cons_append]
 gi_wp2
 go_ret
 exact⟨rfl,rfl⟩
end Go.Proofs.YtjkkidjbppphpaaGreatDoor
/- nat.Cmp. -/
namespace Go.Proofs.YtjkkidjbppphpaaGreatDoor
open Go Go.SX Go.RowKit Go.Shelf
attribute [local go_sem] Oper.semAt_some
def Dt2 (x y:Nat):Int:=if x<y then -1 else if x=y then 0 else 1
theorem Al0 {x y:Nat} (h:x<y):Dt2 x y = -1:=by simp[Dt2,h]
theorem Ap9 (x:Nat):Dt2 x x=0:=by simp[Dt2]
theorem Aj4 {x y:Nat} (h:y<x):Dt2 x y=1:=by
 unfold Dt2
 rw[if_neg (by omega),if_neg (by omega)]
def Lim (n₀ :Nat) (W:World) (A:Option Addr) (l:List Nat):Prop:=l = []∨∃b off,A=some ⟨b,off,none⟩∧b<n₀∧∀j,j<l.length→W.cell? ⟨b,off+j,none⟩=some (.int .u32 ((l[j]?.getD 0:Nat):Int))
theorem Lim.below {n₀ :Nat} {V W:World} {A:Option Addr} {l:List Nat} (h:Lim n₀ V A l) (hB:Below n₀ V W):Lim n₀ W A l:=by
 rcases h with h | ⟨b,off,hA,hb,hc⟩
 ·exact .inl h
 ·exact .inr ⟨b,off,hA,hb,fun j hj=>(hB.cell (p:=⟨b,off+j,none⟩) hb).trans (hc j hj)⟩
theorem Cj5 {l r:List Nat} (hl:Dig l) {i:Nat} (hil:i<l.length) (hir:i<r.length) (h:l.drop (i+1)=r.drop (i+1)) (hlt:l[i]<r[i]):val l<val r:=by
 have e1:=Am8 l (k:=i+1) hil
 have e2:=Am8 r (k:=i+1) hir
 rw[Aa4 hil] at e1
 rw[Aa4 hir] at e2
 rw[e1,e2,h]
 have h1:=Ae6 hl i
 have h2:=Nat.mul_le_mul_left (B^i) (show l[i]+1≤r[i] from hlt)
 rw[Nat.mul_add,Nat.mul_one] at h2
 omega
set_option maxRecDepth 100000 in
set_option maxHeartbeats 4000000 in
theorem Fm1 (n:Nat) (hn:3≤n) (A A':Option Addr) (cap cap':Nat) (x y:Nat) (hx:nl x≤549755813888) (hy:nl y≤549755813888) (w:World) (hX:Lim w.heap.size w A (dg x)) (hY:Lim w.heap.size w A' (dg y)):
  CallsIn Fence.wide n Tryz.prog 122 #[.agg #[.slice A (dg x).length cap],.agg #[.slice A' (dg y).length cap']] w fun e W'=>e = .returned (.int .i64 (Dt2 x y))∧An0 w W':=by
 refine callsIn_of_wp_marks Tryz.func122 rfl trivial ?_ rfl
 simp only[Tryz.ntmps122,List.size_toArray,List.length_cons,List.length_nil,Nat.reduceAdd,Nat.reduceSub,Array.replicate_succ,Array.replicate_zero,List.push_toArray,List.append_toArray,List.nil_append,List.cons_append]
 have hB3: ∀v,An0 w (((w.alloc (.cells #[.slice A (dg x).length cap] 36)).alloc (.cells #[.slice A' (dg y).length cap'] 36)).alloc (.cells #[v] 3)):=fun v=>⟨((((Below.refl _ w).alloc (Nat.le_refl _) _).alloc (by simp) _).alloc (by simp;omega) _),Nat.le_refl _⟩
 gi_wp2
 ·have hlt:(dg x).length<(dg y).length:=by assumption
  refine⟨.int .i64 (-1),by simp[results,Tryz.f122,go_sem],?_,hB3 _⟩
  rw[Al0]
  apply Nat.lt_of_not_le
  intro h
  have:=Ad1 h
  unfold nl at this
  omega
 ·have hne:¬(dg x).length<(dg y).length:=by assumption
  have hne2:((((dg x).length:Nat):Int) != (((dg y).length:Nat):Int))=true:=by assumption
  have hne3:(dg x).length≠(dg y).length:=by
   intro e
   rw[e] at hne2
   simp at hne2
  refine⟨.int .i64 1,by simp[results,Tryz.f122,go_sem],?_,hB3 _⟩
  rw[Aj4]
  apply Nat.lt_of_not_le
  intro h
  have:=Ad1 h
  unfold nl at this
  omega
 ·have hne2:((((dg x).length:Nat):Int) != (((dg y).length:Nat):Int))=false:=by assumption
  have hle:(dg x).length=(dg y).length:=by
   have:(((dg x).length:Nat):Int)=(((dg y).length:Nat):Int):=by
    rcases Decidable.em ((((dg x).length:Nat):Int)=(((dg y).length:Nat):Int)) with h | h
    ·exact h
    ·simp only[bne_eq_false_iff_eq] at hne2
     exact hne2
   omega
  refine⟨trivial,fun _=>by omega,(Bs1 (n-1) _ _ _ _).mono ?_⟩
  rintro e w' ⟨rfl,rfl⟩
  gi_wp2
  obtain⟨W4,hW4⟩: ∃W4,((((w.alloc (.cells #[.slice A (dg y).length cap] 36)).alloc (.cells #[.slice A' (dg y).length cap'] 36)).alloc (.cells #[.int .i64 0] 3)).alloc (.cells #[.slice A (dg y).length cap] 34))=W4:=⟨_,rfl⟩
  have hsz:W4.heap.size=w.heap.size+1+1+1+1:=by rw[←hW4];simp
  have hB4:An0 w W4:=by rw[←hW4];have:=hB3 (.int .i64 0);rw[hle] at this;exact⟨this.b.alloc (by simp;omega) _,this.d⟩
  have bL:Boxed W4 (w.heap.size+1+1+1) 34 (.slice A (dg y).length cap):=by
   rw[←hW4]
   have:=Boxed.new (((w.alloc (.cells #[.slice A (dg y).length cap] 36)).alloc (.cells #[.slice A' (dg y).length cap'] 36)).alloc (.cells #[.int .i64 0] 3)) 34 (.slice A (dg y).length cap)
   simpa using this
  have bR:Boxed W4 (w.heap.size+1+1) 3 (.int .i64 0):=by
   rw[←hW4]
   have:=Boxed.new ((w.alloc (.cells #[.slice A (dg y).length cap] 36)).alloc (.cells #[.slice A' (dg y).length cap'] 36)) 3 (.int .i64 0)
   simpa using this.alloc (.cells #[.slice A (dg y).length cap] 34)
  have bY:Boxed W4 (w.heap.size+1) 36 (.slice A' (dg y).length cap'):=by
   rw[←hW4]
   have:=Boxed.new (w.alloc (.cells #[.slice A (dg y).length cap] 36)) 36 (.slice A' (dg y).length cap')
   simpa using(this.alloc (.cells #[.int .i64 0] 3)).alloc (.cells #[.slice A (dg y).length cap] 34)
  rw[hW4]
  have hlx:(dg x).length≤549755813888:=hx
  have hly:(dg y).length≤549755813888:=hy
  have hAx:dg x = []∨∃b off,A=some ⟨b,off,none⟩:=by
   rcases hX with h | ⟨b,off,h,_⟩
   ·exact .inl h
   ·exact .inr ⟨b,off,h⟩
  have eq2: ∀{W:World},Below w.heap.size w W→∀k,k<(dg y).length→∃b off,A'=some ⟨b,off,none⟩∧W.cell? ⟨b,off+k,none⟩=some (.int .u32 (((dg y)[k]?.getD 0:Nat):Int)):=fun hB k hk=>by
   rcases hY.below hB with h | ⟨b,off,h,_,hc⟩
   ·rw[h] at hk;simp at hk
   ·exact⟨b,off,h,hc k hk⟩
  refine As7 (α:=Nat×Nat) (n:=n) rfl (by omega) (gf:=235) (lb:=#[.pointer (some ⟨w.heap.size+1+1+1,0,none⟩)]) rfl trivial (enters_of Tryz.func235 (by kernel_rfl) rfl)
   (Ef1 (n-1) (by omega) (w.heap.size+1+1+1) A cap (dg x) (by omega) hAx) (fun _=>rfl)
   (fun pre W=>((∀p∈pre,(dg y)[p.1]?.getD 0=p.2)∧W.cell? ⟨w.heap.size+1+1,0,none⟩=some (.int .i64 0)∧W.frozen? ⟨w.heap.size+1+1,0,none⟩=false∧W.cell? ⟨w.heap.size+1,0,none⟩=some (.slice A' (dg y).length cap')∧W.cell? ⟨w.heap.size+1+1+1,0,none⟩=some (.slice A (dg y).length cap))∧An0 w W)
   (fun c pre W=>(c = .ret∧∃ini last,pre=ini ++ [last]∧(∀p∈ini,(dg y)[p.1]?.getD 0=p.2)∧((last.2<(dg y)[last.1]?.getD 0∧W.cell? ⟨w.heap.size+1+1,0,none⟩=some (.int .i64 (-1)))∨((dg y)[last.1]?.getD 0<last.2∧W.cell? ⟨w.heap.size+1+1,0,none⟩=some (.int .i64 1))))∧An0 w W)
   ?_ ?_ ?_ ?_
   (fun x=>{tmps:=#[.agg #[.slice A (dg y).length cap],.agg #[.slice A' (dg y).length cap'],.pointer (some ⟨w.heap.size,0,none⟩),.pointer (some ⟨w.heap.size+1,0,none⟩),.pointer (some ⟨w.heap.size+1+1,0,none⟩),.int .i64 (x.1:Int),.int .u32 (x.2:Int),
     .pointer (some ⟨w.heap.size,0,none⟩),.slice A (dg y).length cap,.int .i64 ((dg y).length:Nat),.pointer (some ⟨w.heap.size+1,0,none⟩),.slice A' (dg y).length cap',.int .i64 ((dg y).length:Nat),.bool false,undef,undef,undef,undef,undef,undef,undef,
     .pointer (some ⟨w.heap.size,0,none⟩),.slice A (dg y).length cap,.func (.func 235) #[] #[.pointer (some ⟨w.heap.size+1+1+1,0,none⟩)],.int .i64 (x.1:Int),.int .u32 (x.2:Int),undef,undef,undef,undef,undef,undef,undef,undef,undef,undef,undef,undef,undef,undef,undef,undef],defers:=[] }) ?assign ?body ?done ?stop
  case assign=>
   intro l p W K hK
   simp only[Ec8]
   gi_wp2
   exact hK
  case body=>
   rintro l pre p W ⟨⟨hp,hcr,hfr,hcy,hcl⟩,hB⟩ ⟨hlen,hpre,hpx⟩
   have hi:p.1<(dg y).length:=by rw[hpx];simp only[bk];omega
   obtain⟨b',off',hA',hcell⟩:=eq2 hB.b p.1 hi
   subst hA'
   obtain⟨d,hd⟩: ∃d,(dg y)[p.1]?.getD 0=d:=⟨_,rfl⟩
   rw[hd] at hcell
   obtain⟨i,v⟩:=p
   dsimp only at *
   gi_wp2
   ·have hlt:v<d:=by assumption
    exact⟨(KeepsOthers.setCell _ _ _).from _,⟨rfl,pre,(i,v),rfl,hp,.inl ⟨by rw[hd];exact hlt,World.cell?_setCell_same' _ _ _ (by rw[hcr];rfl)⟩⟩,hB.setCell (p:=⟨w.heap.size+1+1,0,none⟩) (by show w.heap.size≤w.heap.size+1+1;omega) _⟩
   ·have hlt:d<v:=by assumption
    exact⟨(KeepsOthers.setCell _ _ _).from _,⟨rfl,pre,(i,v),rfl,hp,.inr ⟨by rw[hd];exact hlt,World.cell?_setCell_same' _ _ _ (by rw[hcr];rfl)⟩⟩,hB.setCell (p:=⟨w.heap.size+1+1,0,none⟩) (by show w.heap.size≤w.heap.size+1+1;omega) _⟩
   ·have h1:¬v<d:=by assumption
    have h2:¬d<v:=by assumption
    refine⟨KeepsFrom.refl _ _,trivial,⟨fun p hp'=>?_,hcr,hfr,hcy,hcl⟩,hB⟩
    rcases List.mem_append.1 hp' with h | h
    ·exact hp p h
    ·simp at h;subst h;show(dg y)[i]?.getD 0=v;omega
  case done=>
   rintro D ps W hD rfl ⟨⟨hne,hcr,hfr,hcy,hcl⟩,hB⟩ hK
   gi_wp2
   have hK':=(KeepsOthers.setCell W ⟨w.heap.size+1+1,0,none⟩ (.int .i64 0)).same D _ hK rfl
   refine⟨by simp,.inl ⟨_,_,rfl,run_takeDeferred hK',?_⟩⟩
   have hc5:=cell_kept (World.cell?_setCell_same' W ⟨w.heap.size+1+1,0,none⟩ (.int .i64 0) (by rw[hcr];rfl)) (grownBy_putObj' _ D (.deferred none)) (fun r e=>by cases e;exact⟨_,hK',rfl⟩)
   refine⟨.int .i64 0,?_,?_,(hB.setCell (p:=⟨w.heap.size+1+1,0,none⟩) (by show w.heap.size≤w.heap.size+1+1;omega) _).put (by omega) hK' rfl rfl⟩
   ·simp[results,Tryz.f122,go_sem,hc5]
   ·have hxy:dg x=dg y:=by
     apply List.ext_getElem hle
     intro i h1 h2
     have hm:bk (dg x) ((dg x).length-1-i)∈bks (dg x) (dg x).length:=List.mem_map.2 ⟨_,List.mem_range.2 (by omega),rfl⟩
     have:=hne _ hm
     simp only[bk] at this
     rw[show(dg x).length-1-((dg x).length-1-i)=i by omega] at this
     rw[List.getElem?_eq_getElem h1,List.getElem?_eq_getElem h2] at this
     exact this.symm
    have:x=y:=by rw[←Ac5 x,←Ac5 y,hxy]
    rw[this,Ap9]
  case stop=>
   rintro D c pre W hD ⟨k,hk,rfl⟩ ⟨⟨rfl,ini,last,e1,e2,e3⟩,hB⟩ hK
   gi_wp2
   refine⟨by simp,.inl ⟨_,_,rfl,run_takeDeferred hK,?_⟩⟩
   rw[Bo8] at e1
   obtain⟨rfl,e5⟩:=List.append_inj' e1 rfl
   have e6:last=bk (dg x) k:=by simpa using e5.symm
   subst e6
   obtain⟨i,hi⟩: ∃i,(dg x).length-1-k=i:=⟨_,rfl⟩
   have hix:i<(dg x).length:=by omega
   have hiy:i<(dg y).length:=by omega
   simp only[bk,hi] at e3
   rw[List.getElem?_eq_getElem hix,List.getElem?_eq_getElem hiy] at e3
   simp only[Option.getD_some] at e3
   have hdrop:(dg x).drop (i+1)=(dg y).drop (i+1):=by
    apply List.ext_getElem (by simp;omega)
    intro j h1 h2
    simp only[List.length_drop] at h1 h2
    rw[List.getElem_drop,List.getElem_drop]
    have hm:bk (dg x) ((dg x).length-1-(i+1+j))∈bks (dg x) k:=List.mem_map.2 ⟨_,List.mem_range.2 (by omega),rfl⟩
    have:=e2 _ hm
    simp only[bk] at this
    rw[show(dg x).length-1-((dg x).length-1-(i+1+j))=i+1+j by omega] at this
    rw[List.getElem?_eq_getElem (by omega),List.getElem?_eq_getElem (by omega)] at this
    exact this.symm
   have hBD:=hB.put (o':=.deferred none) (by omega) hK rfl rfl
   rcases e3 with⟨hlt,hcr⟩ | ⟨hlt,hcr⟩
   ·have hc5:=cell_kept hcr (grownBy_putObj' _ D (.deferred none)) (fun r e=>by cases e;exact⟨_,hK,rfl⟩)
    have hv:=Cj5 (Ad8 x) hix hiy hdrop hlt
    rw[Ac5,Ac5] at hv
    exact⟨.int .i64 (-1),by simp[results,Tryz.f122,go_sem,hc5],by rw[Al0 hv],hBD⟩
   ·have hc5:=cell_kept hcr (grownBy_putObj' _ D (.deferred none)) (fun r e=>by cases e;exact⟨_,hK,rfl⟩)
    have hv:=Cj5 (Ad8 y) hiy hix hdrop.symm hlt
    rw[Ac5,Ac5] at hv
    exact⟨.int .i64 1,by simp[results,Tryz.f122,go_sem,hc5],by rw[Aj4 hv],hBD⟩
  ·exact Af7.and (Own.Ey9 (fun s A B row hs hg hr=>⟨hs.1,cell_kept hs.2.1 hg hr,(frozen_kept hs.2.1 hg hr).trans hs.2.2.1,cell_kept hs.2.2.2.1 hg hr,cell_kept hs.2.2.2.2 hg hr⟩) _) (Am0 (by omega))
  ·exact fun c=>Af7.and (Own.Ey9 (fun s A B row hs hg hr=>by
    obtain⟨hc,ini,last,e1,e2,e3⟩:=hs
    exact⟨hc,ini,last,e1,e2,e3.imp (fun h=>⟨h.1,cell_kept h.2 hg hr⟩) (fun h=>⟨h.1,cell_kept h.2 hg hr⟩)⟩) _) (Am0 (by omega))
  ·rintro pre W ⟨⟨_,_,_,_,hcl⟩,hB⟩
   refine⟨by rw[hle];exact hcl,fun b off hA j hj=>?_⟩
   rcases hX.below hB.b with h | ⟨b',off',h,_,hc⟩
   ·rw[h] at hj;simp at hj
   ·rw[hA] at h
    cases h
    exact hc j (by omega)
  ·exact⟨⟨by simp,bR.cell,bR.frozen,bY.cell,bL.cell⟩,hB4⟩
theorem Bd7 {M:Nat→Prop} {w w':World} (h:An0 w w'):Am7 M w w':=⟨h.b.os,h.b.tape,h.b.output,h.b.size,fun b hb _=>h.b.block b hb,h.d⟩
theorem Fd3 {t:TypeId} {W:PW} {s:Sl} {l:List Nat} (h:Ad4 t W s l):Lim W.w.heap.size W.w s.A l:=by
 obtain⟨hn,_,_,_,h4⟩:=h
 rcases h4 with h4 | ⟨b,o,cs,fz,hA,hS,hh,hc⟩
 ·left;simpa[cel] using h4
 ·refine .inr ⟨b,o,hA,(Array.getElem?_eq_some_iff.1 hh).1,fun j hj=>?_⟩
  have:=hc j (.int .u32 ((l[j]:Nat):Int)) (by rw[Al2];simp[cv,hj])
  simp only[World.cell?,hh]
  rw[List.getElem?_eq_getElem hj]
  simpa using this
theorem Ei9 {W0:PW} {M:Nat→Prop} {s t:Sl} {x y:Nat} (h1:Aa6 284 W0 s x) (h2:Aa6 284 W0 t y) (hx:nl x≤549755813888) (hy:nl y≤549755813888):
  Aa0 Tryz.prog 122 [.agg #[s.v],.agg #[t.v]] W0 M fun v W'=>v = .int .i64 (Dt2 x y)∧True:=by
 refine⟨⟨_,Tryz.func122,rfl,rfl⟩,fun _=>?_⟩
 have e1:s.n=(dg x).length:=h1.n
 have e2:t.n=(dg y).length:=h2.n
 have:=callsIn_wide.1 (Fm1 5 (by omega) s.A t.A s.c t.c x y hx hy W0.w (Fd3 h1) (Fd3 h2))
 rw[←e1,←e2] at this
 exact Calls.mono this fun e w' ⟨he,hB⟩=>⟨_,he,Bd7 hB,rfl,trivial⟩
theorem Ap6 {W0 W:PW} {M:Nat→Prop} {s t:Sl} {x y:Nat} {K:Value→PW→Prop} (h1:Aa6 284 W s x) (h2:Aa6 284 W t y) (hx:nl x≤549755813888) (hy:nl y≤549755813888) (kont: ∀(W':PW),Ext W W'→(True)→K (.int .i64 (Dt2 x y)) W'):
  Aa1 Tryz.prog W0 M 122 [.agg #[s.v],.agg #[t.v]] W K:=
 Aa2 (fun W' hE=>Ei9 (M:=fun _=>False) (h1.ext hE) (h2.ext hE) hx hy) (fun W' v W'' hE hE' hP=>by
  obtain⟨rfl,h⟩:=hP
  exact kont W'' (hE.trans hE') h)
end Go.Proofs.YtjkkidjbppphpaaGreatDoor
