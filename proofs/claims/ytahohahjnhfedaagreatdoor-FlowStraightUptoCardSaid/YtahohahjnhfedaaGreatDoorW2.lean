/- nat: long. -/
import Derived.Test.YtahohahjnhfedaaGreatDoorW1
import Derived.RangeFuncBox
import Derived.RangeFuncLeaves
import Derived.Shelf.Abstract
import Derived.WalkKit
import Derived.OwnWalkIn
import Derived.TacticsInMore
import Derived.LoopNIn
import Derived.LoopIn
import Derived.Test.YtahohahjnhfedaaGreatDoorLib2
set_option linter.unusedVariables false
set_option linter.unusedSimpArgs false
set_option maxRecDepth 100000
namespace Go.Proofs.YtahohahjnhfedaaGreatDoor
open Go Go.SX
def Fm4 (us vs:List Nat) (m g o:Nat) (cs:Array Value) (W0:PW) (l:List PL) (W:PW):Prop:=
 match l with
 | [.val (.int .i64 i),.row xs]=>∃(j:Nat) (ws zs:List Nat),i=(j:Int)-1∧xs=cel zs∧j≤m∧Aq5 W0 W g cs 141 o (cv ws)∧ws.length=us.length∧Dig ws∧zs.length=m∧Dig zs∧
   val (ws.drop j)<val vs∧val us=val ws+B^j*(val vs*val (zs.drop j))
 | _=>False
def Fg9 (l:List PL) (W:PW):Nat:=
 match l with
 | [.val (.int .i64 i),_]=>(i+1).toNat
 | _=>0
def Fs7 (A zs1 R vs:List Nat) (g o:Nat) (cs:Array Value) (W0:PW) (l:List PL) (W:PW):Prop:=
 match l with
 | [.val (.int .u64 c),.val (.int .i64 i)]=>∃(c' i':Nat) (T:List Nat),c=(c':Int)∧i=(i':Int)∧i'≤vs.length∧Aq5 W0 W g cs 141 o (cv (A ++ T ++ R))∧T.length=zs1.length∧Dig T∧T.drop i'=zs1.drop i'∧
   val (T.take i')+B^i'*c'=val (zs1.take i')+val (vs.take i')∧c'≤1
 | _=>False
def Fp3 (vs:List Nat) (l:List PL) (W:PW):Nat:=
 match l with
 | [_,.val (.int .i64 i)]=>vs.length-i.toNat
 | _=>0
theorem Ev0 {a b r V q β z:Nat} :a+b*(r+V*q)+b*β*(V*z)=a+b*r+b*(V*(q+β*z)):=by grind
theorem Dr0 {l r:List Nat} {i:Nat} (h:l.drop i=r.drop i):l[i]?=r[i]?:=by
 have:=congrArg (fun l=>l[0]?) h
 simpa using this
theorem Eq2 {l r:List Nat} {i:Nat} (h:l.drop i=r.drop i):l.drop (i+1)=r.drop (i+1):=by
 have:=congrArg (List.drop 1) h
 simpa[List.drop_drop] using this
theorem Ea3 {W0:PW} {u v:Sl} {us vs:List Nat} {g o:Nat} {cs:Array Value} (hm:Mut W0 141 u g o cs us) (hfr: ∀g',g'=g→True) (hv:Ad4 141 W0 v vs) (hne: ∀a:Addr,v.A=Option.some a→a.block≠g) (hl:vs.length≤us.length) (h2:2≤vs.length) (hdu:Dig us) (hdv:Dig vs)
  (ht: ∀h:vs.length-1<vs.length,vs[vs.length-1]≠0) (hUV:val (us.drop (us.length-vs.length))<val vs) (hb:us.length≤549755813888):
  Aa0 Tryz.prog 116 [u.v,v.v] W0 (fun b=>b=g) fun r W'=>∃(s':Sl) (ws zs:List Nat),r=s'.v∧Go.SX.Own W' 141 1 s' (cel zs)∧Aq4 W0 s'∧zs.length=us.length-vs.length∧Dig zs∧ws.length=us.length∧Dig ws∧Aq5 W0 W' g cs 141 o (cv ws)∧
   val us=val ws+val vs*val zs∧val ws<val vs:=by
 apply Cv2
 have hn:=hv.n
 have hun:=hm.n
 have huc:=hm.nc
 obtain⟨m,hmm⟩: ∃m,us.length=m+vs.length:=⟨us.length-vs.length,by omega⟩
 have hmm':us.length-vs.length=m:=by omega
 rw[hmm'] at hUV⊢
 obtain⟨n,hnn⟩: ∃n,vs.length=n:=⟨_,rfl⟩
 have eun:(u.n:Int)=((m+n:Nat):Int):=by omega
 have evn:(v.n:Int)=(n:Int):=by omega
 have hmay:may W0 (fun b=>b=g) g:=.inl rfl
 have esz:TyI.size Ld1=1:=rfl
 unfold Cy6
 simp only[eun,evn,esz]
 refine⟨by unfold I64;omega,⟨trivial,by omega,by omega⟩,by unfold I64;omega,by unfold I64;omega,Fm4 us vs m g o cs W0,Fg9,?_,?_⟩
 ·refine⟨m,us,List.replicate m 0,by push_cast;omega,?_,Nat.le_refl _,hm.start (Ext.refl _),rfl,hdu,by simp,fun d hd=>?_,hUV,by simp[val]⟩
  ·rw[show Int.toNat (((m+n:Nat):Int)-(n:Int))=m by omega];exact Ae3 _
  ·rw[(List.mem_replicate.1 hd).2];decide
 rintro l3 i4 W5 ⟨j,ws,zs,rfl,rfl,hj,hput,hwl,hdw,hzl,hdz,hlt,hval⟩
 have hv5:Ad4 141 W5 v vs:=Row.other hv hput.ext fun a ha=>hne a ha
 refine⟨fun hpos=>?_,fun hneg s22 W23 hE23 hO hf W25 hE25=>?_⟩
 ·obtain⟨p,rfl⟩: ∃p,j=p+1:=⟨j-1,by omega⟩
  have ep:((p+1:Nat):Int)-1=(p:Int):=by omega
  have epn:(p:Int)+(n:Int)+1=((p+n+1:Nat):Int):=by omega
  have epn0:(p:Int)+(n:Int)=((p+n:Nat):Int):=by omega
  rw[ep,epn,epn0,show Int.toNat (p:Int)=p from rfl,show Int.toNat ((p+n+1:Nat):Int)=p+n+1 from rfl,show Int.toNat ((p+n:Nat):Int)=p+n from rfl]
  obtain⟨A,hA⟩: ∃A,ws.take p=A:=⟨_,rfl⟩
  obtain⟨S,hS⟩: ∃S,(ws.take (p+n+1)).drop p=S:=⟨_,rfl⟩
  obtain⟨R,hR⟩: ∃R,ws.drop (p+n+1)=R:=⟨_,rfl⟩
  have hAl:A.length=p:=by rw[←hA];simp;omega
  have hSl:S.length=n+1:=by rw[←hS];simp;omega
  have hRl:R.length=m+n-(p+n+1):=by rw[←hR];simp;omega
  have hws:ws=A ++ S ++ R:=by
   rw[←hA,←hS,←hR]
   have h1:(ws.take (p+n+1)).take p=ws.take p:=by rw[List.take_take,Nat.min_eq_left (by omega)]
   rw[←h1,List.take_append_drop,List.take_append_drop]
  have hdS:Dig S:=by rw[←hS];exact(hdw.take _).drop _
  have hdA:Dig A:=by rw[←hA];exact hdw.take _
  have hdR:Dig R:=by rw[←hR];exact hdw.drop _
  have hm5:=hm.put hput hwl
  have hcutA:=hm5.cut (lo:=p) (hi:=p+n+1) (by omega) (by omega)
  rw[hS] at hcutA
  obtain⟨uc,huc'⟩: ∃uc,Sl.cut ⟨u.A,u.n,u.c⟩ 1 p (p+n+1)=uc:=⟨_,rfl⟩
  have huc2:Sl.cut u 1 p (p+n+1)=uc:=huc'
  rw[huc2] at hcutA
  rw[huc']
  have hX:ws.drop p=S ++ R:=by rw[hws,List.append_assoc,List.drop_left' hAl]
  have hV0:val vs<B^n:=by rw[←hnn];exact Ax5 hdv
  have hXlt:val (ws.drop p)<val vs*B:=by
   have h1:=Ah9 (l:=ws) (k:=p) (by omega)
   have h2:=hdw.at (k:=p) (by omega)
   rw[h1]
   have h3:=Nat.mul_le_mul_left B (show val (ws.drop (p+1))+1≤val vs by omega)
   rw[Nat.mul_add,Nat.mul_comm B (val vs)] at h3
   omega
  have hSR:val (S ++ R)=val S+B^(n+1)*val R:=by rw[Ag8,hSl]
  have hR0:val R=0:=by
   rw[hX,hSR] at hXlt
   apply Nat.eq_zero_of_not_pos
   intro h
   have h1:=Nat.mul_le_mul_left (B^(n+1)) h
   rw[Nat.mul_one,Nat.pow_succ] at h1
   have h2:=Nat.mul_lt_mul_of_pos_right hV0 Ad3
   rw[Nat.pow_succ] at hXlt
   omega
  have hSV:val S<val vs*B:=by rw[hX,hSR,hR0,Nat.mul_zero,Nat.add_zero] at hXlt;exact hXlt
  have hwsv:val ws=val A+B^p*val S:=by
   rw[hws,List.append_assoc,Ag8,hAl,hSR,hR0,Nat.mul_zero,Nat.add_zero]
  have hVp:0<val vs:=by omega
  have hqB:val S/val vs<B:=(Nat.div_lt_iff_lt_mul hVp).2 (by rw[Nat.mul_comm];exact hSV)
  obtain⟨q,hq⟩: ∃q,val S/val vs=q:=⟨_,rfl⟩
  have hSB:val S<B^(n+1):=by rw[←hSl];exact Ax5 hdS
  have done: ∀(Wn:PW) (S':List Nat),S'.length=n+1→Dig S'→val S'=val S%val vs→Aq5 W0 Wn g cs 141 o (cv (A ++ S' ++ R))→
    Fm4 us vs m g o cs W0 [.val (.int .i64 ((p:Int)-1)),.row (List.set (cel zs) p [.int .u32 (q:Int)])] Wn:=fun Wn S' hl' hd' hv' hput'=>by
   have hlen:(A ++ S' ++ R).length=us.length:=by simp;omega
   have hdrop:(A ++ S' ++ R).drop p=S' ++ R:=by rw[List.append_assoc,List.drop_left' hAl]
   have hS'R:val (S' ++ R)=val S':=by rw[Ag8,hR0,Nat.mul_zero,Nat.add_zero]
   refine⟨p,A ++ S' ++ R,zs.set p q,rfl,by rw[Ae9],by omega,hput',hlen,(hdA.append hd').append hdR,by simpa using hzl,hdz.set (by rw[←hq];exact hqB),?_,?_⟩
   ·rw[hdrop,hS'R,hv']
    exact Nat.mod_lt _ hVp
   ·rw[hval,hwsv]
    have e1:val (A ++ S' ++ R)=val A+B^p*(val S%val vs):=by rw[List.append_assoc,Ag8,hAl,hS'R,hv']
    have e2:val ((zs.set p q).drop p)=q+B*val (zs.drop (p+1)):=by
     rw[Ah9 (by simp;omega),List.getElem_set_self,Ah5 (Nat.lt_succ_self p)]
    rw[e1,e2]
    have hdm:=Nat.mod_add_div (val S) (val vs)
    rw[hq] at hdm
    rw[Nat.pow_succ]
    conv=>lhs;rw[←hdm]
    exact Ev0
  have dec: ∀Wn (S1 S2:List PL),Fg9 (.val (.int .i64 ((p:Int)-1)) :: S1) Wn<Fg9 (.val (.int .i64 (p:Int)) :: S2) W5∨S1.length≠1∨S2.length≠1:=fun Wn S1 S2=>by
   match S1,S2 with
   | [x],[y]=>
    left
    show((p:Int)-1+1).toNat<((p:Int)+1).toNat
    omega
   | [],_=>right;left;simp
   | _ :: _ :: _,_=>right;left;simp
   | [x],[]=>right;right;simp
   | [x],_ :: _ :: _=>right;right;simp
  refine⟨by unfold I64;omega,by unfold I64;omega,⟨by omega,by omega,by omega⟩,?_⟩
  refine Dz5 hcutA.row hv5 hdS hdv (by omega) h2 ht hSV (by omega) fun gq W7 hE7 ⟨hg1,hg2,hg3⟩=>⟨_,rfl,by unfold I64;omega,by unfold I64;omega,⟨by omega,by omega,by omega⟩,?_⟩
  have hcut7:=hcutA.ext hE7
  have hput7:=hput.ext' hE7
  have hv7:=hv5.ext hE7
  intro W8 hE8
  have hcut8:=hcut7.ext hE8
  have hput8:=hput7.ext' hE8
  have hv8:Ad4 141 W8 v vs:=hv7.ext hE8
  refine⟨fun b=>b=g,_,Dw7 hcut8 hv8 hne (by omega) hdS hdv hg3 (by omega),fun g' hg'=>by subst hg';exact⟨hput8.S,hmay⟩,fun r W10 hE10 hP=>?_⟩
  obtain⟨neg,zs1,rfl,hneg,hz1l,hdz1,hz1v,hput1⟩:=hP
  have hput10:Aq5 W0 W10 g cs 141 o (cv (A ++ zs1 ++ R)):=by
   have:=hput8.then hput1 (by omega) (by omega)
   rw[show o+p-o=p by omega,hz1l,hSl,hA,show p+(n+1)=p+n+1 by omega,hR] at this
   exact this
  have hz1B:val zs1<B^(n+1):=by
   have:=Ax5 hdz1
   rwa [hz1l,hSl] at this
  rw[hSl] at hz1v
  have hend:=Eu9 hVp (Nat.le_of_lt hV0) hq.symm (by omega) hz1B hz1v hneg hSB
  refine⟨_,rfl,fun hb11=>?_,fun hb11=>?_⟩
  ·-- one too many
   have hneg1:neg=1:=of_decide_eq_true hb11
   obtain⟨_,hgq,hzV⟩:neg=1∧gq=q+1∧val zs1+val vs=val S%val vs+B^(n+1):=by
    rcases hend with⟨h,_⟩ | h
    ·omega
    ·exact h
   have hv10:Ad4 141 W10 v vs:=Row.other hv hput10.ext fun a ha=>hne a ha
   refine⟨Fs7 A zs1 R vs g o cs W0,Fp3 vs,⟨0,0,zs1,rfl,rfl,by omega,hput10,rfl,hdz1,rfl,by simp[val],by omega⟩,?_⟩
   rintro i14 i15 W16 ⟨c,i,T,rfl,rfl,hi,hput16,hTl,hdT,hTd,hTv,hc⟩
   have hlen16:(A ++ T ++ R).length=us.length:=by simp;omega
   have hm16:=hm.put hput16 hlen16
   have hu16:=hm16.row
   have hv16:Ad4 141 W16 v vs:=Row.other hv hput16.ext fun a ha=>hne a ha
   refine⟨fun hlt=>?_,fun hge=>?_⟩
   ·have hiv:i<vs.length:=by omega
    have hiT:i<T.length:=by omega
    have hiz:i<zs1.length:=by omega
    have dv:=hdv.at hiv
    have dz:=hdz1.at hiz
    obtain⟨x,hx⟩: ∃x,vs[i]=x:=⟨_,rfl⟩
    obtain⟨y,hy⟩: ∃y,zs1[i]=y:=⟨_,rfl⟩
    have hTi:T[i]?=Option.some y:=by rw[Dr0 hTd,List.getElem?_eq_getElem hiz,hy]
    have hvx:=Ad4.at hv16 hiv
    rw[hx] at hvx dv
    rw[hy] at dz
    have hux:Aa7 W16 u 1 (p+i) 0 [.int .u32 (y:Int)]:=Ad4.atq hu16 (by rw[Eo4 hAl hiT,hTi])
    have ei:(i:Int)+(p:Int)=((p+i:Nat):Int):=by omega
    have e1:IntKind.wrap .u64 ((c:Int)+IntKind.wrap .u64 (IntKind.wrap .u64 (y:Int)+IntKind.wrap .u64 (x:Int)))=((c+y+x:Nat):Int):=by
     unfold B at dv dz
     rw[Ab1 (n:=x) (by omega),Ab1 (n:=y) (by omega),←Int.natCast_add,Ab1 (n:=y+x) (by omega),←Int.natCast_add,Ab1 (by omega),Nat.add_assoc]
    rw[ei]
    refine⟨Ad4.inB hv16 (by omega) (by omega),_,hvx,by unfold I64;omega,Ad4.inB hu16 (by omega) (by omega),_,hux,by unfold I64;omega,Ad4.inB hu16 (by omega) (by omega),?_⟩
    rw[e1,Ao0,Ab9,Nat.mul_one,Nat.add_zero,show Int.toNat ((p+i:Nat):Int)=p+i from rfl]
    refine Ar7 hm hput16 hlen16 (by omega) hmay fun W19 hput19=>⟨by unfold I64;omega,⟨(c+y+x)/B,i+1,T.set i ((c+y+x)%B),rfl,by push_cast;rfl,by omega,?_,by simpa using hTl,hdT.set (Nat.mod_lt _ Ad3),?_,?_,?_⟩,?_⟩
    ·rw[Ef6 hAl hiT] at hput19
     exact hput19
    ·rw[Ah5 (Nat.lt_succ_self i)]
     exact Eq2 hTd
    ·rw[Ac1 hiT,Aa4 hiv,Aa4 hiz,hx,hy,Nat.pow_succ]
     exact Bo5 hTv
    ·have:c+y+x<2*B:=by omega
     have:=(Nat.div_lt_iff_lt_mul Ad3).2 this
     omega
    ·show vs.length-Int.toNat ((i:Int)+1)<vs.length-Int.toNat (i:Int)
     omega
   ·have hin:i=n:=by omega
    rw[hin] at hTd hTv
    have hnT:n<T.length:=by omega
    have hnz:n<zs1.length:=by omega
    have dz:=hdz1.at hnz
    obtain⟨y,hy⟩: ∃y,zs1[n]=y:=⟨_,rfl⟩
    rw[hy] at dz
    have hTi:T[n]?=Option.some y:=by rw[Dr0 hTd,List.getElem?_eq_getElem hnz,hy]
    have hux:Aa7 W16 u 1 (p+n) 0 [.int .u32 (y:Int)]:=Ad4.atq hu16 (by rw[Eo4 hAl hnT,hTi])
    have hzs1:val zs1=val (zs1.take n)+B^n*y:=by
     rw[←hy,←Aa4 hnz,show n+1=zs1.length by omega,List.take_length]
    have hsum:val (T.take n)+B^n*(y+c)=val S%val vs+B^(n+1):=by
     rw[List.take_of_length_le (show vs.length≤n by omega)] at hTv
     rw[Nat.mul_add]
     omega
    have hTB:=Ae6 hdT n
    have hmodV:=Nat.mod_lt (val S) hVp
    have hyc:y+c=B:=by
     have h1:(val (T.take n)+B^n*(y+c))/B^n=y+c:=by
      rw[Nat.add_mul_div_left _ _ (Nat.pow_pos Ad3),Nat.div_eq_of_lt hTB,Nat.zero_add]
     rw[hsum,Nat.pow_succ,Nat.add_mul_div_left _ _ (Nat.pow_pos Ad3),Nat.div_eq_of_lt (by omega),Nat.zero_add] at h1
     exact h1.symm
    have hTn:val (T.take n)=val S%val vs:=by
     rw[hyc,Nat.pow_succ] at hsum
     omega
    have e1:IntKind.wrap .u32 ((y:Int)+IntKind.wrap .u32 (c:Int))=((0:Nat):Int):=by
     rw[Ab9,←Int.natCast_add,Ab9,Nat.mod_eq_of_lt (a:=c) (by unfold B;omega),hyc,Nat.mod_self]
    have e2:IntKind.wrap .u32 (IntKind.wrap .u64 ((gq:Int)-1))=(q:Int):=by
     rw[show(gq:Int)-1=(q:Int) by omega,Ab1 (by unfold B at hqB;omega),Ab9,Nat.mod_eq_of_lt (by omega)]
    refine⟨by unfold I64;omega,Ad4.inB hu16 (by omega) (by omega),_,hux,Ad4.inB hu16 (by omega) (by omega),?_⟩
    rw[e1,e2,Nat.mul_one,Nat.add_zero]
    refine Ar7 hm hput16 hlen16 (by omega) hmay fun W21 hput21=>⟨⟨by omega,by rw[Aa5];omega⟩,by rw[Aa5];omega,by unfold I64;omega,?_,?_⟩
    ·rw[Ef6 hAl hnT] at hput21
     refine done W21 (T.set n 0) (by simp;omega) (hdT.set Ad3) ?_ hput21
     have h1:(T.set n 0).take (n+1)=T.set n 0:=List.take_of_length_le (by simp;omega)
     have h2:=Ac1 (d:=0) hnT
     rw[h1,Nat.mul_zero,Nat.add_zero] at h2
     rw[h2,hTn]
    ·rcases dec W21 [_] [_] with h | h | h
     ·exact h
     ·simp at h
     ·simp at h
  ·have hneg0:neg=0:=by
    have:=of_decide_eq_false hb11
    omega
   obtain⟨_,hgq,hzV⟩:neg=0∧gq=q∧val zs1=val S%val vs:=by
    rcases hend with h | ⟨h,_⟩
    ·exact h
    ·omega
   have e2:IntKind.wrap .u32 (gq:Int)=(q:Int):=by
    rw[Ab9,Nat.mod_eq_of_lt (by omega),hgq]
   rw[e2]
   refine⟨⟨by omega,by rw[Aa5];omega⟩,by rw[Aa5];omega,by unfold I64;omega,done W10 zs1 (by omega) hdz1 hzV hput10,?_⟩
   rcases dec W10 [_] [_] with h | h | h
   ·exact h
   ·simp at h
   ·simp at h
 ·have:j=0:=by omega
  subst this
  refine⟨s22,ws,zs,rfl,hO.ext hE25,fun g hg=>(hf g hg).1,hzl,hdz,hwl,hdw,(hput.ext' hE23).ext' hE25,?_,hlt⟩
  rw[hval]
  simp
end Go.Proofs.YtahohahjnhfedaaGreatDoor
/- slices.Backward of limbs; nat.Cmp. -/
namespace Go.Proofs.YtahohahjnhfedaaGreatDoor
open Go Go.SX Go.RowKit Go.Shelf
attribute [local go_sem] Oper.semAt_some
def bk (zs:List Nat) (k:Nat):Nat×Nat:=(zs.length-1-k,zs[zs.length-1-k]?.getD 0)
def bks (zs:List Nat) (k:Nat):List (Nat×Nat):=(List.range k).map (bk zs)
theorem Bo8 (zs:List Nat) (k:Nat):bks zs (k+1)=bks zs k ++ [bk zs k]:=by simp[bks,List.range_succ]
theorem Ah8 (zs:List Nat) (k:Nat):(bks zs k).length=k:=by simp[bks]
def Fr7 (Bs:Nat) (v:Value) (b off:Nat) (zs:List Nat) (pre:List (Nat×Nat)) (W:World):Prop:=W.cell? ⟨Bs,0,none⟩=some v∧∀j,j<zs.length-pre.length→W.cell? ⟨b,off+j,none⟩=some (.int .u32 ((zs[j]?.getD 0:Nat):Int))
def Fi6 (zs:List Nat) (pre:List (Nat×Nat)) (x:Nat×Nat):Prop:=pre.length<zs.length∧pre=bks zs pre.length∧x=bk zs pre.length
def Ec8 (x:Nat×Nat):Array Value:=#[.int .i64 (x.1:Int),.int .u32 (x.2:Int)]
set_option maxRecDepth 100000 in
set_option maxHeartbeats 2000000 in
theorem Ex0 (n:Nat) (hn:1≤n) (Bs b off cap:Nat) (zs:List Nat) (hreach:zs.length≤1099511627776):
  Bv9 Fence.wide n Tryz.prog 111 #[.pointer (some ⟨Bs,0,none⟩)] Ec8 (Fr7 Bs (.slice (some ⟨b,off,none⟩) zs.length cap) b off zs) (Fi6 zs) (fun xs=>xs=bks zs zs.length) (fun pre=>∃k,k<zs.length∧pre=bks zs (k+1)):=by
 intro l J Jx W hJ hY h0
 refine callsIn_of_wp Tryz.func111 rfl trivial ?_ rfl
 simp only[Tryz.ntmps111,List.size_toArray,List.length_cons,List.length_nil,Nat.reduceAdd,Nat.reduceSub,Array.replicate_succ,Array.replicate_zero,List.push_toArray,List.append_toArray,List.nil_append,List.cons_append]
 have hbox:W.cell? ⟨Bs,0,none⟩=some (.slice (some ⟨b,off,none⟩) zs.length cap):=(hJ _ _ h0).1
 gi_wp2
 gi_loopw [3,7,8,9,10,11,12,13,14,15,16,17,18] (fun i _ _ _ _ _ _ _ _ _ _ _ _ wr=>∃m:Nat,m≤zs.length∧i = .int .i64 ((m:Int)-1)∧J (bks zs (zs.length-m)) wr)
  (fun i _ _ _ _ _ _ _ _ _ _ _ _ _=>(intOf i+1).toNat)
 case atStart=>exact⟨zs.length,Nat.le_refl _,rfl,by simpa[bks] using h0⟩
 case round=>
  obtain⟨m,hm,rfl,hJs⟩:=hrel
  obtain⟨hbx,hmem⟩:=hJ _ _ hJs
  cases m with
  | zero=>
   gi_wp2
   go_end0
   exact⟨⟨_,rfl⟩,.inl ⟨_,rfl,by simpa using hJs⟩⟩
  | succ k=>
   have hk:k<zs.length:=by omega
   have hcx:wr.cell? ⟨b,off+k,none⟩=some (.int .u32 ((zs[k]?.getD 0:Nat):Int)):=hmem k (by rw[Ah8];omega)
   have e1:((k+1:Nat):Int)-1=(k:Int):=by omega
   have hx:bk zs (zs.length-(k+1))=(k,zs[k]?.getD 0):=by simp only[bk];rw[show zs.length-1-(zs.length-(k+1))=k by omega]
   obtain⟨fn,tmps,assign,body,hy,hR⟩:=hY _ (bk zs (zs.length-(k+1))) wr hJs ⟨by rw[Ah8];omega,by rw[Ah8],by rw[Ah8]⟩
   obtain⟨d,hd⟩: ∃d,zs[k]?.getD 0=d:=⟨_,rfl⟩
   rw[hd] at hcx hx
   rw[hx] at hy hR
   rw[e1]
   dsimp only[Ec8] at hy
   have hpre:bks zs (zs.length-(k+1)) ++ [(k,d)]=bks zs (zs.length-(k+1)+1):=by rw[Bo8,hx]
   gi_wp2
   refine hR.mono ?_
   rintro e W3 (⟨rfl,hJ3⟩ | ⟨rfl,hJx3⟩)
   ·rw[hpre,show zs.length-(k+1)+1=zs.length-k by omega] at hJ3
    gi_wp2
    go_roundw
    case rel=>exact⟨k,by omega,rfl,hJ3⟩
    case measure=>simp[intOf]
   ·rw[hpre] at hJx3
    gi_wp2
    refine bodyPost_ret (results_none rfl _ _ _) rfl ?_
    exact⟨⟨_,rfl⟩,.inr ⟨_,⟨_,by omega,rfl⟩,hJx3⟩⟩
set_option maxRecDepth 100000 in
set_option maxHeartbeats 2000000 in
theorem Cp3 (n:Nat) (hn:1≤n) (Bs:Nat) (A:Option Addr) (cap:Nat) (Mem:List (Nat×Nat)→World→Prop) (hMem: ∀pre W,Mem pre W→W.cell? ⟨Bs,0,none⟩=some (.slice A 0 cap)):
  Bv9 Fence.wide n Tryz.prog 111 #[.pointer (some ⟨Bs,0,none⟩)] Ec8 Mem (Fi6 []) (fun xs=>xs=bks [] 0) (fun pre=>∃k,k<0∧pre=bks [] (k+1)):=by
 intro l J Jx W hJ hY h0
 refine callsIn_of_wp Tryz.func111 rfl trivial ?_ rfl
 simp only[Tryz.ntmps111,List.size_toArray,List.length_cons,List.length_nil,Nat.reduceAdd,Nat.reduceSub,Array.replicate_succ,Array.replicate_zero,List.push_toArray,List.append_toArray,List.nil_append,List.cons_append]
 have hbox:W.cell? ⟨Bs,0,none⟩=some (.slice A 0 cap):=hMem _ _ (hJ _ _ h0)
 gi_wp2
 gi_loopw [3,7,8] (fun i _ _ wr=>i = .int .i64 (-1)∧J [] wr) (fun _ _ _ _=>0)
 case atStart=>exact⟨by simp,h0⟩
 case round=>
  obtain⟨rfl,hJs⟩:=hrel
  gi_wp2
  go_end0
  exact⟨⟨_,rfl⟩,.inl ⟨_,rfl,hJs⟩⟩
def bkA (Bs:Nat) (A:Option Addr) (cap:Nat) (zs:List Nat) (pre:List (Nat×Nat)) (W:World):Prop:=W.cell? ⟨Bs,0,none⟩=some (.slice A zs.length cap)∧∀b off,A=some ⟨b,off,none⟩→∀j,j<zs.length-pre.length→W.cell? ⟨b,off+j,none⟩=some (.int .u32 ((zs[j]?.getD 0:Nat):Int))
theorem Ef1 (n:Nat) (hn:1≤n) (Bs:Nat) (A:Option Addr) (cap:Nat) (zs:List Nat) (hreach:zs.length≤1099511627776) (hA:zs = []∨∃b off,A=some ⟨b,off,none⟩):
  Bv9 Fence.wide n Tryz.prog 111 #[.pointer (some ⟨Bs,0,none⟩)] Ec8 (bkA Bs A cap zs) (Fi6 zs) (fun xs=>xs=bks zs zs.length) (fun pre=>∃k,k<zs.length∧pre=bks zs (k+1)):=by
 rcases hA with rfl | ⟨b,off,rfl⟩
 ·exact Cp3 n hn Bs A cap _ fun pre W h=>h.1
 ·intro l J Jx W hJ hY h0
  exact Ex0 n hn Bs b off cap zs hreach l J Jx W (fun pre W' h=>⟨(hJ pre W' h).1,(hJ pre W' h).2 b off rfl⟩) hY h0
set_option maxHeartbeats 1000000 in
theorem Bs1 (n:Nat) (a:Option Addr) (len cap:Nat) (w:World):
  CallsIn Fence.wide n Tryz.prog 71 #[.slice a len cap] w fun e w'=>e = .returned (.func (.func 111) #[] #[.pointer (some ⟨w.heap.size,0,none⟩)])∧w'=w.alloc (.cells #[.slice a len cap] 29):=by
 refine callsIn_of_wp Tryz.func71 rfl trivial ?_ rfl
 simp only[Tryz.ntmps71,List.size_toArray,List.length_cons,List.length_nil,Nat.reduceAdd,Nat.reduceSub,Array.replicate_succ,Array.replicate_zero,List.push_toArray,List.append_toArray,List.nil_append,List.cons_append]
 gi_wp2
 go_ret
 exact⟨rfl,rfl⟩
end Go.Proofs.YtahohahjnhfedaaGreatDoor
/- nat.Cmp. -/
namespace Go.Proofs.YtahohahjnhfedaaGreatDoor
open Go Go.SX Go.RowKit Go.Shelf
attribute [local go_sem] Oper.semAt_some
def Dt2 (x y:Nat):Int:=if x<y then -1 else if x=y then 0 else 1
theorem Al0 {x y:Nat} (h:x<y):Dt2 x y = -1:=by simp[Dt2,h]
theorem Ap9 (x:Nat):Dt2 x x=0:=by simp[Dt2]
theorem Aj4 {x y:Nat} (h:y<x):Dt2 x y=1:=by
 unfold Dt2
 rw[if_neg (by omega),if_neg (by omega)]
def Lim (n₀ :Nat) (W:World) (A:Option Addr) (l:List Nat):Prop:=l = []∨∃b off,A=some ⟨b,off,none⟩∧b<n₀∧∀j,j<l.length→W.cell? ⟨b,off+j,none⟩=some (.int .u32 ((l[j]?.getD 0:Nat):Int))
theorem Lim.below {n₀ :Nat} {V W:World} {A:Option Addr} {l:List Nat} (h:Lim n₀ V A l) (hB:Below n₀ V W):Lim n₀ W A l:=by
 rcases h with h | ⟨b,off,hA,hb,hc⟩
 ·exact .inl h
 ·exact .inr ⟨b,off,hA,hb,fun j hj=>(hB.cell (p:=⟨b,off+j,none⟩) hb).trans (hc j hj)⟩
theorem Cj5 {l r:List Nat} (hl:Dig l) {i:Nat} (hil:i<l.length) (hir:i<r.length) (h:l.drop (i+1)=r.drop (i+1)) (hlt:l[i]<r[i]):val l<val r:=by
 have e1:=Am8 l (k:=i+1) hil
 have e2:=Am8 r (k:=i+1) hir
 rw[Aa4 hil] at e1
 rw[Aa4 hir] at e2
 rw[e1,e2,h]
 have h1:=Ae6 hl i
 have h2:=Nat.mul_le_mul_left (B^i) (show l[i]+1≤r[i] from hlt)
 rw[Nat.mul_add,Nat.mul_one] at h2
 omega
set_option maxRecDepth 100000 in
set_option maxHeartbeats 4000000 in
theorem Fm1 (n:Nat) (hn:3≤n) (A A':Option Addr) (cap cap':Nat) (x y:Nat) (hx:nl x≤549755813888) (hy:nl y≤549755813888) (w:World) (hX:Lim w.heap.size w A (dg x)) (hY:Lim w.heap.size w A' (dg y)):
  CallsIn Fence.wide n Tryz.prog 30 #[.agg #[.slice A (dg x).length cap],.agg #[.slice A' (dg y).length cap']] w fun e W'=>e = .returned (.int .i64 (Dt2 x y))∧An0 w W':=by
 refine callsIn_of_wp_marks Tryz.func30 rfl trivial ?_ rfl
 simp only[Tryz.ntmps30,List.size_toArray,List.length_cons,List.length_nil,Nat.reduceAdd,Nat.reduceSub,Array.replicate_succ,Array.replicate_zero,List.push_toArray,List.append_toArray,List.nil_append,List.cons_append]
 have hB3: ∀v,An0 w (((w.alloc (.cells #[.slice A (dg x).length cap] 31)).alloc (.cells #[.slice A' (dg y).length cap'] 31)).alloc (.cells #[v] 3)):=fun v=>⟨((((Below.refl _ w).alloc (Nat.le_refl _) _).alloc (by simp) _).alloc (by simp;omega) _),Nat.le_refl _⟩
 gi_wp2
 ·have hlt:(dg x).length<(dg y).length:=by assumption
  refine⟨.int .i64 (-1),by simp[results,Tryz.f30,go_sem],?_,hB3 _⟩
  rw[Al0]
  apply Nat.lt_of_not_le
  intro h
  have:=Ad1 h
  unfold nl at this
  omega
 ·have hne:¬(dg x).length<(dg y).length:=by assumption
  have hne2:((((dg x).length:Nat):Int) != (((dg y).length:Nat):Int))=true:=by assumption
  have hne3:(dg x).length≠(dg y).length:=by
   intro e
   rw[e] at hne2
   simp at hne2
  refine⟨.int .i64 1,by simp[results,Tryz.f30,go_sem],?_,hB3 _⟩
  rw[Aj4]
  apply Nat.lt_of_not_le
  intro h
  have:=Ad1 h
  unfold nl at this
  omega
 ·have hne2:((((dg x).length:Nat):Int) != (((dg y).length:Nat):Int))=false:=by assumption
  have hle:(dg x).length=(dg y).length:=by
   have:(((dg x).length:Nat):Int)=(((dg y).length:Nat):Int):=by
    rcases Decidable.em ((((dg x).length:Nat):Int)=(((dg y).length:Nat):Int)) with h | h
    ·exact h
    ·simp only[bne_eq_false_iff_eq] at hne2
     exact hne2
   omega
  refine⟨trivial,fun _=>by omega,(Bs1 (n-1) _ _ _ _).mono ?_⟩
  rintro e w' ⟨rfl,rfl⟩
  gi_wp2
  obtain⟨W4,hW4⟩: ∃W4,((((w.alloc (.cells #[.slice A (dg y).length cap] 31)).alloc (.cells #[.slice A' (dg y).length cap'] 31)).alloc (.cells #[.int .i64 0] 3)).alloc (.cells #[.slice A (dg y).length cap] 29))=W4:=⟨_,rfl⟩
  have hsz:W4.heap.size=w.heap.size+1+1+1+1:=by rw[←hW4];simp
  have hB4:An0 w W4:=by rw[←hW4];have:=hB3 (.int .i64 0);rw[hle] at this;exact⟨this.b.alloc (by simp;omega) _,this.d⟩
  have bL:Boxed W4 (w.heap.size+1+1+1) 29 (.slice A (dg y).length cap):=by
   rw[←hW4]
   have:=Boxed.new (((w.alloc (.cells #[.slice A (dg y).length cap] 31)).alloc (.cells #[.slice A' (dg y).length cap'] 31)).alloc (.cells #[.int .i64 0] 3)) 29 (.slice A (dg y).length cap)
   simpa using this
  have bR:Boxed W4 (w.heap.size+1+1) 3 (.int .i64 0):=by
   rw[←hW4]
   have:=Boxed.new ((w.alloc (.cells #[.slice A (dg y).length cap] 31)).alloc (.cells #[.slice A' (dg y).length cap'] 31)) 3 (.int .i64 0)
   simpa using this.alloc (.cells #[.slice A (dg y).length cap] 29)
  have bY:Boxed W4 (w.heap.size+1) 31 (.slice A' (dg y).length cap'):=by
   rw[←hW4]
   have:=Boxed.new (w.alloc (.cells #[.slice A (dg y).length cap] 31)) 31 (.slice A' (dg y).length cap')
   simpa using(this.alloc (.cells #[.int .i64 0] 3)).alloc (.cells #[.slice A (dg y).length cap] 29)
  rw[hW4]
  have hlx:(dg x).length≤549755813888:=hx
  have hly:(dg y).length≤549755813888:=hy
  have hAx:dg x = []∨∃b off,A=some ⟨b,off,none⟩:=by
   rcases hX with h | ⟨b,off,h,_⟩
   ·exact .inl h
   ·exact .inr ⟨b,off,h⟩
  have eq2: ∀{W:World},Below w.heap.size w W→∀k,k<(dg y).length→∃b off,A'=some ⟨b,off,none⟩∧W.cell? ⟨b,off+k,none⟩=some (.int .u32 (((dg y)[k]?.getD 0:Nat):Int)):=fun hB k hk=>by
   rcases hY.below hB with h | ⟨b,off,h,_,hc⟩
   ·rw[h] at hk;simp at hk
   ·exact⟨b,off,h,hc k hk⟩
  refine As7 (α:=Nat×Nat) (n:=n) rfl (by omega) (gf:=111) (lb:=#[.pointer (some ⟨w.heap.size+1+1+1,0,none⟩)]) rfl trivial (enters_of Tryz.func111 (by kernel_rfl) rfl)
   (Ef1 (n-1) (by omega) (w.heap.size+1+1+1) A cap (dg x) (by omega) hAx) (fun _=>rfl)
   (fun pre W=>((∀p∈pre,(dg y)[p.1]?.getD 0=p.2)∧W.cell? ⟨w.heap.size+1+1,0,none⟩=some (.int .i64 0)∧W.frozen? ⟨w.heap.size+1+1,0,none⟩=false∧W.cell? ⟨w.heap.size+1,0,none⟩=some (.slice A' (dg y).length cap')∧W.cell? ⟨w.heap.size+1+1+1,0,none⟩=some (.slice A (dg y).length cap))∧An0 w W)
   (fun c pre W=>(c = .ret∧∃ini last,pre=ini ++ [last]∧(∀p∈ini,(dg y)[p.1]?.getD 0=p.2)∧((last.2<(dg y)[last.1]?.getD 0∧W.cell? ⟨w.heap.size+1+1,0,none⟩=some (.int .i64 (-1)))∨((dg y)[last.1]?.getD 0<last.2∧W.cell? ⟨w.heap.size+1+1,0,none⟩=some (.int .i64 1))))∧An0 w W)
   ?_ ?_ ?_ ?_
   (fun x=>{tmps:=#[.agg #[.slice A (dg y).length cap],.agg #[.slice A' (dg y).length cap'],.pointer (some ⟨w.heap.size,0,none⟩),.pointer (some ⟨w.heap.size+1,0,none⟩),.pointer (some ⟨w.heap.size+1+1,0,none⟩),.int .i64 (x.1:Int),.int .u32 (x.2:Int),
     .pointer (some ⟨w.heap.size,0,none⟩),.slice A (dg y).length cap,.int .i64 ((dg y).length:Nat),.pointer (some ⟨w.heap.size+1,0,none⟩),.slice A' (dg y).length cap',.int .i64 ((dg y).length:Nat),.bool false,undef,undef,undef,undef,undef,undef,undef,
     .pointer (some ⟨w.heap.size,0,none⟩),.slice A (dg y).length cap,.func (.func 111) #[] #[.pointer (some ⟨w.heap.size+1+1+1,0,none⟩)],.int .i64 (x.1:Int),.int .u32 (x.2:Int),undef,undef,undef,undef,undef,undef,undef,undef,undef,undef,undef,undef,undef,undef,undef,undef],defers:=[] }) ?assign ?body ?done ?stop
  case assign=>
   intro l p W K hK
   simp only[Ec8]
   gi_wp2
   exact hK
  case body=>
   rintro l pre p W ⟨⟨hp,hcr,hfr,hcy,hcl⟩,hB⟩ ⟨hlen,hpre,hpx⟩
   have hi:p.1<(dg y).length:=by rw[hpx];simp only[bk];omega
   obtain⟨b',off',hA',hcell⟩:=eq2 hB.b p.1 hi
   subst hA'
   obtain⟨d,hd⟩: ∃d,(dg y)[p.1]?.getD 0=d:=⟨_,rfl⟩
   rw[hd] at hcell
   obtain⟨i,v⟩:=p
   dsimp only at *
   gi_wp2
   ·have hlt:v<d:=by assumption
    exact⟨(KeepsOthers.setCell _ _ _).from _,⟨rfl,pre,(i,v),rfl,hp,.inl ⟨by rw[hd];exact hlt,World.cell?_setCell_same' _ _ _ (by rw[hcr];rfl)⟩⟩,hB.setCell (p:=⟨w.heap.size+1+1,0,none⟩) (by show w.heap.size≤w.heap.size+1+1;omega) _⟩
   ·have hlt:d<v:=by assumption
    exact⟨(KeepsOthers.setCell _ _ _).from _,⟨rfl,pre,(i,v),rfl,hp,.inr ⟨by rw[hd];exact hlt,World.cell?_setCell_same' _ _ _ (by rw[hcr];rfl)⟩⟩,hB.setCell (p:=⟨w.heap.size+1+1,0,none⟩) (by show w.heap.size≤w.heap.size+1+1;omega) _⟩
   ·have h1:¬v<d:=by assumption
    have h2:¬d<v:=by assumption
    refine⟨KeepsFrom.refl _ _,trivial,⟨fun p hp'=>?_,hcr,hfr,hcy,hcl⟩,hB⟩
    rcases List.mem_append.1 hp' with h | h
    ·exact hp p h
    ·simp at h;subst h;show(dg y)[i]?.getD 0=v;omega
  case done=>
   rintro D ps W hD rfl ⟨⟨hne,hcr,hfr,hcy,hcl⟩,hB⟩ hK
   gi_wp2
   have hK':=(KeepsOthers.setCell W ⟨w.heap.size+1+1,0,none⟩ (.int .i64 0)).same D _ hK rfl
   refine⟨by simp,.inl ⟨_,_,rfl,run_takeDeferred hK',?_⟩⟩
   have hc5:=cell_kept (World.cell?_setCell_same' W ⟨w.heap.size+1+1,0,none⟩ (.int .i64 0) (by rw[hcr];rfl)) (grownBy_putObj' _ D (.deferred none)) (fun r e=>by cases e;exact⟨_,hK',rfl⟩)
   refine⟨.int .i64 0,?_,?_,(hB.setCell (p:=⟨w.heap.size+1+1,0,none⟩) (by show w.heap.size≤w.heap.size+1+1;omega) _).put (by omega) hK' rfl rfl⟩
   ·simp[results,Tryz.f30,go_sem,hc5]
   ·have hxy:dg x=dg y:=by
     apply List.ext_getElem hle
     intro i h1 h2
     have hm:bk (dg x) ((dg x).length-1-i)∈bks (dg x) (dg x).length:=List.mem_map.2 ⟨_,List.mem_range.2 (by omega),rfl⟩
     have:=hne _ hm
     simp only[bk] at this
     rw[show(dg x).length-1-((dg x).length-1-i)=i by omega] at this
     rw[List.getElem?_eq_getElem h1,List.getElem?_eq_getElem h2] at this
     exact this.symm
    have:x=y:=by rw[←Ac5 x,←Ac5 y,hxy]
    rw[this,Ap9]
  case stop=>
   rintro D c pre W hD ⟨k,hk,rfl⟩ ⟨⟨rfl,ini,last,e1,e2,e3⟩,hB⟩ hK
   gi_wp2
   refine⟨by simp,.inl ⟨_,_,rfl,run_takeDeferred hK,?_⟩⟩
   rw[Bo8] at e1
   obtain⟨rfl,e5⟩:=List.append_inj' e1 rfl
   have e6:last=bk (dg x) k:=by simpa using e5.symm
   subst e6
   obtain⟨i,hi⟩: ∃i,(dg x).length-1-k=i:=⟨_,rfl⟩
   have hix:i<(dg x).length:=by omega
   have hiy:i<(dg y).length:=by omega
   simp only[bk,hi] at e3
   rw[List.getElem?_eq_getElem hix,List.getElem?_eq_getElem hiy] at e3
   simp only[Option.getD_some] at e3
   have hdrop:(dg x).drop (i+1)=(dg y).drop (i+1):=by
    apply List.ext_getElem (by simp;omega)
    intro j h1 h2
    simp only[List.length_drop] at h1 h2
    rw[List.getElem_drop,List.getElem_drop]
    have hm:bk (dg x) ((dg x).length-1-(i+1+j))∈bks (dg x) k:=List.mem_map.2 ⟨_,List.mem_range.2 (by omega),rfl⟩
    have:=e2 _ hm
    simp only[bk] at this
    rw[show(dg x).length-1-((dg x).length-1-(i+1+j))=i+1+j by omega] at this
    rw[List.getElem?_eq_getElem (by omega),List.getElem?_eq_getElem (by omega)] at this
    exact this.symm
   have hBD:=hB.put (o':=.deferred none) (by omega) hK rfl rfl
   rcases e3 with⟨hlt,hcr⟩ | ⟨hlt,hcr⟩
   ·have hc5:=cell_kept hcr (grownBy_putObj' _ D (.deferred none)) (fun r e=>by cases e;exact⟨_,hK,rfl⟩)
    have hv:=Cj5 (Ad8 x) hix hiy hdrop hlt
    rw[Ac5,Ac5] at hv
    exact⟨.int .i64 (-1),by simp[results,Tryz.f30,go_sem,hc5],by rw[Al0 hv],hBD⟩
   ·have hc5:=cell_kept hcr (grownBy_putObj' _ D (.deferred none)) (fun r e=>by cases e;exact⟨_,hK,rfl⟩)
    have hv:=Cj5 (Ad8 y) hiy hix hdrop.symm hlt
    rw[Ac5,Ac5] at hv
    exact⟨.int .i64 1,by simp[results,Tryz.f30,go_sem,hc5],by rw[Aj4 hv],hBD⟩
  ·exact Af7.and (Own.Ey9 (fun s A B row hs hg hr=>⟨hs.1,cell_kept hs.2.1 hg hr,(frozen_kept hs.2.1 hg hr).trans hs.2.2.1,cell_kept hs.2.2.2.1 hg hr,cell_kept hs.2.2.2.2 hg hr⟩) _) (Am0 (by omega))
  ·exact fun c=>Af7.and (Own.Ey9 (fun s A B row hs hg hr=>by
    obtain⟨hc,ini,last,e1,e2,e3⟩:=hs
    exact⟨hc,ini,last,e1,e2,e3.imp (fun h=>⟨h.1,cell_kept h.2 hg hr⟩) (fun h=>⟨h.1,cell_kept h.2 hg hr⟩)⟩) _) (Am0 (by omega))
  ·rintro pre W ⟨⟨_,_,_,_,hcl⟩,hB⟩
   refine⟨by rw[hle];exact hcl,fun b off hA j hj=>?_⟩
   rcases hX.below hB.b with h | ⟨b',off',h,_,hc⟩
   ·rw[h] at hj;simp at hj
   ·rw[hA] at h
    cases h
    exact hc j (by omega)
  ·exact⟨⟨by simp,bR.cell,bR.frozen,bY.cell,bL.cell⟩,hB4⟩
theorem Bd7 {M:Nat→Prop} {w w':World} (h:An0 w w'):Am7 M w w':=⟨h.b.os,h.b.tape,h.b.output,h.b.size,fun b hb _=>h.b.block b hb,h.d⟩
theorem Fd3 {t:TypeId} {W:PW} {s:Sl} {l:List Nat} (h:Ad4 t W s l):Lim W.w.heap.size W.w s.A l:=by
 obtain⟨hn,_,_,_,h4⟩:=h
 rcases h4 with h4 | ⟨b,o,cs,fz,hA,hS,hh,hc⟩
 ·left;simpa[cel] using h4
 ·refine .inr ⟨b,o,hA,(Array.getElem?_eq_some_iff.1 hh).1,fun j hj=>?_⟩
  have:=hc j (.int .u32 ((l[j]:Nat):Int)) (by rw[Al2];simp[cv,hj])
  simp only[World.cell?,hh]
  rw[List.getElem?_eq_getElem hj]
  simpa using this
theorem Ei9 {W0:PW} {M:Nat→Prop} {s t:Sl} {x y:Nat} (h1:Aa6 141 W0 s x) (h2:Aa6 141 W0 t y) (hx:nl x≤549755813888) (hy:nl y≤549755813888):
  Aa0 Tryz.prog 30 [.agg #[s.v],.agg #[t.v]] W0 M fun v W'=>v = .int .i64 (Dt2 x y)∧True:=by
 refine⟨⟨_,Tryz.func30,rfl,rfl⟩,fun _=>?_⟩
 have e1:s.n=(dg x).length:=h1.n
 have e2:t.n=(dg y).length:=h2.n
 have:=callsIn_wide.1 (Fm1 5 (by omega) s.A t.A s.c t.c x y hx hy W0.w (Fd3 h1) (Fd3 h2))
 rw[←e1,←e2] at this
 exact Calls.mono this fun e w' ⟨he,hB⟩=>⟨_,he,Bd7 hB,rfl,trivial⟩
theorem Ap6 {W0 W:PW} {M:Nat→Prop} {s t:Sl} {x y:Nat} {K:Value→PW→Prop} (h1:Aa6 141 W s x) (h2:Aa6 141 W t y) (hx:nl x≤549755813888) (hy:nl y≤549755813888) (kont: ∀(W':PW),Ext W W'→(True)→K (.int .i64 (Dt2 x y)) W'):
  Aa1 Tryz.prog W0 M 30 [.agg #[s.v],.agg #[t.v]] W K:=
 Aa2 (fun W' hE=>Ei9 (M:=fun _=>False) (h1.ext hE) (h2.ext hE) hx hy) (fun W' v W'' hE hE' hP=>by
  obtain⟨rfl,h⟩:=hP
  exact kont W'' (hE.trans hE') h)
end Go.Proofs.YtahohahjnhfedaaGreatDoor
/- nat.short. -/
namespace Go.Proofs.YtahohahjnhfedaaGreatDoor
open Go Go.SX Go.RowKit Go.Shelf
attribute [local go_sem] Oper.semAt_some
theorem Be8 {W:World} {b off:Nat} {cs:Array Value} {t:TypeId} {fz:Nat×Nat} (v:Value) (h:W.heap[b]?=some (.cells cs t fz)):(W.setCell ⟨b,off,none⟩ v).heap[b]?=some (.cells (cs.setIfInBounds off v) t fz):=by
 obtain⟨hlt,hk⟩:=Array.getElem?_eq_some_iff.1 h
 show(W.heap.modify b _)[b]?=_
 rw[Array.getElem?_eq_getElem (by rw[Array.size_modify];exact hlt),Array.getElem_modify_self,hk]
 rfl
theorem Eu6 {cs:Array Value} {o i d:Nat} {ws:List Nat} (hi:i<ws.length):(Aj6 cs.toList o (cv ws)).toArray.setIfInBounds (o+i) (.int .u32 (d:Int))=(Aj6 cs.toList o (cv (ws.set i d))).toArray:=by
 apply Array.ext'
 simp only[Array.toList_setIfInBounds]
 have:=Db5 (l:=cs.toList) (o:=o) (p:=o+i) (us:=ws) (ws:=[d]) (by omega) (by simp;omega)
 rw[show o+i-o=i by omega] at this
 rw[Fd8 ws i d hi]
 exact this
theorem Af8 {W:World} {B B':Nat} {t:TypeId} {v:Value} (h:Boxed W B t v) (hne:B≠B') (o:Nat) (u:Value):Boxed (W.setCell ⟨B',o,none⟩ u) B t v:=(Below.heap_setCell W ⟨B',o,none⟩ u B hne).trans h
theorem Cu4 {W:World} {g o:Nat} {cs:Array Value} {t:TypeId} {fz:Nat×Nat} {ws:List Nat} (h:W.heap[g]?=some (.cells (Aj6 cs.toList o (cv ws)).toArray t fz)) (hr:o+ws.length≤cs.size) {j d:Nat} (hj:ws[j]?=some d):W.cell? ⟨g,o+j,none⟩=some (.int .u32 (d:Int)):=by
 have hl:=(List.getElem?_eq_some_iff.1 hj).1
 simp only[World.cell?,h]
 have:(Aj6 cs.toList o (cv ws))[o+j]?=some (.int .u32 (d:Int)):=by
  rw[Ap0,if_pos (by rw[Ag7];simp;omega),show o+j-o=j by omega]
  simp[cv,hj]
 simpa using this
def shI (w:World) (g o:Nat) (cs:Array Value) (us:List Nat) (A:Option Addr) (cap by':Nat) (pre:List (Nat×Nat)) (W:World):Prop:=
 (∃(ws:List Nat) (r:Nat),W.heap[g]?=some (.cells (Aj6 cs.toList o (cv ws)).toArray 141 (0,0))∧ws.length=us.length∧Dig ws∧ws.take (us.length-pre.length)=us.take (us.length-pre.length)∧
  val (us.drop (us.length-pre.length))=by'*val (ws.drop (us.length-pre.length))+r∧r<by'∧Boxed W (w.heap.size+1+1) 110 (.int .u64 (r:Int)))∧
 (Boxed W w.heap.size 29 (.slice A us.length cap)∧Boxed W (w.heap.size+1) 141 (.int .u32 (by':Int))∧Boxed W (w.heap.size+1+1+1) 29 (.slice A us.length cap))∧Am7 (fun b=>b=g) w W
theorem Bd8 {W W':World} {row:Option Nat} {B B':Nat} {t:TypeId} {v:Value} (h:Boxed W B t v) (hg:W.grownBy W' row) (hr: ∀r,row=some r→B'≤r∧∃o:Obj,W.heap[r]?=some o∧o.isCells=false):Boxed W' B t v:=by
 refine h.kept hg fun e=>?_
 obtain⟨_,o,ho,hc⟩:=hr B e.symm
 have h:W.heap[B]?=_:=h
 rw[h] at ho
 cases ho
 cases hc
theorem Dp8 {W W' w:World} {row:Option Nat} {B:Nat} {M:Nat→Prop} (h:Am7 M w W) (hg:W.grownBy W' row) (hd:W.drawn≤W'.drawn) (hB:w.heap.size≤B) (hr: ∀r,row=some r→B≤r∧∃o:Obj,W.heap[r]?=some o∧o.isCells=false):Am7 M w W':=
 ⟨hg.os.trans h.os,hg.tape.trans h.tape,hg.output.trans h.output,Nat.le_trans h.size hg.size,fun b hb hm=>(hg.block b (Nat.lt_of_lt_of_le hb h.size) (fun e=>by have:=(hr b e.symm).1;omega)).trans (h.block b hb hm),Nat.le_trans h.drawn hd⟩
theorem Cr9 {W W':World} {row:Option Nat} {B g:Nat} {cs:Array Value} {t:TypeId} {fz:Nat×Nat} (h:W.heap[g]?=some (.cells cs t fz)) (hg:W.grownBy W' row) (hr: ∀r,row=some r→B≤r∧∃o:Obj,W.heap[r]?=some o∧o.isCells=false):W'.heap[g]?=some (.cells cs t fz):=by
 refine(hg.block g (Array.getElem?_eq_some_iff.1 h).1 fun e=>?_).trans h
 obtain⟨_,o,ho,hc⟩:=hr g e.symm
 rw[h] at ho
 cases ho
 cases hc
theorem Fi4 {w:World} {g o:Nat} {cs:Array Value} {us:List Nat} {A:Option Addr} {cap by' B:Nat} (hB:w.heap.size≤B):Af7 B (shI w g o cs us A cap by'):=by
 rintro pre W W' row ⟨⟨ws,r,h1,h2,h3,h4,h5,h6,h7⟩,⟨h8,h9,h10⟩,h11⟩ hg hd hr
 exact⟨⟨ws,r,Cr9 h1 hg hr,h2,h3,h4,h5,h6,Bd8 h7 hg hr⟩,⟨Bd8 h8 hg hr,Bd8 h9 hg hr,Bd8 h10 hg hr⟩,Dp8 h11 hg hd hB hr⟩
set_option maxRecDepth 100000 in
set_option maxHeartbeats 4000000 in
theorem Ey1 (n:Nat) (hn:3≤n) (g o cap by':Nat) (cs:Array Value) (us:List Nat) (hl:us.length≤549755813888) (hby:0<by') (hbyB:by'<B) (hdu:Dig us) (w:World)
  (hg:w.heap[g]?=some (.cells cs 141 (0,0))) (hroom:o+us.length≤cs.size) (hat: ∀j v,(cv us)[j]?=some v→cs[o+j]?=some v):
  CallsIn Fence.wide n Tryz.prog 113 #[.slice (some ⟨g,o,none⟩) us.length cap,.int .u32 (by':Int)] w fun e W'=>∃ws,e = .returned (.int .u32 ((val us%by':Nat):Int))∧ws.length=us.length∧Dig ws∧val ws=val us/by'∧W'.heap[g]?=some (.cells (Aj6 cs.toList o (cv ws)).toArray 141 (0,0))∧Am7 (fun b=>b=g) w W':=by
 refine callsIn_of_wp_marks Tryz.func113 rfl trivial ?_ rfl
 simp only[Tryz.ntmps113,List.size_toArray,List.length_cons,List.length_nil,Nat.reduceAdd,Nat.reduceSub,Array.replicate_succ,Array.replicate_zero,List.push_toArray,List.append_toArray,List.nil_append,List.cons_append]
 gi_wp2
 refine⟨trivial,fun _=>by omega,(Bs1 (n-1) _ _ _ _).mono ?_⟩
 rintro e w' ⟨rfl,rfl⟩
 gi_wp2
 obtain⟨W4,hW4⟩: ∃W4,((((w.alloc (.cells #[.slice (some ⟨g,o,none⟩) us.length cap] 29)).alloc (.cells #[.int .u32 (by':Int)] 141)).alloc (.cells #[.int .u64 0] 110)).alloc (.cells #[.slice (some ⟨g,o,none⟩) us.length cap] 29))=W4:=⟨_,rfl⟩
 have hsz:W4.heap.size=w.heap.size+1+1+1+1:=by rw[←hW4];simp
 have hgl:g<w.heap.size:=(Array.getElem?_eq_some_iff.1 hg).1
 have hB4:Below w.heap.size w W4:=by rw[←hW4];exact((((Below.refl _ w).alloc (Nat.le_refl _) _).alloc (by simp) _).alloc (by simp;omega) _).alloc (by simp;omega) _
 have b0:Boxed W4 w.heap.size 29 (.slice (some ⟨g,o,none⟩) us.length cap):=by
  rw[←hW4]
  exact(((Boxed.new w 29 (.slice (some ⟨g,o,none⟩) us.length cap)).alloc (.cells #[.int .u32 (by':Int)] 141)).alloc (.cells #[.int .u64 0] 110)).alloc (.cells #[.slice (some ⟨g,o,none⟩) us.length cap] 29)
 have b1:Boxed W4 (w.heap.size+1) 141 (.int .u32 (by':Int)):=by
  rw[←hW4]
  have:=((Boxed.new (w.alloc (.cells #[.slice (some ⟨g,o,none⟩) us.length cap] 29)) 141 (.int .u32 (by':Int))).alloc (.cells #[.int .u64 0] 110)).alloc (.cells #[.slice (some ⟨g,o,none⟩) us.length cap] 29)
  simpa using this
 have b2:Boxed W4 (w.heap.size+1+1) 110 (.int .u64 0):=by
  rw[←hW4]
  have:=(Boxed.new ((w.alloc (.cells #[.slice (some ⟨g,o,none⟩) us.length cap] 29)).alloc (.cells #[.int .u32 (by':Int)] 141)) 110 (.int .u64 0)).alloc (.cells #[.slice (some ⟨g,o,none⟩) us.length cap] 29)
  simpa using this
 have b3:Boxed W4 (w.heap.size+1+1+1) 29 (.slice (some ⟨g,o,none⟩) us.length cap):=by
  rw[←hW4]
  have:=Boxed.new (((w.alloc (.cells #[.slice (some ⟨g,o,none⟩) us.length cap] 29)).alloc (.cells #[.int .u32 (by':Int)] 141)).alloc (.cells #[.int .u64 0] 110)) 29 (.slice (some ⟨g,o,none⟩) us.length cap)
  simpa using this
 rw[hW4]
 refine As7 (α:=Nat×Nat) (n:=n) rfl (by omega) (gf:=111) (lb:=#[.pointer (some ⟨w.heap.size+1+1+1,0,none⟩)]) rfl trivial (enters_of Tryz.func111 (by kernel_rfl) rfl)
  (Ef1 (n-1) (by omega) (w.heap.size+1+1+1) (some ⟨g,o,none⟩) cap us (by omega) (.inr ⟨g,o,rfl⟩)) (fun _=>rfl)
  (shI w g o cs us (some ⟨g,o,none⟩) cap by') (fun _ _ _=>False) (Fi4 (by omega)) (fun _ _ _ _ _ h _ _ _=>h.elim) ?_ ?_
  (fun x=>{tmps:=#[.slice (some ⟨g,o,none⟩) us.length cap,.int .u32 (by':Int),.pointer (some ⟨w.heap.size,0,none⟩),.pointer (some ⟨w.heap.size+1,0,none⟩),.int .u32 0,.pointer (some ⟨w.heap.size+1+1,0,none⟩),.int .i64 (x.1:Int),.int .u32 (x.2:Int),
    .slice (some ⟨g,o,none⟩) us.length cap,.func (.func 111) #[] #[.pointer (some ⟨w.heap.size+1+1+1,0,none⟩)],.int .i64 (x.1:Int),.int .u32 (x.2:Int),undef,undef,undef,undef,undef,undef,undef,undef,undef,undef,undef,undef,undef,undef,undef,undef,undef,undef,undef],defers:=[] }) ?assign ?body ?done ?stop
 case assign=>
  intro l p W K hK
  simp only[Ec8]
  gi_wp2
  exact hK
 case body=>
  rintro l pre ⟨i,v⟩ W ⟨⟨ws,r,h1,h2,h3,h4,h5,h6,h7⟩,⟨h8,h9,h10⟩,h11⟩ ⟨hlen,hpre,hpx⟩
  have hi:i=us.length-1-pre.length:=by simp only[bk] at hpx;cases hpx;rfl
  have hv:v=us[us.length-1-pre.length]?.getD 0:=by simp only[bk] at hpx;cases hpx;rfl
  have hiu:i<us.length:=by omega
  have hk1:us.length-pre.length=i+1:=by omega
  have hk2:us.length-(pre ++ [(i,v)]).length=i:=by simp;omega
  have husi:us[i]?=some v:=by
   rw[hv,←hi,List.getElem?_eq_getElem hiu];rfl
  rw[hk1] at h4 h5
  have hwsi:ws[i]?=some v:=by
   have:=congrArg (fun l=>l[i]?) h4
   simp only[List.getElem?_take] at this
   rw[if_pos (by omega),if_pos (by omega)] at this
   rw[this,husi]
  have hvB:v<B:=hdu v (List.mem_of_getElem? husi)
  have hiw:i<ws.length:=by omega
  have c7:=h7.cell
  have f7:=h7.frozen
  have c8:=h8.cell
  have c9:=h9.cell
  have cg:W.cell? ⟨g,o+i,none⟩=some (.int .u32 (v:Int)):=Cu4 h1 (by omega) hwsi
  have fg:W.frozen? ⟨g,o+i,none⟩=false:=by simp[World.frozen?,h1]
  clear hpx hpre hv hi
  have hbz:by'≠0:=by omega
  gi_wp2
  have hrB:r<B:=by omega
  obtain⟨y,hy⟩: ∃y,r*B+v=y:=⟨_,rfl⟩
  have ey:bits .or .u64 (IntKind.wrap .u64 ((r:Int)*4294967296)) (IntKind.wrap .u64 (v:Int))=(y:Int):=by
   rw[Ab1 (n:=v) (by unfold B at hvB;omega),←hy]
   have:IntKind.wrap .u64 ((r:Int)*4294967296)=((r*B:Nat):Int):=Eh5 hrB
   rw[this,Dq8 hvB hrB]
  rw[ey]
  have hyB:y<by'*B:=by rw[←hy];have:=Nat.mul_le_mul_right B (show r+1≤by' by omega);rw[Nat.add_mul] at this;omega
  have hqB:y/by'<B:=(Nat.div_lt_iff_lt_mul hby).2 (by rw[Nat.mul_comm];exact hyB)
  have hy64:y<18446744073709551616:=by
   have:=Nat.mul_le_mul_right B (Nat.le_of_lt hbyB)
   unfold B at *;omega
  have eby:IntKind.wrap .u64 (by':Int)=(by':Int):=Ab1 (by unfold B at hbyB;omega)
  have edv:IntKind.wrap .u64 (Int.tdiv (y:Int) (by':Int))=((y/by':Nat):Int):=by
   rw[Int.tdiv_eq_ediv_of_nonneg (by omega),←Int.natCast_ediv,Ab1 (Nat.lt_of_le_of_lt (Nat.div_le_self ..) hy64)]
  have e32:IntKind.wrap .u32 ((y/by':Nat):Int)=((y/by':Nat):Int):=by rw[Ab9,Nat.mod_eq_of_lt hqB]
  have edv':IntKind.wrap .u64 ((y:Int)/(by':Int))=(y:Int)/(by':Int):=by
   have:=Ab1 (n:=y/by') (Nat.lt_of_le_of_lt (Nat.div_le_self ..) hy64)
   rwa [Int.natCast_ediv] at this
  have e32':IntKind.wrap .u32 ((y:Int)/(by':Int))=(y:Int)/(by':Int):=by
   have:=e32
   rwa [Int.natCast_ediv] at this
  refine Cq1 (S:=fun w'=>w'.cell? ⟨w.heap.size+1+1,0,none⟩=some (.int .u64 (y:Int))∧w'.cell? ⟨w.heap.size,0,none⟩=some (.slice (some ⟨g,o,none⟩) us.length cap)∧w'.cell? ⟨w.heap.size+1,0,none⟩=some (.int .u32 (by':Int))) rfl ?_ ?_ ?_
  ·intro j o ho c hc
   have hm:=Array.mem_of_getElem? ho
   simp only[List.mem_toArray,List.mem_cons,List.not_mem_nil,or_false] at hm
   rcases hm with rfl | rfl | rfl | rfl | rfl | rfl | rfl | rfl | rfl<;>cases hc
  ·rintro⟨a,w,h⟩
   exact h
  have hW5h: ∃W5,World.drew (W.setCell ⟨w.heap.size+1+1,0,none⟩ (.int .u64 (y:Int)))=W5:=⟨_,rfl⟩
  obtain⟨W5,hW5⟩:=hW5h
  have bb7:Boxed W5 (w.heap.size+1+1) 110 (.int .u64 (y:Int)):=by rw[←hW5];exact h7.set _
  have bb8:Boxed W5 w.heap.size 29 (.slice (some ⟨g,o,none⟩) us.length cap):=by rw[←hW5];exact Af8 h8 (by omega) _ _
  have bb9:Boxed W5 (w.heap.size+1) 141 (.int .u32 (by':Int)):=by rw[←hW5];exact Af8 h9 (by omega) _ _
  have bb10:Boxed W5 (w.heap.size+1+1+1) 29 (.slice (some ⟨g,o,none⟩) us.length cap):=by rw[←hW5];exact Af8 h10 (by omega) _ _
  have hg5:W5.heap[g]?=some (.cells (Aj6 cs.toList o (cv ws)).toArray 141 (0,0)):=by
   rw[←hW5]
   exact(Below.heap_setCell W ⟨w.heap.size+1+1,0,none⟩ _ g (by simp;omega)).trans h1
  have hk5:Am7 (fun b=>b=g) w W5:=by
   rw[←hW5]
   exact⟨h11.os,h11.tape,h11.output,by simpa using h11.size,fun b hb hm=>(Below.heap_setCell W ⟨w.heap.size+1+1,0,none⟩ _ b (by simp;omega)).trans (h11.block b hb hm),Nat.le_trans h11.drawn (Nat.le_trans (Nat.le_of_eq (Ao2 _ _ _).symm) (Nat.le_succ _))⟩
  have hkf5:KeepsFrom W4.heap.size W W5:=by
   rw[←hW5]
   exact⟨by simp,fun k ob hk hb _=>(Below.heap_setCell W ⟨w.heap.size+1+1,0,none⟩ _ k (by simp;omega)).trans hb⟩
  have cg5:W5.cell? ⟨g,o+i,none⟩=some (.int .u32 (v:Int)):=by
   have:W5.cell? ⟨g,o+i,none⟩=W.cell? ⟨g,o+i,none⟩:=by simp only[World.cell?,hg5,h1]
   rw[this];exact cg
  have fg5:W5.frozen? ⟨g,o+i,none⟩=false:=by simp[World.frozen?,hg5]
  rw[hW5]
  have hS0:W5.cell? ⟨w.heap.size+1+1,0,none⟩=some (.int .u64 (y:Int))∧W5.cell? ⟨w.heap.size,0,none⟩=some (.slice (some ⟨g,o,none⟩) us.length cap)∧W5.cell? ⟨w.heap.size+1,0,none⟩=some (.int .u32 (by':Int)):=⟨bb7.cell,bb8.cell,bb9.cell⟩
  refine wpAnyH_take (i:=0) (v:=.slice (some ⟨g,o,none⟩) us.length cap) rfl (by kernel_rfl) (by kernel_rfl) (by kernel_rfl) (fun _ _ _ h=>h) (.inl ⟨by rfl,fun w' hS=>?_⟩) hS0 ?_
  ·obtain⟨s1,s2,s3⟩:=hS
   simp[execOp,go_sem,s1,s2,s3]
  refine wpAnyH_take (i:=1) (v:=.int .i64 (i:Int)) rfl (by kernel_rfl) (by kernel_rfl) (by kernel_rfl) (fun _ _ _ h=>h) (.inl ⟨by rfl,fun w' hS=>?_⟩) hS0 ?_
  ·obtain⟨s1,s2,s3⟩:=hS
   simp[execOp,go_sem,s1,s2,s3]
  refine wpAnyH_take (i:=2) (v:=.int .u64 (y:Int)) rfl (by kernel_rfl) (by kernel_rfl) (by kernel_rfl) (fun _ _ _ h=>h) (.inl ⟨by rfl,fun w' hS=>?_⟩) hS0 ?_
  ·obtain⟨s1,s2,s3⟩:=hS
   simp[execOp,go_sem,s1,s2,s3]
  refine wpAnyH_take (i:=3) (v:=.int .u32 (by':Int)) rfl (by kernel_rfl) (by kernel_rfl) (by kernel_rfl) (fun _ _ _ h=>h) (.inl ⟨by rfl,fun w' hS=>?_⟩) hS0 ?_
  ·obtain⟨s1,s2,s3⟩:=hS
   simp[execOp,go_sem,s1,s2,s3]
  refine wpAnyH_take (i:=4) (v:=.int .u64 (by':Int)) rfl (by kernel_rfl) (by kernel_rfl) (by kernel_rfl) (fun _ _ _ h=>h) (.inl ⟨by rfl,fun w' hS=>?_⟩) hS0 ?_
  ·obtain⟨s1,s2,s3⟩:=hS
   simp[execOp,go_sem,s1,s2,s3,eby]
  refine wpAnyH_take (i:=5) (v:=.int .u64 ((y/by':Nat):Int)) rfl (by kernel_rfl) (by kernel_rfl) (by kernel_rfl) (fun _ _ _ h=>h) (.inl ⟨by rfl,fun w' hS=>?_⟩) hS0 ?_
  ·obtain⟨s1,s2,s3⟩:=hS
   simp[execOp,go_sem,s1,s2,s3,hbz]
   exact edv'
  refine wpAnyH_take (i:=6) (v:=.int .u32 ((y/by':Nat):Int)) rfl (by kernel_rfl) (by kernel_rfl) (by kernel_rfl) (fun _ _ _ h=>h) (.inl ⟨by rfl,fun w' hS=>?_⟩) hS0 ?_
  ·obtain⟨s1,s2,s3⟩:=hS
   simp[execOp,go_sem,s1,s2,s3]
   exact e32'
  refine wpAnyH_take (i:=7) (v:=.pointer (some ⟨g,o+i,none⟩)) rfl (by kernel_rfl) (by kernel_rfl) (by kernel_rfl) (fun _ _ _ h=>h) (.inl ⟨by rfl,fun w' hS=>?_⟩) hS0 ?_
  ·obtain⟨s1,s2,s3⟩:=hS
   simp[execOp,go_sem,s1,s2,s3,hiu]
  refine wpAnyH_all (rs:=[8]) (by kernel_rfl) (by simp) (fun j hj=>?_)
  obtain rfl:j=8:=by simpa using hj
  unfold wpOp
  dsimp only
  simp only[Region.wanted]
  refine Or.inl ?_
  simp[Oper.wp,execOp,go_sem,cg5,fg5]
  rw[←Int.natCast_ediv]
  obtain⟨W6,hW6⟩: ∃W6,W5.setCell ⟨g,o+i,none⟩ (.int .u32 ((y/by':Nat):Int))=W6:=⟨_,rfl⟩
  have d7:Boxed W6 (w.heap.size+1+1) 110 (.int .u64 (y:Int)):=by rw[←hW6];exact Af8 bb7 (by omega) _ _
  have d8:Boxed W6 w.heap.size 29 (.slice (some ⟨g,o,none⟩) us.length cap):=by rw[←hW6];exact Af8 bb8 (by omega) _ _
  have d9:Boxed W6 (w.heap.size+1) 141 (.int .u32 (by':Int)):=by rw[←hW6];exact Af8 bb9 (by omega) _ _
  have d10:Boxed W6 (w.heap.size+1+1+1) 29 (.slice (some ⟨g,o,none⟩) us.length cap):=by rw[←hW6];exact Af8 bb10 (by omega) _ _
  have hg6:W6.heap[g]?=some (.cells (Aj6 cs.toList o (cv (ws.set i (y/by')))).toArray 141 (0,0)):=by
   rw[←hW6,Be8 _ hg5,Eu6 hiw]
  have hk6:Am7 (fun b=>b=g) w W6:=by
   rw[←hW6]
   exact⟨hk5.os,hk5.tape,hk5.output,by simpa using hk5.size,fun b hb hm=>(Below.heap_setCell W5 ⟨g,o+i,none⟩ _ b hm).trans (hk5.block b hb hm),by rw[Ao2];exact hk5.drawn⟩
  have hkf6:KeepsFrom W4.heap.size W W6:=by
   rw[←hW6]
   refine hkf5.trans ⟨by simp,fun k ob hk hb _=>(Below.heap_setCell W5 ⟨g,o+i,none⟩ _ k (by simp;omega)).trans hb⟩
  rw[hW6]
  have e7:=d7.cell
  have f7':=d7.frozen
  have e9:=d9.cell
  refine⟨hS0,wpAnyH_done (by kernel_rfl) ?_ _⟩
  have emd:Int.tmod (y:Int) (by':Int)=((y%by':Nat):Int):=by
   rw[Int.tmod_eq_emod_of_nonneg (by omega)];rfl
  clear hg5 hk5 hkf5 cg5 fg5 bb7 bb8 bb9 bb10 hW5 hW6 cg fg c7 f7 c8 c9 edv edv' e32 e32' ey
  gi_wp2
  have emd':(y:Int)%(by':Int)=((y%by':Nat):Int):=(Int.natCast_emod y by').symm
  rw[emd']
  refine⟨?_,trivial,⟨ws.set i (y/by'),y%by',?_,by simpa using h2,h3.set hqB,?_,?_,Nat.mod_lt _ hby,d7.set _⟩,⟨Af8 d8 (by omega) _ _,Af8 d9 (by omega) _ _,Af8 d10 (by omega) _ _⟩,?_⟩
  ·exact hkf6.trans ⟨by simp,fun k ob hk hb _=>(Below.heap_setCell W6 ⟨w.heap.size+1+1,0,none⟩ _ k (by simp;omega)).trans hb⟩
  ·exact(Below.heap_setCell W6 ⟨w.heap.size+1+1,0,none⟩ _ g (by simp;omega)).trans hg6
  ·rw[hk2,At3 (Nat.le_refl _)]
   have:=congrArg (List.take i) h4
   rwa [List.take_take,List.take_take,Nat.min_eq_left (by omega)] at this
  ·rw[hk2,Ah9 hiu,Ah9 (l:=ws.set i (y/by')) (k:=i) (by simpa using hiw),List.getElem_set_self,Ah5 (Nat.lt_succ_self i),h5]
   have e1:us[i]=v:=by
    have:=husi
    rw[List.getElem?_eq_getElem hiu] at this
    exact Option.some.inj this
   rw[e1]
   have e2:=Nat.mod_add_div y by'
   generalize val (ws.drop (i+1))=z
   generalize y/by'=q at *
   generalize y%by'=s at *
   have e3:v+B*(by'*z+r)=by'*(B*z)+y:=by
    rw[←hy,Nat.mul_add,Nat.mul_left_comm,Nat.mul_comm r B];omega
   rw[e3,Nat.mul_add];omega
  ·exact⟨hk6.os,hk6.tape,hk6.output,by simpa using hk6.size,fun b hb hm=>(Below.heap_setCell W6 ⟨w.heap.size+1+1,0,none⟩ _ b (by simp;omega)).trans (hk6.block b hb hm),by rw[Ao2];exact hk6.drawn⟩
 case done=>
  rintro D ps W hD rfl ⟨⟨ws,r,h1,h2,h3,h4,h5,h6,h7⟩,⟨h8,h9,h10⟩,h11⟩ hK
  rw[Ah8,Nat.sub_self,List.drop_zero,List.drop_zero] at h5
  have c7:=h7.cell
  clear h4
  gi_wp2
  have hgD:W.grownBy (W.putObj D (.deferred none)) (some D):=grownBy_putObj' _ D _
  have hrD: ∀k,(some D:Option Nat)=some k→W4.heap.size≤k∧∃ob:Obj,W.heap[k]?=some ob∧ob.isCells=false:=fun k e=>by
   cases e
   exact⟨hD,_,hK,rfl⟩
  have er:val us%by'=r:=by rw[h5,Nat.mul_add_mod,Nat.mod_eq_of_lt h6]
  have eq':val ws=val us/by':=by rw[h5,Nat.mul_add_div hby,Nat.div_eq_of_lt h6,Nat.add_zero]
  refine⟨by simp,.inl ⟨_,_,rfl,run_takeDeferred hK,?_⟩⟩
  refine⟨_,results_tmp rfl _ _ _,ws,?_,h2,h3,eq',Cr9 h1 hgD hrD,Dp8 h11 hgD (Nat.le_refl _) (by omega) hrD⟩
  rw[er]
  show Ending.returned (Value.int .u32 ((r:Int)%4294967296))=_
  rw[Int.emod_eq_of_lt (by omega) (by unfold B at hbyB;omega)]
 case stop=>
  rintro D c pre W _ _ h _
  exact h.elim
 ·rintro pre W ⟨⟨ws,r,h1,h2,h3,h4,h5,h6,h7⟩,⟨h8,h9,h10⟩,h11⟩
  refine⟨h10.cell,fun b off hA j hj=>?_⟩
  cases hA
  refine Cu4 h1 (by omega) ?_
  have:=congrArg (fun l=>l[j]?) h4
  simp only[List.getElem?_take] at this
  rw[if_pos (by omega),if_pos (by omega)] at this
  rw[this,List.getElem?_eq_getElem (by omega)];rfl
 ·refine⟨⟨us,0,?_,rfl,hdu,rfl,by simp[val],hby,b2⟩,⟨b0,b1,b3⟩,hB4.os,hB4.tape,hB4.output,hB4.size,fun b hb _=>hB4.block b hb,by rw[←hW4];exact Nat.le_refl _⟩
  rw[hB4.block g hgl,hg]
  congr 2
  apply Array.ext'
  apply List.ext_getElem?
  intro k
  simp only[Ap0,Ag7]
  split
  ·rename_i hk
   have hj:k-o<(cv us).length:=by rw[Ag7];omega
   have:=hat (k-o) _ (List.getElem?_eq_getElem hj)
   rw[show o+(k-o)=k by omega] at this
   rw[List.getElem?_eq_getElem hj]
   simpa using this
  ·rfl
theorem Bw9 {W0:PW} {u:Sl} {us:List Nat} {g o by':Nat} {cs:Array Value} (hm:Mut W0 141 u g o cs us) (hdu:Dig us) (hby:0<by') (hbyB:by'<B) (hl:us.length≤549755813888):
  Aa0 Tryz.prog 113 [u.v,.int .u32 (by':Int)] W0 (fun b=>b=g) fun r W'=>∃ws:List Nat,r = .int .u32 ((val us%by':Nat):Int)∧ws.length=us.length∧Dig ws∧val ws=val us/by'∧Aq5 W0 W' g cs 141 o (cv ws):=by
 refine⟨⟨_,Tryz.func113,rfl,rfl⟩,fun _=>?_⟩
 have:=callsIn_wide.1 (Ey1 5 (by omega) g o u.c by' cs us hl hby hbyB hdu W0.w hm.heap hm.room hm.at')
 rw[←hm.A,←hm.n] at this
 exact Calls.mono this fun e w' ⟨ws,he,h1,h2,h3,h4,h5⟩=>⟨_,he,h5,ws,rfl,h1.trans hm.n,h2,h3,⟨h5.size,fun b hb hs hn=>⟨h5.block b hb hn,hs⟩⟩,hm.S,h4⟩
end Go.Proofs.YtahohahjnhfedaaGreatDoor
/- nat: Sub, Low. -/
namespace Go.Proofs.YtahohahjnhfedaaGreatDoor
open Go Go.SX
theorem Af6 {t:TypeId} (W:PW):Aa6 t W ⟨none,0,0⟩ 0:=⟨by simp[cel,Ae8],by simp,by decide,by simp[cel,Ae8],.inl (by simp[cel,Ae8])⟩
theorem Di1 {β zx vy vx p c z low d u neg:Nat} (h:zx+vy=vx+p*c) (hs:z+c+d=u+β*neg):zx+p*z+(vy+p*d)=vx+p*u+p*β*neg:=by
 have e:p*(z+c+d)=p*(u+β*neg):=by rw[hs]
 grind
def Ft7 (x y:Nat) (W2:PW) (l:List PL) (W:PW):Prop:=
 match l with
 | [.val (.int .u64 c),.val (.int .i64 k),.row xs]=>Ext W2 W∧∃(c' k':Nat) (zs:List Nat),c=(c':Int)∧k=(k':Int)∧xs=cel zs∧k'≤nl x∧zs.length=nl x∧Dig zs∧
   val (zs.take k')+val ((dg y).take k')=val ((dg x).take k')+B^k'*c'∧c'≤1
 | _=>False
theorem Eh4 {W0:PW} {M:Nat→Prop} {s t:Sl} {x y:Nat} (h1:Aa6 141 W0 s x) (h2:Aa6 141 W0 t y) (hx:nl x≤549755813888) (hy:nl y≤549755813888):
  Aa0 Tryz.prog 75 [.agg #[s.v],.agg #[t.v]] W0 M fun v W'=>∃(s':Sl),v = .tuple #[.agg #[Sl.v s'],.bool (decide (y≤x))]∧Aa6 141 W' s' (x-y):=by
 apply Df0
 have n1:=h1.n
 have n2:=h2.n
 refine Ap6 h1 h2 hx hy fun W2 hE2 _=>⟨_,rfl,fun hlt W4 hE4=>⟨⟨none,0,0⟩,?_,?_⟩,fun hge=>?_⟩
 ·have:x<y:=by
   apply Nat.lt_of_not_le
   intro h
   rcases Nat.lt_or_eq_of_le h with h | rfl
   ·rw[Aj4 h] at hlt;omega
   ·rw[Ap9] at hlt;omega
  rw[decide_eq_false (by omega)]
 ·have:x<y:=by
   apply Nat.lt_of_not_le
   intro h
   rcases Nat.lt_or_eq_of_le h with h | rfl
   ·rw[Aj4 h] at hlt;omega
   ·rw[Ap9] at hlt;omega
  rw[show x-y=0 by omega]
  exact Af6 W4
 have hle:y≤x:=by
  apply Nat.le_of_not_lt
  intro h
  rw[Al0 h] at hge;omega
 have hnl:=Ad1 hle
 have h1':=h1.ext hE2
 have h2':=h2.ext hE2
 refine⟨⟨rfl,by omega,by omega⟩,Ft7 x y W2,Fr6 x,?_,?_⟩
 ·refine⟨Ext.refl _,0,0,List.replicate (nl x) 0,rfl,rfl,?_,by omega,by simp,fun d hd=>?_,by simp[val],by omega⟩
  ·rw[show Int.toNat (s.n:Int)=nl x by omega];exact Ae3 _
  ·rw[(List.mem_replicate.1 hd).2];decide
 rintro l7 i8 i9 W10 ⟨hE10,c,k,zs,rfl,rfl,rfl,hk,hz,hdz,hv,hc⟩
 have ha:=h1'.ext hE10
 have hb:=h2'.ext hE10
 have hlx:(dg x).length=nl x:=rfl
 have hly:(dg y).length=nl y:=rfl
 refine⟨fun hlt=>?_,fun hge s13 W14 hE14 hO hnew=>?_⟩
 ·have hka:k<(dg x).length:=by omega
  have da:=(Ad8 x).at hka
  obtain⟨u,hu⟩: ∃u,(dg x)[k]=u:=⟨_,rfl⟩
  rw[hu] at da
  have eu:IntKind.wrap .u64 (u:Int)=(u:Int):=Ab1 (by unfold B at da;omega)
  refine⟨Ad4.inB ha (by omega) (by omega),(u:Nat),by rw[←hu];exact Ad4.at ha hka,fun hltb=>?_,fun hgeb=>?_⟩
  ·have hkb:k<(dg y).length:=by omega
   have db:=(Ad8 y).at hkb
   obtain⟨v,hv'⟩: ∃v,(dg y)[k]=v:=⟨_,rfl⟩
   rw[hv'] at db
   have ev:IntKind.wrap .u64 (v:Int)=(v:Int):=Ab1 (by unfold B at db;omega)
   obtain⟨z,neg,s1,s2,s3,s4,s5⟩:=Cg9 da hc db
   refine⟨Ad4.inB hb (by omega) (by omega),(v:Nat),by rw[←hv'];exact Ad4.at hb hkb,⟨by omega,by rw[Aa5];omega⟩,by rw[Aa5];omega,by unfold I64;omega,?_,?_⟩
   ·rw[eu,ev,s1,s2,show Int.toNat (k:Int)=k from rfl,Ae9]
    refine⟨hE10,neg,k+1,_,rfl,by push_cast;rfl,rfl,by omega,by simpa using hz,hdz.set s4,?_,s3⟩
    rw[Ac1 (by omega),Aa4 hka,Aa4 hkb,hu,hv',Nat.pow_succ]
    exact Di1 (low:=0) hv s5
   ·show nl x-Int.toNat ((k:Int)+1)<nl x-Int.toNat (k:Int)
    omega
  ·obtain⟨z,neg,s1,s2,s3,s4,s5⟩:=Eh3 da hc
   refine⟨⟨by omega,by rw[Aa5];omega⟩,by rw[Aa5];omega,by unfold I64;omega,?_,?_⟩
   ·rw[eu,s1,s2,show Int.toNat (k:Int)=k from rfl,Ae9]
    refine⟨hE10,neg,k+1,_,rfl,by push_cast;rfl,rfl,by omega,by simpa using hz,hdz.set s4,?_,s3⟩
    rw[Ac1 (by omega),Aa4 hka,Dm7 (by omega),hu,Nat.pow_succ]
    have:=Di1 (low:=0) (d:=0) hv (by rw[Nat.add_zero];exact s5)
    rwa [Nat.mul_zero,Nat.add_zero] at this
   ·show nl x-Int.toNat ((k:Int)+1)<nl x-Int.toNat (k:Int)
    omega
 ·have hkx:k=nl x:=by omega
  subst hkx
  rw[show(dg x).take (nl x)=dg x from List.take_of_length_le (Nat.le_refl _),show(dg y).take (nl x)=dg y from List.take_of_length_le (by omega),Ac5,Ac5,←hz,List.take_length] at hv
  have hzB:=Ax5 hdz
  have hc0:c=0:=by
   rcases(show c=0∨c=1 by omega) with h | h
   ·exact h
   ·subst h;omega
  subst hc0
  have e:val zs=x-y:=by rw[Nat.mul_zero] at hv;omega
  refine Ap7 hO.row hdz (by omega) fun s' W17 hE17 h=>⟨s',rfl,fun W19 hE19=>⟨s',?_,?_⟩⟩
  ·rw[decide_eq_true hle]
  ·rw[e] at h
   exact h.ext hE19
theorem Bq3 {W0 W:PW} {M:Nat→Prop} {s t:Sl} {x y:Nat} {K:Value→PW→Prop} (h1:Aa6 141 W s x) (h2:Aa6 141 W t y) (hx:nl x≤549755813888) (hy:nl y≤549755813888) (kont: ∀(s':Sl) (W':PW),Ext W W'→(Aa6 141 W' s' (x-y))→K (.tuple #[.agg #[Sl.v s'],.bool (decide (y≤x))]) W'):
  Aa1 Tryz.prog W0 M 75 [.agg #[s.v],.agg #[t.v]] W K:=
 Aa2 (fun W' hE=>Eh4 (M:=fun _=>False) (h1.ext hE) (h2.ext hE) hx hy) (fun W' v W'' hE hE' hP=>by
  obtain⟨s',rfl,h⟩:=hP
  exact kont s' W'' (hE.trans hE') h)
theorem Fh4 {a b:Nat} (hb:b<B) (ha:a<B):bits .or .u64 (b:Int) ((a*B:Nat):Int)=((b+a*B:Nat):Int):=by
 unfold B at *
 rw[bits_or_u64_nat _ _ (by omega) (by omega),Nat.or_comm,nat_join 32 _ _ (by omega) (by omega),Nat.add_comm]
def Fv3 (x:Nat) (W0:PW) (l:List PL) (W:PW):Prop:=
 match l with
 | [.val (.int .u64 v),.val (.int .i64 k)]=>Ext W0 W∧∃k':Nat,k=(k':Int)∧k'≤min (nl x) 2∧v=(val ((dg x).take k'):Int)
 | _=>False
def Fv2 (l:List PL) (W:PW):Nat:=
 match l with
 | [_,.val (.int .i64 k)]=>2-k.toNat
 | _=>0
theorem Eo5 {W0:PW} {M:Nat→Prop} {s:Sl} {x:Nat} (h:Aa6 141 W0 s x) (hx:nl x≤549755813888):
  Aa0 Tryz.prog 99 [.agg #[s.v]] W0 M fun v W'=>v = .int .u64 ((x%(B*B):Nat):Int)∧True:=by
 apply Bv7
 have hn:=h.n
 have hl:(dg x).length=nl x:=rfl
 have emn:mn (s.n:Int) 2=((min (nl x) 2:Nat):Int):=by unfold mn;split<;>omega
 unfold Bk8
 simp only[emn]
 refine⟨Fv3 x W0,Fv2,⟨Ext.refl _,0,rfl,by omega,by simp[val]⟩,?_⟩
 rintro i3 i4 W5 ⟨hE5,k,rfl,hk,rfl⟩
 refine⟨fun hlt=>?_,fun hge W7 hE7=>⟨?_,trivial⟩⟩
 ·have hka:k<(dg x).length:=by omega
  have da:=(Ad8 x).at hka
  have h5:=h.ext hE5
  obtain⟨u,hu⟩: ∃u,(dg x)[k]=u:=⟨_,rfl⟩
  rw[hu] at da
  have eu:IntKind.wrap .u64 (u:Int)=(u:Int):=Ab1 (by unfold B at da;omega)
  have eb:IntKind.bits .u64=64:=rfl
  have ev:bits .or .u64 ((val ((dg x).take k):Nat):Int) (Bc5 .u64 (u:Int) (Int.toNat (32*(k:Int))))=((val ((dg x).take (k+1)):Nat):Int):=by
   rcases(show k=0∨k=1 by omega) with rfl | rfl
   ·rw[Aa4 hka,hu,show Int.toNat (32*((0:Nat):Int))=0 from rfl,Dr8 (by unfold B at da;omega)]
    simp only[List.take_zero,val,Nat.pow_zero,Nat.mul_one,Nat.one_mul,Nat.zero_add]
    rw[bits_or_u64_nat _ _ (by decide) (by unfold B at da;omega),Nat.zero_or]
   ·rw[Aa4 hka,hu,show Int.toNat (32*((1:Nat):Int))=32 from rfl,Eh5 da]
    have h1:=Ae6 (Ad8 x) 1
    rw[Nat.pow_one] at h1
    rw[Fh4 h1 da,Nat.pow_one,Nat.mul_comm u B]
  refine⟨Ad4.inB h5 (by omega) (by omega),(u:Nat),by rw[←hu];exact Ad4.at h5 hka,by unfold I64;omega,⟨by omega,by rw[eb];omega⟩,by unfold I64;omega,⟨hE5,k+1,by push_cast;rfl,by omega,by rw[eu,ev]⟩,?_⟩
  show 2-Int.toNat ((k:Int)+1)<2-Int.toNat (k:Int)
  omega
 ·have hkm:k=min (nl x) 2:=by omega
  congr 2
  rcases Nat.le_total (nl x) 2 with h2 | h2
  ·rw[hkm,Nat.min_eq_left h2,←hl,List.take_length,Ac5]
   have:=Bb4 x
   have:=Nat.pow_le_pow_right Ad3 h2
   rw[Nat.pow_succ,Nat.pow_one] at this
   rw[Nat.mod_eq_of_lt (by omega)]
  ·rw[hkm,Nat.min_eq_right h2]
   have e:=Am8 (dg x) (k:=2) (by omega)
   rw[Ac5] at e
   have h1:=Ae6 (Ad8 x) 2
   rw[Nat.pow_succ,Nat.pow_one] at e h1
   conv=>rhs;rw[e]
   rw[Nat.add_mul_mod_self_left,Nat.mod_eq_of_lt h1]
theorem Bw7 {W0 W:PW} {M:Nat→Prop} {s:Sl} {x:Nat} {K:Value→PW→Prop} (h:Aa6 141 W s x) (hx:nl x≤549755813888) (kont: ∀(W':PW),Ext W W'→(True)→K (.int .u64 ((x%(B*B):Nat):Int)) W'):
  Aa1 Tryz.prog W0 M 99 [.agg #[s.v]] W K:=
 Aa2 (fun W' hE=>Eo5 (M:=fun _=>False) (h.ext hE) hx) (fun W' v W'' hE hE' hP=>by
  obtain⟨rfl,h⟩:=hP
  exact kont W'' (hE.trans hE') h)
end Go.Proofs.YtahohahjnhfedaaGreatDoor
