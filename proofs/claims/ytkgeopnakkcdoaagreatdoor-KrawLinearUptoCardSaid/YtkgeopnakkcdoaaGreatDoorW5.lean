import Derived.Test.YtkgeopnakkcdoaaGreatDoorW4
import Derived.Test.YtkgeopnakkcdoaaGreatDoorLib2
import Derived.Test.YtkgeopnakkcdoaaGreatDoorR4
set_option linter.unusedVariables false
set_option linter.unusedSimpArgs false
set_option maxRecDepth 100000
namespace Go.Proofs.YtkgeopnakkcdoaaGreatDoor
open Go Go.SX
variable {K:Value->PW->Prop}{M:Nat->Prop}{W W0:PW}{a:ByteArray}{k:Nat}
theorem Ey6 {us:List Nat}{ws:List Nat}{d:Nat}{b:Nat}{c:Nat}(j:Trim us)(r:Dig us)(i:ws.length=us.length)(hw:Dig ws)(m:d<B)(n:0<b)(h:val ws+B^ws.length*d=val us*b+c):dg (val us*b+c)=if d=0 then ws else ws ++ [d]:=by
 rw[<-h];split
 ·rename_i f
  subst f;rw[Nat.mul_zero,Nat.add_zero] at h⊢
  by_cases g:ws = []
  ·subst g;exact Ae8
  ·refine Bk0 hw (Ek5 hw g ?_)
   have o:us≠[]:=λ e=>g (List.eq_nil_of_length_eq_zero (by rw[i,e];rfl));rw[h,i];have h1:=Ee4 o j;have u:val us*1<=val us*b:=Nat.mul_le_mul_left _ n;omega
 ·rename_i f
  rw[show val ws+B^ws.length*d=val (ws ++ [d]) by rw[Ag8];simp[val]];exact Bk0 (hw.append (Dig.cons m Dig.nil)) (Cx9 f)
theorem Fq2 (h1:48<=sb a k)(c:sb a k<=57):IntKind.wrap .u64 (IntKind.wrap .u8 (Ae2 a k-48))=((sb a k-48:Nat):Int):=by
 rw[Ao5,Du1 (by omega) (by omega),show((sb a k:Int)-48)=((sb a k-48:Nat):Int) by omega,Ab1 (by omega)]
def rnI (us:List Nat) (e:Nat) (f:PW) (l:List PL) (W:PW):Prop:=
 match l with
 | [.val (.int .u64 c),.val (.int .i64 k),.row xs]=>Ext f W/\∃(d k':Nat) (ws:List Nat),c=(d:Int)/\k=(k':Int)/\xs=cel ws/\ws.length=us.length/\Dig ws/\d<B/\k'<=us.length/\
   val (ws.take k')+B^k'*d=val (us.take k')*10+e/\ws.drop k'=us.drop k'
 | _=>False
def rnM (n:Nat) (l:List PL) (W:PW):Nat:=
 match l with
 | [_,.val (.int .i64 k),_]=>n-k.toNat
 | _=>0
theorem Cc7:
  Aa0 Tryz.prog 199 [.string a] W0 M λ v W'=>∃(s':Sl),v = .tuple #[Sl.v s',.bool (Ad2 a).isSome]/\Aa6 257 W' s' ((Ad2 a).getD 0):=by
 apply Bi5;have bad:¬Cv5 a->∀W':PW,∃s':Sl,(Value.tuple #[.slice none 0 0,.bool false]) = .tuple #[Sl.v s',.bool (Ad2 a).isSome]/\Aa6 257 W' s' ((Ad2 a).getD 0):=by
  intro h W';rw[Bh4 h];exact⟨⟨none,0,0⟩,rfl,Af6 W'⟩
 have an:Ae2 a 0=(sb a 0:Int):=Ao5 a 0;refine⟨λ l W=>Ext W0 W/\a.size≠0/\a.size<=4000/\¬(sb a 0=48/\1<a.size),⟨λ h=>λ o _=>bad ?_ o,λ h=>⟨λ R=>λ o _=>bad ?_ o,λ R=>⟨?_,λ S=>⟨λ h1 T _=>bad ?_ T,λ h1=>?_⟩,λ S=>?_⟩⟩⟩,?_⟩
 ·rintro⟨h1,_⟩
  omega
 ·rintro⟨_,h1,_⟩
  omega
 ·omega
 ·rintro⟨_,_,U,_⟩
  exact U ⟨by omega,by omega⟩
 ·exact⟨Ext.refl _,by omega,by omega,by omega⟩
 ·exact⟨Ext.refl _,by omega,by omega,by omega⟩
 rintro W8 ⟨V,F,X,Y⟩;refine⟨λ l W=>match l with | [.row xs,.val (.int .i64 i)]=>Ext W0 W/\(∃k:Nat,i=(k:Int)/\k<=a.size/\(∀j,j<k->48<=sb a j/\sb a j<=57)/\xs=cel (dg (dv a k))) | _=>False,
  λ l _=>match l with | [_,.val (.int .i64 i)]=>a.size-i.toNat | _=>0,⟨V,0,rfl,Nat.zero_le _,λ j h=>(by omega),by rw[show dv a 0=0 from rfl,Ae8];rfl⟩,?_⟩
 rintro ap i12 Z ⟨G,k,rfl,hk,r,rfl⟩;have aq:Ae2 a (Int.toNat (k:Int))=(sb a k:Int):=Ao5 a k;refine⟨λ ar=>⟨λ l W=>Ext Z W/\48<=sb a k/\sb a k<=57,⟨by omega,λ hb=>λ ab _=>bad ?_ ab,λ hb=>⟨by omega,λ m ac _=>bad ?_ ac,λ m=>⟨Ext.refl _,by omega,by omega⟩⟩⟩,?_⟩,λ au ad av aw hO ax ay ae=>?_⟩
 ·rintro⟨_,_,_,h⟩
  have:=h k (by omega);omega
 ·rintro⟨_,_,_,h⟩
  have:=h k (by omega);omega
 ·rintro t17 i18 az t20 i21 af ⟨H,I,m⟩
  have aA:=Fn5 r (by omega);have ag:(dg (dv a k)).length=nl (dv a k):=rfl;obtain⟨us,d⟩: ∃us,dg (dv a k)=us:=⟨_,rfl⟩;have u:Dig us:=d ▸ Ad8 _;have ah:Trim us:=d ▸ Df1 _;have ai:val us=dv a k:=by rw[<-d,Ac5]
  rw[d] at ag;refine⟨by omega,?_⟩;rw[show Int.toNat (k:Int)=k from rfl,Fq2 I m,d];refine⟨rnI us (sb a k-48) af,rnM us.length,⟨Ext.refl _,_,0,us,rfl,rfl,rfl,rfl,u,by unfold B;omega,Nat.zero_le _,by simp[val],rfl⟩,?_⟩;rintro aB i26 i27 aC ⟨w,c,j,ws,rfl,rfl,rfl,f,J,A,hj,C,L⟩;rw[Aa5];refine⟨λ aD=>?_,λ aE=>?_⟩
  ·have g:j<us.length:=by omega
   have D:j<ws.length:=by omega
   have ak:ws[j]=us[j]:=by
    have:=congrArg (λ l=>l[0]?) L
    simpa[List.getElem?_drop,g,D] using this
   have N:=u.at g;have E:=Ds7 (b:=10) A N (by decide);have e:IntKind.wrap .u64 ((c:Int)+IntKind.wrap .u64 (IntKind.wrap .u64 ((us[j]:Nat):Int)*10))=((c+us[j]*10:Nat):Int):=by
    rw[Ab1 (n:=us[j]) (by unfold B at N;omega),show((us[j]:Nat):Int)*10=((us[j]*10:Nat):Int) by push_cast;rfl,Ab1 (n:=us[j]*10) (by omega),<-Int.natCast_add,Ab1 E.2]
   refine⟨by omega,((us[j]:Nat):Int),⟨_,Au0 D,by rw[ak];rfl⟩,by omega,by omega,by unfold I64;omega,?_,?_⟩
   ·rw[e,Ao0,Cx7 E.2,Ab9,Nat.mod_mod,show Int.toNat (j:Int)=j from rfl,Ae9]
    refine⟨w,_,j+1,_,rfl,by push_cast;rfl,rfl,by simpa using f,J.set (Nat.mod_lt _ Ad3),E.1,by omega,?_,?_⟩
    ·rw[Ac1 D,Aa4 g,Nat.pow_succ]
     exact grow_step C
    ·rw[Ah5 (by omega)]
     have:=congrArg (λ l=>l.drop 1) L
     simpa using this
   ·show us.length-Int.toNat ((j:Int)+1)<us.length-Int.toNat (j:Int)
    omega
  ·have g:j=us.length:=by omega
   subst g;rw[<-f,List.take_length,f,List.take_length] at C;have O:=Ey6 ah u f J A (b:=10) (by decide) (by rw[f];exact C);have P: ∀j,j<k+1->48<=sb a j/\sb a j<=57:=by
    intro j hj
    by_cases e:j=k
    ·subst e;exact⟨I,m⟩
    ·exact r j (by omega)
   have Q:dv a (k+1)=val us*10+(sb a k-48):=by rw[ai];rfl
   have hm:a.size-Int.toNat ((k:Int)+1)<a.size-Int.toNat (k:Int):=by omega
   refine⟨λ aF=>⟨by simp;omega,by unfold I64;omega,⟨(G.trans H).trans w,k+1,by push_cast;rfl,by omega,P,?_⟩,hm⟩,λ F=>⟨by unfold I64;omega,⟨(G.trans H).trans w,k+1,by push_cast;rfl,by omega,P,?_⟩,hm⟩⟩
   ·rw[Q,O,if_neg (by omega),Ab9,Nat.mod_eq_of_lt A,<-Bh9];rfl
   ·rw[Q,O,if_pos (by omega)]
 ·have al:k=a.size:=by omega
  subst al;have hg:Cv5 a:=⟨F,X,Y,r⟩;rw[Bu4 hg];exact⟨ad,rfl,(hO.ext ae).row⟩
theorem Aj1 (d: ∀(s':Sl) (W':PW),Ext W W'->(Aa6 257 W' s' ((Ad2 a).getD 0))->K (.tuple #[Sl.v s',.bool (Ad2 a).isSome]) W'):
  Aa1 Tryz.prog W0 M 199 [.string a] W K:=
 Mi4 (λ _ c=>Cc7 ) fun | _,W',c,⟨s',rfl,h⟩=>d s' W' c h
theorem Dv5 {t:TypeId}(W:PW):Ab6 t W false ⟨none,0,0⟩ ⟨none,0,0⟩ 0:=⟨By0 W,.inr ⟨rfl,Af6 W⟩⟩
theorem Cd1:
  Aa0 Tryz.prog 198 [.string a] W0 M λ v W'=>∃(b':Bool),∃(s':Sl),v = .tuple #[.agg #[.bool b',Sl.v s'],.bool (Ac3 a).isSome]/\Ab5 257 W' s' b' ((Ac3 a).getD 0):=by
 apply Bi8;have bad:Ac3 a=none->∀W':PW,∃(b':Bool) (s':Sl),(Value.tuple #[.agg #[.bool false,.slice none 0 0],.bool false]) = .tuple #[.agg #[.bool b',Sl.v s'],.bool (Ac3 a).isSome]/\Ab5 257 W' s' b' ((Ac3 a).getD 0):=by
  intro h W';rw[h];exact⟨false,⟨none,0,0⟩,rfl,By0 W'⟩
 have N:Ae2 a 0=(sb a 0:Int):=Ao5 a 0;have w:¬(0<a.size/\sb a 0=45)->Ac3 a=(Ad2 a).map λ x=>(x:Int):=λ h=>by unfold Ac3;rw[if_neg h]
 have j:(0<a.size/\sb a 0=45)->Ac3 a=match Ad2 (a.extract 1 a.size) with
  | some x=>if x=0 then none else some (-(x:Int))
  | none=>none:=λ h=>by unfold Ac3;rw[if_pos h];rfl
 have plain:¬(0<a.size/\sb a 0=45)->∀(s:Sl) (W W':PW),Aa6 257 W s ((Ad2 a).getD 0)->Ext W W'->∃(b':Bool) (s':Sl),(Value.tuple #[.agg #[.bool false,Sl.v s],.bool (Ad2 a).isSome]) = .tuple #[.agg #[.bool b',Sl.v s'],.bool (Ac3 a).isSome]/\Ab5 257 W' s' b' ((Ac3 a).getD 0):=by
  intro h s W W' A B;rw[w h];refine⟨false,s,?_,?_⟩
  ·cases Ad2 a<;>rfl
  ·have e:(((Ad2 a).map λ x=>(x:Int)).getD 0)=(((Ad2 a).getD 0:Nat):Int):=by cases Ad2 a<;>rfl
   rw[e];exact⟨by rw[Int.natAbs_natCast];exact A.ext B,by rw[decide_eq_false (by omega)]⟩
 refine⟨λ C=>⟨by omega,λ D=>⟨by omega,?_⟩,λ D=>?_⟩,λ C=>?_⟩
 ·have c:0<a.size/\sb a 0=45:=⟨by omega,by omega⟩
  rw[show Int.toNat (a.size:Int)=a.size from rfl];refine Aj1 λ s3 E O d=>⟨s3,_,rfl,?_⟩;have g:=d.n
  cases i:Ad2 (a.extract 1 a.size) with
  | none=>
   refine⟨λ _ F _=>bad ?_ F,λ h=>(by cases h)⟩;rw[j c,i]
  | some x=>
   rw[i] at d g;have d:Aa6 257 E s3 x:=d;have g:s3.n=nl x:=g;refine⟨λ h=>(by cases h),λ _=>⟨λ u G _=>bad ?_ G,λ u P H=>?_⟩⟩
   ·have:x=0:=Ad0.1 (by omega)
    rw[j c,i];simp[this]
   ·have I:x≠0:=λ e=>u (by rw[g,e,Ag9];rfl)
    have J:Ac3 a=some (-(x:Int)):=by
     rw[j c,i];simp[I]
    rw[J];refine⟨true,s3,rfl,?_,?_⟩
    ·show Aa6 _ _ _ (-(x:Int)).natAbs
     rw[Int.natAbs_neg,Int.natAbs_natCast];exact d.ext H
    ·show true=decide (-(x:Int)<0)
     rw[decide_eq_true (by omega)]
 ·have c:¬(0<a.size/\sb a 0=45):=by omega
  exact Aj1 λ f m L n=>⟨f,_,rfl,λ o r=>plain c f m o n r⟩
 ·have c:¬(0<a.size/\sb a 0=45):=by omega
  exact Aj1 λ f m L n=>⟨f,_,rfl,λ o r=>plain c f m o n r⟩
theorem Au4 (d: ∀(b':Bool) (s':Sl) (W':PW),Ext W W'->(Ab5 257 W' s' b' ((Ac3 a).getD 0))->K (.tuple #[.agg #[.bool b',Sl.v s'],.bool (Ac3 a).isSome]) W'):
  Aa1 Tryz.prog W0 M 198 [.string a] W K:=
 Mi4 (λ _ c=>Cd1 ) fun | _,W',c,⟨b',s',rfl,h⟩=>d b' s' W' c h
theorem Bl0 (h:k<a.size):Al7 a 47 (a.size-k) k=if sb a k=47 then some k else Al7 a 47 (a.size-(k+1)) (k+1):=by
 rw[show a.size-k=(a.size-(k+1))+1 by omega];rfl
theorem Ca3 (hs:a.size<=1099511627776):
  Aa0 Tryz.prog 134 [.string a] W0 M λ v W'=>∃(b':Bool),∃(s':Sl),∃(t':Sl),v = .tuple #[.agg #[.bool b',Sl.v s',Sl.v t'],.bool (Ab7 a).isSome]/\Ab6 257 W' b' s' t' ((Ab7 a).getD 0):=by
 apply Bj0;have bad:Ab7 a=none->∀W':PW,∃(b':Bool) (s' t':Sl),(Value.tuple #[.agg #[.bool false,.slice none 0 0,.slice none 0 0],.bool false]) = .tuple #[.agg #[.bool b',Sl.v s',Sl.v t'],.bool (Ab7 a).isSome]/\Ab6 257 W' b' s' t' ((Ab7 a).getD 0):=by
  intro h W';rw[h];exact⟨false,⟨none,0,0⟩,⟨none,0,0⟩,rfl,Dv5 W'⟩
 refine⟨λ l W=>match l with | [.val (.int .i64 i)]=>Ext W0 W/\i=Cx6 (Ak5 a) | _=>False,⟨λ l W=>match l with
  | [.val (.int .i64 p),.val (.int .i64 i)]=>Ext W0 W/\∃k:Nat,i=(k:Int)/\k<=a.size/\((p = -1/\Ak5 a=Al7 a 47 (a.size-k) k)\/(0<=p/\p=Cx6 (Ak5 a)))
  | _=>False,λ l _=>match l with | [_,.val (.int .i64 i)]=>a.size-i.toNat | _=>0,⟨Ext.refl _,0,rfl,Nat.zero_le _,.inl ⟨rfl,rfl⟩⟩,?_⟩,?_⟩
 ·rintro i4 i5 W6 ⟨m,k,rfl,hk,o⟩
  have ar:Ae2 a (Int.toNat (k:Int))=(sb a k:Int):=Ao5 a k;refine⟨λ au=>⟨λ av=>⟨by omega,λ S=>?_,λ S=>?_⟩,λ aw=>⟨m,?_⟩⟩,λ ax=>⟨m,?_⟩⟩
  ·have hm:a.size-Int.toNat ((k:Int)+1)<a.size-Int.toNat (k:Int):=by omega
   refine⟨by unfold I64;omega,⟨m,k+1,by push_cast;rfl,by omega,.inr ⟨by omega,?_⟩⟩,hm⟩;rcases o with⟨_,h⟩ | ⟨h,_⟩
   ·rw[h,Bl0 (by omega),if_pos (by omega)];rfl
   ·omega
  ·have hm:a.size-Int.toNat ((k:Int)+1)<a.size-Int.toNat (k:Int):=by omega
   refine⟨by unfold I64;omega,⟨m,k+1,by push_cast;rfl,by omega,.inl ?_⟩,hm⟩;rcases o with⟨r,h⟩ | ⟨h,_⟩
   ·refine⟨r,?_⟩
    rw[h,Bl0 (by omega),if_neg (by omega)]
   ·omega
  ·rcases o with⟨r,h⟩ | ⟨_,h⟩
   ·omega
   ·exact h
  ·rcases o with⟨r,h⟩ | ⟨_,h⟩
   ·rw[r,h,show a.size-k=0 by omega];rfl
   ·exact h
 rintro i7 W8 ⟨az,rfl⟩
 cases A:Ak5 a with
 | none=>
  have c:Ab7 a=(Ac3 a).map λ(z:Int)=>(z:Rat):=by unfold Ab7;rw[A]
  refine⟨λ _=>Au4 λ H I aA aB T=>⟨H,I,_,rfl,Ae0 (x:=1) (by decide) λ J aC U V=>⟨J,rfl,λ aD L=>⟨H,I,J,?_,?_⟩⟩⟩,λ h=>(by exact absurd (by decide) h)⟩
  ·rw[c]
   cases Ac3 a<;>rfl
  ·have e:(Ab7 a).getD 0=(((Ac3 a).getD 0:Int):Rat):=by
    rw[c];cases Ac3 a<;>rfl
   rw[e];exact⟨by rw[Rat.num_intCast];exact(T.ext U).ext L,.inl (by rw[Rat.den_intCast];exact V.ext L)⟩
 | some i=>
  have hi:=Aq6 _ _ A
  have c:Ab7 a=match Ac3 (a.extract 0 i),Ad2 (a.extract (i+1) a.size) with
   | some n,some d=>if d<2\/Nat.gcd d n.natAbs≠1 then none else some (mkRat n d)
   | _,_=>none:=by unfold Ab7;rw[A];rfl
  show(((i:Nat):Int)<0->_)/\(¬((i:Nat):Int)<0->_);refine⟨λ h=>(by omega),λ _=>⟨by simp only[Cx6];omega,?_⟩⟩;simp only[Cx6];rw[show Int.toNat (i:Int)=i from rfl,show Int.toNat ((i:Int)+1)=i+1 by omega,show Int.toNat (a.size:Int)=a.size from rfl];refine Au4 λ B C aE aF f=>⟨B,C,_,rfl,by unfold I64;omega,by omega,Aj1 λ D E X g=>⟨D,_,rfl,?_⟩⟩;have f:=f.ext X
  cases j:Ac3 (a.extract 0 i) with
  | none=>
   have F:Ab7 a=none:=by rw[c,j]
   exact⟨λ _ _=>False,⟨λ _ Y _=>bad F Y,λ h=>(by cases h)⟩,λ _ _ _ _ h=>h.elim⟩
  | some n=>
   cases u:Ad2 (a.extract (i+1) a.size) with
   | none=>
    have F:Ab7 a=none:=by rw[c,j,u]
    exact⟨λ _ _=>False,⟨λ h=>(by cases h),λ _=>⟨λ _ Z _=>bad F Z,λ h=>(by cases h)⟩⟩,λ _ _ _ _ h=>h.elim⟩
   | some d=>
    rw[j,u] at c;rw[j] at f;rw[u] at g;have f:Ab5 257 E C B n:=f;have g:Aa6 257 E D d:=g;have aG:=Be9 j;have aH:=Ap1 u;have aI:nl 1<=1099511627776:=by rw[Ax0];omega
    refine⟨λ l W=>Ext E W/\¬(d<2\/Nat.gcd d n.natAbs≠1),⟨λ h=>(by cases h),λ _=>⟨λ h=>(by cases h),λ _=>?_⟩⟩,?_⟩
    ·refine Ae0 (x:=1) (by decide) λ aa aJ w ab=>⟨aa,rfl,Aj3 (g.ext w) ab (by omega) λ aK G _=>⟨_,rfl,λ hle ac _=>bad ?_ ac,λ ad=>?_⟩⟩
     ·have:d<2:=by
       apply Nat.lt_of_not_le;intro h;rw[Aj4 (by omega)] at hle;omega
      rw[c];simp[this]
     ·have ae:¬d<2:=by
       intro h;apply ad;rcases(show d<1\/d=1 by omega) with h | h
       ·rw[Al0 h];omega
       ·rw[h,Ap9];omega
      refine Bv8 ((g.ext w).ext G) ((f.ext w).ext G).1 (by omega) (by omega) λ af aL ag ah=>⟨af,rfl,Ae0 (x:=1) (by decide) λ ai aM N aj=>⟨ai,rfl,Aj3 (ah.ext N) aj (Nat.le_trans (Ad1 (Nat.gcd_le_left _ (by omega))) (by omega)) λ aN ak _=>⟨_,rfl,λ O al _=>bad ?_ al,λ heq=>⟨((((w.trans G).trans ag).trans N).trans ak),?_⟩⟩⟩⟩
      ·have:Nat.gcd d n.natAbs≠1:=λ e=>by
        rw[e,Ap9] at O;exact O rfl
       rw[c];simp[this]
      ·rintro(h | h)
       ·exact ae h
       ·rcases Nat.lt_or_gt_of_ne h with h | h
        ·rw[Al0 h] at heq;omega
        ·rw[Aj4 h] at heq;omega
    ·rintro aO aP aQ aR ⟨P,Q⟩ aS R
     have am:Ab7 a=some (mkRat n d):=by rw[c];exact if_neg Q
     have hm:=Br3 Q;have an:(mkRat n d).den=d:=by
      have h2:dn (mkRat n d)≠0:=by rw[hm.2];omega
      rw[<-Cl4 h2,hm.2]
     rw[am];refine⟨B,C,D,rfl,?_,.inl ?_⟩
     ·show Ab5 _ _ _ _ (mkRat n d).num
      rw[hm.1];exact(f.ext P).ext R
     ·show Aa6 _ _ _ (mkRat n d).den
      rw[an];exact(g.ext P).ext R
theorem An7 (d:a.size<=1099511627776)(e: ∀(b':Bool) (s':Sl) (t':Sl) (W':PW),Ext W W'->(Ab6 257 W' b' s' t' ((Ab7 a).getD 0))->K (.tuple #[.agg #[.bool b',Sl.v s',Sl.v t'],.bool (Ab7 a).isSome]) W'):
  Aa1 Tryz.prog W0 M 134 [.string a] W K:=
 Mi4 (λ _ c=>Ca3 d) fun | _,W',c,⟨b',s',t',rfl,h⟩=>e b' s' t' W' c h
end Go.Proofs.YtkgeopnakkcdoaaGreatDoor
namespace Go.Proofs.YtkgeopnakkcdoaaGreatDoor
open Go Go.SX
variable {K:Value->PW->Prop}{M:Nat->Prop}{W W0:PW}{b:Bool}{s t:Sl}{x y:Nat}{z:Int}
theorem Am1 {t:TypeId}(h:Aa6 t W s x):Ab5 t W s false (x:Int):=⟨by rw[Int.natAbs_natCast];exact h,by symm;exact decide_eq_false (by omega)⟩
def Fv0 (x y:Nat) (W0:PW) (l:List PL) (W:PW):Prop:=
 match l with
 | [.val (.int .i64 i),.row l3]=>Ext W0 W/\∃(k:Nat) (zs:List Nat),i=(k:Int)/\l3=cel zs/\k<=nl x/\zs.length=nl x+nl y+1/\Dig zs/\val zs=val ((dg x).take k)*y/\∀j (h:j<zs.length),k+nl y<=j->zs[j]=0
 | _=>False
def Fv4 (x y k d v0:Nat) (W0:PW) (l:List PL) (W:PW):Prop:=
 match l with
 | [.val (.int .u64 c),.val (.int .i64 i),.row l3]=>Ext W0 W/\∃(e j:Nat) (zs:List Nat),c=(e:Int)/\i=(j:Int)/\l3=cel zs/\j<=nl y/\e<B/\zs.length=nl x+nl y+1/\Dig zs/\val zs+B^(k+j)*e=v0+B^k*(d*val ((dg y).take j))/\∀i (h:i<zs.length),k+nl y<=i->zs[i]=0
 | _=>False
def Fu0 (n:Nat) (l:List PL) (W:PW):Nat:=
 match l with
 | .val (.int .i64 i) :: _=>n-i.toNat
 | _ :: .val (.int .i64 i) :: _=>n-i.toNat
 | _=>0
theorem El6 (h1:Aa6 257 W0 s x)(u:Aa6 257 W0 t y)(hx:nl x<=274877906944)(hy:nl y<=274877906944):
  Aa0 Tryz.prog 153 [s.v,t.v] W0 M λ v W'=>∃(s':Sl),v=Sl.v s'/\Aa6 257 W' s' (x*y):=by
 apply Bt6;have hs:=h1.n;have ht:=u.n;have T:(dg x).length=nl x:=rfl;have P:(dg y).length=nl y:=rfl;refine⟨by unfold I64;omega,by unfold I64;omega,⟨rfl,by omega,by omega⟩,Fv0 x y W0,Fu0 (nl x),⟨Ext.refl _,0,List.replicate (nl x+nl y+1) 0,rfl,?_,by omega,by simp,λ d g=>?_,by simp[val,Ao6],λ j h _=>by simp⟩,?_⟩
 ·rw[show Int.toNat ((s.n:Int)+(t.n:Int)+1)=nl x+nl y+1 by omega];exact Ae3 _
 ·rw[(List.mem_replicate.1 g).2];decide
 rintro l3 i4 U ⟨o,k,zs,rfl,rfl,hk,V,Q,w,X⟩;refine⟨λ ar=>?_,λ A au av aw hO hf=>?_⟩
 ·have C:k<(dg x).length:=by omega
  have D:=(Ad8 x).at C;obtain⟨d,g⟩: ∃d,(dg x)[k]=d:=⟨_,rfl⟩;rw[g] at D;refine⟨Fv4 x y k d (val zs) U,Fu0 (nl y),⟨Ext.refl _,0,0,zs,rfl,rfl,rfl,by omega,by decide,V,Q,by simp[val],X⟩,?_⟩;rintro l8 i9 i10 ay ⟨f,c,j,ws,rfl,rfl,rfl,hj,E,hw,F,G,H⟩;have Y:(k:Int)+(j:Int)=((k+j:Nat):Int):=by omega
  refine⟨λ aA=>?_,λ aB=>?_⟩
  ·have I:j<(dg y).length:=by omega
   have J:=(Ad8 y).at I;obtain⟨e,he⟩: ∃e,(dg y)[j]=e:=⟨_,rfl⟩;rw[he] at J;have r:k+j<ws.length:=by omega
   have L:=F.at r;obtain⟨p,N⟩: ∃p,ws[k+j]=p:=⟨_,rfl⟩;rw[N] at L;have m1:d*e<=4294967295*4294967295:=Nat.mul_le_mul (by unfold B at D;omega) (by unfold B at J;omega);obtain⟨m,hm⟩: ∃m,d*e=m:=⟨_,rfl⟩;have Z:Ck3 (cel ws) (k+j) 0 [.int .u32 (p:Int)]:=⟨_,Au0 r,by rw[N];rfl⟩;have w1:IntKind.wrap .u64 (d:Int)=(d:Int):=Ab1 (by unfold B at D;omega);have w2:IntKind.wrap .u64 (e:Int)=(e:Int):=Ab1 (by unfold B at J;omega);have w3:IntKind.wrap .u64 (p:Int)=(p:Int):=Ab1 (by unfold B at L;omega);have w4:(d:Int)*(e:Int)=(m:Int):=by rw[<-hm];push_cast;rfl
   have R:c+(m+p)<18446744073709551616:=by unfold B at E L;omega
   have w5:IntKind.wrap .u64 ((c:Int)+IntKind.wrap .u64 (IntKind.wrap .u64 ((m:Nat):Int)+(p:Int)))=((c+(m+p):Nat):Int):=by
    rw[Ab1 (n:=m) (by omega),show((m:Nat):Int)+(p:Int)=((m+p:Nat):Int) by omega,Ab1 (n:=m+p) (by omega),show(c:Int)+((m+p:Nat):Int)=((c+(m+p):Nat):Int) by omega,Ab1 R]
   rw[Y];refine⟨Ad4.inB (h1.ext (o.trans f)) (by omega) (by omega),(d:Int),by rw[<-g];exact Ad4.at (h1.ext (o.trans f)) C,Ad4.inB (u.ext (o.trans f)) (by omega) (by omega),(e:Int),by rw[<-he];exact Ad4.at (u.ext (o.trans f)) I,by unfold I64;omega,⟨by omega,by rw[Aa5];omega⟩,(p:Int),Z,by unfold I64;omega,⟨by omega,by rw[Aa5];omega⟩,by rw[Aa5];exact r,by unfold I64;omega,?_⟩;rw[w1,w2,w3,w4,w5,Cx7 R,Ab9,Nat.mod_mod,Ao0,show Int.toNat ((k+j:Nat):Int)=k+j from rfl,Ae9];refine⟨⟨f,(c+(m+p))/B,j+1,_,rfl,by push_cast;rfl,rfl,by omega,?_,by simpa using hw,F.set (Nat.mod_lt _ Ad3),?_,λ i hi A=>?_⟩,?_⟩
   ·rw[Nat.div_lt_iff_lt_mul Ad3]
    unfold B at *;omega
   ·have q1:=Bh5 ws (k:=k+j) ((c+(m+p))%B) r
    rw[N] at q1;have q2:=Nat.mod_add_div (c+(m+p)) B;rw[Aa4 I,he,show k+(j+1)=k+j+1 by omega,Nat.pow_succ,Nat.mul_add,Nat.mul_add,<-Nat.mul_assoc,<-Nat.mul_assoc,<-Nat.mul_assoc];have q3:B^k*d*B^j*e=B^(k+j)*m:=by rw[Nat.pow_add,<-hm];grind
    rw[q3];rw[<-Nat.mul_assoc] at G;have q4:B^(k+j)*((c+(m+p))%B)+B^(k+j)*B*((c+(m+p))/B)=B^(k+j)*(c+(m+p)):=by
     conv=>rhs;rw[<-q2]
     rw[Nat.mul_add,Nat.mul_assoc]
    rw[Nat.mul_add,Nat.mul_add] at q4;generalize B^(k+j)*((c+(m+p))%B)=z1 at *;generalize B^(k+j)*B*((c+(m+p))/B)=z2 at *;generalize B^(k+j)*c=z3 at *;generalize B^(k+j)*m=z4 at *;generalize B^(k+j)*p=z5 at *;omega
   ·rw[List.getElem_set_ne (by omega)]
    exact H i (by simpa using hi) A
   ·show nl y-Int.toNat ((j:Int)+1)<nl y-Int.toNat (j:Int)
    omega
  ·have ai:j=nl y:=by omega
   subst ai;have O:k+nl y<ws.length:=by omega
   have e2:(k:Int)+(t.n:Int)=((k+nl y:Nat):Int):=by omega
   rw[e2];have ak:=H (k+nl y) O (Nat.le_refl _);refine⟨by unfold I64;omega,⟨by omega,by rw[Aa5];omega⟩,by rw[Aa5];exact O,by unfold I64;omega,?_⟩;rw[Ab9,Nat.mod_eq_of_lt E,show Int.toNat ((k+nl y:Nat):Int)=k+nl y from rfl,Ae9];refine⟨⟨o.trans f,k+1,_,by push_cast;rfl,rfl,by omega,by simpa using hw,F.set E,?_,λ i hi A=>?_⟩,?_⟩
   ·have q1:=Bh5 ws (k:=k+nl y) c O
    rw[ak,Nat.mul_zero,Nat.add_zero] at q1;rw[<-P,List.take_length,Ac5,P] at G;rw[q1,G,Aa4 C,g,w,Nat.add_mul,Nat.mul_assoc]
   ·rw[List.getElem_set_ne (by omega)]
    exact H i (by simpa using hi) (by omega)
   ·show nl x-Int.toNat ((k:Int)+1)<nl x-Int.toNat (k:Int)
    omega
 ·have al:k=nl x:=by omega
  subst al;rw[<-T,List.take_length,Ac5] at w;refine An1 hO.row Q (by omega) λ s' aD aE S=>⟨s',rfl,λ aF am=>⟨s',rfl,?_⟩⟩;rw[w] at S;exact S.ext am
theorem Bb0 (h1:Aa6 257 W s x)(d:Aa6 257 W t y)(e:nl x<=274877906944)(f:nl y<=274877906944)(g: ∀(s':Sl) (W':PW),Ext W W'->(Aa6 257 W' s' (x*y))->K (Sl.v s') W'):
  Aa1 Tryz.prog W0 M 153 [s.v,t.v] W K:=
 Mi4 (λ _ c=>El6 (h1.ext c) (d.ext c) e f) fun | _,W',c,⟨s',rfl,h⟩=>g s' W' c h
theorem El0:
  Aa0 Tryz.prog 152 [s.v] W0 M λ v W'=>v = .agg #[.bool false,s.v]/\True:=by
 apply Cz3;exact λ W c=>⟨rfl,trivial⟩
theorem Ak8 (d: ∀(W':PW),Ext W W'->(True)->K (.agg #[.bool false,s.v]) W'):
  Aa1 Tryz.prog W0 M 152 [s.v] W K:=
 Mi4 (λ _ c=>El0 ) fun | _,W',c,⟨rfl,h⟩=>d W' c h
theorem Ec9 (h:Aa6 257 W0 s x):
  Aa0 Tryz.prog 214 [.bool b,s.v] W0 M λ v W'=>∃(b':Bool),v = .agg #[.bool b',s.v]/\Ab5 257 W' s b' (if b=true then -(x:Int) else(x:Int)):=by
 apply Bn3;have f:=h.n;refine⟨λ c g d=>⟨_,rfl,?_⟩,λ c i d=>⟨_,rfl,?_⟩⟩
 ·rw[if_pos c]
  refine⟨by rw[Int.natAbs_neg,Int.natAbs_natCast];exact h.ext d,decide_eq_decide.2 ⟨λ h=>?_,λ h=>?_⟩⟩
  ·have:x≠0:=λ e=>by rw[e,Ag9] at f;omega
   omega
  ·have:nl x≠0:=λ e=>by rw[Ad0] at e;omega
   omega
 ·rw[if_neg (by simp[c])]
  exact Am1 (h.ext d)
theorem Aj7 (h:Aa6 257 W s x)(d: ∀(b':Bool) (W':PW),Ext W W'->(Ab5 257 W' s b' (if b=true then -(x:Int) else(x:Int)))->K (.agg #[.bool b',s.v]) W'):
  Aa1 Tryz.prog W0 M 214 [.bool b,s.v] W K:=
 Mi4 (λ _ c=>Ec9 (h.ext c)) fun | _,W',c,⟨b',rfl,h⟩=>d b' W' c h
theorem Dt9 (h:Ab5 257 W0 s b z):
  Aa0 Tryz.prog 15 [.agg #[.bool b,s.v]] W0 M λ v W'=>v = .int .i64 (By8 z)/\True:=by
 apply Cn4;have g:=h.1.n;have d:=h.2;refine⟨λ i W f=>⟨?_,trivial⟩,λ i=>⟨λ c W f=>⟨?_,trivial⟩,λ c W f=>⟨?_,trivial⟩⟩⟩
 ·have:z.natAbs=0:=Ad0.1 (by omega)
  have:z=0:=by omega
  subst this;rfl
 ·have:z<0:=of_decide_eq_true (d ▸ c)
  rw[By8,if_pos this]
 ·have h1:¬z<0:=of_decide_eq_false (d ▸ c)
  have j:z≠0:=λ e=>by subst e;rw[Int.natAbs_zero,Ag9] at g;omega
  rw[By8,if_neg h1,if_neg j]
theorem Aq7 (h:Ab5 257 W s b z)(d: ∀(W':PW),Ext W W'->(True)->K (.int .i64 (By8 z)) W'):
  Aa1 Tryz.prog W0 M 15 [.agg #[.bool b,s.v]] W K:=
 Mi4 (λ _ c=>Dt9 (h.ext c)) fun | _,W',c,⟨rfl,h⟩=>d W' c h
theorem Ed6 (h:Ab5 257 W0 s b z):
  Aa0 Tryz.prog 212 [.agg #[.bool b,s.v]] W0 M λ v W'=>∃(b':Bool),v = .agg #[.bool b',Sl.v s]/\Ab5 257 W' s b' (-z):=by
 apply Bw5;have c:=h.2;refine Aj7 h.1 λ d i j f=>⟨d,s,rfl,λ m g=>⟨d,rfl,?_⟩⟩;have e:(if(!b)=true then -(z.natAbs:Int) else(z.natAbs:Int)) = -z:=by
  cases b
  ·rw[if_pos (by rfl)]
   have:=of_decide_eq_false c.symm;omega
  ·rw[if_neg (by decide)]
   have:=of_decide_eq_true c.symm;omega
 rw[e] at f;exact f.ext g
theorem Bb6 (h:Ab5 257 W s b z)(d: ∀(b':Bool) (W':PW),Ext W W'->(Ab5 257 W' s b' (-z))->K (.agg #[.bool b',Sl.v s]) W'):
  Aa1 Tryz.prog W0 M 212 [.agg #[.bool b,s.v]] W K:=
 Mi4 (λ _ c=>Ed6 (h.ext c)) fun | _,W',c,⟨b',rfl,h⟩=>d b' W' c h
theorem Dx6 {c:Bool}{w:Int}(h1:Ab5 257 W0 s b z)(f:Ab5 257 W0 t c w)(L:nl z.natAbs<=274877906944)(hw:nl w.natAbs<=274877906944):
  Aa0 Tryz.prog 211 [.agg #[.bool b,s.v],.agg #[.bool c,t.v]] W0 M λ v W'=>∃(b':Bool),∃(s':Sl),v = .agg #[.bool b',Sl.v s']/\Ab5 257 W' s' b' (z+w):=by
 apply Bv0;have o:=Ce6 h1.2;have j:=Ce6 f.2;refine⟨λ m=>?_,λ m=>?_⟩
 ·refine Bz0 h1.1 f.1 (by omega) (by omega) λ s3 N O D=>⟨s3,rfl,Aj7 D λ B P Q C=>⟨B,s3,rfl,λ R E=>⟨B,s3,rfl,?_⟩⟩⟩
  have e:(if b=true then -((z.natAbs+w.natAbs:Nat):Int) else((z.natAbs+w.natAbs:Nat):Int))=z+w:=by
   rw[<-m] at j;cases b<;>simp at o j⊢<;>omega
  rw[e] at C;exact C.ext E
 ·refine Aj3 h1.1 f.1 (by omega) λ S n _=>⟨_,rfl,λ hle=>?_,λ hle=>?_⟩
  ·have r:w.natAbs<=z.natAbs:=Nat.le_of_not_lt λ h=>by rw[Al0 h] at hle;omega
   refine Bc2 (h1.1.ext n) (f.1.ext n) (by omega) r λ d F G u=>⟨d,rfl,Aj7 u λ g H I i=>⟨g,d,rfl,λ J A=>⟨g,d,rfl,?_⟩⟩⟩;have e:(if b=true then -((z.natAbs-w.natAbs:Nat):Int) else((z.natAbs-w.natAbs:Nat):Int))=z+w:=by
    cases b<;>cases c<;>simp at m o j⊢<;>omega
   rw[e] at i;exact i.ext A
  ·have r:z.natAbs<=w.natAbs:=Nat.le_of_not_lt λ h=>by rw[Aj4 h] at hle;omega
   refine Bc2 (f.1.ext n) (h1.1.ext n) (by omega) r λ d F G u=>⟨d,rfl,Aj7 u λ g H I i=>⟨g,d,rfl,λ J A=>⟨g,d,rfl,?_⟩⟩⟩;have T:z.natAbs<w.natAbs:=Nat.lt_of_not_le λ h=>hle (by
    rcases Nat.lt_or_eq_of_le h with h | h
    ·rw[Aj4 h];omega
    ·rw[h,Ap9];omega)
   have e:(if c=true then -((w.natAbs-z.natAbs:Nat):Int) else((w.natAbs-z.natAbs:Nat):Int))=z+w:=by
    cases b<;>cases c<;>simp at m o j⊢<;>omega
   rw[e] at i;exact i.ext A
theorem Bl7 {c:Bool}{w:Int}(h1:Ab5 257 W s b z)(e:Ab5 257 W t c w)(f:nl z.natAbs<=274877906944)(hw:nl w.natAbs<=274877906944)(g: ∀(b':Bool) (s':Sl) (W':PW),Ext W W'->(Ab5 257 W' s' b' (z+w))->K (.agg #[.bool b',Sl.v s']) W'):
  Aa1 Tryz.prog W0 M 211 [.agg #[.bool b,s.v],.agg #[.bool c,t.v]] W K:=
 Mi4 (λ _ d=>Dx6 (h1.ext d) (e.ext d) f hw) fun | _,W',d,⟨b',s',rfl,h⟩=>g b' s' W' d h
theorem Dw8 {c:Bool}{w:Int}(h1:Ab5 257 W0 s b z)(f:Ab5 257 W0 t c w)(g:nl z.natAbs<=274877906944)(hw:nl w.natAbs<=274877906944):
  Aa0 Tryz.prog 242 [.agg #[.bool b,s.v],.agg #[.bool c,t.v]] W0 M λ v W'=>∃(b':Bool),∃(s':Sl),v = .agg #[.bool b',Sl.v s']/\Ab5 257 W' s' b' (z-w):=by
 apply Bs2;exact Bb6 f λ h o i j=>⟨h,t,rfl,Bl7 (h1.ext i) j g (by rw[Int.natAbs_neg];exact hw) λ d e r u m=>⟨d,e,rfl,λ A n=>⟨d,e,rfl,by rw[Int.sub_eq_add_neg];exact m.ext n⟩⟩⟩
theorem Cz4 {c:Bool}{w:Int}(h1:Ab5 257 W s b z)(e:Ab5 257 W t c w)(f:nl z.natAbs<=274877906944)(hw:nl w.natAbs<=274877906944)(g: ∀(b':Bool) (s':Sl) (W':PW),Ext W W'->(Ab5 257 W' s' b' (z-w))->K (.agg #[.bool b',Sl.v s']) W'):
  Aa1 Tryz.prog W0 M 242 [.agg #[.bool b,s.v],.agg #[.bool c,t.v]] W K:=
 Mi4 (λ _ d=>Dw8 (h1.ext d) (e.ext d) f hw) fun | _,W',d,⟨b',s',rfl,h⟩=>g b' s' W' d h
theorem Ec2 {c:Bool}{w:Int}(h1:Ab5 257 W0 s b z)(i:Ab5 257 W0 t c w)(n:nl z.natAbs<=274877906944)(hw:nl w.natAbs<=274877906944):
  Aa0 Tryz.prog 151 [.agg #[.bool b,s.v],.agg #[.bool c,t.v]] W0 M λ v W'=>∃(b':Bool),∃(s':Sl),v = .agg #[.bool b',Sl.v s']/\Ab5 257 W' s' b' (z*w):=by
 apply Bq1;have d:=h1.2;have f:=i.2;refine Bb0 h1.1 i.1 n hw λ s3 u A o=>⟨s3,rfl,Aj7 o λ j B C m=>⟨j,s3,rfl,λ D r=>⟨j,s3,rfl,?_⟩⟩⟩;have e:(if(decide (b≠c))=true then -((z.natAbs*w.natAbs:Nat):Int) else((z.natAbs*w.natAbs:Nat):Int))=z*w:=by
  rw[<-Int.natAbs_mul];rcases Int.lt_or_le z 0 with h | h<;>rcases Int.lt_or_le w 0 with g | g
  ·rw[decide_eq_true h] at d
   rw[decide_eq_true g] at f;subst d f;have:=Int.mul_pos_of_neg_of_neg h g;simp;omega
  ·rw[decide_eq_true h] at d
   rw[decide_eq_false (by omega)] at f;subst d f;have:=Int.mul_nonneg (show 0<=-z by omega) g;rw[Int.neg_mul] at this;simp;omega
  ·rw[decide_eq_false (by omega)] at d
   rw[decide_eq_true g] at f;subst d f;have:=Int.mul_nonneg h (show 0<=-w by omega);rw[Int.mul_neg] at this;simp;omega
  ·rw[decide_eq_false (by omega)] at d
   rw[decide_eq_false (by omega)] at f;subst d f;have:=Int.mul_nonneg h g;simp;omega
 rw[e] at m;exact m.ext r
theorem Am2 {c:Bool}{w:Int}(h1:Ab5 257 W s b z)(e:Ab5 257 W t c w)(f:nl z.natAbs<=274877906944)(hw:nl w.natAbs<=274877906944)(g: ∀(b':Bool) (s':Sl) (W':PW),Ext W W'->(Ab5 257 W' s' b' (z*w))->K (.agg #[.bool b',Sl.v s']) W'):
  Aa1 Tryz.prog W0 M 151 [.agg #[.bool b,s.v],.agg #[.bool c,t.v]] W K:=
 Mi4 (λ _ d=>Ec2 (h1.ext d) (e.ext d) f hw) fun | _,W',d,⟨b',s',rfl,h⟩=>g b' s' W' d h
theorem Dx8 {c:Bool}{w:Int}(h1:Ab5 257 W0 s b z)(d:Ab5 257 W0 t c w)(e:nl z.natAbs<=274877906944)(hw:nl w.natAbs<=274877906944):
  Aa0 Tryz.prog 194 [.agg #[.bool b,s.v],.agg #[.bool c,t.v]] W0 M λ v W'=>v = .int .i64 (As4 z w)/\True:=by
 apply By7;refine Cz4 h1 d e hw λ f s4 h i g=>⟨f,s4,rfl,Aq7 g λ j m _=>⟨_,rfl,λ n o=>⟨?_,trivial⟩⟩⟩;have:As4 z w=By8 (z-w):=by
  unfold As4 By8;split<;>split<;>(try split)<;>(try split)<;>first | rfl | omega
 rw[this]
theorem Cv9 {c:Bool}{w:Int}(h1:Ab5 257 W s b z)(e:Ab5 257 W t c w)(f:nl z.natAbs<=274877906944)(hw:nl w.natAbs<=274877906944)(g: ∀(W':PW),Ext W W'->(True)->K (.int .i64 (As4 z w)) W'):
  Aa1 Tryz.prog W0 M 194 [.agg #[.bool b,s.v],.agg #[.bool c,t.v]] W K:=
 Mi4 (λ _ d=>Dx8 (h1.ext d) (e.ext d) f hw) fun | _,W',d,⟨rfl,h⟩=>g W' d h
end Go.Proofs.YtkgeopnakkcdoaaGreatDoor
namespace Go.Proofs.YtkgeopnakkcdoaaGreatDoor
open Go Go.SX
variable {K:Value->PW->Prop}{M:Nat->Prop}{W W0:PW}{b b':Bool}{k l:Nat}{p q:Rat}{s s' t t':Sl}
theorem El5 (h:Ab6 257 W0 b s t q):
  Aa0 Tryz.prog 154 [.agg #[.bool b,s.v,t.v]] W0 M λ v W'=>∃(s':Sl),v=Sl.v s'/\Aa6 257 W' s' q.den:=by
 apply Cq5;refine⟨λ c=>?_,λ c g d=>⟨t,rfl,?_⟩⟩
 ·refine Ae0 (x:=1) (by decide) λ s3 i j e=>⟨s3,rfl,λ m f=>⟨s3,rfl,?_⟩⟩
  have:q.den=1:=by
   rcases h.2 with h | h
   ·have:=h.n
    have:=Ad0.1 (show nl q.den=0 by omega);exact absurd this q.den_nz
   ·exact h.1
  rw[this];exact e.ext f
 ·rcases h.2 with h | h
  ·exact h.ext d
  ·have:=h.2.n
   rw[Ag9] at this;omega
theorem Ag4 (h:Ab6 257 W b s t q)(d: ∀(s':Sl) (W':PW),Ext W W'->(Aa6 257 W' s' q.den)->K (Sl.v s') W'):
  Aa1 Tryz.prog W0 M 154 [.agg #[.bool b,s.v,t.v]] W K:=
 Mi4 (λ _ c=>El5 (h.ext c)) fun | _,W',c,⟨s',rfl,h⟩=>d s' W' c h
theorem Ck5 {n:Nat}(h:nl n<=k):nl (n:Int).natAbs<=k:=by rw[Int.natAbs_natCast];exact h
theorem Bw8 {z:Int}{w:Int}(h:nl z.natAbs<=k)(c:nl w.natAbs<=l):nl (z*w).natAbs<=k+l:=by
 rw[Int.natAbs_mul];exact Nat.le_trans (Ae5 _ _) (Nat.add_le_add h c)
theorem Dz8 (h1:Ab6 257 W0 b s t p)(e:Ab6 257 W0 b' s' t' q)(f:Sz k p)(g:Sz l q)(hk:k<=500000000)(G:l<=500000000):
  Aa0 Tryz.prog 131 [.agg #[.bool b,s.v,t.v],.agg #[.bool b',s'.v,t'.v]] W0 M λ v W'=>v = .int .i64 (Co4 p q)/\True:=by
 apply Bs0;have m:=f.1;have a2:=f.2;have b1:=g.1;have b2:=g.2;have m1:=Bw8 m (Ck5 b2);have m2:=Bw8 b1 (Ck5 a2);refine Ag4 e λ s3 H h n=>⟨s3,rfl,Ak8 λ I c _=>⟨_,_,rfl,Am2 ((h1.1.ext h).ext c) (Am1 (n.ext c)) (by omega) (by rw[Int.natAbs_natCast];omega) λ o r J u w=>⟨o,r,rfl,?_⟩⟩⟩;have i:=(h.trans c).trans u;refine Ag4 (h1.ext i) λ A L j B=>⟨A,rfl,Ak8 λ N d _=>⟨_,_,rfl,Am2 (((e.1.ext i).ext j).ext d) (Am1 (B.ext d)) (by omega) (by rw[Int.natAbs_natCast];omega) λ C D O E F=>⟨C,D,rfl,?_⟩⟩⟩;refine Cv9 (((w.ext j).ext d).ext E) F (by omega) (by omega) λ P Q _=>⟨_,rfl,λ R S=>⟨?_,trivial⟩⟩;rw[Dn0]
theorem Ar1 (h1:Ab6 257 W b s t p)(d:Ab6 257 W b' s' t' q)(e:Sz k p)(f:Sz l q)(hk:k<=500000000)(g:l<=500000000)(i: ∀(W':PW),Ext W W'->(True)->K (.int .i64 (Co4 p q)) W'):
  Aa1 Tryz.prog W0 M 131 [.agg #[.bool b,s.v,t.v],.agg #[.bool b',s'.v,t'.v]] W K:=
 Mi4 (λ _ c=>Dz8 (h1.ext c) (d.ext c) e f hk g) fun | _,W',c,⟨rfl,h⟩=>i W' c h
end Go.Proofs.YtkgeopnakkcdoaaGreatDoor
