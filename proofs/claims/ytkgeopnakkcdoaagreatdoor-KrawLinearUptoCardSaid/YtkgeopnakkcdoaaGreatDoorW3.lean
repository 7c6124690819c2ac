import Derived.Test.YtkgeopnakkcdoaaGreatDoorW2
import Derived.Test.YtkgeopnakkcdoaaGreatDoorLib1
import Derived.Test.YtkgeopnakkcdoaaGreatDoorR2
import Derived.Test.YtkgeopnakkcdoaaGreatDoorLib2
set_option linter.unusedVariables false
set_option linter.unusedSimpArgs false
set_option maxRecDepth 100000
namespace Go.Proofs.YtkgeopnakkcdoaaGreatDoor
open Go Go.SX
variable {M:Nat->Prop}{W W0:PW}{k x y:Nat}{l:List Nat}{s:Sl}
theorem Ep6 (h:y≠0):B^(nl y-1)<=y:=by
 obtain⟨hk,h1,c,d⟩:=Bt4 h;have:=Nat.mul_le_mul_left (B^(nl y-1)) (Nat.pos_of_ne_zero h1);omega
theorem Ew3 (h:y≠0)(hk:nl y-1<(dg y).length):nl (y*2^(32-Aj9 (dg y)[nl y-1]))=nl y:=by
 obtain⟨r,h1,c,f⟩:=Bt4 h;obtain⟨t,g⟩: ∃t,(dg y)[nl y-1]=t:=⟨_,rfl⟩;rw[g] at h1 c f⊢;have u:nl y≠0:=λ e=>h (Ad0.1 e);obtain⟨n,d,v,i⟩:=Ax2 h1;have w:n+1<=32:=by rw[<-d];exact Bb9 c
 have A:=Ae6 (Ad8 y) (nl y-1);apply Nat.le_antisymm
 ·apply Bc6
  rw[d];have j:y<B^(nl y-1)*(t+1):=by rw[Nat.mul_add,Nat.mul_one];omega
  have C:y*2^(32-(n+1))<B^(nl y-1)*(t+1)*2^(32-(n+1)):=Nat.mul_lt_mul_of_pos_right j (Nat.two_pow_pos _);have m:(t+1)*2^(32-(n+1))<=B:=by
   have:=Nat.mul_le_mul_right (2^(32-(n+1))) (show t+1<=2^(n+1) from i);rw[<-Nat.pow_add,show n+1+(32-(n+1))=32 by omega] at this;exact this
  have o:=Nat.mul_le_mul_left (B^(nl y-1)) m;rw[<-Nat.mul_assoc,<-Nat.pow_succ,show(nl y-1).succ=nl y by omega] at o;omega
 ·exact Ad1 (Nat.le_mul_of_pos_right _ (Nat.two_pow_pos _))
theorem Ej5 {t:TypeId}{xs:List (List Value)}{a:Addr}{sz:Nat}(h:Go.SX.Own W t sz s xs)(c:s.A=some a):s.v.ownBlock=some a.block:=by
 simp[Sl.v,Value.ownBlock,c]
theorem Cd2 (h:k<=l.length)(f:val l<B^k):val (l.take k)=val l:=by
 have e:=Am8 l h;have c:val (l.drop k)=0:=by
  apply Nat.eq_zero_of_not_pos;intro d;have:=Nat.mul_le_mul_left (B^k) d;omega
 rw[c,Nat.mul_zero,Nat.add_zero] at e;exact e.symm
theorem Cu1 (c:Dig l)(h:k<=l.length):val (l.drop k)=val l/B^k:=by
 have e:=Am8 l h;rw[e,Nat.add_mul_div_left _ _ (Nat.pow_pos Ad3),Nat.div_eq_of_lt (Ae6 c k),Nat.zero_add]
theorem El7 {t:Sl}(h1:Aa6 257 W0 s x)(R:Aa6 257 W0 t y)(hx:nl x<=137438953472)(hy:nl y<=137438953472):
  Aa0 Tryz.prog 174 [.agg #[s.v],.agg #[t.v]] W0 M λ v W'=>∃(s1:Sl),∃(s2:Sl),v = .tuple #[.agg #[Sl.v s1],.agg #[Sl.v s2],.bool (decide (y≠0))]/\Aa6 257 W' s1 (x/y)/\(y≠0->Aa6 257 W' s2 (x%y)):=by
 apply Dm5;have n1:=h1.n;have n2:=R.n;have bD:(dg x).length=nl x:=rfl;have bE:(dg y).length=nl y:=rfl;refine⟨λ h0 W1 bF=>?_,λ h0=>?_⟩
 ·have:y=0:=Ad0.1 (by omega)
  subst this;exact⟨⟨none,0,0⟩,⟨none,0,0⟩,by simp,by rw[Nat.div_zero];exact Af6 W1,λ h=>absurd rfl h⟩
 have c:y≠0:=λ e=>h0 (by rw[n2,e,Ag9];rfl);rw[decide_eq_true c];refine Ap6 h1 R (by omega) (by omega) λ W3 d _=>⟨_,rfl,λ f W5 aM=>?_,λ aN=>?_⟩
 ·have af:x<y:=by
   apply Nat.lt_of_not_le;intro h;rcases Nat.lt_or_eq_of_le h with h | rfl
   ·rw[Aj4 h] at f;omega
   ·rw[Ap9] at f;omega
  refine⟨⟨none,0,0⟩,s,rfl,by rw[Nat.div_eq_of_lt af];exact Af6 W5,λ _=>?_⟩;rw[Nat.mod_eq_of_lt af];exact(h1.ext d).ext aM
 have hle:y<=x:=by
  apply Nat.le_of_not_lt;intro h;rw[Al0 h] at aN;omega
 have bH:=Ad1 hle;have aO:x≠0:=by omega
 have ag:=h1.ext d;have F:=R.ext d;refine⟨λ bI=>?_,λ bJ=>?_⟩
 ·-- one digit
  have aP:nl y=1:=by omega
  obtain⟨hk,G,j,m⟩:=Bt4 c;simp only[aP,Nat.sub_self,List.take_zero,val,Nat.pow_zero,Nat.one_mul,Nat.zero_add] at G j m;refine Aa2 (λ W' hE=>Ds4 (M:=λ _=>False) (ag.ext hE) (by omega)) λ W' v W7 ah aR A=>?_;obtain⟨s8,rfl,aT,aU⟩:=A;have aV:=ah.trans aR;have ai:=F.ext aV;refine⟨s8,rfl,Ad4.inB ai (by omega) (by omega),_,Ad4.at ai (i:=0) (by omega),?_⟩;rw[<-m];have H:dg x≠[]:=by
   intro e;have:nl x=0:=by rw[nl,e];rfl
   exact aO (Ad0.1 this)
  intro W9 aW;obtain⟨g,cs,hm,S⟩:=(aT.ext aW).mut H;refine⟨λ b=>b=g,_,Bw9 hm (Ad8 x) (Nat.pos_of_ne_zero c) (by rw[m];exact j) (by omega),λ g' T=>?_,λ v bM bN A=>?_⟩
  ·subst T
   exact⟨hm.S,.inr (Nat.le_trans (Nat.le_trans d.size ah.size) (aU _ S))⟩
  obtain⟨ws,rfl,I,J,aj,U⟩:=A;have V:=(hm.put U I).row;rw[Ac5] at aj;refine⟨_,rfl,Ap7 V J (by omega) λ ak bO bP al=>⟨ak,rfl,?_⟩⟩;have aY:x%y<B:=Nat.lt_trans (Nat.mod_lt _ (Nat.pos_of_ne_zero c)) (by rw[m];exact j);rw[Ac5,Ab1 (by unfold B at aY;omega)];refine As2 (by unfold B at *;omega) λ am bQ aZ a0=>⟨am,rfl,λ bR an=>⟨ak,am,rfl,?_,λ _=>a0.ext an⟩⟩;rw[aj] at al;exact(al.ext aZ).ext an
 ·-- bS bT
  have bU:2<=nl y:=by
   have:nl y≠0:=λ e=>c (Ad0.1 e);omega
  obtain⟨hk,G,j,m⟩:=Bt4 c;have hlen:=Ew3 c hk;obtain⟨C,ao⟩: ∃C,(dg y)[nl y-1]=C:=⟨_,rfl⟩;have ex:(t.n:Int)-1=((nl y-1:Nat):Int):=by omega
  try dsimp only
  try dsimp only
  rw[ex]
  try rw[show Int.toNat ((nl y-1:Nat):Int)=nl y-1 from rfl]
  refine⟨by unfold I64;omega,Ad4.inB F (by omega) (by omega),(C:Nat),by rw[<-ao];exact Ad4.at F hk,?_⟩;rw[ao] at G j m hlen;obtain⟨sh,ap⟩: ∃sh,32-Aj9 C=sh:=⟨_,rfl⟩;have bV:sh<32:=by
   have:Aj9 C≠0:=λ e=>G (Ag3.1 e);omega
  rw[ap] at hlen;have a1:2^sh<=B:=by
   have:=Nat.pow_le_pow_right (by decide:0<2) (show sh<=32 by omega);exact this
  refine Dg0 j λ a2 D _=>?_;rw[ap];refine⟨_,rfl,by unfold I64;omega,Fc8 ?_ 1⟩;have a3:=ag.ext D;have aq:=F.ext D;refine Bt7 a3 (by omega) (by omega) λ a4 bW ar ⟨Z,au⟩=>⟨a4,rfl,?_⟩;obtain⟨X,n⟩: ∃X,x*2^sh=X:=⟨_,rfl⟩;obtain⟨Y,r⟩: ∃Y,y*2^sh=Y:=⟨_,rfl⟩;rw[n] at au;rw[r] at hlen;have av:X<B^(nl x+1):=by
   rw[<-n,Nat.pow_succ];exact Nat.mul_lt_mul_of_lt_of_le (Bb4 x) a1 Ad3
  have bX:nl X<=nl x+1:=Bc6 av;have bY:nl x<=nl X:=by rw[<-n];exact Ad1 (Nat.le_mul_of_pos_right _ (Nat.two_pow_pos _))
  intro a5 aa;refine⟨cel (dg X),au.ext aa,λ g hg=>.inr (Nat.le_trans (Nat.le_trans d.size D.size) (Z g hg)),?_,λ ac L a6 u a7=>?_⟩
  ·have:(dg X).length=nl X:=rfl
   rw[Aa5];simp only[List.length_cons,List.length_nil];omega
  have u:Go.SX.Own L 257 1 ac (cel (dg X ++ [0,0])):=by
   have e:cel (dg X) ++ [[Value.int .u32 0],[Value.int .u32 0]]=cel (dg X ++ [0,0]):=by rw[<-Bh9];rfl
   rw[e] at u;exact u
  have aw:=u.row.1;have bZ:=u.row.2.1;have ax:(dg X).length=nl X:=rfl;rw[Aa5,List.length_append,ax] at aw;simp only[List.length_cons,List.length_nil] at aw;have a8:Aa6 257 L t y:=by
   have hb:Aa6 257 a5 t y:=(aq.ext ar).ext aa;exact Row.other hb a6 λ a N hg=>by
    have f:a.block<a2.w.heap.size:=by
     obtain⟨_,_,_,_,w⟩:=aq;rcases w with w | ⟨b,o,cs,fz,hA,_,hh,_⟩
     ·simp[cel] at w
      have:nl y=0:=by rw[nl,w];rfl
      omega
     ·rw[hA] at N;cases N
      exact(Array.getElem?_eq_some_iff.1 hh).1
    have:=Z _ hg;omega
  rw[show(s.n:Int)+1=((nl x+1:Nat):Int) by omega,show Int.toNat ((nl x+1:Nat):Int)=nl x+1 from rfl,show Int.toNat 0=0 from rfl];have bc:TyI.size Mk6=1:=rfl;dsimp only;rw[bc,Sl.Ar0];refine⟨⟨by omega,by omega,by omega⟩,?_⟩;refine Bt7 a8 (by omega) (by omega) λ ay b1 bd ⟨be,ad⟩=>⟨ay,rfl,?_⟩;rw[r] at ad;obtain⟨us,O⟩: ∃us,(dg X ++ [0,0]).take (nl x+1)=us:=⟨_,rfl⟩;have P:us.length=nl x+1:=by rw[<-O];simp;omega
  have az:Go.SX.Own L 257 1 ⟨ac.A,nl x+1,ac.c⟩ (cel us):=by
   have:=u.take (k:=nl x+1) (by rw[Aa5,List.length_append,ax];simp;omega);rw[Bo2,O] at this;exact this
  have aA:Dig us:=by
   rw[<-O];exact Dig.take ((Ad8 X).append (Dig.cons Ad3 (Dig.cons Ad3 Dig.nil))) _
  have aB:val us=X:=by
   rw[<-O];have e:val (dg X ++ [0,0])=X:=by rw[Ag8,Ac5];simp[val]
   rw[Cd2 (by simp;omega) (by rw[e];exact av),e]
  have bf:(dg Y).length=nl y:=hlen;have bg:val (us.drop (us.length-(dg Y).length))<val (dg Y):=by
   rw[Cu1 aA (by omega),aB,Ac5,P,bf,Nat.div_lt_iff_lt_mul (Nat.pow_pos Ad3)];have E:X<B^nl x*2^sh:=by rw[<-n];exact Nat.mul_lt_mul_of_pos_right (Bb4 x) (Nat.two_pow_pos _)
   have w:B^nl x=B^(nl y-1)*B^(nl x+1-nl y):=by rw[<-Nat.pow_add];congr 1;omega
   have h5:B^(nl y-1)*2^sh<=Y:=by rw[<-r];exact Nat.mul_le_mul_right _ (Ep6 c)
   have h6:=Nat.mul_le_mul_right (B^(nl x+1-nl y)) h5;rw[w] at E;have e7:B^(nl y-1)*B^(nl x+1-nl y)*2^sh=B^(nl y-1)*2^sh*B^(nl x+1-nl y):=by
    rw[Nat.mul_assoc,Nat.mul_comm (B^(nl x+1-nl y)),<-Nat.mul_assoc]
   omega
  have bi: ∀h:(dg Y).length-1<(dg Y).length,(dg Y)[(dg Y).length-1]≠0:=λ h=>by
   have bj:Y≠0:=by
    rw[<-r];exact Nat.mul_ne_zero c (by have:=Nat.two_pow_pos sh;omega)
   exact(Bt4 bj).2.1
  intro b4 aC;have H:us≠[]:=λ e=>by rw[e] at P;simp at P
  have bk:=(az.ext bd).ext aC;obtain⟨g,cs,hm,S⟩:=bk.mut H;obtain⟨_,_,aD,b5⟩:=az.mut H;have b6:g<L.w.heap.size:=by
   have e:=aD.A;rw[hm.A] at e;cases e;exact aD.lt
  have bl:may W0 M g:=by
   rcases a7 g (Cj9 S) with h | h
   ·exact .inr (Nat.le_trans (Nat.le_trans d.size D.size) (Z g h))
   ·exact .inr (Nat.le_trans (Nat.le_trans (Nat.le_trans d.size D.size) (Nat.le_trans ar.size aa.size)) h)
  have bm: ∀a:Addr,ay.A=some a->a.block≠g:=λ a N e=>by
   have:=be _ (Ej5 ad N);omega
  have bn:=ad.ext aC;refine⟨λ b=>b=g,_,Ea3 hm (λ _ _=>trivial) bn.row bm (by omega) (by omega) aA (Ad8 Y) bi bg (by omega),λ g' T=>by subst T;exact⟨hm.S,bl⟩,λ v b7 b8 A=>?_⟩;obtain⟨bo,ws,zs,rfl,bp,b9,ca,bq,I,J,U,Q,f⟩:=A;rw[Ac5] at Q f;rw[aB] at Q;have br:0<Y:=by omega
  have hq:val zs=x/y:=by
   have E:X/Y=val zs:=by rw[Q,Nat.add_mul_div_left _ _ br,Nat.div_eq_of_lt f,Nat.zero_add]
   rw[<-E,<-n,<-r,Nat.mul_div_mul_right _ _ (Nat.two_pow_pos sh)]
  have hr:val ws=x%y*2^sh:=by
   have E:X%Y=val ws:=by rw[Q,Nat.add_mul_mod_self_left,Nat.mod_eq_of_lt f]
   rw[<-E,<-n,<-r,Nat.mul_mod_mul_right]
  have V:=(hm.put U I).row;refine⟨bo,rfl,Ap7 bp.row bq (by omega) λ aE cb bu aF=>⟨aE,rfl,?_⟩⟩;refine Ap7 (V.ext bu) J (by omega) λ bv cc bw bx=>⟨bv,rfl,?_⟩;have cd:nl (val ws)<=nl x+1:=Bc6 (by
   have:=Ax5 J
   rwa [I,P] at this)
  refine Br2 bx (by omega) (by omega) λ aG ce bz aH=>⟨aG,rfl,λ cf aI=>⟨aE,aG,rfl,?_,λ _=>?_⟩⟩
  ·rw[hq] at aF
   exact((aF.ext bw).ext bz).ext aI
  ·rw[hr,Nat.mul_div_cancel _ (Nat.two_pow_pos sh)] at aH
   exact aH.ext aI
theorem At8 {K:Value->PW->Prop}{t:Sl}(h1:Aa6 257 W s x)(d:Aa6 257 W t y)(e:nl x<=137438953472)(f:nl y<=137438953472)(g: ∀(s1:Sl) (s2:Sl) (W':PW),Ext W W'->(Aa6 257 W' s1 (x/y)/\(y≠0->Aa6 257 W' s2 (x%y)))->K (.tuple #[.agg #[Sl.v s1],.agg #[Sl.v s2],.bool (decide (y≠0))]) W'):
  Aa1 Tryz.prog W0 M 174 [.agg #[s.v],.agg #[t.v]] W K:=
 Mi4 (λ _ c=>El7 (h1.ext c) (d.ext c) e f) fun | _,W',c,⟨s1,s2,rfl,h⟩=>g s1 s2 W' c h
end Go.Proofs.YtkgeopnakkcdoaaGreatDoor
namespace Go.Proofs.YtkgeopnakkcdoaaGreatDoor
open Go Go.SX
variable {M:Nat->Prop}{W W0:PW}{s:Sl}{t:TypeId}{x y:Nat}
theorem Bo4 (a b:Nat):Nat.gcd b (a%b)=Nat.gcd a b:=by
 rw[Nat.gcd_comm b,<-Nat.gcd_rec,Nat.gcd_comm]
def Fv9 (x y k:Nat) (W0:PW) (l:List PL) (W:PW):Prop:=
 match l with
 | [.cells [.slice A n c],.cells [.slice d e f]]=>Ext W0 W/\∃a b,Aa6 257 W ⟨A,n,c⟩ a/\Aa6 257 W ⟨d,e,f⟩ b/\Nat.gcd a b=Nat.gcd x y/\nl a<=k/\nl b<=k
 | _=>False
noncomputable def slN (W:PW) (t:TypeId) (s:Sl):Nat:=open Classical in if h: ∃b,Aa6 t W s b then Classical.choose h else 0
theorem Dt3 {xs:List (List Value)}{c:List (List Value)}{sz:Nat}(h:Row W t sz s xs)(k:Row W t sz s c):xs=c:=by
 have f:xs.length=c.length:=h.1.symm.trans k.1;apply List.ext_getElem f;intro i h1 e;have g:=(h.2.2.2.1 _ (List.getElem_mem h1)).1;have m:=(k.2.2.2.1 _ (List.getElem_mem e)).1;have n:Aa7 W s sz i 0 xs[i]:=Row.elem h (List.getElem?_eq_getElem h1) λ j v d=>by simpa using d
 have a2:Aa7 W s sz i 0 c[i]:=Row.elem k (List.getElem?_eq_getElem e) λ j v d=>by simpa using d
 exact Aa7.inj n a2 (g.trans m.symm)
theorem El8: ∀{l r:List Nat} (_:cel l=cel r),l=r
 | [],[],_=>rfl
 | [],_ :: _,h=>by simp[cel] at h
 | _ :: _,[],h=>by simp[cel] at h
 | a::l,b::r,h=>by
  simp only[cel,List.map_cons,List.cons.injEq,Value.int.injEq,true_and,and_true] at h;have:=El8 (l:=l) (r:=r) h.2;rw[this];congr 1;omega
theorem Bl5 {b:Nat}(h:Aa6 t W s b):slN W t s=b:=by
 have hex: ∃b,Aa6 t W s b:=⟨b,h⟩;unfold slN;rw[dif_pos hex];have:=Classical.choose_spec hex;have e:=El8 (Dt3 this h);rw[<-Ac5 (Classical.choose hex),e,Ac5]
noncomputable def Fu8 (l:List PL) (W:PW):Nat:=
 match l with
 | [_,.cells [.slice c d e]]=>slN W 257 ⟨c,d,e⟩
 | _=>0
def Fs4 (g:Nat) (c:PW) (l:List PL) (W:PW):Prop:=
 match l with
 | [.val (.int .u64 a),.val (.int .u64 b)]=>Ext c W/\∃a' b':Nat,a=(a':Int)/\b=(b':Int)/\a'<B*B/\b'<B*B/\Nat.gcd a' b'=g
 | _=>False
def Fp9 (l:List PL) (W:PW):Nat:=
 match l with
 | [_,.val (.int .u64 b)]=>b.toNat
 | _=>0
theorem Ek8 {t:Sl}(h1:Aa6 257 W0 s x)(G:Aa6 257 W0 t y)(H:nl x<=137438953472)(I:nl y<=137438953472):
  Aa0 Tryz.prog 98 [.agg #[s.v],.agg #[t.v]] W0 M λ v W'=>∃(s':Sl),v = .agg #[Sl.v s']/\Aa6 257 W' s' (Nat.gcd x y):=by
 apply Dg3;refine⟨Fv9 x y 137438953472 W0,Fu8,⟨Ext.refl _,x,y,h1,G,rfl,H,I⟩,?_⟩;rintro s3 s4 m ⟨J,a,b,f,c,g,r,i⟩;have f:Aa6 257 m s3 a:=f;have c:Aa6 257 m s4 b:=c;have u:=c.n;refine⟨λ ac=>?_,λ ad=>⟨λ w ae L=>?_,λ w=>?_⟩⟩
 ·have d:b≠0:=λ e=>by rw[e,Ag9] at u;omega
  have j:=Nat.mod_lt a (Nat.pos_of_ne_zero d);refine At8 f c r i λ s8 N O A ⟨h8,C⟩=>⟨_,_,_,rfl,⟨J.trans A,b,a%b,c.ext A,C d,by rw[Bo4];exact g,i,Nat.le_trans (Ad1 (Nat.le_of_lt j)) i⟩,?_⟩;show slN O 257 N<slN m 257 s4;rw[Bl5 (C d),Bl5 c];exact j
 ·have d:b=0:=Ad0.1 (by omega)
  rw[d,Nat.gcd_zero_right] at g;exact⟨s3,rfl,by rw[<-g];exact f.ext L⟩
 ·have d:b≠0:=λ e=>w (by rw[u,e,Ag9];rfl)
  have j:=Nat.mod_lt a (Nat.pos_of_ne_zero d);have D:b<B*B:=by
   have h3:=Bb4 b;have P:=Nat.pow_le_pow_right Ad3 (show nl b<=2 by omega);rw[Nat.pow_succ,Nat.pow_one] at P;omega
  refine At8 f c r i λ ai aj ak Q ⟨al,R⟩=>⟨_,_,_,rfl,?_⟩;have S:=R d;refine Bw7 (c.ext Q) (by omega) λ am T _=>⟨_,rfl,?_⟩;refine Bw7 (S.ext T) (Nat.le_trans (Ad1 (Nat.le_of_lt j)) (by omega)) λ U an _=>⟨_,rfl,?_⟩;rw[Nat.mod_eq_of_lt D,Nat.mod_eq_of_lt (a:=a%b) (by omega)];refine⟨Fs4 (Nat.gcd x y) U,Fp9,⟨Ext.refl _,b,a%b,rfl,rfl,D,by omega,by rw[Bo4];exact g⟩,?_⟩;rintro i25 i26 ao ⟨V,p,q,rfl,rfl,X,Y,n⟩;refine⟨λ E=>?_,λ Z=>?_⟩
  ·have o:q≠0:=λ e=>E (by rw[e];rfl)
   have hm:=Nat.mod_lt p (Nat.pos_of_ne_zero o);have e:Int.tmod (p:Int) (q:Int)=((p%q:Nat):Int):=by rw[Int.tmod_eq_emod_of_nonneg (by omega)];rfl
   rw[e];exact⟨E,⟨V,q,p%q,rfl,rfl,Y,by omega,by rw[Bo4];exact n⟩,by show Int.toNat ((p%q:Nat):Int)<Int.toNat (q:Int);omega⟩
  ·have o:q=0:=by
    rcases Nat.eq_zero_or_pos q with h | h
    ·exact h
    ·exact absurd (by omega) Z
   rw[o,Nat.gcd_zero_right] at n;refine As2 X λ F ap aq aa=>⟨F,rfl,λ ar ab=>⟨F,rfl,?_⟩⟩;rw[<-n];exact aa.ext ab
theorem Bu2 {K:Value->PW->Prop}{t:Sl}(h1:Aa6 257 W s x)(d:Aa6 257 W t y)(e:nl x<=137438953472)(f:nl y<=137438953472)(g: ∀(s':Sl) (W':PW),Ext W W'->(Aa6 257 W' s' (Nat.gcd x y))->K (.agg #[Sl.v s']) W'):
  Aa1 Tryz.prog W0 M 98 [.agg #[s.v],.agg #[t.v]] W K:=
 Mi4 (λ _ c=>Ek8 (h1.ext c) (d.ext c) e f) fun | _,W',c,⟨s',rfl,h⟩=>g s' W' c h
end Go.Proofs.YtkgeopnakkcdoaaGreatDoor
namespace Go.Proofs.YtkgeopnakkcdoaaGreatDoor
open Go Go.SX
variable {K:Value->PW->Prop}{M:Nat->Prop}{W W0:PW}{b:Bool}{s t:Sl}{x:Nat}{z:Int}
theorem Cu0 (h:Aa6 257 W0 s x)(d:nl x<=274877906944):
  Aa0 Tryz.prog 162 [.bool b,.agg #[s.v]] W0 M λ v W'=>∃(s':Sl),∃(b':Bool),v = .agg #[Sl.v s',.bool b']/\Ab5 257 W' s' b' (if b=true then -(x:Int) else(x:Int)):=by
 apply Cc1;refine⟨λ c=>?_,λ c i e=>⟨s,false,rfl,?_,?_⟩⟩
 ·refine Ac9 h d λ j f _=>⟨_,rfl,λ m g=>⟨s,_,rfl,?_,?_⟩⟩
  ·rw[if_pos c,Int.natAbs_neg,Int.natAbs_natCast]
   exact(h.ext f).ext g
  ·rw[if_pos c]
   apply decide_eq_decide.2;have:=Ag3 (x:=x);omega
 ·rw[if_neg (by rw[c];decide),Int.natAbs_natCast]
  exact h.ext e
 ·rw[if_neg (by rw[c];decide)]
  symm
  apply decide_eq_false;omega
theorem Ad6 (h:Aa6 257 W s x)(d:nl x<=274877906944)(e: ∀(s':Sl) (b':Bool) (W':PW),Ext W W'->(Ab5 257 W' s' b' (if b=true then -(x:Int) else(x:Int)))->K (.agg #[Sl.v s',.bool b']) W'):
  Aa1 Tryz.prog W0 M 162 [.bool b,.agg #[s.v]] W K:=
 Mi4 (λ _ c=>Cu0 (h.ext c) d) fun | _,W',c,⟨s',b',rfl,h⟩=>e s' b' W' c h
theorem Dw3 (j:I64 z):
  Aa0 Tryz.prog 163 [.int .i64 z] W0 M λ v W'=>∃(s':Sl),∃(b':Bool),v = .agg #[Sl.v s',.bool b']/\Ab5 257 W' s' b' z:=by
 apply Cq3;unfold I64 at j;refine⟨λ A=>?_,λ C=>?_⟩
 ·have e:IntKind.wrap .u64 (0-IntKind.wrap .u64 z)=((z.natAbs:Nat):Int):=by
   rw[IntKind.wrap_u64,IntKind.wrap_u64];omega
  rw[e];have c:z.natAbs<B*B:=by unfold B;omega
  refine As2 c λ s3 m n h=>⟨s3,rfl,?_⟩;have o:nl z.natAbs<=2:=Bc6 (by rw[Nat.pow_succ,Nat.pow_one];exact c);refine Ad6 h (by omega) λ d f r u g=>⟨d,f,rfl,λ w i=>⟨d,f,rfl,?_⟩⟩;rw[if_pos rfl,show -((z.natAbs:Nat):Int)=z by omega] at g;exact g.ext i
 ·have e:IntKind.wrap .u64 z=((z.natAbs:Nat):Int):=by
   rw[IntKind.wrap_u64];omega
  rw[e];have c:z.natAbs<B*B:=by unfold B;omega
  refine As2 c λ s3 m n h=>⟨s3,rfl,?_⟩;have o:nl z.natAbs<=2:=Bc6 (by rw[Nat.pow_succ,Nat.pow_one];exact c);refine Ad6 h (by omega) λ d f r u g=>⟨d,f,rfl,λ w i=>⟨d,f,rfl,?_⟩⟩;rw[if_neg (by decide),show((z.natAbs:Nat):Int)=z by omega] at g;exact g.ext i
theorem Bk1 (d:I64 z)(e: ∀(s':Sl) (b':Bool) (W':PW),Ext W W'->(Ab5 257 W' s' b' z)->K (.agg #[Sl.v s',.bool b']) W'):
  Aa1 Tryz.prog W0 M 163 [.int .i64 z] W K:=
 Mi4 (λ _ c=>Dw3 d) fun | _,W',c,⟨s',b',rfl,h⟩=>e s' b' W' c h
theorem Cu9 (h:Ab5 257 W0 s b z)(g:nl z.natAbs<=274877906944):
  Aa0 Tryz.prog 88 [.agg #[s.v,.bool b]] W0 M λ v W'=>v = .int .i64 (By8 z)/\True:=by
 apply Bc9;refine⟨λ c j m=>⟨?_,trivial⟩,λ c=>?_⟩
 ·have:z<0:=by have:=h.2;rw[c] at this;exact of_decide_eq_true this.symm
  simp[By8,this]
 ·have i:¬z<0:=by have:=h.2;rw[c] at this;exact of_decide_eq_false this.symm
  refine Ac9 h.1 g λ n o _=>⟨_,rfl,λ f r u=>⟨?_,trivial⟩,λ f w A=>⟨?_,trivial⟩⟩
  ·have:=(Ag3 (x:=z.natAbs)).1 (by omega)
   have d:z=0:=by omega
   rw[d];rfl
  ·have d:z≠0:=λ e=>f (by rw[e];rfl)
   simp[By8,i,d]
theorem Ai5 (h:Ab5 257 W s b z)(d:nl z.natAbs<=274877906944)(e: ∀(W':PW),Ext W W'->(True)->K (.int .i64 (By8 z)) W'):
  Aa1 Tryz.prog W0 M 88 [.agg #[s.v,.bool b]] W K:=
 Mi4 (λ _ c=>Cu9 (h.ext c) d) fun | _,W',c,⟨rfl,h⟩=>e W' c h
theorem Df2 (h:Ab5 257 W0 s b z):
  Aa0 Tryz.prog 99 [.agg #[s.v,.bool b]] W0 M λ v W'=>∃(s':Sl),v = .agg #[Sl.v s']/\Aa6 257 W' s' z.natAbs:=by
 apply Bg7;exact λ d c=>⟨s,rfl,h.1.ext c⟩
theorem Ag5 (h:Ab5 257 W s b z)(d: ∀(s':Sl) (W':PW),Ext W W'->(Aa6 257 W' s' z.natAbs)->K (.agg #[Sl.v s']) W'):
  Aa1 Tryz.prog W0 M 99 [.agg #[s.v,.bool b]] W K:=
 Mi4 (λ _ c=>Df2 (h.ext c)) fun | _,W',c,⟨s',rfl,h⟩=>d s' W' c h
theorem Gz8 (h:b=decide (z<0)):(if(!b)=true then -((z.natAbs:Nat):Int) else((z.natAbs:Nat):Int)) = -z:=by
 cases b with
 | true=>
  have:=of_decide_eq_true h.symm;simp;omega
 | false=>
  have:=of_decide_eq_false h.symm;simp;omega
theorem Ce6 (h:b=decide (z<0)):(if b=true then -((z.natAbs:Nat):Int) else((z.natAbs:Nat):Int))=z:=by
 cases b with
 | true=>
  have:=of_decide_eq_true h.symm;simp;omega
 | false=>
  have:=of_decide_eq_false h.symm;simp;omega
theorem Gr2 (h:Ab5 257 W0 s b z)(e:nl z.natAbs<=274877906944):
  Aa0 Tryz.prog 101 [.agg #[s.v,.bool b]] W0 M λ v W'=>∃(s':Sl),∃(b':Bool),v = .agg #[Sl.v s',.bool b']/\Ab5 257 W' s' b' (-z):=by
 apply Gm7;refine Ad6 h.1 e λ s3 c g i d=>⟨s3,c,rfl,λ j f=>⟨s3,c,rfl,?_⟩⟩;rw[Gz8 h.2] at d;exact d.ext f
theorem Gl9 (h:Ab5 257 W s b z)(d:nl z.natAbs<=274877906944)(e: ∀(s':Sl) (b':Bool) (W':PW),Ext W W'->(Ab5 257 W' s' b' (-z))->K (.agg #[Sl.v s',.bool b']) W'):
  Aa1 Tryz.prog W0 M 101 [.agg #[s.v,.bool b]] W K:=
 Mi4 (λ _ c=>Gr2 (h.ext c) d) fun | _,W',c,⟨s',b',rfl,h⟩=>e s' b' W' c h
theorem Dh6 {c:Bool}{w:Int}(h1:Ab5 257 W0 s b z)(d:Ab5 257 W0 t c w)(o:nl z.natAbs<=68719476736)(hw:nl w.natAbs<=68719476736):
  Aa0 Tryz.prog 140 [.agg #[s.v,.bool b],.agg #[t.v,.bool c]] W0 M λ v W'=>∃(s':Sl),∃(b':Bool),v = .agg #[Sl.v s',.bool b']/\Ab5 257 W' s' b' (z*w):=by
 apply Cf9;have hm:=Ae5 z.natAbs w.natAbs;refine Bb7 h1.1 d.1 (by omega) (by omega) λ s3 r u i=>⟨s3,rfl,?_⟩;refine Ad6 i (by omega) λ f g A B h=>⟨f,g,rfl,λ C j=>⟨f,g,rfl,?_⟩⟩;have e:(if decide (b≠c)=true then -((z.natAbs*w.natAbs:Nat):Int) else((z.natAbs*w.natAbs:Nat):Int))=z*w:=by
  have m:=Ce6 h1.2;have n:=Ce6 d.2;have D:=h1.2;have E:=d.2;rw[<-m,<-n];generalize z.natAbs=p;generalize w.natAbs=q;cases b<;>cases c<;>simp[Int.mul_neg,Int.neg_mul]
 rw[e] at h;exact h.ext j
theorem Ak0 {c:Bool}{w:Int}(h1:Ab5 257 W s b z)(e:Ab5 257 W t c w)(f:nl z.natAbs<=68719476736)(hw:nl w.natAbs<=68719476736)(g: ∀(s':Sl) (b':Bool) (W':PW),Ext W W'->(Ab5 257 W' s' b' (z*w))->K (.agg #[Sl.v s',.bool b']) W'):
  Aa1 Tryz.prog W0 M 140 [.agg #[s.v,.bool b],.agg #[t.v,.bool c]] W K:=
 Mi4 (λ _ d=>Dh6 (h1.ext d) (e.ext d) f hw) fun | _,W',d,⟨s',b',rfl,h⟩=>g s' b' W' d h
theorem Dj4 {c:Bool}{w:Int}(h1:Ab5 257 W0 s b z)(d:Ab5 257 W0 t c w)(J:nl z.natAbs<=68719476736)(hw:nl w.natAbs<=68719476736):
  Aa0 Tryz.prog 165 [.agg #[s.v,.bool b],.agg #[t.v,.bool c]] W0 M λ v W'=>∃(s':Sl),∃(b':Bool),v = .agg #[Sl.v s',.bool b']/\Ab5 257 W' s' b' (z+w):=by
 apply Cn1;have L:=h1.2;have N:=d.2;have h:=Ce6 h1.2;have f:=Ce6 d.2;refine⟨λ g=>?_,λ g=>?_⟩
 ·have hm:=By9 z.natAbs w.natAbs
  refine Do2 h1.1 d.1 (by omega) (by omega) λ s3 O P D=>⟨s3,rfl,?_⟩;refine Ad6 D (by omega) λ i j Q R m=>⟨i,j,rfl,λ S E=>⟨i,j,rfl,?_⟩⟩;have e:(if b=true then -((z.natAbs+w.natAbs:Nat):Int) else((z.natAbs+w.natAbs:Nat):Int))=z+w:=by
   rw[<-g] at f;cases b<;>simp at h f⊢<;>omega
  rw[e] at m;exact m.ext E
 ·refine Bq3 h1.1 d.1 (by omega) (by omega) λ T U n F=>⟨_,_,rfl,λ hle=>?_,λ hle=>?_⟩
  ·have hle:=of_decide_eq_true hle
   refine Ad6 F (Nat.le_trans (Ad1 (Nat.sub_le _ _)) (by omega)) λ o r V X u=>⟨o,r,rfl,λ Y G=>⟨o,r,rfl,?_⟩⟩;have e:(if b=true then -((z.natAbs-w.natAbs:Nat):Int) else((z.natAbs-w.natAbs:Nat):Int))=z+w:=by
    cases b<;>cases c<;>simp at g h f⊢<;>omega
   rw[e] at u;exact u.ext G
  ·have hle:=of_decide_eq_false hle
   refine Bq3 (d.1.ext n) (h1.1.ext n) (by omega) (by omega) λ Z aa ab H=>⟨_,_,rfl,?_⟩;refine Ad6 H (Nat.le_trans (Ad1 (Nat.sub_le _ _)) (by omega)) λ A B ac ad C=>⟨A,B,rfl,λ ae I=>⟨A,B,rfl,?_⟩⟩;have e:(if c=true then -((w.natAbs-z.natAbs:Nat):Int) else((w.natAbs-z.natAbs:Nat):Int))=z+w:=by
    cases b<;>cases c<;>simp at g h f⊢<;>omega
   rw[e] at C;exact C.ext I
theorem Be4 {c:Bool}{w:Int}(h1:Ab5 257 W s b z)(e:Ab5 257 W t c w)(f:nl z.natAbs<=68719476736)(hw:nl w.natAbs<=68719476736)(g: ∀(s':Sl) (b':Bool) (W':PW),Ext W W'->(Ab5 257 W' s' b' (z+w))->K (.agg #[Sl.v s',.bool b']) W'):
  Aa1 Tryz.prog W0 M 165 [.agg #[s.v,.bool b],.agg #[t.v,.bool c]] W K:=
 Mi4 (λ _ d=>Dj4 (h1.ext d) (e.ext d) f hw) fun | _,W',d,⟨s',b',rfl,h⟩=>g s' b' W' d h
theorem Dr4 (x y:Nat):Dt2 x y=As4 x y:=by
 rcases Nat.lt_trichotomy x y with h | h | h
 ·rw[Al0 h,Bh1 (by omega)]
 ·subst h;rw[Ap9,Bw1 rfl]
 ·rw[Aj4 h,Bh3 (by omega)]
theorem Dn1 {c:Bool}{w:Int}(h1:Ab5 257 W0 s b z)(j:Ab5 257 W0 t c w)(C:nl z.natAbs<=137438953472)(hw:nl w.natAbs<=137438953472):
  Aa0 Tryz.prog 104 [.agg #[s.v,.bool b],.agg #[t.v,.bool c]] W0 M λ v W'=>v = .int .i64 (As4 z w)/\True:=by
 apply Cj6;have g:=h1.2;have i:=j.2;have r:b=true->z<0:=λ h=>by rw[h] at g;exact of_decide_eq_true g.symm
 have u:b=false->¬z<0:=λ h=>by rw[h] at g;exact of_decide_eq_false g.symm
 have A:c=true->w<0:=λ h=>by rw[h] at i;exact of_decide_eq_true i.symm
 have B:c=false->¬w<0:=λ h=>by rw[h] at i;exact of_decide_eq_false i.symm
 refine⟨λ m=>⟨λ d D E=>⟨?_,trivial⟩,λ f=>⟨λ _ F G=>⟨?_,trivial⟩,λ h=>absurd m h⟩⟩,λ heq=>⟨λ h=>absurd h heq,λ _=>⟨λ d=>?_,λ f=>?_⟩⟩⟩
 ·have n:=r d
  have o:¬w<0:=B (by cases c with | false=>rfl | true=>exact absurd d m);rw[Bh1 (by omega)]
 ·have n:=u f
  have o:w<0:=A (by cases c with | true=>rfl | false=>exact absurd f m);rw[Bh3 (by omega)]
 ·have n:=r d
  have o:=A (by cases c with | true=>rfl | false=>exact absurd (λ e=>by rw[d] at e;cases e) heq);refine Ap6 j.1 h1.1 (by omega) (by omega) λ H I _=>⟨_,rfl,λ J L=>⟨?_,trivial⟩⟩;rw[Dr4];congr 1;rcases Int.lt_trichotomy z w with h | h | h
  ·rw[Bh1 h,Bh1 (by omega)]
  ·rw[Bw1 h,Bw1 (by omega)]
  ·rw[Bh3 h,Bh3 (by omega)]
 ·have n:=u f
  have o:=B (by cases c with | false=>rfl | true=>exact absurd (λ e=>by rw[f] at e;cases e) heq);refine Ap6 h1.1 j.1 (by omega) (by omega) λ N O _=>⟨_,rfl,λ P Q=>⟨?_,trivial⟩⟩;rw[Dr4];congr 1;rcases Int.lt_trichotomy z w with h | h | h
  ·rw[Bh1 h,Bh1 (by omega)]
  ·rw[Bw1 h,Bw1 (by omega)]
  ·rw[Bh3 h,Bh3 (by omega)]
theorem Ci7 {c:Bool}{w:Int}(h1:Ab5 257 W s b z)(e:Ab5 257 W t c w)(f:nl z.natAbs<=137438953472)(hw:nl w.natAbs<=137438953472)(g: ∀(W':PW),Ext W W'->(True)->K (.int .i64 (As4 z w)) W'):
  Aa1 Tryz.prog W0 M 104 [.agg #[s.v,.bool b],.agg #[t.v,.bool c]] W K:=
 Mi4 (λ _ d=>Dn1 (h1.ext d) (e.ext d) f hw) fun | _,W',d,⟨rfl,h⟩=>g W' d h
end Go.Proofs.YtkgeopnakkcdoaaGreatDoor
namespace Go.Proofs.YtkgeopnakkcdoaaGreatDoor
open Go Go.SX
variable {M:Nat->Prop}{W0:PW}{b:Bool}{s t:Sl}{y:Nat}{z:Int}
theorem Dn4 {g:Nat}(e:z≠0)(f:g∣z.natAbs):(if decide (By8 z<0)=true then -((z.natAbs/g:Nat):Int) else((z.natAbs/g:Nat):Int))=z/(g:Int):=by
 obtain⟨k,hk⟩:=f;rcases Nat.eq_zero_or_pos g with rfl | i
 ·omega
 have j:z.natAbs/g=k:=by rw[hk,Nat.mul_div_cancel_left _ i]
 rw[j]
 by_cases h:z<0
 ·have c:By8 z<0:=by simp[By8,h]
  rw[if_pos (decide_eq_true c)];have d:z=(g:Int) * -(k:Int):=by
   have:z = -((z.natAbs:Nat):Int):=by omega
   rw[this,hk,Int.natCast_mul,Int.mul_neg]
  rw[d,Int.mul_ediv_cancel_left _ (by omega)]
 ·have c:¬By8 z<0:=by simp[By8,h,e]
  rw[if_neg (by rw[decide_eq_false c];decide)];have d:z=(g:Int)*(k:Int):=by
   have:z=((z.natAbs:Nat):Int):=by omega
   rw[this,hk,Int.natCast_mul]
  rw[d,Int.mul_ediv_cancel_left _ (by omega)]
theorem Di9 (h1:Ab5 257 W0 s b z)(d:Aa6 257 W0 t y)(hz:nl z.natAbs<=137438953472)(Y:nl y<=137438953472):
  Aa0 Tryz.prog 139 [.agg #[s.v,.bool b],.agg #[t.v]] W0 M λ v W'=>∃(r:Sl),∃(c:Bool),∃(u:Sl),v = .agg #[Sl.v r,.bool c,Sl.v u]/\Ab3 257 W' r c u (mkRat z (max y 1)):=by
 apply Cn8;have whole: ∀(W:PW),Ext W0 W->mkRat z (max y 1)=(z:Rat)->Ab3 257 W s b ⟨none,0,0⟩ (mkRat z (max y 1)):=λ W Z e=>by
  rw[e];refine⟨by rw[Rat.num_intCast];exact h1.ext Z,?_⟩;have:dn (z:Rat)=0:=by unfold dn;rw[Rat.den_intCast];rfl
  rw[this];exact Af6 W
 refine Ac9 d (by omega) λ W2 i _=>⟨_,rfl,λ aB=>λ W4 ab=>?_,λ aC=>?_⟩
 ·have aD:y<2:=Ah4.1 (by omega)
  refine⟨s,b,⟨none,0,0⟩,rfl,whole W4 (i.trans ab) ?_⟩;rw[show max y 1=1 by omega];have:=Rat.mkRat_self (z:Rat)
  rwa [Rat.num_intCast,Rat.den_intCast] at this
 have aE:2<=y:=by
  apply Nat.le_of_not_lt;intro h;have:=(Ah4 (x:=y)).2 h;omega
 refine Ai5 (h1.ext i) (by omega) λ W3 F _=>⟨_,rfl,λ f W5 ad=>?_,λ f=>?_⟩
 ·have m:z=0:=by
   unfold By8 at f;split at f
   ·omega
   ·split at f
    ·assumption
    ·omega
  refine⟨s,b,⟨none,0,0⟩,rfl,whole W5 ((i.trans F).trans ad) ?_⟩;rw[m];simp
 have m:z≠0:=λ e=>f (by rw[e];rfl);have ae:max y 1=y:=by omega
 rw[ae];have G:y≠0:=by omega
 have H:(mkRat z y).num=z/((Nat.gcd y z.natAbs:Nat):Int):=by rw[Rat.num_mkRat,if_neg G]
 have n:(mkRat z y).den=y/Nat.gcd y z.natAbs:=by rw[Rat.den_mkRat,if_neg G]
 have aG:0<Nat.gcd y z.natAbs:=Nat.gcd_pos_of_pos_left _ (by omega);have af:Nat.gcd y z.natAbs<=y:=Nat.le_of_dvd (by omega) (Nat.gcd_dvd_left _ _);have aH:nl (Nat.gcd y z.natAbs)<=137438953472:=Nat.le_trans (Ad1 af) Y;have o:=i.trans F;refine Ag5 (h1.ext o) λ s7 W6 I h7=>⟨s7,rfl,?_⟩;refine Bu2 ((d.ext o).ext I) h7 (by omega) (by omega) λ ai W9 aj J=>⟨ai,rfl,?_⟩;refine Ac9 J (by omega) λ L N _=>⟨_,rfl,?_⟩;have j:Ext W0 L:=((o.trans I).trans aj).trans N;have O:=J.ext N;refine⟨λ ak=>?_,λ ak=>?_⟩
 ·refine Ag5 (h1.ext j) λ al aK w am=>⟨al,rfl,?_⟩
  refine At8 am (O.ext w) (by omega) (by omega) λ aL aM P Q ⟨an,_⟩=>⟨_,_,_,rfl,?_⟩;have R:Ext W0 P:=j.trans (w.trans Q);have ao:Ext L P:=w.trans Q;refine At8 (d.ext R) (O.ext ao) (by omega) (by omega) λ ap aN aO S ⟨aq,_⟩=>⟨_,_,_,rfl,?_⟩;refine Ai5 ((h1.ext R).ext S) (by omega) λ aP T _=>⟨_,rfl,?_⟩;refine Ad6 ((an.ext S).ext T) (Nat.le_trans (Ad1 (Nat.div_le_self _ _)) (by omega)) λ A B aQ ar C=>⟨A,B,rfl,?_⟩;rw[Dn4 m (Nat.gcd_dvd_right y z.natAbs),<-H] at C;have D:=((aq.ext T).ext ar);rw[<-n] at D;have au:(mkRat z y).den<=y:=by rw[n];exact Nat.div_le_self _ _
  refine Ac9 D (Nat.le_trans (Ad1 au) (by omega)) λ aR E _=>⟨_,rfl,λ hi aS av=>?_,λ hi aT U=>?_⟩
  ·have g:(mkRat z y).den=1:=by
    have:=(mkRat z y).den_pos;have:=(Ah4 (x:=(mkRat z y).den)).1 (by omega);omega
   exact⟨A,B,⟨none,0,0⟩,rfl,(C.ext E).ext av,by rw[dn,if_pos g];exact Af6 _⟩
  ·have g:(mkRat z y).den≠1:=λ e=>hi (by rw[e];decide)
   exact⟨A,B,ap,rfl,(C.ext E).ext U,by rw[dn,if_neg g];exact(D.ext E).ext U⟩
 ·refine Ac9 (d.ext j) (by omega) λ aU aw _=>⟨_,rfl,λ hi aV aW=>absurd ((Ah4 (x:=y)).1 (by omega)) (by omega),λ hi aX ax=>?_⟩
  have V:Nat.gcd y z.natAbs=1:=by
   have:=(Ah4 (x:=Nat.gcd y z.natAbs)).1 (by omega);omega
  have ay:(mkRat z y).num=z:=by rw[H,V];simp
  have g:(mkRat z y).den=y:=by rw[n,V];simp
  have X:=(j.trans aw).trans ax;exact⟨s,b,t,rfl,by rw[ay];exact h1.ext X,by rw[dn,g,if_neg (by omega)];exact d.ext X⟩
theorem At7 {W:PW}{K:Value->PW->Prop}(h1:Ab5 257 W s b z)(e:Aa6 257 W t y)(f:nl z.natAbs<=137438953472)(g:nl y<=137438953472)(i: ∀(r:Sl) (c:Bool) (u:Sl) (W':PW),Ext W W'->(Ab3 257 W' r c u (mkRat z (max y 1)))->K (.agg #[Sl.v r,.bool c,Sl.v u]) W'):
  Aa1 Tryz.prog W0 M 139 [.agg #[s.v,.bool b],.agg #[t.v]] W K:=
 Mi4 (λ _ d=>Di9 (h1.ext d) (e.ext d) f g) fun | _,W',d,⟨r,c,u,rfl,h⟩=>i r c u W' d h
end Go.Proofs.YtkgeopnakkcdoaaGreatDoor
namespace Go.Proofs.YtkgeopnakkcdoaaGreatDoor
open Go Go.SX
variable {K:Value->PW->Prop}{M:Nat->Prop}{W W0:PW}{b b':Bool}{k l:Nat}{p q:Rat}{s s' t t':Sl}{z:Int}
theorem Ef0 {t:TypeId}(W:PW):Ab3 t W ⟨none,0,0⟩ false ⟨none,0,0⟩ 0:=⟨⟨Af6 W,by decide⟩,Af6 W⟩
theorem Aq0:dn q=0↔q.den=1:=by
 unfold dn;have:=q.den_pos;split
 ·simp[*]
 ·omega
theorem Cl4 (h:dn q≠0):dn q=q.den:=by
 unfold dn at *;split
 ·rename_i h1;rw[if_pos h1] at h;exact absurd rfl h
 ·rfl
theorem Ef9 (h:Ab3 257 W0 s b t q)(f:Sz k q)(hk:k<=34359738368):
  Aa0 Tryz.prog 142 [.agg #[s.v,.bool b,t.v]] W0 M λ v W'=>∃(s':Sl),v = .agg #[Sl.v s']/\Aa6 257 W' s' q.den:=by
 apply Bx2;have n:=f.dn;refine Ac9 h.2 (by omega) λ o g _=>⟨_,rfl,λ c=>?_,λ c r i=>⟨t,rfl,?_⟩⟩
 ·have h1:q.den=1:=Aq0.1 (Ag3.1 (by omega))
  refine As2 (x:=1) (by decide) λ d u w j=>⟨d,rfl,λ A m=>⟨d,rfl,?_⟩⟩;rw[h1];exact j.ext m
 ·have h1:dn q≠0:=λ e=>c (by rw[e];rfl)
  rw[<-Cl4 h1];exact(h.2.ext g).ext i
theorem Ap4 (h:Ab3 257 W s b t q)(d:Sz k q)(hk:k<=34359738368)(e: ∀(s':Sl) (W':PW),Ext W W'->(Aa6 257 W' s' q.den)->K (.agg #[Sl.v s']) W'):
  Aa1 Tryz.prog W0 M 142 [.agg #[s.v,.bool b,t.v]] W K:=
 Mi4 (λ _ c=>Ef9 (h.ext c) d hk) fun | _,W',c,⟨s',rfl,h⟩=>e s' W' c h
theorem Er9 (h:Ab3 257 W0 s b t q)(c:Sz k q)(hk:k<=34359738368):
  Aa0 Tryz.prog 169 [.agg #[s.v,.bool b,t.v]] W0 M λ v W'=>∃(s':Sl),∃(b':Bool),v = .agg #[Sl.v s',.bool b']/\Ab5 257 W' s' b' (q.den:Int):=by
 apply Bt8;refine Ap4 h c hk λ s3 j m g=>⟨s3,rfl,?_⟩;have:=c.2;refine Ad6 g (by omega) λ d e n o f=>⟨d,e,rfl,λ r i=>⟨d,e,rfl,?_⟩⟩;rw[if_neg (by decide)] at f;exact f.ext i
theorem Bc0 (h:Ab3 257 W s b t q)(d:Sz k q)(hk:k<=34359738368)(e: ∀(s':Sl) (b':Bool) (W':PW),Ext W W'->(Ab5 257 W' s' b' (q.den:Int))->K (.agg #[Sl.v s',.bool b']) W'):
  Aa1 Tryz.prog W0 M 169 [.agg #[s.v,.bool b,t.v]] W K:=
 Mi4 (λ _ c=>Er9 (h.ext c) d hk) fun | _,W',c,⟨s',b',rfl,h⟩=>e s' b' W' c h
theorem Cp5 (h1:Ab3 257 W0 s b t p)(f:Ab3 257 W0 s' b' t' q)(i:Sz k p)(d:Sz l q)(hk:k<=34359738368)(j:l<=34359738368):
  Aa0 Tryz.prog 105 [.agg #[s.v,.bool b,t.v],.agg #[s'.v,.bool b',t'.v]] W0 M λ v W'=>∃(r:Sl),∃(c:Bool),v = .agg #[Sl.v r,.bool c]/\Ab5 257 W' r c (p.num*(q.den:Int)):=by
 apply Ca1;have E:=d.dn;have F:=i.1;have G:=d.2;refine Ac9 f.2 (by omega) λ H e _=>⟨_,rfl,λ m I n=>⟨s,b,rfl,?_⟩,λ m=>?_⟩
 ·have o:q.den=1:=Aq0.1 (Ag3.1 (by omega))
  rw[o,Int.natCast_one,Int.mul_one];exact(h1.1.ext e).ext n
 ·refine Bc0 (f.ext e) d j λ u w J A B=>⟨u,w,rfl,?_⟩
  refine Ak0 ((h1.1.ext e).ext A) B (by omega) (by rw[Int.natAbs_natCast];omega) λ g h L N C=>⟨g,h,rfl,λ O D=>⟨g,h,rfl,C.ext D⟩⟩
theorem Al8 (h1:Ab3 257 W s b t p)(e:Ab3 257 W s' b' t' q)(f:Sz k p)(g:Sz l q)(hk:k<=34359738368)(i:l<=34359738368)(j: ∀(r:Sl) (c:Bool) (W':PW),Ext W W'->(Ab5 257 W' r c (p.num*(q.den:Int)))->K (.agg #[Sl.v r,.bool c]) W'):
  Aa1 Tryz.prog W0 M 105 [.agg #[s.v,.bool b,t.v],.agg #[s'.v,.bool b',t'.v]] W K:=
 Mi4 (λ _ d=>Cp5 (h1.ext d) (e.ext d) f g hk i) fun | _,W',d,⟨r,c,rfl,h⟩=>j r c W' d h
theorem Au1 (c:Sz k p)(d:Sz l q):nl (p.num*(q.den:Int)).natAbs<=k+l:=by
 rw[Int.natAbs_mul,Int.natAbs_natCast];have:=Ae5 p.num.natAbs q.den;have h1:=c.1;have e:=d.2;omega
theorem Em3 (h1:Ab3 257 W0 s b t p)(e:Ab3 257 W0 s' b' t' q)(c:Sz k p)(d:Sz l q)(hk:k<=34359738368)(f:l<=34359738368):
  Aa0 Tryz.prog 39 [.agg #[s.v,.bool b,t.v],.agg #[s'.v,.bool b',t'.v]] W0 M λ v W'=>v = .int .i64 (Co4 p q)/\True:=by
 apply Dk3;have r:=Au1 c d;have u:=Au1 d c;refine Al8 h1 e c d hk f λ s3 h w g i=>⟨s3,h,rfl,?_⟩;refine Al8 (e.ext g) (h1.ext g) d c f hk λ j m A n o=>⟨j,m,rfl,?_⟩;refine Ci7 (i.ext n) o (by omega) (by omega) λ B C _=>⟨_,rfl,λ D E=>⟨?_,trivial⟩⟩;rw[Dn0]
theorem Aj2 (h1:Ab3 257 W s b t p)(d:Ab3 257 W s' b' t' q)(e:Sz k p)(f:Sz l q)(hk:k<=34359738368)(g:l<=34359738368)(i: ∀(W':PW),Ext W W'->(True)->K (.int .i64 (Co4 p q)) W'):
  Aa1 Tryz.prog W0 M 39 [.agg #[s.v,.bool b,t.v],.agg #[s'.v,.bool b',t'.v]] W K:=
 Mi4 (λ _ c=>Em3 (h1.ext c) (d.ext c) e f hk g) fun | _,W',c,⟨rfl,h⟩=>i W' c h
theorem Gu6 (h:Ab3 257 W0 s b t q)(e:Sz k q)(hk:k<=34359738368):
  Aa0 Tryz.prog 34 [.agg #[s.v,.bool b,t.v]] W0 M λ v W'=>∃(s':Sl),∃(b':Bool),∃(t':Sl),v = .agg #[Sl.v s',.bool b',Sl.v t']/\Ab3 257 W' s' b' t' (-q):=by
 apply Gq7;have:=e.1;refine Gl9 h.1 (by omega) λ s3 c i f g=>⟨s3,c,rfl,λ j d=>⟨s3,c,t,rfl,?_,?_⟩⟩
 ·exact g.ext d
 ·exact(h.2.ext f).ext d
theorem Gr3 (h:Ab3 257 W s b t q)(d:Sz k q)(hk:k<=34359738368)(e: ∀(s':Sl) (b':Bool) (t':Sl) (W':PW),Ext W W'->(Ab3 257 W' s' b' t' (-q))->K (.agg #[Sl.v s',.bool b',Sl.v t']) W'):
  Aa1 Tryz.prog W0 M 34 [.agg #[s.v,.bool b,t.v]] W K:=
 Mi4 (λ _ c=>Gu6 (h.ext c) d hk) fun | _,W',c,⟨s',b',t',rfl,h⟩=>e s' b' t' W' c h
theorem add_same (h:p.den=q.den):mkRat (p.num+q.num) p.den=p+q:=by
 rw[Rat.add_def',<-h,<-Int.add_mul];exact(Rat.mkRat_mul_right p.den_nz).symm
theorem Fm2 (h:dn p=dn q):p.den=q.den:=by
 rw[<-En9 p,<-En9 q,h]
theorem Ej4 (h1:Ab3 257 W0 s b t p)(g:Ab3 257 W0 s' b' t' q)(d:Sz k p)(e:Sz l q)(hk:k<=8589934592)(hl:l<=8589934592):
  Aa0 Tryz.prog 82 [.agg #[s.v,.bool b,t.v],.agg #[s'.v,.bool b',t'.v]] W0 M λ v W'=>∃(r:Sl),∃(c:Bool),∃(u:Sl),v = .agg #[Sl.v r,.bool c,Sl.v u]/\Ab3 257 W' r c u (p+q):=by
 apply Di2;have d1:=d.dn;have d2:=e.dn;have n1:=d.1;have n2:=e.1;have n3:=d.2;have n4:=e.2;refine Ap6 h1.2 g.2 (by omega) (by omega) λ W2 f _=>⟨_,rfl,λ i=>?_,λ i=>?_⟩
 ·have I:dn p=dn q:=by
   rcases Nat.lt_trichotomy (dn p) (dn q) with h | h | h
   ·rw[Al0 h] at i;omega
   ·exact h
   ·rw[Aj4 h] at i;omega
  have J:nl (p.num+q.num).natAbs<=max (nl p.num.natAbs) (nl q.num.natAbs)+1:=Nat.le_trans (Ad1 (Int.natAbs_add_le _ _)) (By9 _ _);refine Be4 (h1.1.ext f) (g.1.ext f) (by omega) (by omega) λ L N W5 O P=>⟨L,N,rfl,?_⟩;refine At7 P ((h1.2.ext f).ext O) (by omega) (by omega) λ m n o W9 au w=>⟨m,n,o,rfl,λ av Q=>⟨m,n,o,rfl,?_⟩⟩;rw[En9,add_same (Fm2 I)] at w;exact w.ext Q
 ·have e1:=Au1 d e
  have e2:=Au1 e d;have J:nl (p.num*(q.den:Int)+q.num*(p.den:Int)).natAbs<=max (nl (p.num*(q.den:Int)).natAbs) (nl (q.num*(p.den:Int)).natAbs)+1:=Nat.le_trans (Ad1 (Int.natAbs_add_le _ _)) (By9 _ _);have hm:=Ae5 p.den q.den;refine Al8 (h1.ext f) (g.ext f) d e (by omega) (by omega) λ R S ay j T=>⟨R,S,rfl,?_⟩;refine Al8 ((g.ext f).ext j) ((h1.ext f).ext j) e d (by omega) (by omega) λ U V az A X=>⟨U,V,rfl,?_⟩;refine Be4 (T.ext A) X (by omega) (by omega) λ Y Z aA aa ab=>⟨Y,Z,rfl,?_⟩;have B:=((f.trans j).trans A).trans aa;refine Ap4 (h1.ext B) d (by omega) λ ac aB C ad=>⟨ac,rfl,?_⟩;refine Ap4 ((g.ext B).ext C) e (by omega) λ ae aC D af=>⟨ae,rfl,?_⟩;refine Bb7 (ad.ext D) af (by omega) (by omega) λ ag aD ah ai=>⟨ag,rfl,?_⟩;refine At7 (((ab.ext C).ext D).ext ah) ai (by omega) (by omega) λ E F G aE aF H=>⟨E,F,G,rfl,λ aG aj=>⟨E,F,G,rfl,?_⟩⟩;have ak:1<=p.den*q.den:=Nat.mul_pos p.den_pos q.den_pos;rw[Nat.max_eq_left ak,<-Rat.add_def'] at H;exact H.ext aj
theorem At2 (h1:Ab3 257 W s b t p)(e:Ab3 257 W s' b' t' q)(f:Sz k p)(g:Sz l q)(hk:k<=8589934592)(i:l<=8589934592)(j: ∀(r:Sl) (c:Bool) (u:Sl) (W':PW),Ext W W'->(Ab3 257 W' r c u (p+q))->K (.agg #[Sl.v r,.bool c,Sl.v u]) W'):
  Aa1 Tryz.prog W0 M 82 [.agg #[s.v,.bool b,t.v],.agg #[s'.v,.bool b',t'.v]] W K:=
 Mi4 (λ _ d=>Ej4 (h1.ext d) (e.ext d) f g hk i) fun | _,W',d,⟨r,c,u,rfl,h⟩=>j r c u W' d h
theorem Gv9 (h1:Ab3 257 W0 s b t p)(h:Ab3 257 W0 s' b' t' q)(i:Sz k p)(d:Sz l q)(hk:k<=8589934592)(j:l<=8589934592):
  Aa0 Tryz.prog 60 [.agg #[s.v,.bool b,t.v],.agg #[s'.v,.bool b',t'.v]] W0 M λ v W'=>∃(r:Sl),∃(c:Bool),∃(u:Sl),v = .agg #[Sl.v r,.bool c,Sl.v u]/\Ab3 257 W' r c u (p-q):=by
 apply Gq3;refine Gr3 h d (by omega) λ s3 m n C o w=>⟨s3,m,n,rfl,?_⟩;refine At2 (h1.ext o) w i d.neg hk j λ e f g D E A=>⟨e,f,g,rfl,λ F B=>⟨e,f,g,rfl,?_⟩⟩;rw[Rat.sub_eq_add_neg];exact A.ext B
theorem Gr0 (h1:Ab3 257 W s b t p)(e:Ab3 257 W s' b' t' q)(f:Sz k p)(g:Sz l q)(hk:k<=8589934592)(i:l<=8589934592)(j: ∀(r:Sl) (c:Bool) (u:Sl) (W':PW),Ext W W'->(Ab3 257 W' r c u (p-q))->K (.agg #[Sl.v r,.bool c,Sl.v u]) W'):
  Aa1 Tryz.prog W0 M 60 [.agg #[s.v,.bool b,t.v],.agg #[s'.v,.bool b',t'.v]] W K:=
 Mi4 (λ _ d=>Gv9 (h1.ext d) (e.ext d) f g hk i) fun | _,W',d,⟨r,c,u,rfl,h⟩=>j r c u W' d h
theorem En8 (h1:Ab3 257 W0 s b t p)(f:Ab3 257 W0 s' b' t' q)(d:Sz k p)(e:Sz l q)(hk:k<=8589934592)(L:l<=8589934592):
  Aa0 Tryz.prog 61 [.agg #[s.v,.bool b,t.v],.agg #[s'.v,.bool b',t'.v]] W0 M λ v W'=>∃(r:Sl),∃(c:Bool),∃(u:Sl),v = .agg #[Sl.v r,.bool c,Sl.v u]/\Ab3 257 W' r c u (p*q):=by
 apply Df4;have N:=d.1;have O:=e.1;have P:=d.2;have n4:=e.2;have Q:nl (p.num*q.num).natAbs<=nl p.num.natAbs+nl q.num.natAbs:=by rw[Int.natAbs_mul];exact Ae5 _ _
 have hm:=Ae5 p.den q.den;refine Ak0 h1.1 f.1 (by omega) (by omega) λ s3 w R g A=>⟨s3,w,rfl,?_⟩;refine Ap4 (h1.ext g) d (by omega) λ B S h C=>⟨B,rfl,?_⟩;refine Ap4 ((f.ext g).ext h) e (by omega) λ D T i E=>⟨D,rfl,?_⟩;refine Bb7 (C.ext i) E (by omega) (by omega) λ F U G H=>⟨F,rfl,?_⟩;refine At7 (((A.ext h).ext i).ext G) H (by omega) (by omega) λ j m n V X o=>⟨j,m,n,rfl,λ Y I=>⟨j,m,n,rfl,?_⟩⟩;have J:1<=p.den*q.den:=Nat.mul_pos p.den_pos q.den_pos;rw[Nat.max_eq_left J,<-Rat.mul_def'] at o;exact o.ext I
theorem Ak9 (h1:Ab3 257 W s b t p)(e:Ab3 257 W s' b' t' q)(f:Sz k p)(g:Sz l q)(hk:k<=8589934592)(i:l<=8589934592)(j: ∀(r:Sl) (c:Bool) (u:Sl) (W':PW),Ext W W'->(Ab3 257 W' r c u (p*q))->K (.agg #[Sl.v r,.bool c,Sl.v u]) W'):
  Aa1 Tryz.prog W0 M 61 [.agg #[s.v,.bool b,t.v],.agg #[s'.v,.bool b',t'.v]] W K:=
 Mi4 (λ _ d=>En8 (h1.ext d) (e.ext d) f g hk i) fun | _,W',d,⟨r,c,u,rfl,h⟩=>j r c u W' d h
theorem Dz2 (h:Ab3 257 W0 s b t q)(c:Sz k q)(hk:k<=34359738368):
  Aa0 Tryz.prog 29 [.agg #[s.v,.bool b,t.v]] W0 M λ v W'=>v = .int .i64 (Co4 q 0)/\True:=by
 apply Bm8;have:=c.1;refine Ai5 h.1 (by omega) λ d e _=>⟨_,rfl,λ f g=>⟨?_,trivial⟩⟩;rw[Bo6]
theorem Bk6 (h:Ab3 257 W s b t q)(d:Sz k q)(hk:k<=34359738368)(e: ∀(W':PW),Ext W W'->(True)->K (.int .i64 (Co4 q 0)) W'):
  Aa1 Tryz.prog W0 M 29 [.agg #[s.v,.bool b,t.v]] W K:=
 Mi4 (λ _ c=>Dz2 (h.ext c) d hk) fun | _,W',c,⟨rfl,h⟩=>e W' c h
theorem Ge8 (h:q≠0):mkRat (if decide (Co4 q 0<0)=true then -(q.den:Int) else(q.den:Int)) (max q.num.natAbs 1)=q⁻¹:=by
 have f:q.num≠0:=λ e=>h (Rat.num_eq_zero.1 e);have g:1<=q.num.natAbs:=by omega
 rw[Nat.max_eq_left g,Rat.inv_def,<-Bo6]
 by_cases d:q.num<0
 ·have c:By8 q.num<0:=by simp[By8,d]
  rw[if_pos (decide_eq_true c),<-Rat.divInt_ofNat,show((q.num.natAbs:Nat):Int) = -q.num by omega,Rat.neg_divInt_neg]
 ·have c:¬By8 q.num<0:=by simp[By8,d,f]
  rw[if_neg (by rw[decide_eq_false c];decide),<-Rat.divInt_ofNat,show((q.num.natAbs:Nat):Int)=q.num by omega]
theorem Gd6 (h1:Ab3 257 W0 s b t p)(g:Ab3 257 W0 s' b' t' q)(D:Sz k p)(d:Sz l q)(hk:k<=8589934592)(E:l<=8589934592)(F:1<=l):
  Aa0 Tryz.prog 80 [.agg #[s.v,.bool b,t.v],.agg #[s'.v,.bool b',t'.v]] W0 M λ v W'=>∃(r:Sl),∃(c:Bool),∃(u:Sl),v = .tuple #[.agg #[Sl.v r,.bool c,Sl.v u],.bool (decide (q≠0))]/\Ab3 257 W' r c u (p/q):=by
 apply Gb6;have Z:=d.1;have n4:=d.2;refine Bk6 g d (by omega) λ W2 i _=>⟨_,rfl,λ j G ab=>?_,λ j=>?_⟩
 ·have f:q=0:=(Be6 q 0).1 j
  refine⟨⟨none,0,0⟩,false,⟨none,0,0⟩,?_,?_⟩
  ·rw[decide_eq_false (by intro h;exact h f)]
  ·rw[f,Rat.div_def,show(0:Rat)⁻¹ = 0 from by simp[Rat.inv_def],Rat.mul_zero]
   exact Ef0 G
 ·have f:q≠0:=λ e=>j ((Be6 q 0).2 e)
  rw[decide_eq_true f];refine Bk6 (g.ext i) d (by omega) λ W6 m _=>⟨_,rfl,?_⟩;refine Ap4 ((g.ext i).ext m) d (by omega) λ H W9 I J=>⟨H,rfl,?_⟩;refine Ad6 J (by omega) λ L N ae O P=>⟨L,N,rfl,?_⟩;have n:=((i.trans m).trans I).trans O;refine Ag5 (g.1.ext n) λ Q af o R=>⟨Q,rfl,?_⟩;have ag:nl (if decide (Co4 q 0<0)=true then -(q.den:Int) else(q.den:Int)).natAbs<=l:=by
   split
   ·rw[Int.natAbs_neg,Int.natAbs_natCast];exact n4
   ·rw[Int.natAbs_natCast];exact n4
  refine At7 (P.ext o) R (by omega) (by omega) λ S T U ah V w=>⟨S,T,U,rfl,?_⟩;rw[Ge8 f] at w;refine Ak9 ((h1.ext n).ext (o.trans V)) w D (d.inv F) hk E λ A B C ai aj X=>⟨A,B,C,rfl,λ ak Y=>⟨A,B,C,rfl,?_⟩⟩;rw[Rat.div_def];exact X.ext Y
theorem Gb1 (h1:Ab3 257 W s b t p)(e:Ab3 257 W s' b' t' q)(f:Sz k p)(g:Sz l q)(hk:k<=8589934592)(i:l<=8589934592)(j:1<=l)(m: ∀(r:Sl) (c:Bool) (u:Sl) (W':PW),Ext W W'->(Ab3 257 W' r c u (p/q))->K (.tuple #[.agg #[Sl.v r,.bool c,Sl.v u],.bool (decide (q≠0))]) W'):
  Aa1 Tryz.prog W0 M 80 [.agg #[s.v,.bool b,t.v],.agg #[s'.v,.bool b',t'.v]] W K:=
 Mi4 (λ _ d=>Gd6 (h1.ext d) (e.ext d) f g hk i j) fun | _,W',d,⟨r,c,u,rfl,h⟩=>m r c u W' d h
theorem Fa7 (d:I64 z):
  Aa0 Tryz.prog 81 [.int .i64 z] W0 M λ v W'=>∃(s':Sl),∃(b':Bool),∃(t':Sl),v = .agg #[Sl.v s',.bool b',Sl.v t']/\Ab3 257 W' s' b' t' (z:Rat):=by
 apply Dz9;refine Bk1 d λ s3 c h i e=>⟨s3,c,rfl,λ f g=>⟨s3,c,⟨none,0,0⟩,rfl,?_,?_⟩⟩
 ·rw[Rat.num_intCast]
  exact e.ext g
 ·have:dn (z:Rat)=0:=by unfold dn;rw[Rat.den_intCast];rfl
  rw[this];exact Af6 f
theorem Ay8 (d:I64 z)(e: ∀(s':Sl) (b':Bool) (t':Sl) (W':PW),Ext W W'->(Ab3 257 W' s' b' t' (z:Rat))->K (.agg #[Sl.v s',.bool b',Sl.v t']) W'):
  Aa1 Tryz.prog W0 M 81 [.int .i64 z] W K:=
 Mi4 (λ _ c=>Fa7 d) fun | _,W',c,⟨s',b',t',rfl,h⟩=>e s' b' t' W' c h
end Go.Proofs.YtkgeopnakkcdoaaGreatDoor
namespace Go.Proofs.YtkgeopnakkcdoaaGreatDoor
open Go Go.SX
variable {M:Nat->Prop}{W0:PW}{a:ByteArray}{b:Nat}
def Fp6 (W0:PW) (g:Nat) (cs:Array Value) (us:List Nat) (b e:Nat) (l:List PL) (W:PW):Prop:=
 match l with
 | [.val (.int .u64 c),.val (.int .i64 k)]=>∃(d k':Nat) (ws:List Nat),c=(d:Int)/\k=(k':Int)/\Aq5 W0 W g cs 257 0 (cv ws)/\ws.length=us.length/\Dig ws/\d<B/\k'<=us.length/\
   val (ws.take k')+B^k'*d=val (us.take k')*b+e/\ws.drop k'=us.drop k'
 | _=>False
def Fq1 (n:Nat) (l:List PL) (W:PW):Nat:=
 match l with
 | [_,.val (.int .i64 k)]=>n-k.toNat
 | _=>0
theorem Ds7 {d:Nat}{c:Nat}(e:c<B)(f:d<B)(g:b<B):(c+d*b)/B<B/\c+d*b<18446744073709551616:=by
 have h1:d*b<=(B-1)*(B-1):=Nat.mul_le_mul (by omega) (by omega);unfold B at *;constructor<;>omega
theorem Ec7 {s:Sl}{us:List Nat}{c:Nat}(h:Go.SX.Own W0 257 1 s (cel us))(I:Dig us)(U:Trim us)(J:b<B)(V:0<b)(m:c<B)(hl:us.length<=5000):
  Aa0 Tryz.prog 172 [s.v,.int .u32 (b:Int),.int .u32 (c:Int)] W0 (λ g=>s.v.ownBlock=some g) λ v W'=>∃s',v=Sl.v s'/\Go.SX.Own W' 257 1 s' (cel (dg (val us*b+c)))/\∀g,s'.v.ownBlock=some g->s.v.ownBlock=some g\/W0.w.heap.size<=g:=by
 apply Db4;have hB:B=4294967296:=rfl;have L:=h.n;rw[Aa5] at L;have u: ∀x:Nat,x<B->IntKind.wrap .u64 (x:Int)=(x:Int):=λ x hx=>Ab1 (by omega)
 by_cases w:us = []
 ·subst w
  refine⟨λ l W=>match l with | [.val (.int .u64 j),.val (.int .i64 k)]=>Ext W0 W/\j=(c:Int)/\k=0 | _=>False,λ _ _=>0,?_,?_⟩
  ·rw[u c m]
   exact⟨Ext.refl _,rfl,rfl⟩
  rintro i3 i4 X ⟨D,rfl,rfl⟩;simp at L;refine⟨λ Y=>(by omega),λ _=>⟨λ Z=>?_,λ hz ab E=>?_⟩⟩
  ·intro W' o
   refine⟨cel [],(h.ext D).ext o,λ g d=>Or.inl d,by simp[cel],λ s' ac hX hO F ae G=>⟨s',rfl,?_,λ g d=>(F g d).imp id λ h=>Nat.le_trans (Nat.le_trans D.size o.size) h⟩⟩;have e:dg (val []*b+c) = [c]:=by
    simp only[val,Nat.zero_mul,Nat.zero_add];rw[Bk2 (by omega),Nat.mod_eq_of_lt m,Nat.div_eq_of_lt m,Ae8]
   rw[e];have:=hO.ext G;rw[Ab9,Nat.mod_eq_of_lt m] at this;exact this
  ·have:c=0:=by omega
   subst this;refine⟨s,rfl,?_,λ g d=>.inl d⟩
   simpa[val,Ae8] using(h.ext D).ext E
 ·obtain⟨g,cs,hm,d⟩:=h.mut w
  have an:=List.length_pos_iff.2 w;refine⟨Fp6 W0 g cs us b c,Fq1 us.length,?_,?_⟩
  ·rw[u c m]
   exact⟨c,0,us,rfl,rfl,hm.start (Ext.refl _),rfl,I,m,by omega,by simp[val],rfl⟩
  rintro i3 i4 X ⟨j,k,ws,rfl,rfl,A,f,C,H,hk,n,N⟩;have O:=hm.put A f;refine⟨λ Y=>?_,λ ao=>?_⟩
  ·have r:k<us.length:=by omega
   have P:k<ws.length:=by omega
   have af:ws[k]?=some us[k]:=by
    have:=congrArg (λ l=>l[0]?) N
    simpa[List.getElem?_drop,r] using this
   have Q:=I.at r;have R:=Ds7 H Q J;have ag:us[k]*b<18446744073709551616:=by omega
   have e:IntKind.wrap .u64 ((j:Int)+IntKind.wrap .u64 (IntKind.wrap .u64 ((us[k]:Nat):Int)*IntKind.wrap .u64 (b:Int)))=((j+us[k]*b:Nat):Int):=by
    rw[u _ Q,u b J,<-Int.natCast_mul,Ab1 ag,<-Int.natCast_add,Ab1 R.2]
   have S:=(O.row).inB (i:=(k:Int)) (by omega) (by omega);refine⟨S,((us[k]:Nat):Int),(O.row).atq af,S,?_⟩;rw[e];rw[show Int.toNat (k:Int)=k from rfl,Nat.mul_one,Nat.add_zero,Ab9];refine Ar7 hm A f P (Or.inl d) λ W7 ah=>⟨by unfold I64;omega,?_,?_⟩
   ·rw[Ao0]
    refine⟨_,k+1,_,rfl,by push_cast;rfl,ah,by simpa using f,Dig.set C (Nat.mod_lt _ Ad3),R.1,by omega,?_,?_⟩
    ·rw[Ac1 P,Aa4 r,Nat.pow_succ]
     exact grow_step n
    ·rw[Ah5 (by omega)]
     have:=congrArg (λ l=>l.drop 1) N
     simpa using this
   ·show us.length-Int.toNat ((k:Int)+1)<us.length-Int.toNat (k:Int)
    omega
  ·have r:k=us.length:=by omega
   subst r;rw[<-f,List.take_length,f,List.take_length] at n;have T:=h.put hm A f;refine⟨λ Z=>?_,λ hz ab E=>?_⟩
   ·intro W' o
    refine⟨cel ws,T.ext o,λ g d=>Or.inl d,by rw[Aa5];simp;omega,λ s' ac hX hO F ae G=>⟨s',rfl,?_,λ g d=>(F g d).imp id λ h=>Nat.le_trans (Nat.le_trans A.ext.size o.size) h⟩⟩;have e:dg (val us*b+c)=ws ++ [j]:=by
     rw[<-n,<-f,show val ws+B^ws.length*j=val (ws ++ [j]) by rw[Ag8];simp[val]];exact Bk0 (C.append (Dig.cons H Dig.nil)) (Cx9 (by omega))
    rw[e,<-Bh9];have:=hO.ext G;rw[Ab9,Nat.mod_eq_of_lt H] at this;exact this
   ·have ai:j=0:=by omega
    subst ai;rw[Nat.mul_zero,Nat.add_zero] at n;refine⟨s,rfl,?_,λ g d=>.inl d⟩;have aj:ws≠[]:=λ e=>by subst e;simp at f;omega
    have:dg (val us*b+c)=ws:=by
     rw[<-n];refine Bk0 C (Ek5 C aj ?_);rw[n,f];have h1:=Ee4 w U;have h2:val us*1<=val us*b:=Nat.mul_le_mul_left _ V;omega
    rw[this];exact T.ext E
def er {α:Type} (o:Option α):Int:=if o.isSome then 0 else 2
theorem Df6:
  Aa0 Tryz.prog 96 [.string a] W0 M λ v W'=>∃(s':Sl),v = .tuple #[.agg #[Sl.v s'],.int .i64 (er (Ad2 a))]/\Aa6 257 W' s' ((Ad2 a).getD 0):=by
 apply Ch1;have bad:¬Cv5 a->∀W':PW,∃s':Sl,(Value.tuple #[.agg #[.slice none 0 0],.int .i64 2]) = .tuple #[.agg #[Sl.v s'],.int .i64 (er (Ad2 a))]/\Aa6 257 W' s' ((Ad2 a).getD 0):=by
  intro h W';rw[Bh4 h];exact⟨⟨none,0,0⟩,rfl,Af6 W'⟩
 have Z:Ae2 a 0=(sb a 0:Int):=Ao5 a 0;refine⟨λ l W=>match l with | [.cells [.slice _ _ _]]=>a.size≠0/\a.size<=4000/\¬(sb a 0=48/\1<a.size)/\W0.w.heap.size<=W.w.heap.size | _=>False,⟨λ h=>λ r _=>bad ?_ r,λ h=>⟨λ F=>λ r _=>bad ?_ r,λ F=>⟨?_,λ G=>⟨λ h1 H _=>bad ?_ H,λ h1=>?_⟩,λ G=>?_⟩⟩⟩,?_⟩
 ·rintro⟨h1,_⟩
  exact Bi0.2 h1 h
 ·rintro⟨_,h1,_⟩
  omega
 ·have:=Bi0.1 h
  omega
 ·rintro⟨_,_,I,_⟩
  exact I ⟨by omega,by omega⟩
 ·exact⟨Bi0.1 h,by omega,by omega,Nat.le_refl _⟩
 ·exact⟨Bi0.1 h,by omega,by omega,Nat.le_refl _⟩
 rintro s8 J ⟨L,N,O,P⟩;refine⟨λ l W=>match l with | [.val (.slice A n c),.val (.int .i64 i),.cells [.slice _ _ _]]=>(∃k:Nat,i=(k:Int)/\k<=a.size/\(∀j,j<k->48<=sb a j/\sb a j<=57)/\Go.SX.Own W 257 1 ⟨A,n,c⟩ (cel (dg (dv a k)))/\Aq4 W0 ⟨A,n,c⟩/\W0.w.heap.size<=W.w.heap.size) | _=>False,
  λ l _=>match l with | [_,.val (.int .i64 i),_]=>a.size-i.toNat | _=>0,⟨0,rfl,Nat.zero_le _,λ j h=>(by omega),?_,?_,P⟩,?_⟩
 ·exact Dd0 J
 ·intro g d
  simp[Sl.v,Value.ownBlock] at d
 rintro ab u i14 C ⟨k,rfl,hk,w,hO,hF,hw⟩;have hO:Go.SX.Own C 257 1 u (cel (dg (dv a k))):=hO;have hF:Aq4 W0 u:=hF;have ac:Ae2 a (Int.toNat (k:Int))=(sb a k:Int):=Ao5 a k;refine⟨λ ad=>⟨λ l W=>match l with | [_,_,_,_,_,.cells [.slice _ _ _]]=>Ext C W/\48<=sb a k/\sb a k<=57 | _=>False,⟨by omega,λ Q=>λ R _=>bad ?_ R,λ Q=>⟨by omega,λ f S _=>bad ?_ S,λ f=>⟨Ext.refl _,by omega,by omega⟩⟩⟩,?_⟩,λ ae af T=>?_⟩
 ·rintro⟨_,_,_,h⟩
  have:=h k (by omega);omega
 ·rintro⟨_,_,_,h⟩
  have:=h k (by omega);omega
 ·rintro ag t20 i21 ah t23 i24 ai ⟨m,D,f⟩
  refine⟨by omega,?_⟩;rw[show Int.toNat (k:Int)=k from rfl,dgt D f];intro W' o;refine⟨_,_,Ec7 (b:=10) (c:=sb a k-48) ((hO.ext m).ext o) (Ad8 _) (Df1 _) (by decide) (by decide) (by unfold B;omega) (by have:=Fn5 w (by omega);unfold nl at this;omega),?_,?_⟩
  ·intro g d
   have U:=(hO.ext m).ext o;exact⟨U.2 g d,.inr (hF g d)⟩
  ·rintro v aj V ⟨s',rfl,E,X⟩
   rw[Ac5] at E;refine⟨s',rfl,by unfold I64;omega,⟨k+1,by push_cast;rfl,by omega,?_,E,?_,Nat.le_trans (Nat.le_trans hw (Nat.le_trans m.size o.size)) V.size⟩,?_⟩
   ·intro j hj
    by_cases e:j=k
    ·subst e;exact⟨D,f⟩
    ·exact w j (by omega)
   ·intro g d
    rcases X g d with h | h
    ·exact hF g h
    ·exact Nat.le_trans (Nat.le_trans hw (Nat.le_trans m.size o.size)) h
   ·show a.size-Int.toNat ((k:Int)+1)<a.size-Int.toNat (k:Int)
    omega
 ·have Y:k=a.size:=by omega
  subst Y;have d:Cv5 a:=⟨L,N,O,w⟩;rw[Bu4 d];exact⟨u,rfl,(hO.ext T).row⟩
theorem Au3 {W:PW}{K:Value->PW->Prop}(d: ∀(s':Sl) (W':PW),Ext W W'->(Aa6 257 W' s' ((Ad2 a).getD 0))->K (.tuple #[.agg #[Sl.v s'],.int .i64 (er (Ad2 a))]) W'):
  Aa1 Tryz.prog W0 M 96 [.string a] W K:=
 Mi4 (λ _ c=>Df6 ) fun | _,W',c,⟨s',rfl,h⟩=>d s' W' c h
end Go.Proofs.YtkgeopnakkcdoaaGreatDoor
