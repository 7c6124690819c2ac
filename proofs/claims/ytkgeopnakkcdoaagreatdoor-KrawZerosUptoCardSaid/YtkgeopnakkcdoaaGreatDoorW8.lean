import Derived.Test.YtkgeopnakkcdoaaGreatDoorW7
import Derived.Test.YtkgeopnakkcdoaaGreatDoorR6
import Derived.Test.YtkgeopnakkcdoaaGreatDoorW3
import Derived.Test.YtkgeopnakkcdoaaGreatDoorR5
import Derived.Test.YtkgeopnakkcdoaaGreatDoorLib2
import Derived.Test.YtkgeopnakkcdoaaGreatDoorR7
import Derived.Test.YtkgeopnakkcdoaaGreatDoorLib4
import Derived.Test.YtkgeopnakkcdoaaGreatDoorLib5
import Derived.Test.YtkgeopnakkcdoaaGreatDoorLib6
import Derived.Test.YtkgeopnakkcdoaaGreatDoorR8
set_option linter.unusedVariables false
set_option linter.unusedSimpArgs false
set_option maxRecDepth 100000
namespace Go.Proofs.YtkgeopnakkcdoaaGreatDoor
open Go Go.SX
variable {M:Nat->Prop}{W W0:PW}{i:Int}{k l:Nat}{p:List Tm}{s:Sl}
def Hj5 (m:Mon) (k:Nat):Mon:=if k=0 then⟨m.x-1,m.y,m.z⟩ else if k=1 then⟨m.x,m.y-1,m.z⟩ else⟨m.x,m.y,m.z-1⟩
def Hc2 (k:Nat) (t:Tm):List Tm:=if 0<An6 t.1 k then[(Hj5 t.1 k,t.2*((An6 t.1 k:Int):Rat))] else[]
def Hc1 (p:List Tm) (k:Nat):List Tm:=p.flatMap (Hc2 k)
def Hc3 (p:List Tm) (i:Int):List Tm:=if 0<=i/\i<3 then Ag2 (Hc1 p i.toNat) else[]
theorem Hc4 {j:Nat}(a:j<p.length)(k:Nat):Hc1 (p.take (j+1)) k=Hc1 (p.take j) k ++ Hc2 k p[j]:=by
 rw[Ce0 a];unfold Hc1;rw[List.flatMap_append];rw[show List.flatMap (Hc2 k) [p[j]]=Hc2 k p[j] from by simp[List.flatMap]]
theorem Ho7 (k:Nat)(t:Tm):(Hc2 k t).length<=1:=by
 unfold Hc2;split<;>simp
theorem Hd4 (p:List Tm)(k:Nat):(Hc1 p k).length<=p.length:=by
 induction p with
 | nil=>simp[Hc1]
 | cons t r ih=>
  have e:Hc1 (t::r) k=Hc2 k t ++ Hc1 r k:=rfl;have:=Ho7 k t;rw[e];simp only[List.length_append,List.length_cons];omega
theorem Hl4 {m:Mon}(h:m.ok)(hk:k<3)(a:0<An6 m k):(Hj5 m k).ok:=by
 unfold Mon.ok at h;unfold An6 at a;unfold Hj5;rcases(by omega:k=0\/k=1\/k=2) with rfl | rfl | rfl
 ·simp at a;exact⟨⟨by show 0<=m.x-1;omega,by show m.x-1<=255;omega⟩,h.2.1,h.2.2⟩
 ·simp at a;exact⟨h.1,⟨by show 0<=m.y-1;omega,by show m.y-1<=255;omega⟩,h.2.2⟩
 ·simp at a;exact⟨h.1,h.2.1,by show 0<=m.z-1;omega,by show m.z-1<=255;omega⟩
theorem Hg5 (h:Bd l p)(c:POk p)(k:Nat):Bd (l+1) (Hc1 p k):=by
 obtain⟨D,N,h1,g,o,v⟩:=h;have key: ∀{p:List Tm} {N:Nat},Fit D N p->POk p->Fit D (N*255) (Hc1 p k):=by
  intro p
  induction p with
  | nil=>intro N _ _;trivial
  | cons t r ih=>
   rintro N ⟨a,b,g1,g2,g3⟩ c;have e:Hc1 (t::r) k=Hc2 k t ++ Hc1 r k:=rfl;rw[e];have j:=ih g3 λ x m=>c x (by simp[m]);have n:Fit D (a*255) (Hc2 k t):=by
    unfold Hc2;split
    ·have hk:=Dg9 (c t (by simp)) k
     have f:Ak3 1 255 ((An6 t.1 k:Int):Rat):=(Ak3.int (An6 t.1 k)).mono (by omega);have d:=g2.mul f;rw[Nat.mul_one] at d;exact⟨a*255,0,by omega,d,trivial⟩
    ·trivial
   have:=n.append j;rw[<-Nat.add_mul] at this;exact this.mono (Nat.mul_le_mul_right _ g1)
 have f:=Ae5 N 255;have d:nl 255<=1:=Bc6 (by decide);exact⟨D,N*255,key h1 c,g,by omega,by omega⟩
theorem Hq5 (m:Mon)(hk:k<3)(r:List Value):As9 (.int .u8 m.x :: .int .u8 m.y :: .int .u8 m.z::r) (0+Int.toNat (k:Int)*1+0) [.int .u8 (An6 m k)]:=by
 rcases(by omega:k=0\/k=1\/k=2) with rfl | rfl | rfl<;>exact⟨by simp,rfl⟩
theorem Hl0 (h:Ab0 257 169 W0 s p)(n:Bd l p)(hl:l<=268435456)(hp:p.length<=1073741824):
  Aa0 Tryz.prog 67 [.agg ⟨[s.v]⟩,.int .i64 i] W0 M λ v W'=>∃(s':Sl),v = .agg ⟨[Sl.v s']⟩/\Ab0 257 169 W' s' (Hc3 p i):=by
 apply Hh0;have hn:=h.n;refine⟨λ J N _=>⟨⟨none,0,0⟩,rfl,?_⟩,λ J=>⟨λ O P _=>⟨⟨none,0,0⟩,rfl,?_⟩,λ O=>?_⟩⟩
 ·unfold Hc3;rw[if_neg (by omega)];exact Ab0.nil N
 ·unfold Hc3;rw[if_neg (by omega)];exact Ab0.nil P
 obtain⟨k,rfl⟩:=Int.eq_ofNat_of_zero_le (by omega:0<=i);have o:k<3:=by omega
 have c:(0:Int)<=(k:Int)/\(k:Int)<3:=⟨by omega,by omega⟩
 refine⟨λ L W=>match L with
  | [.row xs,.val (.int .i64 i)]=>∃j:Nat,i=(j:Int)/\j<=p.length/\Ext W0 W/\An5 (PT 257 W) xs (Hc1 (p.take j) k)
  | _=>False,cnL p.length,⟨0,rfl,by omega,Ext.refl _,trivial⟩,?_⟩
 rintro l5 i6 W7 ⟨j,rfl,hj,f,a⟩;have am:=a.len;have w:=Hd4 (p.take j) k;rw[List.length_take] at w;refine⟨λ an=>?_,λ ao ap aq Q hO _=>?_⟩
 ·have d:j<p.length:=by omega
  have A:=h.ext f;obtain⟨C,s1,b1,s2,R,_,_,S⟩:=A.at (List.getElem?_eq_getElem d);have ar:=Dg9 C k;have D:p.length-Int.toNat ((j:Int)+1)<p.length-Int.toNat (j:Int):=by omega
  have E:=Hq5 p[j].1 o [s1.v,.bool b1,s2.v];have hw:IntKind.wrap .u8 (An6 p[j].1 k-1)=An6 p[j].1 k-1\/¬0<An6 p[j].1 k:=by
   by_cases h:0<An6 p[j].1 k
   ·exact .inl (Du1 (by omega) (by omega))
   ·exact .inr h
  refine⟨A.inB (by omega) (by omega),_,_,_,s1,b1,s2,R,c,_,E,λ g=>⟨c,_,E,c,by omega,⟨⟨trivial,λ e=>?_⟩,λ e=>?_⟩,λ e=>?_⟩,λ T=>⟨by unfold I64;omega,⟨j+1,by push_cast;rfl,by omega,f,?_⟩,D⟩⟩
  case refine_4=>
   rw[Hc4 d];unfold Hc2;rw[if_neg T,List.append_nil];exact a
  all_goals
   have U:IntKind.wrap .u8 (An6 p[j].1 k-1)=An6 p[j].1 k-1:=hw.resolve_right (λ h=>h g);have V:=Hl4 C o g;have X:Hc2 k p[j] = [(Hj5 p[j].1 k,p[j].2*((An6 p[j].1 k:Int):Rat))]:=by unfold Hc2;rw[if_pos g]
   have Y:k=_:=e;subst Y;refine⟨by unfold I64;omega,Ay8 (z:=An6 p[j].1 _) (by unfold I64;omega) λ Z aa ab au m ac=>⟨Z,aa,ab,rfl,Ak9 (S.ext m) ac (n.sz _ (List.getElem_mem d)) ((Ak3.int _).sz (by decide) (k:=l+1) (by rw[Ax0];omega) (Nat.le_trans (Ad1 (by omega:_<=255)) (Nat.le_trans (Bc6 (by decide:255<B^1)) (by omega)))) (by omega) (by omega) λ F G H av I ad=>⟨F,G,H,rfl,by simp;omega,by unfold I64;omega,⟨j+1,by push_cast;rfl,by omega,f.trans (m.trans I),?_⟩,D⟩⟩⟩;rw[Hc4 d,X];refine(a.mono λ _ _ h=>h.ext (m.trans I)).snoc ⟨V,F,G,H,?_,ad⟩;rw[U];rfl
 ·have:j=p.length:=by omega
  subst this;rw[List.take_length] at a;have w:=Hd4 p k;refine An2 (Bf5 hO.row (a.mono λ _ _ h=>h.ext Q)) (Hg5 n h.ok k) (by omega) (by omega) λ s' aw ax ae=>⟨s',rfl,λ ay af=>⟨s',rfl,?_⟩⟩;unfold Hc3;rw[if_pos c];exact ae.ext af
theorem Hg6 {K:Value->PW->Prop}(h:Ab0 257 169 W s p)(c:Bd l p)(d:l<=268435456)(e:p.length<=1073741824)(f: ∀(s':Sl) (W':PW),Ext W W'->(Ab0 257 169 W' s' (Hc3 p i))->K (.agg ⟨[Sl.v s']⟩) W'):
  Aa1 Tryz.prog W0 M 67 [.agg ⟨[s.v]⟩,.int .i64 i] W K:=
 Mi4 (λ _ a=>Hl0 (h.ext a) c d e) fun | _,W',a,⟨s',rfl,h⟩=>f s' W' a h
theorem Hg1 (h:Bd l p)(a:POk p)(i:Int):Bd (l+1) (Hc3 p i):=by
 unfold Hc3;split
 ·exact(Hg5 h a _).norm
 ·obtain⟨D,N,h1,c,d,e⟩:=h
  exact⟨1,0,trivial,by decide,by rw[Ax0];omega,by rw[Ag9];omega⟩
theorem Hj1 (p:List Tm)(i:Int):(Hc3 p i).length<=p.length:=by
 unfold Hc3;split
 ·exact Nat.le_trans (El2 _) (Hd4 p _)
 ·simp
theorem Ab0.pok (h:Ab0 257 169 W s p):POk p:=h.ok
theorem Hp7 (h:POk p)(hk:k<3):POk (Hc1 p k):=λ t a=>by
 obtain⟨u,hu,hm⟩:=List.mem_flatMap.1 a;unfold Hc2 at hm;split at hm
 ·rename_i c
  simp only[List.mem_singleton] at hm;subst hm;exact Hl4 (h u hu) hk c
 ·simp at hm
theorem Hh5 (h:POk p)(i:Int):POk (Hc3 p i):=by
 unfold Hc3;split
 ·exact POk.norm (Hp7 h (by omega))
 ·intro t a;simp at a
end Go.Proofs.YtkgeopnakkcdoaaGreatDoor
namespace Go.Proofs.YtkgeopnakkcdoaaGreatDoor
open Go Go.SX
variable {K:Value->PW->Prop}{M:Nat->Prop}{W W0:PW}{b:Bool}{k:Nat}{q:Rat}{s t:Sl}{z:Int}
theorem Fu3 {i:Nat}(h:i<256):bits .and .i64 (i:Int) 1=((i%2:Nat):Int):=by
 have key: ∀i:Nat,i<256->bits .and .i64 (i:Int) 1=((i%2:Nat):Int):=by decide +kernel
 exact key i h
theorem Fp4 (i:Nat):Ah0 (i:Int) 1=((i/2:Nat):Int):=by
 unfold Ah0;rw[Int.fdiv_eq_ediv_of_nonneg _ (by decide)];omega
theorem Cf5 (h:nl z.natAbs<=k)(e:Nat):nl (z^e).natAbs<=k*e+1:=by
 induction e with
 | zero=>simp[Ax0]
 | succ e ih=>
  rw[Int.pow_succ,Int.natAbs_mul];have:=Ae5 (z^e).natAbs z.natAbs;rw[Nat.mul_add];omega
theorem Di0 {n:Nat}(h:Ab5 257 W0 s b z)(L:nl z.natAbs<=k)(hk:k<=1048576)(N:n<=255):
  Aa0 Tryz.prog 168 [.agg ⟨[s.v,.bool b]⟩,.int .i64 (n:Int)] W0 M λ v W'=>∃(s':Sl),∃(b':Bool),v = .agg ⟨[Sl.v s',.bool b']⟩/\Ab5 257 W' s' b' (z^n):=by
 apply Cg5;have O:mn (mx (n:Int) 0) 255=(n:Int):=by unfold mn mx;split<;>(try split)<;>omega
 rw[O];refine Bk1 (z:=1) (by unfold I64;omega) λ s3 P W2 B C=>⟨s3,P,rfl,?_⟩
 refine⟨λ l W=>match l with
  | [.val (.int .i64 i),.cells [.slice A m c,.bool x],.cells [.slice Q R S,.bool y]]=>∃(j e f:Nat),i=(j:Int)/\Ext W0 W/\f+e*j=n/\e<=2*n+1/\j<=255/\Ab5 257 W ⟨A,m,c⟩ x (z^f)/\Ab5 257 W ⟨Q,R,S⟩ y (z^e)
  | _=>False,λ l _=>match l with | [.val (.int .i64 i),_,_]=>i.toNat | _=>0,⟨n,1,0,rfl,B,by omega,by omega,N,by simpa using C,by rw[show z^1=z by rw[Int.pow_succ,Int.pow_zero,Int.one_mul]];exact h.ext B⟩,?_⟩
 rintro D E T U i11 F ⟨j,e,f,rfl,G,H,he,hj,g,a⟩;have g:Ab5 257 F D E (z^f):=g;have a:Ab5 257 F T U (z^e):=a;have V:e*j<=n:=by omega
 refine⟨λ ap=>?_,λ aq ar X=>⟨D,E,rfl,?_⟩⟩
 ·have Y:1<=j:=by omega
  have au:e<=n:=Nat.le_trans (Nat.le_mul_of_pos_right e Y) V;have d: ∀x,x<=511->nl (z^x).natAbs<=68719476736:=λ x Z=>by
   have h1:=Cf5 L x;have C:=Nat.mul_le_mul hk Z;omega
  have av:(e+e)*(j/2)=e*(2*(j/2)):=by rw[<-Nat.two_mul,Nat.mul_comm 2 e,Nat.mul_assoc]
  have hi:Int.toNat (Ah0 (j:Int) 1)<Int.toNat (j:Int):=by rw[Fp4];omega
  refine⟨λ aa=>?_,λ ab=>?_⟩
  ·have ho:j%2=1:=by rw[Fu3 (by omega)] at aa;omega
   have o:j=2*(j/2)+1:=by omega
   have ad:e*j=e*(2*(j/2))+e:=by conv=>lhs;rw[o,Nat.mul_add,Nat.mul_one]
   refine Ak0 g a (d f (by omega)) (d e (by omega)) λ ae af aw w ag=>⟨ae,af,rfl,Ak0 (a.ext w) (a.ext w) (d e (by omega)) (d e (by omega)) λ ah ai ax I aj=>⟨ah,ai,rfl,⟨j/2,e+e,f+e,by rw[Fp4],G.trans (w.trans I),by omega,by omega,by omega,?_,?_⟩,hi⟩⟩
   ·rw[Int.pow_add];exact ag.ext I
   ·rw[Int.pow_add];exact aj
  ·have ho:j%2=0:=by
    rw[Fu3 (by omega)] at ab;omega
   have o:j=2*(j/2):=by omega
   have ad:e*j=e*(2*(j/2)):=by conv=>lhs;rw[o]
   refine Ak0 a a (d e (by omega)) (d e (by omega)) λ ak al ay J am=>⟨ak,al,rfl,⟨j/2,e+e,f,by rw[Fp4],G.trans J,by omega,by omega,by omega,g.ext J,?_⟩,hi⟩;rw[Int.pow_add];exact am
 ·have:j=0:=by omega
  subst this;rw[Nat.mul_zero,Nat.add_zero] at H;rw[<-H];exact g.ext X
theorem Bd6 {n:Nat}(h:Ab5 257 W s b z)(c:nl z.natAbs<=k)(hk:k<=1048576)(d:n<=255)(e: ∀(s':Sl) (b':Bool) (W':PW),Ext W W'->(Ab5 257 W' s' b' (z^n))->K (.agg ⟨[Sl.v s',.bool b']⟩) W'):
  Aa1 Tryz.prog W0 M 168 [.agg ⟨[s.v,.bool b]⟩,.int .i64 (n:Int)] W K:=
 Mi4 (λ _ a=>Di0 (h.ext a) c hk d) fun | _,W',a,⟨s',b',rfl,h⟩=>e s' b' W' a h
theorem Eo3 (q:Rat)(n:Nat):dn (q^n)=if dn q=0\/n=0 then 0 else q.den^n:=by
 unfold dn;rw[Rat.den_pow]
 by_cases h1:q.den=1
 ·simp[h1]
 ·by_cases a:n=0
  ·subst a;simp
  ·have:q.den^n≠1:=by
    have d:=q.den_nz;obtain⟨m,rfl⟩: ∃m,n=m+1:=⟨n-1,by omega⟩;rw[Nat.pow_succ];have:1<=q.den^m:=Nat.pow_pos (by omega);have:=Nat.mul_le_mul this (show 2<=q.den by omega);omega
   have c:q.den≠0:=q.den_nz;simp[h1,a,this,c]
theorem Er1 {n:Nat}(h:Ab3 257 W0 s b t q)(a:Sz k q)(hk:k<=1048576)(j:n<=255):
  Aa0 Tryz.prog 87 [.agg ⟨[s.v,.bool b,t.v]⟩,.int .i64 (n:Int)] W0 M λ v W'=>∃(s':Sl),∃(b':Bool),∃(t':Sl),v = .agg ⟨[Sl.v s',.bool b',Sl.v t']⟩/\Ab3 257 W' s' b' t' (q^n):=by
 apply Dk0;have S:=a.dn;refine Bd6 h.1 a.1 hk j λ s3 c T m f=>⟨s3,c,rfl,Ac9 (h.2.ext m) (by omega) λ U d _=>⟨_,rfl,λ g=>⟨λ B=>?_,λ B C D=>⟨s3,c,⟨none,0,0⟩,rfl,(f.ext d).ext D,?_⟩⟩,λ g E F=>⟨s3,c,⟨none,0,0⟩,rfl,(f.ext d).ext F,?_⟩⟩⟩
 ·refine Bc0 (h.ext (m.trans d)) a (by omega) λ G H V I J=>⟨G,H,rfl,Bd6 J (by rw[Int.natAbs_natCast];exact a.2) hk j λ L N X O P=>⟨L,N,rfl,Ag5 P λ o Y Q w=>⟨o,rfl,λ Z A=>⟨s3,c,o,rfl,(f.ext (d.trans (I.trans (O.trans Q)))).ext A,?_⟩⟩⟩⟩
  have aa:dn q≠0:=λ e=>by
   rw[e] at g;simp[Aj9] at g
  have e:dn (q^n)=q.den^n:=by rw[Eo3,if_neg (by omega)]
  rw[e];have R:((q.den:Int)^n).natAbs=q.den^n:=by rw[Int.natAbs_pow,Int.natAbs_natCast]
  rw[R] at w;exact w.ext A
 ·have:n=0:=by omega
  rw[Eo3,if_pos (.inr this)];exact Ao9 C
 ·have:dn q=0:=(Ag3 (x:=dn q)).1 (by omega)
  rw[Eo3,if_pos (.inl this)];exact Ao9 E
theorem Bq4 {n:Nat}(h:Ab3 257 W s b t q)(c:Sz k q)(hk:k<=1048576)(d:n<=255)(e: ∀(s':Sl) (b':Bool) (t':Sl) (W':PW),Ext W W'->(Ab3 257 W' s' b' t' (q^n))->K (.agg ⟨[Sl.v s',.bool b',Sl.v t']⟩) W'):
  Aa1 Tryz.prog W0 M 87 [.agg ⟨[s.v,.bool b,t.v]⟩,.int .i64 (n:Int)] W K:=
 Mi4 (λ _ a=>Er1 (h.ext a) c hk d) fun | _,W',a,⟨s',b',t',rfl,h⟩=>e s' b' t' W' a h
end Go.Proofs.YtkgeopnakkcdoaaGreatDoor
namespace Go.Proofs.YtkgeopnakkcdoaaGreatDoor
open Go Go.SX
variable {M:Nat->Prop}{W0:PW}{b0 b1 b2:Bool}{k l:Nat}{p:List Tm}{s s0 s1 s2 t0 t1 t2:Sl}
structure Pt where
 x:Rat
 y:Rat
 z:Rat
variable {u:Pt}
def Pt.get (u:Pt) (k:Nat):Rat:=if k=0 then u.x else if k=1 then u.y else u.z
def ctm (t:Tm) (u:Pt):Nat->Rat
 | 0=>t.2
 | j+1=>ctm t u j*u.get j^(An6 t.1 j).toNat
def atQ (u:Pt) (p:List Tm):Rat:=p.foldl (λ a t=>a+ctm t u 3) 0
theorem Gs5 (u:Pt)(l:List Tm)(t:Tm):atQ u (l ++ [t])=atQ u l+ctm t u 3:=by simp[atQ]
theorem Gu9 {t:Tm}{u:Pt}{k l e:Nat}(a:Sz k t.2)(hu: ∀i,Sz l (u.get i))(he: ∀i,(An6 t.1 i).toNat<=e): ∀j,Sz (k+j*(l*e+1)) (ctm t u j)
 | 0=>by rw[Nat.zero_mul,Nat.add_zero];exact a
 | j+1=>by
  have h1:=Gu9 a hu he j;have c:=Sz.Fe7 (hu j) (An6 t.1 j).toNat;have d:=Nat.mul_le_mul_left l (he j);exact(h1.mul c).mono (by rw[Nat.add_mul,Nat.one_mul];omega)
theorem Gx6 {e:Nat}(c: ∀t∈p,Sz k t.2)(hu: ∀i,Sz l (u.get i))(he: ∀t∈p,∀i,(An6 t.1 i).toNat<=e):Sz (p.length*(k+3*(l*e+1)+1)+1) (atQ u p):=by
 have key: ∀j,j<=p.length->Sz (j*(k+3*(l*e+1)+1)+1) (atQ u (p.take j)):=by
  intro j
  induction j with
  | zero=>intro _;exact Sz.zero (by omega)
  | succ j ih=>
   intro f;have a:j<p.length:=by omega
   rw[Ce0 a,Gs5];have h1:=ih (by omega);have d:=Gu9 (c _ (List.getElem_mem a)) hu (he _ (List.getElem_mem a)) 3;refine(h1.add d).mono ?_;rw[Nat.add_mul,Nat.one_mul];omega
 have:=key p.length (Nat.le_refl _)
 rwa [List.take_length] at this
theorem Gq6 {m:Mon}(h:m.ok)(i:Nat):(An6 m i).toNat<=255:=by
 have:=Dg9 h i;omega
def atO (W0:PW) (p:List Tm) (u:Pt) (L:List PL) (W:PW):Prop:=match L with
 | [.val (.int .i64 i),.cells [.slice A m c,.bool x,.slice a d e]]=>∃j:Nat,i=(j:Int)/\j<=p.length/\Ext W0 W/\Ab3 257 W ⟨A,m,c⟩ x ⟨a,d,e⟩ (atQ u (p.take j))
 | _=>False
def atI (a:PW) (t:Tm) (u:Pt) (L:List PL) (W:PW):Prop:=match L with
 | [.val (.int .i64 i),.cells [.slice A m c,.bool x,.slice d e f]]=>∃j:Nat,i=(j:Int)/\j<=3/\Ext a W/\Ab3 257 W ⟨A,m,c⟩ x ⟨d,e,f⟩ (ctm t u j)
 | _=>False
theorem Gv4 (h:Ab0 257 169 W0 s p)(g0:Ab3 257 W0 s0 b0 t0 u.x)(g1:Ab3 257 W0 s1 b1 t1 u.y)(g2:Ab3 257 W0 s2 b2 t2 u.z)(D: ∀t∈p,Sz k t.2)(hu: ∀i,Sz l (u.get i))(hl:l<=100000)(hb:p.length*(k+3*(l*255+1)+1)+1<=400000000)(hk:k+3*(l*255+1)<=400000000):
  Aa0 Tryz.prog 28 [.agg ⟨[s.v]⟩,.agg ⟨[s0.v,.bool b0,t0.v,s1.v,.bool b1,t1.v,s2.v,.bool b2,t2.v]⟩] W0 M λ v W'=>∃(s':Sl),∃(b':Bool),∃(t':Sl),v = .agg ⟨[Sl.v s',.bool b',Sl.v t']⟩/\Ab3 257 W' s' b' t' (atQ u p):=by
 apply Gq4;have hn:=h.n;have ax:p.length<=400000000:=by
  have:=Nat.le_mul_of_pos_right p.length (show 0<k+3*(l*255+1)+1 by omega);omega
 refine⟨atO W0 p u,cn1 p.length,⟨0,rfl,by omega,Ext.refl _,Ar9 W0⟩,?_⟩;rintro s3 E F i6 G ⟨j,rfl,hj,w,a⟩;have a:Ab3 257 G s3 E F (atQ u (p.take j)):=a;refine⟨λ az=>?_,λ aA aB T=>⟨s3,E,F,rfl,?_⟩⟩
 ·have A:j<p.length:=by omega
  have H:=h.ext w;have hm:=List.getElem_mem A;obtain⟨I,c1,d1,c2,U,_,_,V⟩:=H.at (List.getElem?_eq_getElem A);have J:=λ i=>Gu9 (j:=i) (D _ hm) hu (λ i=>Gq6 I i);have X: ∀i,i<=3->k+i*(l*255+1)<=400000000:=λ i hi=>by
   have:=Nat.mul_le_mul_right (l*255+1) hi;omega
  refine⟨H.inB (by omega) (by omega),_,_,_,c1,d1,c2,U,atI G p[j] u,cn1 3,⟨0,rfl,by omega,Ext.refl _,V⟩,?_⟩;rintro Y Z aa i19 L ⟨m,rfl,aC,c,d⟩;have d:Ab3 257 L Y Z aa (ctm p[j] u m):=d;refine⟨λ aD=>?_,λ aE=>?_⟩
  ·have ab:m<3:=by omega
   have N:(0:Int)<=(m:Int)/\(m:Int)<3:=⟨by omega,by omega⟩;have ac:=Dg9 I m;have B:=w.trans c;obtain⟨f,g,o,ad,ae⟩: ∃(f:Sl) (g:Bool) (o:Sl),As9 [s0.v,.bool b0,t0.v,s1.v,.bool b1,t1.v,s2.v,.bool b2,t2.v] (0+Int.toNat (m:Int)*3+0) [f.v,.bool g,o.v]/\Ab3 257 L f g o (u.get m):=by
    rcases(by omega:m=0\/m=1\/m=2) with rfl | rfl | rfl
    ·exact⟨s0,b0,t0,⟨by simp,rfl⟩,g0.ext B⟩
    ·exact⟨s1,b1,t1,⟨by simp,rfl⟩,g1.ext B⟩
    ·exact⟨s2,b2,t2,⟨by simp,rfl⟩,g2.ext B⟩
   obtain⟨n,O⟩:=Int.eq_ofNat_of_zero_le ac.1;refine⟨N,_,Cn5 p[j].1 ab,N,f,g,o,ad,by unfold I64;omega,?_⟩;rw[O];have aF:=Nat.mul_le_mul_left l (by omega:n<=255);refine Bq4 ae (hu m) (by omega) (by omega) λ af ag ah aG P ai=>⟨af,ag,ah,rfl,Ak9 (d.ext P) ai (J m) (Sz.Fe7 (hu m) n) (by have:=X m (by omega);omega) (by omega) λ Q R S aj ak al=>⟨Q,R,S,rfl,by unfold I64;omega,⟨m+1,by push_cast;rfl,by omega,c.trans (P.trans ak),?_⟩,?_⟩⟩
   ·show Ab3 257 aj Q R S (ctm p[j] u m*u.get m^(An6 p[j].1 m).toNat)
    rw[O];exact al
   ·show 3-Int.toNat ((m:Int)+1)<3-Int.toNat (m:Int)
    omega
  ·have:m=3:=by omega
   subst this;have am:=Gx6 (u:=u) (p:=p.take j) (k:=k) (l:=l) (e:=255) (λ t C=>D t (List.mem_of_mem_take C)) hu (λ t C i=>Gq6 (h.ok t (List.mem_of_mem_take C)) i);have aH:(p.take j).length*(k+3*(l*255+1)+1)<=p.length*(k+3*(l*255+1)+1):=Nat.mul_le_mul_right _ (by rw[List.length_take];omega);refine At2 (a.ext c) d am (J 3) (by omega) (by omega) λ an ao ap aI aq ar=>⟨an,ao,ap,rfl,by unfold I64;omega,⟨j+1,by push_cast;rfl,by omega,w.trans (c.trans aq),?_⟩,?_⟩
   ·rw[Ce0 A,Gs5]
    exact ar
   ·show p.length-Int.toNat ((j:Int)+1)<p.length-Int.toNat (j:Int)
    omega
 ·have:j=p.length:=by omega
  subst this;rw[List.take_length] at a;exact a.ext T
theorem Gr5 {W:PW}{K:Value->PW->Prop}(h:Ab0 257 169 W s p)(g0:Ab3 257 W s0 b0 t0 u.x)(g1:Ab3 257 W s1 b1 t1 u.y)(g2:Ab3 257 W s2 b2 t2 u.z)(c: ∀t∈p,Sz k t.2)(hu: ∀i,Sz l (u.get i))(d:l<=100000)(e:p.length*(k+3*(l*255+1)+1)+1<=400000000)(hk:k+3*(l*255+1)<=400000000)(f: ∀(s':Sl) (b':Bool) (t':Sl) (W':PW),Ext W W'->(Ab3 257 W' s' b' t' (atQ u p))->K (.agg ⟨[Sl.v s',.bool b',Sl.v t']⟩) W'):
  Aa1 Tryz.prog W0 M 28 [.agg ⟨[s.v]⟩,.agg ⟨[s0.v,.bool b0,t0.v,s1.v,.bool b1,t1.v,s2.v,.bool b2,t2.v]⟩] W K:=
 Mi4 (λ _ a=>Gv4 (h.ext a) (g0.ext a) (g1.ext a) (g2.ext a) c hu d e hk) fun | _,W',a,⟨s',b',t',rfl,h⟩=>f s' b' t' W' a h
end Go.Proofs.YtkgeopnakkcdoaaGreatDoor
namespace Go.Proofs.YtkgeopnakkcdoaaGreatDoor
open Go Go.SX
def Ha3 (b:Nat->Iv) (u:Pt):Prop:=∀i,i<3->inI (b i) (u.get i)
theorem He6 (m:Mon)(i:Nat):mex m i=(An6 m i).toNat:=by
 unfold mex An6
 (repeat' split)<;>rfl
theorem Hr6 {b:Nat->Iv}{u:Pt}(h:Ha3 b u)(t:Tm): ∀j,j<=3->inI (Ci9 b t j) (ctm t u j)
 | 0,_=>⟨Rat.le_refl,Rat.le_refl⟩
 | j+1,a=>by
  have ih:=Hr6 h t j (by omega);rw[Ci9,ctm,<-He6];split
  ·exact Gc0 ih (Da5 (h j (by omega)) _)
  ·rename_i c
   rw[show mex t.1 j=0 by omega,Rat.pow_zero,Rat.mul_one];exact ih
theorem Hq8 {b:Nat->Iv}{u:Pt}(h:Ha3 b u)(p:List Tm):inI (Aq8 b p) (atQ u p):=by
 have key: ∀(p:List Tm) (a:Iv) (v:Rat),inI a v->inI (p.foldl (λ a t=>Cb5 a (Ci9 b t 3)) a) (p.foldl (λ a t=>a+ctm t u 3) v):=by
  intro p
  induction p with
  | nil=>intro a v h;exact h
  | cons t r ih=>intro a v c;exact ih _ _ (Hd8 c (Hr6 h t 3 (Nat.le_refl _)))
 exact key p _ _ ⟨Rat.le_refl,Rat.le_refl⟩
theorem Gs8 {z:Int}(a:0<=z)(h:z<=255):Sz 1 (z:Rat):=
 (Ak3.int z).sz (by decide) (by rw[Ax0];omega) (Bc6 (Nat.lt_of_le_of_lt (show _<=255 by omega) (by decide:255<B^1)))
end Go.Proofs.YtkgeopnakkcdoaaGreatDoor
namespace Go.Proofs.YtkgeopnakkcdoaaGreatDoor
open Go Go.SX
variable {b:Nat->Iv}{i:Nat}{p:List Tm}{t:Tm}{x:Iv}
def wv (c:Rat) (w:Nat->Rat):Nat->Rat
 | 0=>c
 | j+1=>wv c w j*w j
theorem Hs0 {b:Nat->Iv}{m:Mon}{c:Rat}{w:Nat->Rat}(h: ∀i,i<3->inI (Ai3 (b i) (mex m i)) (w i)): ∀j,j<=3->inI (Ci9 b (m,c) j) (wv c w j)
 | 0,_=>⟨Rat.le_refl,Rat.le_refl⟩
 | j+1,e=>by
  have ih:=Hs0 (c:=c) h j (by omega);have hw:=h j (by omega);rw[Ci9,wv];split
  ·exact Gc0 ih hw
  ·rename_i d
   rw[show mex m j=0 from by simpa using d,Dy8] at hw;obtain⟨h1,a⟩:=hw;have h1:1<=w j:=h1;have a:w j<=1:=a;rw[show w j=1 by grind,Rat.mul_one];exact ih
theorem He7 {a:Rat}{b:Rat}(c:inI x a)(d:inI x b)(e:Nat): ∃g,(0<e->inI (Ai3 x (e-1)) g)/\a^e-b^e=(e:Rat)*g*(a-b):=by
 cases e with
 | zero=>exact⟨0,λ h=>by omega,by rw[Rat.pow_zero,Rat.pow_zero];grind⟩
 | succ n=>
  obtain⟨g,h1,f⟩:=Fu7 c d n;exact⟨g,λ _=>h1,f⟩
theorem Hr0 {m:Mon}(hi:i<3)(j:Nat)(a:j<3):mex (Hj5 m i) j=if j=i then mex m i-1 else mex m j:=by
 unfold mex Hj5;rcases(by omega:i=0\/i=1\/i=2) with rfl | rfl | rfl<;>rcases(by omega:j=0\/j=1\/j=2) with rfl | rfl | rfl<;>simp<;>omega
theorem Hg2 (hi:i<3)(d:t.1.ok){w:Nat->Rat}(h: ∀j,j<3->j≠i->inI (Ai3 (b j) (mex t.1 j)) (w j))(f:0<mex t.1 i->inI (Ai3 (b i) (mex t.1 i-1)) (w i)):inI (ovS b (Hc2 i t)) (wv (t.2*((mex t.1 i:Nat):Rat)) w 3):=by
 have he:An6 t.1 i=((mex t.1 i:Nat):Int):=by
  have:=He6 t.1 i;have n:=(Dg9 d i).1;omega
 unfold Hc2;rw[he]
 by_cases g:0<mex t.1 i
 ·rw[if_pos (by omega)]
  have:=Hd8 (Hs0 (b:=b) (m:=Hj5 t.1 i) (c:=t.2*(((mex t.1 i:Nat):Int):Rat)) (w:=w) (λ j a=>by
   rw[Hr0 hi j a];split
   ·rename_i e;subst e;exact f g
   ·rename_i e;exact h j a e) 3 (Nat.le_refl _)) (y:=(0,0)) (w:=0) ⟨Rat.le_refl,Rat.le_refl⟩
  rw[Rat.add_zero] at this;exact this
 ·rw[if_neg (by omega),show mex t.1 i=0 by omega]
  have:wv (t.2*((0:Nat):Rat)) w 3=0:=by
   simp only[wv];show t.2*0*w 0*w 1*w 2=0;grind
  rw[this];exact⟨Rat.le_refl,Rat.le_refl⟩
theorem Hs5 (u:Pt):ctm t u 3=t.2*u.x^mex t.1 0*u.y^mex t.1 1*u.z^mex t.1 2:=by
 simp only[ctm,<-He6];rfl
theorem Ho5 {u:Pt}{v:Pt}(hu:Ha3 b u)(a:Ha3 b v)(c:t.1.ok): ∃d h1 e:Rat,inI (ovS b (Hc2 0 t)) d/\inI (ovS b (Hc2 1 t)) h1/\inI (ovS b (Hc2 2 t)) e/\
  ctm t u 3=ctm t v 3+d*(u.x-v.x)+h1*(u.y-v.y)+e*(u.z-v.z):=by
 have B:inI (b 0) u.x:=hu 0 (by omega);have f:inI (b 1) u.y:=hu 1 (by omega);have g:inI (b 2) u.z:=hu 2 (by omega);have v0:inI (b 0) v.x:=a 0 (by omega);have v1:inI (b 1) v.y:=a 1 (by omega);have v2:inI (b 2) v.z:=a 2 (by omega);obtain⟨g0,a0,C⟩:=He7 B v0 (mex t.1 0);obtain⟨g1,D,E⟩:=He7 f v1 (mex t.1 1);obtain⟨g2,a2,F⟩:=He7 g v2 (mex t.1 2);have G:=Da5 f (mex t.1 1);have m:=Da5 g (mex t.1 2);have n:=Da5 v0 (mex t.1 0);have q1:=Da5 v1 (mex t.1 1);refine⟨_,_,_,Hg2 (i:=0) (w:=λ j=>if j=0 then g0 else if j=1 then u.y^mex t.1 1 else u.z^mex t.1 2) (by omega) c (λ j o A=>?_) (λ h=>a0 h),Hg2 (i:=1) (w:=λ j=>if j=0 then v.x^mex t.1 0 else if j=1 then g1 else u.z^mex t.1 2) (by omega) c (λ j o A=>?_) (λ h=>D h),
  Hg2 (i:=2) (w:=λ j=>if j=0 then v.x^mex t.1 0 else if j=1 then v.y^mex t.1 1 else g2) (by omega) c (λ j o A=>?_) (λ h=>a2 h),?_⟩
 ·rcases(by omega:j=1\/j=2) with rfl | rfl
  ·exact G
  ·exact m
 ·rcases(by omega:j=0\/j=2) with rfl | rfl
  ·exact n
  ·exact m
 ·rcases(by omega:j=0\/j=1) with rfl | rfl
  ·exact n
  ·exact q1
 ·rw[Hs5,Hs5]
  show _=_+t.2*((mex t.1 0:Nat):Rat)*g0*u.y^mex t.1 1*u.z^mex t.1 2*(u.x-v.x)+t.2*((mex t.1 1:Nat):Rat)*v.x^mex t.1 0*g1*u.z^mex t.1 2*(u.y-v.y)+t.2*((mex t.1 2:Nat):Rat)*v.x^mex t.1 0*v.y^mex t.1 1*g2*(u.z-v.z);rw[show t.2*((mex t.1 0:Nat):Rat)*g0*u.y^mex t.1 1*u.z^mex t.1 2*(u.x-v.x)=t.2*(((mex t.1 0:Nat):Rat)*g0*(u.x-v.x))*u.y^mex t.1 1*u.z^mex t.1 2 by grind,<-C,
   show t.2*((mex t.1 1:Nat):Rat)*v.x^mex t.1 0*g1*u.z^mex t.1 2*(u.y-v.y)=t.2*v.x^mex t.1 0*(((mex t.1 1:Nat):Rat)*g1*(u.y-v.y))*u.z^mex t.1 2 by grind,<-E,
   show t.2*((mex t.1 2:Nat):Rat)*v.x^mex t.1 0*v.y^mex t.1 1*g2*(u.z-v.z)=t.2*v.x^mex t.1 0*v.y^mex t.1 1*(((mex t.1 2:Nat):Rat)*g2*(u.z-v.z)) by grind,<-F]
  grind
def atS (u:Pt):List Tm->Rat
 | []=>0
 | t::p=>ctm t u 3+atS u p
theorem Hr9 (u:Pt)(p:List Tm):atQ u p=atS u p:=by
 have key: ∀(p:List Tm) (a:Rat),p.foldl (λ a t=>a+ctm t u 3) a=a+atS u p:=by
  intro p
  induction p with
  | nil=>intro a;exact(Rat.add_zero a).symm
  | cons t p ih=>intro a;rw[List.foldl_cons,ih,atS,Rat.add_assoc]
 rw[atQ,key,Rat.zero_add]
theorem Hc6 (t:Tm)(p:List Tm)(i:Nat):Hc1 (t::p) i=Hc2 i t ++ Hc1 p i:=rfl
theorem Hj6 {b:Nat->Iv}{u v:Pt}(hu:Ha3 b u)(d:Ha3 b v): ∀p:List Tm,POk p->∃a h1 c:Rat,inI (ovS b (Hc1 p 0)) a/\inI (ovS b (Hc1 p 1)) h1/\inI (ovS b (Hc1 p 2)) c/\
  atS u p=atS v p+a*(u.x-v.x)+h1*(u.y-v.y)+c*(u.z-v.z)
 | [],_=>⟨0,0,0,⟨Rat.le_refl,Rat.le_refl⟩,⟨Rat.le_refl,Rat.le_refl⟩,⟨Rat.le_refl,Rat.le_refl⟩,by show(0:Rat)=0+0*_+0*_+0*_;grind⟩
 | t::p,e=>by
  obtain⟨g0,g1,g2,k0,k1,k2,f⟩:=Ho5 hu d (e t (by simp));obtain⟨a,h1,c,j0,j1,j2,g⟩:=Hj6 hu d p λ x h=>e x (by simp[h]);refine⟨g0+a,g1+h1,g2+c,?_,?_,?_,?_⟩
  ·rw[Hc6,Hf9];exact Hd8 k0 j0
  ·rw[Hc6,Hf9];exact Hd8 k1 j1
  ·rw[Hc6,Hf9];exact Hd8 k2 j2
  ·rw[atS,atS,f,g]
   grind
theorem dec_lt {a b:Mon}(h : a.lt b)(i : Nat): (Hj5 a i).lt (Hj5 b i) := by
  unfold Mon.lt Mon.deg at *;unfold Hj5
  (repeat' split)<;>dsimp only<;>omega
theorem Hj9 {x:Tm}(h:x∈Hc1 p i): ∃s∈p,0<An6 s.1 i/\x=(Hj5 s.1 i,s.2*((An6 s.1 i:Int):Rat)):=by
 obtain⟨s,c,a⟩:=List.mem_flatMap.1 h;unfold Hc2 at a;split at a
 ·exact⟨s,c,by assumption,List.mem_singleton.1 a⟩
 ·cases a
theorem Hk1: ∀{p:List Tm} (_:p.Pairwise λ a b=>a.1.lt b.1) (i:Nat),(Hc1 p i).Pairwise λ a b=>a.1.lt b.1
 | [],_,_=>List.Pairwise.nil
 | t::p,h,i=>by
  obtain⟨h1,c⟩:=List.pairwise_cons.1 h;have ih:=Hk1 c i;rw[Hc6];unfold Hc2;split
  ·refine List.pairwise_cons.2 ⟨λ x d=>?_,ih⟩
   obtain⟨s,e,_,rfl⟩:=Hj9 d;exact dec_lt (h1 s e) i
  ·exact ih
theorem Hn6 (h:Av6 p)(i:Nat):Av6 (Hc1 p i):=⟨Hk1 h.srt i,λ x c=>by
 obtain⟨s,d,f,rfl⟩:=Hj9 c;have h1:=h.nz s d;have a:(0:Rat)<((An6 s.1 i:Int):Rat):=Rat.intCast_pos.2 f;show s.2*((An6 s.1 i:Int):Rat)≠0;rw[ne_eq,Rat.mul_eq_zero];rintro(e | e)
 ·exact h1 e
 ·rw[e] at a;exact absurd a (by decide)⟩
theorem Hp8 (h:Av6 p)(hi:i<3):Hc3 p (i:Int)=Hc1 p i:=by
 unfold Hc3;rw[if_pos ⟨by omega,by omega⟩,Int.toNat_natCast];exact(Ce8 _).uniq (Hn6 h i) λ m=>Bh2 _ m
def Hb9 (bs : List Iv) : Pt := ⟨Ga6 (Bm3 bs 0), Ga6 (Bm3 bs 1), Ga6 (Bm3 bs 2)⟩
theorem Hd5 (bs:List Iv)(hi:i<3):(Hb9 bs).get i=Ga6 (Bm3 bs i):=by
 rcases(by omega:i=0\/i=1\/i=2) with rfl | rfl | rfl<;>rfl
theorem Hr3 (h:x.1<=x.2):inI x (Ga6 x):=by
 unfold Ga6;have two:(0:Rat)<2:=by decide
 exact⟨Rat.not_lt.1 λ e=>by have:=(Rat.div_lt_iff two).1 e;grind,Rat.not_lt.1 λ e=>by have:=(Rat.lt_div_iff two).1 e;grind⟩
theorem Hq3 {bs:List Iv}(h: ∀x∈bs,x.1<=x.2):Ha3 (Bm3 bs) (Hb9 bs):=λ i hi=>by
 rw[Hd5 bs hi];exact Hr3 (Ey5 h i)
end Go.Proofs.YtkgeopnakkcdoaaGreatDoor
namespace Go.Proofs.YtkgeopnakkcdoaaGreatDoor
open Go Go.SX
variable {K:Value->PW->Prop}{M:Nat->Prop}{W W0:PW}{b b':Bool}{k:Nat}{l2:List Value}{p q r:Rat}{s s' t t':Sl}{x y:Iv}
theorem De5 (h1:Ab3 257 W0 s b t p)(a:Ab3 257 W0 s' b' t' q)(f:Sz k p)(g:Sz k q)(hk:k<=34359738368):
  Aa0 Tryz.prog 204 [.agg ⟨[s.v,.bool b,t.v]⟩,.agg ⟨[s'.v,.bool b',t'.v]⟩] W0 M λ v W'=>∃(r:Sl),∃(c:Bool),∃(u:Sl),v = .agg ⟨[Sl.v r,.bool c,Sl.v u]⟩/\Ab3 257 W' r c u (Az9 p q):=by
 apply Cg1;refine Aj2 a h1 g f hk hk λ n d _=>⟨_,rfl,λ h o j=>⟨s',b',t',rfl,?_⟩,λ h w m=>⟨s,b,t,rfl,?_⟩⟩
 ·rw[Az9,if_pos (At6.1 h)];exact a.ext (d.trans j)
 ·rw[Az9,if_neg (λ e=>h (At6.2 e))];exact h1.ext (d.trans m)
theorem Be3 (h1:Ab3 257 W s b t p)(d:Ab3 257 W s' b' t' q)(e:Sz k p)(f:Sz k q)(hk:k<=34359738368)(g: ∀(r:Sl) (c:Bool) (u:Sl) (W':PW),Ext W W'->(Ab3 257 W' r c u (Az9 p q))->K (.agg ⟨[Sl.v r,.bool c,Sl.v u]⟩) W'):
  Aa1 Tryz.prog W0 M 204 [.agg ⟨[s.v,.bool b,t.v]⟩,.agg ⟨[s'.v,.bool b',t'.v]⟩] W K:=
 Mi4 (λ _ a=>De5 (h1.ext a) (d.ext a) e f hk) fun | _,W',a,⟨r,c,u,rfl,h⟩=>g r c u W' a h
theorem Dl7 (h1:Ab3 257 W0 s b t p)(a:Ab3 257 W0 s' b' t' q)(f:Sz k p)(g:Sz k q)(hk:k<=34359738368):
  Aa0 Tryz.prog 205 [.agg ⟨[s.v,.bool b,t.v]⟩,.agg ⟨[s'.v,.bool b',t'.v]⟩] W0 M λ v W'=>∃(r:Sl),∃(c:Bool),∃(u:Sl),v = .agg ⟨[Sl.v r,.bool c,Sl.v u]⟩/\Ab3 257 W' r c u (Au7 p q):=by
 apply Ck9;refine Aj2 a h1 g f hk hk λ n d _=>⟨_,rfl,λ h o j=>⟨s',b',t',rfl,?_⟩,λ h w m=>⟨s,b,t,rfl,?_⟩⟩
 ·rw[Au7,if_pos (Al3.1 h)];exact a.ext (d.trans j)
 ·rw[Au7,if_neg (λ e=>h (Al3.2 e))];exact h1.ext (d.trans m)
theorem Bd3 (h1:Ab3 257 W s b t p)(d:Ab3 257 W s' b' t' q)(e:Sz k p)(f:Sz k q)(hk:k<=34359738368)(g: ∀(r:Sl) (c:Bool) (u:Sl) (W':PW),Ext W W'->(Ab3 257 W' r c u (Au7 p q))->K (.agg ⟨[Sl.v r,.bool c,Sl.v u]⟩) W'):
  Aa1 Tryz.prog W0 M 205 [.agg ⟨[s.v,.bool b,t.v]⟩,.agg ⟨[s'.v,.bool b',t'.v]⟩] W K:=
 Mi4 (λ _ a=>Dl7 (h1.ext a) (d.ext a) e f hk) fun | _,W',a,⟨r,c,u,rfl,h⟩=>g r c u W' a h
theorem Cl8 (h1:Ab3 257 W0 s b t p)(a:Ab3 257 W0 s' b' t' q)(c:Sz k p)(d:Sz k q)(hk:k<=34359738368):
  Aa0 Tryz.prog 144 [.agg ⟨[s.v,.bool b,t.v]⟩,.agg ⟨[s'.v,.bool b',t'.v]⟩] W0 M λ v W'=>∃(l:List Value),v = .agg ⟨l⟩/\SpV 257 W' l (Ag0 p q):=by
 apply Bv4;exact Be3 h1 a c d hk λ s3 g h w e g1=>⟨s3,g,h,rfl,Bd3 (h1.ext e) (a.ext e) c d hk λ j m n A o g2=>⟨j,m,n,rfl,λ B f=>⟨_,rfl,SpV.mk (x:=Ag0 p q) (g1.ext (o.trans f)) (g2.ext f)⟩⟩⟩
theorem Ap8 (h1:Ab3 257 W s b t p)(c:Ab3 257 W s' b' t' q)(d:Sz k p)(e:Sz k q)(hk:k<=34359738368)(f: ∀(l:List Value) (W':PW),Ext W W'->(SpV 257 W' l (Ag0 p q))->K (.agg ⟨l⟩) W'):
  Aa1 Tryz.prog W0 M 144 [.agg ⟨[s.v,.bool b,t.v]⟩,.agg ⟨[s'.v,.bool b',t'.v]⟩] W K:=
 Mi4 (λ _ a=>Cl8 (h1.ext a) (c.ext a) d e hk) fun | _,W',a,⟨l,rfl,h⟩=>f l W' a h
theorem Dh8 {l1:List Value}(h1:SpV 257 W0 l1 x)(a:SpV 257 W0 l2 y)(c:IvS k x)(d:IvS k y)(hk:k<=34359738368):
  Aa0 Tryz.prog 143 [.agg ⟨l1⟩,.agg ⟨l2⟩] W0 M λ v W'=>∃(l:List Value),v = .agg ⟨l⟩/\SpV 257 W' l (Bu9 x y):=by
 obtain⟨s0,b0,t0,s1,b1,t1,rfl,h1,g⟩:=h1;obtain⟨s2,b2,t2,s3,B,t3,rfl,a,h⟩:=a;apply Ck6;exact Be3 h1 a c.1 d.1 hk λ s3 j m C e g1=>⟨s3,j,m,rfl,Bd3 (g.ext e) (h.ext e) c.2 d.2 hk λ n o w D A g2=>⟨n,o,w,rfl,λ E f=>⟨_,rfl,SpV.mk (x:=Bu9 x y) (g1.ext (A.trans f)) (g2.ext f)⟩⟩⟩
theorem Cn9 {l1:List Value}(h1:SpV 257 W l1 x)(c:SpV 257 W l2 y)(d:IvS k x)(e:IvS k y)(hk:k<=34359738368)(f: ∀(l:List Value) (W':PW),Ext W W'->(SpV 257 W' l (Bu9 x y))->K (.agg ⟨l⟩) W'):
  Aa1 Tryz.prog W0 M 143 [.agg ⟨l1⟩,.agg ⟨l2⟩] W K:=
 Mi4 (λ _ a=>Dh8 (h1.ext a) (c.ext a) d e hk) fun | _,W',a,⟨l,rfl,h⟩=>f l W' a h
theorem Dx1 {l1:List Value}(h1:SpV 257 W0 l1 x)(a:SpV 257 W0 l2 y)(c:IvS k x)(d:IvS k y)(hk:k<=8589934592):
  Aa0 Tryz.prog 63 [.agg ⟨l1⟩,.agg ⟨l2⟩] W0 M λ v W'=>∃(l:List Value),v = .agg ⟨l⟩/\SpV 257 W' l (Cb5 x y):=by
 obtain⟨s0,b0,t0,s1,b1,t1,rfl,h1,g⟩:=h1;obtain⟨s2,b2,t2,s3,B,t3,rfl,a,h⟩:=a;apply Cs4;exact At2 h1 a c.1 d.1 hk hk λ s3 j m C e g1=>⟨s3,j,m,rfl,At2 (g.ext e) (h.ext e) c.2 d.2 hk hk λ n o w D A g2=>⟨n,o,w,rfl,λ E f=>⟨_,rfl,SpV.mk (x:=Cb5 x y) (g1.ext (A.trans f)) (g2.ext f)⟩⟩⟩
theorem Cy0 {l1:List Value}(h1:SpV 257 W l1 x)(c:SpV 257 W l2 y)(d:IvS k x)(e:IvS k y)(hk:k<=8589934592)(f: ∀(l:List Value) (W':PW),Ext W W'->(SpV 257 W' l (Cb5 x y))->K (.agg ⟨l⟩) W'):
  Aa1 Tryz.prog W0 M 63 [.agg ⟨l1⟩,.agg ⟨l2⟩] W K:=
 Mi4 (λ _ a=>Dx1 (h1.ext a) (c.ext a) d e hk) fun | _,W',a,⟨l,rfl,h⟩=>f l W' a h
theorem Dy9 {l1:List Value}(h1:SpV 257 W0 l1 x)(f:SpV 257 W0 l2 y)(c:IvS k x)(d:IvS k y)(hk:k<=8589934592):
  Aa0 Tryz.prog 64 [.agg ⟨l1⟩,.agg ⟨l2⟩] W0 M λ v W'=>∃(l:List Value),v = .agg ⟨l⟩/\SpV 257 W' l (Ay9 x y):=by
 obtain⟨s0,b0,t0,s1,b1,t1,rfl,h1,E⟩:=h1;obtain⟨s2,b2,t2,s3,P,t3,rfl,f,F⟩:=f;apply Cy7;have G:=c.1.mul d.1;have z2:=c.2.mul d.2;have z3:=c.1.mul d.2;have z4:=c.2.mul d.1;have H: ∀{a b:Rat},Sz (k+k) a->Sz (k+k) b->IvS (k+k) (Ag0 a b):=λ Q R=>⟨by rcases Dj0 _ _ with e | e<;>rw[Ag0,e]<;>assumption,by rcases Dj7 _ _ with e | e<;>rw[Ag0,e]<;>assumption⟩;refine Ak9 h1 f c.1 d.1 hk hk λ s3 h j S m g1=>⟨s3,h,j,rfl,Ak9 (E.ext m) (F.ext m) c.2 d.2 hk hk λ n o w T I g2=>⟨n,o,w,rfl,Ap8 (g1.ext I) g2 G z2 (by omega) λ l U L A=>A.out λ V X Y Z aa ab A=>?_⟩⟩;have g:=(m.trans I).trans L;refine Ak9 (h1.ext g) (F.ext g) c.1 d.2 hk hk λ s3 h j ac B g1=>⟨s3,h,j,rfl,Ak9 (E.ext (g.trans B)) (f.ext (g.trans B)) c.2 d.1 hk hk λ n o w ad J g2=>⟨n,o,w,rfl,Ap8 (g1.ext J) g2 z3 z4 (by omega) λ l ae N C=>C.out λ af ag ah ai aj ak C=>?_⟩⟩;exact Cn9 (A.ext ((B.trans J).trans N)) C (H G z2) (H z3 z4) (by omega) λ l al am D=>D.out λ an ao ap aq ar au D av O=>⟨_,rfl,D.ext O⟩
theorem Cx4 {l1:List Value}(h1:SpV 257 W l1 x)(c:SpV 257 W l2 y)(d:IvS k x)(e:IvS k y)(hk:k<=8589934592)(f: ∀(l:List Value) (W':PW),Ext W W'->(SpV 257 W' l (Ay9 x y))->K (.agg ⟨l⟩) W'):
  Aa1 Tryz.prog W0 M 64 [.agg ⟨l1⟩,.agg ⟨l2⟩] W K:=
 Mi4 (λ _ a=>Dy9 (h1.ext a) (c.ext a) d e hk) fun | _,W',a,⟨l,rfl,h⟩=>f l W' a h
theorem Hv0 {l1:List Value}(h1:SpV 257 W0 l1 x)(e:Ab3 257 W0 s b t r)(a:IvS k x)(c:Sz k r)(hk:k<=8589934592):
  Aa0 Tryz.prog 145 [.agg ⟨l1⟩,.agg ⟨[s.v,.bool b,t.v]⟩] W0 M λ v W'=>∃(l:List Value),v = .agg ⟨l⟩/\SpV 257 W' l (De8 x r):=by
 obtain⟨s0,b0,t0,s1,b1,t1,rfl,h1,g⟩:=h1;apply Hu3;exact Ak9 h1 e a.1 c hk hk λ s3 h j B f g1=>⟨s3,h,j,rfl,Ak9 (g.ext f) (e.ext f) a.2 c hk hk λ m n o C w g2=>⟨m,n,o,rfl,Ap8 (g1.ext w) g2 (a.1.mul c) (a.2.mul c) (by omega) λ l D E d=>d.out λ F G H I J L d N A=>⟨_,rfl,d.ext A⟩⟩⟩
theorem Hu2 {l1:List Value}(h1:SpV 257 W l1 x)(c:Ab3 257 W s b t r)(d:IvS k x)(e:Sz k r)(hk:k<=8589934592)(f: ∀(l:List Value) (W':PW),Ext W W'->(SpV 257 W' l (De8 x r))->K (.agg ⟨l⟩) W'):
  Aa1 Tryz.prog W0 M 145 [.agg ⟨l1⟩,.agg ⟨[s.v,.bool b,t.v]⟩] W K:=
 Mi4 (λ _ a=>Hv0 (h1.ext a) (c.ext a) d e hk) fun | _,W',a,⟨l,rfl,h⟩=>f l W' a h
theorem Ep4 (h:Ab3 257 W0 s b t r):
  Aa0 Tryz.prog 62 [.agg ⟨[s.v,.bool b,t.v]⟩] W0 M λ v W'=>∃(l:List Value),v = .agg ⟨l⟩/\SpV 257 W' l (Eb6 r):=by
 apply Dk8;exact λ c a=>⟨_,rfl,SpV.mk (x:=Eb6 r) (h.ext a) (h.ext a)⟩
theorem De4 (h:Ab3 257 W s b t r)(c: ∀(l:List Value) (W':PW),Ext W W'->(SpV 257 W' l (Eb6 r))->K (.agg ⟨l⟩) W'):
  Aa1 Tryz.prog W0 M 62 [.agg ⟨[s.v,.bool b,t.v]⟩] W K:=
 Mi4 (λ _ a=>Ep4 (h.ext a)) fun | _,W',a,⟨l,rfl,h⟩=>c l W' a h
theorem Dt0 {l1:List Value}(h1:SpV 257 W0 l1 x)(a:Ab3 257 W0 s b t r)(c:IvS k x)(d:Sz k r)(hk:k<=8589934592):
  Aa0 Tryz.prog 222 [.agg ⟨l1⟩,.agg ⟨[s.v,.bool b,t.v]⟩] W0 M λ v W'=>v = .bool (decide (x.1<=r/\r<=x.2))/\True:=by
 obtain⟨s0,b0,t0,s1,b1,t1,rfl,h1,g⟩:=h1;apply Cu8;refine Aj2 h1 a c.1 d (by omega) (by omega) λ j f _=>⟨_,rfl,λ h=>Aj2 (a.ext f) (g.ext f) d c.2 (by omega) (by omega) λ m n _=>⟨_,rfl,λ o w=>⟨?_,trivial⟩⟩,λ h A B=>⟨?_,trivial⟩⟩
 ·have h:=Dn3.1 h
  congr 1;rw[decide_eq_decide,Dn3];exact⟨λ e=>⟨h,e⟩,λ e=>e.2⟩
 ·rw[decide_eq_false λ e=>h (Dn3.2 e.1)]
theorem Cs8 {l1:List Value}(h1:SpV 257 W l1 x)(c:Ab3 257 W s b t r)(d:IvS k x)(e:Sz k r)(hk:k<=8589934592)(f: ∀(W':PW),Ext W W'->(True)->K (.bool (decide (x.1<=r/\r<=x.2))) W'):
  Aa1 Tryz.prog W0 M 222 [.agg ⟨l1⟩,.agg ⟨[s.v,.bool b,t.v]⟩] W K:=
 Mi4 (λ _ a=>Dt0 (h1.ext a) (c.ext a) d e hk) fun | _,W',a,⟨rfl,h⟩=>f W' a h
theorem Du0 {l1:List Value}{n:Nat}(h1:SpV 257 W0 l1 x)(d:IvS k x)(hk:k<=1048576)(g:n<=255):
  Aa0 Tryz.prog 167 [.agg ⟨l1⟩,.int .i64 (n:Int)] W0 M λ v W'=>∃(l:List Value),v = .agg ⟨l⟩/\SpV 257 W' l (Ai3 x n):=by
 obtain⟨s0,b0,t0,s1,b1,t1,rfl,h1,m⟩:=h1;apply Cz8;have hm:=Nat.mul_le_mul hk g;have C:mn (mx (n:Int) 0) 255=(n:Int):=by unfold mn mx;(repeat' split)<;>omega
 rw[C];refine Bq4 h1 d.1 hk g λ s3 D E U o g1=>⟨s3,D,E,rfl,Bq4 (m.ext o) d.2 hk g λ F G H V w g2=>⟨F,G,H,rfl,Ap8 (g1.ext w) g2 (Sz.Fe7 d.1 n) (Sz.Fe7 d.2 n) (by omega) λ l I J f=>f.out λ X Y Z aa ab ac f=>⟨λ ad=>⟨by omega,λ ae=>?_,λ L af N=>⟨_,rfl,?_⟩⟩,λ O ag P=>⟨_,rfl,?_⟩⟩⟩⟩
 ·have Q:n%2=0:=by have:=Int.tmod_eq_emod_of_nonneg (a:=(n:Int)) (b:=2) (by omega);omega
  have A:=(o.trans w).trans J;refine Cs8 (s:=⟨none,0,0⟩) (b:=false) (t:=⟨none,0,0⟩) (k:=k+1) (SpV.mk (h1.ext A) (m.ext A)) (Ar9 I) ⟨d.1.mono (by omega),d.2.mono (by omega)⟩ (Sz.zero (by omega)) (by omega) λ ah B _=>⟨_,rfl,λ c ai R=>⟨_,rfl,?_⟩,λ c aj S=>⟨_,rfl,?_⟩⟩
  ·have c:=of_decide_eq_true c
   rw[Ai3,if_pos ⟨by omega,Q,c⟩];obtain⟨_,_,_,_,_,_,e,k1,k2⟩:=f.ext (B.trans R);simp only[List.cons.injEq,Value.bool.injEq,and_true] at e;obtain⟨e1,e2,e3,h,T,j⟩:=e;have h:=Sl.Ck0 h;have j:=Sl.Ck0 j;subst h T j;exact⟨⟨none,0,0⟩,false,⟨none,0,0⟩,_,_,_,rfl,Ar9 _,k2⟩
  ·have c:=of_decide_eq_false c
   rw[Ai3,if_neg λ e=>c e.2.2];exact f.ext (B.trans S)
 ·rw[Ai3,if_neg]
  ·exact f.ext N
  ·intro e
   apply L;have:=Int.tmod_eq_emod_of_nonneg (a:=(n:Int)) (b:=2) (by omega);have:=e.2.1;omega
 ·rw[Ai3,if_neg λ e=>O (by have:=e.1;omega)]
  exact f.ext P
theorem Co8 {l1:List Value}{n:Nat}(h1:SpV 257 W l1 x)(c:IvS k x)(hk:k<=1048576)(d:n<=255)(e: ∀(l:List Value) (W':PW),Ext W W'->(SpV 257 W' l (Ai3 x n))->K (.agg ⟨l⟩) W'):
  Aa1 Tryz.prog W0 M 167 [.agg ⟨l1⟩,.int .i64 (n:Int)] W K:=
 Mi4 (λ _ a=>Du0 (h1.ext a) c hk d) fun | _,W',a,⟨l,rfl,h⟩=>e l W' a h
theorem Go7 {l1:List Value}(h1:SpV 257 W0 l1 x)(a:IvS k x)(hk:k<=8589934592):
  Aa0 Tryz.prog 83 [.agg ⟨l1⟩] W0 M λ v W'=>∃(r:Sl),∃(c:Bool),∃(u:Sl),v = .agg ⟨[Sl.v r,.bool c,Sl.v u]⟩/\Ab3 257 W' r c u (x.2-x.1):=by
 obtain⟨s0,b0,t0,s1,b1,t1,rfl,h1,d⟩:=h1;apply Gk0;exact Gr0 d h1 a.2 a.1 hk hk λ s3 e f j m g=>⟨s3,e,f,rfl,λ n h=>⟨_,_,_,rfl,g.ext h⟩⟩
theorem Gj9 {l1:List Value}(h1:SpV 257 W l1 x)(d:IvS k x)(hk:k<=8589934592)(e: ∀(r:Sl) (c:Bool) (u:Sl) (W':PW),Ext W W'->(Ab3 257 W' r c u (x.2-x.1))->K (.agg ⟨[Sl.v r,.bool c,Sl.v u]⟩) W'):
  Aa1 Tryz.prog W0 M 83 [.agg ⟨l1⟩] W K:=
 Mi4 (λ _ a=>Go7 (h1.ext a) d hk) fun | _,W',a,⟨r,c,u,rfl,h⟩=>e r c u W' a h
theorem Dt4 (h1:Ab3 257 W0 s b t p)(c:Ab3 257 W0 s' b' t' q)(g:Sz k p)(j:Sz k q)(hk:k<=34359738368):
  Aa0 Tryz.prog 232 [.agg ⟨[s.v,.bool b,t.v]⟩,.agg ⟨[s'.v,.bool b',t'.v]⟩] W0 M λ v W'=>∃(l:List Value),v = .tuple ⟨[.agg ⟨l⟩,.bool (decide (p<=q))]⟩/\SpV 257 W' l (if p<=q then(p,q) else(0,0)):=by
 apply Ct1;refine Aj2 h1 c g j hk hk λ n d _=>⟨_,rfl,λ h m o=>?_,λ h w f=>?_⟩
 ·have h:=Al3.1 h
  have a:¬p<=q:=Rat.not_le.2 h;rw[if_neg a,decide_eq_false a];exact⟨_,rfl,SpV.zero m⟩
 ·have a:p<=q:=Rat.not_lt.1 λ e=>h (Al3.2 e)
  rw[if_pos a,decide_eq_true a];exact⟨_,rfl,SpV.mk (x:=(p,q)) (h1.ext (d.trans f)) (c.ext (d.trans f))⟩
theorem Cq7 (h1:Ab3 257 W s b t p)(c:Ab3 257 W s' b' t' q)(d:Sz k p)(e:Sz k q)(hk:k<=34359738368)(f: ∀(l:List Value) (W':PW),Ext W W'->(SpV 257 W' l (if p<=q then(p,q) else(0,0)))->K (.tuple ⟨[.agg ⟨l⟩,.bool (decide (p<=q))]⟩) W'):
  Aa1 Tryz.prog W0 M 232 [.agg ⟨[s.v,.bool b,t.v]⟩,.agg ⟨[s'.v,.bool b',t'.v]⟩] W K:=
 Mi4 (λ _ a=>Dt4 (h1.ext a) (c.ext a) d e hk) fun | _,W',a,⟨l,rfl,h⟩=>f l W' a h
end Go.Proofs.YtkgeopnakkcdoaaGreatDoor
