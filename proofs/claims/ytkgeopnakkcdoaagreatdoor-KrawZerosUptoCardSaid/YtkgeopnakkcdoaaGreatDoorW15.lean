/- Proved here: KrawZerosUptoCardSaid, the given statement of this seat, whole, with no hypothesis ahead of it; its own condition is the bound on the arguments' bulk that it states itself. -/
import Derived.Test.YtkgeopnakkcdoaaGreatDoorW14
import Derived.Test.YtkgeopnakkcdoaaGreatDoorW12
import Derived.Test.YtkgeopnakkcdoaaGreatDoorR11
import Derived.Test.YtkgeopnakkcdoaaGreatDoorLib4
import Derived.Test.YtkgeopnakkcdoaaGreatDoorW13
import Derived.Test.YtkgeopnakkcdoaaGreatDoorCards
import Derived.Test.YtkgeopnakkcdoaaGreatDoorTie
import Derived.Deep.DeepHandedRow
import Derived.Lib.LaidTab
set_option linter.unusedVariables false
set_option linter.unusedSimpArgs false
set_option maxRecDepth 100000
namespace Go.Proofs.YtkgeopnakkcdoaaGreatDoor
open Go Go.SX
variable {M:Nat->Prop}{W0:PW}{hi lo:Int}
def Jg0 (n lo hi:Int):Int:=if Int.tmod n (hi-lo+1)<0 then lo+(Int.tmod n (hi-lo+1)+(hi-lo+1)) else lo+Int.tmod n (hi-lo+1)
theorem Jg2 {n:Int}(h1:lo<=hi):lo<=Jg0 n lo hi/\Jg0 n lo hi<=hi:=by
 have a:(Int.tmod n (hi-lo+1)).natAbs<(hi-lo+1).natAbs:=by
  rw[Int.natAbs_tmod];exact Nat.mod_lt _ (by omega)
 unfold Jg0;split<;>omega
theorem Jh6 {n:Int}(a: -1000000<=lo)(h1:lo<=hi)(b:hi<=1000000):
  Aa0 Tryz.prog 27 [.int .i64 n,.int .i64 lo,.int .i64 hi] W0 M λ v W'=>v = .int .i64 (Jg0 n lo hi)/\True:=by
 apply Fy2;have c:(Int.tmod n (hi-lo+1)).natAbs<(hi-lo+1).natAbs:=by
  rw[Int.natAbs_tmod];exact Nat.mod_lt _ (by omega)
 exact⟨by unfold I64;omega,by unfold I64;omega,by omega,λ h=>⟨by unfold I64;omega,by unfold I64;omega,by unfold I64;omega,by unfold I64;omega,λ d _=>⟨by unfold Jg0;rw[if_pos h],trivial⟩⟩,λ h=>⟨by unfold I64;omega,λ e _=>⟨by unfold Jg0;rw[if_neg h],trivial⟩⟩⟩
theorem Jg1 {W:PW}{K:Value->PW->Prop}{n:Int}(b: -1000000<=lo)(h1:lo<=hi)(c:hi<=1000000)(d: ∀(W':PW),Ext W W'->(True)->K (.int .i64 (Jg0 n lo hi)) W'):
  Aa1 Tryz.prog W0 M 27 [.int .i64 n,.int .i64 lo,.int .i64 hi] W K:=
 Mi4 (λ _ a=>Jh6 b h1 c) fun | _,W',a,⟨rfl,h⟩=>d W' a h
def Jj8 (j0 j1 j2:Int) (i:Nat):Int:=if i=0 then j0 else if i=1 then j1 else j2
theorem Jk4 {j:Nat}(j0 j1 j2:Int)(a:j<3):As9 [.int .i64 j0,.int .i64 j1,.int .i64 j2] (0+Int.toNat (j:Int)*1+0) [.int .i64 (Jj8 j0 j1 j2 j)]:=by
 rcases(by omega:j=0\/j=1\/j=2) with rfl | rfl | rfl<;>exact⟨by simp,rfl⟩
def Jr5 (W0:PW) (j0 j1 j2:Int) (K:Nat) (bs:List Iv) (L:List PL) (W:PW):Prop:=match L with
 | [.row l,.val (.int .i64 i),.cells c]=>∃(j:Nat) (u:List Rat),i=(j:Int)/\j<=bs.length/\Ext W0 W/\u.length=j/\An5 (QtV 257 W) l u/\(∀q∈u,Sz K q)/\NmV 257 W c (λ k=>u.getD k 0)/\∀k,k<j->u.getD k 0=Jq7 (Bm3 bs k) (Jg0 (Jj8 j0 j1 j2 k) 0 8)
 | _=>False
end Go.Proofs.YtkgeopnakkcdoaaGreatDoor
namespace Go.Proofs.YtkgeopnakkcdoaaGreatDoor
open Go Go.SX
variable {M:Nat->Prop}{W0:PW}{bs:List Iv}{j0 j1 j2:Int}{k:Nat}
theorem Mx4 {sb:Sl}(N:Bc3 257 W0 sb bs)(ho: ∀x∈bs,x.1<=x.2)(hk: ∀x∈bs,IvS k x)(a3:k<=100000)(hl:bs.length<=3):
  Aa0 Tryz.prog 24 [sb.v,.agg ⟨[.int .i64 j0,.int .i64 j1,.int .i64 j2]⟩] W0 M λ v W'=>∃(s1:Sl),∃(s:Sl),∃(b:Bool),∃(t:Sl),∃(s':Sl),∃(b':Bool),∃(O:Sl),∃(P:Sl),∃(R:Bool),∃(S:Sl),∃(u:Pt),v = .tuple ⟨[Sl.v s1,.agg ⟨[Sl.v s,.bool b,Sl.v t,Sl.v s',.bool b',Sl.v O,Sl.v P,.bool R,Sl.v S]⟩]⟩/\Ab3 257 W' s b t u.x/\Ab3 257 W' s' b' O u.y/\Ab3 257 W' P R S u.z/\(∀i,i<bs.length->u.get i=Jq7 (Bm3 bs i) (Jg0 (Jj8 j0 j1 j2 i) 0 8))/\(∀i,Sz (3*k+4) (u.get i))/\(∀i,bs.length<=i->i<3->u.get i=0):=by
 apply Gj5;have hn:=N.n;refine⟨Jr5 W0 j0 j1 j2 (3*k+4) bs,cnE bs.length,⟨0,[],rfl,Nat.zero_le _,Ext.refl _,rfl,trivial,λ q a=>(by cases a),NmV.mk (s0:=⟨none,0,0⟩) (t0:=⟨none,0,0⟩) (s1:=⟨none,0,0⟩) (t1:=⟨none,0,0⟩) (s2:=⟨none,0,0⟩) (t2:=⟨none,0,0⟩) (Ar9 W0) (Ar9 W0) (Ar9 W0),λ k hk=>by omega⟩,?_⟩;rintro s3 b4 s5 s6 b7 s8 s9 ap aq l12 i13 a6 ⟨j,u,rfl,hj,T,hu,U,V,hN,X⟩;obtain⟨n0,p,r⟩:=hN.three;have a8:=U.len;have Y:=N.ext T;refine⟨λ a9=>⟨λ Z=>?_,λ Z=>by omega⟩,λ ba au bb B _ _ bc C=>?_⟩
 ·have D:j<bs.length:=by omega
  have av:=List.getElem_mem D;have aw:=Jk4 j0 j1 j2 (j:=j) (by omega);refine⟨⟨by omega,by omega⟩,_,aw,?_⟩;have hi:=Jg2 (n:=Jj8 j0 j1 j2 j) (lo:=0) (hi:=8) (by omega);refine Jg1 (by omega) (by omega) (by omega) λ bd ax _=>⟨_,rfl,?_⟩;generalize ay:Jg0 (Jj8 j0 j1 j2 j) 0 8=i18 at *;refine Ay8 (z:=i18) (by unfold I64;omega) λ az aA aB be aC aD=>⟨az,aA,aB,rfl,?_⟩;refine Ay8 (z:=8) (by unfold I64;omega) λ aE aF aG bf aa aH=>⟨aE,aF,aG,rfl,?_⟩;have z3:Sz 1 ((i18:Int):Rat):=Gs8 hi.1 (by omega);have z8:Sz 1 (((8:Int):Int):Rat):=Gs8 (by omega) (by omega);refine Gb1 (aD.ext aa) aH z3 z8 (by omega) (by omega) (by omega) λ aI aJ aK bg aL aM=>⟨aI,aJ,aK,_,rfl,?_⟩;have E:=z3.div z8 (Nat.le_refl 1);have F:=ax.trans (aC.trans (aa.trans aL));obtain⟨x,⟨ac,ad,ae,aN,aO,aP,rfl,q1,q2⟩,af⟩:=(Y.ext F).at D;have ag:SX.inB sb (j:Int):=(Y.ext F).inB (by omega) (by omega);have w:=hk _ av;refine⟨ag,ac,ad,ae,af 0 rfl,ag,ac,ad,ae,aN,aO,aP,af 0 rfl,?_⟩;refine Gj9 (SpV.mk q1 q2) w (by omega) λ aR aS aT bh A aU=>⟨aR,aS,aT,rfl,A,?_⟩;have G:=w.2.sub w.1;refine Ak9 aU (aM.ext A) G E (by omega) (by omega) λ aV aW aX bi I aY=>⟨aV,aW,aX,rfl,I,?_⟩;refine At2 (q1.ext (A.trans I)) aY w.1 (G.mul E) (by omega) (by omega) λ d g m ah aZ o=>⟨d,g,m,rfl,⟨by omega,by omega⟩,by omega,?_⟩;have J:=(w.1.add (G.mul E)).mono (show _<=3*k+4 by omega);rw[<-Fi1 D] at o J;obtain⟨Q,hQ⟩: ∃Q,Q=(Bm3 bs j).1+((Bm3 bs j).2-(Bm3 bs j).1)*((i18:Rat)/((8:Int):Rat)):=⟨_,rfl⟩;rw[<-hQ] at o J;have a0:Q=Jq7 (Bm3 bs j) (Jg0 (Jj8 j0 j1 j2 j) 0 8):=by rw[ay,hQ];rfl
  have y:=F.trans (A.trans (I.trans aZ));have n0:=n0.ext y;have p:=p.ext y;have r:=r.ext y;have K:bs.length-Int.toNat ((j:Int)+1)<bs.length-Int.toNat (j:Int):=by omega
  have fin: ∀{c:List Value},NmV 257 ah c (λ k=>(u ++ [Q]).getD k 0)->Jr5 W0 j0 j1 j2 (3*k+4) bs [.row (l12 ++ [[d.v,.bool g,m.v]]),.val (.int .i64 ((j:Int)+1)),.cells c] ah:=fun {c} hc=>by
   refine⟨j+1,u ++ [Q],by push_cast;rfl,by omega,T.trans y,by simp[hu],(U.mono λ _ _ h=>h.ext y).append ⟨⟨d,g,m,rfl,o⟩,trivial⟩,λ q a=>?_,hc,λ k hk=>?_⟩
   ·rcases List.mem_append.1 a with a | a
    ·exact V q a
    ·rw[List.mem_singleton.1 a];exact J
   ·rw[Gp7]
    split
    ·rename_i e;rw[hu] at e;subst e;exact a0
    ·exact X k (by omega)
  have gs:=λ k=>@Gp7 u Q k;rw[hu] at gs;have hlen:(l12.length+([[d.v,.bool g,m.v]]:List (List Value)).length)*56<=140737488355328:=by simp only[List.length_cons,List.length_nil];omega
  refine⟨⟨⟨trivial,λ e=>?_⟩,λ e=>?_⟩,λ e=>?_⟩
  ·have:j=0:=by omega
   subst this;exact⟨⟨by omega,by omega⟩,d,g,m,⟨by simp,rfl⟩,hlen,by unfold I64;omega,fin (NmV.mk (by rw[gs,if_pos rfl];exact o) (by rw[gs,if_neg (by omega)];exact p) (by rw[gs,if_neg (by omega)];exact r)),K⟩
  ·have:j=1:=by omega
   subst this;exact⟨⟨by omega,by omega⟩,d,g,m,⟨by simp,rfl⟩,hlen,by unfold I64;omega,fin (NmV.mk (by rw[gs,if_neg (by omega)];exact n0) (by rw[gs,if_pos rfl];exact o) (by rw[gs,if_neg (by omega)];exact r)),K⟩
  ·have:j=2:=by omega
   subst this;exact⟨⟨by omega,by omega⟩,d,g,m,⟨by simp,rfl⟩,hlen,by unfold I64;omega,fin (NmV.mk (by rw[gs,if_neg (by omega)];exact n0) (by rw[gs,if_neg (by omega)];exact p) (by rw[gs,if_pos rfl];exact o)),K⟩
 ·have bj:j=bs.length:=by omega
  refine⟨au,s3,b4,s5,s6,b7,s8,s9,ap,aq,⟨u.getD 0 0,u.getD 1 0,u.getD 2 0⟩,rfl,n0.ext (B.trans C),p.ext (B.trans C),r.ext (B.trans C),λ i hi=>?_,λ i=>?_,λ i hi Z=>?_⟩
  ·have e:(Pt.mk (u.getD 0 0) (u.getD 1 0) (u.getD 2 0)).get i=u.getD i 0:=by rcases(by omega:i=0\/i=1\/i=2) with rfl | rfl | rfl<;>rfl
   rw[e];exact X i (by omega)
  ·have L: ∀i,Sz (3*k+4) (u.getD i 0):=λ i=>by
    rw[List.getD_eq_getElem?_getD]
    cases e:u[i]? with
    | none=>exact Sz.zero (by omega)
    | some q=>exact V q (List.mem_of_getElem? e)
   unfold Pt.get
   (repeat' split)
   ·exact L 0
   ·exact L 1
   ·exact L 2
  ·have e:(Pt.mk (u.getD 0 0) (u.getD 1 0) (u.getD 2 0)).get i=u.getD i 0:=by rcases(by omega:i=0\/i=1\/i=2) with rfl | rfl | rfl<;>rfl
   rw[e,List.getD_eq_getElem?_getD,List.getElem?_eq_none (by omega)];rfl
theorem Mv0 {W:PW}{K:Value->PW->Prop}{sb:Sl}(j:Bc3 257 W sb bs)(m: ∀x∈bs,x.1<=x.2)(hk: ∀x∈bs,IvS k x)(n:k<=100000)(o:bs.length<=3)(p: ∀(s1:Sl) (s:Sl) (b:Bool) (t:Sl) (s':Sl) (b':Bool) (a:Sl) (c:Sl) (d:Bool) (e:Sl) (u:Pt) (W':PW),Ext W W'->(Ab3 257 W' s b t u.x/\Ab3 257 W' s' b' a u.y/\Ab3 257 W' c d e u.z/\(∀i,i<bs.length->u.get i=Jq7 (Bm3 bs i) (Jg0 (Jj8 j0 j1 j2 i) 0 8))/\(∀i,Sz (3*k+4) (u.get i))/\(∀i,bs.length<=i->i<3->u.get i=0))->K (.tuple ⟨[Sl.v s1,.agg ⟨[Sl.v s,.bool b,Sl.v t,Sl.v s',.bool b',Sl.v a,Sl.v c,.bool d,Sl.v e]⟩]⟩) W'):
  Aa1 Tryz.prog W0 M 24 [sb.v,.agg ⟨[.int .i64 j0,.int .i64 j1,.int .i64 j2]⟩] W K:=
 Mi4 (λ _ g=>Mx4 (j.ext g) m hk n o) fun | _,W',g,⟨s1,s,b,t,s',b',a,c,d,e,u,rfl,h⟩=>p s1 s b t s' b' a c d e u W' g h
end Go.Proofs.YtkgeopnakkcdoaaGreatDoor
namespace Go.Proofs.YtkgeopnakkcdoaaGreatDoor
open Go Go.SX
variable {M:Nat->Prop}{W0:PW}{bs:List Iv}{f:List (List Tm)}{i k:Nat}{l:List Value}{x:Iv}
def Nb4 (x:Iv):Int:=if 0<x.1 then 1 else if x.2<0 then -1 else 0
theorem Na4 (h:SpV 257 W0 l x)(c:IvS k x)(hk:k<=8589934592):
  Aa0 Tryz.prog 26 [.agg ⟨l⟩] W0 M λ v W'=>v = .int .i64 (Nb4 x)/\True:=by
 obtain⟨s0,b0,t0,s1,b1,t1,rfl,h,d⟩:=h;apply My7;unfold Nb4;refine Bk6 h c.1 (by omega) λ j g _=>⟨_,rfl,λ a W _=>⟨?_,trivial⟩,λ a=>Bk6 (d.ext g) c.2 (by omega) λ m n _=>⟨_,rfl,λ b W _=>⟨?_,trivial⟩,λ b W _=>⟨?_,trivial⟩⟩⟩
 ·rw[if_pos (Al3.1 a)]
 ·rw[if_neg λ e=>a (Al3.2 e),if_pos (At6.1 b)]
 ·rw[if_neg λ e=>a (Al3.2 e),if_neg λ e=>b (At6.2 e)]
theorem My6 {W:PW}{K:Value->PW->Prop}(h:SpV 257 W l x)(b:IvS k x)(hk:k<=8589934592)(c: ∀(W':PW),Ext W W'->(True)->K (.int .i64 (Nb4 x)) W'):
  Aa1 Tryz.prog W0 M 26 [.agg ⟨l⟩] W K:=
 Mi4 (λ _ a=>Na4 (h.ext a) b hk) fun | _,W',a,⟨rfl,h⟩=>c W' a h
theorem Nb9 {y:Nat->Nat->Rat}(hF:Mk5 f bs)(d:Mq8 f y bs): ∃a:Rat,0<=a/\a<1/\∀i,i<bs.length->reach f y bs i bs.length<=a*wid bs i:=by
 have e: ∀x∈bs,x.1<=x.2:=λ x g=>Rat.le_of_lt (hF.2.2.2 x g);obtain⟨i,hi,hm⟩:=Mw2 (λ i=>reach f y bs i bs.length/wid bs i) (n:=bs.length) (by have:=hF.2.2.1.1;omega);have hw:=Mw6 hF.2.2.2 hi;refine⟨reach f y bs i bs.length/wid bs i,?_,?_,λ k hk=>?_⟩
 ·rw[Rat.div_def]
  refine Rat.mul_nonneg (Mz9 λ k _=>Rat.mul_nonneg (Ng0 (Na2 i k f.length)) (Na5 e k)) (Rat.le_of_lt (Rat.inv_pos.2 hw))
 ·rw[Rat.div_lt_iff hw,Rat.one_mul]
  exact Nb1 hF d hi
 ·have b:=Mw6 hF.2.2.2 hk
  have c:=Rat.mul_le_mul_of_nonneg_right (hm k hk) (Rat.le_of_lt b);rw[Rat.div_mul_cancel (Rat.ne_of_gt b)] at c;exact c
theorem Mz3 {δ:Rat}{M:Nat->Nat->Rat}(hF:Mk5 f bs)(n:gjG f.length (Mw0 f.length (Mw8 f bs)) f.length=some M)(d:Mq8 f (My2 f.length M) bs)(o: ∀p∈f,Av6 p/\POk p)(hi:i<f.length)(q:0<δ): ∃v:Pt,Ha3 (Bm3 bs) v/\Mw1 (atQ v (fAt f i))<δ:=by
 have e: ∀x∈bs,x.1<=x.2:=λ x r=>Rat.le_of_lt (hF.2.2.2 x r);have B:=hF.2.1;obtain⟨c,t0,t1,s⟩:=Nb9 hF d;obtain⟨i0,rho,_,g,_,u⟩:=My1 (yf f (My2 f.length M) f.length (Hb9 bs)) hF.2.2.2 hF.2.2.1.1;obtain⟨C,h⟩: ∃C,Mu5 (λ b=>Mw1 (Mw8 f bs i b)*wid bs b) f.length=C:=⟨_,rfl⟩;have w:0<=C:=by
  rw[<-h];exact Mz9 λ b _=>Rat.mul_nonneg (Mv1 _) (Na5 e b)
 obtain⟨t,D⟩:=Nb3 t0 t1 (Rat.mul_nonneg g w) q;obtain⟨v,y,z⟩:=steps hF d o s t0 g (Hq3 e) u t;refine⟨v,y,?_⟩;have A:=(Ne1 n (yf f (My2 f.length M) f.length v) (λ j=>atQ v (fAt f j))).2 (λ a _=>rfl) i hi;rw[<-A];have m:Mw1 (Mu5 (λ b=>Mw8 f bs i b*yf f (My2 f.length M) f.length v b) f.length)<=Mu5 (λ b=>c^t*rho*(Mw1 (Mw8 f bs i b)*wid bs b)) f.length:=Na8 λ b E=>by
  have h1:=Na9 (Mw8 f bs i b) (yf f (My2 f.length M) f.length v b);have F:=Rat.mul_le_mul_of_nonneg_left (z b (by omega)) (Mv1 (Mw8 f bs i b));grind
 rw[Mu8,h] at m;have:c^t*rho*C=c^t*(rho*C):=by grind
 rw[this] at m;grind
theorem sign_zero {M:Nat->Nat->Rat}(hF:Mk5 f bs)(b:gjG f.length (Mw0 f.length (Mw8 f bs)) f.length=some M)(c:Mq8 f (My2 f.length M) bs)(d: ∀p∈f,Av6 p/\POk p)(hi:i<f.length):Nb4 (Aq8 (Bm3 bs) (fAt f i))=0:=by
 unfold Nb4;rw[if_neg λ h=>?_,if_neg λ h=>?_]
 ·obtain⟨v,a,e⟩:=Mz3 hF b c d hi (δ:=-(Aq8 (Bm3 bs) (fAt f i)).2) (by grind)
  have:=(Hq8 a (fAt f i)).2;have:=(Mu9 (atQ v (fAt f i))).2;grind
 ·obtain⟨v,a,e⟩:=Mz3 hF b c d hi h
  have:=(Hq8 a (fAt f i)).1;have:=(Mu9 (atQ v (fAt f i))).1;grind
theorem Nb0 {a:Nat}(h1:a<=14):a*(56029+3*(16*255+1)+1)+1<=1000000:=by
 exact Nat.le_trans (Nat.add_le_add_right (Nat.mul_le_mul_right _ h1) 1) (by decide)
theorem Nd4 (h:x.1<=x.2)(j0 j1 j2:Int)(k:Nat):inI x (Jq7 x (Jg0 (Jj8 j0 j1 j2 k) 0 8)):=by
 obtain⟨a,b⟩:=Jg2 (n:=Jj8 j0 j1 j2 k) (lo:=0) (hi:=8) (by omega);obtain⟨w,hw⟩: ∃w,Jg0 (Jj8 j0 j1 j2 k) 0 8=w:=⟨_,rfl⟩;rw[hw] at a b⊢;unfold Jq7;have a':(0:Rat)<=(w:Rat):=by exact_mod_cast a
 have b':(w:Rat)<=8:=by exact_mod_cast b
 have e:((8:Int):Rat)=8:=rfl;rw[e,Rat.div_def];have g:(8:Rat)*8⁻¹ = 1:=by decide +kernel
 have c:(0:Rat)<=8⁻¹:=by decide +kernel
 have c1:=Rat.mul_nonneg a' c;have c2:=Rat.mul_le_mul_of_nonneg_right b' c;rw[g] at c2;have d:0<=x.2-x.1:=by grind
 have d1:=Rat.mul_nonneg d c1;have d2:=Rat.mul_le_mul_of_nonneg_left c2 d;exact⟨by grind,by grind⟩
theorem Ne3 {b:Int}(h:x.1<x.2){a:Int}(e:Jq7 x a=Jq7 x b):a=b:=by
 unfold Jq7 at e;have c:((8:Int):Rat)=8:=rfl;rw[c,Rat.div_def,Rat.div_def] at e;have g:(8⁻¹ :Rat)*8=1:=by decide +kernel
 have d:x.2-x.1≠0:=by grind
 have j:(x.2-x.1)*((a:Rat)*8⁻¹)=(x.2-x.1)*((b:Rat)*8⁻¹):=by grind
 have m:(a:Rat)*8⁻¹ = (b:Rat)*8⁻¹:=by
  have:=congrArg (λ z=>(x.2-x.1)⁻¹ * z) j;simp only[<-Rat.mul_assoc,Rat.inv_mul_cancel _ d,Rat.one_mul] at this;exact this
 have n:(a:Rat)=(b:Rat):=by
  have:=congrArg (λ z=>z*8) m;simp only[Rat.mul_assoc,g,Rat.mul_one] at this;exact this
 exact Rat.intCast_inj.1 n
def kzI (W0:PW) (f:List (List Tm)) (n:Nat) (g1 g2:Nat->Int) (u v:Pt) (L:List PL) (W:PW):Prop:=match L with
 | [.val (.bool a),.val (.bool b),.val (.bool c),.val (.int .i64 i)]=>∃j:Nat,i=(j:Int)/\j<=n/\Ext W0 W/\(a=false->∃k,k<n/\g1 k≠g2 k)/\(b=true->∀k,k<j->atQ u (fAt f k)=0)/\(c=true->∀k,k<j->atQ v (fAt f k)=0)
 | _=>False
def cnT (n:Nat) (L:List PL) (_:PW):Nat:=match L with
 | [_,_,_,.val (.int .i64 z)]=>n-z.toNat
 | _=>0
theorem Mz4 {s:Sl}{u:Sl}{T:List (List (Mon×ByteArray))}{Lt:List (ByteArray×ByteArray)}{j0:Int}{j1:Int}{j2:Int}{k0:Int}{k1:Int}{k2:Int}(hT:Ac6 W0)(h1:Jz1 W0 s T)(h3:Bs7 W0 u Lt)(z1: ∀l∈T,l.length<=1099511627776/\∀t∈l,t.2.size<=1099511627776)(l3:Lt.length<=1099511627776)(z3: ∀t∈Lt,t.1.size<=1099511627776/\t.2.size<=1099511627776):
  Aa0 Tryz.prog 6 [s.v,u.v,.agg ⟨[.int .i64 j0,.int .i64 j1,.int .i64 j2]⟩,.agg ⟨[.int .i64 k0,.int .i64 k1,.int .i64 k2]⟩] W0 M λ v W'=>v = .bool true/\True:=by
 apply Mv5;have ak: ∀{W:PW},Ext W0 W->Aa1 Tryz.prog W0 M 12 [] W λ v W'=>∃b:Bool,v = .bool b/\∀J:PW,Ext W' J->Value.bool b = .bool true/\True:=λ L=>Mj4 (hT.ext L) λ W' o _=>⟨true,rfl,λ J _=>⟨rfl,trivial⟩⟩;refine Ke6 h1 z1 λ s3 s4 b5 W2 al g5=>⟨s3,s4,b5,rfl,?_⟩;refine Gb4 (hT.ext al) (h3.ext al) l3 z3 λ s8 s9 a8 W7 aA g10=>⟨s8,s9,a8,rfl,?_⟩;have Z:=al.trans aA;refine⟨λ _=>ak Z,λ e5=>⟨λ _=>ak Z,λ ba=>?_⟩⟩;refine Mj4 (hT.ext Z) λ ch am _=>⟨true,rfl,λ e=>(by cases e),λ _=>?_⟩;obtain⟨f,an,h4,C,_⟩:=g5 (by simpa using e5);obtain⟨bs,b1,_,hB,hk⟩:=g10 (by simpa using ba);have cj:=hB.1.1;have aB:=hB.1.2;have C:=C.ext (aA.trans am);have b1:=b1.ext am;have ck:=C.n;have cl:=b1.n;have N:=Ms9 C;have aC: ∀q∈f,Av6 q/\POk q:=λ q g=>by
  obtain⟨l,h⟩:=an.mem g;exact⟨h.1.Aq3,N q g⟩
 have cm:f.length<=4:=by have:=An5.len an;omega
 have D: ∀q∈f,Bd 90 q/\Gk4 4 q/\q.length<=14:=λ q g=>by
  obtain⟨l,h⟩:=an.mem g;exact⟨h.Hy0,h.exp (N q g),h.len⟩
 refine⟨λ ab=>ak (Z.trans am),λ heq=>?_⟩;have cn:f.length=bs.length:=by omega
 refine Mx3 (S0:=15500) (k:=90) (m:=20) C b1 (λ q g=>⟨(D q g).1,by have:=(D q g).2.2;omega,N q g⟩) (by decide) (λ x w=>IvS.mono (hk x w) (by omega)) (by decide) (by omega) (by omega) (λ i q hi _=>Nd6 D (λ x w=>IvS.mono (hk x w) (by omega)) hi q) (by decide) (by decide) λ bb co ao ⟨g1,_⟩=>⟨bb,_,rfl,λ _ W _=>⟨rfl,trivial⟩,λ P=>?_⟩;have P:(decide (Mk5 f bs) && (gjG f.length (Mw0 f.length (Mw8 f bs)) f.length).isSome)=true:=by simpa using P
 rw[Bool.and_eq_true] at P;have hF:Mk5 f bs:=of_decide_eq_true P.1;obtain⟨Q,hM⟩:=Option.isSome_iff_exists.1 P.2;have bc:=g1 hF Q hM;have bd: ∀i j,i<f.length->j<f.length->Sz 1984200 (My2 f.length Q i j):=λ i j hi hj=>by
  have A:=λ a b y A=>((Nc0 (S:=15500) (by decide) (Nd7 (by decide) λ a b y A=>Nd6 D (λ x w=>IvS.mono (hk x w) (by omega)) y b) (Nat.le_refl _) hM a b y A).mono (Ng1 (by omega)));have R:=A i (f.length+j) hi (by omega);have a2:=A i i hi (by omega);exact(R.div a2 (by decide)).mono (by decide)
 have hN:KrN 90 20 1984200 f f.length (λ _=>f.length) (My2 f.length Q) bs:=⟨λ q g=>⟨(D q g).1,by have:=(D q g).2.2;omega,N q g⟩,by omega,by decide,λ x w=>IvS.mono (hk x w) (by omega),by decide,by omega,λ i j hi hj=>bd i j hi hj,by decide,by omega⟩;refine Mj3 (C.ext ao) bc (b1.ext ao) hN λ cp bf _=>⟨_,rfl,λ _ W _=>⟨rfl,trivial⟩,λ bg=>?_⟩;have hP:Mq8 f (My2 f.length Q) bs:=by
  have:decide (Mn5 f f.length (λ _=>f.length) bs/\Mq8 f (My2 f.length Q) bs)=true:=by simpa using bg
  exact(of_decide_eq_true this).2
 have ac: ∀x∈bs,x.1<=x.2:=λ x w=>Rat.le_of_lt (hB.2 x w);have ar:=ao.trans bf;refine Mv0 (b1.ext ar) ac hk (by decide) aB λ bh bi bj bk bl bm bn bo bp bq u cq aE ⟨u0,u1,u2,hu,zu,ou⟩=>⟨bh,bi,bj,bk,bl,bm,bn,bo,bp,bq,rfl,?_⟩;refine Mv0 (b1.ext (ar.trans aE)) ac hk (by decide) aB λ bw bx bz bA bB bC bD bE bF bG v aG ad ⟨v0,v1,v2,hv,zv,ov⟩=>⟨bw,bx,bz,bA,bB,bC,bD,bE,bF,bG,rfl,?_⟩;have bI:Ha3 (Bm3 bs) u:=λ i hi=>by
  by_cases h:i<bs.length
  ·rw[hu i h];exact Nd4 (Ey5 ac i) _ _ _ _
  ·rw[ou i (by omega) hi,Fa0 (by omega)];exact⟨Rat.le_refl,Rat.le_refl⟩
 have inv:Ha3 (Bm3 bs) v:=λ i hi=>by
  by_cases h:i<bs.length
  ·rw[hv i h];exact Nd4 (Ey5 ac i) _ _ _ _
  ·rw[ov i (by omega) hi,Fa0 (by omega)];exact⟨Rat.le_refl,Rat.le_refl⟩
 have aI:=ar.trans (aE.trans ad);have bJ:=C.ext aI;have bK:=b1.ext aI;refine⟨kzI aG f bs.length (λ k=>Jg0 (Jj8 j0 j1 j2 k) 0 8) (λ k=>Jg0 (Jj8 k0 k1 k2 k) 0 8) u v,cnT bs.length,⟨0,rfl,Nat.zero_le _,Ext.refl _,λ e=>(by cases e),λ _ k h=>by omega,λ _ k h=>by omega⟩,?_⟩;rintro bL aJ au i68 av ⟨j,rfl,hj,V,y,A,hc⟩;refine⟨λ cr=>?_,λ cs=>⟨λ _ W _=>⟨rfl,trivial⟩,λ E=>⟨λ _ W _=>⟨rfl,trivial⟩,λ z W _=>⟨?_,trivial⟩⟩⟩⟩
 rotate_left
 ·have bM:j=bs.length:=by omega
  subst bM
  cases au with
  | false=>rfl
  | true=>
   exfalso;obtain⟨k,X,ab⟩:=y E;have Y:=Nc6 hF hP aC bI inv (λ i hi=>A (by simpa using z) i (by omega)) (λ i hi=>hc rfl i (by omega)) k X;rw[hu k X,hv k X] at Y;have:=hB.2 _ (List.getElem_mem X);rw[<-Fi1 X] at this;exact ab (Ne3 this Y)
 have bN:j<bs.length:=by omega
 have r:j<f.length:=by omega
 have ae:=bJ.ext V;obtain⟨bO,bP,bQ⟩:=ae.at r;have bR:SX.inB s3 (j:Int):=ae.inB (by omega) (by omega);obtain⟨w1,w2,w3⟩:=D _ (List.getElem_mem r);refine⟨bR,bO,bP,?_⟩;have aM:=hF.1 _ (List.getElem_mem r);have aN:BxN 90 4 f[j] bs:=⟨w1,hk,N _ (List.getElem_mem r),by omega,by decide,by decide,by omega⟩;refine Bi4 bQ (bK.ext V) aN λ l cu aO aP=>?_;rw[if_pos aM] at aP;obtain⟨bT,bU,bV,bW,bX,bY,rfl,x1,x2⟩:=aP;refine⟨bT,bU,bV,bW,bX,bY,_,rfl,λ e=>by simp[aM] at e,λ _=>?_⟩;have b2:IvS 40000 (Aq8 (Bm3 bs) f[j]):=(aN.over.mono (by decide)).sz;refine My6 (x:=Aq8 (Bm3 bs) f[j]) (SpV.mk x1 x2) b2 (by decide) λ aw aQ _=>⟨_,rfl,?_⟩;have aR:=sign_zero hF hM hP aC r;rw[Mq1 r] at aR;refine⟨λ ab=>absurd aR ab,λ _=>?_⟩;have b3:=V.trans (aO.trans aQ);have O: ∀{p:Pt} {a0 R a2 c0 c1 c2:Sl} {d0 d1 d2:Bool} {W:PW} {K:Int->PW->Prop},Ext av W->Ab3 257 W a0 d0 c0 p.x->Ab3 257 W R d1 c1 p.y->Ab3 257 W a2 d2 c2 p.z->(∀i,Sz (3*4+4) (p.get i))->(∀i W',Ext W W'->(i=0->atQ p f[j]=0)->K i W')->
   SX.inB s3 (j:Int)/\∃af:Sl,Aa7 W s3 1 (Int.toNat (j:Int)) 0 [af.v]/\Aa1 Tryz.prog W0 M 28 [.agg ⟨[af.v]⟩,.agg ⟨[a0.v,.bool d0,c0.v,R.v,.bool d1,c1.v,a2.v,.bool d2,c2.v]⟩] W λ v aS=>∃(ag:Sl) (ah:Bool) (ai:Sl),v = .agg ⟨[ag.v,.bool ah,ai.v]⟩/\Aa1 Tryz.prog W0 M 29 [.agg ⟨[ag.v,.bool ah,ai.v]⟩] aS λ v ay=>∃i101:Int,v = .int .i64 i101/\K i101 ay:=by
  intro p a0 R a2 c0 c1 c2 d0 d1 d2 W K L g0 g1 g2 Y b4;obtain⟨af,b6,b7⟩:=(ae.ext L).at r;refine⟨(ae.ext L).inB (by omega) (by omega),af,b6,?_⟩;have aT:f[j].length<=14:=w3;have aU:Bd 56029 f[j]:=w1.mono (by decide);have b8:Sz 1000000 (atQ p f[j]):=(Gx6 aU.sz Y (e:=255) λ t ht i=>Gq6 (N _ (List.getElem_mem r) t ht) i).mono (Nb0 aT);refine Gr5 (u:=p) (l:=16) b7 g0 g1 g2 aU.sz Y (by decide) (Nat.le_trans (Nb0 aT) (by decide)) (by decide) λ ag ah ai aS ca cb=>⟨ag,ah,ai,rfl,?_⟩;refine Bk6 cb b8 (by decide) λ ay cc _=>⟨_,rfl,b4 _ ay (ca.trans cc) λ e=>(Be6 _ 0).1 e⟩
 have fin: ∀(a b c:Bool) {W:PW},Ext aw W->(a=false->∃k,k<bs.length/\Jg0 (Jj8 j0 j1 j2 k) 0 8≠Jg0 (Jj8 k0 k1 k2 k) 0 8)->(b=true->aJ=true/\atQ u f[j]=0)->(c=true->au=true/\atQ v f[j]=0)->
   I64 ((j:Int)+1)/\kzI aG f bs.length (λ k=>Jg0 (Jj8 j0 j1 j2 k) 0 8) (λ k=>Jg0 (Jj8 k0 k1 k2 k) 0 8) u v [.val (.bool a),.val (.bool b),.val (.bool c),.val (.int .i64 ((j:Int)+1))] W/\cnT bs.length [.val (.bool a),.val (.bool b),.val (.bool c),.val (.int .i64 ((j:Int)+1))] W<cnT bs.length [.val (.bool bL),.val (.bool aJ),.val (.bool au),.val (.int .i64 (j:Int))] av:=by
  intro a b c W L qa qb qc;refine⟨by unfold I64;omega,⟨j+1,by push_cast;rfl,by omega,b3.trans L,qa,λ e k hk=>?_,λ e k hk=>?_⟩,?_⟩
  ·by_cases ek:k=j
   ·subst ek;rw[Mq1 r];exact(qb e).2
   ·exact A (qb e).1 k (by omega)
  ·by_cases ek:k=j
   ·subst ek;rw[Mq1 r];exact(qc e).2
   ·exact hc (qc e).1 k (by omega)
  ·show bs.length-Int.toNat ((j:Int)+1)<bs.length-Int.toNat (j:Int)
   omega
 have U: ∀{W:PW},Ext aw W->Ext av W:=λ h=>(aO.trans aQ).trans h;have aX:=u0.ext ad;have aY:=u1.ext ad;have aZ:=u2.ext ad;refine⟨λ E=>?_,λ E=>⟨Ext.refl _,?_⟩⟩
 ·refine⟨⟨by omega,by omega⟩,_,Jk4 j0 j1 j2 (by omega),⟨by omega,by omega⟩,_,Jk4 k0 k1 k2 (by omega),?_⟩
  refine Jg1 (by omega) (by omega) (by omega) λ cv cd _=>⟨_,rfl,?_⟩;refine Jg1 (by omega) (by omega) (by omega) λ cw ce _=>⟨_,rfl,?_⟩;have B:=cd.trans ce;have qa:decide (Jg0 (Jj8 j0 j1 j2 j) 0 8=Jg0 (Jj8 k0 k1 k2 j) 0 8)=false->∃k,k<bs.length/\Jg0 (Jj8 j0 j1 j2 k) 0 8≠Jg0 (Jj8 k0 k1 k2 k) 0 8:=λ e=>⟨j,bN,of_decide_eq_false e⟩;have d:=V.trans (U B);refine⟨λ z=>O (U B) (aX.ext d) (aY.ext d) (aZ.ext d) zu λ i W' o hi=>?_,λ z=>?_⟩
  ·have F:=d.trans o
   refine⟨λ n=>O (U (B.trans o)) (v0.ext F) (v1.ext F) (v2.ext F) zv λ i2 J G I=>?_,λ n=>?_⟩
   ·exact fin _ _ _ (B.trans (o.trans G)) qa (λ e=>⟨z,hi (of_decide_eq_true e)⟩) (λ e=>⟨n,I (of_decide_eq_true e)⟩)
   ·exact fin _ _ _ (B.trans o) qa (λ e=>⟨z,hi (of_decide_eq_true e)⟩) (λ e=>by cases e)
  ·refine⟨λ n=>O (U B) (v0.ext d) (v1.ext d) (v2.ext d) zv λ i2 J G I=>?_,λ n=>?_⟩
   ·exact fin _ _ _ (B.trans G) qa (λ e=>by cases e) (λ e=>⟨n,I (of_decide_eq_true e)⟩)
   ·exact fin _ _ _ B qa (λ e=>by cases e) (λ e=>by cases e)
 ·have d:=V.trans (U (Ext.refl aw))
  refine⟨λ z=>O (U (Ext.refl _)) (aX.ext d) (aY.ext d) (aZ.ext d) zu λ i W' o hi=>?_,λ z=>?_⟩
  ·have F:=d.trans o
   refine⟨λ n=>O (U o) (v0.ext F) (v1.ext F) (v2.ext F) zv λ i2 J G I=>?_,λ n=>?_⟩
   ·exact fin _ _ _ (o.trans G) (λ _=>y E) (λ e=>⟨z,hi (of_decide_eq_true e)⟩) (λ e=>⟨n,I (of_decide_eq_true e)⟩)
   ·exact fin _ _ _ o (λ _=>y E) (λ e=>⟨z,hi (of_decide_eq_true e)⟩) (λ e=>by cases e)
  ·refine⟨λ n=>O (U (Ext.refl _)) (v0.ext d) (v1.ext d) (v2.ext d) zv λ i2 J G I=>?_,λ n=>?_⟩
   ·exact fin _ _ _ G (λ _=>y E) (λ e=>by cases e) (λ e=>⟨n,I (of_decide_eq_true e)⟩)
   ·exact fin _ _ _ (Ext.refl _) (λ _=>y E) (λ e=>by cases e) (λ e=>by cases e)
end Go.Proofs.YtkgeopnakkcdoaaGreatDoor
namespace Go.Proofs.YtkgeopnakkcdoaaGreatDoor
open Go Go.SX Go.ChangeShapes Go.WideShapes Go.ChangeAt Go.RowKit Go.Deep
variable {H:Type}{W:World}{fuel:Nat}
instance:Inhabited (Mon×ByteArray):=⟨(⟨0,0,0⟩,⟨#[]⟩)⟩
theorem Cd6:Tryz.prog.cellsOf 233=4:=by kernel_rfl
theorem Dv1:Tryz.prog.cellsOf 146=3:=by kernel_rfl
theorem Ew8:Tryz.prog.cellsOf 5=1:=by kernel_rfl
theorem Fg4 {n:Int}(h:(Lit.int .u8 n).wf=true):0<=n/\n<=255:=by
 simp[Lit.wf,IntKind.min,IntKind.max,IntKind.bits,IntKind.signed] at h;omega
theorem Er8 {cs:List Value}{enc:TypeId×Value->H}{x:DataW H×List MemPlace}(h:DataW.trod enc Tryz.prog W 0 (λ _=>true) true fuel 233 cs=some x):
  ∃t:Mon×ByteArray,AT cs t/\t.2.size<=Rows.uptoBulk x.1:=by
 obtain⟨xs,k,rfl,rfl,o,u,p⟩:=DataW.trod_struct Tryz.underlying233 h;rw[Cd6] at o;have g0:DataW.trod enc Tryz.prog W 0 (λ _=>true) true k 146 ((cs.drop 0).take (Tryz.prog.cellsOf 146))=xs[0]?:=p 0 _ rfl;have g1:DataW.trod enc Tryz.prog W 0 (λ _=>true) true k 9 ((cs.drop 3).take (Tryz.prog.cellsOf 9))=xs[1]?:=p 1 _ rfl;rw[Dv1] at g0;rw[Ct5] at g1
 match cs,o,xs,u with
 | [v0,v1,v2,v3],_,[v,w],_=>
  have g0:DataW.trod enc Tryz.prog W 0 (λ _=>true) true k 146 [v0,v1,v2]=some v:=g0;have g1:DataW.trod enc Tryz.prog W 0 (λ _=>true) true k 9 [v3]=some w:=g1;obtain⟨zs,m,rfl,rfl,_,y,n⟩:=DataW.trod_array Tryz.underlying146 g0;obtain⟨s,a,rfl,C⟩:=DataW.trod_string Tryz.underlying9 g1;have b:=n 0 (by omega);have c:=n 1 (by omega);have d:=n 2 (by omega);rw[Ew8] at b c d
  match zs,y with
  | [z,A,B],_=>
   have b:DataW.trod enc Tryz.prog W 0 (λ _=>true) true m 5 [v0]=some z:=b;have c:DataW.trod enc Tryz.prog W 0 (λ _=>true) true m 5 [v1]=some A:=c;have d:DataW.trod enc Tryz.prog W 0 (λ _=>true) true m 5 [v2]=some B:=d;obtain⟨n0,g,_,k0⟩:=DataW.trod_int Tryz.underlying5 b;obtain⟨q,h1,_,k1⟩:=DataW.trod_int Tryz.underlying5 c;obtain⟨r,j,_,k2⟩:=DataW.trod_int Tryz.underlying5 d;have a: [v3] = [Value.string s]:=a;have g: [v0] = [Value.int .u8 n0]:=g;have h1: [v1] = [Value.int .u8 q]:=h1;have j: [v2] = [Value.int .u8 r]:=j;simp only[List.cons.injEq,and_true] at a g h1 j;subst a g h1 j;refine⟨(⟨n0,q,r⟩,s),⟨⟨Fg4 k0,Fg4 k1,Fg4 k2⟩,rfl⟩,?_⟩;have e:s.data.toList.length=s.size:=by rw[Array.length_toList];rfl
   simp only[List.map_cons,List.map_nil,Rows.uptoBulk,Rows.uptoBulkAll];omega
theorem Et3 {V:Nat->List Value}{y:Nat->Mon×ByteArray}{n:Nat}(h: ∀i,i<n->AT (V i) (y i)):An5 AT ((List.range n).map V) ((List.range n).map y):=by
 induction n with
 | zero=>trivial
 | succ n ih=>
  rw[List.range_succ,List.map_append,List.map_append];exact(ih λ i hi=>h i (by omega)).append ⟨h n (by omega),trivial⟩
theorem Dt5 {p:List MemPlace}{enc:TypeId×Value->H}{v:Value}{d:DataW H}(h:DataW.trod enc Tryz.prog W 0 (λ _=>true) true fuel 72 [v]=some (d,p)):
  ∃(s:Sl) (L:List (Mon×ByteArray)),v=s.v/\Af3 ⟨W,λ _=>False⟩ s L/\L.length<=Rows.uptoBulk d/\∀t∈L,t.2.size<=Rows.uptoBulk d:=by
 rcases open_slice Tryz.underlying72 h with⟨o,r⟩ | ⟨a,len,cap,m,n,D,N,o,_,A,hm,w,r,y⟩
 ·have b:v = .slice none 0 0:=by simpa using o
  subst b;exact⟨⟨none,0,0⟩,[],rfl,⟨[],⟨0,rfl,Nat.le_refl _,Nat.zero_le _,λ x h=>by simp at h,.inl rfl⟩,trivial⟩,Nat.zero_le _,λ l h=>by simp at h⟩
 ·have b:v = .slice (some a) len cap:=by simpa using o
  subst b;simp only[if_true] at w;subst w;simp only[Prod.mk.injEq] at r;obtain⟨rfl,_⟩:=r;rw[Cd6] at y;obtain⟨q,e⟩: ∃q:Nat->List Value×(Mon×ByteArray),∀i,i<m->W.cells? 0 (a.add (i*4)) 4=some (q i).1/\AT (q i).1 (q i).2/\(q i).2.2.size<=Rows.uptoBulk (D i):=choose_lt (α:=List Value×(Mon×ByteArray)) (p:=λ i q=>W.cells? 0 (a.add (i*4)) 4=some q.1/\AT q.1 q.2/\q.2.2.size<=Rows.uptoBulk (D i)) λ i hi=>by
   obtain⟨B,h1,z⟩:=y i hi;obtain⟨t,C,E⟩:=Er8 z;exact⟨(B,t),h1,C,E⟩
  have F:=Bz7 (W:=W) (a:=a) (n:=len) (c:=m) (sz:=4) (V:=λ i=>(q i).1) (λ j g i v b=>by
   obtain⟨_,hlen,G⟩:=World.cells?_some (e j (by omega)).1;have hi:i<4:=by have:=(List.getElem?_eq_some_iff.1 b).1;omega
   have:=G i hi;rw[add_add] at this;rw[this];exact b) (λ j g=>(World.cells?_some (e j (by omega)).1).2.1) (by omega) A hm (λ j g u hu=>by
   rw[(e j (by omega)).2.1.2] at hu;simp only[List.mem_cons,List.not_mem_nil,or_false] at hu;rcases hu with rfl | rfl | rfl | rfl<;>rfl)
  have I: ∀i,i<len->Rows.uptoBulk (D i)<=Rows.uptoBulkAll ((List.range len).map D):=λ i hi=>Eo6 (List.mem_map.2 ⟨i,List.mem_range.2 hi,rfl⟩);have hlen:=Dj1 ((List.range len).map D);simp only[List.length_map,List.length_range] at hlen;refine⟨⟨some a,len,m⟩,(List.range len).map λ i=>(q i).2,rfl,⟨_,F,Et3 λ i hi=>(e i (by omega)).2.1⟩,?_,λ t J=>?_⟩
  ·simp only[List.length_map,List.length_range,Rows.uptoBulk]
   omega
  ·obtain⟨j,g,rfl⟩:=List.mem_map.1 J
   have K:=List.mem_range.1 g;have h1:=I j K;have z:=(e j (by omega)).2.2;simp only[Rows.uptoBulk];omega
end Go.Proofs.YtkgeopnakkcdoaaGreatDoor
namespace Go.Proofs.YtkgeopnakkcdoaaGreatDoor
open Go Go.SX Go.ChangeShapes Go.WideShapes Go.ChangeAt Go.RowKit Go.Deep
instance:Inhabited (Sl×List (Mon×ByteArray)):=⟨(⟨none,0,0⟩,[])⟩
theorem Ki8:Tryz.prog.cellsOf 72=1:=by kernel_rfl
theorem Kk2 {H:Type}{W:World}{fuel:Nat}{p:List MemPlace}{enc:TypeId×Value->H}{v:Value}{d:DataW H}(h:DataW.trod enc Tryz.prog W 0 (λ _=>true) true fuel 22 [v]=some (d,p)):
  ∃(s:Sl) (T:List (List (Mon×ByteArray))),v=s.v/\Jz1 ⟨W,λ _=>False⟩ s T/\T.length<=Rows.uptoBulk d/\∀l∈T,l.length<=Rows.uptoBulk d/\∀t∈l,t.2.size<=Rows.uptoBulk d:=by
 rcases open_slice1 Tryz.underlying22 Ki8 h with⟨g,o⟩ | ⟨a,len,cap,m,n,V,D,I,g,_,q,hm,w,o,z⟩
 ·have r:v = .slice none 0 0:=by simpa using g
  subst r;exact⟨⟨none,0,0⟩,[],rfl,⟨[],⟨0,rfl,Nat.le_refl _,Nat.zero_le _,λ x h=>by simp at h,.inl rfl⟩,rfl,λ i h=>by simp at h⟩,Nat.zero_le _,λ l h=>by simp at h⟩
 ·have r:v = .slice (some a) len cap:=by simpa using g
  subst r;simp only[if_true] at w;subst w;simp only[Prod.mk.injEq] at o;obtain⟨rfl,_⟩:=o;obtain⟨y,c⟩:=choose_lt (α:=Sl×List (Mon×ByteArray)) (p:=λ i y=>V i=y.1.v/\Af3 ⟨W,λ _=>False⟩ y.1 y.2/\y.2.length<=Rows.uptoBulk (D i)/\∀t∈y.2,t.2.size<=Rows.uptoBulk (D i)) λ i hi=>by
   obtain⟨s,L,h1,A,u,B⟩:=Dt5 (z i hi).2;exact⟨(s,L),h1,A,u,B⟩
  have C:=Ig6 (V:=V) (λ j b=>(z j (by omega)).1) q hm (λ j b=>by rw[(c j (by omega)).1];rfl);have E: ∀i,i<len->Rows.uptoBulk (D i)<=Rows.uptoBulkAll ((List.range len).map D):=λ i hi=>Eo6 (List.mem_map.2 ⟨i,List.mem_range.2 hi,rfl⟩);have hlen:=Dj1 ((List.range len).map D);simp only[List.length_map,List.length_range] at hlen;refine⟨⟨some a,len,m⟩,(List.range len).map λ i=>(y i).2,rfl,⟨(List.range len).map λ i=>(y i).1,?_,by simp,λ i hi J=>?_⟩,?_,λ l q=>?_⟩
  ·have e:(((List.range len).map λ i=>(y i).1).map λ x=>[x.v])=(List.range len).map λ j=>[V j]:=by
    rw[List.map_map];apply List.map_congr_left;intro j b;have:=(c j (by have:=List.mem_range.1 b;omega)).1;simp[this]
   rw[e];exact C
  ·have K:i<len:=by simpa using hi
   simp only[List.getElem_map,List.getElem_range];exact(c i (by omega)).2.1
  ·simp only[List.length_map,List.length_range,Rows.uptoBulk]
   omega
  ·obtain⟨j,b,rfl⟩:=List.mem_map.1 q
   have F:=List.mem_range.1 b;have h1:=E j F;obtain⟨_,_,A,u⟩:=c j (by omega);simp only[Rows.uptoBulk];refine⟨by omega,λ t G=>?_⟩;have:=u t G;omega
end Go.Proofs.YtkgeopnakkcdoaaGreatDoor
namespace Go.Proofs.YtkgeopnakkcdoaaGreatDoor
open Go Go.SX Go.ChangeShapes Go.WideShapes Go.ChangeAt Go.RowKit Go.Deep
theorem Gl8 {r:Reach}{base:Nat}{w:World}{v:Value}(h:Value.okWide Tryz.prog w r base 83 v): ∃xs:Array Value,v = .agg xs/\xs.size=3:=by
 simp only[Value.okWide,Tryz.underlying83] at h;obtain⟨cs,h1,a,_⟩:=h;exact⟨cs,h1,by rw[a];kernel_rfl⟩
theorem Gu1:Tryz.prog.cellsOf 3=1:=by kernel_rfl
theorem Gj7 {H:Type}{W:World}{fuel:Nat}{l:List Value}{p:List MemPlace}{enc:TypeId×Value->H}{d:DataW H}(h:DataW.trod enc Tryz.prog W 0 (λ _=>true) true fuel 83 l=some (d,p))(r:l.length=3):
  ∃a b c:Int,l = [.int .i64 a,.int .i64 b,.int .i64 c]:=by
 obtain⟨zs,m,rfl,z,_,s,n⟩:=DataW.trod_array Tryz.underlying83 h;have e:=n 0 (by omega);have g:=n 1 (by omega);have j:=n 2 (by omega);rw[Gu1] at e g j
 match l,r,zs,s with
 | [v0,v1,v2],_,[t,u,v],_=>
  have e:DataW.trod enc Tryz.prog W 0 (λ _=>true) true m 3 [v0]=some t:=e;have g:DataW.trod enc Tryz.prog W 0 (λ _=>true) true m 3 [v1]=some u:=g;have j:DataW.trod enc Tryz.prog W 0 (λ _=>true) true m 3 [v2]=some v:=j;obtain⟨n0,w,_⟩:=DataW.trod_int Tryz.underlying3 e;obtain⟨o,h1,_⟩:=DataW.trod_int Tryz.underlying3 g;obtain⟨q,y,_⟩:=DataW.trod_int Tryz.underlying3 j;have k0:v0=Value.int .i64 n0:=(List.cons.inj (show[v0] = [Value.int .i64 n0] from w)).1;have k1:v1=Value.int .i64 o:=(List.cons.inj (show[v1] = [Value.int .i64 o] from h1)).1;have k2:v2=Value.int .i64 q:=(List.cons.inj (show[v2] = [Value.int .i64 q] from y)).1;subst k0 k1 k2;exact⟨n0,o,q,rfl⟩
end Go.Proofs.YtkgeopnakkcdoaaGreatDoor
namespace Go.Proofs.YtkgeopnakkcdoaaGreatDoor
open Go Go.SX Go.ChangeShapes Go.WideShapes Go.ChangeAt Go.RowKit Go.Deep
theorem Fs9:Tryz.prog.globalNamed "math/bits.deBruijn32tab" = some 1:=by kernel_rfl
theorem Ew9:(Tryz.prog.globals[1]?).map (·.type)=some 351:=by kernel_rfl
theorem Ev1:Tryz.prog.cellsOf 351=32:=by kernel_rfl
theorem Fh1:Tryz.prog.cellsOf 5=1:=by kernel_rfl
theorem Fr5 {W:World}(h:laidMetH Tryz.prog Rows.krawZerosUptoRow.laid W):Ac6 ⟨W,λ _=>False⟩:=by
 have c:Go.Lib.TabIs Tryz.prog W "math/bits.deBruijn32tab" .u8 (Go.Lib.deBruijn32tab.map λ n:Nat=>(n:Int)):=Go.Lib.tabIs_of_head (rest:=[]) Fs9 Ew9 Tryz.underlying351 Tryz.underlying5 Fh1 Ev1 h;have a: ∀j,j<32->W.cell? ⟨1,j,none⟩=some (.int .u8 ((Go.Lib.deBruijn32tab.getD j 0:Nat):Int)):=λ j b=>by
  rw[c.cell Fs9 j (by simpa[Go.Lib.deBruijn32tab] using b)];have d: ∀j,j<32->(Go.Lib.deBruijn32tab.map λ n:Nat=>(n:Int)).getD j 0=((Go.Lib.deBruijn32tab.getD j 0:Nat):Int):=by decide
  rw[d j b]
 refine⟨a,?_,λ h=>h⟩;have:=a 0 (by omega);unfold World.cell? at this;split at this
 ·rename_i e
  exact(Array.getElem?_eq_some_iff.1 e).1
 ·cases this
theorem Fa3 (H:Type)(enc:TypeId×Value->H)(W:World)(base:Nat)(args:Array Value)(m gs:List (DataW H))(before:List MemPlace)(c: ∀(j:Nat) t v,Tryz.f6.params[j]?=some t->args[j]?=some v->Value.okWide Tryz.prog W .any base t v)(A:DataW.Whole enc Tryz.prog Tryz.f6.params.toList Rows.krawZerosSpec.vars false W args.toList m gs before)(hk:Rows.uptoSmall H (m ++ gs)=true)(J:laidMetH Tryz.prog Rows.krawZerosUptoRow.laid W):
  Calls Tryz.prog 6 args W λ e W'=>∃v,e = .returned v/\Rows.krawZerosSpec.post enc Tryz.prog Tryz.f6 false true false false W args v W':=by
 have n:=A;obtain⟨p,q,B,K,rfl,aC,aD⟩:=A;have C:DataW.TrodAll enc Tryz.prog W 0 (λ _=>true) true Tryz.f6.params.toList args.toList m p:=B;rw[Tryz.params6] at C c;obtain⟨v0,aE,d0,aF,o,q0,aH,rfl,rfl,D,L⟩:=trodAll_cons C;obtain⟨v1,aI,d1,ds1,r,q1,rfl,rfl,rfl,h1,r1⟩:=trodAll_cons L;obtain⟨v2,aJ,d2,aK,s,q2,rfl,rfl,rfl,E,N⟩:=trodAll_cons r1;obtain⟨v3,aM,d3,aN,u,q3,rfl,rfl,rfl,F,O⟩:=trodAll_cons N;obtain⟨rfl,rfl,rfl⟩:=trodAll_nil O;obtain rfl:args = #[v0,v1,v2,v3]:=by cases args;simp_all
 obtain⟨rfl,rfl⟩:=trodVars_none K;obtain⟨a0,n0,P,rfl⟩:=okWide_slice Tryz.underlying22 (c 0 22 v0 rfl rfl);obtain⟨Q,R,c1,rfl⟩:=okWide_slice Tryz.underlying24 (c 1 24 v1 rfl rfl);obtain⟨⟨S⟩,rfl,T⟩:=Gl8 (c 2 83 v2 rfl rfl);obtain⟨⟨l3⟩,rfl,U⟩:=Gl8 (c 3 83 v3 rfl rfl);clear B;simp only[List.append_nil] at n hk;have g: ∀x∈o ++ (r ++ (s ++ u)),x.block<W.heap.size:=λ x a=>by simpa using n.lt x (by simpa using a)
 have V:Rows.uptoBulkAll [d0,d1,d2,d3]<=1048576:=of_decide_eq_true hk;simp only[Rows.uptoBulkAll] at V;have X:=D;obtain⟨Y,Z⟩:=D;have aa:DataW.trod enc Tryz.prog W 0 (λ _=>true) true Y 22 [.slice a0 n0 P]=some (d0,o):=by simpa[Value.cells] using Z
 obtain⟨s0,L0,w,ab,aQ,G⟩:=Kk2 aa;have ac:=h1;obtain⟨ad,ae⟩:=h1;have af:DataW.trod enc Tryz.prog W 0 (λ _=>true) true ad 24 [.slice Q R c1]=some (d1,r):=by simpa[Value.cells] using ae
 obtain⟨s1,L1,y,ag,aS,ah⟩:=Gc9 af;have ai:=E;obtain⟨aj,ak⟩:=E;have al:DataW.trod enc Tryz.prog W 0 (λ _=>true) true aj 83 S=some (d2,s):=by simpa[Value.cells] using ak
 obtain⟨am,an,ao,rfl⟩:=Gj7 al T;have ap:=F;obtain⟨aq,ar⟩:=F;have au:DataW.trod enc Tryz.prog W 0 (λ _=>true) true aq 83 l3=some (d3,u):=by simpa[Value.cells] using ar
 obtain⟨av,aw,ax,rfl⟩:=Gj7 au U;have hc:=Mz4 (M:=λ _=>False) (j0:=am) (j1:=an) (j2:=ao) (k0:=av) (k1:=aw) (k2:=ax) (Fr5 J) ab ag (λ l I=>⟨by have:=(G l I).1;omega,λ t z=>by have:=(G l I).2 t z;omega⟩) (by omega) (λ t z=>by have:=ah t z;omega);have az:=hc.2 (λ b h=>h.elim);rw[w,y];refine az.mono λ e W' ⟨v,he,aA,hv,_⟩=>⟨v,he,?_⟩;subst hv;have d:=aA.below;refine⟨[d0,d1,d2,d3],[],_,[],o ++ (r ++ (s ++ u)),[],(by rw[<-w,<-y];simpa using n),trodAll_mk1 (shut_bool Tryz.underlying4 _),(by rw[<-w,<-y];exact trodAll_cons_mk (Below.trod laidOut (by kernel_rfl) (of_decide_eq_true (by kernel_rfl)) X d λ x a=>g x (by simp[a])) (trodAll_mk3 (Below.trod laidOut (by kernel_rfl) (of_decide_eq_true (by kernel_rfl)) ac d λ x a=>g x (by simp[a])) (Below.trod laidOut (by kernel_rfl) (of_decide_eq_true (by kernel_rfl)) ai d λ x a=>g x (by simp[a])) (Below.trod laidOut (by kernel_rfl) (of_decide_eq_true (by kernel_rfl)) ap d λ x a=>g x (by simp[a])))),rfl,d.frame _,λ h=>by cases h⟩
noncomputable def Bu8 (os:Os):World:=
 {World.holding Tryz.prog os ⟨#[],#[],[]⟩ with heap:=(World.holding Tryz.prog os ⟨#[],#[],[]⟩).heap.modify 1 fun
   | .cells _ t frozen=>.cells #[.int .u8 0,.int .u8 1,.int .u8 28,.int .u8 2,.int .u8 29,.int .u8 14,.int .u8 24,.int .u8 3,.int .u8 30,.int .u8 22,.int .u8 20,.int .u8 15,.int .u8 25,.int .u8 17,.int .u8 4,.int .u8 8,.int .u8 31,.int .u8 27,.int .u8 13,.int .u8 23,.int .u8 21,.int .u8 19,.int .u8 16,.int .u8 7,.int .u8 26,.int .u8 12,.int .u8 18,.int .u8 6,.int .u8 11,.int .u8 5,.int .u8 10,.int .u8 9] t frozen
   | o=>o }
theorem Fa2 (os:Os):laidMet Tryz.prog Rows.krawZerosUptoRow.laid ((Bu8 os).forCall (λ _ _=>0) ⟨#[],#[.slice none 0 0,.slice none 0 0,.agg ⟨[.int .i64 0,.int .i64 0,.int .i64 0]⟩,.agg ⟨[.int .i64 0,.int .i64 0,.int .i64 0]⟩],[]⟩).memory:=
 laidMet_of_run' 8 (by kernel_rfl) (by kernel_rfl)
theorem reads {H:Type}(os:Os)(enc:TypeId×Value->H): ∃places,DataW.whole enc Tryz.prog ((Bu8 os).forCall (λ _ _=>0) ⟨#[],#[.slice none 0 0,.slice none 0 0,.agg ⟨[.int .i64 0,.int .i64 0,.int .i64 0]⟩,.agg ⟨[.int .i64 0,.int .i64 0,.int .i64 0]⟩],[]⟩).memory Tryz.f6.params.toList Rows.krawZerosSpec.vars false (#[.slice none 0 0,.slice none 0 0,.agg ⟨[.int .i64 0,.int .i64 0,.int .i64 0]⟩,.agg ⟨[.int .i64 0,.int .i64 0,.int .i64 0]⟩]:Array Value).toList 8=some ([.nil,.nil,.agg [.lit (.int .i64 0),.lit (.int .i64 0),.lit (.int .i64 0)],.agg [.lit (.int .i64 0),.lit (.int .i64 0),.lit (.int .i64 0)]],[],places):=
 ⟨[],by kernel_rfl⟩
theorem lifted (os:Os)(started:os.Started)(H:Type)(enc:TypeId×Value->H)(F:Stop.Interp):
  ReturnsInHanded {} Tryz.checked os 6 .any ((Rows.OpenSpec.upto Rows.krawZerosSpec).preRow enc Tryz.prog Tryz.f6 Rows.krawZerosUptoRow.domain false Rows.krawZerosUptoRow.laid) (((Rows.OpenSpec.upto Rows.krawZerosSpec).at F).post enc Tryz.prog Tryz.f6 false true false false):=by
 obtain⟨places,a⟩:=reads os enc;refine returnsInHanded_of_row (C:=Tryz.checked) (s:=Rows.OpenSpec.upto Rows.krawZerosSpec) Cp9 started (by kernel_rfl) Tryz.func6
  (witness_row_at (enc:=enc) (C:=Tryz.checked) false (Bu8 os) #[.slice none 0 0,.slice none 0 0,.agg ⟨[.int .i64 0,.int .i64 0,.int .i64 0]⟩,.agg ⟨[.int .i64 0,.int .i64 0,.int .i64 0]⟩] rfl (by kernel_rfl) (by kernel_rfl) (by kernel_rfl)
   (OpenSpec.preRow_of_cond 8 a (by kernel_rfl) (λ k hk=>by cases hk;kernel_rfl) (by kernel_rfl) (Fa2 os))) ?_
 intro W base args b gs before c d _ e _ g _ _;exact Fa3 H enc W base args b gs before c d (e _ rfl) g
theorem Fj9:Fc7 Tryz.checked.prog 6 Tryz.f6 (Rows.OpenSpec.upto Rows.krawZerosSpec).bare Rows.krawZerosUptoRow=true:=by kernel_rfl
theorem Fl9:Fd9 Tryz.checked.prog 6 Tryz.f6 (Rows.OpenSpec.upto Rows.krawZerosSpec).bare Rows.krawZerosUptoRow=true:=by kernel_rfl
theorem Fl2:Fe1 Tryz.checked.prog 6 Tryz.f6 (Rows.OpenSpec.upto Rows.krawZerosSpec).bare Rows.krawZerosUptoRow=true:=by kernel_rfl
theorem Fn7:Fd2 Tryz.checked.prog 6 Tryz.f6 (Rows.OpenSpec.upto Rows.krawZerosSpec).bare Rows.krawZerosUptoRow=true:=by kernel_rfl
theorem Fj6:Fd4 Tryz.checked.prog 6 Tryz.f6 (Rows.OpenSpec.upto Rows.krawZerosSpec).bare Rows.krawZerosUptoRow=true:=by kernel_rfl
theorem Et8:Rows.KrawZerosUptoSaid:=
 OpenClaim.holds_of_cond 6 Tryz.f6 rfl rfl rfl rfl rfl rfl rfl ⟨rfl,rfl,rfl,rfl,rfl⟩ rfl rfl rfl rfl rfl (by kernel_rfl) Tryz.func6 (Eo7 Fj9 Fl9 Fl2 Fn7 Fj6)
  (of_decide_eq_true (by kernel_rfl)) (by unfold Func.isWrapper;first | (rw[if_pos (by decide +kernel)];kernel_rfl) | (rw[if_neg (by decide +kernel)];exact⟨rfl,rfl⟩))
  (λ os started H enc _ F=>by rw[OpenClaim.pre_eq_preRow];exact lifted os started H enc F)
theorem plain (f:FuncId)(fn:Func)(b:Tryz.pinned.checked.prog.funcNamed "cincture/cincturelaw12.KrawZeros" = some f)(e:Tryz.pinned.checked.prog.funcs[f]?=some fn):
  false=Tryz.pinned.checked.prog.looks []/\∀(j:Nat) t,fn.params[j]?=some t->Tryz.pinned.checked.prog.wantsStandIn t=false:=by
 obtain rfl:f=6:=Option.some.inj ((show Tryz.prog.funcNamed "cincture/cincturelaw12.KrawZeros" = some 6 by kernel_rfl).symm.trans b) |>.symm;obtain rfl:fn=Tryz.f6:=(Option.some.inj (Tryz.func6.symm.trans e)).symm;refine⟨by kernel_rfl,λ j t a=>?_⟩;rw[Tryz.params6] at a;have hm:t∈[22,24,83,83]:=by simpa using Array.mem_of_getElem? a
 have g:([22,24,83,83].all λ u=>!Tryz.prog.wantsStandIn u)=true:=by kernel_rfl
 exact(show Tryz.prog.wantsStandIn t=false by simpa using List.all_eq_true.1 g t hm)
theorem krawZeros_card:Rows.KrawZerosUptoCardSaid:=
 Claim7.holds_tied_plain_at .later [] _ _ _ _ Et8 (λ _ h=>by cases h) (by kernel_rfl) (λ _ h=>by cases h) krawZerosUpto_row_tie rfl ⟨rfl,rfl⟩ (by kernel_rfl) rfl plain (by kernel_rfl)
#print axioms krawZeros_card
end Go.Proofs.YtkgeopnakkcdoaaGreatDoor
