import Derived.Test.YtkgeopnakkcdoaaGreatW10
import Derived.Test.YtkgeopnakkcdoaaGreatW7
import Derived.Test.YtkgeopnakkcdoaaGreatR6
import Derived.Test.YtkgeopnakkcdoaaGreatLib4
import Derived.Test.YtkgeopnakkcdoaaGreatW11
import Derived.Test.YtkgeopnakkcdoaaGreatW8
import Derived.Test.YtkgeopnakkcdoaaGreatLib2
import Derived.Test.YtkgeopnakkcdoaaGreatLib3
import Derived.Test.YtkgeopnakkcdoaaGreatRows
import Derived.WalkKit
import Derived.ProofKit
import Derived.OpenShut
import Derived.JoinedCond
import Derived.Carry
import Derived.Deep.Strs
import Derived.Deep.Slices
set_option linter.unusedVariables false
set_option linter.unusedSimpArgs false
set_option maxRecDepth 100000
namespace Go.Proofs.YtkgeopnakkcdoaaGreat
open Go Go.SX
variable {D k kb kx m rx:Nat}{K:Value->PW->Prop}{M:Nat->Prop}{W W0:PW}{b:Nat->Iv}{e ex:Int}{l lx:List Value}{p:List Tm}{s:Sl}{x:Mdl}
theorem Lm4 {q:Rat}{E:Nat}{n:Nat}(h:Ak3 D n q){c:Nat}(d:c*E=2520):Ak3 (D*2520) (n*2520) (q/(c:Rat)):=by
 obtain⟨z,h1,o⟩:=h;have r:(c:Rat)≠0:=λ e=>by
  have:c=0:=by exact_mod_cast e
  rw[this] at d;omega
 refine⟨z*E,?_,?_⟩
 ·rw[Rat.intCast_mul,<-h1,<-d,Rat.natCast_mul,Rat.natCast_mul]
  have:((E:Int):Rat)=(E:Rat):=rfl;rw[this,Rat.div_def];have t:(c:Rat)⁻¹ * (c:Rat)=1:=Rat.inv_mul_cancel _ r;grind
 ·rw[Int.natAbs_mul,Int.natAbs_natCast]
  have:E<=2520:=by
   have:0<c:=by
    rcases Nat.eq_zero_or_pos c with e | e
    ·rw[e] at d;omega
    ·exact e
   have:=Nat.le_mul_of_pos_left E this;omega
  exact Nat.mul_le_mul o this
theorem Mg1 {N:Nat}(h:Fit D N p)(he: ∀t∈p,0<=t.1.z/\t.1.z<=8):Fit (D*2520) (N*2520) (Ln3 p):=by
 induction p generalizing N with
 | nil=>trivial
 | cons t r ih=>
  obtain⟨a,b,h1,d,n⟩:=h;have o:=he t (by simp);refine⟨a*2520,b*2520,by rw[<-Nat.add_mul];exact Nat.mul_le_mul_right _ h1,?_,ih n λ u hu=>he u (by simp[hu])⟩;obtain⟨c,q⟩:=Int.eq_ofNat_of_zero_le o.1;have v:(rsT t).2=t.2/(((c+1:Nat)):Rat):=by
   show t.2/((t.1.z+1:Int):Rat)=_;rw[q];rfl
  rw[v];rcases(by omega:c=0\/c=1\/c=2\/c=3\/c=4\/c=5\/c=6\/c=7\/c=8) with rfl | rfl | rfl | rfl | rfl | rfl | rfl | rfl | rfl
  ·exact Lm4 d (E:=2520) (by decide)
  ·exact Lm4 d (E:=1260) (by decide)
  ·exact Lm4 d (E:=840) (by decide)
  ·exact Lm4 d (E:=630) (by decide)
  ·exact Lm4 d (E:=504) (by decide)
  ·exact Lm4 d (E:=420) (by decide)
  ·exact Lm4 d (E:=360) (by decide)
  ·exact Lm4 d (E:=315) (by decide)
  ·exact Lm4 d (E:=280) (by decide)
theorem Mh4 (h:Bd k p)(he: ∀t∈p,0<=t.1.z/\t.1.z<=8):Bd (k+1) (Ln3 p):=by
 obtain⟨D,N,h1,c,d,n⟩:=h;have o:=Ae5 D 2520;have q:=Ae5 N 2520;have r:nl 2520<=1:=Bc6 (by decide);exact⟨D*2520,N*2520,Mg1 h1 he,Nat.mul_ne_zero c (by decide),by omega,by omega⟩
theorem Lw4 (h:Ab0 214 180 W0 s p)(N: ∀t∈p,Sz k t.2)(he:Gk4 e p)(aj:e<=254)(O:Bd kb (Ln3 p))(hk:kb<=30000000)(ak:k<=30000000)(hl:p.length<=32768):
  Aa0 Tryz.prog 102 [.agg ⟨[s.v]⟩] W0 M λ v W'=>∃(s':Sl),v = .tuple ⟨[.agg ⟨[Sl.v s']⟩,.bool true]⟩/\Ab0 214 180 W' s' (Ag2 (Ln3 p)):=by
 apply Lu3;obtain⟨xs,P,c⟩:=h;have am:=c.len;refine Ba1 P (by omega) λ s3 W2 Q ⟨hF,hO⟩=>⟨s3,rfl,?_⟩;have G: ∀g,s3.v.ownBlock=some g->may W0 M g:=λ g I=>.inr (hF g I);have hn:s3.n=xs.length:=hO.row.1;refine⟨rsI s3 p,cn1 p.length,⟨0,xs,rfl,Nat.zero_le _,hO,?_⟩,?_⟩
 ·show An5 _ xs (Ln3 (p.take 0) ++ p.drop 0)
  exact c.mono λ _ _ h=>h.ext Q
 rintro s6 i7 R ⟨j,xs,rfl,hj,hO,c⟩;refine⟨λ ar=>?_,λ au=>?_⟩
 ·have o:j<p.length:=by omega
  obtain⟨x,q,S,s1,b1,s2,rfl,U⟩:=c.get (Mg5 o);have av:=he _ (List.getElem_mem o);have V:=N _ (List.getElem_mem o);have X:=S;unfold Mon.ok at X;have d:SX.inB s3 (j:Int):=hO.row.inB (by omega) (by have:=(List.getElem?_eq_some_iff.1 q).1;omega);have J:Aa7 R s3 6 j 2 [.int .u8 p[j].1.z]:=hO.row.part q 2 rfl;have r:(0:Int)<=2/\(2:Int)<3:=⟨by omega,by omega⟩;refine⟨d,r,_,J,λ h=>by omega,λ _=>⟨d,r,_,J,d,r,?_⟩⟩;rw[Du1 (by omega) (by omega)];refine Dm0 hO q (off:=2) (by simp) (by intro u hu;rw[List.mem_singleton.1 hu];rfl) G λ y g I hw n=>?_;have Y:=(List.getElem?_eq_some_iff.1 q).1;have A:(xs.set j [.int .u8 p[j].1.x,.int .u8 p[j].1.y,.int .u8 (p[j].1.z+1),s1.v,.bool b1,s2.v])[j]?=some [.int .u8 p[j].1.x,.int .u8 p[j].1.y,.int .u8 (p[j].1.z+1),s1.v,.bool b1,s2.v]:=by simp[Y]
  have n:Go.SX.Own y 180 6 s3 (xs.set j [.int .u8 p[j].1.x,.int .u8 p[j].1.y,.int .u8 (p[j].1.z+1),s1.v,.bool b1,s2.v]):=n;have a2:Aa7 y s3 6 j 3 [s1.v,.bool b1,s2.v]:=n.row.part A 3 rfl;have a3:Aa7 y s3 6 j 2 [.int .u8 (p[j].1.z+1)]:=n.row.part A 2 rfl;refine⟨d,s1,b1,s2,a2,d,r,_,a3,by unfold I64;omega,?_⟩;refine Ay8 (z:=p[j].1.z+1) (by unfold I64;omega) λ Z aa ab aw w ac=>⟨Z,aa,ab,rfl,w,?_⟩;refine Gb1 (k:=k) (l:=1) ((hw.rat U (by decide)).ext w) ac V (Gs8 (by omega) (by omega)) (by omega) (by omega) (by omega) λ B C E ax F ad=>⟨B,C,E,_,rfl,F,d,?_⟩;refine Dm0 (n.ext (w.trans F)) A (off:=3) (by simp) (by
   intro u hu;simp only[List.mem_cons,List.not_mem_nil,or_false] at hu;rcases hu with rfl | rfl | rfl<;>rfl) G λ ay g' aA L ae=>⟨by unfold I64;omega,⟨j+1,_,by push_cast;rfl,by omega,ae,?_⟩,?_⟩
  ·rw[Int.toNat_natCast,List.set_set,<-Mf1 o]
   have af:=Mh1 L ((Mh1 hw c).mono λ _ _ h=>h.ext (w.trans F));refine af.set j (x:=[.int .u8 p[j].1.x,.int .u8 p[j].1.y,.int .u8 (p[j].1.z+1),B.v,.bool C,E.v]) ⟨?_,B,C,E,rfl,L.rat ad (by decide)⟩;unfold rsT Mon.ok;dsimp only;omega
  ·show p.length-Int.toNat ((j:Int)+1)<p.length-Int.toNat (j:Int)
   omega
 ·have aB:=c.len
  have aC:(Mf0 p j).length=p.length:=by simp[Mf0,Ln3];omega
  have aD:s3.n=xs.length:=hO.row.1;have:j=p.length:=by omega
  subst this;rw[Mf3] at c;exact An2 ⟨xs,hO.row,c⟩ O (by omega) (by rw[Lp3];omega) λ ag aE aF ah=>⟨ag,rfl,λ aG ai=>⟨_,rfl,ah.ext ai⟩⟩
theorem Lr4 (h:Ab0 214 180 W s p)(d: ∀t∈p,Sz k t.2)(he:Gk4 e p)(n:e<=254)(o:Bd kb (Ln3 p))(hk:kb<=30000000)(q:k<=30000000)(r:p.length<=32768)(u: ∀(s':Sl) (W':PW),Ext W W'->(Ab0 214 180 W' s' (Ag2 (Ln3 p)))->K (.tuple ⟨[.agg ⟨[Sl.v s']⟩,.bool true]⟩) W'):
  Aa1 Tryz.prog W0 M 102 [.agg ⟨[s.v]⟩] W K:=
 Mi4 (λ _ c=>Lw4 (h.ext c) d he n o hk q r) fun | _,W',c,⟨s',rfl,h⟩=>u s' W' c h
theorem Lx8 {n:Int}(Q:Lm6 214 W0 l b n)(R:MdV 214 180 W0 lx x)(c:MdB kx rx ex x)(hm: ∀i,BdI m (b i))(q:m<=7)(y:ex<=254)(z:Bd kb (Ln3 x.1))(hk:kb<=30000000)(S:kx<=30000000)(hr:rx<=30000000)(U:x.1.length<=32768):
  Aa0 Tryz.prog 47 [.agg ⟨l⟩,.agg ⟨lx⟩] W0 M λ v W'=>∃(r:List Value),v = .tuple ⟨[.agg ⟨r⟩,.bool (decide (Ll9 b n))]⟩/\MdV 214 180 W' r (if Ll9 b n then Lo2 b n x else Lp4):=by
 obtain⟨l',rfl,A⟩:=Q;have V:=A;obtain⟨s0,b0,t0,s1,b1,t1,s2,b2,t2,s3,b3,t3,s4,b4,t4,s5,b5,t5,rfl,_,_,B⟩:=A;obtain⟨px,u0,c0,v0,u1,c1,v1,rfl,X,Y⟩:=MdV.pts R;apply Lx1;have Z:=c.bd.sz;have C:=z;have E:Gk4 (ex+1) (Ag2 (Ln3 x.1)):=Gk4.norm (Md7 c.ok y);have aa:=El2 (Ln3 x.1);rw[Lp3] at aa;refine Lr4 X Z c.ok y z hk S U λ ab W2 F h2=>⟨ab,true,rfl,?_⟩;refine Lm7 (Lm6.mk (V.ext F)) h2 (Ce8 _) C.norm hm q E (by omega) (by omega) (by omega) λ r W6 ad G=>G.out λ s7 s8 b9 aD aE aF aG G I J=>⟨λ e=>(by cases e),λ _=>⟨λ ae af aH=>?_,λ ag=>?_⟩⟩
 ·have h:¬Fc6 b n:=by simpa using ae
  have d:¬Ll9 b n:=λ e=>h e.1;rw[decide_eq_false d,if_neg d];exact⟨_,rfl,MdV.zero af⟩
 have L:Fc6 b n:=by simpa using ag
 rw[if_pos L] at I J;have t:=F.trans ad;have hq:=B.two;refine⟨⟨by omega,by omega⟩,Bk6 (hq.1.ext t) ((hm 2).mono q).sz.1 (by omega) λ aI o _=>⟨_,rfl,λ ai aj aJ=>?_,λ heq=>?_⟩⟩
 ·have d:¬Ll9 b n:=λ e=>ai ((Be6 _ _).2 e.2)
  rw[decide_eq_false d,if_neg d];exact⟨_,rfl,MdV.zero aj⟩
 have N:Ll9 b n:=⟨L,(Be6 _ _).1 (Decidable.not_not.1 heq)⟩;rw[decide_eq_true N,if_pos N];have hc:=MdB.cut (n:=n) C.norm (Ce8 _) hm q E (by omega);have d1:=c.rest.mul (hm 2);refine⟨⟨by omega,by omega⟩,Cx4 (Y.ext (t.trans o)) (B.ext (t.trans o)) (c.rest.mono (show _<=30000000 by omega)).sz ((hm 2).mono (by omega)).sz (by omega) λ r aK O u=>u.out λ aL aM aN aO aP aQ u=>?_⟩;exact Cy0 (J.ext (o.trans O)) u (hc.rest.mono (show _<=100000000 by omega)).sz (d1.mono (by omega)).sz (by omega) λ r aR al w=>w.out λ aS aT aU aV aW aX w aY P=>⟨_,rfl,MdV.mk (x:=Lo2 b n x) (I.ext (o.trans (O.trans (al.trans P)))) (w.ext P)⟩
theorem Lt6 {n:Int}(d:Lm6 214 W l b n)(o:MdV 214 180 W lx x)(q:MdB kx rx ex x)(hm: ∀i,BdI m (b i))(t:m<=7)(u:ex<=254)(v:Bd kb (Ln3 x.1))(hk:kb<=30000000)(w:kx<=30000000)(y:rx<=30000000)(z:x.1.length<=32768)(A: ∀(r:List Value) (W':PW),Ext W W'->(MdV 214 180 W' r (if Ll9 b n then Lo2 b n x else Lp4))->K (.tuple ⟨[.agg ⟨r⟩,.bool (decide (Ll9 b n))]⟩) W'):
  Aa1 Tryz.prog W0 M 47 [.agg ⟨l⟩,.agg ⟨lx⟩] W K:=
 Mi4 (λ _ c=>Lx8 (d.ext c) (o.ext c) q hm t u v hk w y z) fun | _,W',c,⟨r,rfl,h⟩=>A r W' c h
theorem Lz8 {n:Int}(hD:Ll5 214 W0 l b n)(hx:Ll6 214 119 W0 lx x)(c:MdB kx rx ex x)(hm: ∀i,BdI m (b i))(ho: ∀i,(b i).1<=(b i).2)(u:m<=7)(ak:ex<=254)(J: ∀j,Bd kb (Ln3 (x.1.take j)))(hk:kb<=30000000)(aS:kx<=30000000)(hr:rx<=30000000)(aU:x.1.length<=32768):
  Aa0 Tryz.prog 52 [.agg ⟨l⟩,.agg ⟨lx⟩] W0 M λ v W'=>∃(r:List Value),v = .tuple ⟨[.agg ⟨r⟩,.bool (decide (Ll9 b n))]⟩/\Ll6 214 119 W' r (if Ll9 b n then Lo2 b n x else Lp4):=by
 obtain⟨l',rfl,N⟩:=hD;have O:=N;obtain⟨b0,s0,t0,b1,s1,t1,b2,s2,t2,b3,s3,t3,b4,s4,t4,b5,s5,t5,rfl,_,_,P⟩:=N;obtain⟨px,u0,c0,v0,u1,c1,v1,rfl,al,am⟩:=Ll6.pts hx;apply Lw3;have Q:=c.bd.sz;have w:=J x.1.length;rw[List.take_length] at w;have R:Gk4 (ex+1) (Ag2 (Ln3 x.1)):=Gk4.norm (Md7 c.ok ak);have an:=El2 (Ln3 x.1);rw[Lp3] at an;refine Ll2 (k:=7) (Ll5.mk O) (λ i=>((hm i).mono u).sz) (by omega) λ W2 S _=>⟨_,rfl,λ ao W4 a5=>?_,λ aq=>?_⟩
 ·have h:¬Fc6 b n:=by simpa using ao
  have d:¬Ll9 b n:=λ e=>h e.1;rw[decide_eq_false d,if_neg d];exact⟨_,rfl,Ll6.zero W4⟩
 have U:Fc6 b n:=by simpa using aq
 have y:=P.two;refine⟨⟨by omega,by omega⟩,Aq7 (y.1.ext S).1 λ V ar _=>⟨_,rfl,λ au W8 a6=>?_,λ heq=>?_⟩⟩
 ·have d:¬Ll9 b n:=λ e=>au (by rw[Bo6];exact(Be6 _ _).2 e.2)
  rw[decide_eq_false d,if_neg d];exact⟨_,rfl,Ll6.zero W8⟩
 have X:Ll9 b n:=⟨U,by have:=Decidable.not_not.1 heq;rw[Bo6] at this;exact(Be6 _ _).1 this⟩;rw[decide_eq_true X,if_pos X];have Y:=S.trans ar;refine⟨Mh8 V x.1,λ L _=>match L with | [_,.val (.int .i64 i),_]=>x.1.length-i.toNat | _=>0,⟨0,rfl,Nat.zero_le _,Ext.refl _,Ag1.nil V⟩,?_⟩;rintro a7 a8 a9 ba bb bc bd aw i19 ax ⟨j,rfl,hj,A,o⟩;have o:Ag1 214 119 ax aw (Ag2 (Ln3 (x.1.take j))):=o;have B:=al.ext (Y.trans A);have hn:=B.n;refine⟨λ bg=>?_,λ bh=>?_⟩
 ·have C:j<x.1.length:=by omega
  have E:=List.getElem_mem C;obtain⟨h0,d1,d2,d3,_,e2,e3,y⟩:=B.at (List.getElem?_eq_getElem C);have Z:=B.inB (i:=(j:Int)) (by omega) (by omega);have bi:=c.ok _ E;have aB:=h0;unfold Mon.ok at aB;have q:(0:Int)<=2/\(2:Int)<3:=⟨by omega,by omega⟩;refine⟨Z,_,_,_,e2,q,by unfold I64;omega,λ h=>by omega,λ _=>⟨q,q,Z,d1,d2,d3,e3,q,?_⟩⟩;rw[Du1 (by omega) (by omega)];have aC:=El2 (Ln3 (x.1.take j));rw[Lp3,List.length_take] at aC;have aD:((x.1[j].1.z+1:Int):Rat)≠0:=by
   intro h;have:x.1[j].1.z+1=0:=by exact_mod_cast h
   omega
  refine⟨by unfold I64;omega,Ak1 (z:=x.1[j].1.z+1) (by unfold I64;omega) λ aE aF aG bj t aH=>⟨aE,aF,aG,rfl,t,Io3 (k:=kx) (l:=1) (y.ext t) aH (Q _ E) (Gs8 (by omega) (by omega)) aD (by omega) (by omega) λ aI aJ aK bk aa aL=>⟨aI,aJ,aK,rfl,?_⟩⟩⟩;have aM:=J j;refine Hd1 (k:=30000001) (m:=⟨x.1[j].1.x,x.1[j].1.y,x.1[j].1.z+1⟩) (o.ext (t.trans aa)) aL (by unfold Mon.ok;dsimp only;omega) (aM.norm.mono (by omega)).sz (((Q _ E).div (l:=1) (Gs8 (by omega) (by omega)) (by omega)).mono (by omega)) (by omega) (by omega) λ aN bl aO aP=>⟨aN,rfl,by unfold I64;omega,⟨j+1,by push_cast;rfl,by omega,A.trans (t.trans (aa.trans aO)),?_⟩,?_⟩
  ·rw[List.take_succ_eq_append_getElem C,show Ln3 (x.1.take j ++ [x.1[j]])=Ln3 (x.1.take j) ++ [rsT x.1[j]] from List.map_append,Hn2]
   exact aP
  ·show x.1.length-Int.toNat ((j:Int)+1)<x.1.length-Int.toNat (j:Int)
   omega
 ·have:j=x.1.length:=by omega
  subst this;rw[List.take_length] at o;have F:=Y.trans A;refine Ln1 (Ll5.mk (O.ext F)) o w.norm hm ho u R (by omega) (by omega) (by omega) λ r bm ab ac=>ac.out λ bn bo bp bq br bs bt ac ad ae=>?_;rw[if_pos U] at ad ae;have hc:=MdB.cut (n:=n) w.norm (Ce8 _) hm u R (by omega);have d1:=c.rest.mul (hm 2);refine⟨⟨by omega,by omega⟩,Bt1 (am.ext (F.trans ab)) (P.ext (F.trans ab)) (c.rest.mono (show _<=30000000 by omega)).sz ((hm 2).mono (by omega)).sz (by omega) λ r bu af G=>G.out λ bv bw bz bA bB bC G=>?_⟩;exact Bp3 (ae.ext af) G (hc.rest.mono (show _<=100000000 by omega)).sz (d1.mono (by omega)).sz (by omega) λ r bD aR I=>I.out λ bE bF bG bH bI bJ I bK ag=>⟨_,rfl,Ll6.mk (x:=Lo2 b n x) (ad.ext (af.trans (aR.trans ag))) (I.ext ag)⟩
theorem Lv2 {n:Int}(d:Ll5 214 W l b n)(o:Ll6 214 119 W lx x)(q:MdB kx rx ex x)(hm: ∀i,BdI m (b i))(t: ∀i,(b i).1<=(b i).2)(u:m<=7)(v:ex<=254)(w: ∀j,Bd kb (Ln3 (x.1.take j)))(hk:kb<=30000000)(y:kx<=30000000)(z:rx<=30000000)(A:x.1.length<=32768)(B: ∀(r:List Value) (W':PW),Ext W W'->(Ll6 214 119 W' r (if Ll9 b n then Lo2 b n x else Lp4))->K (.tuple ⟨[.agg ⟨r⟩,.bool (decide (Ll9 b n))]⟩) W'):
  Aa1 Tryz.prog W0 M 52 [.agg ⟨l⟩,.agg ⟨lx⟩] W K:=
 Mi4 (λ _ c=>Lz8 (d.ext c) (o.ext c) q hm t u v w hk y z A) fun | _,W',c,⟨r,rfl,h⟩=>B r W' c h
end Go.Proofs.YtkgeopnakkcdoaaGreat
namespace Go.Proofs.YtkgeopnakkcdoaaGreat
open Go Go.SX
variable {M:Nat->Prop}{T:List (List (Mon×ByteArray))}{W0:PW}{s:Sl}
abbrev Ps (W:PW) (s:Sl) (c:List (List Tm)):Prop:=Gf4 214 180 W s c
abbrev RPs (W:PW) (s:Sl) (c:List (List Tm)):Prop:=Jz0 214 119 W s c
def Kj9 (T:List (List (Mon×ByteArray))) (exp:Int) (c:List (List Tm)):Prop:=An5 (λ l p=>Ff1 l exp p) T c
theorem Kj9.at {c:List (List Tm)}{i:Nat}{exp:Int}(h:Kj9 T exp c)(hi:i<c.length): ∃l,Ff1 l exp c[i]/\T[i]?=some l:=by
 obtain⟨l,d,n⟩:=An5.get h (List.getElem?_eq_getElem hi);exact⟨l,n,d⟩
def Kq0 (n:Nat) (l:List PL) (_:PW):Nat:=match l with
 | [.val (.int .i64 i)]=>n-i.toNat
 | _=>0
def Kr2 (W0:PW) (T:List (List (Mon×ByteArray))) (exp:Int) (L:List PL) (W:PW):Prop:=match L with
 | [.row xs,.row ys,.val (.int .i64 i)]=>∃(j:Nat) (c:List (List Tm)),i=(j:Int)/\j<=T.length/\Ext W0 W/\Kj9 (T.take j) exp c/\An5 (Gx4 214 180 W) xs c/\An5 (Ke9 214 119 W) ys c
 | _=>False
theorem Kh1 {exp:Int}(h:Jz1 W0 s T)(E: ∀l∈T,l.length<=1099511627776/\∀t∈l,t.2.size<=1099511627776):
  Aa0 Tryz.prog 4 [s.v,.int .i64 exp] W0 M λ v W'=>∃(s1:Sl),∃(s2:Sl),∃(b:Bool),v = .tuple ⟨[Sl.v s1,Sl.v s2,.bool b]⟩/\(b=true->∃c,Kj9 T exp c/\T.length<=4/\Ps W' s1 c/\RPs W' s2 c):=by
 apply Kc1;have X:=h.n;refine⟨λ _ Y _=>⟨⟨none,0,0⟩,⟨none,0,0⟩,false,rfl,λ e=>by cases e⟩,λ Z=>⟨Kr2 W0 T exp,λ L _=>match L with | [_,_,.val (.int .i64 i)]=>T.length-i.toNat | _=>0,⟨0,[],rfl,Nat.zero_le _,Ext.refl _,trivial,trivial,trivial⟩,?_⟩⟩;rintro l4 F i6 W7 ⟨j,c,rfl,hj,y,d,o,q⟩;have ac:=o.len;have ad:=q.len;have G:=An5.len d;rw[List.length_take] at G;refine⟨λ ae=>?_,λ af I ag z hO _ J ah r N _ ai n=>⟨I,J,true,rfl,λ _=>?_⟩⟩
 ·have u:j<T.length:=by omega
  have A:=h.ext y;obtain⟨x,O,P⟩:=A.at u;obtain⟨Q,z2⟩:=E _ (List.getElem_mem u);refine⟨A.inB (by omega) (by omega),x,O,Dn6 P Q z2 λ B C R aj w g=>⟨B,C,R,rfl,λ _ ak _=>⟨⟨none,0,0⟩,⟨none,0,0⟩,false,rfl,λ e=>(by cases e)⟩,λ S=>?_⟩⟩;obtain⟨p,op,U,V⟩:=g (by simpa using S);refine⟨by simp only[List.length_cons,List.length_nil];omega,by simp only[List.length_cons,List.length_nil];omega,by unfold I64;omega,⟨j+1,c ++ [p],by push_cast;rfl,by omega,y.trans w,?_,(o.mono λ _ _ h=>h.ext w).snoc ⟨B,rfl,U⟩,(q.mono λ _ _ h=>h.ext w).snoc ⟨C,rfl,V⟩⟩,?_⟩
  ·have e:T.take (j+1)=T.take j ++ [T[j]]:=by rw[List.take_add_one,List.getElem?_eq_getElem u];rfl
   rw[e];exact An5.snoc d op
  ·show T.length-Int.toNat ((j:Int)+1)<T.length-Int.toNat (j:Int)
   omega
 ·have:j=T.length:=by omega
  subst this;rw[List.take_length] at d;exact⟨c,d,by omega,⟨l4,⟨_,((hO.ext r).ext n).row⟩,o.mono λ _ _ h=>h.ext (z.trans (r.trans n))⟩,⟨F,⟨_,(N.ext n).row⟩,q.mono λ _ _ h=>h.ext (z.trans (r.trans n))⟩⟩
theorem Ke6 {W:PW}{K:Value->PW->Prop}{exp:Int}(h:Jz1 W s T)(n: ∀l∈T,l.length<=1099511627776/\∀t∈l,t.2.size<=1099511627776)(o: ∀(s1:Sl) (s2:Sl) (b:Bool) (W':PW),Ext W W'->((b=true->∃c,Kj9 T exp c/\T.length<=4/\Ps W' s1 c/\RPs W' s2 c))->K (.tuple ⟨[Sl.v s1,Sl.v s2,.bool b]⟩) W'):
  Aa1 Tryz.prog W0 M 4 [s.v,.int .i64 exp] W K:=
 Mi4 (λ _ d=>Kh1 (h.ext d) n) fun | _,W',d,⟨s1,s2,b,rfl,h⟩=>o s1 s2 b W' d h
end Go.Proofs.YtkgeopnakkcdoaaGreat
namespace Go.Proofs.YtkgeopnakkcdoaaGreat
open Go Go.SX
variable {K:Value->PW->Prop}{M:Nat->Prop}{W W0:PW}{f:List (List Tm)}{g:List Tm}{i j l:Nat}{k:Int}{s sg:Sl}
def Jz8 (f:List (List Tm)):Prop:=(∀p∈f,Fd0 Cx8 0 p<=(f.length:Int))/\1<=f.length/\f.length<=2
instance (f:List (List Tm)):Decidable (Jz8 f):=inferInstanceAs (Decidable (_/\_))
def frI (W0:PW) (f:List (List Tm)) (L:List PL) (W:PW):Prop:=match L with
 | [.val (.int .i64 i)]=>∃j:Nat,i=(j:Int)/\j<=f.length/\Ext W0 W/\∀p∈f.take j,Fd0 Cx8 0 p<=(f.length:Int)
 | _=>False
theorem Ki0 {α:Type}{Q:α->Prop}{l:List α}(d:j<l.length)(h: ∀p∈l.take j,Q p)(n:Q l[j]): ∀p∈l.take (j+1),Q p:=λ p c=>by
 rw[List.take_add_one,List.getElem?_eq_getElem d] at c;rcases List.mem_append.1 c with c | c
 ·exact h p c
 ·have:p=l[j]:=by simpa using c
  rw[this];exact n
theorem Kg9 (h:Ps W0 s f)(u:f.length<=1099511627776)(d: ∀p∈f,p.length<=1099511627776):
  Aa0 Tryz.prog 32 [s.v] W0 M λ v W'=>v = .bool (decide (Jz8 f))/\True:=by
 apply Ke5;have w:=h.n;refine⟨frI W0 f,Kq0 f.length,⟨0,rfl,Nat.zero_le _,Ext.refl _,λ p d=>by simp at d⟩,?_⟩;rintro i3 y ⟨j,rfl,z,n,o⟩;refine⟨λ A=>?_,λ B=>?_⟩
 ·have c:j<f.length:=by omega
  obtain⟨x,q,r⟩:=(h.ext n).at c;refine⟨(h.ext n).inB (by omega) (by omega),x,q,Co3 r (d _ (List.getElem_mem c)) λ C t _=>⟨_,rfl,λ E F _=>⟨?_,trivial⟩,λ G=>⟨by unfold I64;omega,⟨j+1,by push_cast;rfl,by omega,n.trans t,Ki0 c o (by omega)⟩,?_⟩⟩⟩
  ·rw[decide_eq_false]
   intro hF;have:=hF.1 _ (List.getElem_mem c);omega
  ·show f.length-Int.toNat ((j:Int)+1)<f.length-Int.toNat (j:Int)
   omega
 ·have:j=f.length:=by omega
  subst this;rw[List.take_length] at o;refine⟨λ h1 I _=>⟨?_,trivial⟩,λ h1 J _=>⟨?_,trivial⟩⟩
  ·congr 1
   rw[decide_eq_decide];exact⟨λ L=>⟨o,by omega,by omega⟩,λ hF=>by have:=hF.2.2;omega⟩
  ·rw[decide_eq_false]
   intro hF;have:=hF.2.1;omega
theorem Jz5 (h:Ps W s f)(d:f.length<=1099511627776)(n: ∀p∈f,p.length<=1099511627776)(o: ∀(W':PW),Ext W W'->(True)->K (.bool (decide (Jz8 f))) W'):
  Aa1 Tryz.prog W0 M 32 [s.v] W K:=
 Mi4 (λ _ c=>Kg9 (h.ext c) d n) fun | _,W',c,⟨rfl,h⟩=>o W' c h
theorem Kc0 (h:RPs W0 s f)(w:f.length<=1099511627776)(d: ∀p∈f,p.length<=1099511627776):
  Aa0 Tryz.prog 49 [s.v] W0 M λ v W'=>v = .bool (decide (Jz8 f))/\True:=by
 apply Ka1;have y:=h.n;refine⟨λ h1 z _=>⟨?_,trivial⟩,λ h1=>⟨λ q A _=>⟨?_,trivial⟩,λ q=>?_⟩⟩
 ·rw[decide_eq_false]
  intro hF;have:=hF.2.1;omega
 ·rw[decide_eq_false]
  intro hF;have:=hF.2.2;omega
 refine⟨frI W0 f,Kq0 f.length,⟨0,rfl,Nat.zero_le _,Ext.refl _,λ p d=>by simp at d⟩,?_⟩;rintro i3 B ⟨j,rfl,C,n,o⟩;refine⟨λ E=>?_,λ F G _=>⟨?_,trivial⟩⟩
 ·have c:j<f.length:=by omega
  obtain⟨x,r,t⟩:=(h.ext n).at c;refine⟨(h.ext n).inB (by omega) (by omega),x,r,Gi0 t (d _ (List.getElem_mem c)) λ I u _=>⟨_,rfl,λ J L _=>⟨?_,trivial⟩,λ N=>⟨by unfold I64;omega,⟨j+1,by push_cast;rfl,by omega,n.trans u,Ki0 c o (by omega)⟩,?_⟩⟩⟩
  ·rw[decide_eq_false]
   intro hF;have:=hF.1 _ (List.getElem_mem c);omega
  ·show f.length-Int.toNat ((j:Int)+1)<f.length-Int.toNat (j:Int)
   omega
 ·have:j=f.length:=by omega
  subst this;rw[List.take_length] at o;rw[decide_eq_true ⟨o,by omega,by omega⟩]
theorem Jz4 (h:RPs W s f)(d:f.length<=1099511627776)(n: ∀p∈f,p.length<=1099511627776)(o: ∀(W':PW),Ext W W'->(True)->K (.bool (decide (Jz8 f))) W'):
  Aa1 Tryz.prog W0 M 49 [s.v] W K:=
 Mi4 (λ _ c=>Kc0 (h.ext c) d n) fun | _,W',c,⟨rfl,h⟩=>o W' c h
def Jz9 (f:List (List Tm)) (g:List Tm):Nat->Option (List Tm)
 | 0=>some []
 | j+1=>match Jz9 f g j with
  | none=>none
  | some a=>if Ct4 (Hc3 g (j:Int)) (f.getD j []) then some (Ag2 (a ++ Ag2 (An8 (Hc3 g (j:Int)) (f.getD j [])))) else none
def Kd0 (f:List (List Tm)) (g:List Tm):Option (List Tm):=Jz9 f g f.length
theorem Kb5 {f:List (List Tm)}{g:List Tm}{j:Nat}(h:Jz9 f g j=none): ∀k,j<=k->Jz9 f g k=none
 | 0,hk=>by
  have:j=0:=by omega
  subst this;exact h
 | k+1,hk=>by
  by_cases e:j=k+1
  ·subst e;exact h
  ·rw[Jz9,Kb5 h k (by omega)]
structure Kj2 (f:List (List Tm)):Prop where
 bd: ∀q∈f,Bd 56029 q/\q.length<=14
 len:f.length<=2
structure GOK (l:Nat) (g:List Tm):Prop where
 bd:Bd l g
 Aq3:Av6 g
 ok:POk g
theorem GOK.len (h:GOK l g):g.length<=16777216:=h.Aq3.len h.ok
theorem Jy8 (c:j<f.length):f.getD j []=f[j]:=by rw[List.getD_eq_getElem?_getD,List.getElem?_eq_getElem c];rfl
theorem Ko8 {p:List Tm}{q:List Tm}(h:Ct4 p q):POk (Ag2 (An8 p q)):=POk.norm λ t c=>by
 obtain⟨a,d,hm⟩:=List.mem_flatMap.1 c;obtain⟨b,n,rfl⟩:=List.mem_map.1 hm;exact h a d b n
def nb (l:Nat):Nat->Nat
 | 0=>1
 | j+1=>nb l j+(l+1+56029)+1
theorem Kd5 {f:List (List Tm)}{g:List Tm}{l:Nat}(d:Kj2 f)(c:GOK l g): ∀{j:Nat} {a:List Tm} (_:j<=f.length) (_:Jz9 f g j=some a),Bd (nb l j) a/\Av6 a/\POk a
 | 0,a,_,h=>by
  simp only[Jz9,Option.some.injEq] at h;subst h;exact⟨⟨1,0,trivial,by decide,by rw[Ax0];exact Nat.le_refl 1,by rw[Ag9];exact Nat.zero_le 1⟩,Av6.nil,λ t n=>by simp at n⟩
 | j+1,a,u,h=>by
  rw[Jz9] at h;split at h
  ·cases h
  ·rename_i a' o
   split at h
   ·rename_i q
    simp only[Option.some.injEq] at h;subst h;have ih:=Kd5 d c (by omega) o;have hm:=d.bd _ (List.getElem_mem (show j<f.length by omega));rw[<-Jy8] at hm;have r:=(Hg1 c.bd c.ok (j:Int)).Ff3 hm.1;exact⟨(ih.1.append r.norm).norm.mono (by simp only[nb];omega),Ce8 _,(ih.2.2.append (Ko8 q)).norm⟩
   ·cases h
def nxI (W0:PW) (f:List (List Tm)) (g:List Tm) (L:List PL) (W:PW):Prop:=match L with
 | [.val (.int .i64 i),_,.cells [.slice A n c]]=>∃(j:Nat) (a:List Tm),i=(j:Int)/\j<=f.length/\Ext W0 W/\Jz9 f g j=some a/\Ab0 214 180 W ⟨A,n,c⟩ a
 | _=>False
theorem Kq7 (c:l<=2000000)(d:j<=2):nb l j<=5000000:=by
 rcases(by omega:j=0\/j=1\/j=2) with rfl | rfl | rfl<;>simp only[nb]<;>omega
theorem Ki3 (h:Ps W0 s f)(C:Ab0 214 180 W0 sg g)(t:Kj2 f)(c:GOK l g)(E:l<=2000000):
  Aa0 Tryz.prog 78 [s.v,.agg ⟨[sg.v]⟩] W0 M λ v W'=>∃(s':Sl),v = .tuple ⟨[.agg ⟨[Sl.v s']⟩,.bool (Kd0 f g).isSome]⟩/\Ab0 214 180 W' s' ((Kd0 f g).getD []):=by
 apply Kf8;have hn:=h.n;have F:=t.len;have G:=c.len;refine⟨nxI W0 f g,λ L _=>match L with | [.val (.int .i64 i),_,_]=>f.length-i.toNat | _=>0,⟨0,[],rfl,Nat.zero_le _,Ext.refl _,rfl,Ab0.nil W0⟩,?_⟩;rintro s3 s4 i5 I ⟨j,a,rfl,z,o,d,q⟩;have q:Ab0 214 180 I s4 a:=q;have u:=Kd5 t c z d;have ad:=Av6.len u.2.1 u.2.2;have ae:=Kq7 E (Nat.le_trans z F);refine⟨λ af=>?_,λ ag ah J=>⟨s4,?_,?_⟩⟩
 ·have n:j<f.length:=by omega
  obtain⟨x,N,O⟩:=(h.ext o).at n;have hm:=t.bd _ (List.getElem_mem n);have A:=Hg1 c.bd c.ok (j:Int);have P:=Hj1 g (j:Int);refine⟨(h.ext o).inB (by omega) (by omega),x,N,Hg6 (C.ext o) c.bd (by omega) (by omega) λ Q W9 w R=>⟨Q,rfl,?_⟩⟩;refine Ct0 (k:=3000000) R (O.ext w) (A.mono (by omega)) (hm.1.mono (by omega)) (by omega) (by omega) (by omega) (by have:=Nat.mul_le_mul (Nat.le_trans P G) hm.2;omega) λ S aj B y=>⟨S,_,rfl,λ U V _=>?_,λ X=>?_⟩
  ·have r:¬Ct4 (Hc3 g (j:Int)) f[j]:=by simpa using U
   have:Kd0 f g=none:=Kb5 (j:=j+1) (by rw[Jz9,d,Jy8 n];dsimp only;rw[if_neg r]) _ n;rw[this];exact⟨⟨none,0,0⟩,rfl,Ab0.nil V⟩
  ·have r:Ct4 (Hc3 g (j:Int)) f[j]:=by simpa using X
   rw[Gn4 r] at y;have Y:=(A.Ff3 hm.1).norm;have ak:=Av6.len (Ce8 (An8 (Hc3 g (j:Int)) f[j])) y.ok;refine Cw8 (k:=5000000) (q.ext (w.trans B)) y (u.1.mono (by omega)) (Y.mono (by omega)) (by omega) (by omega) (by omega) λ Z al aa ab=>⟨Z,rfl,by unfold I64;omega,⟨j+1,Ag2 (a ++ Ag2 (An8 (Hc3 g (j:Int)) f[j])),by push_cast;rfl,by omega,o.trans (w.trans (B.trans aa)),?_,ab⟩,?_⟩
   ·rw[Jz9,d,Jy8 n]
    dsimp only;rw[if_pos r]
   ·show f.length-Int.toNat ((j:Int)+1)<f.length-Int.toNat (j:Int)
    omega
 ·have:j=f.length:=by omega
  subst this;unfold Kd0;rw[d];rfl
 ·have:j=f.length:=by omega
  subst this;unfold Kd0;rw[d];exact q.ext J
theorem Kg6 (h:Ps W s f)(d:Ab0 214 180 W sg g)(n:Kj2 f)(o:GOK l g)(q:l<=2000000)(r: ∀(s':Sl) (W':PW),Ext W W'->(Ab0 214 180 W' s' ((Kd0 f g).getD []))->K (.tuple ⟨[.agg ⟨[Sl.v s']⟩,.bool (Kd0 f g).isSome]⟩) W'):
  Aa1 Tryz.prog W0 M 78 [s.v,.agg ⟨[sg.v]⟩] W K:=
 Mi4 (λ _ c=>Ki3 (h.ext c) (d.ext c) n o q) fun | _,W',c,⟨s',rfl,h⟩=>r s' W' c h
def Jz7 (f:List (List Tm)) (i:Nat):Nat->Option (List Tm)
 | 0=>some (Dc6 (i:Int))
 | n+1=>match Jz7 f i n with
  | none=>none
  | some g=>Kd0 f g
theorem Kb0 {f:List (List Tm)}{i n:Nat}(h:Jz7 f i n=none): ∀k,n<=k->Jz7 f i k=none
 | 0,hk=>by
  have:n=0:=by omega
  subst this;exact h
 | k+1,hk=>by
  by_cases e:n=k+1
  ·subst e;exact h
  ·rw[Jz7,Kb0 h k (by omega)]
def Jz6 (f:List (List Tm)) (k:Int):Prop:=Jz8 f/\(0<=k/\k<=4)/\∀i,i<f.length->(Jz7 f i k.toNat).isSome=true
noncomputable def Ke7 (f:List (List Tm)) (k:Int):Option (List (List Tm)):=by
 classical exact if Jz6 f k then some ((List.range f.length).map λ i=>(Jz7 f i k.toNat).getD []) else none
theorem Kd3 (h:¬Jz6 f k):Ke7 f k=none:=by unfold Ke7;rw[if_neg h]
theorem Jz3 (h:Jz6 f k):Ke7 f k=some ((List.range f.length).map λ i=>(Jz7 f i k.toNat).getD []):=by unfold Ke7;rw[if_pos h]
def lb:Nat->Nat
 | 0=>4
 | n+1=>nb (lb n) 2
theorem Kp7: ∀n,n<=4->lb n<=2000000:=by decide
theorem Kf4 {f:List (List Tm)}(d:Kj2 f)(o:f.length=1\/f.length=2){i:Nat}: ∀{n:Nat} {g:List Tm} (_:n<=4) (_:Jz7 f i n=some g),GOK (lb n) g
 | 0,g,_,h=>by
  simp only[Jz7,Option.some.injEq] at h;subst h;unfold Dc6;split
  ·refine⟨Cq4 (Sz.one (Nat.le_refl 1)),⟨List.pairwise_singleton _ _,λ t c=>?_⟩,λ t c=>?_⟩
   ·simp at c;subst c;exact(by decide:(1:Rat)≠0)
   ·simp at c;subst c
    unfold Da3;dsimp only
    (repeat' split)<;>decide
  ·exact⟨⟨1,0,trivial,by decide,by rw[Ax0];exact(by decide:1<=lb 0),by rw[Ag9];exact Nat.zero_le _⟩,Av6.nil,λ t c=>by simp at c⟩
 | n+1,g,r,h=>by
  rw[Jz7] at h;split at h
  ·cases h
  ·rename_i u q
   have ih:=Kf4 d o (n:=n) (by omega) q;have:=Kd5 d ih (Nat.le_refl _) h;refine⟨this.1.mono ?_,this.2.1,this.2.2⟩;show nb (lb n) f.length<=nb (lb n) 2;rcases o with e | e<;>rw[e]
   ·simp only[nb];omega
   ·exact Nat.le_refl _
def lsN (f:List (List Tm)) (n:Nat):List (List Tm):=(List.range f.length).map λ i=>(Jz7 f i n).getD []
def Kk3 (f:List (List Tm)) (n i:Nat):List (List Tm):=(List.range f.length).map λ t=>if t<i then(Jz7 f t (n+1)).getD [] else(Jz7 f t n).getD []
theorem Kn7 (f:List (List Tm))(n:Nat):Kk3 f n 0=lsN f n:=by
 unfold Kk3 lsN;refine List.map_congr_left λ t _=>?_;rw[if_neg (by omega)]
theorem Ko2 (f:List (List Tm))(n:Nat):Kk3 f n f.length=lsN f (n+1):=by
 unfold Kk3 lsN;refine List.map_congr_left λ t c=>?_;rw[if_pos (List.mem_range.1 c)]
theorem Kd4 (f:List (List Tm))(n i:Nat):(Kk3 f n i).length=f.length:=by simp[Kk3]
theorem Kp3 {n:Nat}(hi:i<f.length):(Kk3 f n i)[i]?=some ((Jz7 f i n).getD []):=by
 unfold Kk3;rw[List.getElem?_map,List.getElem?_range hi];simp
theorem Ko7 {n:Nat}(hi:i<f.length):(Kk3 f n i).set i ((Jz7 f i (n+1)).getD [])=Kk3 f n (i+1):=by
 apply List.ext_getElem?;intro t;rw[List.getElem?_set]
 by_cases c:t<f.length
 ·by_cases e:i=t
  ·subst e
   rw[if_pos rfl,if_pos (by rw[Kd4];exact hi)];unfold Kk3;rw[List.getElem?_map,List.getElem?_range hi];simp
  ·rw[if_neg e]
   unfold Kk3;rw[List.getElem?_map,List.getElem?_map,List.getElem?_range c]
   by_cases h1:t<i
   ·simp[h1,show t<i+1 by omega]
   ·simp[h1,show ¬t<i+1 by omega]
 ·have h1:(Kk3 f n (i+1)).length<=t:=by rw[Kd4];omega
  have d:(Kk3 f n i).length<=t:=by rw[Kd4];omega
  rw[if_neg (by omega),List.getElem?_eq_none h1,List.getElem?_eq_none d]
def lf1 (W0:PW) (f:List (List Tm)) (L:List PL) (W:PW):Prop:=match L with
 | [.row l,.val (.int .i64 i)]=>∃j:Nat,i=(j:Int)/\j<=f.length/\Ext W0 W/\An5 (Gx4 214 180 W) l ((List.range j).map λ t:Nat=>Dc6 (t:Int))
 | _=>False
def lf2 (W0:PW) (f:List (List Tm)) (k:Int) (L:List PL) (W:PW):Prop:=match L with
 | [.val (.int .i64 i),.row l]=>∃n:Nat,i=(n:Int)/\(n:Int)<=k/\Ext W0 W/\(∀t,t<f.length->(Jz7 f t n).isSome=true)/\An5 (Gx4 214 180 W) l (lsN f n)
 | _=>False
def lf3 (W0:PW) (f:List (List Tm)) (n:Nat) (L:List PL) (W:PW):Prop:=match L with
 | [.val (.int .i64 i),.row l]=>∃j:Nat,i=(j:Int)/\j<=f.length/\Ext W0 W/\(∀t,t<j->(Jz7 f t (n+1)).isSome=true)/\An5 (Gx4 214 180 W) l (Kk3 f n j)
 | _=>False
theorem Kl2 (h:Ps W0 s f)(hl:f.length<=4)(o: ∀q∈f,Bd 56029 q/\q.length<=14):
  Aa0 Tryz.prog 26 [s.v,.int .i64 k] W0 M λ v W'=>∃(s':Sl),v = .tuple ⟨[Sl.v s',.bool (Ke7 f k).isSome]⟩/\Ps W' s' ((Ke7 f k).getD []):=by
 apply Kh9;have hn:=h.n;have bad:¬Jz6 f k->∀W':PW,∃s':Sl,(Value.tuple ⟨[.slice none 0 0,.bool false]⟩) = .tuple ⟨[Sl.v s',.bool (Ke7 f k).isSome]⟩/\Ps W' s' ((Ke7 f k).getD []):=λ o W'=>by rw[Kd3 o];exact⟨⟨none,0,0⟩,rfl,Gf4.nil W'⟩
 refine Jz5 h (by omega) (λ p X=>by have:=(o p X).2;omega) λ W2 Y _=>⟨_,rfl,λ w Z _=>bad (λ c=>by have:=c.1;simp[this] at w) Z,λ aa=>⟨λ hk W5 _=>bad (λ c=>by have:=c.2.1;omega) W5,λ h0=>⟨λ hk W6 _=>bad (λ c=>by have:=c.2.1;omega) W6,λ h4=>?_⟩⟩⟩;have hF:Jz8 f:=by simpa using aa
 have G:Kj2 f:=⟨o,hF.2.2⟩;have ad:f.length=1\/f.length=2:=by have:=hF.2;omega
 refine⟨lf1 W0 f,λ L _=>match L with | [_,.val (.int .i64 i)]=>f.length-i.toNat | _=>0,⟨0,rfl,Nat.zero_le _,Y,trivial⟩,?_⟩;rintro l9 i10 aC ⟨j,rfl,hj,I,C⟩;have ae:=C.len;rw[List.length_map,List.length_range] at ae;refine⟨λ aE=>?_,λ aF=>?_⟩
 ·refine Cr4 λ J aG N af=>⟨J,rfl,by simp only[List.length_cons,List.length_nil];omega,by unfold I64;omega,⟨j+1,by push_cast;rfl,by omega,I.trans N,?_⟩,?_⟩
  ·rw[List.range_succ,List.map_append]
   exact(C.mono λ _ _ h=>h.ext N).snoc ⟨J,rfl,af⟩
  ·show f.length-Int.toNat ((j:Int)+1)<f.length-Int.toNat (j:Int)
   omega
 have ag:j=f.length:=by omega
 subst ag;refine⟨lf2 W0 f k,λ L _=>match L with | [.val (.int .i64 i),_]=>(k-i).toNat | _=>0,⟨0,rfl,by omega,I,λ t _=>rfl,C⟩,?_⟩;rintro ah i18 aH ⟨n,rfl,aI,ai,O,E⟩;have aj:=E.len;simp only[lsN,List.length_map,List.length_range] at aj;refine⟨λ aJ=>?_,λ aK ak aL al hO _ aM P=>?_⟩
 ·refine⟨lf3 W0 f n,λ L _=>match L with | [.val (.int .i64 i),_]=>f.length-i.toNat | _=>0,⟨0,rfl,Nat.zero_le _,ai,λ t Q=>absurd Q (Nat.not_lt_zero t),by rw[Kn7];exact E⟩,?_⟩
  rintro aN i23 am ⟨t,rfl,Q,F,R,z⟩;have an:=z.len;rw[Kd4] at an;refine⟨λ aO=>?_,λ aP=>⟨by unfold I64;omega,⟨n+1,by push_cast;rfl,by omega,F,?_,?_⟩,?_⟩⟩
  ·have A:t<f.length:=by omega
   obtain⟨x,hx,y,rfl,B⟩:=z.get (Kp3 A);obtain⟨g,d⟩:=Option.isSome_iff_exists.1 (O t A);rw[d] at B;have B:Ab0 214 180 am y g:=B;have hG:=Kf4 G ad (n:=n) (by omega) d;refine⟨⟨by omega,by omega⟩,y,⟨[y.v],hx,rfl⟩,Kg6 (h.ext F) B G hG (Kp7 n (by omega)) λ S aQ U aq=>⟨S,_,rfl,λ w ar _=>bad (λ c=>?_) ar,λ au=>⟨⟨by omega,by omega⟩,by omega,by unfold I64;omega,⟨t+1,by push_cast;rfl,by omega,F.trans U,λ u hu=>?_,?_⟩,?_⟩⟩⟩
   ·have av:Jz7 f t (n+1)=none:=by
     rw[Jz7,d];show Kd0 f g=none
     cases hq:Kd0 f g with
     | none=>rfl
     | some r=>rw[hq] at w;cases w
    have h1:=c.2.2 t A;rw[Kb0 av k.toNat (by omega)] at h1;cases h1
   ·by_cases e:u=t
    ·subst e
     rw[Jz7,d]
     simpa using au
    ·exact R u (by omega)
   ·rw[<-Ko7 A]
    have e:Jz7 f t (n+1)=Kd0 f g:=by rw[Jz7,d]
    rw[e];exact(z.mono λ _ _ h=>h.ext U).set t ⟨S,rfl,aq⟩
   ·show f.length-Int.toNat ((t:Int)+1)<f.length-Int.toNat (t:Int)
    omega
  ·intro u hu
   exact R u (by omega)
  ·have:t=f.length:=by omega
   subst this;rw[<-Ko2];exact z
  ·show(k-((n:Int)+1)).toNat<(k-(n:Int)).toNat
   omega
 ·have V:k.toNat=n:=by omega
  have c:Jz6 f k:=⟨hF,⟨by omega,by omega⟩,λ i hi=>by rw[V];exact O i hi⟩;rw[Jz3 c,V];exact⟨ak,rfl,ah,⟨_,(hO.ext P).row⟩,E.mono λ _ _ h=>h.ext (al.trans P)⟩
theorem Kb9 (h:Ps W s f)(d:f.length<=4)(n: ∀q∈f,Bd 56029 q/\q.length<=14)(o: ∀(s':Sl) (W':PW),Ext W W'->(Ps W' s' ((Ke7 f k).getD []))->K (.tuple ⟨[Sl.v s',.bool (Ke7 f k).isSome]⟩) W'):
  Aa1 Tryz.prog W0 M 26 [s.v,.int .i64 k] W K:=
 Mi4 (λ _ c=>Kl2 (h.ext c) d n) fun | _,W',c,⟨s',rfl,h⟩=>o s' W' c h
end Go.Proofs.YtkgeopnakkcdoaaGreat
namespace Go.Proofs.YtkgeopnakkcdoaaGreat
open Go Go.SX
variable {a:ByteArray}{m:Nat}{x:Iv}
theorem Lu6 {z:Int}(h:Ac3 a=some z)(d:a.size<=m):z.natAbs<10^m:=by
 have key: ∀{b:ByteArray} {x:Nat},Ad2 b=some x->b.size<=m->x<10^m:=λ h1 n=>Nat.lt_of_lt_of_le (Bq9 h1).1 (Nat.pow_le_pow_right (by decide) n);unfold Ac3 at h;split at h
 ·split at h
  ·rename_i x o
   split at h
   ·cases h
   ·cases h;rw[Int.natAbs_neg,Int.natAbs_natCast];exact key o (by rw[ByteArray.size_extract];omega)
  ·cases h
 ·cases c:Ad2 a with
  | none=>rw[c] at h;cases h
  | some x=>
   rw[c] at h;cases h;exact key c d
theorem Lu8 {q:Rat}(h:Ab7 a=some q)(o:a.size<=m)(hm:1<=m):q.num.natAbs<10^m/\q.den<10^m:=by
 unfold Ab7 at h;split at h
 ·cases c:Ac3 a with
  | none=>rw[c] at h;cases h
  | some z=>
   rw[c] at h;cases h;refine⟨by rw[Rat.num_intCast];exact Lu6 c o,by rw[Rat.den_intCast];exact Nat.one_lt_pow (by omega) (by decide)⟩
 ·split at h
  ·rename_i n d r t
   split at h
   ·cases h
   ·rename_i i _ w
    cases h;have u:d≠0:=by omega
    have h1:=Lu6 r (m:=m) (by rw[ByteArray.size_extract];omega);have v:d<10^m:=Nat.lt_of_lt_of_le (Bq9 t).1 (Nat.pow_le_pow_right (by decide) (by rw[ByteArray.size_extract];omega));exact⟨Nat.lt_of_le_of_lt (Cx2 n d) h1,Nat.lt_of_le_of_lt (Cr5 n u) v⟩
  ·cases h
theorem Mg7 (h1:x.1.num.natAbs<10^30/\x.1.den<10^30)(c:x.2.num.natAbs<10^30/\x.2.den<10^30):BdI 7 x:=by
 have d:10^30*10^30+10^30*10^30<B^7:=by decide +kernel
 have m1:=Nat.mul_le_mul (Nat.le_of_lt h1.2) (Nat.le_of_lt c.2);have m2:=Nat.mul_le_mul (Nat.le_of_lt h1.1) (Nat.le_of_lt c.2);have m3:=Nat.mul_le_mul (Nat.le_of_lt c.1) (Nat.le_of_lt h1.2);refine⟨x.1.den*x.2.den,x.1.num.natAbs*x.2.den+x.2.num.natAbs*x.1.den,⟨?_,?_⟩,Nat.mul_ne_zero x.1.den_nz x.2.den_nz,Bc6 (Nat.lt_of_le_of_lt (Nat.le_trans m1 (Nat.le_add_right _ _)) d),Bc6 (Nat.lt_of_le_of_lt (Nat.add_le_add m2 m3) d)⟩
 ·exact((Ak3.den x.1).scale x.2.den).mono (Nat.le_add_right _ _)
 ·rw[Nat.mul_comm x.1.den]
  exact((Ak3.den x.2).scale x.1.den).mono (Nat.le_add_left _ _)
theorem Mg6 {b:ByteArray}(h:spP a b=some x)(c:a.size<=30)(d:b.size<=30):BdI 7 x/\x.1<=x.2:=by
 obtain⟨n,o,q⟩:=Dp3 h;exact⟨Mg7 (Lu8 n c (by decide)) (Lu8 o d (by decide)),q⟩
end Go.Proofs.YtkgeopnakkcdoaaGreat
namespace Go.Proofs.YtkgeopnakkcdoaaGreat
open Go Go.SX
variable {M:Nat->Prop}{W W' W0:PW}{b:Nat->Iv}{e:Int}{f:List (List Tm)}{i:Nat}{l:List Value}{ms:List Mdl}{s sm:Sl}{tu:TypeId}
abbrev Lm9 (W:PW) (s:Sl) (l:List Mdl):Prop:=Dr1 (MdV 214 180) 7 W s l
abbrev Lm1 (W:PW) (s:Sl) (l:List Mdl):Prop:=Dr1 (Ll6 214 119) 7 W s l
theorem Lm9.ext {l:List Mdl}(h:Lm9 W s l)(c:Ext W W'):Lm9 W' s l:=Dr1.ext (R:=MdV 214 180) (λ h=>MdV.ext h) h c
theorem Lm1.ext {l:List Mdl}(h:Lm1 W s l)(c:Ext W W'):Lm1 W' s l:=Dr1.ext (R:=Ll6 214 119) (λ h=>Ll6.ext h) h c
def Lv9 (ms:List Mdl) (i:Nat):Mdl:=ms.getD i Lp4
theorem Ls0 (h:i<ms.length):Lv9 ms i=ms[i]:=by
 unfold Lv9;rw[List.getD_eq_getElem?_getD,List.getElem?_eq_getElem h];rfl
theorem Lx0:MOK e Lp4:=⟨⟨⟨1,0,trivial,by decide,by rw[Ax0];omega,by rw[Ag9];omega⟩,BdI.zero (by omega),Av6.nil,λ t c=>(by cases c)⟩,Nat.zero_le _,Rat.le_refl⟩
theorem Lw2 (h: ∀x∈ms,MOK e x)(i:Nat):MOK e (Lv9 ms i):=by
 by_cases hi:i<ms.length
 ·rw[Ls0 hi]
  exact h _ (List.getElem_mem hi)
 ·unfold Lv9
  rw[List.getD_eq_getElem?_getD,List.getElem?_eq_none (by omega)];exact Lx0
def Lz9 (b:Nat->Iv) (n:Int) (f:List (List Tm)) (ms:List Mdl) (i:Nat):Mdl:=Lu4 (Lx4 b n (Dc6 (i:Int))) (Lo2 b n (Lm2 b n (Lv9 ms) (f.getD i [])))
def Lm3 (b:Nat->Iv) (n:Int) (f:List (List Tm)) (ms:List Mdl):Prop:=Jz8 f/\ms.length=f.length/\Ll9 b n
instance (b:Nat->Iv) (n:Int) (f:List (List Tm)) (ms:List Mdl):Decidable (Lm3 b n f ms):=by unfold Lm3;infer_instance
def Lw9 (b:Nat->Iv) (n:Int) (f:List (List Tm)) (ms:List Mdl) (j:Nat):List Mdl:=(List.range j).map (Lz9 b n f ms)
theorem Ln8 (b:Nat->Iv)(n:Int)(f:List (List Tm))(ms:List Mdl)(j:Nat):(Lw9 b n f ms j).length=j:=by unfold Lw9;rw[List.length_map,List.length_range]
theorem Lz3 (b:Nat->Iv)(n:Int)(f:List (List Tm))(ms:List Mdl)(j:Nat):Lw9 b n f ms (j+1)=Lw9 b n f ms j ++ [Lz9 b n f ms j]:=by unfold Lw9;rw[List.range_succ,List.map_append];rfl
theorem Me6 (i:Int):(Dc6 i).length<=1:=by unfold Dc6;split<;>simp
def Mc6 (f:List (List Tm)):Prop:=∀p∈f,p.length<=3/\∀t∈p,Sz 4000 t.2/\sex t 3<=4
theorem Lw1 {n:Int}(hF:Mc6 f)(d: ∀x∈ms,MOK 4 x)(h:Ln7 b)(o:Fc6 b n)(hi:i<f.length):MdB 300170 5419722 8 (Lm2 b n (Lv9 ms) f[i])/\(Lm2 b n (Lv9 ms) f[i]).1.length<=3888:=by
 obtain⟨c,q⟩:=hF _ (List.getElem_mem hi);obtain⟨h1,r⟩:=Mb3 q (Lw2 d) h o f[i].length (Nat.le_refl _);rw[List.take_length] at h1 r;have t:=Nat.mul_le_mul_right 100056 c;have u:=Nat.mul_le_mul_right 1806573 c;have v:=Nat.mul_le_mul_right 1296 c;exact⟨⟨h1.bd.mono (by omega),h1.rest.mono (by omega),h1.Aq3,h1.ok⟩,by omega⟩
theorem Lw7 {x:Mdl}{n:Int}(c:MdB 300170 5419722 8 x)(A:x.1.length<=3888)(h:Ln7 b):(∀j,Bd 300171 (Ln3 (x.1.take j)))/\Bd 300171 (Lo2 b n x).1/\BdI 6000000 (Lo2 b n x).2/\(Lo2 b n x).1.length<=3888:=by
 have u: ∀t∈x.1,0<=t.1.z/\t.1.z<=8:=λ t d=>by
  have:=c.ok t d;obtain⟨⟨_,_,v⟩,_,_,w⟩:=this;exact⟨v.1,w⟩
 have o: ∀j,Bd 300171 (Ln3 (x.1.take j)):=λ j=>Mh4 (c.bd.take j) λ t d=>u t (List.mem_of_mem_take d);have q:=o x.1.length;rw[List.take_length] at q;have y:Gk4 9 (Ag2 (Ln3 x.1)):=Gk4.norm (Md7 c.ok (by omega));have r:=MdB.cut (n:=n) q.norm (Ce8 _) h.bd (Nat.le_refl 7) y (by omega);have d1:=c.rest.mul (h.bd 2);have l1:=Lo4 n (Ag2 (Ln3 x.1));have z:=El2 (Ln3 x.1);rw[Lp3] at z;exact⟨o,r.bd,(r.rest.add d1).mono (by omega),Nat.le_trans l1 (by omega)⟩
theorem Ma4 {n:Int}(d:Ln7 b)(i:Nat):Bd 300171 (Lx4 b n (Dc6 (i:Int))).1/\BdI 6000000 (Lx4 b n (Dc6 (i:Int))).2/\(Lx4 b n (Dc6 (i:Int))).1.length<=1/\Av6 (Lx4 b n (Dc6 (i:Int))).1:=by
 have c:=MdB.cut (n:=n) (Gs7 (i:Int)) (Mb4 _) d.bd (Nat.le_refl 7) (Gv8 _) (by omega);exact⟨c.bd.mono (by omega),c.rest.mono (by omega),Nat.le_trans (Lo4 n _) (Me6 _),c.Aq3⟩
theorem Mh3 {n:Int}(hF:Mc6 f)(d: ∀x∈ms,MOK 4 x)(c:Ln7 b)(h:Fc6 b n)(hi:i<f.length):(∀t∈(Lz9 b n f ms i).1,Sz 700000 t.2)/\IvS 13000000 (Lz9 b n f ms i).2/\(Lz9 b n f ms i).1.length<=3889:=by
 obtain⟨c1,c2⟩:=Lw1 hF d c h hi;obtain⟨_,t1,t2,t3⟩:=Lw7 (n:=n) c1 c2 c;obtain⟨o,q,r,_⟩:=Ma4 (n:=n) c i;unfold Lz9;rw[Jy8 hi];refine⟨((o.append t1).norm.mono (by omega)).sz,((q.add t2).mono (by omega)).sz,?_⟩;show(Ag2 _).length<=_;refine Nat.le_trans (El2 _) ?_;rw[List.length_append];omega
def z21:List Value:=[.slice none 0 0,.slice none 0 0,.bool false,.slice none 0 0,.slice none 0 0,.bool false,.slice none 0 0,.slice none 0 0,.slice none 0 0,.bool false,.slice none 0 0,.slice none 0 0,.bool false,.slice none 0 0,.slice none 0 0,.slice none 0 0,.bool false,.slice none 0 0,.slice none 0 0,.bool false,.slice none 0 0]
theorem Lx5 {ys:List (List Value)}{tt:TypeId}(h:An5 (MdV tu tt W) ys ms):M3V tu tt W (Aj6 z21 0 (List.take 3 ys).flatten) (Lv9 ms):=by
 rcases ys with _ | ⟨r,_ | ⟨t,_ | ⟨u,ys⟩⟩⟩<;>rcases ms with _ | ⟨b0,_ | ⟨b1,_ | ⟨b2,bs⟩⟩⟩<;>first | exact False.elim h | exact False.elim h.2 | exact False.elim h.2.2 | exact False.elim h.2.2.2 | skip
 ·exact⟨⟨none,0,0⟩,⟨none,0,0⟩,_,⟨none,0,0⟩,⟨none,0,0⟩,_,⟨none,0,0⟩,⟨none,0,0⟩,⟨none,0,0⟩,_,⟨none,0,0⟩,⟨none,0,0⟩,_,⟨none,0,0⟩,⟨none,0,0⟩,⟨none,0,0⟩,_,⟨none,0,0⟩,⟨none,0,0⟩,_,⟨none,0,0⟩,rfl,MdV.zero W,MdV.zero W,MdV.zero W⟩
 ·obtain⟨⟨_,_,rfl,g1,_,_,_,_,_,_,rfl,h1,c⟩,_⟩:=h
  exact⟨_,_,_,_,_,_,_,⟨none,0,0⟩,⟨none,0,0⟩,_,⟨none,0,0⟩,⟨none,0,0⟩,_,⟨none,0,0⟩,⟨none,0,0⟩,⟨none,0,0⟩,_,⟨none,0,0⟩,⟨none,0,0⟩,_,⟨none,0,0⟩,rfl,MdV.mk g1 (SpV.mk h1 c),MdV.zero W,MdV.zero W⟩
 ·obtain⟨⟨_,_,rfl,g1,_,_,_,_,_,_,rfl,h1,c⟩,⟨_,_,rfl,g2,_,_,_,_,_,_,rfl,d,n⟩,_⟩:=h
  exact⟨_,_,_,_,_,_,_,_,_,_,_,_,_,_,⟨none,0,0⟩,⟨none,0,0⟩,_,⟨none,0,0⟩,⟨none,0,0⟩,_,⟨none,0,0⟩,rfl,MdV.mk g1 (SpV.mk h1 c),MdV.mk g2 (SpV.mk d n),MdV.zero W⟩
 ·obtain⟨⟨_,_,rfl,g1,_,_,_,_,_,_,rfl,h1,c⟩,⟨_,_,rfl,g2,_,_,_,_,_,_,rfl,d,n⟩,⟨_,_,rfl,g3,_,_,_,_,_,_,rfl,o,q⟩,_⟩:=h
  rw[Eq8]
  ·exact⟨_,_,_,_,_,_,_,_,_,_,_,_,_,_,_,_,_,_,_,_,_,rfl,MdV.mk g1 (SpV.mk h1 c),MdV.mk g2 (SpV.mk d n),MdV.mk g3 (SpV.mk o q)⟩
  ·rfl
theorem Mf9 {y:Nat->Mdl}{tt:TypeId}(h:M3V tu tt W l y):Ai7 [.slice,.slice,.bool,.slice,.slice,.bool,.slice,.slice,.slice,.bool,.slice,.slice,.bool,.slice,.slice,.slice,.bool,.slice,.slice,.bool,.slice] l=true:=by
 obtain⟨_,_,_,_,_,_,_,_,_,_,_,_,_,_,_,_,_,_,_,_,_,rfl,_⟩:=h;rfl
theorem Ls3 {n:Int}(h:Lm6 tu W l b n): ∃(s0:Sl) (b0:Bool) (t0 s1:Sl) (b1:Bool) (t1 s2:Sl) (b2:Bool) (t2 s3:Sl) (c:Bool) (t3 s4:Sl) (d:Bool) (t4 o:Sl) (q:Bool) (t5:Sl),l = [s0.v,.bool b0,t0.v,s1.v,.bool b1,t1.v,s2.v,.bool b2,t2.v,s3.v,.bool c,t3.v,s4.v,.bool d,t4.v,o.v,.bool q,t5.v,.int .i64 n]:=by
 obtain⟨r,rfl,s0,b0,t0,s1,b1,t1,s2,b2,t2,s3,c,t3,s4,d,t4,o,q,t5,rfl,_⟩:=h;exact⟨s0,b0,t0,s1,b1,t1,s2,b2,t2,s3,c,t3,s4,d,t4,o,q,t5,rfl⟩
def pcI (W0:PW) (b:Nat->Iv) (n:Int) (f:List (List Tm)) (ms:List Mdl) (L:List PL) (W:PW):Prop:=match L with
 | [.row l,.val (.int .i64 i)]=>∃j:Nat,i=(j:Int)/\j<=f.length/\Ext W0 W/\An5 (MdV 214 180 W) l (Lw9 b n f ms j)/\(0<j->Ll9 b n)
 | _=>False
def Mg8 (n:Nat) (L:List PL) (_:PW):Nat:=match L with
 | [_,.val (.int .i64 i)]=>n-i.toNat
 | _=>0
theorem Lv0 {n:Int}(u:Lm6 214 W0 l b n)(w:Ps W0 s f)(hm:Lm9 W0 sm ms)(hl:f.length<=4)(hF:Mc6 f)(Q: ∀x∈ms,MOK 4 x)(c:Ln7 b):
  Aa0 Tryz.prog 14 [.agg ⟨l⟩,s.v,sm.v] W0 M λ v W'=>∃(s1:Sl),v = .tuple ⟨[Sl.v s1,.bool (decide (Lm3 b n f ms))]⟩/\Lm9 W' s1 (if Lm3 b n f ms then Lw9 b n f ms f.length else[]):=by
 obtain⟨a0,c0,a1,a2,c1,a3,a4,c2,a5,a6,c3,a7,a8,c4,a9,aO,c5,aP,rfl⟩:=Ls3 u;apply Lr9;have n0:=w.n;have nm:=hm.n;have bad:¬Lm3 b n f ms->∀W':PW,∃s1:Sl,(Value.tuple ⟨[.slice none 0 0,.bool false]⟩) = .tuple ⟨[Sl.v s1,.bool (decide (Lm3 b n f ms))]⟩/\Lm9 W' s1 (if Lm3 b n f ms then Lw9 b n f ms f.length else[]):=λ R W'=>⟨⟨none,0,0⟩,by rw[decide_eq_false R],by rw[if_neg R];exact Dr1.nil W'⟩;refine Jz5 w (by omega) (λ p hp=>by have:=(hF p hp).1;omega) λ W2 S _=>⟨_,rfl,λ b1 W4 _=>bad (λ ok=>by simp[ok.1] at b1) W4,λ b1=>⟨λ af W5 _=>bad (λ ok=>af (by have:=ok.2.1;omega)) W5,λ heq=>?_⟩⟩;have U:Jz8 f:=by simpa using b1
 have hlen:ms.length=f.length:=by omega
 obtain⟨ys,hr,ha⟩:=hm.ext S;have G:=Lx5 ha;refine⟨ys,hr,Mf9 G,λ s7 s8 b9 aV aW aX aY aZ ba bb bc bd be bf bg bh bi bj bk bl bm he=>?_⟩;rw[<-show _=Aj6 z21 0 (List.take 3 ys).flatten from he] at G;refine⟨pcI W2 b n f ms,Mg8 f.length,⟨0,rfl,Nat.zero_le _,Ext.refl _,trivial,λ h=>absurd h (Nat.lt_irrefl _)⟩,?_⟩;rintro l30 i31 bn ⟨j,rfl,hj,I,J,hT⟩;have ak:=J.len;rw[Ln8] at ak;have L:=S.trans I;refine⟨λ bp=>?_,λ bq al br am an _ bs ao=>?_⟩
 rotate_left
 ·have:j=f.length:=by omega
  subst this;have ok:Lm3 b n f ms:=⟨U,hlen,hT (by have:=U.2.1;omega)⟩;refine⟨al,by rw[decide_eq_true ok],?_⟩;rw[if_pos ok];exact Lm9.ext ⟨l30,⟨_,an.row⟩,J.mono λ _ _ h=>h.ext am⟩ ao
 have y:j<f.length:=by omega
 obtain⟨ap,aq,hq⟩:=(w.ext L).at y;obtain⟨bt,au⟩:=hF _ (List.getElem_mem y);refine⟨(w.ext L).inB (by omega) (by omega),ap,aq,?_⟩;refine Cr4 (i:=(j:Int)) λ av bu d aw=>⟨av,rfl,?_⟩;have V:=L.trans d;refine Lm7 (u.ext V) aw (Mb4 _) (Gs7 _) c.bd (Nat.le_refl 7) (Gv8 _) (by omega) (by omega) (by have:=Me6 (j:Int);omega) λ r bv o z=>z.out λ bw bz bA bB bC bD bE z bF bG=>?_;have X:=V.trans o;refine Lq7 (u.ext X) (hq.ext (d.trans o)) (G.ext (I.trans (d.trans o))) au (by omega) (Lw2 Q) c λ r bH A B=>B.out λ bI bJ bK bL bM bN bO B bP bQ=>?_;have ax:=X.trans A;have C:MdB 300170 5419722 8 (if Fc6 b n then Lm2 b n (Lv9 ms) f[j] else Lp4)/\(if Fc6 b n then Lm2 b n (Lv9 ms) f[j] else Lp4).1.length<=3888:=by
  split
  ·rename_i E
   exact Lw1 hF Q c E y
  ·exact⟨⟨(Lx0 (e:=8)).b.bd.mono (by omega),(Lx0 (e:=8)).b.rest.mono (by omega),Av6.nil,λ t ht=>(by cases ht)⟩,Nat.zero_le _⟩
 obtain⟨p1,Y,Z,p4⟩:=Lw7 (n:=n) C.1 C.2 c;have q9:=p1 (if Fc6 b n then Lm2 b n (Lv9 ms) f[j] else Lp4).1.length;rw[List.take_length] at q9;refine Lt6 (u.ext ax) B C.1 c.bd (Nat.le_refl 7) (by omega) q9 (by omega) (by omega) (by omega) (by have:=C.2;omega) λ r bR N F=>F.out λ bS bT bU bV bW bX bY F bZ b0=>?_;refine⟨λ q aB _=>bad (λ ok=>by simp[ok.2.2.1] at q) aB,λ b2=>⟨λ q aC _=>bad (λ ok=>by simp[ok.2.2.1] at q) aC,λ b3=>⟨λ q aD _=>bad (λ ok=>by simp[ok.2.2] at q) aD,λ aE=>?_⟩⟩⟩;have O:Ll9 b n:=by simpa using aE
 have E:=O.1;rw[if_pos E] at z B Y Z p4;rw[if_pos O,if_pos E] at F;obtain⟨k1,k2,k3,_⟩:=Ma4 (n:=n) c j;refine Lq3 (k:=300171) (r:=6000000) (z.ext (A.trans N)) F k1 Y k2.sz Z.sz (by omega) (by omega) (by omega) (by omega) λ r b5 ab P=>P.Mf4 λ b6 b7 b8 ca cb cc cd P _ _=>⟨by simp only[List.length_cons,List.length_nil];omega,by unfold I64;omega,⟨j+1,by push_cast;rfl,by omega,I.trans (d.trans (o.trans (A.trans (N.trans ab)))),?_,λ _=>O⟩,?_⟩
 ·rw[Lz3]
  refine(J.mono λ _ _ h=>h.ext (d.trans (o.trans (A.trans (N.trans ab))))).append ⟨?_,trivial⟩;unfold Lz9;rw[Jy8 y];exact P
 ·show f.length-Int.toNat ((j:Int)+1)<f.length-Int.toNat (j:Int)
  omega
theorem Ln5 {K:Value->PW->Prop}{n:Int}(d:Lm6 214 W l b n)(o:Ps W s f)(hm:Lm9 W sm ms)(q:f.length<=4)(hF:Mc6 f)(r: ∀x∈ms,MOK 4 x)(t:Ln7 b)(u: ∀(s1:Sl) (W':PW),Ext W W'->(Lm9 W' s1 (if Lm3 b n f ms then Lw9 b n f ms f.length else[]))->K (.tuple ⟨[Sl.v s1,.bool (decide (Lm3 b n f ms))]⟩) W'):
  Aa1 Tryz.prog W0 M 14 [.agg ⟨l⟩,s.v,sm.v] W K:=
 Mi4 (λ _ c=>Lv0 (d.ext c) (o.ext c) (hm.ext c) q hF r t) fun | _,W',c,⟨s1,rfl,h⟩=>u s1 W' c h
end Go.Proofs.YtkgeopnakkcdoaaGreat
namespace Go.Proofs.YtkgeopnakkcdoaaGreat
open Go Go.SX Go.ChangeShapes Go.WideShapes Go.ChangeAt Go.RowKit Go.Deep
variable {H:Type}{W:World}{a:Addr}
theorem Cp9:ownKnob Tryz.prog.godebug=none:=by kernel_rfl
theorem laidOut:laidOutB Tryz.prog=true:=by kernel_rfl
theorem Ct5:Tryz.prog.cellsOf 9=1:=by kernel_rfl
theorem Cf4 {b:Nat}{o:Nat}{v:Value}(h:W.cell? ⟨b,o,none⟩=some v): ∃cs t c,W.heap[b]?=some (.cells cs t c)/\cs[o]?=some v:=by
 unfold World.cell? at h
 cases e:W.heap[b]? with
 | none=>simp[e] at h
 | some d=>
  cases d with
  | cells cs t c=>exact⟨cs,t,c,rfl,by simpa[e] using h⟩
  | _=>simp[e] at h
theorem Ev9 (d:DataW H):1<=Rows.uptoBulk d:=by
 cases d with
 | lit l=>cases l<;>simp[Rows.uptoBulk]
 | nil=>simp[Rows.uptoBulk]
 | ptr d=>simp[Rows.uptoBulk]
 | slice elems spare=>simp[Rows.uptoBulk]
 | agg parts=>simp[Rows.uptoBulk]
 | iface t d=>simp[Rows.uptoBulk]
 | map entries=>simp[Rows.uptoBulk]
 | held h=>simp[Rows.uptoBulk]
theorem Eo6 {d:DataW H}{l:List (DataW H)}(h:d∈l):Rows.uptoBulk d<=Rows.uptoBulkAll l:=by
 induction l with
 | nil=>cases h
 | cons x r ih=>
  simp only[Rows.uptoBulkAll]
  cases List.mem_cons.1 h with
  | inl e=>subst e;omega
  | inr e=>have:=ih e;omega
theorem Dj1 (l:List (DataW H)):l.length<=Rows.uptoBulkAll l:=by
 induction l with
 | nil=>simp[Rows.uptoBulkAll]
 | cons x r ih=>have:=Ev9 x;simp only[Rows.uptoBulkAll,List.length_cons];omega
theorem Bz7 {V:Nat->List Value}{n c sz:Nat}(h: ∀j,j<n->∀i v,(V j)[i]?=some v->W.cell? (a.add (j*sz+i))=some v)(r: ∀j,j<n->(V j).length=sz)(y:0<sz)(G:n<=c)(z:c<=maxLen)(h1: ∀j,j<n->∀u∈V j,u.oneCell'=true):
  Bf9 ⟨W,λ _=>False⟩ sz ⟨some a,n,c⟩ ((List.range n).map V):=by
 have q: ∀x∈(List.range n).map V,x.length=sz/\∀u∈x,u.oneCell'=true:=by
  intro x d;obtain⟨j,o,rfl⟩:=List.mem_map.1 d;exact⟨r j (List.mem_range.1 o),h1 j (List.mem_range.1 o)⟩
 by_cases I:n=0
 ·subst I
  exact⟨0,rfl,Nat.zero_le _,z,q,.inl rfl⟩
 ·obtain⟨b,off,sp⟩:=a
  have P:=r 0 (by omega);obtain⟨v0,J⟩: ∃v,(V 0)[0]?=some v:=⟨_,List.getElem?_eq_getElem (by omega)⟩;have A:=h 0 (by omega) 0 v0 J;have L:sp=none:=by simpa[Addr.add] using World.cell?_spot A
  subst L;obtain⟨cs,t,N,B,_⟩:=Cf4 (by rw[<-add_plain];exact A);refine⟨t,by simp,G,z,q,.inr ⟨b,off,cs,N,rfl,id,B,λ j v o=>?_⟩⟩;have w:=(List.getElem?_eq_some_iff.1 o).1;rw[Ac0 (sz:=sz) (λ x d=>(q x d).1)] at w;simp only[List.length_map,List.length_range] at w;have hi:j/sz<n:=(Nat.div_lt_iff_lt_mul y).2 w;have hm:j%sz<sz:=Nat.mod_lt _ y;have e:j/sz*sz+j%sz=j:=by rw[Nat.mul_comm];exact Nat.div_add_mod j sz
  have d:((List.range n).map V)[j/sz]?=some (V (j/sz)):=by simp[hi]
  have Q:=r _ hi;have C:=Ao8 (sz:=sz) (λ x d=>(q x d).1) d (j:=j%sz) (v:=(V (j/sz))[j%sz]'(by omega)) (List.getElem?_eq_getElem (by omega));rw[e,o] at C;have E:=h _ hi (j%sz) v (by rw[C];exact List.getElem?_eq_getElem (by omega));rw[e,add_plain] at E;obtain⟨R,S,U,F,O⟩:=Cf4 E;rw[B] at F;cases F;exact O
theorem Ig6 {n c:Nat}{V:Nat->Value}(h: ∀j,j<n->W.cell? (a.add j)=some (V j))(C:n<=c)(o:c<=maxLen)(h1: ∀j,j<n->(V j).oneCell'=true):Bf9 ⟨W,λ _=>False⟩ 1 ⟨some a,n,c⟩ ((List.range n).map λ j=>[V j]):=by
 have q: ∀x∈(List.range n).map (λ j=>[V j]),x.length=1/\∀u∈x,u.oneCell'=true:=by
  intro x E;obtain⟨j,d,rfl⟩:=List.mem_map.1 E;exact⟨rfl,λ u hu=>by rw[List.mem_singleton.1 hu];exact h1 j (List.mem_range.1 d)⟩
 by_cases F:n=0
 ·subst F
  exact⟨0,rfl,Nat.zero_le _,o,q,.inl rfl⟩
 ·obtain⟨b,off,sp⟩:=a
  have G:sp=none:=by simpa[Addr.add] using World.cell?_spot (h 0 (by omega))
  subst G;have w: ∀j,j<n->W.cell? ⟨b,off+j,none⟩=some (V j):=λ j d=>by rw[<-add_plain];exact h j d
  obtain⟨cs,t,I,z,_⟩:=Cf4 (w 0 (by omega));refine⟨t,by simp,C,o,q,.inr ⟨b,off,cs,I,rfl,id,z,λ j v d=>?_⟩⟩;have e:((List.range n).map λ j=>[V j]).flatten=(List.range n).map V:=by
   rw[<-List.flatMap_def];generalize List.range n=l
   induction l with
   | nil=>rfl
   | cons y r ih=>simp[List.flatMap_cons,ih]
  rw[e] at d;have A:j<n:=by
   have:=(List.getElem?_eq_some_iff.1 d).1
   simpa using this
  obtain⟨L,N,O,B,J⟩:=Cf4 (w j A);rw[z] at B;cases B;simp[A] at d;rw[<-d];exact J
end Go.Proofs.YtkgeopnakkcdoaaGreat
namespace Go.Proofs.YtkgeopnakkcdoaaGreat
open Go Go.SX Go.ChangeShapes Go.WideShapes Go.ChangeAt Go.RowKit Go.Deep
variable {H:Type}{W:World}{fuel:Nat}
theorem Cf7:Tryz.prog.cellsOf 103=2:=by kernel_rfl
theorem open_pair {cs:List Value}{enc:TypeId×Value->H}{x:DataW H×List MemPlace}(h:DataW.trod enc Tryz.prog W 0 (λ _=>true) true fuel 103 cs=some x):
  ∃a b:ByteArray,cs = [.string a,.string b]/\a.size<=Rows.uptoBulk x.1/\b.size<=Rows.uptoBulk x.1:=by
 obtain⟨xs,k,rfl,rfl,c,n,d⟩:=DataW.trod_struct Tryz.underlying103 h;rw[Cf7] at c;have g0:DataW.trod enc Tryz.prog W 0 (λ _=>true) true k 9 ((cs.drop 0).take (Tryz.prog.cellsOf 9))=xs[0]?:=d 0 _ rfl;have g1:DataW.trod enc Tryz.prog W 0 (λ _=>true) true k 9 ((cs.drop 1).take (Tryz.prog.cellsOf 9))=xs[1]?:=d 1 _ rfl;rw[Ct5] at g0 g1
 match cs,c,xs,n with
 | [v0,v1],_,[o,q],_=>
  have g0:DataW.trod enc Tryz.prog W 0 (λ _=>true) true k 9 [v0]=some o:=g0;have g1:DataW.trod enc Tryz.prog W 0 (λ _=>true) true k 9 [v1]=some q:=g1;obtain⟨s0,r,rfl,_⟩:=DataW.trod_string Tryz.underlying9 g0;obtain⟨s1,h1,rfl,_⟩:=DataW.trod_string Tryz.underlying9 g1;have t:v0=Value.string s0:=(List.cons.inj (show[v0] = [Value.string s0] from r)).1;have u:v1=Value.string s1:=(List.cons.inj (show[v1] = [Value.string s1] from h1)).1;subst t u;refine⟨s0,s1,rfl,?_⟩;have v:s0.data.toList.length=s0.size:=by rw[Array.length_toList];rfl
  have w:s1.data.toList.length=s1.size:=by rw[Array.length_toList];rfl
  simp only[List.map_cons,List.map_nil,Rows.uptoBulk,Rows.uptoBulkAll];omega
def prc (t:ByteArray×ByteArray):List Value:=[.string t.1,.string t.2]
def Bs7 (W:PW) (s:Sl) (L:List (ByteArray×ByteArray)):Prop:=Bf9 W 2 s (L.map prc)
theorem Gc9 {p:List MemPlace}{enc:TypeId×Value->H}{v:Value}{d:DataW H}(h:DataW.trod enc Tryz.prog W 0 (λ _=>true) true fuel 23 [v]=some (d,p)):
  ∃(s:Sl) (L:List (ByteArray×ByteArray)),v=s.v/\Bs7 ⟨W,λ _=>False⟩ s L/\L.length<=Rows.uptoBulk d/\∀t∈L,t.1.size<=Rows.uptoBulk d/\t.2.size<=Rows.uptoBulk d:=by
 rcases open_slice Tryz.underlying23 h with⟨w,z⟩ | ⟨a,len,cap,m,n,D,R,w,_,F,hm,A,z,B⟩
 ·have o:v = .slice none 0 0:=by simpa using w
  subst o;exact⟨⟨none,0,0⟩,[],rfl,⟨0,rfl,Nat.le_refl _,Nat.zero_le _,λ x h=>by simp at h,.inl rfl⟩,Nat.zero_le _,λ l h=>by simp at h⟩
 ·have o:v = .slice (some a) len cap:=by simpa using w
  subst o;simp only[if_true] at A;subst A;simp only[Prod.mk.injEq] at z;obtain⟨rfl,_⟩:=z;rw[Cf7] at B;obtain⟨q,C⟩: ∃q:Nat->ByteArray×ByteArray,∀i,i<m->W.cells? 0 (a.add (i*2)) 2=some (prc (q i))/\(q i).1.size<=Rows.uptoBulk (D i)/\(q i).2.size<=Rows.uptoBulk (D i):=by
   have:Inhabited (ByteArray×ByteArray):=⟨(⟨#[]⟩,⟨#[]⟩)⟩;refine choose_lt (α:=ByteArray×ByteArray) (p:=λ i q=>W.cells? 0 (a.add (i*2)) 2=some (prc q)/\q.1.size<=Rows.uptoBulk (D i)/\q.2.size<=Rows.uptoBulk (D i)) λ i hi=>?_;obtain⟨S,h1,E⟩:=B i hi;obtain⟨x,y,rfl,G,I⟩:=open_pair E;exact⟨(x,y),h1,G,I⟩
  have J:=Bz7 (W:=W) (a:=a) (n:=len) (c:=m) (sz:=2) (V:=λ i=>prc (q i)) (λ j r i v o=>by
   obtain⟨_,hlen,N⟩:=World.cells?_some (C j (by omega)).1;have hi:i<2:=by have:=(List.getElem?_eq_some_iff.1 o).1;omega
   have:=N i hi;rw[add_add] at this;rw[this];exact o) (λ j r=>rfl) (by omega) F hm (λ j r u hu=>by
   simp only[prc,List.mem_cons,List.not_mem_nil,or_false] at hu;rcases hu with rfl | rfl<;>rfl)
  have O: ∀i,i<len->Rows.uptoBulk (D i)<=Rows.uptoBulkAll ((List.range len).map D):=λ i hi=>Eo6 (List.mem_map.2 ⟨i,List.mem_range.2 hi,rfl⟩);have hlen:=Dj1 ((List.range len).map D);simp only[List.length_map,List.length_range] at hlen;refine⟨⟨some a,len,m⟩,(List.range len).map q,rfl,?_,?_,λ t P=>?_⟩
  ·unfold Bs7
   rw[List.map_map];exact J
  ·simp only[List.length_map,List.length_range,Rows.uptoBulk]
   omega
  ·obtain⟨j,r,rfl⟩:=List.mem_map.1 P
   have Q:=List.mem_range.1 r;have h1:=O j Q;have E:=(C j (by omega)).2;simp only[Rows.uptoBulk];omega
end Go.Proofs.YtkgeopnakkcdoaaGreat
