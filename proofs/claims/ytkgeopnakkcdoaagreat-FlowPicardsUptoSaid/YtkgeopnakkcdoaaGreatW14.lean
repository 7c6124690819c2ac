/- Proved here: FlowPicardsUptoSaid, the given statement of this seat, whole, with no hypothesis ahead of it; its own condition is the bound on the arguments' bulk that it states itself. -/
import Derived.Test.YtkgeopnakkcdoaaGreatW13
import Derived.Test.YtkgeopnakkcdoaaGreatLib4
import Derived.Test.YtkgeopnakkcdoaaGreatW12
set_option linter.unusedVariables false
set_option linter.unusedSimpArgs false
set_option maxRecDepth 100000
namespace Go.Proofs.YtkgeopnakkcdoaaGreat
open Go Go.SX
variable {M:Nat->Prop}{W W0:PW}{b:Nat->Iv}{j:Nat}{l:List Value}{tu:TypeId}
theorem Mf8 {t:Tm}(h:t.1.ok)(a:t.1.deg<=4):sex t 3<=4:=by
 unfold Mon.ok at h;unfold Mon.deg at a;show 0+t.1.x.toNat+t.1.y.toNat+t.1.z.toNat<=4;omega
theorem Mh2 {n:Int}(h:Lm6 tu W l b n)(a:j<3):(∃(s:Sl) (c:Bool) (t:Sl),As9 l (0+Int.toNat (j:Int)*6+0) [s.v,.bool c,t.v]/\Ab3 tu W s c t (b j).1)/\∃(s:Sl) (c:Bool) (t:Sl),As9 l (0+Int.toNat (j:Int)*6+3) [s.v,.bool c,t.v]/\Ab3 tu W s c t (b j).2:=by
 obtain⟨d,rfl,s0,b0,t0,s1,b1,t1,s2,b2,t2,s3,e,t3,s4,f,t4,g,i,t5,rfl,d1,d2,d3⟩:=h;rcases(by omega:j=0\/j=1\/j=2) with rfl | rfl | rfl
 ·exact⟨⟨_,_,_,⟨by simp,rfl⟩,d1.two.1⟩,⟨_,_,_,⟨by simp,rfl⟩,d1.two.2⟩⟩
 ·exact⟨⟨_,_,_,⟨by simp,rfl⟩,d2.two.1⟩,⟨_,_,_,⟨by simp,rfl⟩,d2.two.2⟩⟩
 ·exact⟨⟨_,_,_,⟨by simp,rfl⟩,d3.two.1⟩,⟨_,_,_,⟨by simp,rfl⟩,d3.two.2⟩⟩
theorem Mg0 {n:Int}(h:Ll5 tu W l b n)(a:j<3):(∃(c:Bool) (s t:Sl),As9 l (0+Int.toNat (j:Int)*6+0) [.bool c,s.v,t.v]/\Ab6 tu W c s t (b j).1)/\∃(c:Bool) (s t:Sl),As9 l (0+Int.toNat (j:Int)*6+3) [.bool c,s.v,t.v]/\Ab6 tu W c s t (b j).2:=by
 obtain⟨d,rfl,b0,s0,t0,b1,s1,t1,b2,s2,t2,e,s3,t3,f,s4,t4,g,i,t5,rfl,d1,d2,d3⟩:=h;rcases(by omega:j=0\/j=1\/j=2) with rfl | rfl | rfl
 ·exact⟨⟨_,_,_,⟨by simp,rfl⟩,d1.two.1⟩,⟨_,_,_,⟨by simp,rfl⟩,d1.two.2⟩⟩
 ·exact⟨⟨_,_,_,⟨by simp,rfl⟩,d2.two.1⟩,⟨_,_,_,⟨by simp,rfl⟩,d2.two.2⟩⟩
 ·exact⟨⟨_,_,_,⟨by simp,rfl⟩,d3.two.1⟩,⟨_,_,_,⟨by simp,rfl⟩,d3.two.2⟩⟩
def Mf7 (W0:PW) (M:Nat->Prop) (dl d:List Value) (s3 s4 g h:Sl) (i1 i2:Int) (ao:PW) (Post:Value->PW->Prop):Prop:=
 ∃(i:List PL->PW->Prop) (ap:List PL->PW->Nat),i [PL.val (Value.int IntKind.i64 0)] ao/\∀(i193:Int) (f:PW),i [PL.val (Value.int IntKind.i64 i193)] f->(i193<3->(0<=i193/\i193<3)/\∃(y:Sl) (z:Bool) (A:Sl),As9 dl (0+Int.toNat i193*6+0) [Sl.v y,Value.bool z,Sl.v A]/\(0<=i193/\i193<3)/\∃(B:Bool) (C:Sl) (D:Sl),As9 d (0+Int.toNat i193*6+0) [Value.bool B,Sl.v C,Sl.v D]/\Aa1 Tryz.prog W0 M 13 [.agg ⟨[Sl.v y,Value.bool z,Sl.v A]⟩,.agg ⟨[Value.bool B,Sl.v C,Sl.v D]⟩] f λ v201 E=>∃(k:Bool),v201=Value.bool k/\((!k)=true->∀(F:PW),Ext E F->Post (Value.bool false) F)/\((!k)=false->(0<=i193/\i193<3)/\∃(G:Sl) (H:Bool) (I:Sl),As9 dl (0+Int.toNat i193*6+3) [Sl.v G,Value.bool H,Sl.v I]/\(0<=i193/\i193<3)/\∃(J:Bool) (K:Sl) (L:Sl),As9 d (0+Int.toNat i193*6+3) [Value.bool J,Sl.v K,Sl.v L]/\Aa1 Tryz.prog W0 M 13 [.agg ⟨[Sl.v G,Value.bool H,Sl.v I]⟩,.agg ⟨[Value.bool J,Sl.v K,Sl.v L]⟩] E λ aq m=>∃(n:Bool),aq=Value.bool n/\((!n)=true->∀(N:PW),Ext m N->Post (Value.bool false) N)/\((!n)=false->(i1≠i2->∀(O:PW),Ext m O->Post (Value.bool false) O)/\(¬i1≠i2->I64 (i193+1)/\stp i ap [PL.val (Value.int IntKind.i64 (i193+1))] m [PL.val (Value.int IntKind.i64 i193)] f))))/\(¬i193<3->Aa1 Tryz.prog W0 M 14 [.agg ⟨dl⟩,Sl.v s3,Sl.v g] f λ ar au=>∃(a:Sl) (o:Bool),ar = .tuple ⟨[Sl.v a,Value.bool o]⟩/\Aa1 Tryz.prog W0 M 15 [.agg ⟨d⟩,Sl.v s4,Sl.v h] au λ av p=>∃(e:Sl) (q:Bool),av = .tuple ⟨[Sl.v e,Value.bool q]⟩/\(o≠q->∀(P:PW),Ext p P->Post (Value.bool false) P)/\(¬o≠q->((a.2:Int)≠(e.2:Int)->∀(Q:PW),Ext p Q->Post (Value.bool false) Q)/\(¬(a.2:Int)≠(e.2:Int)->∃(r:List PL->PW->Prop) (aw:List PL->PW->Nat),r [PL.val (Value.int IntKind.i64 0)] p/\∀(i228:Int) (c:PW),r [PL.val (Value.int IntKind.i64 i228)] c->(i228<(a.2:Int)->inB a i228/\∃(R:Sl) (S:Sl) (T:Bool) (U:Sl) (V:Sl) (X:Bool) (Y:Sl),Aa7 c a 7 (Int.toNat i228) 0 [Sl.v R,Sl.v S,Value.bool T,Sl.v U,Sl.v V,Value.bool X,Sl.v Y]/\inB e i228/\∃(Z:Sl) (aa:Bool) (ab:Sl) (ac:Sl) (ad:Bool) (ae:Sl) (af:Sl),Aa7 c e 7 (Int.toNat i228) 0 [Sl.v Z,Value.bool aa,Sl.v ab,Sl.v ac,Value.bool ad,Sl.v ae,Sl.v af]/\Aa1 Tryz.prog W0 M 16 [.agg ⟨[Sl.v R,Sl.v S,Value.bool T,Sl.v U,Sl.v V,Value.bool X,Sl.v Y]⟩,.agg ⟨[Sl.v Z,Value.bool aa,Sl.v ab,Sl.v ac,Value.bool ad,Sl.v ae,Sl.v af]⟩] c λ ax ag=>∃(s:Bool),ax=Value.bool s/\((!s)=true->∀(ah:PW),Ext ag ah->Post (Value.bool false) ah)/\((!s)=false->I64 (i228+1)/\stp r aw [PL.val (Value.int IntKind.i64 (i228+1))] ag [PL.val (Value.int IntKind.i64 i228)] c))/\(¬i228<(a.2:Int)->Aa1 Tryz.prog W0 M 17 [.agg ⟨dl⟩,Sl.v g] c λ ay az=>∃(ai:Sl) (t:Bool),ay = .tuple ⟨[Sl.v ai,Value.bool t]⟩/\Aa1 Tryz.prog W0 M 18 [.agg ⟨d⟩,Sl.v h] az λ aA aB=>∃(aj:Sl) (u:Bool),aA = .tuple ⟨[Sl.v aj,Value.bool u]⟩/\Aa1 Tryz.prog W0 M 19 [.agg ⟨dl⟩,Sl.v s3,Sl.v g] aB λ aC aD=>∃(v:Bool),aC=Value.bool v/\Aa1 Tryz.prog W0 M 20 [.agg ⟨d⟩,Sl.v s4,Sl.v h] aD λ aE w=>∃(x:Bool),aE=Value.bool x/\(v=x->(t=u->Aa1 Tryz.prog W0 M 21 [Sl.v ai,Sl.v aj] w λ aF aG=>∃(ak:Bool),aF=Value.bool ak/\∀(al:PW),Ext aG al->Post (Value.bool ak) al)/\(¬t=u->∀(am:PW),Ext w am->Post (Value.bool false) am))/\(¬v=x->∀(an:PW),Ext w an->Post (Value.bool false) an)))))
theorem Lu7 {d:PW}{dl:List Value}{G:List Value}{s3:Sl}{s4:Sl}{H:Sl}{I:Sl}{i1:Int}{i2:Int}{Post:Value->PW->Prop}{f:List (List Tm)}{ms:List Mdl}{n:Int}(h:Lm6 214 d dl b n)(i:Ll5 214 d G b n)(J:Ps d s3 f)(K:RPs d s4 f)(hm:Lm9 d H ms)(u:Lm1 d I ms)(hi:i1=i2)(m:f.length<=4)(hF:Mc6 f)(g: ∀x∈ms,MOK 4 x)(aZ:ms.length<=3)(a:Ln7 b)(fin: ∀W,Post (.bool true) W):Mf7 W0 M dl G s3 s4 H I i1 i2 d Post:=by
 refine⟨flI d 3,Kq0 3,⟨0,rfl,Nat.zero_le _,Ext.refl _⟩,?_⟩;rintro i193 a0 ⟨j,rfl,V,c⟩;refine⟨λ X=>?_,λ Y=>?_⟩
 ·obtain⟨⟨Z,aa,ab,e1,v1⟩,ad,ae,af,e3,v3⟩:=Mh2 h (j:=j) (by omega)
  obtain⟨⟨ah,ai,aj,e2,v2⟩,al,am,an,e4,v4⟩:=Mg0 i (j:=j) (by omega);have z:=(a.bd j).sz;refine⟨⟨by omega,by omega⟩,Z,aa,ab,e1,⟨by omega,by omega⟩,ah,ai,aj,e2,Bv1 (v1.ext c) (v2.ext c) z.1 z.1 (by omega) λ a1 v _=>⟨_,rfl,λ e=>absurd e (by simp),λ _=>?_⟩⟩;refine⟨⟨by omega,by omega⟩,ad,ae,af,e3,⟨by omega,by omega⟩,al,am,an,e4,Bv1 (v3.ext (c.trans v)) (v4.ext (c.trans v)) z.2 z.2 (by omega) λ a2 ap _=>⟨_,rfl,λ e=>absurd e (by simp),λ _=>⟨λ e=>absurd hi e,λ _=>⟨by unfold I64;omega,⟨j+1,by push_cast;rfl,by omega,c.trans (v.trans ap)⟩,?_⟩⟩⟩⟩;show 3-Int.toNat ((j:Int)+1)<3-Int.toNat (j:Int);omega
 refine Ln5 (h.ext c) (J.ext c) (hm.ext c) m hF g a λ L a3 aq o=>⟨L,_,rfl,?_⟩;have p:=c.trans aq;refine Lo1 (i.ext p) (K.ext p) (u.ext p) m hF g a λ N w O q=>⟨N,_,rfl,λ e=>absurd rfl e,λ _=>?_⟩;have ar:=p.trans O;have o:Lm9 w L (Lp8 b n f ms):=Lm9.ext o O;have q:Lm1 w N (Lp8 b n f ms):=q;have n1:=o.n;have n2:=q.n;refine⟨λ e=>absurd (by rw[n1,n2]) e,λ _=>⟨flI w (Lp8 b n f ms).length,Kq0 (Lp8 b n f ms).length,⟨0,rfl,Nat.zero_le _,Ext.refl _⟩,?_⟩⟩;rintro i228 a4 ⟨j,rfl,V,r⟩;refine⟨λ X=>?_,λ Y=>?_⟩
 ·have A:j<(Lp8 b n f ms).length:=by omega
  obtain⟨ok,aw,ax⟩:=Mb1 A;obtain⟨q1,q2,q3⟩:=Mh3 hF g a ok.2.2.1 aw;have h1:=o.ext r;have P:=q.ext r;obtain⟨y,⟨az,_,rfl,g4,aA,aB,aC,aD,aE,aF,rfl,g5,g6⟩,el⟩:=h1.at A;obtain⟨y',⟨aG,_,rfl,Q,aH,aI,aJ,aK,aL,aM,rfl,R,S⟩,aN⟩:=P.at A;rw[ax] at g4 g5 g6 Q R S;refine⟨h1.inB (by omega) (by omega),az,aA,aB,aC,aD,aE,aF,el 0 rfl,P.inB (by omega) (by omega),aG,aH,aI,aJ,aK,aL,aM,aN 0 rfl,?_⟩;refine Ly3 (k:=13000000) (MdV.mk g4 (SpV.mk g5 g6)) (Ll6.mk Q (Ah6.mk R S)) (λ t ht=>(q1 t ht).mono (by omega)) q2 (by omega) (by omega) λ a7 aP _=>⟨true,rfl,λ e=>(by cases e),λ _=>⟨by unfold I64;omega,⟨j+1,by push_cast;rfl,by omega,r.trans aP⟩,?_⟩⟩;show(Lp8 b n f ms).length-Int.toNat ((j:Int)+1)<(Lp8 b n f ms).length-Int.toNat (j:Int);omega
 have B:=ar.trans r;refine Lw6 (h.ext B) (hm.ext B) g a λ aQ a8 aR aS=>⟨aQ,_,rfl,?_⟩;have C:=B.trans aR;refine Lz6 (i.ext C) (u.ext C) g a λ aT a9 T aU=>⟨aT,_,rfl,?_⟩;have s:=C.trans T;refine Ls8 (h.ext s) (J.ext s) (hm.ext s) m hF g a λ ba D _=>⟨_,rfl,?_⟩;have E:=s.trans D;refine Lv5 (i.ext E) (K.ext E) (u.ext E) m hF g a λ bb U _=>⟨_,rfl,λ _=>⟨λ _=>?_,λ e=>absurd rfl e⟩,λ e=>absurd rfl e⟩;have zz: ∀y∈(if Lm0 b n ms then ms.map (Lp0 b) else[]),IvS 40000 y:=λ y F=>by
  split at F
  ·obtain⟨x,hx,rfl⟩:=List.mem_map.1 F
   exact(Me5 (g x hx) a).2
  ·cases F
 have ll:(if Lm0 b n ms then ms.map (Lp0 b) else[]).length<=1048576:=by
  split
  ·rw[List.length_map];omega
  ·exact Nat.zero_le _
 exact Ki7 (aS.ext (T.trans (D.trans U))) (aU.ext (D.trans U)) zz (by omega) ll λ bc bd _=>⟨true,rfl,λ aY _=>fin aY⟩
def fpI (W0:PW) (n:Nat) (a:List (List Tm)) (L:List PL) (W:PW):Prop:=match L with
 | [.val (.int .i64 i)]=>∃j:Nat,i=(j:Int)/\j<=n/\Ext W0 W/\∀y,y<j->(a.getD y []).length<=3/\Fd0 Mon.deg (-1) (a.getD y [])<=2
 | _=>False
theorem Mg2 {x:List Iv}{h:Rat}(a: ∀y∈x,BdI 7 y/\y.1<=y.2)(c:Sz 3 h)(d:0<=h):Ln7 (pdB x h):=by
 have key: ∀i,BdI 7 (Bm3 x i)/\(Bm3 x i).1<=(Bm3 x i).2:=λ i=>by
  by_cases hi:i<x.length
  ·rw[Fi1 hi]
   exact a _ (List.getElem_mem hi)
  ·have e:Bm3 x i=(0,0):=by
    unfold Bm3;rw[List.getD_eq_getElem?_getD,List.getElem?_eq_none (by omega)];rfl
   rw[e];exact⟨BdI.zero (by omega),Rat.le_refl⟩
 constructor
 ·intro i
  unfold pdB;split
  ·exact BdI.Co7 (k:=3) (x:=((0:Rat),h)) ⟨Sz.zero (by omega),c⟩
  ·exact(key i).1
 ·intro i
  unfold pdB;split
  ·exact d
  ·exact(key i).2
theorem Lt4 {s:Sl}{Z:Sl}{sm:Sl}{T:List (List (Mon×ByteArray))}{L:List (ByteArray×ByteArray)}{Lm:List MoT}{h:ByteArray}{k:Int}(h1:Jz1 W0 s T)(d:Bs7 W0 Z L)(hm:Lv7 W0 sm Lm)(z1: ∀l∈T,l.length<=1099511627776/\∀t∈l,t.2.size<=1099511627776)(lx:L.length<=1099511627776)(zx: ∀t∈L,t.1.size<=1099511627776/\t.2.size<=1099511627776)(zh:h.size<=1099511627776)(zm: ∀t∈Lm,(t.1.length<=1099511627776/\∀u∈t.1,u.2.size<=1099511627776)/\t.2.1.size<=1099511627776/\t.2.2.size<=1099511627776):
  Aa0 Tryz.prog 3 [s.v,Z.v,.string h,.int .i64 k,sm.v] W0 M λ v W'=>v = .bool true/\True:=by
 apply Ln4;have hn:=h1.n;have A: ∀W,Aa1 Tryz.prog W0 M 7 [] W λ v11 ad=>∃ae:Bool,v11 = .bool ae/\∀(af:PW),Ext ad af->Value.bool ae = .bool true/\True:=λ W=>Ka0 λ ad _ _=>⟨true,rfl,λ af _=>⟨rfl,trivial⟩⟩;refine Ke6 h1 z1 λ s3 s4 b5 W2 ag g=>⟨s3,s4,b5,rfl,?_⟩;refine Go0 zh λ s8 b9 bH bI bJ bK W7 I ⟨q1,B⟩=>⟨_,_,_,_,_,_,_,rfl,?_⟩;refine Lr2 (hm.ext (ag.trans I)) zm λ aB aC aD bM F gm=>⟨aB,aC,aD,rfl,λ _=>A _,λ aF=>⟨λ _=>A _,λ N=>⟨λ _=>A _,λ aG=>?_⟩⟩⟩;obtain⟨C,O,h4,G,D⟩:=g (by simpa using aF);obtain⟨ms,m1,m2,hM,ai⟩:=gm (by simpa using aG);have N:(Gp3 h).isSome=true:=by simpa using N
 obtain⟨q,a⟩:=Option.isSome_iff_exists.1 N;rw[a] at q1 B;have q1:Ab3 214 _ _ _ _ q:=q1;have B:Ab6 214 _ _ _ _ q:=B;refine Ka0 λ bO r _=>⟨true,rfl,λ e=>(by cases e),λ _=>?_⟩;have P:=ag.trans (I.trans (F.trans r));refine Fy8 (d.ext P) lx λ aH aI aJ E=>⟨aH,rfl,λ _=>A _,λ aK=>⟨λ _=>A _,λ bP=>⟨λ _=>A _,λ bQ=>?_⟩⟩⟩;have E:=E (by simpa using aK);have hz:Sz 4 q:=Kp9 a (by omega);have aL:Sz 3 q:=by
  unfold Gp3 at a;split at a
  ·exact Du4 a (m:=12) (by omega) (by decide) (by decide)
  ·cases a
 have bR:=An5.len O;refine⟨fpI aI T.length C,Kq0 T.length,⟨0,rfl,Nat.zero_le _,Ext.refl _,λ y H=>absurd H (Nat.not_lt_zero _)⟩,?_⟩;rintro i56 bS ⟨j,rfl,hj,ak,al⟩;have f:=aJ.trans ak;have hT:=h1.ext (P.trans f);have G:=G.ext (I.trans (F.trans (r.trans f)));have D:=D.ext (I.trans (F.trans (r.trans f)));have q1:=q1.ext (F.trans (r.trans f));have B:=B.ext (F.trans (r.trans f));have m1:=m1.ext (r.trans f);have m2:=m2.ext (r.trans f);refine⟨λ bU=>?_,λ bV=>?_⟩
 ·have an:j<T.length:=by omega
  have Q:j<C.length:=by omega
  obtain⟨x,d,hl⟩:=hT.at an;obtain⟨y,H,a⟩:=D.at Q;obtain⟨l,J,ao⟩:=O.at Q;have bW:x.n=T[j].length:=by obtain⟨xs,⟨_,hr⟩,ha⟩:=hl;exact hr.1.trans ha.len
  have bX:C[j].length<=T[j].length:=by
   rw[List.getElem?_eq_getElem an] at ao;have e:=Option.some.inj ao;subst e;exact Nat.le_of_eq J.1.len.symm
  have bY:C[j].length<=14:=J.len;refine⟨hT.inB (by omega) (by omega),x,d,λ _ bZ _=>⟨rfl,trivial⟩,λ R=>⟨D.inB (by omega) (by omega),y,H,Ka5 a (by omega) λ b0 aP _=>⟨_,rfl,λ _ b1 _=>⟨rfl,trivial⟩,λ b2=>⟨by unfold I64;omega,⟨j+1,by push_cast;rfl,by omega,ak.trans aP,λ y H=>?_⟩,?_⟩⟩⟩⟩
  ·by_cases S:y=j
   ·rw[S,Jy8 Q]
    exact⟨by omega,by omega⟩
   ·exact al y (by omega)
  ·show T.length-Int.toNat ((j:Int)+1)<T.length-Int.toNat (j:Int)
   omega
 have hF:Mc6 C:=λ p hp=>by
  obtain⟨i,hi,rfl⟩:=List.mem_iff_getElem.1 hp;obtain⟨l,J,_⟩:=O.at hi;obtain⟨R,hd⟩:=al i (by omega);rw[Jy8 hi] at R hd;obtain⟨y,H,a⟩:=G.at hi;refine⟨R,λ t c=>⟨J.1.sz t c,Mf8 (a.ok t c) ?_⟩⟩;have:=(Hv3 (w:=Mon.deg) (n:=-1) (p:=C[i])).2 t c;omega
 refine Hi0 (d.ext (P.trans f)) lx zx λ aS aT xs b3 U ⟨x1,x2,xl,_,xf⟩=>⟨aS,aT,rfl,?_⟩;have kx: ∀x∈xs,IvS 4 x:=λ x d=>by
  obtain⟨t,c,e⟩:=xf x d;obtain⟨g1,g2,_⟩:=Dp3 e;exact⟨Ct3 g1 (E t c).1,Ct3 g2 (E t c).2⟩
 have kb: ∀x∈xs,BdI 7 x/\x.1<=x.2:=λ x d=>by
  obtain⟨t,c,e⟩:=xf x d;exact Mg6 e (E t c).1 (E t c).2
 refine Lr5 (n:=k) x1 (q1.ext U) kx xl hz λ l b4 V z=>?_;obtain⟨aX,aY,aZ,a0,a1,a2,a3,a4,a5,a6,a7,a8,a9,ba,bc,bd,be,bf,rfl⟩:=Ls3 z;generalize K:(if Ll7 xs q k then k else 0)=i89 at *;refine⟨aX,aY,aZ,a0,a1,a2,a3,a4,a5,a6,a7,a8,a9,ba,bc,bd,be,bf,_,_,rfl,?_⟩;refine Lr0 (n:=k) (x2.ext V) (B.ext (U.trans V)) kx xl hz λ l bb nn bg au ⟨av,bh⟩=>?_;obtain⟨bi,bj,bk,bl,bm,bn,bo,bp,bq,br,bs,bt,bu,bv,bw,bx,bz,bA,rfl⟩:=Lq0 av;refine⟨bi,bj,bk,bl,bm,bn,bo,bp,bq,br,bs,bt,bu,bv,bw,bx,bz,bA,_,_,rfl,λ e=>absurd rfl e,λ _=>?_⟩;have o:=U.trans (V.trans au);have z:=z.ext au;refine⟨λ X=>?_,λ X=>?_⟩
 ·have bB:¬Ll7 xs q k:=by simpa using X
  rw[if_neg bB] at z K;subst K;exact Lu7 (Post:=λ v _=>v = .bool true/\True) (b:=λ _=>(0,0)) (n:=0) z (Ll5.zero bg 0) (G.ext o) (D.ext o) (m1.ext o) (m2.ext o) rfl (by omega) hF hM ai Ln7.zero λ W=>⟨rfl,trivial⟩
 ·have Y:Ll7 xs q k:=by simpa using X
  obtain⟨S,e2⟩:=bh Y;rw[if_pos Y] at z K;subst K;subst S;subst e2;exact Lu7 (Post:=λ v _=>v = .bool true/\True) (b:=pdB xs q) z av (G.ext o) (D.ext o) (m1.ext o) (m2.ext o) rfl (by omega) hF hM ai (Mg2 kb aL (Rat.le_of_lt Y.2.2.1)) λ W=>⟨rfl,trivial⟩
end Go.Proofs.YtkgeopnakkcdoaaGreat
namespace Go.Proofs.YtkgeopnakkcdoaaGreat
open Go Go.SX Go.ChangeShapes Go.WideShapes Go.ChangeAt Go.RowKit Go.Deep
instance:Inhabited (Sl×List (Mon×ByteArray)):=⟨(⟨none,0,0⟩,[])⟩
theorem Ki8:Tryz.prog.cellsOf 49=1:=by kernel_rfl
theorem Kk2 {H:Type}{W:World}{fuel:Nat}{p:List MemPlace}{enc:TypeId×Value->H}{v:Value}{d:DataW H}(h:DataW.trod enc Tryz.prog W 0 (λ _=>true) true fuel 22 [v]=some (d,p)):
  ∃(s:Sl) (T:List (List (Mon×ByteArray))),v=s.v/\Jz1 ⟨W,λ _=>False⟩ s T/\T.length<=Rows.uptoBulk d/\∀l∈T,l.length<=Rows.uptoBulk d/\∀t∈l,t.2.size<=Rows.uptoBulk d:=by
 rcases open_slice1 Tryz.underlying22 Ki8 h with⟨g,k⟩ | ⟨a,len,cap,m,n,V,D,G,g,_,o,hm,u,k,w⟩
 ·have q:v = .slice none 0 0:=by simpa using g
  subst q;exact⟨⟨none,0,0⟩,[],rfl,⟨[],⟨0,rfl,Nat.le_refl _,Nat.zero_le _,λ x h=>by simp at h,.inl rfl⟩,rfl,λ i h=>by simp at h⟩,Nat.zero_le _,λ l h=>by simp at h⟩
 ·have q:v = .slice (some a) len cap:=by simpa using g
  subst q;simp only[if_true] at u;subst u;simp only[Prod.mk.injEq] at k;obtain⟨rfl,_⟩:=k;obtain⟨y,f⟩:=choose_lt (α:=Sl×List (Mon×ByteArray)) (p:=λ i y=>V i=y.1.v/\Af3 ⟨W,λ _=>False⟩ y.1 y.2/\y.2.length<=Rows.uptoBulk (D i)/\∀t∈y.2,t.2.size<=Rows.uptoBulk (D i)) λ i hi=>by
   obtain⟨s,L,h1,z,r,A⟩:=Dt5 (w i hi).2;exact⟨(s,L),h1,z,r,A⟩
  have B:=Ig6 (V:=V) (λ j c=>(w j (by omega)).1) o hm (λ j c=>by rw[(f j (by omega)).1];rfl);have C: ∀i,i<len->Rows.uptoBulk (D i)<=Rows.uptoBulkAll ((List.range len).map D):=λ i hi=>Eo6 (List.mem_map.2 ⟨i,List.mem_range.2 hi,rfl⟩);have hlen:=Dj1 ((List.range len).map D);simp only[List.length_map,List.length_range] at hlen;refine⟨⟨some a,len,m⟩,(List.range len).map λ i=>(y i).2,rfl,⟨(List.range len).map λ i=>(y i).1,?_,by simp,λ i hi I=>?_⟩,?_,λ l o=>?_⟩
  ·have e:(((List.range len).map λ i=>(y i).1).map λ x=>[x.v])=(List.range len).map λ j=>[V j]:=by
    rw[List.map_map];apply List.map_congr_left;intro j c;have:=(f j (by have:=List.mem_range.1 c;omega)).1;simp[this]
   rw[e];exact B
  ·have J:i<len:=by simpa using hi
   simp only[List.getElem_map,List.getElem_range];exact(f i (by omega)).2.1
  ·simp only[List.length_map,List.length_range,Rows.uptoBulk]
   omega
  ·obtain⟨j,c,rfl⟩:=List.mem_map.1 o
   have E:=List.mem_range.1 c;have h1:=C j E;obtain⟨_,_,z,r⟩:=f j (by omega);simp only[Rows.uptoBulk];refine⟨by omega,λ t F=>?_⟩;have:=r t F;omega
end Go.Proofs.YtkgeopnakkcdoaaGreat
namespace Go.Proofs.YtkgeopnakkcdoaaGreat
open Go Go.SX Go.ChangeShapes Go.WideShapes Go.ChangeAt Go.RowKit Go.Deep
theorem Fa3 (H:Type)(enc:TypeId×Value->H)(W:World)(base:Nat)(args:Array Value)(m gs:List (DataW H))(before:List MemPlace)(d: ∀(j:Nat) t v,Tryz.f3.params[j]?=some t->args[j]?=some v->Value.okWide Tryz.prog W .any base t v)(C:DataW.Whole enc Tryz.prog Tryz.f3.params.toList Rows.flowPicardsSpec.vars false W args.toList m gs before)(hk:Rows.uptoSmall H (m ++ gs)=true):
  Calls Tryz.prog 3 args W λ e W'=>∃v,e = .returned v/\Rows.flowPicardsSpec.post enc Tryz.prog Tryz.f3 false true false false W args v W':=by
 have n:=C;obtain⟨p,q,D,O,rfl,aD,aE⟩:=C;have E:DataW.TrodAll enc Tryz.prog W 0 (λ _=>true) true Tryz.f3.params.toList args.toList m p:=D;rw[Tryz.params3] at E d;obtain⟨v0,aF,d0,aG,o,q0,aI,rfl,rfl,F,P⟩:=trodAll_cons E;obtain⟨v1,aJ,d1,ds1,r,q1,rfl,rfl,rfl,h1,Q⟩:=trodAll_cons P;obtain⟨v2,aK,d2,aL,w,q2,rfl,rfl,rfl,G,R⟩:=trodAll_cons Q;obtain⟨v3,aN,d3,aO,I,q3,rfl,rfl,rfl,S,T⟩:=trodAll_cons R;obtain⟨v4,aQ,d4,aR,y,q4,rfl,rfl,rfl,J,U⟩:=trodAll_cons T;obtain⟨rfl,rfl,rfl⟩:=trodAll_nil U;obtain rfl:args = #[v0,v1,v2,v3,v4]:=by cases args;simp_all
 obtain⟨rfl,rfl⟩:=trodVars_none O;obtain⟨a0,V,X,rfl⟩:=okWide_slice Tryz.underlying22 (d 0 22 v0 rfl rfl);obtain⟨Y,Z,c1,rfl⟩:=okWide_slice Tryz.underlying23 (d 1 23 v1 rfl rfl);obtain⟨t2,rfl⟩:=okWide_string Tryz.underlying9 (d 2 9 v2 rfl rfl);obtain⟨z3,rfl⟩:=okWide_int Tryz.underlying3 (d 3 3 v3 rfl rfl);obtain⟨a4,n4,c4,rfl⟩:=okWide_slice Tryz.underlying24 (d 4 24 v4 rfl rfl);clear D;simp only[List.append_nil] at n hk;have g: ∀x∈o ++ (r ++ (w ++ (I ++ y))),x.block<W.heap.size:=λ x a=>by simpa using n.lt x (by simpa using a)
 have ab:Rows.uptoBulkAll [d0,d1,d2,d3,d4]<=1048576:=of_decide_eq_true hk;simp only[Rows.uptoBulkAll] at ab;have ac:=F;obtain⟨ad,ae⟩:=F;have af:DataW.trod enc Tryz.prog W 0 (λ _=>true) true ad 22 [.slice a0 V X]=some (d0,o):=by simpa[Value.cells] using ae
 obtain⟨s0,L0,z,ag,aU,K⟩:=Kk2 af;have ah:=h1;obtain⟨ai,aj⟩:=h1;have ak:DataW.trod enc Tryz.prog W 0 (λ _=>true) true ai 23 [.slice Y Z c1]=some (d1,r):=by simpa[Value.cells] using aj
 obtain⟨s1,L1,A,al,aW,am⟩:=Gc9 ak;have an:=G;obtain⟨ao,ap⟩:=G;have aq:DataW.trod enc Tryz.prog W 0 (λ _=>true) true ao 9 [.string t2]=some (d2,w):=by simpa[Value.cells] using ap
 have aX:t2.size<=Rows.uptoBulk d2:=by
  obtain⟨s,L,a,_⟩:=DataW.trod_string Tryz.underlying9 aq;simp only[List.cons.injEq,Value.string.injEq,and_true] at L;simp only[Prod.mk.injEq] at a;rw[a.1,L];have e:s.data.toList.length=s.size:=by rw[Array.length_toList];rfl
  simp only[Rows.uptoBulk];omega
 have ar:=S;have au:=J;obtain⟨av,aw⟩:=J;have ax:DataW.trod enc Tryz.prog W 0 (λ _=>true) true av 24 [.slice a4 n4 c4]=some (d4,y):=by simpa[Value.cells] using aw
 obtain⟨s4,L4,B,ay,aZ,i⟩:=Lz7 ax;have hc:=Lt4 (M:=λ _=>False) (h:=t2) (k:=z3) ag al ay (λ l N=>⟨by have:=(K l N).1;omega,λ t c=>by have:=(K l N).2 t c;omega⟩) (by omega) (λ t c=>by have:=am t c;omega) (by omega) (λ t c=>⟨⟨by have:=(i t c).1.1;omega,λ u hu=>by have:=(i t c).1.2 u hu;omega⟩,by have:=(i t c).2.1;omega,by have:=(i t c).2.2;omega⟩);have aA:=hc.2 (λ b h=>h.elim);rw[z,A,B];refine aA.mono λ e W' ⟨v,he,aB,hv,_⟩=>⟨v,he,?_⟩;subst hv;have f:=aB.below;refine⟨[d0,d1,d2,d3,d4],[],_,[],o ++ (r ++ (w ++ (I ++ y))),[],(by rw[<-z,<-A,<-B];simpa using n),trodAll_mk1 (shut_bool Tryz.underlying4 _),(by rw[<-z,<-A,<-B];exact trodAll_cons_mk (Below.trod laidOut (by kernel_rfl) (of_decide_eq_true (by kernel_rfl)) ac f λ x a=>g x (by simp[a])) (trodAll_cons_mk (Below.trod laidOut (by kernel_rfl) (of_decide_eq_true (by kernel_rfl)) ah f λ x a=>g x (by simp[a])) (trodAll_mk3 (Below.trod laidOut (by kernel_rfl) (of_decide_eq_true (by kernel_rfl)) an f λ x a=>g x (by simp[a])) (Below.trod laidOut (by kernel_rfl) (of_decide_eq_true (by kernel_rfl)) ar f λ x a=>g x (by simp[a])) (Below.trod laidOut (by kernel_rfl) (of_decide_eq_true (by kernel_rfl)) au f λ x a=>g x (by simp[a]))))),rfl,f.frame _,λ h=>by cases h⟩
theorem lifted (os:Os)(started:os.Started)(H:Type)(enc:TypeId×Value->H)(F:Stop.Interp):
  ReturnsInHanded {} Tryz.checked os 3 .any ((Rows.OpenSpec.upto Rows.flowPicardsSpec).pre6 enc Tryz.prog Tryz.f3 Rows.flowPicardsUptoRow.domain false) (((Rows.OpenSpec.upto Rows.flowPicardsSpec).at F).post enc Tryz.prog Tryz.f3 false true false false):=by
 refine returnsInHanded_of_cond (C:=Tryz.checked) (s:=Rows.OpenSpec.upto Rows.flowPicardsSpec) (k:=Rows.uptoSmall) rfl Cp9 started (by kernel_rfl) Tryz.func3
  (OpenSpec.witness (enc:=enc) (C:=Tryz.checked) (s:=Rows.OpenSpec.upto Rows.flowPicardsSpec) (k:=Rows.uptoSmall) rfl false ⟨#[],#[.slice none 0 0,.slice none 0 0,.string ⟨#[]⟩,.int .i64 0,.slice none 0 0],[]⟩ 8 (by kernel_rfl) (by kernel_rfl) (by kernel_rfl)
   (x:=([.nil,.nil,.lit (.string []),.lit (.int .i64 0),.nil],[],[])) (by kernel_rfl) rfl (by kernel_rfl)) ?_
 intro W base args a gs before c d _ hk _;exact Fa3 H enc W base args a gs before c d hk
theorem Fj9:Fc7 Tryz.checked.prog 3 Tryz.f3 (Rows.OpenSpec.upto Rows.flowPicardsSpec).bare Rows.flowPicardsUptoRow=true:=by kernel_rfl
theorem Fl9:Fd9 Tryz.checked.prog 3 Tryz.f3 (Rows.OpenSpec.upto Rows.flowPicardsSpec).bare Rows.flowPicardsUptoRow=true:=by kernel_rfl
theorem Fl2:Fe1 Tryz.checked.prog 3 Tryz.f3 (Rows.OpenSpec.upto Rows.flowPicardsSpec).bare Rows.flowPicardsUptoRow=true:=by kernel_rfl
theorem Fn7:Fd2 Tryz.checked.prog 3 Tryz.f3 (Rows.OpenSpec.upto Rows.flowPicardsSpec).bare Rows.flowPicardsUptoRow=true:=by kernel_rfl
theorem Fj6:Fd4 Tryz.checked.prog 3 Tryz.f3 (Rows.OpenSpec.upto Rows.flowPicardsSpec).bare Rows.flowPicardsUptoRow=true:=by kernel_rfl
theorem flowPicards_holds:Rows.FlowPicardsUptoSaid:=
 OpenClaim.holds_of_cond 3 Tryz.f3 rfl rfl rfl rfl rfl rfl rfl ⟨rfl,rfl,rfl,rfl,rfl⟩ rfl rfl rfl rfl rfl (by kernel_rfl) Tryz.func3 (Eo7 Fj9 Fl9 Fl2 Fn7 Fj6)
  (of_decide_eq_true (by kernel_rfl)) (by unfold Func.isWrapper;first | (rw[if_pos (by decide +kernel)];kernel_rfl) | (rw[if_neg (by decide +kernel)];exact⟨rfl,rfl⟩))
  (λ os started H enc _ F=>lifted os started H enc F)
#print axioms flowPicards_holds
end Go.Proofs.YtkgeopnakkcdoaaGreat
