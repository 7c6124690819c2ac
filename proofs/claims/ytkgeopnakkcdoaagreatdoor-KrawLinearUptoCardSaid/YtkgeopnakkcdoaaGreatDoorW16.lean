/- Proved here: KrawLinearUptoCardSaid, the given statement of this seat, whole, with no hypothesis ahead of it; its own condition is the bound on the arguments' bulk that it states itself. -/
import Derived.Test.YtkgeopnakkcdoaaGreatDoorW15
import Derived.Test.YtkgeopnakkcdoaaGreatDoorR10
import Derived.Test.YtkgeopnakkcdoaaGreatDoorW13
import Derived.Test.YtkgeopnakkcdoaaGreatDoorR11
import Derived.Test.YtkgeopnakkcdoaaGreatDoorW14
import Derived.Test.YtkgeopnakkcdoaaGreatDoorCards
import Derived.Test.YtkgeopnakkcdoaaGreatDoorTie
import Derived.Deep.DeepHandedRow
import Derived.Lib.LaidTab
import Derived.Test.YtkgeopnakkcdoaaGreatDoorLib4
set_option linter.unusedVariables false
set_option linter.unusedSimpArgs false
set_option maxRecDepth 100000
namespace Go.Proofs.YtkgeopnakkcdoaaGreatDoor
open Go Go.SX
def ztI (a:PW) (r:Nat) (c:Nat->Nat) (q:Nat->Nat->Rat) (L:List PL) (W:PW):Prop:=match L with
 | [.val (.bool b),.val (.int .i64 i)]=>∃k:Nat,i=(k:Int)/\k<=r/\Ext a W/\(b=true->∀i j,i<k->j<c i->q i j=0)
 | _=>False
def cnZ (n:Nat) (L:List PL) (_:PW):Nat:=match L with
 | [_,.val (.int .i64 z)]=>n-z.toNat
 | _=>0
end Go.Proofs.YtkgeopnakkcdoaaGreatDoor
namespace Go.Proofs.YtkgeopnakkcdoaaGreatDoor
open Go Go.SX
def cV (C:List ByteArray) (a:Nat):Rat:=(Ab7 (C.getD a ⟨⟨[]⟩⟩)).getD 0
theorem Nl2 {C:List ByteArray}(h: ∀t∈C,(t.size:Int)<=12)(a:Nat):Sz 4 (cV C a):=by
 unfold cV;have b:(C.getD a ⟨⟨[]⟩⟩).size<=30:=by
  rw[List.getD_eq_getElem?_getD]
  cases e:C[a]? with
  | none=>show 0<=30;omega
  | some t=>have:=h t (List.mem_of_getElem? e);show t.size<=30;omega
 cases e:Ab7 (C.getD a ⟨⟨[]⟩⟩) with
 | none=>exact Sz.zero (by omega)
 | some q=>exact Ct3 e b
theorem Nk5 {k:Nat}{q:Rat}(h:Sz k q):Sz k (-q):=⟨by rw[Rat.neg_num,Int.natAbs_neg];exact h.1,by rw[Rat.neg_den];exact h.2⟩
theorem Nl1 {a:Nat}{C:List ByteArray}(h:a<C.length):cV C a=(Ab7 C[a]).getD 0:=by
 unfold cV;rw[List.getD_eq_getElem?_getD,List.getElem?_eq_getElem h];rfl
theorem Nj3 {m:Nat->Nat->Rat}{m':Nat->Nat->Rat}{y:Nat->Nat->Rat}{n:Nat}(h: ∀a b,a<n->b<n->m a b=m' a b)(k:Nk6 n m y):Nk6 n m' y:=λ u v=>by
 rw[<-k u v];have e: ∀a,a<n->Mu5 (λ b=>m' a b*u b) n=Mu5 (λ b=>m a b*u b) n:=λ a c=>Mu6 λ b d=>by rw[h a b c d]
 exact⟨λ h a c=>by rw[<-e a c];exact h a c,λ h a c=>by rw[e a c];exact h a c⟩
def kmI (W0:PW) (m:Nat->Nat->Rat) (c:Nat->Rat) (n:Nat) (L:List PL) (W:PW):Prop:=match L with
 | [.row l,.row d,.val (.int .i64 i)]=>∃(j:Nat) (b:List Sl),i=(j:Int)/\j<=n/\Ext W0 W/\b.length=j/\d=b.map (λ x=>[x.v])/\An5 (Gx4 257 169 W) l (Nh9 m c n j)/\∀a (h:a<b.length),Gv6 257 50 W b[a] 1 (λ _=>c a)
 | _=>False
def kmJ (W0:PW) (c:Rat) (w:Nat->Rat) (n:Nat) (L:List PL) (W:PW):Prop:=match L with
 | [.val (.int .i64 i),.cells [.slice A x y]]=>∃k:Nat,i=(k:Int)/\k<=n/\Ext W0 W/\Ab0 257 169 W ⟨A,x,y⟩ (Ng7 c w k)
 | _=>False
def cnU (n:Nat) (L:List PL) (_:PW):Nat:=match L with
 | [_,_,.val (.int .i64 z)]=>n-z.toNat
 | _=>0
def kmS (W0:PW) (bs:List Iv) (S:Nat->Rat) (L:List PL) (W:PW):Prop:=match L with
 | [.val (.bool b),.val (.int .i64 i)]=>∃j:Nat,i=(j:Int)/\j<=bs.length/\Ext W0 W/\(b=true↔∀k,k<j->(Bm3 bs k).1<S k/\S k<(Bm3 bs k).2)
 | _=>False
theorem Nh2 {W0:PW}{M:Nat->Prop}{s:Sl}{t:Sl}{u:Sl}{T:List (List ByteArray)}{Lt:List (ByteArray×ByteArray)}{C:List ByteArray}(hT:Ac6 W0)(h1:Go3 W0 s T)(F:Bf9 W0 1 t (Gw6 C))(h3:Bs7 W0 u Lt)(l1:T.length<=1099511627776)(z1: ∀l∈T,l.length<=1099511627776/\∀t∈l,t.size<=1099511627776)(l2:C.length<=1099511627776)(z2: ∀t∈C,t.size<=1099511627776)(l3:Lt.length<=1099511627776)(z3: ∀t∈Lt,t.1.size<=1099511627776/\t.2.size<=1099511627776):
  Aa0 Tryz.prog 7 [s.v,t.v,u.v] W0 M λ v W'=>v = .bool true/\True:=by
 apply Ng4;have J: ∀{W:PW},Ext W0 W->Aa1 Tryz.prog W0 M 12 [] W λ v W'=>∃b:Bool,v = .bool b/\∀bg:PW,Ext W' bg->Value.bool b = .bool true/\True:=λ D=>Mj4 (hT.ext D) λ W' dj _=>⟨true,rfl,λ bg _=>⟨rfl,trivial⟩⟩;refine Mm9 h1 l1 (λ l hl=>(z1 l hl).1) (Gx7 λ l hl t E=>(z1 l hl).2 t E) λ s3 s4 b5 W2 aC g5=>⟨s3,s4,b5,rfl,?_⟩;refine Gb4 (hT.ext aC) (h3.ext aC) l3 z3 λ s8 s9 bY W7 aD g10=>⟨s8,s9,bY,rfl,?_⟩;have E7:=aC.trans aD;refine⟨λ _=>J E7,λ e5=>⟨λ _=>J E7,λ b0=>?_⟩⟩;refine Mj4 (hT.ext E7) λ b2 ag _=>⟨true,rfl,λ e=>(by cases e),λ _=>?_⟩;have L:=E7.trans ag;obtain⟨hR,dm,dn,m1,Q,N⟩:=g5 (by simpa using e5);obtain⟨bs,b1,_,R,hk⟩:=g10 (by simpa using b0);have m1:=m1.ext (aD.trans ag);have Q:=Q.ext (aD.trans ag);have b1:=b1.ext ag;have dp:=Q.n;have dq:=b1.n;have dr:=R.1.1;have b4:=R.1.2;refine⟨λ _=>J L,λ heq=>?_⟩;have ds:T.length=bs.length:=by omega
 obtain⟨b6,b7,b8⟩:=Q.at (i:=0) (by omega);have dt:=b8.n;have du:=F.nt;refine⟨Q.inB (by omega) (by omega),b6,b7,λ _=>J L,λ dv=>⟨λ _=>J L,λ hle=>?_⟩⟩;have b9:tw T 0=bs.length:=by omega
 refine Ml7 (F.ext L) l2 λ ca dw U cb=>⟨ca,rfl,λ _=>J (L.trans U),λ cc=>?_⟩;have cd:=cb (by simpa using cc);have ce:=L.trans U;obtain⟨n,V⟩: ∃n,bs.length=n:=⟨_,rfl⟩;obtain⟨m,hm⟩: ∃m,qT T=m:=⟨_,rfl⟩;obtain⟨c,hc⟩: ∃c,cV C=c:=⟨_,rfl⟩;rw[hm] at m1 N;have X: ∀a,Sz 4 (c a):=by rw[<-hc];exact Nl2 cd
 have bk:Gf9 257 50 84 b2 s3 n (λ _=>n) m:=by
  obtain⟨w,a1,a2,a3⟩:=m1;refine⟨w,a1,by omega,λ i hi=>?_⟩;have:=a3 i hi;rw[hR.1 i (by omega),b9,V] at this;exact this
 refine Mw4 (K0:=320) (bk.ext U) (by omega) (by omega) (λ i Mx hi hg a b d o=>(Nc0 (S:=4) (by decide) (Nd7 (by decide) λ a b _ _=>N a b) hi hg a b d o).mono (Ng1 (by omega))) (by decide) (by decide) λ cg bm aF ⟨ch,_⟩=>⟨cg,_,rfl,λ _ W _=>⟨rfl,trivial⟩,λ aG=>?_⟩;have aG:(gjG n (Mw0 n m) n).isSome=true:=by simpa using aG
 obtain⟨Y,Z⟩:=Option.isSome_iff_exists.1 aG;have hN:=ch Y Z;have bn:=ce.trans aF;refine⟨kmI bm m c n,cnU n,⟨0,[],rfl,Nat.zero_le _,Ext.refl _,rfl,rfl,trivial,λ a h=>by simp at h⟩,?_⟩;rintro aa l54 i55 cj ⟨j,w,rfl,hj,O,aH,rfl,aI,bo⟩;have ck:=aI.len;rw[Ng5] at ck;refine⟨λ cl=>?_,λ cm cn aJ ah co _=>?_⟩
 ·have aK:j<n:=by omega
  have aL:j<C.length:=by omega
  have aM:=bn.trans O;refine⟨(F.ext aM).Hb8 (by omega) (by omega),_,(F.ext aM).text aL,?_⟩;have cp:(Ab7 C[j]).getD 0=c j:=by rw[<-hc,Nl1 aL]
  refine As8 (z2 _ (List.getElem_mem aL)) λ aN aO aP dz aQ aR=>⟨aN,aO,aP,_,rfl,λ _ W _=>⟨rfl,trivial⟩,λ _=>?_⟩;rw[cp] at aR;refine Gr3 aR (X j) (by decide) λ cq cr cs dA ai ct=>⟨cq,cr,cs,rfl,?_⟩;have aj:Sz 4 (-(c j)):=Nk5 (X j);refine Gf5 ct aj (by decide) λ cu cv ak cw=>⟨cu,rfl,?_⟩;refine⟨kmJ cv (-(c j)) (m j) n,cnC n,⟨0,rfl,Nat.zero_le _,Ext.refl _,cw⟩,?_⟩;rintro ab i76 bp ⟨k,rfl,hk,ac,hp⟩;have hp:Ab0 257 169 bp ab (Ng7 (-(c j)) (m j) k):=hp;have aS: ∀i,Sz 4 (m j i):=λ i=>N j i;have cx:=Ni5 aj aS k;have dB:=aM.trans (aQ.trans (ai.trans (ak.trans ac)));refine⟨λ dC=>?_,λ dD=>?_⟩
  ·have aT:k<n:=by omega
   have bq:=bk.ext (U.trans (aF.trans (O.trans (aQ.trans (ai.trans (ak.trans ac))))));obtain⟨cy,cz,br⟩:=bq.at (i:=j) aK;obtain⟨cA,cB,cC,cD,cE⟩:=br.at (i:=k) aT;refine⟨bq.inB (by omega) (by omega),cy,cz,br.inB (by omega) (by omega),cA,cB,cC,cD,?_⟩;refine Cr4 (i:=(k:Int)) λ cF dE am cG=>⟨cF,rfl,am,?_⟩;have dF:=Gi4 (k:Int);refine Cb0 cG (cE.ext am) (Gs7 (k:Int)) (aS k) (by decide) (by decide) (by omega) λ cH dG aU cI=>⟨cH,rfl,aU,?_⟩;have dH:=Nh4 (-(c j)) (m j) k (by omega);have cJ:=El2 (pmap (Dc6 (k:Int)) (m j k));rw[Ew2] at cJ;have cK:Bd 100 (Ag2 (pmap (Dc6 (k:Int)) (m j k))):=(Bd.pmap (Gs7 (k:Int)) (aS k)).norm.mono (by omega);refine Cw8 (k:=100) (hp.ext (am.trans aU)) cI (cx.mono (by omega)) cK (by decide) (by omega) (by omega) λ cL dI bt cM=>⟨cL,rfl,bt,by unfold I64;omega,⟨k+1,by push_cast;rfl,by omega,ac.trans (am.trans (aU.trans bt)),cM⟩,?_⟩;show n-Int.toNat ((k:Int)+1)<n-Int.toNat (k:Int);omega
  ·have aT:k=n:=by omega
   subst aT;have aV:=aQ.trans (ai.trans (ak.trans ac));have L1:(aa.length+List.length [[ab.v]])*24<=140737488355328:=by simp only[List.length_cons,List.length_nil];omega
   have fin: ∀(x:Sl) (W:PW),Ext bp W->Go.SX.Own W 50 3 x [[aN.v,.bool aO,aP.v]]->((w.map λ y=>[y.v]).length+List.length [[x.v]])*24<=140737488355328/\I64 ((j:Int)+1)/\kmI bm m c k [.row (aa ++ [[ab.v]]),.row ((w.map λ y=>[y.v]) ++ [[x.v]]),.val (.int .i64 ((j:Int)+1))] W/\cnU k [.row (aa ++ [[ab.v]]),.row ((w.map λ y=>[y.v]) ++ [[x.v]]),.val (.int .i64 ((j:Int)+1))] W<cnU k [.row aa,.row (w.map λ y=>[y.v]),.val (.int .i64 (j:Int))] cj:=by
    intro x W D hO;refine⟨by simp only[List.length_map,List.length_cons,List.length_nil];omega,by unfold I64;omega,⟨j+1,w ++ [x],by push_cast;rfl,by omega,O.trans (aV.trans D),by simp[aH],by simp,?_,λ a d=>?_⟩,?_⟩
    ·rw[Nj8]
     exact(aI.mono λ _ _ h=>h.ext (aV.trans D)).append ⟨⟨ab,rfl,hp.ext D⟩,trivial⟩
    ·by_cases e:a<w.length
     ·rw[List.getElem_append_left e]
      exact(bo a e).ext (aV.trans D)
     ·have:a=w.length:=by simp at d;omega
      subst this;rw[List.getElem_concat_length rfl];have e2:w.length=j:=aH;rw[e2];refine⟨_,hO.row,rfl,λ i hi=>?_⟩;have:i=0:=by omega
      subst this;exact⟨aN,aO,aP,rfl,aR.ext (ai.trans (ak.trans (ac.trans D)))⟩
    ·show k-Int.toNat ((j:Int)+1)<k-Int.toNat (j:Int)
     omega
   refine⟨⟨⟨L1,?_⟩,⟨L1,?_⟩,?_⟩,⟨⟨L1,?_⟩,?_⟩,?_⟩
   all_goals intro x W D hO _
   all_goals first | exact fin x W D hO | exact⟨L1,fin x W D hO⟩
 have aK:j=n:=by omega
 subst aK;have dJ:=bn.trans (O.trans ah);have cO:Gf9 257 50 84 aJ cn j (λ _=>1) (λ a _=>c a):=⟨w,co.row,aH,λ a d=>(bo a d).ext ah⟩;have bu:=hN.ext (O.trans ah);have ao: ∀a b,a<j->b<j->Sz 640 (My2 j Y a b):=λ a b d o=>by
  have bv:=λ a b d o=>((Nc0 (S:=4) (by decide) (Nd7 (by decide) λ a b _ _=>N a b) (Nat.le_refl _) Z a b d o).mono (Ng1 (i:=j) (by omega)));exact((bv a (j+b) d (by omega)).div (bv a a d (by omega)) (by decide)).mono (by decide)
 have cP:Gf6 aJ.w.heap.size aJ:=Nat.le_refl _;refine Ni7 (k:=640) (l:=4) cP bu cO (by omega) (by omega) (λ a b d o=>ao a b d o) (λ a b _ _=>X a) (by decide) (by decide) λ cQ cR dK bw ⟨q1,q2⟩=>⟨cQ,cR,rfl,λ cT cU aW cW _=>?_⟩;have ad:Gf8 j (λ _=>j):=⟨λ _ _=>rfl,by omega,by omega,by show 1<=j;omega,by show j<=12;omega⟩;have bx:Gf8 j (λ _=>1):=⟨λ _ _=>rfl,by omega,by omega,by decide,by decide⟩;have cX:=q1.2 ⟨ad,bx,rfl⟩;have hS:=(q2 ⟨ad,bx,rfl⟩).mat;obtain⟨f,P⟩: ∃f,Nh9 m c j j=f:=⟨_,rfl⟩;have bz:f.length=j:=by rw[<-P,Ng5]
 have bA:=ah.trans (bw.trans aW);have bB:Ps cU cT f:=by
  rw[<-P];exact⟨aa,⟨_,cW.row⟩,aI.mono λ _ _ h=>h.ext bA⟩
 have ae: ∀q∈f,Bd 68 q/\Gk4 1 q/\q.length<=4/\Av6 q:=λ q p=>by
  rw[<-P] at p;obtain⟨i,hi,rfl⟩:=Nj0 p;have aj:Sz 4 (-(c i)):=Nk5 (X i);exact⟨(Ni5 aj (λ a=>N i a) j).mono (by omega),Ni8 _ _ (by omega),by have:=Nh4 (-(c i)) (m i) j (by omega);omega,Ng9 _ _ _⟩
 have bC: ∀q∈f,POk q:=λ q p t E=>((ae q p).2.1 t E).1;have cZ: ∀x∈bs,x.1<=x.2:=λ x H=>Rat.le_of_lt (R.2 x H);have hF:Mk5 f bs:=⟨λ q p=>by
  rw[<-P] at p;obtain⟨i,hi,rfl⟩:=Nj0 p;rw[<-V];exact Nj5 R _ _,by omega,R⟩
 have ap: ∀a b,a<j->b<j->m a b=Mw8 f bs a b:=λ a b d o=>by
  unfold Mw8;rw[<-P,Ni4 d,Nk2 cZ _ _ (by omega) o]
 have bD:=b1.ext (U.trans (aF.trans (O.trans bA)));have bE: ∀x∈bs,IvS 20 x:=λ x H=>IvS.mono (hk x H) (by omega);have c0: ∀a b,a<f.length->b<f.length->Sz 4 (Mw8 f bs a b):=λ a b d o=>by
  rw[<-ap a b (by omega) (by omega)];exact N a b
 refine Mx3 (S0:=4) (k:=68) (m:=20) bB bD (λ q p=>⟨(ae q p).1,by have:=(ae q p).2.2.1;omega,bC q p⟩) (by decide) bE (by decide) (by omega) (by omega) c0 (by decide) (by decide) λ c1 c2 aq ⟨bF,_⟩=>⟨c1,_,rfl,λ e=>?_,λ _=>⟨λ e=>?_,λ _=>?_⟩⟩
 ·rw[cX] at e;cases e
 ·exfalso
  rcases Nh3 (r:=j) (A:=Mw0 j m) (B:=Mw0 j (Mw8 f bs)) (λ a b d o=>by
   unfold Mw0;split
   ·exact ap a b d (by omega)
   ·rfl) j (Nat.le_refl _) with⟨h1,_⟩ | ⟨Ma,Mb,_,F,_⟩
  ·rw[Z] at h1;cases h1
  ·rw[bz,F,decide_eq_true hF] at e
   cases e
 rw[bz] at bF;obtain⟨M2,bH,bI⟩: ∃M2,gjG j (Mw0 j (Mw8 f bs)) j=some M2/\∀a b,a<j->b<j+j->Y a b=M2 a b:=by
  rcases Nh3 (r:=j) (A:=Mw0 j m) (B:=Mw0 j (Mw8 f bs)) (λ a b d o=>by
   unfold Mw0;split
   ·exact ap a b d (by omega)
   ·rfl) j (Nat.le_refl _) with⟨h1,_⟩ | ⟨Ma,Mb,h1,F,h3⟩
  ·rw[Z] at h1;cases h1
  ·rw[Z] at h1
   cases h1;exact⟨Mb,F,h3⟩
 have hG:=bF hF M2 bH;have aX: ∀a b,a<j->b<j->My2 j M2 a b=My2 j Y a b:=λ a b d o=>by
  unfold My2;rw[bI a (j+b) d (by omega),bI a a d (by omega)]
 have bJ:=hS.ext (aW.trans aq);have dL:=bJ.n;have bK:=bD.ext aq;have dM:=bK.n;refine⟨λ aY=>absurd (by omega) aY,λ _=>?_⟩;obtain⟨S,aZ⟩: ∃S:Nat->Rat,S=λ k=>Mu5 (λ t=>My2 j Y k t*c t) j:=⟨_,rfl⟩;have bL: ∀k,k<j->Sz 2000 (S k):=λ k hk=>by
  rw[aZ];exact(Ni0 (K:=644) λ t E=>(ao k t hk E).mul (X t)).mono (by
   have:=Nat.mul_le_mul_right 645 (show j<=3 by omega);omega)
 refine⟨kmS c2 bs S,cnZ bs.length,⟨0,rfl,Nat.zero_le _,Ext.refl _,⟨λ _ k h=>by omega,λ _=>rfl⟩⟩,?_⟩;rintro ar i121 a0 ⟨q,rfl,p,G,a4⟩;have a5:=bJ.ext G;have au:=bK.ext G;refine⟨λ cl=>?_,λ cm=>?_⟩
 ·have a6:q<bs.length:=by omega
  have a7:q<j:=by omega
  obtain⟨av,a8,aw⟩:=a5.at (i:=q) a7;have dN:=aw.n;have bM:=a5.inB (i:=(q:Int)) (by omega) (by omega);refine⟨bM,av,a8,λ aY=>absurd (by omega) aY,λ _=>?_⟩;obtain⟨a9,ba,bb,bN,ax⟩:=aw.at (i:=0) (by omega);have ax:Ab3 257 a0 a9 ba bb (S q):=by
   rw[aZ];exact ax
  have c5:SX.inB av 0:=aw.inB (by omega) (by omega);obtain⟨x,⟨sl,bl,tl,sh,bh,th,rfl,v1,v2⟩,bO⟩:=au.at a6;have da:=Fi1 a6;have H:=hk _ (List.getElem_mem a6);rw[<-da] at v1 v2 H;have bP:SX.inB s8 (q:Int):=au.inB (by omega) (by omega);have bc:cnZ bs.length [.val (.bool ar),.val (.int .i64 ((q:Int)+1))] a0<cnZ bs.length [.val (.bool ar),.val (.int .i64 (q:Int))] a0:=by
   show bs.length-Int.toNat ((q:Int)+1)<bs.length-Int.toNat (q:Int);omega
  refine⟨λ eb=>⟨bP,sl,bl,tl,bO 0 rfl,bM,av,a8,c5,a9,ba,bb,bN,?_⟩,λ eb=>⟨Ext.refl _,Ext.refl _,by unfold I64;omega,⟨q+1,by push_cast;rfl,by omega,G,⟨λ e=>(by cases e),λ g=>?_⟩⟩,bc⟩⟩
  ·refine Aj2 v1 ax H.1 (bL q a7) (by decide) (by decide) λ dO z _=>⟨_,rfl,z,λ bd=>?_,λ bd=>⟨Ext.refl _,by unfold I64;omega,⟨q+1,by push_cast;rfl,by omega,G.trans z,⟨λ e=>(by cases e),λ g=>?_⟩⟩,bc⟩⟩
   ·have db:=a5.ext z
    have dP:=au.ext z;refine⟨db.inB (by omega) (by omega),av,a8.ext z,(aw.ext z).inB (by omega) (by omega),a9,ba,bb,bN.ext z,bP,sh,bh,th,(bO 3 rfl).ext z,?_⟩;refine Aj2 (ax.ext z) (v2.ext z) (bL q a7) H.2 (by decide) (by decide) λ dQ bQ _=>⟨_,rfl,bQ,by unfold I64;omega,⟨q+1,by push_cast;rfl,by omega,G.trans (z.trans bQ),?_⟩,bc⟩;rw[decide_eq_true_iff,At6];constructor
    ·intro g k I
     by_cases e:k=q
     ·subst e;exact⟨At6.1 bd,g⟩
     ·exact a4.1 eb k (by omega)
    ·intro g
     exact(g q (by omega)).2
   ·exact absurd (At6.2 (g q (by omega)).1) bd
  ·exfalso
   have:=a4.2 λ k I=>g k (by omega);rw[this] at eb;cases eb
 have dc:q=bs.length:=by omega
 subst dc;have bR:=hG.ext G;have dd:=bu.ext (bw.trans (aW.trans (aq.trans G)));have bS: ∀a b,a<j->b<j->Sz 640 (My2 j M2 a b):=λ a b d o=>by rw[aX a b d o];exact ao a b d o
 refine Nh6 (k:=640) bR dd (by omega) (by omega) (λ a b d o=>bS a b d o) (λ a b d o=>ao a b d o) (by decide) λ de dR be df=>⟨de,rfl,λ _=>?_,λ e=>?_⟩
 ·have dg:KrN 68 20 640 f j (λ _=>j) (My2 j M2) bs:=⟨λ q p=>⟨(ae q p).1,by have:=(ae q p).2.2.1;omega,bC q p⟩,by omega,by decide,bE,by decide,by omega,λ a b d o=>bS a b d o,by decide,by omega⟩
  refine Mj3 (bB.ext (aq.trans (G.trans be))) (bR.ext be) (au.ext be) dg λ dS dT _=>⟨_,rfl,λ W _=>⟨?_,trivial⟩⟩;have dh:Mn5 f j (λ _=>j) bs:=⟨hF,ad,by omega,by show j=bs.length;omega⟩;have hinv:Nk6 bs.length m (My2 j M2):=by
   have a1:=Ne1 bH;have a2:Nk6 j (Mw8 f bs) (My2 j M2):=a1;have a3:=Nj3 (m':=m) (λ a b d o=>(ap a b d o).symm) a2;rw[V];exact a3
  have bT:=Nk7 (c:=c) b4 hinv;have di:Nh9 m c bs.length bs.length=f:=by rw[V];exact P
  rw[di] at bT;have bU: ∀i,i<bs.length->Mu5 (λ t=>My2 j M2 i t*c t) bs.length=S i:=λ i hi=>by
   rw[aZ,V];exact Mu6 λ t E=>by rw[aX i t (by omega) E]
  have key:(Mn5 f j (λ _=>j) bs/\Mq8 f (My2 j M2) bs)↔ar=true:=by
   rw[a4,bT];exact⟨λ g k I=>by have:=g.2 k I;rw[bU k I] at this;exact this,λ g=>⟨dh,λ k I=>by rw[bU k I];exact g k I⟩⟩
  congr 1;rw[decide_eq_true_iff]
  cases ar with
  | true=>exact decide_eq_true (key.2 rfl)
  | false=>exact decide_eq_false λ e=>by have:=key.1 e;cases this
 ·have:=df.2 ⟨ad,ad,rfl,λ i hi=>⟨rfl,λ t E=>aX i t hi E⟩⟩
  rw[this] at e;cases e
end Go.Proofs.YtkgeopnakkcdoaaGreatDoor
namespace Go.Proofs.YtkgeopnakkcdoaaGreatDoor
open Go Go.SX Go.ChangeShapes Go.WideShapes Go.ChangeAt Go.RowKit Go.Deep
instance:Inhabited (Sl×List ByteArray):=⟨(⟨none,0,0⟩,[])⟩
theorem Il1 {H:Type}{W:World}{fuel:Nat}{p:List MemPlace}{enc:TypeId×Value->H}{v:Value}{d:DataW H}(h:DataW.trod enc Tryz.prog W 0 (λ _=>true) true fuel 76 [v]=some (d,p)):
  ∃y:Sl×List ByteArray,v=y.1.v/\Bf9 ⟨W,λ _=>False⟩ 1 y.1 (Gw6 y.2)/\y.2.length<=Rows.uptoBulk d/\∀t∈y.2,t.size<=Rows.uptoBulk d:=by
 rcases open_strs Tryz.underlying76 Tryz.underlying9 Ct5 h with⟨c,f⟩ | ⟨a,len,cap,m,b,c,_,n,hm,k,f,o⟩
 ·have g:v = .slice none 0 0:=by simpa using c
  subst g;exact⟨(⟨none,0,0⟩,[]),rfl,⟨0,rfl,Nat.le_refl _,Nat.zero_le _,λ x h=>by simp[Gw6] at h,.inl rfl⟩,Nat.zero_le _,λ t h=>by simp at h⟩
 ·have g:v = .slice (some a) len cap:=by simpa using c
  subst g;simp only[if_true] at k;subst k;simp only[Prod.mk.injEq] at f;obtain⟨rfl,_⟩:=f;have q:=Ig6 (V:=λ j=>.string (b j)) (λ j l=>(o j (by omega)).1) n hm (λ _ _=>rfl);refine⟨(⟨some a,len,m⟩,(List.range len).map b),rfl,?_,?_,λ t r=>?_⟩
  ·have e:Gw6 ((List.range len).map b)=(List.range len).map λ j=>[Value.string (b j)]:=by simp[Gw6]
   rw[e];exact q
  ·have:=Dj1 ((List.range len).map λ i=>(DataW.lit (.string (b i).data.toList):DataW H))
   simp only[List.length_map,List.length_range] at this;simp only[List.length_map,List.length_range,Rows.uptoBulk];omega
  ·obtain⟨j,l,rfl⟩:=List.mem_map.1 r
   have:=Eo6 (List.mem_map.2 ⟨j,l,rfl⟩:(DataW.lit (.string (b j).data.toList):DataW H)∈(List.range len).map λ i=>(DataW.lit (.string (b i).data.toList):DataW H));have e:(b j).data.toList.length=(b j).size:=by rw[Array.length_toList];rfl
   simp only[Rows.uptoBulk] at this⊢;omega
end Go.Proofs.YtkgeopnakkcdoaaGreatDoor
namespace Go.Proofs.YtkgeopnakkcdoaaGreatDoor
open Go Go.SX Go.ChangeShapes Go.WideShapes Go.ChangeAt Go.RowKit Go.Deep
theorem Mp5:Tryz.prog.cellsOf 76=1:=by kernel_rfl
theorem Mp9 {H:Type}{W:World}{fuel:Nat}{p:List MemPlace}{enc:TypeId×Value->H}{v:Value}{d:DataW H}(h:DataW.trod enc Tryz.prog W 0 (λ _=>true) true fuel 23 [v]=some (d,p)):
  ∃(s:Sl) (T:List (List ByteArray)),v=s.v/\Go3 ⟨W,λ _=>False⟩ s T/\T.length<=Rows.uptoBulk d/\∀l∈T,l.length<=Rows.uptoBulk d/\∀t∈l,t.size<=Rows.uptoBulk d:=by
 rcases open_slice1 Tryz.underlying23 Mp5 h with⟨f,g⟩ | ⟨a,len,cap,m,n,V,D,C,f,_,k,hm,q,g,r⟩
 ·have o:v = .slice none 0 0:=by simpa using f
  subst o;exact⟨⟨none,0,0⟩,[],rfl,⟨[],⟨0,rfl,Nat.le_refl _,Nat.zero_le _,λ x h=>by simp at h,.inl rfl⟩,rfl,λ i h=>by simp at h⟩,Nat.zero_le _,λ l h=>by simp at h⟩
 ·have o:v = .slice (some a) len cap:=by simpa using f
  subst o;simp only[if_true] at q;subst q;simp only[Prod.mk.injEq] at g;obtain⟨rfl,_⟩:=g;obtain⟨y,c⟩:=choose_lt (λ i hi=>Il1 (r i hi).2);have u:=Ig6 (V:=V) (λ j b=>(r j (by omega)).1) k hm (λ j b=>by rw[(c j (by omega)).1];rfl);have w: ∀i,i<len->Rows.uptoBulk (D i)<=Rows.uptoBulkAll ((List.range len).map D):=λ i hi=>Eo6 (List.mem_map.2 ⟨i,List.mem_range.2 hi,rfl⟩);have hlen:=Dj1 ((List.range len).map D);simp only[List.length_map,List.length_range] at hlen;refine⟨⟨some a,len,m⟩,(List.range len).map λ i=>(y i).2,rfl,⟨(List.range len).map λ i=>(y i).1,?_,by simp,λ i hi E=>?_⟩,?_,λ l k=>?_⟩
  ·have e:(((List.range len).map λ i=>(y i).1).map λ x=>[x.v])=(List.range len).map λ j=>[V j]:=by
    rw[List.map_map];apply List.map_congr_left;intro j b;have:=(c j (by have:=List.mem_range.1 b;omega)).1;simp[this]
   rw[e];exact u
  ·have F:i<len:=by simpa using hi
   simp only[List.getElem_map,List.getElem_range];exact(c i (by omega)).2.1
  ·simp only[List.length_map,List.length_range,Rows.uptoBulk]
   omega
  ·obtain⟨j,b,rfl⟩:=List.mem_map.1 k
   have z:=List.mem_range.1 b;have h1:=w j z;obtain⟨_,_,G,A⟩:=c j (by omega);simp only[Rows.uptoBulk];refine⟨by omega,λ t B=>?_⟩;have:=A t B;omega
end Go.Proofs.YtkgeopnakkcdoaaGreatDoor
namespace Go.Proofs.YtkgeopnakkcdoaaGreatDoor
open Go Go.SX Go.ChangeShapes Go.WideShapes Go.ChangeAt Go.RowKit Go.Deep
theorem Fs9:Tryz.prog.globalNamed "math/bits.deBruijn32tab" = some 1:=by kernel_rfl
theorem Ew9:(Tryz.prog.globals[1]?).map (·.type)=some 351:=by kernel_rfl
theorem Ev1:Tryz.prog.cellsOf 351=32:=by kernel_rfl
theorem Fh1:Tryz.prog.cellsOf 5=1:=by kernel_rfl
theorem Fr5 {W:World}(h:laidMetH Tryz.prog Rows.krawLinearUptoRow.laid W):Ac6 ⟨W,λ _=>False⟩:=by
 have c:Go.Lib.TabIs Tryz.prog W "math/bits.deBruijn32tab" .u8 (Go.Lib.deBruijn32tab.map λ n:Nat=>(n:Int)):=Go.Lib.tabIs_of_head (rest:=[]) Fs9 Ew9 Tryz.underlying351 Tryz.underlying5 Fh1 Ev1 h;have a: ∀j,j<32->W.cell? ⟨1,j,none⟩=some (.int .u8 ((Go.Lib.deBruijn32tab.getD j 0:Nat):Int)):=λ j b=>by
  rw[c.cell Fs9 j (by simpa[Go.Lib.deBruijn32tab] using b)];have d: ∀j,j<32->(Go.Lib.deBruijn32tab.map λ n:Nat=>(n:Int)).getD j 0=((Go.Lib.deBruijn32tab.getD j 0:Nat):Int):=by decide
  rw[d j b]
 refine⟨a,?_,λ h=>h⟩;have:=a 0 (by omega);unfold World.cell? at this;split at this
 ·rename_i e
  exact(Array.getElem?_eq_some_iff.1 e).1
 ·cases this
theorem Fa3 (H:Type)(enc:TypeId×Value->H)(W:World)(base:Nat)(args:Array Value)(g gs:List (DataW H))(before:List MemPlace)(d: ∀(j:Nat) t v,Tryz.f7.params[j]?=some t->args[j]?=some v->Value.okWide Tryz.prog W .any base t v)(w:DataW.Whole enc Tryz.prog Tryz.f7.params.toList Rows.krawLinearSpec.vars false W args.toList g gs before)(hk:Rows.uptoSmall H (g ++ gs)=true)(E:laidMetH Tryz.prog Rows.krawLinearUptoRow.laid W):
  Calls Tryz.prog 7 args W λ e W'=>∃v,e = .returned v/\Rows.krawLinearSpec.post enc Tryz.prog Tryz.f7 false true false false W args v W':=by
 have i:=w;obtain⟨p,q,y,F,rfl,al,am⟩:=w;have z:DataW.TrodAll enc Tryz.prog W 0 (λ _=>true) true Tryz.f7.params.toList args.toList g p:=y;rw[Tryz.params7] at z d;obtain⟨v0,an,d0,ao,k,q0,aq,rfl,rfl,A,G⟩:=trodAll_cons z;obtain⟨v1,ar,d1,ds1,m,q1,rfl,rfl,rfl,h1,r1⟩:=trodAll_cons G;obtain⟨v2,au,d2,av,n,q2,rfl,rfl,rfl,B,I⟩:=trodAll_cons r1;obtain⟨rfl,rfl,rfl⟩:=trodAll_nil I;obtain rfl:args = #[v0,v1,v2]:=by cases args;simp_all
 obtain⟨rfl,rfl⟩:=trodVars_none F;obtain⟨a0,n0,J,rfl⟩:=okWide_slice Tryz.underlying23 (d 0 23 v0 rfl rfl);obtain⟨K,L,c1,rfl⟩:=okWide_slice Tryz.underlying76 (d 1 76 v1 rfl rfl);obtain⟨a2,N,c2,rfl⟩:=okWide_slice Tryz.underlying24 (d 2 24 v2 rfl rfl);clear y;simp only[List.append_nil] at i hk;have o: ∀x∈k ++ (m ++ n),x.block<W.heap.size:=λ x a=>by simpa using i.lt x (by simpa using a)
 have O:Rows.uptoBulkAll [d0,d1,d2]<=1048576:=of_decide_eq_true hk;simp only[Rows.uptoBulkAll] at O;have P:=A;obtain⟨Q,R⟩:=A;have S:DataW.trod enc Tryz.prog W 0 (λ _=>true) true Q 23 [.slice a0 n0 J]=some (d0,k):=by simpa[Value.cells] using R
 obtain⟨s0,L0,r,T,ay,C⟩:=Mp9 S;have U:=h1;obtain⟨V,X⟩:=h1;have Y:DataW.trod enc Tryz.prog W 0 (λ _=>true) true V 76 [.slice K L c1]=some (d1,m):=by simpa[Value.cells] using X
 obtain⟨⟨s1,L1⟩,s,Z,aA,aa⟩:=Il1 Y;have ab:=B;obtain⟨ac,ad⟩:=B;have ae:DataW.trod enc Tryz.prog W 0 (λ _=>true) true ac 24 [.slice a2 N c2]=some (d2,n):=by simpa[Value.cells] using ad
 obtain⟨s2,L2,u,af,aC,ag⟩:=Gc9 ae;have hc:=Nh2 (M:=λ _=>False) (Fr5 E) T Z af (by omega) (λ l D=>⟨by have:=(C l D).1;omega,λ t c=>by have:=(C l D).2 t c;omega⟩) (by omega) (λ t c=>by have:=aa t c;omega) (by omega) (λ t c=>by have:=ag t c;omega);have ai:=hc.2 (λ b h=>h.elim);rw[r,s,u];refine ai.mono λ e W' ⟨v,he,aj,hv,_⟩=>⟨v,he,?_⟩;subst hv;have f:=aj.below;refine⟨[d0,d1,d2],[],_,[],k ++ (m ++ n),[],(by rw[<-r,<-s,<-u];simpa using i),trodAll_mk1 (shut_bool Tryz.underlying4 _),(by rw[<-r,<-s,<-u];exact trodAll_mk3 (Below.trod laidOut (by kernel_rfl) (of_decide_eq_true (by kernel_rfl)) P f λ x a=>o x (by simp[a])) (Below.trod laidOut (by kernel_rfl) (of_decide_eq_true (by kernel_rfl)) U f λ x a=>o x (by simp[a])) (Below.trod laidOut (by kernel_rfl) (of_decide_eq_true (by kernel_rfl)) ab f λ x a=>o x (by simp[a]))),rfl,f.frame _,λ h=>by cases h⟩
noncomputable def Bu8 (os:Os):World:=
 {World.holding Tryz.prog os ⟨#[],#[],[]⟩ with heap:=(World.holding Tryz.prog os ⟨#[],#[],[]⟩).heap.modify 1 fun
   | .cells _ t frozen=>.cells #[.int .u8 0,.int .u8 1,.int .u8 28,.int .u8 2,.int .u8 29,.int .u8 14,.int .u8 24,.int .u8 3,.int .u8 30,.int .u8 22,.int .u8 20,.int .u8 15,.int .u8 25,.int .u8 17,.int .u8 4,.int .u8 8,.int .u8 31,.int .u8 27,.int .u8 13,.int .u8 23,.int .u8 21,.int .u8 19,.int .u8 16,.int .u8 7,.int .u8 26,.int .u8 12,.int .u8 18,.int .u8 6,.int .u8 11,.int .u8 5,.int .u8 10,.int .u8 9] t frozen
   | o=>o }
theorem Fa2 (os:Os):laidMet Tryz.prog Rows.krawLinearUptoRow.laid ((Bu8 os).forCall (λ _ _=>0) ⟨#[],#[.slice none 0 0,.slice none 0 0,.slice none 0 0],[]⟩).memory:=
 laidMet_of_run' 8 (by kernel_rfl) (by kernel_rfl)
theorem reads {H:Type}(os:Os)(enc:TypeId×Value->H): ∃places,DataW.whole enc Tryz.prog ((Bu8 os).forCall (λ _ _=>0) ⟨#[],#[.slice none 0 0,.slice none 0 0,.slice none 0 0],[]⟩).memory Tryz.f7.params.toList Rows.krawLinearSpec.vars false (#[.slice none 0 0,.slice none 0 0,.slice none 0 0]:Array Value).toList 8=some ([.nil,.nil,.nil],[],places):=
 ⟨[],by kernel_rfl⟩
theorem lifted (os:Os)(started:os.Started)(H:Type)(enc:TypeId×Value->H)(F:Stop.Interp):
  ReturnsInHanded {} Tryz.checked os 7 .any ((Rows.OpenSpec.upto Rows.krawLinearSpec).preRow enc Tryz.prog Tryz.f7 Rows.krawLinearUptoRow.domain false Rows.krawLinearUptoRow.laid) (((Rows.OpenSpec.upto Rows.krawLinearSpec).at F).post enc Tryz.prog Tryz.f7 false true false false):=by
 obtain⟨places,a⟩:=reads os enc;refine returnsInHanded_of_row (C:=Tryz.checked) (s:=Rows.OpenSpec.upto Rows.krawLinearSpec) Cp9 started (by kernel_rfl) Tryz.func7
  (witness_row_at (enc:=enc) (C:=Tryz.checked) false (Bu8 os) #[.slice none 0 0,.slice none 0 0,.slice none 0 0] rfl (by kernel_rfl) (by kernel_rfl) (by kernel_rfl)
   (OpenSpec.preRow_of_cond 8 a (by kernel_rfl) (λ k hk=>by cases hk;kernel_rfl) (by kernel_rfl) (Fa2 os))) ?_
 intro W base args b gs before c d _ e _ f _ _;exact Fa3 H enc W base args b gs before c d (e _ rfl) f
theorem Fj9:Fc7 Tryz.checked.prog 7 Tryz.f7 (Rows.OpenSpec.upto Rows.krawLinearSpec).bare Rows.krawLinearUptoRow=true:=by kernel_rfl
theorem Fl9:Fd9 Tryz.checked.prog 7 Tryz.f7 (Rows.OpenSpec.upto Rows.krawLinearSpec).bare Rows.krawLinearUptoRow=true:=by kernel_rfl
theorem Fl2:Fe1 Tryz.checked.prog 7 Tryz.f7 (Rows.OpenSpec.upto Rows.krawLinearSpec).bare Rows.krawLinearUptoRow=true:=by kernel_rfl
theorem Fn7:Fd2 Tryz.checked.prog 7 Tryz.f7 (Rows.OpenSpec.upto Rows.krawLinearSpec).bare Rows.krawLinearUptoRow=true:=by kernel_rfl
theorem Fj6:Fd4 Tryz.checked.prog 7 Tryz.f7 (Rows.OpenSpec.upto Rows.krawLinearSpec).bare Rows.krawLinearUptoRow=true:=by kernel_rfl
theorem Et8:Rows.KrawLinearUptoSaid:=
 OpenClaim.holds_of_cond 7 Tryz.f7 rfl rfl rfl rfl rfl rfl rfl ⟨rfl,rfl,rfl,rfl,rfl⟩ rfl rfl rfl rfl rfl (by kernel_rfl) Tryz.func7 (Eo7 Fj9 Fl9 Fl2 Fn7 Fj6)
  (of_decide_eq_true (by kernel_rfl)) (by unfold Func.isWrapper;first | (rw[if_pos (by decide +kernel)];kernel_rfl) | (rw[if_neg (by decide +kernel)];exact⟨rfl,rfl⟩))
  (λ os started H enc _ F=>by rw[OpenClaim.pre_eq_preRow];exact lifted os started H enc F)
theorem plain (f:FuncId)(fn:Func)(b:Tryz.pinned.checked.prog.funcNamed "cincture/cincturelaw12.KrawLinear" = some f)(e:Tryz.pinned.checked.prog.funcs[f]?=some fn):
  false=Tryz.pinned.checked.prog.looks []/\∀(j:Nat) t,fn.params[j]?=some t->Tryz.pinned.checked.prog.wantsStandIn t=false:=by
 obtain rfl:f=7:=Option.some.inj ((show Tryz.prog.funcNamed "cincture/cincturelaw12.KrawLinear" = some 7 by kernel_rfl).symm.trans b) |>.symm;obtain rfl:fn=Tryz.f7:=(Option.some.inj (Tryz.func7.symm.trans e)).symm;refine⟨by kernel_rfl,λ j t a=>?_⟩;rw[Tryz.params7] at a;have hm:t∈[23,76,24]:=by simpa using Array.mem_of_getElem? a
 have g:([23,76,24].all λ u=>!Tryz.prog.wantsStandIn u)=true:=by kernel_rfl
 exact(show Tryz.prog.wantsStandIn t=false by simpa using List.all_eq_true.1 g t hm)
theorem krawLinear_card:Rows.KrawLinearUptoCardSaid:=
 Claim7.holds_tied_plain_at .later [] _ _ _ _ Et8 (λ _ h=>by cases h) (by kernel_rfl) (λ _ h=>by cases h) krawLinearUpto_row_tie rfl ⟨rfl,rfl⟩ (by kernel_rfl) rfl plain (by kernel_rfl)
#print axioms krawLinear_card
end Go.Proofs.YtkgeopnakkcdoaaGreatDoor
