/- cinctureref1.Ldl. -/
import Derived.Test.YthpmkcidkcmlgaaGreatW17
import Derived.Test.YthpmkcidkcmlgaaGreatW21
import Derived.Test.YthpmkcidkcmlgaaGreatW20
import Derived.Test.YthpmkcidkcmlgaaGreatR18
set_option linter.unusedVariables false
set_option linter.unusedSimpArgs false
set_option maxRecDepth 100000
set_option linter.unusedVariables false
set_option linter.unusedSimpArgs false
namespace Go.Proofs.YthpmkcidkcmlgaaGreat
open Go Go.SX
theorem leftK_sz {m L:Nat→Nat→Rat} {D:Nat→Rat} {r k a b:Nat} (hz: ∀i j,i<r→j<r→Sz 3 (m i j)) (h:SzO 3 L D r k) (ha:a<r) (hb:b<r):Sz (Sk 3 k) (leftK m L D a b k):=
 left_sz (hz a b ha hb) fun t ht=>((h.1 a t ha ht).mul (h.2 t ht)).mul (h.1 b t hb ht)
abbrev LM (N:Nat→Prop) (W:PW) (s:Sl) (r:Nat) (m:Nat→Nat→Rat):Prop:=ORMat 317 92 193 N W s r r m
def rlI (m:Nat→Nat→Rat) (N1 N2:Nat→Prop) (r:Nat) (sl su:Sl) (l:List PL) (W:PW):Prop:=
 match l with
 | [.row xs,.val (.int .i64 i)]=>∃(k:Nat) (F L:Nat→Nat→Rat) (D:Nat→Rat),i=(k:Int)∧k≤r∧LM N1 W sl r F∧LM N2 W su r L∧RQs 317 W xs k D∧Outer m L D r k∧SzO 3 L D r k∧∀a b,k≤a→k≤b→a<r→b<r→F a b=leftK m L D a b k
 | _=>False
def rlJ (m F:Nat→Nat→Rat) (D:Nat→Rat) (N1 N2:Nat→Prop) (r k:Nat) (sl su:Sl) (xs:List (List Value)) (l:List PL) (W:PW):Prop:=
 match l with
 | [.val (.int .i64 i)]=>∃(j:Nat) (L:Nat→Nat→Rat),i=(j:Int)∧k<j∧j≤r∧LM N1 W sl r F∧LM N2 W su r L∧RQs 317 W xs (k+1) D∧Inner m L D r k j∧SzI 3 L D r k j∧∀a b,k≤a→k≤b→a<r→b<r→F a b=leftK m L D a b k
 | _=>False
def rlK (m L:Nat→Nat→Rat) (D:Nat→Rat) (N1 N2:Nat→Prop) (r k a:Nat) (sl su:Sl) (xs:List (List Value)) (W:PW) (F:Nat→Nat→Rat) (e:Nat):Prop:=
 LM N1 W sl r F∧LM N2 W su r L∧RQs 317 W xs (k+1) D∧∀x y,k<x→k<y→x<r→y<r→F x y=leftK m L D x y (if x<a∨x=a∧y<e then k+1 else k)
def rlA (m L:Nat→Nat→Rat) (D:Nat→Rat) (N1 N2:Nat→Prop) (r k:Nat) (sl su:Sl) (xs:List (List Value)) (l:List PL) (W:PW):Prop:=
 match l with
 | [.val (.int .i64 i)]=>∃(a:Nat) (F:Nat→Nat→Rat),i=(a:Int)∧k<a∧a≤r∧rlK m L D N1 N2 r k a sl su xs W F 0
 | _=>False
def rlB (m L:Nat→Nat→Rat) (D:Nat→Rat) (N1 N2:Nat→Prop) (r k a:Nat) (sl su:Sl) (xs:List (List Value)) (l:List PL) (W:PW):Prop:=
 match l with
 | [.val (.int .i64 i)]=>∃(e:Nat) (F:Nat→Nat→Rat),i=(e:Int)∧k<e∧e≤r∧rlK m L D N1 N2 r k a sl su xs W F e
 | _=>False
def rn1 (r:Nat) (l:List PL) (W:PW):Nat:=
 match l with
 | [.val (.int .i64 i)]=>r-i.toNat
 | _=>0
theorem sgn_zeroQ {q:Rat} :sgnI q.num=0↔q=0:=by rw[sgnI_num,cmpQ_zero]
theorem refLdl_ok {W0:PW} {M:Nat→Prop} {s:Sl} {r:Nat} {c:Nat→Nat} {m:Nat→Nat→Rat} (h:IsRMat 317 92 193 W0 s r c m) (hr:r≤5) (hz: ∀i j,i<r→j<c i→Sz 3 (m i j)):
  PCallsM Go.Proofs.Tryz.prog 117 [s.v] W0 M fun v W'=>∃(u:Sl),∃(d:Sl),∃(b:Bool),v = .tuple #[Sl.v u,Sl.v d,.bool b]∧(b=false→u=⟨none,0,0⟩∧d=⟨none,0,0⟩∧NoParts r c m)∧(b=true→SymP r c m∧∃(L:Nat→Nat→Rat) (D:Nat→Rat),IsRMat 317 92 193 W' u r (fun _=>r) L∧IsRQs 317 92 W' d r D∧Parts m L D r r∧SzO 3 L D r r):=by
 apply callref1_Ldl
 have hsn:=h.n
 have bad:NoParts r c m→∀W':PW,∃(u d:Sl) (b:Bool),(Value.tuple #[.slice none 0 0,.slice none 0 0,.bool false]) = .tuple #[Sl.v u,Sl.v d,.bool b]∧(b=false→u=⟨none,0,0⟩∧d=⟨none,0,0⟩∧NoParts r c m)∧(b=true→SymP r c m∧∃(L:Nat→Nat→Rat) (D:Nat→Rat),IsRMat 317 92 193 W' u r (fun _=>r) L∧IsRQs 317 92 W' d r D∧Parts m L D r r∧SzO 3 L D r r):=
  fun hN W'=>⟨⟨none,0,0⟩,⟨none,0,0⟩,false,rfl,fun _=>⟨rfl,rfl,hN⟩,fun h=>(by cases h)⟩
 refine refSquare_call h (by omega) fun b W2 hE2 hb=>⟨b,rfl,fun hf W4 _=>bad (.inl fun hs=>?_) W4,fun ht=>?_⟩
 ·rw[hb.2 ⟨hs.1,hs.2.1⟩] at hf
  cases hf
 obtain⟨hR,hcr⟩:=hb.1 (by simpa using ht)
 have hr1:=hR.2.1
 have hc: ∀i,i<r→c i=r:=fun i hi=>by have:=hR.1 i hi;omega
 have hz': ∀i j,i<r→j<r→Sz 3 (m i j):=fun i j hi hj=>hz i j hi (by rw[hc i hi];exact hj)
 refine⟨fun l W=>match l with | [.val (.int .i64 i)]=>Ext W0 W∧∃k:Nat,i=(k:Int)∧k≤r∧∀a b,a<k→b<a→m a b=m b a | _=>False,rn1 r,⟨hE2,0,rfl,Nat.zero_le _,fun a b h=>by omega⟩,?_⟩
 rintro i7 W8 ⟨hE8,k,rfl,hk,hsy⟩
 refine⟨fun hlt=>⟨fun l W=>match l with | [.val (.int .i64 i)]=>Ext W0 W∧∃j:Nat,i=(j:Int)∧j≤k∧∀b,b<j→m k b=m b k | _=>False,rn1 k,⟨hE8,0,rfl,Nat.zero_le _,fun b h=>by omega⟩,?_⟩,fun hge=>?_⟩
 ·rintro i11 W12 ⟨hE12,j,rfl,hj,hrow⟩
  refine⟨fun hlt2=>?_,fun hge2=>⟨by unfold I64;omega,⟨hE12,k+1,by push_cast;rfl,by omega,fun a b ha hb'=>?_⟩,?_⟩⟩
  ·have h12:=h.ext hE12
   have ck:=hc k (by omega)
   have cj:=hc j (by omega)
   obtain⟨x,x1,x2⟩:=h12.at (i:=k) (by omega)
   obtain⟨y,y1,y2⟩:=h12.at (i:=j) (by omega)
   obtain⟨p1,pb,p2,p3,p4⟩:=x2.at (i:=j) (by omega)
   obtain⟨q1,qb,q2,q3,q4⟩:=y2.at (i:=k) (by omega)
   refine⟨h12.inB (by omega) (by omega),x,x1,x2.inB (by omega) (by omega),pb,p1,p2,p3,h12.inB (by omega) (by omega),y,y1,y2.inB (by omega) (by omega),qb,q1,q2,q3,?_⟩
   refine refQCmp_call p4 q4 (hz' k j (by omega) (by omega)) (hz' j k (by omega) (by omega)) (by omega) (by omega) fun W22 hE22 _=>⟨_,rfl,hE22,fun hne W24 _=>bad (.inl fun hs=>hne ((cmpQ_zero _ _).2 (hs.2.2 k j (by omega) (by omega)))) W24,fun heq=>⟨by unfold I64;omega,⟨hE12.trans hE22,j+1,by push_cast;rfl,by omega,fun b hb'=>?_⟩,?_⟩⟩
   ·by_cases e:b=j
    ·subst e
     exact(cmpQ_zero _ _).1 (Classical.not_not.1 heq)
    ·exact hrow b (by omega)
   ·show k-Int.toNat ((j:Int)+1)<k-Int.toNat (j:Int)
    omega
  ·by_cases e:a=k
   ·subst e
    exact hrow b (by omega)
   ·exact hsy a b (by omega) hb'
  ·show r-Int.toNat ((k:Int)+1)<r-Int.toNat (k:Int)
   omega
 have hkr:k=r:=by omega
 subst hkr
 have hSym:SymP k c m:=⟨hR,hcr,fun i j hi hj=>by
  rcases Nat.lt_trichotomy i j with h | h | h
  ·exact(hsy j i hj h).symm
  ·rw[h]
  ·exact hsy i j hi h⟩
 have hnn:NewFrom W0.w.heap.size W0:=Nat.le_refl _
 refine refRows_call (hnn.ext hE8) (h.ext hE8) (by omega) (w:=k) (by omega) hc fun sl W26 hE26 hL=>⟨sl,rfl,?_⟩
 rw[hsn]
 have hn2:NewFrom W26.w.heap.size W26:=Nat.le_refl _
 refine refOne_call hn2 hr1 (by omega) fun su W29 hE29 hU=>⟨su,rfl,?_⟩
 have hL':=(hL.avoid (A:=fun g=>W26.w.heap.size≤g) fun g hg hlt=>absurd hg (by omega)).ext hE29
 obtain⟨N1,hN1⟩: ∃N1:Nat→Prop,N1=fun g=>W0.w.heap.size≤g∧¬W26.w.heap.size≤g:=⟨_,rfl⟩
 obtain⟨N2,hN2⟩: ∃N2:Nat→Prop,N2=fun g=>W26.w.heap.size≤g:=⟨_,rfl⟩
 rw[←hN1] at hL'
 have hU':LM N2 W29 su k oneM:=by rw[hN2];exact hU
 have m1: ∀g,N1 g→may W0 M g:=fun g hg=>by rw[hN1] at hg;exact .inr hg.1
 have m2: ∀g,N2 g→may W0 M g:=fun g hg=>by
  rw[hN2] at hg
  have h1:=hE8.size
  have h2:=hE26.size
  exact .inr (by omega)
 have m12: ∀g,N1 g→¬N2 g:=fun g hg=>by rw[hN1] at hg;rw[hN2];exact hg.2
 clear hL hU hN1 hN2
 refine⟨rlI m N1 N2 k sl su,cn2 k,⟨0,m,oneM,fun _=>0,rfl,Nat.zero_le _,hL',hU',⟨rfl,fun i h=>by omega⟩,outer_zero m _ k,⟨fun a j _ h=>absurd h (Nat.not_lt_zero _),fun j h=>absurd h (Nat.not_lt_zero _)⟩,fun a b _ _ _ _=>(leftK_zero m oneM _ a b).symm⟩,?_⟩
 clear hL' hU'
 rintro xs i34 W35 ⟨t,F,L,D,rfl,ht',hF,hLo,hq,hout,hsz,hFv⟩
 have hub:=Ub_le t (by omega)
 refine⟨fun hlt=>?_,fun hge s110 W111 hE111 hO hf W112 hE112=>⟨su,s110,true,rfl,fun h=>(by cases h),fun _=>⟨hSym,L,D,?_⟩⟩⟩
 ·have htr:t<k:=by omega
  have hub1:=Ub_le (t+1) (by omega)
  obtain⟨x,x1,x2⟩:=hF.mat.at (i:=t) htr
  obtain⟨p1,pb,p2,p3,p4⟩:=x2.at (i:=t) htr
  have hxl:=hq.1
  have hFt:=hFv t t (Nat.le_refl _) (Nat.le_refl _) htr htr
  have hst:Sz (Sk 3 t) (F t t):=by rw[hFt];exact leftK_sz hz' hsz htr htr
  have hD: ∀j,j<t→D j=(fun i=>if i=t then F t t else D i) j:=fun j hj=>(if_neg (by omega)).symm
  have hin:=inner_start hout htr
  rw[show leftF m L D t t=F t t from hFt.symm] at hin
  have hq1:=hq.snoc p4
  have hsz1:=hsz.congrD hD
  have hFv1: ∀a b,t≤a→t≤b→a<k→b<k→F a b=leftK m L (fun i=>if i=t then F t t else D i) a b t:=fun a b h1 h2 h3 h4=>by
   rw[hFv a b h1 h2 h3 h4]
   exact leftK_congr fun j hj=>⟨rfl,rfl,hD j hj⟩
  have hDt:(fun i=>if i=t then F t t else D i) t=F t t:=if_pos rfl
  have hsd:Sz (Sk 3 t) ((fun i=>if i=t then F t t else D i) t):=by rw[hDt];exact hst
  refine⟨hF.mat.inB (by omega) (by omega),x,x1,x2.inB (by omega) (by omega),pb,p1,p2,p3,by simp only[List.length_cons,List.length_nil];omega,by unfold I64;omega,?_⟩
  generalize (fun i=>if i=t then F t t else D i)=E at *
  have hlen:(xs ++ [[Value.bool pb,p1.v,p2.v]]).length=t+1:=by simp[hxl]
  generalize hys:xs ++ [[Value.bool pb,p1.v,p2.v]]=ys at *
  refine⟨rlJ m F E N1 N2 k t sl su ys,rn1 k,⟨t+1,L,by push_cast;rfl,by omega,by omega,hF,hLo,hq1,hin,⟨hsz1,hsd,fun a h1 h2=>(by omega)⟩,hFv1⟩,?_⟩
  clear hF hLo hq hout hsz hFv x1 x2 p3 p4 hq1 hin hsz1 hFv1 hFt hst hD hDt hxl
  rintro i42 W43 ⟨j,L,rfl,hkj,hjr,hF,hLo,hq,hin,hsz,hFv⟩
  refine⟨fun hlt2=>?_,fun hge2=>?_⟩
  ·have hjk:j<k:=by omega
   obtain⟨b44,s45,s63,o1,o2,o3⟩:=hq.own (k:=t) (by omega)
   refine⟨⟨by omega,by rw[hlen];omega⟩,b44,s45,o1,?_⟩
   refine refSign_call o3.1 fun W47 hE47 _=>⟨_,rfl,fun h0=>?_,fun h0=>?_⟩
   ·have hE0:=sgn_zeroQ.1 h0
    have hF47:=hF.ext hE47
    obtain⟨x,x1,x2⟩:=hF47.mat.at (i:=j) hjk
    obtain⟨p1,pb',p2,p3,p4⟩:=x2.at (i:=t) htr
    have hFj:=hFv j t (by omega) (Nat.le_refl _) hjk htr
    refine⟨hF47.mat.inB (by omega) (by omega),x,x1,x2.inB (by omega) (by omega),pb',p1,ElemAt.pre2 p3,refSign_call p4.1 fun W53 hE53 _=>⟨_,rfl,fun hne W55 _=>bad (.inr ⟨L,E,t,j,hin.parts,hin.dk,hE0,hkj,hjk,fun e=>hne (sgn_zeroQ.2 ?_)⟩) W55,fun heq=>?_⟩⟩
    ·rw[hFj];exact e
    ·have hz0:leftF m L E j t=0:=by
      show leftK m L E j t t=0
      rw[←hFj];exact sgn_zeroQ.1 (Classical.not_not.1 heq)
     refine⟨by unfold I64;omega,⟨j+1,L,by push_cast;rfl,by omega,by omega,hF47.ext hE53,(hLo.ext hE47).ext hE53,(hq.ext hE47).ext hE53,inner_skip hin hkj hjk htr hE0 hz0,⟨hsz.1,hsz.2.1,fun a h1 h2=>?_⟩,hFv⟩,?_⟩
     ·by_cases e:a=j
      ·rw[hin.rest a t (by omega) htr (.inr ⟨rfl,.inr (by omega)⟩)]
       exact(one_sz a t).mono (by rw[Ub_succ];unfold Sk;omega)
      ·exact hsz.2.2 a h1 (by omega)
     ·show k-Int.toNat ((j:Int)+1)<k-Int.toNat (j:Int)
      omega
   ·have hE0:E t≠0:=fun e=>h0 (sgn_zeroQ.2 e)
    have hF47:=hF.ext hE47
    have hL47:=hLo.ext hE47
    obtain⟨x,x1,x2⟩:=hF47.mat.at (i:=j) hjk
    obtain⟨y,y1,y2⟩:=hL47.mat.at (i:=j) hjk
    obtain⟨p1,pb',p2,p3,p4⟩:=x2.at (i:=t) htr
    have hFj:=hFv j t (by omega) (Nat.le_refl _) hjk htr
    have hsF:Sz (Sk 3 t) (F j t):=by rw[hFj];exact leftK_sz hz' hsz.1 hjk htr
    refine⟨hL47.mat.inB (by omega) (by omega),y,y1,hF47.mat.inB (by omega) (by omega),x,x1,x2.inB (by omega) (by omega),pb',p1,p2,p3,⟨by omega,by rw[hlen];omega⟩,b44,s45,s63,o2,?_⟩
    refine refQDiv_call p4 (o3.ext hE47) hsF hsz.2.1 hE0 (by omega) (by omega) fun b66 s67 s68 W65 hE65 h65=>⟨b66,s67,s68,rfl,hE65,(y2.ext hE65).inB (by omega) (by omega),?_⟩
    refine(hL47.ext hE65).store (j:=t) (y1.ext hE65) hjk htr h65 (by decide) (by decide) m2 fun W69 hp hL69=>⟨by unfold I64;omega,⟨j+1,_,by push_cast;rfl,by omega,by omega,?_,hL69,hp.rqs ((hq.ext hE47).ext hE65) (by decide),?_,⟨⟨fun a c' ha hc'=>?_,hsz.1.2⟩,hsz.2.1,fun a ha1 ha2=>?_⟩,fun a b h1 h2 h3 h4=>?_⟩,?_⟩
    ·obtain⟨g,hg,hw⟩:=hp
     exact(hF47.ext hE65).other hw (fun h=>m12 g h hg) (by decide) (by decide)
    ·rw[hFj]
     exact inner_step hin hkj hjk fun e=>absurd e hE0
    ·show Sz _ (if a=j∧c'=t then _ else _)
     rw[if_neg (by omega)]
     exact hsz.1.1 a c' ha hc'
    ·show Sz _ (if a=j∧t=t then _ else _)
     by_cases e:a=j
     ·rw[if_pos ⟨e,rfl⟩,Ub_succ]
      exact hsF.div hsz.2.1 (by unfold Sk;omega)
     ·rw[if_neg (by omega)]
      exact hsz.2.2 a ha1 (by omega)
    ·rw[hFv a b h1 h2 h3 h4]
     exact leftK_congr fun i hi=>⟨(if_neg (by omega)).symm,(if_neg (by omega)).symm,rfl⟩
    ·show k-Int.toNat ((j:Int)+1)<k-Int.toNat (j:Int)
     omega
  ·have hjk:j=k:=by omega
   subst hjk
   have hout:=inner_end hin htr
   have hszO:=szI_end (by decide) hsz hin htr
   have hsd:=hsz.2.1
   refine⟨by unfold I64;omega,rlA m L E N1 N2 j t sl su ys,rn1 j,⟨t+1,F,by push_cast;rfl,by omega,by omega,hF,hLo,hq,fun x y h1 h2 h3 h4=>?_⟩,?_⟩
   ·rw[if_neg (by omega)]
    exact hFv x y (by omega) (by omega) h3 h4
   have hsz1:=hsz.1
   clear hF hLo hq hin hsz hFv
   rintro i72 W73 ⟨a,F,rfl,hka,har,hK⟩
   refine⟨fun hlt3=>⟨by unfold I64;omega,rlB m L E N1 N2 j t a sl su ys,rn1 j,⟨t+1,F,by push_cast;rfl,by omega,by omega,hK.1,hK.2.1,hK.2.2.1,fun x y h1 h2 h3 h4=>?_⟩,?_⟩,fun hge3=>?_⟩
   ·rw[hK.2.2.2 x y h1 h2 h3 h4]
    congr 1
    by_cases e:x<a
    ·rw[if_pos (.inl e),if_pos (.inl e)]
    ·rw[if_neg (by omega),if_neg (by omega)]
   ·clear hK F
    rintro i76 W77 ⟨e,F,rfl,hke,her,hF,hLo,hq,hFv⟩
    refine⟨fun hlt4=>?_,fun hge4=>⟨by unfold I64;omega,⟨a+1,F,by push_cast;rfl,by omega,by omega,hF,hLo,hq,fun x y h1 h2 h3 h4=>?_⟩,?_⟩⟩
    ·have haj:a<j:=by omega
     have hej:e<j:=by omega
     obtain⟨x,x1,x2⟩:=hF.mat.at (i:=a) haj
     obtain⟨p1,pb',p2,p3,p4⟩:=x2.at (i:=e) hej
     obtain⟨y,y1,y2⟩:=hLo.mat.at (i:=a) haj
     obtain⟨q1,qb,q2,q3,q4⟩:=y2.at (i:=t) htr
     obtain⟨z,z1,z2⟩:=hLo.mat.at (i:=e) hej
     obtain⟨r1,rb,r2,r3,r4⟩:=z2.at (i:=t) htr
     obtain⟨b91,s92,s93,o1,o2,o3⟩:=hq.own (k:=t) (by omega)
     have hFa:=hFv a e hka hke haj hej
     rw[if_neg (by omega)] at hFa
     have hsF:Sz (Sk 3 t) (F a e):=by rw[hFa];exact leftK_sz hz' hsz1 haj hej
     have hs1:=hszO.1 a t haj (Nat.lt_succ_self _)
     have hs2:=hszO.1 e t hej (Nat.lt_succ_self _)
     have hs3:=hs1.mul hs2
     have hs4:=hs3.mul hsd
     refine⟨hF.mat.inB (by omega) (by omega),x,x1,hF.mat.inB (by omega) (by omega),x,x1,x2.inB (by omega) (by omega),pb',p1,p2,p3,hLo.mat.inB (by omega) (by omega),y,y1,y2.inB (by omega) (by omega),qb,q1,q2,q3,hLo.mat.inB (by omega) (by omega),z,z1,z2.inB (by omega) (by omega),rb,r1,r2,r3,⟨by omega,by rw[hlen];omega⟩,b91,s92,s93,o2,?_⟩
     refine refQMul_call q4 r4 hs1 hs2 (by omega) (by omega) fun b96 s97 s98 W95 hE95 h95=>⟨b96,s97,s98,rfl,hE95,refQMul_call h95 (o3.ext hE95) hs3 hsd (by omega) (by omega) fun b101 s102 s103 W100 hE100 h100=>⟨b101,s102,s103,rfl,hE100,refQSub_call ((p4.ext hE95).ext hE100) h100 hsF hs4 (by omega) (by omega) fun b106 s107 s108 W105 hE105 h105=>⟨b106,s107,s108,rfl,hE105,?_⟩⟩⟩
     have hE:=(hE95.trans hE100).trans hE105
     refine⟨(x2.ext hE).inB (by omega) (by omega),(hF.ext hE).store (j:=e) (x1.ext hE) haj hej h105 (by decide) (by decide) m1 fun W109 hp hF109=>⟨by unfold I64;omega,⟨e+1,_,by push_cast;rfl,by omega,by omega,hF109,?_,hp.rqs (hq.ext hE) (by decide),fun u v h1 h2 h3 h4=>?_⟩,?_⟩⟩
     ·obtain⟨g,hg,hw⟩:=hp
      exact(hLo.ext hE).other hw (m12 g hg) (by decide) (by decide)
     ·unfold setM
      by_cases ee:u=a∧v=e
      ·rw[if_pos ee,ee.1,ee.2,if_pos (.inr ⟨rfl,by omega⟩),leftK_succ,hFa]
      ·rw[if_neg ee,hFv u v h1 h2 h3 h4]
       congr 1
       by_cases e1:u<a∨u=a∧v<e
       ·rw[if_pos e1,if_pos (by omega)]
       ·rw[if_neg e1,if_neg (by omega)]
     ·show j-Int.toNat ((e:Int)+1)<j-Int.toNat (e:Int)
      omega
    ·rw[hFv x y h1 h2 h3 h4]
     congr 1
     by_cases e1:x<a+1
     ·rw[if_pos (by omega),if_pos (.inl e1)]
     ·rw[if_neg (by omega),if_neg (by omega)]
    ·show j-Int.toNat ((a:Int)+1)<j-Int.toNat (a:Int)
     omega
   ·have haj:a=j:=by omega
    refine⟨by unfold I64;omega,⟨t+1,F,L,E,by push_cast;rfl,by omega,hK.1,hK.2.1,hK.2.2.1,hout,hszO,fun x y h1 h2 h3 h4=>?_⟩,?_⟩
    ·rw[hK.2.2.2 x y (by omega) (by omega) h3 h4,if_pos (.inl (by omega))]
    ·show j-Int.toNat ((t:Int)+1)<j-Int.toNat (t:Int)
     omega
 ·have hkr:t=k:=by omega
  subst hkr
  exact⟨((hLo.ext hE111).ext hE112).mat,⟨xs,hO.row.ext hE112,(hq.ext hE111).ext hE112⟩,hout.1,hsz⟩
theorem refLdl_call {W0 W:PW} {M:Nat→Prop} {s:Sl} {r:Nat} {c:Nat→Nat} {m:Nat→Nat→Rat} {K:Value→PW→Prop} (h:IsRMat 317 92 193 W s r c m) (hr:r≤5) (hz: ∀i j,i<r→j<c i→Sz 3 (m i j)) (kont: ∀(u:Sl) (d:Sl) (b:Bool) (W':PW),Ext W W'→((b=false→u=⟨none,0,0⟩∧d=⟨none,0,0⟩∧NoParts r c m)∧(b=true→SymP r c m∧∃(L:Nat→Nat→Rat) (D:Nat→Rat),IsRMat 317 92 193 W' u r (fun _=>r) L∧IsRQs 317 92 W' d r D∧Parts m L D r r∧SzO 3 L D r r))→K (.tuple #[Sl.v u,Sl.v d,.bool b]) W'):
  callN Go.Proofs.Tryz.prog W0 M 117 [s.v] W K:=
 callN_of (fun W' hE=>refLdl_ok (M:=fun _=>False) (h.ext hE) hr hz) (fun W' v W'' hE hE' hP=>by
  obtain⟨u,d,b,rfl,h⟩:=hP
  exact kont u d b W'' (hE.trans hE') h)
end Go.Proofs.YthpmkcidkcmlgaaGreat

/- ldl.Squares, cinctureref1.Squares. -/
set_option maxRecDepth 100000
set_option linter.unusedVariables false
set_option linter.unusedSimpArgs false
namespace Go.Proofs.YthpmkcidkcmlgaaGreat
open Go Go.SX
def sqO (W0:PW) (q:Nat→List Tm) (Lm:Nat→Nat→Rat) (D:Nat→Rat) (r:Nat) (L:List PL) (W:PW):Prop:=match L with
 | [.row l,.val (.int .i64 i)]=>∃j:Nat,i=(j:Int)∧j≤r∧Ext W0 W∧All2 (SqX 317 188 W) l (sqsP q Lm D r j)
 | _=>False
def sqI (W0:PW) (q:Nat→List Tm) (Lm:Nat→Nat→Rat) (r j:Nat) (L:List PL) (W:PW):Prop:=match L with
 | [.val (.int .i64 i),.cells [.slice A n c]]=>∃k:Nat,i=(k:Int)∧k≤r∧Ext W0 W∧IsPoly 317 188 W ⟨A,n,c⟩ (colP q Lm j k)
 | _=>False
def rsO (W0:PW) (q:Nat→List Tm) (Lm:Nat→Nat→Rat) (D:Nat→Rat) (r:Nat) (L:List PL) (W:PW):Prop:=match L with
 | [.row l,.val (.int .i64 i)]=>∃j:Nat,i=(j:Int)∧j≤r∧Ext W0 W∧All2 (RSqX 317 195 W) l (sqsP q Lm D r j)
 | _=>False
def rsI (W0:PW) (q:Nat→List Tm) (Lm:Nat→Nat→Rat) (r j:Nat) (L:List PL) (W:PW):Prop:=match L with
 | [.val (.slice A n c),.val (.int .i64 i)]=>∃k:Nat,i=(k:Int)∧k≤r∧Ext W0 W∧IsRPoly 317 195 W ⟨A,n,c⟩ (colP q Lm j k)
 | _=>False
def cnB (n:Nat) (L:List PL) (_:PW):Nat:=match L with
 | [_,.val (.int .i64 i)]=>n-i.toNat
 | _=>0
def cnA (n:Nat) (L:List PL) (_:PW):Nat:=match L with
 | [.val (.int .i64 i),_]=>n-i.toNat
 | _=>0
theorem ub4 {r:Nat} (hr:r≤4):Ub 3 r≤9696:=by
 rcases(by omega:r=0∨r=1∨r=2∨r=3∨r=4) with rfl | rfl | rfl | rfl | rfl<;>decide
theorem qat_sys {ps:List (List Tm)} (hp:SysOK ps): ∀k,k<ps.length→Bd 56029 (qat ps k)∧(qat ps k).length≤14:=fun k hk=>by rw[qat_at hk];exact hp.bd _ (List.getElem_mem hk)
theorem ldlSquares_ok {W0:PW} {M:Nat→Prop} {s sm:Sl} {ps:List (List Tm)} {r:Nat} {c:Nat→Nat} {m:Nat→Nat→Rat} (h:Ps W0 s ps) (hm:IsMat 317 51 100 W0 sm r c m) (hp:SysOK ps) (hl:ps.length≤4) (hr:r≤5) (hz: ∀i j,i<r→j<c i→Sz 3 (m i j)):
  PCallsM Go.Proofs.Tryz.prog 33 [s.v,sm.v] W0 M fun v W'=>∃(s':Sl),∃(b:Bool),∃(l:List SqP),v = .tuple ⟨[Sl.v s',.bool b]⟩∧SX.IsSqs 317 188 W' s' l∧(b=false→l = []∧(NoParts r c m∨ps.length≠r))∧(b=true→ps.length=r∧SymP r c m∧∃(L:Nat→Nat→Rat) (D:Nat→Rat),Parts m L D r r∧SzO 3 L D r r∧l=sqsP (qat ps) L D r r):=by
 apply callldl_Squares
 have hn:=h.n
 have hmn:=hm.n
 have bad:NoParts r c m∨ps.length≠r→∀W':PW,∃(s':Sl) (b:Bool) (l:List SqP),(Value.tuple ⟨[.slice none 0 0,.bool false]⟩) = .tuple ⟨[Sl.v s',.bool b]⟩∧SX.IsSqs 317 188 W' s' l∧(b=false→l = []∧(NoParts r c m∨ps.length≠r))∧(b=true→ps.length=r∧SymP r c m∧∃(L:Nat→Nat→Rat) (D:Nat→Rat),Parts m L D r r∧SzO 3 L D r r∧l=sqsP (qat ps) L D r r):=
  fun hN W'=>⟨⟨none,0,0⟩,false,[],rfl,LstA.nil W',fun _=>⟨rfl,hN⟩,fun e=>(by cases e)⟩
 refine ldlOf_call hm hr hz (by decide) (by decide) (Ub3 hr) fun u d b W2 hE2 ⟨hbf,hbt⟩=>⟨u,d,b,rfl,fun hb W6 _=>bad (.inl (hbf (by simpa using hb)).2.2) W6,fun hb=>⟨fun hne W7 _=>bad (.inr (by omega)) W7,fun heq=>?_⟩⟩
 obtain⟨hS,L,D,hu,hd,hP,hsz⟩:=hbt (by simpa using hb)
 have hlr:ps.length=r:=by omega
 have hr4:r≤4:=by omega
 have hub:=ub4 hr4
 have hdn:=hd.n
 have hLz: ∀{i j},i<r→j<r→Sz 9696 (L i j):=fun hi hj=>(hsz.1 _ _ hi hj).mono hub
 have hDz: ∀{j},j<r→Sz 9696 (D j):=fun hj=>(hsz.2 _ hj).mono hub
 have hqs:=qat_sys hp
 rw[hlr] at hqs
 refine⟨sqO W2 (qat ps) L D r,cnB r,⟨0,rfl,Nat.zero_le _,Ext.refl _,trivial⟩,?_⟩
 rintro l10 i11 W12 ⟨j,rfl,hj,hE12,ha⟩
 have hal:=ha.len
 have hsl:=sqsP_len (q:=qat ps) (L:=L) (D:=D) (n:=r) j
 refine⟨fun hlt=>?_,fun hge s35 W36 hE36 hO36 _ W37 hE37=>?_⟩
 ·have hjr:j<r:=by omega
  have hmu:r-Int.toNat ((j:Int)+1)<r-Int.toNat (j:Int):=by omega
  obtain⟨s13,b14,s15,e13,d13⟩:=(hd.ext hE12).at hjr
  refine⟨(hd.ext hE12).inB (by omega) (by omega),s13,b14,s15,e13,ratSign_call d13 (hDz hjr) (by omega) fun W17 hE17 _=>⟨_,rfl,fun h0=>⟨by unfold I64;omega,⟨j+1,by push_cast;rfl,by omega,hE12.trans hE17,?_⟩,hmu⟩,fun h0=>?_⟩⟩
  ·rw[sqsP,if_pos ((cmpQ_zero _ 0).1 h0)]
   exact ha.mono fun _ _ h=>h.ext hE17
  have hD0:D j≠0:=fun e=>h0 ((cmpQ_zero _ 0).2 e)
  refine⟨sqI W17 (qat ps) L r j,cnA r,⟨0,rfl,Nat.zero_le _,Ext.refl _,IsPoly.nil W17⟩,?_⟩
  rintro s21 i22 W23 ⟨k,rfl,hk,hE23,hA⟩
  have hA:IsPoly 317 188 W23 s21 (colP (qat ps) L j k):=hA
  have hE:=hE2.trans (hE12.trans (hE17.trans hE23))
  have hE0:=hE12.trans (hE17.trans hE23)
  have hcb:=colP_bd (L:=L) (j:=j) hqs (fun k hk=>hLz hk hjr) k hk
  refine⟨fun hltk=>?_,fun hgek=>?_⟩
  ·have hkr:k<r:=by omega
   have hkl:k<ps.length:=by omega
   obtain⟨x,hx,hxp⟩:=(h.ext hE).at hkl
   obtain⟨z,hz1,hz2⟩:=(hu.ext hE0).at (i:=k) hkr
   obtain⟨s26,b27,s28,e26,d26⟩:=hz2.at (i:=j) hjr
   have m1:=hqs k hkr
   rw[←qat_at hkl] at hxp
   have l1:=pmap_len (qat ps k) (L k j)
   have l2:=pnorm_len (pmap (qat ps k) (L k j))
   have zb:=Bd.pmap m1.1 (hLz hkr hjr)
   refine⟨(h.ext hE).inB (by omega) (by omega),x,hx,(hu.ext hE0).inB (by omega) (by omega),z,hz1,hz2.inB (by omega) (by omega),s26,b27,s28,e26,?_⟩
   refine polyScale_call hxp d26 m1.1 (hLz hkr hjr) (by omega) (by omega) (by omega) fun s31 W30 hE30 h30=>⟨s31,rfl,hE30,?_⟩
   refine polyAdd_call (k:=3000000) (hA.ext hE30) h30 (hcb.1.mono (by omega)) (zb.norm.mono (by omega)) (by omega) (by omega) (by omega) fun s34 W33 hE33 h33=>⟨s34,rfl,hE33,by unfold I64;omega,⟨k+1,by push_cast;rfl,by omega,hE23.trans (hE30.trans hE33),h33⟩,?_⟩
   show r-Int.toNat ((k:Int)+1)<r-Int.toNat (k:Int)
   omega
  ·have:k=r:=by omega
   subst this
   refine⟨by simp only[List.length_cons,List.length_nil];omega,by unfold I64;omega,⟨j+1,by push_cast;rfl,by omega,hE0,?_⟩,hmu⟩
   rw[sqsP,if_neg hD0]
   exact(ha.mono fun _ _ h=>h.ext (hE17.trans hE23)).append ⟨⟨s13,b14,s15,s21,rfl,d13.ext (hE17.trans hE23),hA⟩,trivial⟩
 ·have:j=r:=by omega
  subst this
  exact⟨s35,true,sqsP (qat ps) L D j j,rfl,⟨l10,⟨_,hO36.row.ext hE37⟩,ha.mono fun _ _ h=>h.ext (hE36.trans hE37)⟩,fun e=>(by cases e),fun _=>⟨hlr,hS,L,D,hP,hsz,rfl⟩⟩
theorem ldlSquares_call {W0 W:PW} {M:Nat→Prop} {s sm:Sl} {ps:List (List Tm)} {r:Nat} {c:Nat→Nat} {m:Nat→Nat→Rat} {K:Value→PW→Prop} (h:Ps W s ps) (hm:IsMat 317 51 100 W sm r c m) (hp:SysOK ps) (hl:ps.length≤4) (hr:r≤5) (hz: ∀i j,i<r→j<c i→Sz 3 (m i j)) (kont: ∀(s':Sl) (b:Bool) (l:List SqP) (W':PW),Ext W W'→(SX.IsSqs 317 188 W' s' l∧(b=false→l = []∧(NoParts r c m∨ps.length≠r))∧(b=true→ps.length=r∧SymP r c m∧∃(L:Nat→Nat→Rat) (D:Nat→Rat),Parts m L D r r∧SzO 3 L D r r∧l=sqsP (qat ps) L D r r))→K (.tuple ⟨[Sl.v s',.bool b]⟩) W'):
  callN Go.Proofs.Tryz.prog W0 M 33 [s.v,sm.v] W K:=
 callN_of (fun W' hE=>ldlSquares_ok (M:=fun _=>False) (h.ext hE) (hm.ext hE) hp hl hr hz) (fun W' v W'' hE hE' hP=>by
  obtain⟨s',b,l,rfl,h⟩:=hP
  exact kont s' b l W'' (hE.trans hE') h)
theorem refSquares_ok {W0:PW} {M:Nat→Prop} {s sm:Sl} {ps:List (List Tm)} {r:Nat} {c:Nat→Nat} {m:Nat→Nat→Rat} (h:RPs W0 s ps) (hm:IsRMat 317 92 193 W0 sm r c m) (hp:SysOK ps) (hl:ps.length≤4) (hr:r≤5) (hz: ∀i j,i<r→j<c i→Sz 3 (m i j)):
  PCallsM Go.Proofs.Tryz.prog 34 [s.v,sm.v] W0 M fun v W'=>∃(s':Sl),∃(b:Bool),∃(l:List SqP),v = .tuple ⟨[Sl.v s',.bool b]⟩∧SX.RIsSqs 317 195 W' s' l∧(b=false→l = []∧(NoParts r c m∨ps.length≠r))∧(b=true→ps.length=r∧SymP r c m∧∃(L:Nat→Nat→Rat) (D:Nat→Rat),Parts m L D r r∧SzO 3 L D r r∧l=sqsP (qat ps) L D r r):=by
 apply callref1_Squares
 have hn:=h.n
 have hmn:=hm.n
 have bad:NoParts r c m∨ps.length≠r→∀W':PW,∃(s':Sl) (b:Bool) (l:List SqP),(Value.tuple ⟨[.slice none 0 0,.bool false]⟩) = .tuple ⟨[Sl.v s',.bool b]⟩∧SX.RIsSqs 317 195 W' s' l∧(b=false→l = []∧(NoParts r c m∨ps.length≠r))∧(b=true→ps.length=r∧SymP r c m∧∃(L:Nat→Nat→Rat) (D:Nat→Rat),Parts m L D r r∧SzO 3 L D r r∧l=sqsP (qat ps) L D r r):=
  fun hN W'=>⟨⟨none,0,0⟩,false,[],rfl,LstA.nil W',fun _=>⟨rfl,hN⟩,fun e=>(by cases e)⟩
 refine refLdl_call hm hr hz fun u d b W2 hE2 ⟨hbf,hbt⟩=>⟨u,d,b,rfl,fun hb W6 _=>bad (.inl (hbf (by simpa using hb)).2.2) W6,fun hb=>⟨fun hne W7 _=>bad (.inr (by omega)) W7,fun heq=>?_⟩⟩
 obtain⟨hS,L,D,hu,hd,hP,hsz⟩:=hbt (by simpa using hb)
 have hlr:ps.length=r:=by omega
 have hr4:r≤4:=by omega
 have hub:=ub4 hr4
 have hdn:=hd.n
 have hLz: ∀{i j},i<r→j<r→Sz 9696 (L i j):=fun hi hj=>(hsz.1 _ _ hi hj).mono hub
 have hDz: ∀{j},j<r→Sz 9696 (D j):=fun hj=>(hsz.2 _ hj).mono hub
 have hqs:=qat_sys hp
 rw[hlr] at hqs
 refine⟨rsO W2 (qat ps) L D r,cnB r,⟨0,rfl,Nat.zero_le _,Ext.refl _,trivial⟩,?_⟩
 rintro l10 i11 W12 ⟨j,rfl,hj,hE12,ha⟩
 have hal:=ha.len
 have hsl:=sqsP_len (q:=qat ps) (L:=L) (D:=D) (n:=r) j
 refine⟨fun hlt=>?_,fun hge s35 W36 hE36 hO36 _ W37 hE37=>?_⟩
 ·have hjr:j<r:=by omega
  have hmu:r-Int.toNat ((j:Int)+1)<r-Int.toNat (j:Int):=by omega
  obtain⟨s13,b14,s15,e13,d13⟩:=(hd.ext hE12).at hjr
  refine⟨(hd.ext hE12).inB (by omega) (by omega),b14,s13,ElemAt.pre2 e13,refSign_call d13.1 fun W17 hE17 _=>⟨_,rfl,fun h0=>⟨by unfold I64;omega,⟨j+1,by push_cast;rfl,by omega,hE12.trans hE17,?_⟩,hmu⟩,fun h0=>?_⟩⟩
  ·rw[sqsP,if_pos (sgn_zeroQ.1 h0)]
   exact ha.mono fun _ _ h=>h.ext hE17
  have hD0:D j≠0:=fun e=>h0 (sgn_zeroQ.2 e)
  refine⟨rsI W17 (qat ps) L r j,cnB r,⟨0,rfl,Nat.zero_le _,Ext.refl _,IsRPoly.nil W17⟩,?_⟩
  rintro s21 i22 W23 ⟨k,rfl,hk,hE23,hA⟩
  have hA:IsRPoly 317 195 W23 s21 (colP (qat ps) L j k):=hA
  have hE:=hE2.trans (hE12.trans (hE17.trans hE23))
  have hE0:=hE12.trans (hE17.trans hE23)
  have hcb:=colP_bd (L:=L) (j:=j) hqs (fun k hk=>hLz hk hjr) k hk
  refine⟨fun hltk=>?_,fun hgek=>?_⟩
  ·have hkr:k<r:=by omega
   have hkl:k<ps.length:=by omega
   obtain⟨x,hx,hxp⟩:=(h.ext hE).at hkl
   obtain⟨z,hz1,hz2⟩:=(hu.ext hE0).at (i:=k) hkr
   obtain⟨s26,b27,s28,e26,d26⟩:=hz2.at (i:=j) hjr
   have m1:=hqs k hkr
   rw[←qat_at hkl] at hxp
   have l1:=pmap_len (qat ps k) (L k j)
   have l2:=pnorm_len (pmap (qat ps k) (L k j))
   have zb:=Bd.pmap m1.1 (hLz hkr hjr)
   refine⟨(h.ext hE).inB (by omega) (by omega),x,hx,(hu.ext hE0).inB (by omega) (by omega),z,hz1,hz2.inB (by omega) (by omega),b27,s26,s28,e26,?_⟩
   refine refPolyScale_call hxp d26 m1.1 (hLz hkr hjr) (by omega) (by omega) (by omega) fun s31 W30 hE30 h30=>⟨s31,rfl,hE30,?_⟩
   refine refPolyAdd_call (k:=3000000) (hA.ext hE30) h30 (colP_good _ _ _ _) (hcb.1.mono (by omega)) (zb.norm.mono (by omega)) (by omega) (by omega) (by omega) fun s34 W33 hE33 h33=>⟨s34,rfl,hE33,by unfold I64;omega,⟨k+1,by push_cast;rfl,by omega,hE23.trans (hE30.trans hE33),h33⟩,?_⟩
   show r-Int.toNat ((k:Int)+1)<r-Int.toNat (k:Int)
   omega
  ·have:k=r:=by omega
   subst this
   obtain⟨s35,b34,s36,e34,d34⟩:=(hd.ext hE0).at hjr
   refine⟨(hd.ext hE0).inB (by omega) (by omega),b34,s35,s36,e34,by simp only[List.length_cons,List.length_nil];omega,by unfold I64;omega,⟨j+1,by push_cast;rfl,by omega,hE0,?_⟩,hmu⟩
   rw[sqsP,if_neg hD0]
   exact(ha.mono fun _ _ h=>h.ext (hE17.trans hE23)).append ⟨⟨b34,s35,s36,s21,rfl,d34,hA⟩,trivial⟩
 ·have:j=r:=by omega
  subst this
  exact⟨s35,true,sqsP (qat ps) L D j j,rfl,⟨l10,⟨_,hO36.row.ext hE37⟩,ha.mono fun _ _ h=>h.ext (hE36.trans hE37)⟩,fun e=>(by cases e),fun _=>⟨hlr,hS,L,D,hP,hsz,rfl⟩⟩
theorem refSquares_call {W0 W:PW} {M:Nat→Prop} {s sm:Sl} {ps:List (List Tm)} {r:Nat} {c:Nat→Nat} {m:Nat→Nat→Rat} {K:Value→PW→Prop} (h:RPs W s ps) (hm:IsRMat 317 92 193 W sm r c m) (hp:SysOK ps) (hl:ps.length≤4) (hr:r≤5) (hz: ∀i j,i<r→j<c i→Sz 3 (m i j)) (kont: ∀(s':Sl) (b:Bool) (l:List SqP) (W':PW),Ext W W'→(SX.RIsSqs 317 195 W' s' l∧(b=false→l = []∧(NoParts r c m∨ps.length≠r))∧(b=true→ps.length=r∧SymP r c m∧∃(L:Nat→Nat→Rat) (D:Nat→Rat),Parts m L D r r∧SzO 3 L D r r∧l=sqsP (qat ps) L D r r))→K (.tuple ⟨[Sl.v s',.bool b]⟩) W'):
  callN Go.Proofs.Tryz.prog W0 M 34 [s.v,sm.v] W K:=
 callN_of (fun W' hE=>refSquares_ok (M:=fun _=>False) (h.ext hE) (hm.ext hE) hp hl hr hz) (fun W' v W'' hE hE' hP=>by
  obtain⟨s',b,l,rfl,h⟩:=hP
  exact kont s' b l W'' (hE.trans hE') h)
end Go.Proofs.YthpmkcidkcmlgaaGreat
