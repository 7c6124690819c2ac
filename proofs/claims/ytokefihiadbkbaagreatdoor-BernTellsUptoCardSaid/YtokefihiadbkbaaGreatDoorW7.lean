/- poly: sums.poly, New. -/
import Derived.Test.YtokefihiadbkbaaGreatDoorW6
import Derived.Test.YtokefihiadbkbaaGreatDoorR10
import Derived.Shelf.Spec.SlicesGrow
import Derived.Shelf.SlGeneric
import Derived.Test.YtokefihiadbkbaaGreatDoorProg
import Derived.Test.YtokefihiadbkbaaGreatDoorR9
set_option linter.unusedVariables false
set_option linter.unusedSimpArgs false
set_option maxRecDepth 100000
namespace Go.Proofs.YtokefihiadbkbaaGreatDoor
open Go Go.SX
def nzT (t:Tm):Bool:=decide (t.2≠0)
theorem Ff0 (l:List Tm) (m:Mon):Aj5 (l.filter nzT) m=Aj5 l m:=by
 induction l with
 | nil=>rfl
 | cons t r ih=>
  by_cases h:t.2=0
  ·rw[List.filter_cons_of_neg (by simp[nzT,h]),ih,Aj5,h]
   split<;>rw[Rat.zero_add]
  ·rw[List.filter_cons_of_pos (by simp[nzT,h]),Aj5,Aj5,ih]
theorem Dz3 {es:Array MapEntry} {sn:Array Nat} {e:MapEntry} (h:e∈(leftOf es sn).toList):e∈es.toList∧sn.contains e.born=false:=by
 unfold leftOf at h
 rw[Array.toList_filter,List.mem_filter] at h
 exact⟨h.1,by simpa using h.2⟩
theorem Eb0 {es:Array MapEntry} {sn:Array Nat} (h:(leftOf es sn).size=0): ∀e∈es.toList,sn.contains e.born=true:=by
 intro e he
 refine Classical.byContradiction fun hn=>?_
 have:e∈(leftOf es sn).toList:=by
  unfold leftOf
  rw[Array.toList_filter,List.mem_filter]
  exact⟨he,by simpa using hn⟩
 rw[←Array.length_toList] at h
 rw[List.eq_nil_of_length_eq_zero h] at this
 cases this
def spI (W0:PW) (c:Nat) (es:List MapEntry) (E:List Tm) (l:List PL) (W:PW):Prop:=match l with
 | [.row l11,PL.seen sn n]=>Ext W0 W∧n=c∧∃L,An5 (PT 231 W) l11 L∧(L ++ (At5 sn es E).filter nzT).Perm (E.filter nzT)
 | _=>False
def spM (es:List MapEntry) (E:List Tm) (l:List PL) (W:PW):Nat:=match l with
 | [_,PL.seen sn n]=>(At5 sn es E).length
 | _=>0
theorem De1 {W0:PW} {M:Nat→Prop} {g c k:Nat} {es:Array MapEntry} {E:List Tm} (h:Ai4 231 W0 g es c E) (hE: ∀t∈E,Sz k t.2) (hk:k≤1073741824) (hl:E.length≤1073741824):
  Aa0 Tryz.prog 134 [.map (some g)] W0 M fun v W'=>∃s:Sl,v = .agg ⟨[s.v]⟩∧Aq4 W0 s∧Ch2 231 138 W' s (Ag2 E):=by
 apply Bf8
 have hlen:es.toList.length=E.length:=h.all.len
 refine⟨g,rfl,es,c,h.pub,h.heap,⟨rfl,rfl⟩,spI W0 c es.toList E,spM es.toList E,⟨Ext.refl _,rfl,[],trivial,?_⟩,?_⟩
 ·rw[show(⟨[]⟩:Array Nat) = #[] from rfl,Bw6 hlen]
  exact .refl _
 rintro x8 n9 x10 l11 W12 hF
 obtain⟨sn,hsn⟩: ∃sn,Ae4 x8 x10=sn:=⟨_,rfl⟩
 rw[hsn] at hF⊢
 obtain⟨hE12,rfl,L,hL,hp⟩:=hF
 have hs:=h.ext hE12
 have hLl:L.length≤E.length:=by
  have h1:=hp.length_eq
  have h2:=List.length_filter_le nzT E
  simp only[List.length_append] at h1
  omega
 have hll:=hL.len
 refine⟨es,n9,hs.pub,hs.heap,fun e he=>h.lt e he,Nat.le_refl _,fun hz s18 W19 hE19 hO hf=>?_,fun e he=>?_⟩
 ·have hnil:=Cp2 (sn:=sn) (es:=es.toList) (E:=E) (Eb0 hz)
  rw[hnil,List.filter_nil,List.append_nil] at hp
  have hnd:(L.map (·.1)).Nodup:=(hp.map _).nodup_iff.2 (List.Nodup.sublist (List.filter_sublist.map _) h.nd)
  have hnz: ∀t∈L,t.2≠0:=fun t ht=>by
   have:=List.mem_filter.1 (hp.mem_iff.1 ht)
   simpa[nzT] using this.2
  have hpn:Ag2 L=Ag2 E:=Bc1 fun m=>by rw[Da7 hp,Ff0]
  intro W' hE'
  have hO':=hO.ext hE'
  refine⟨_,_,Dh7 hO' (hL.mono fun _ _ h=>h.ext (hE19.trans hE')) hnd hnz (by omega),fun g' hg'=>⟨hO'.2 g' hg',.inr (hf g' hg').1⟩,fun v W'' hX hP=>?_⟩
  obtain⟨rfl,hq⟩:=hP
  refine⟨rfl,fun W22 hE22=>⟨s18,rfl,fun g hg=>(hf g hg).1,?_⟩⟩
  rw[←hpn]
  exact hq.ext hE22
 ·obtain⟨hem,hec⟩:=Dz3 he
  obtain⟨i,hi⟩:=List.mem_iff_getElem?.1 hem
  obtain⟨t,ht,h0,hk',s,b,s',hv,hr⟩:=hs.all.Fo1 hi
  have hstep:=Ce4 h.born hi ht hec
  have hmm:(At5 (sn.push e.born) es.toList E).length<(At5 sn es.toList E).length:=by
   rw[hstep.length_eq]
   simp
  refine⟨⟨es,hs.pub,hs.heap,hem,h.born⟩,t.1.x,t.1.y,t.1.z,hk',s,b,s',hv,Bk6 hr (hE t (List.mem_of_getElem? ht)) (by omega) fun W35 hE35 _=>⟨_,rfl,fun hne=>⟨by simp;omega,⟨rfl,rfl⟩,⟨hE12.trans hE35,rfl,L ++ [t],(hL.mono fun _ _ h=>h.ext hE35).snoc ⟨h0,s,b,s',rfl,hr.ext hE35⟩,?_⟩,hmm⟩,fun heq=>⟨⟨rfl,rfl⟩,⟨hE12.trans hE35,rfl,L,hL.mono fun _ _ h=>h.ext hE35,?_⟩,hmm⟩⟩⟩
  ·have hnz:nzT t=true:=by
    have:t.2≠0:=fun e=>hne ((Be6 _ _).2 e)
    simp[nzT,this]
   have h1:=hstep.filter nzT
   rw[List.filter_cons_of_pos hnz] at h1
   have h2:(L ++ [t] ++ (At5 (sn.push e.born) es.toList E).filter nzT).Perm (L ++ (At5 sn es.toList E).filter nzT):=by
    rw[List.append_assoc]
    exact(h1.symm.append_left L)
   exact h2.trans hp
  ·have hnz:¬nzT t=true:=by
    have:t.2=0:=(Be6 _ _).1 (by omega)
    simp[nzT,this]
   have h1:=hstep.filter nzT
   rw[List.filter_cons_of_neg hnz] at h1
   exact(h1.symm.append_left L).trans hp
theorem Ba0 {W0 W:PW} {M:Nat→Prop} {g c k:Nat} {es:Array MapEntry} {E:List Tm} {K:Value→PW→Prop} (h:Ai4 231 W g es c E) (hE: ∀t∈E,Sz k t.2) (hk:k≤1073741824) (hl:E.length≤1073741824)
  (kont: ∀(s:Sl) (W':PW),Ext W W'→Aq4 W s→Ch2 231 138 W' s (Ag2 E)→K (.agg ⟨[s.v]⟩) W'):Aa1 Tryz.prog W0 M 134 [.map (some g)] W K:=
 Aa2 (fun W' hE'=>De1 (M:=fun _=>False) (h.ext hE') hE hk hl) (fun W' v W'' hE' hE'' hP=>by
  obtain⟨s,rfl,hf,hp⟩:=hP
  exact kont s W'' (hE'.trans hE'') (hf.back hE') hp)
theorem Ch8 {W0 W:PW} {M:Nat→Prop} {g c k:Nat} {es:Array MapEntry} {E:List Tm} {K:Value→PW→Prop} (h:Ai4 231 W g es c E) (hE: ∀t∈E,Sz k t.2) (hk:k≤1073741824) (hl:E.length≤1073741824)
  (kont: ∀(s:Sl) (W':PW),Ext W W'→Ab0 231 138 W' s (Ag2 E)→K (.agg ⟨[s.v]⟩) W'):Aa1 Tryz.prog W0 M 134 [.map (some g)] W K:=
 Ba0 h hE hk hl fun s W' hE' _ hp=>kont s W' hE' hp.Ft4
end Go.Proofs.YtokefihiadbkbaaGreatDoor
/- poly: New, Terms, Const, Var, Mul. -/
namespace Go.Proofs.YtokefihiadbkbaaGreatDoor
open Go Go.SX
theorem Fc3 {x:Nat} (h:x≠0):1≤nl x:=by
 have:nl x≠0:=fun e=>h (Ad0.1 e)
 omega
theorem As0 {α:Type} {l:List α} {j:Nat} (h:j<l.length):l.take (j+1)=l.take j ++ [l[j]]:=by
 rw[List.take_add_one,List.getElem?_eq_getElem h];rfl
theorem Dd5 {W0:PW} {M:Nat→Prop} {s:Sl} {l:List Tm} {k:Nat} (h:Ab0 231 138 W0 s l) (hB:Bd k l) (hk:k≤536870912) (hl:l.length≤1073741824):
  Aa0 Tryz.prog 63 [s.v] W0 M fun v W'=>∃(s':Sl),v = .agg ⟨[Sl.v s']⟩∧Aq4 W0 s'∧Ch2 231 138 W' s' (Ag2 l):=by
 apply Da9
 intro g W2 hE2 _ hg hS hh
 obtain⟨D,N,hF,hD,hn1,hn2⟩:=hB
 have hk1:1≤k:=Nat.le_trans (Fc3 hD) hn1
 refine⟨fun L W=>match L with
  | [.val (.int .i64 i)]=>∃j:Nat,i=(j:Int)∧j≤l.length∧W0.w.heap.size≤W.w.heap.size∧Ab0 231 138 W s l∧∃es c E a b,Ai4 231 W g es c E∧Dp6 D (l.take j) a E∧Fit D b (l.drop j)∧a+b≤N
  | _=>False,fun L _=>match L with | [.val (.int .i64 i)]=>l.length-i.toNat | _=>0,⟨0,rfl,by omega,hE2.size,h.ext hE2,#[],0,[],0,N,Ai4.new hS hh,Dp6.nil D,hF,by omega⟩,?_⟩
 rintro i5 W6 ⟨j,rfl,hj,h06,hp,es,c,E,a,b,hs,hsm,hf,hab⟩
 have hn:=hp.n
 refine⟨fun hlt=>?_,fun hge=>?_⟩
 ·have hjl:j<l.length:=by omega
  obtain⟨h0,s1,b1,s2,he,_,_,hq⟩:=hp.at (List.getElem?_eq_getElem hjl)
  rw[List.drop_eq_getElem_cons hjl] at hf
  obtain⟨n,k',hnk,hfq,hf'⟩:=hf
  refine⟨hp.inB (by omega) (by omega),_,_,_,s1,b1,s2,he,Bj5 (k:=k) hs h0 hq (fun t ht=>((hsm.fit.mem ht).mono (by omega:a≤N)).sz hD hn1 hn2) ((hfq.mono (by omega:n≤N)).sz hD hn1 hn2) (by omega) hk1 (.inr hg) fun W' W'' es' c' E' hE' hX hs' hs'' hA=>⟨rfl,by unfold I64;omega,⟨j+1,by push_cast;rfl,by omega,Nat.le_trans h06 (Nat.le_trans hE'.size hX.size),(hp.ext hE').map hX hs'.heap,es',c',E',a+n,k',hs'',?_,hf',by omega⟩,?_⟩⟩
  ·rw[As0 hjl]
   exact hsm.add hA hfq
  ·show l.length-Int.toNat ((j:Int)+1)<l.length-Int.toNat (j:Int)
   omega
 ·have hj':j=l.length:=by omega
  subst hj'
  rw[List.take_length] at hsm
  have hlen:=hsm.len
  exact Ba0 (k:=k) hs (fun t ht=>((hsm.fit.mem ht).mono (by omega:a≤N)).sz hD hn1 hn2) (by omega) (by omega) fun s' W' hE' hf' hp'=>⟨s',rfl,fun W18 hE18=>⟨s',rfl,fun g' hg'=>Nat.le_trans h06 (hf' g' hg'),by rw[←hsm.norm];exact hp'.ext hE18⟩⟩
theorem Dt6 {W0:PW} {M:Nat→Prop} {s:Sl} {l:List Tm} {k:Nat} (h:Ab0 231 138 W0 s l) (hB:Bd k l) (hk:k≤536870912) (hl:l.length≤1073741824):
  Aa0 Tryz.prog 63 [s.v] W0 M fun v W'=>∃(s':Sl),v = .agg ⟨[Sl.v s']⟩∧Ab0 231 138 W' s' (Ag2 l):=by
 exact(Dd5 h hB hk hl).mono (fun _ h=>h) fun v W' _ ⟨s',hv,_,hp⟩=>⟨s',hv,hp.Ft4⟩
theorem An2 {W0 W:PW} {M:Nat→Prop} {s:Sl} {l:List Tm} {k:Nat} {K:Value→PW→Prop} (h:Ab0 231 138 W s l) (hB:Bd k l) (hk:k≤536870912) (hl:l.length≤1073741824) (kont: ∀(s':Sl) (W':PW),Ext W W'→(Ab0 231 138 W' s' (Ag2 l))→K (.agg ⟨[Sl.v s']⟩) W'):
  Aa1 Tryz.prog W0 M 63 [s.v] W K:=
 Aa2 (fun W' hE=>Dt6 (M:=fun _=>False) (h.ext hE) hB hk hl) (fun W' v W'' hE hE' hP=>by
  obtain⟨s',rfl,h⟩:=hP
  exact kont s' W'' (hE.trans hE') h)
theorem Bf5 {W:PW} {s:Sl} {xs:List (List Value)} {p:List Tm} (h:Row W 138 6 s xs) (ha:An5 (PT 231 W) xs p):Ab0 231 138 W s p:=⟨xs,h,ha⟩
theorem Dz6 {W0:PW} {M:Nat→Prop} {s:Sl} {xs:List (List Value)} (h:Row W0 138 6 s xs) (hl:xs.length≤1099511627776):
  Aa0 Tryz.prog 137 [s.v] W0 M fun v W'=>∃(s':Sl),v=Sl.v s'∧Aq4 W0 s'∧Go.SX.Own W' 138 6 s' xs:=by
 apply Ai9
 refine⟨fun hn W1 hE=>?_,fun hn=>⟨xs,⟨_,h⟩,by omega,fun s3 W4 hE4 hO hf W5 hE5=>⟨s3,rfl,fun g hg=>(hf g hg).1,by rw[List.nil_append] at hO;exact hO.ext hE5⟩⟩⟩
 have:xs = []:=Classical.byContradiction fun hne=>by
  have:=h.some hne
  rw[hn] at this
  cases this
 subst this
 exact⟨⟨none,0,0⟩,rfl,fun g hg=>by simp[Sl.v,Value.ownBlock] at hg,⟨by simp,rfl,.inl ⟨rfl,rfl⟩⟩,fun g hg=>by simp[Sl.v,Value.ownBlock] at hg⟩
theorem Cv0 {W0 W:PW} {M:Nat→Prop} {s:Sl} {xs:List (List Value)} {K:Value→PW→Prop} (h:Row W 138 6 s xs) (hl:xs.length≤1099511627776) (kont: ∀(s':Sl) (W':PW),Ext W W'→(Aq4 W s'∧Go.SX.Own W' 138 6 s' xs)→K (Sl.v s') W'):
  Aa1 Tryz.prog W0 M 137 [s.v] W K:=
 Aa2 (fun W' hE=>Dz6 (M:=fun _=>False) (h.ext hE) hl) (fun W' v W'' hE hE' hP=>by
  obtain⟨s',rfl,hf,h⟩:=hP
  exact kont s' W'' (hE.trans hE') ⟨hf.back hE,h⟩)
theorem Cv7 {W0:PW} {M:Nat→Prop} {s:Sl} {xs:List (List Value)} (h:Row W0 138 6 s xs) (hl:xs.length≤1099511627776):
  Aa0 Tryz.prog 66 [.agg ⟨[s.v]⟩] W0 M fun v W'=>∃(s':Sl),v=Sl.v s'∧Aq4 W0 s'∧Go.SX.Own W' 138 6 s' xs:=by
 apply Bc4
 exact Cv0 h hl fun s' W2 hE2 ⟨hf,hO⟩=>⟨s',rfl,fun W4 hE4=>⟨s',rfl,hf,hO.ext hE4⟩⟩
theorem Ba1 {W0 W:PW} {M:Nat→Prop} {s:Sl} {xs:List (List Value)} {K:Value→PW→Prop} (h:Row W 138 6 s xs) (hl:xs.length≤1099511627776) (kont: ∀(s':Sl) (W':PW),Ext W W'→(Aq4 W s'∧Go.SX.Own W' 138 6 s' xs)→K (Sl.v s') W'):
  Aa1 Tryz.prog W0 M 66 [.agg ⟨[s.v]⟩] W K:=
 Aa2 (fun W' hE=>Cv7 (M:=fun _=>False) (h.ext hE) hl) (fun W' v W'' hE hE' hP=>by
  obtain⟨s',rfl,hf,h⟩:=hP
  exact kont s' W'' (hE.trans hE') ⟨hf.back hE,h⟩)
theorem Cq4 {k:Nat} {m:Mon} {q:Rat} (h:Sz k q):Bd (k+3) [(m,q)]:=by
 have:=Bd.Co7 (k:=k) (l:=[(m,q)]) (by intro t ht;simp at ht;subst ht;exact h)
 exact this.mono (by simp)
def Da3 (i:Nat):Mon:=if i=0 then⟨1,0,0⟩ else if i=1 then⟨0,1,0⟩ else⟨0,0,1⟩
def Dc6 (i:Int):List Tm:=if 0≤i∧i<3 then[(Da3 i.toNat,1)] else[]
theorem Br8 (m:Mon):Ag2 [(m,(1:Rat))] = [(m,1)]:=by
 have:(1:Rat)≠0:=by decide
 simp[Ag2,Bg6,this]
theorem Dy3 {W0:PW} {M:Nat→Prop} {i:Int} :
  Aa0 Tryz.prog 44 [.int .i64 i] W0 M fun v W'=>∃(s':Sl),v = .agg ⟨[Sl.v s']⟩∧Ab0 231 138 W' s' (Dc6 i):=by
 apply Ct2
 refine⟨fun h W1 hE=>⟨⟨none,0,0⟩,rfl,?_⟩,fun h=>⟨fun h' W2 hE=>⟨⟨none,0,0⟩,rfl,?_⟩,fun h'=>⟨⟨by omega,by omega⟩,by omega,⟨⟨trivial,fun e=>?_⟩,fun e=>?_⟩,fun e=>?_⟩⟩⟩
 ·unfold Dc6;rw[if_neg (by omega)];exact Ab0.nil W1
 ·unfold Dc6;rw[if_neg (by omega)];exact Ab0.nil W2
 ·have hv:Dc6 i=Ag2 [(Da3 0,1)]:=by unfold Dc6;rw[if_pos (by omega),Br8,e]
  rw[hv]
  refine Ay8 (z:=1) (by unfold I64;omega) fun s5 b6 s7 W4 hE4 h4=>⟨s5,b6,s7,rfl,fun s8 W9 hE9 hO _=>?_⟩
  exact An2 (Bf5 (p:=[(Da3 0,1)]) hO.row ⟨⟨by decide,s5,b6,s7,rfl,h4.ext hE9⟩,trivial⟩) (Cq4 (Sz.one (Nat.le_refl 1))) (by omega) (by simp) fun s' W11 hE11 hp=>⟨s',rfl,fun W13 hE13=>⟨s',rfl,hp.ext hE13⟩⟩
 ·have hv:Dc6 i=Ag2 [(Da3 1,1)]:=by unfold Dc6;rw[if_pos (by omega),Br8,e]
  rw[hv]
  refine Ay8 (z:=1) (by unfold I64;omega) fun s5 b6 s7 W4 hE4 h4=>⟨s5,b6,s7,rfl,fun s8 W9 hE9 hO _=>?_⟩
  exact An2 (Bf5 (p:=[(Da3 1,1)]) hO.row ⟨⟨by decide,s5,b6,s7,rfl,h4.ext hE9⟩,trivial⟩) (Cq4 (Sz.one (Nat.le_refl 1))) (by omega) (by simp) fun s' W11 hE11 hp=>⟨s',rfl,fun W13 hE13=>⟨s',rfl,hp.ext hE13⟩⟩
 ·have hv:Dc6 i=Ag2 [(Da3 2,1)]:=by unfold Dc6;rw[if_pos (by omega),Br8,e]
  rw[hv]
  refine Ay8 (z:=1) (by unfold I64;omega) fun s5 b6 s7 W4 hE4 h4=>⟨s5,b6,s7,rfl,fun s8 W9 hE9 hO _=>?_⟩
  exact An2 (Bf5 (p:=[(Da3 2,1)]) hO.row ⟨⟨by decide,s5,b6,s7,rfl,h4.ext hE9⟩,trivial⟩) (Cq4 (Sz.one (Nat.le_refl 1))) (by omega) (by simp) fun s' W11 hE11 hp=>⟨s',rfl,fun W13 hE13=>⟨s',rfl,hp.ext hE13⟩⟩
theorem Cr4 {W0 W:PW} {M:Nat→Prop} {i:Int} {K:Value→PW→Prop} (kont: ∀(s':Sl) (W':PW),Ext W W'→(Ab0 231 138 W' s' (Dc6 i))→K (.agg ⟨[Sl.v s']⟩) W'):
  Aa1 Tryz.prog W0 M 44 [.int .i64 i] W K:=
 Aa2 (fun W' hE=>Dy3 (M:=fun _=>False) ) (fun W' v W'' hE hE' hP=>by
  obtain⟨s',rfl,h⟩:=hP
  exact kont s' W'' (hE.trans hE') h)
end Go.Proofs.YtokefihiadbkbaaGreatDoor
/- Layings of the library's generic functions, as the kit's command says them. -/
namespace Go.Proofs.YtokefihiadbkbaaGreatDoor
open Go Go.Shelf Go.Proofs
def Ay0:Go.Shelf.Ren:=⟨fun | 4=>139 | n=>n,fun | 22=>24 | 25=>138 | 3=>3 | 4=>4 | 9=>9 | 20=>20 | 0=>0 | n=>n,fun | n=>n⟩
theorem Fd7:Go.Proofs.Lays8.n4 Tryz.prog Ay0 where
 mixed:=by kernel_rfl
 f4:=⟨ "slices.Grow[[]cincture/poly.Term,cincture/poly.Term]",by decide,Tryz.func139.trans (congrArg some (by kernel_rfl))⟩
 t0:=Tryz.underlying0
 a0:=Tryz.isAgg0
 z0:=Tryz.sizeOf0
 v0:=Tryz.zeroValue0
 t3:=Tryz.underlying3
 a3:=Tryz.isAgg3
 z3:=Tryz.sizeOf3
 v3:=Tryz.zeroValue3
 t4:=Tryz.underlying4
 a4:=Tryz.isAgg4
 z4:=Tryz.sizeOf4
 v4:=Tryz.zeroValue4
 t9:=Tryz.underlying9
 a9:=Tryz.isAgg9
 z9:=Tryz.sizeOf9
 v9:=Tryz.zeroValue9
 t20:=Tryz.underlying20
 a20:=Tryz.isAgg20
 z20:=Tryz.sizeOf20
 v20:=Tryz.zeroValue20
 t22:=Tryz.underlying24
 a22:=Tryz.isAgg24
 z22:=Tryz.sizeOf24
 v22:=Tryz.zeroValue24
end Go.Proofs.YtokefihiadbkbaaGreatDoor
/- poly: slices.Grow, slices.Concat, Add, Scale, Sub. -/
namespace Go.Proofs.YtokefihiadbkbaaGreatDoor
open Go Go.SX
theorem Es1 {W0:PW} {M:Nat→Prop} {n:Nat} (hn:n≤1099511627776):
  Aa0 Tryz.prog 139 [.slice none 0 0,.int .i64 (n:Int)] W0 M fun v W'=>∃s:Sl,v=s.v∧Aq4 W0 s∧Go.SX.Own W' 138 6 s []:=by
 refine⟨⟨_,Tryz.func139,by kernel_rfl,by kernel_rfl⟩,fun hS=>?_⟩
 by_cases h0:n=0
 ·subst h0
  have h:=Proofs.Any8.slices_Grow_room Fd7 none 0 0 0 W0.w (Nat.le_refl _) (by omega) (by omega) (by omega)
  change Calls Tryz.prog 139 _ _ _ at h
  refine Calls.mono h ?_
  rintro e w' ⟨rfl,rfl⟩
  exact⟨_,rfl,Am7.refl _ _,⟨none,0,0⟩,rfl,fun g hg=>by simp[Sl.v,Value.ownBlock] at hg,⟨by simp,rfl,.inl ⟨rfl,rfl⟩⟩,fun g hg=>by simp[Sl.v,Value.ownBlock] at hg⟩
 ·obtain⟨⟨inf,hinf,hs1,hs2,hz⟩,_,_,hzs,_⟩:=Il2
  have hsz:inf.size=6:=hs1
  have hby:inf.bytes=64:=hs2
  have h:=Proofs.Any8.slices_Grow_grow Fd7 inf Iy4.zv hinf hz (by omega) none 0 0 n [] W0.w (Nat.le_refl _) (by omega) (by rw[hby];omega) (by omega) (by simp) (fun _=>rfl) (fun a ha=>by cases ha)
  have hg1:=grownCap_ge W0.w (0+n) 0 (Ay0.t 25)
  have hg2:=grownCap_le_maxLen W0.w (0+n) 0 (Ay0.t 25) (by simp only[maxLen];omega)
  obtain⟨G,hG⟩: ∃G,G=grownCap W0.w (0+n) 0 (Ay0.t 25):=⟨_,rfl⟩
  rw[←hG] at h hg1 hg2
  change Calls Tryz.prog 139 _ _ _ at h
  refine Calls.mono h ?_
  rintro e w' ⟨rfl,rfl⟩
  refine⟨_,rfl,(Am7.alloc M W0.w.drew _).Fr9,⟨some ⟨W0.w.heap.size,0,none⟩,0,G⟩,rfl,fun g hg=>?_,⟨by simp,rfl,.inr ⟨W0.w.heap.size,G,_,rfl,Nat.zero_le _,heap_alloc_new W0.w.drew _,Nat.zero_le _,hg2,?_,?_⟩⟩,fun g hg hs=>?_⟩
  ·simp[Sl.v,Value.ownBlock] at hg
   omega
  ·have hz6:Iy4.zv.cells.size=6:=rfl
   simp only[Array.size_append,size_zeroCells,hz6]
   simp
   omega
  ·simp
  ·simp[Sl.v,Value.ownBlock] at hg
   have:=hS g hs
   omega
end Go.Proofs.YtokefihiadbkbaaGreatDoor
/- poly: slices.Concat, Add, Scale, Sub. -/
namespace Go.Proofs.YtokefihiadbkbaaGreatDoor
open Go Go.SX
theorem Ep0 {W:PW} {t:TypeId} {s sp sq:Sl} (h:Row W t 1 s [[sp.v],[sq.v]]) {k:Nat} (hk:k<2):Aa7 W s 1 k 0 [(if k=0 then sp else sq).v]:=by
 rcases(by omega:k=0∨k=1) with rfl | rfl
 ·exact h.part (x:=[sp.v]) rfl 0 rfl
 ·exact h.part (x:=[sq.v]) rfl 0 rfl
def Fw4 (n0:Nat) (W0:PW) (p q:List Tm) (l:List PL) (W:PW):Prop:=match l with
 | [.val (.slice A n c),.val (.int .i64 i)]=>∃(k:Nat) (xs:List (List Value)),i=(k:Int)∧k≤2∧Eo1 n0 W0 W∧Go.SX.Own W 138 6 ⟨A,n,c⟩ xs∧(∀g,(Value.slice A n c).ownBlock=some g→n0≤g)∧An5 (PT 231 W) xs (if k=0 then[] else if k=1 then p else p ++ q)
 | _=>False
theorem Dh9 {W0:PW} {M:Nat→Prop} {s sp sq:Sl} {p q:List Tm} {ts:TypeId} (hs:Row W0 ts 1 s [[sp.v],[sq.v]]) (h1:Ab0 231 138 W0 sp p) (h2:Ab0 231 138 W0 sq q) (hp:p.length≤1073741824) (hq:q.length≤1073741824):
  Aa0 Tryz.prog 71 [s.v] W0 M fun v W'=>∃(s':Sl),v=Sl.v s'∧Ab0 231 138 W' s' (p ++ q):=by
 apply Ai2
 have hn:s.n=2:=hs.1
 have n1:=h1.n
 have n2:=h2.n
 refine⟨fun l W=>match l with
  | [.val (.int .i64 a),.val (.int .i64 i)]=>W=W0∧∃k:Nat,i=(k:Int)∧k≤2∧a=(((if 0<k then p.length else 0)+(if 1<k then q.length else 0):Nat):Int)
  | _=>False,fun l _=>match l with | [_,.val (.int .i64 i)]=>2-i.toNat | _=>0,⟨rfl,0,rfl,by omega,by simp⟩,?_⟩
 rintro i3 i4 W5 ⟨rfl,k,rfl,hk,rfl⟩
 refine⟨fun hlt=>?_,fun hge=>?_⟩
 ·have hk2:k<2:=by omega
  have hcn:(if k=0 then sp else sq).n=if k=0 then p.length else q.length:=by split<;>assumption
  refine⟨hs.inB (by omega) (by simp;omega),_,Ep0 hs hk2,?_,fun h=>?_,fun h=>⟨by unfold I64;omega,⟨rfl,k+1,by push_cast;rfl,by omega,?_⟩,?_⟩⟩
  ·show I64 (_+(((if k=0 then sp else sq).n:Nat):Int))
   rw[hcn]
   unfold I64
   repeat' split
   all_goals omega
  ·have h:(_:Int)+(((if k=0 then sp else sq).n:Nat):Int)<0:=h
   omega
  ·show _+(((if k=0 then sp else sq).n:Nat):Int)=_
   rw[hcn]
   rcases(by omega:k=0∨k=1) with rfl | rfl<;>simp
  ·show 2-Int.toNat ((k:Int)+1)<2-Int.toNat (k:Int)
   omega
 have hk2:k=2:=by omega
 subst hk2
 have hn0:(if 0<2 then p.length else 0)+(if 1<2 then q.length else 0)=p.length+q.length:=by simp
 rw[hn0]
 refine Aa2 (fun W' hE=>Es1 (M:=fun _=>False) (by omega)) fun W' v W8 hE hE8 hP=>?_
 obtain⟨s9,rfl,hf,hO⟩:=hP
 have hE08:=hE.trans hE8
 refine⟨s9,rfl,Fw4 W5.w.heap.size W5 p q,fun l _=>match l with | [_,.val (.int .i64 i)]=>2-i.toNat | _=>0,⟨0,[],rfl,by omega,hE08.toM _,hO,fun g hg=>Nat.le_trans hE.size (hf g hg),trivial⟩,?_⟩
 rintro s12 i13 W14 ⟨k,xs,rfl,hk,hEN,hO12,hfr,hall⟩
 have hO12:Go.SX.Own W14 138 6 s12 xs:=hO12
 have hfr: ∀g,s12.v.ownBlock=some g→W5.w.heap.size≤g:=hfr
 refine⟨fun hlt=>?_,fun hge W19 hE19=>⟨s12,rfl,?_⟩⟩
 ·have hk2:k<2:=by omega
  have hs14:=hs.new hEN (Nat.le_refl _)
  obtain⟨y1,r1,a1⟩:=h1.new hEN (Nat.le_refl _)
  obtain⟨y2,r2,a2⟩:=h2.new hEN (Nat.le_refl _)
  have hr:Row W14 138 6 (if k=0 then sp else sq) (if k=0 then y1 else y2):=by split<;>assumption
  have ha:An5 (PT 231 W14) (if k=0 then y1 else y2) (if k=0 then p else q):=by split<;>assumption
  have l1:=hall.len
  have l2:=ha.len
  refine⟨hs14.inB (by omega) (by simp;omega),_,Ep0 hs14 hk2,_,⟨_,hr⟩,fun W' hE'=>⟨xs,hO12.ext hE',fun g hg=>.inr (hfr g hg),?_,fun s' W'' hX hO' hob=>⟨by unfold I64;omega,⟨k+1,_,by push_cast;rfl,by omega,(hEN.trans (hE'.toM _)).trans (hX.mono fun g hg=>hfr g hg),hO',fun g hg=>?_,?_⟩,?_⟩⟩⟩
  ·rw[l1,l2]
   rcases(by omega:k=0∨k=1) with rfl | rfl
   ·simp;omega
   ·simp;omega
  ·rcases hob g hg with h | h
   ·exact hfr g h
   ·exact Nat.le_trans (Nat.le_trans hEN.size hE'.size) h
  ·have b1:=hall.mono fun _ _ h=>PT.own (hO12.ext hE') hX (by decide:231≠138) (h.ext hE')
   have b2:=ha.mono fun _ _ h=>PT.own (hO12.ext hE') hX (by decide:231≠138) (h.ext hE')
   have b3:=b1.append b2
   rcases(by omega:k=0∨k=1) with rfl | rfl
   ·simpa using b3
   ·simpa using b3
  ·show 2-Int.toNat ((k:Int)+1)<2-Int.toNat (k:Int)
   omega
 ·have hk2:k=2:=by omega
  subst hk2
  exact⟨xs,(hO12.ext hE19).row,(by simpa using hall:An5 (PT 231 W14) xs (p ++ q)).mono fun _ _ h=>h.ext hE19⟩
theorem Cn3 {W0 W:PW} {M:Nat→Prop} {s sp sq:Sl} {p q:List Tm} {ts:TypeId} {K:Value→PW→Prop} (hs:Row W ts 1 s [[sp.v],[sq.v]]) (h1:Ab0 231 138 W sp p) (h2:Ab0 231 138 W sq q) (hp:p.length≤1073741824) (hq:q.length≤1073741824) (kont: ∀(s':Sl) (W':PW),Ext W W'→(Ab0 231 138 W' s' (p ++ q))→K (Sl.v s') W'):
  Aa1 Tryz.prog W0 M 71 [s.v] W K:=
 Aa2 (fun W' hE=>Dh9 (M:=fun _=>False) (hs.ext hE) (h1.ext hE) (h2.ext hE) hp hq) (fun W' v W'' hE hE' hP=>by
  obtain⟨s',rfl,h⟩:=hP
  exact kont s' W'' (hE.trans hE') h)
theorem Dz0 {W0:PW} {M:Nat→Prop} {sp sq:Sl} {p q:List Tm} {k:Nat} (h1:Ab0 231 138 W0 sp p) (h2:Ab0 231 138 W0 sq q) (b1:Bd k p) (b2:Bd k q) (hk:k≤134217728) (hp:p.length≤536870912) (hq:q.length≤536870912):
  Aa0 Tryz.prog 19 [.agg ⟨[sp.v]⟩,.agg ⟨[sq.v]⟩] W0 M fun v W'=>∃(s':Sl),v = .agg ⟨[Sl.v s']⟩∧Ab0 231 138 W' s' (Ag2 (p ++ q)):=by
 apply Cw7
 intro s1 W2 hE2 hO _
 refine Cn3 hO.row (h1.ext hE2) (h2.ext hE2) (by omega) (by omega) fun s5 W4 hE4 h5=>⟨s5,rfl,?_⟩
 exact An2 h5 (b1.append b2) (by omega) (by simp;omega) fun s' W7 hE7 hp=>⟨s',rfl,fun W9 hE9=>⟨s',rfl,hp.ext hE9⟩⟩
theorem Cw8 {W0 W:PW} {M:Nat→Prop} {sp sq:Sl} {p q:List Tm} {k:Nat} {K:Value→PW→Prop} (h1:Ab0 231 138 W sp p) (h2:Ab0 231 138 W sq q) (b1:Bd k p) (b2:Bd k q) (hk:k≤134217728) (hp:p.length≤536870912) (hq:q.length≤536870912) (kont: ∀(s':Sl) (W':PW),Ext W W'→(Ab0 231 138 W' s' (Ag2 (p ++ q)))→K (.agg ⟨[Sl.v s']⟩) W'):
  Aa1 Tryz.prog W0 M 19 [.agg ⟨[sp.v]⟩,.agg ⟨[sq.v]⟩] W K:=
 Aa2 (fun W' hE=>Dz0 (M:=fun _=>False) (h1.ext hE) (h2.ext hE) b1 b2 hk hp hq) (fun W' v W'' hE hE' hP=>by
  obtain⟨s',rfl,h⟩:=hP
  exact kont s' W'' (hE.trans hE') h)
def pmap (p:List Tm) (r:Rat):List Tm:=p.map fun t=>(t.1,t.2*r)
theorem Fit.pmap {D E N n:Nat} {p:List Tm} {r:Rat} (h:Fit D N p) (hr:Ak3 E n r):Fit (D*E) (N*n) (pmap p r):=by
 induction p generalizing N with
 | nil=>trivial
 | cons t p ih=>
  obtain⟨a,b,h1,h2,h3⟩:=h
  exact⟨a*n,b*n,by rw[←Nat.add_mul];exact Nat.mul_le_mul_right _ h1,h2.mul hr,ih h3⟩
theorem Bd.pmap {k l:Nat} {p:List Tm} {r:Rat} (h:Bd k p) (hr:Sz l r):Bd (k+l) (pmap p r):=by
 obtain⟨D,N,h1,h2,h3,h4⟩:=h
 have e1:=Ae5 D r.den
 have e2:=Ae5 N r.num.natAbs
 have e3:=hr.1
 have e4:=hr.2
 exact⟨D*r.den,N*r.num.natAbs,Fit.pmap h1 (Ak3.den r),Nat.mul_ne_zero h2 r.den_nz,by omega,by omega⟩
theorem Cs2 {W0:PW} {M:Nat→Prop} {sp s t:Sl} {p:List Tm} {b:Bool} {r:Rat} {k l:Nat} (h1:Ab0 231 138 W0 sp p) (h2:Ab3 231 W0 s b t r) (b1:Bd k p) (b2:Sz l r) (hk:k≤134217728) (hl:l≤134217728) (hp:p.length≤1073741824):
  Aa0 Tryz.prog 43 [.agg ⟨[sp.v]⟩,.agg ⟨[s.v,.bool b,t.v]⟩] W0 M fun v W'=>∃(s':Sl),v = .agg ⟨[Sl.v s']⟩∧Ab0 231 138 W' s' (Ag2 (pmap p r)):=by
 apply Cb6
 have h1':=h1
 obtain⟨xs,hr,ha⟩:=h1'
 have hlen:=ha.len
 refine Ba1 hr (by omega) fun s3 W2 hE2 ⟨hf,hO⟩=>⟨s3,rfl,?_⟩
 refine⟨fun l W=>match l with
  | [.val (.int .i64 i)]=>∃(j:Nat) (ys:List (List Value)),i=(j:Int)∧j≤p.length∧Eo1 W0.w.heap.size W0 W∧Go.SX.Own W 138 6 s3 ys∧An5 (PT 231 W) ys (pmap (p.take j) r ++ p.drop j)
  | _=>False,fun l _=>match l with | [.val (.int .i64 i)]=>p.length-i.toNat | _=>0,⟨0,xs,rfl,by omega,hE2.toM _,hO,by simpa[pmap] using ha.mono fun _ _ h=>h.ext hE2⟩,?_⟩
 rintro i6 W7 ⟨j,ys,rfl,hj,hEN,hO7,ha7⟩
 have hn7:s3.n=p.length:=by rw[hO7.row.1,ha7.len];simp[pmap];omega
 refine⟨fun hlt=>?_,fun hge=>?_⟩
 ·have hjl:j<p.length:=by omega
  have hib:inB s3 (j:Int):=hO7.row.inB (by omega) (by rw[ha7.len];simp[pmap];omega)
  have hg:(pmap (p.take j) r ++ p.drop j)[j]?=some p[j]:=by
   rw[List.getElem?_append_right (by simp[pmap];omega),List.getElem?_drop]
   simp[pmap,Nat.min_eq_left (Nat.le_of_lt hjl),hjl]
  obtain⟨x,hx,h0,s8,b9,s10,rfl,hq⟩:=ha7.get hg
  refine⟨hib,s8,b9,s10,hO7.row.part hx 3 rfl,Ak9 hq (h2.new hEN (Nat.le_refl _)) (b1.sz _ (List.getElem_mem hjl)) b2 (by omega) (by omega) fun s13 b14 s15 W12 hE12 h12=>⟨s13,b14,s15,rfl,hib,?_⟩⟩
  refine Dm0 (j:=j) (hO7.ext hE12) hx (by simp) (fun u hu=>?_) (fun g hg=>.inr (hf g hg)) fun W'' g hgo hw hO''=>⟨by unfold I64;omega,⟨j+1,_,by push_cast;rfl,by omega,(hEN.trans (hE12.toM _)).trans (hw.Fi8 (hf g hgo)),hO'',?_⟩,?_⟩
  ·simp only[List.mem_cons,List.not_mem_nil,or_false] at hu
   rcases hu with rfl | rfl | rfl<;>rfl
  ·have hset:pmap (p.take (j+1)) r ++ p.drop (j+1)=(pmap (p.take j) r ++ p.drop j).set j (p[j].1,p[j].2*r):=by
    rw[As0 hjl,List.drop_eq_getElem_cons hjl]
    have hl:(pmap (p.take j) r).length=j:=by simp[pmap];omega
    rw[List.set_append_right _ _ (by omega),hl,Nat.sub_self,List.set_cons_zero,show pmap (p.take j ++ [p[j]]) r=pmap (p.take j) r ++ [(p[j].1,p[j].2*r)] from List.map_append,List.append_assoc]
    rfl
   rw[hset]
   exact(ha7.mono fun _ _ h=>(h.ext hE12).wr hw (by decide)).set j ⟨h0,s13,b14,s15,rfl,hw.rat h12 (by decide)⟩
  ·show p.length-Int.toNat ((j:Int)+1)<p.length-Int.toNat (j:Int)
   omega
 ·have hj':j=p.length:=by omega
  subst hj'
  rw[List.take_length,List.drop_length,List.append_nil] at ha7
  exact An2 (Bf5 hO7.row ha7) (Bd.pmap b1 b2) (by omega) (by simp[pmap];omega) fun s' W18 hE18 hp=>⟨s',rfl,fun W20 hE20=>⟨s',rfl,hp.ext hE20⟩⟩
theorem Cb0 {W0 W:PW} {M:Nat→Prop} {sp s t:Sl} {p:List Tm} {b:Bool} {r:Rat} {k l:Nat} {K:Value→PW→Prop} (h1:Ab0 231 138 W sp p) (h2:Ab3 231 W s b t r) (b1:Bd k p) (b2:Sz l r) (hk:k≤134217728) (hl:l≤134217728) (hp:p.length≤1073741824) (kont: ∀(s':Sl) (W':PW),Ext W W'→(Ab0 231 138 W' s' (Ag2 (pmap p r)))→K (.agg ⟨[Sl.v s']⟩) W'):
  Aa1 Tryz.prog W0 M 43 [.agg ⟨[sp.v]⟩,.agg ⟨[s.v,.bool b,t.v]⟩] W K:=
 Aa2 (fun W' hE=>Cs2 (M:=fun _=>False) (h1.ext hE) (h2.ext hE) b1 b2 hk hl hp) (fun W' v W'' hE hE' hP=>by
  obtain⟨s',rfl,h⟩:=hP
  exact kont s' W'' (hE.trans hE') h)
theorem Ew2 (p:List Tm) (r:Rat):(pmap p r).length=p.length:=by simp[pmap]
theorem Ec4 {W0:PW} {M:Nat→Prop} {sp sq:Sl} {p q:List Tm} {k:Nat} (h1:Ab0 231 138 W0 sp p) (h2:Ab0 231 138 W0 sq q) (b1:Bd k p) (b2:Bd k q) (hk:k≤67108864) (hp:p.length≤536870912) (hq:q.length≤536870912):
  Aa0 Tryz.prog 59 [.agg ⟨[sp.v]⟩,.agg ⟨[sq.v]⟩] W0 M fun v W'=>∃(s':Sl),v = .agg ⟨[Sl.v s']⟩∧Ab0 231 138 W' s' (Ag2 (p ++ pmap q (-1))):=by
 apply Cs5
 refine Ay8 (z:=-1) (by unfold I64;omega) fun s3 b4 s5 W2 hE2 h2'=>⟨s3,b4,s5,rfl,?_⟩
 have hm1:((-1:Int):Rat) = -1:=by rfl
 have hz:Sz 1 ((-1:Int):Rat):=by rw[hm1];exact(Sz.one (Nat.le_refl 1)).neg
 refine Cb0 (h2.ext hE2) h2' b2 hz (by omega) (by omega) (by omega) fun s8 W7 hE7 h8=>⟨s8,rfl,?_⟩
 have hlen:=El2 (pmap q ((-1:Int):Rat))
 rw[Ew2] at hlen
 refine Cw8 (h1.ext (hE2.trans hE7)) h8 (b1.mono (by omega:k≤k+1)) (Bd.norm (Bd.pmap b2 hz)) (by omega) (by omega) (by omega) fun s11 W10 hE10 h11=>⟨s11,rfl,fun W12 hE12=>⟨s11,rfl,?_⟩⟩
 have e:Ag2 (p ++ Ag2 (pmap q ((-1:Int):Rat)))=Ag2 (p ++ pmap q (-1)):=Bc1 fun m=>by rw[Au2,Au2,Bh2,hm1]
 rw[←e]
 exact h11.ext hE12
theorem Db2 {W0 W:PW} {M:Nat→Prop} {sp sq:Sl} {p q:List Tm} {k:Nat} {K:Value→PW→Prop} (h1:Ab0 231 138 W sp p) (h2:Ab0 231 138 W sq q) (b1:Bd k p) (b2:Bd k q) (hk:k≤67108864) (hp:p.length≤536870912) (hq:q.length≤536870912) (kont: ∀(s':Sl) (W':PW),Ext W W'→(Ab0 231 138 W' s' (Ag2 (p ++ pmap q (-1))))→K (.agg ⟨[Sl.v s']⟩) W'):
  Aa1 Tryz.prog W0 M 59 [.agg ⟨[sp.v]⟩,.agg ⟨[sq.v]⟩] W K:=
 Aa2 (fun W' hE=>Ec4 (M:=fun _=>False) (h1.ext hE) (h2.ext hE) b1 b2 hk hp hq) (fun W' v W'' hE hE' hP=>by
  obtain⟨s',rfl,h⟩:=hP
  exact kont s' W'' (hE.trans hE') h)
end Go.Proofs.YtokefihiadbkbaaGreatDoor
/- poly: Mul, Plain. -/
namespace Go.Proofs.YtokefihiadbkbaaGreatDoor
open Go Go.SX
def Ct4 (p q:List Tm):Prop:=∀a∈p,∀b∈q,(a.1.add b.1).ok
instance (p q:List Tm):Decidable (Ct4 p q):=by unfold Ct4;infer_instance
def Fm8 (p q:List Tm):List Tm:=if Ct4 p q then Ag2 (An8 p q) else[]
def Ev4 (a:Tm) (q:List Tm):List Tm:=q.map fun b=>(a.1.add b.1,a.2*b.2)
theorem Dl0 (p:List Tm) (a:Tm) (q:List Tm):An8 (p ++ [a]) q=An8 p q ++ Ev4 a q:=by simp[An8,Ev4]
theorem Df7 (p:List Tm) (a:Tm) (q:List Tm):An8 (a :: p) q=Ev4 a q ++ An8 p q:=rfl
theorem Bg4 {D a:Nat} {l l' E:List Tm} (h:Dp6 D l a E) (e:l=l'):Dp6 D l' a E:=e ▸ h
def Fo9 (g:Nat) (sp sq:Sl) (p q:List Tm) (D N:Nat) (l:List PL) (W:PW):Prop:=match l with
 | [.val (.int .i64 i),_]=>∃j:Nat,i=(j:Int)∧j≤p.length∧Ab0 231 138 W sp p∧Ab0 231 138 W sq q∧Ct4 (p.take j) q∧∃es c E a b,Ai4 231 W g es c E∧Dp6 D (An8 (p.take j) q) a E∧Fit D b (An8 (p.drop j) q)∧a+b≤N
 | _=>False
def Fp5 (g j:Nat) (sp sq:Sl) (p q:List Tm) (t:Tm) (D N:Nat) (l:List PL) (W:PW):Prop:=match l with
 | [.val (.int .i64 i),_]=>∃k:Nat,i=(k:Int)∧k≤q.length∧Ab0 231 138 W sp p∧Ab0 231 138 W sq q∧(∀b∈q.take k,(t.1.add b.1).ok)∧(∃s1 b1 s2,Ab3 231 W s1 b1 s2 t.2)∧∃es c E a b,Ai4 231 W g es c E∧Dp6 D (An8 (p.take j) q ++ Ev4 t (q.take k)) a E∧Fit D b (Ev4 t (q.drop k) ++ An8 (p.drop (j+1)) q)∧a+b≤N
 | _=>False
def cn1 (n:Nat) (l:List PL) (W:PW):Nat:=match l with
 | .val (.int .i64 i) :: _=>n-i.toNat
 | _=>0
theorem Dx5 {W0:PW} {M:Nat→Prop} {sp sq:Sl} {p q:List Tm} {k:Nat} (h1:Ab0 231 138 W0 sp p) (h2:Ab0 231 138 W0 sq q) (b1:Bd k p) (b2:Bd k q) (hk:k≤134217728) (hp:p.length≤1073741824) (hq:q.length≤1073741824) (hpq:p.length*q.length≤1073741824):
  Aa0 Tryz.prog 58 [.agg ⟨[sp.v]⟩,.agg ⟨[sq.v]⟩] W0 M fun v W'=>∃(s':Sl),v = .tuple ⟨[.agg ⟨[Sl.v s']⟩,.bool (decide (Ct4 p q))]⟩∧Ab0 231 138 W' s' (Fm8 p q):=by
 apply Dc0
 intro g W2 hE2 _ hg hS hh
 obtain⟨D,N,hF,hD,hn1,hn2⟩:=b1.Ff3 b2
 have hk1:1≤k+k:=Nat.le_trans (Fc3 hD) hn1
 refine⟨Fo9 g sp sq p q D N,cn1 p.length,⟨0,rfl,by omega,h1.ext hE2,h2.ext hE2,fun a ha=>by simp at ha,#[],0,[],0,N,Ai4.new hS hh,Dp6.nil D,hF,by omega⟩,?_⟩
 rintro s5 i6 W7 ⟨j,rfl,hj,hP,hQ,hok,es,c,E,a,b,hs,hsm,hf,hab⟩
 have np:=hP.n
 refine⟨fun hlt=>?_,fun hge=>?_⟩
 ·have hjl:j<p.length:=by omega
  obtain⟨h0,s1,d1,s2,he,_,_,hr⟩:=hP.at (List.getElem?_eq_getElem hjl)
  rw[List.drop_eq_getElem_cons hjl,Df7] at hf
  refine⟨hP.inB (by omega) (by omega),_,_,_,s1,d1,s2,he,fun l W=>Fp5 g j sp sq p q p[j] D N l W∧Ab3 231 W s1 d1 s2 p[j].2,cn1 q.length,⟨⟨0,rfl,by omega,hP,hQ,fun b hb=>by simp at hb,⟨s1,d1,s2,hr⟩,es,c,E,a,b,hs,Bg4 hsm (by simp[Ev4]),hf,hab⟩,hr⟩,?_⟩
  rintro s16 i17 W18 ⟨⟨k',rfl,hk',hP',hQ',hok',_,es',c',E',a',b',hs',hsm',hf',hab'⟩,hr'⟩
  have nq:=hQ'.n
  refine⟨fun hlt'=>?_,fun hge'=>⟨by unfold I64;omega,⟨j+1,by push_cast;rfl,by omega,hP',hQ',?_,es',c',E',a',b',hs',?_,?_,hab'⟩,?_⟩⟩
  ·have hkl:k'<q.length:=by omega
   obtain⟨h0',s3,d3,s4,he',_,_,hr3⟩:=hQ'.at (List.getElem?_eq_getElem hkl)
   refine⟨hQ'.inB (by omega) (by omega),_,_,_,s3,d3,s4,he',Cs6 h0 h0' fun W26 hE26 _=>⟨_,_,_,_,rfl,fun hno W31 hE31=>?_,fun hyes=>?_⟩⟩
   ·have hno:¬(p[j].1.add q[k'].1).ok:=by simpa using hno
    have hM:¬Ct4 p q:=fun h=>hno (h _ (List.getElem_mem hjl) _ (List.getElem_mem hkl))
    refine⟨⟨none,0,0⟩,?_,?_⟩
    ·rw[decide_eq_false hM]
    ·unfold Fm8
     rw[if_neg hM]
     exact Ab0.nil W31
   ·have hyes:(p[j].1.add q[k'].1).ok:=by simpa using hyes
    have hmm:mulMon p[j].1 q[k'].1=p[j].1.add q[k'].1:=by unfold mulMon;rw[if_pos hyes]
    rw[hmm]
    rw[List.drop_eq_getElem_cons hkl] at hf'
    obtain⟨n,m,hnm,hfq,hf''⟩:=hf'
    refine Ak9 (hr'.ext hE26) (hr3.ext hE26) (b1.sz _ (List.getElem_mem hjl)) (b2.sz _ (List.getElem_mem hkl)) (by omega) (by omega) fun s34 d35 s36 W33 hE33 h33=>⟨s34,d35,s36,rfl,?_⟩
    have hE:=hE26.trans hE33
    refine Bj5 (k:=k+k) (m:=p[j].1.add q[k'].1) (hs'.ext hE) hyes h33 (fun t ht=>((hsm'.fit.mem ht).mono (by omega:a'≤N)).sz hD hn1 hn2) ((hfq.mono (by omega:n≤N)).sz hD hn1 hn2) (by omega) hk1 (.inr hg) fun W' W'' es2 c2 E2 hE' hX hs2 hs3 hA=>⟨rfl,by unfold I64;omega,⟨⟨k'+1,by push_cast;rfl,by omega,(hP'.ext (hE.trans hE')).map hX hs2.heap,(hQ'.ext (hE.trans hE')).map hX hs2.heap,?_,⟨s1,d1,s2,(hr'.ext (hE.trans hE')).map hX hs2.heap⟩,es2,c2,E2,a'+n,m,hs3,?_,hf'',by omega⟩,(hr'.ext (hE.trans hE')).map hX hs2.heap⟩,?_⟩
    ·intro b hb
     rw[As0 hkl] at hb
     rcases List.mem_append.1 hb with hb | hb
     ·exact hok' b hb
     ·simp at hb;subst hb;exact hyes
    ·refine Bg4 (hsm'.add hA hfq) ?_
     rw[As0 hkl,show Ev4 p[j] (q.take k' ++ [q[k']])=Ev4 p[j] (q.take k') ++ [(p[j].1.add q[k'].1,p[j].2*q[k'].2)] from List.map_append,List.append_assoc]
    ·show q.length-Int.toNat ((k':Int)+1)<q.length-Int.toNat (k':Int)
     omega
  ·intro a ha b hb
   rw[As0 hjl] at ha
   rcases List.mem_append.1 ha with ha | ha
   ·exact hok a ha b hb
   ·simp at ha;subst ha
    have:k'=q.length:=by omega
    subst this
    rw[List.take_length] at hok'
    exact hok' b hb
  ·have:k'=q.length:=by omega
   subst this
   refine Bg4 hsm' ?_
   rw[List.take_length,As0 hjl,Dl0]
  ·have:k'=q.length:=by omega
   subst this
   simpa[Ev4] using hf'
  ·show p.length-Int.toNat ((j:Int)+1)<p.length-Int.toNat (j:Int)
   omega
 ·have hj':j=p.length:=by omega
  subst hj'
  rw[List.take_length] at hsm hok
  have hlen:=hsm.len
  rw[Eb1] at hlen
  refine Ch8 (k:=k+k) hs (fun t ht=>((hsm.fit.mem ht).mono (by omega:a≤N)).sz hD hn1 hn2) (by omega) (by omega) fun s' W' hE' hp'=>⟨s',rfl,fun W18 hE18=>⟨s',?_,?_⟩⟩
  ·rw[decide_eq_true hok]
  ·unfold Fm8
   rw[if_pos hok,←hsm.norm]
   exact hp'.ext hE18
theorem Ct0 {W0 W:PW} {M:Nat→Prop} {sp sq:Sl} {p q:List Tm} {k:Nat} {K:Value→PW→Prop} (h1:Ab0 231 138 W sp p) (h2:Ab0 231 138 W sq q) (b1:Bd k p) (b2:Bd k q) (hk:k≤134217728) (hp:p.length≤1073741824) (hq:q.length≤1073741824) (hpq:p.length*q.length≤1073741824) (kont: ∀(s':Sl) (W':PW),Ext W W'→(Ab0 231 138 W' s' (Fm8 p q))→K (.tuple ⟨[.agg ⟨[Sl.v s']⟩,.bool (decide (Ct4 p q))]⟩) W'):
  Aa1 Tryz.prog W0 M 58 [.agg ⟨[sp.v]⟩,.agg ⟨[sq.v]⟩] W K:=
 Aa2 (fun W' hE=>Dx5 (M:=fun _=>False) (h1.ext hE) (h2.ext hE) b1 b2 hk hp hq hpq) (fun W' v W'' hE hE' hP=>by
  obtain⟨s',rfl,h⟩:=hP
  exact kont s' W'' (hE.trans hE') h)
end Go.Proofs.YtokefihiadbkbaaGreatDoor
/- cinctureref1: Degree, MonoCmp, MonoMul; put, PolyOf. -/
namespace Go.Proofs.YtokefihiadbkbaaGreatDoor
open Go Go.SX
theorem Da6 {W0:PW} {M:Nat→Prop} {m:Mon} (hm:m.ok):
  Aa0 Tryz.prog 175 [.agg ⟨[.int .u8 m.x,.int .u8 m.y,.int .u8 m.z]⟩] W0 M fun v W'=>v = .int .i64 m.deg∧True:=by
 apply Bs4
 unfold Mon.ok at hm
 exact⟨⟨by omega,by omega⟩,by unfold I64;omega,⟨by omega,by omega⟩,by unfold I64;omega,by unfold I64;omega,⟨by omega,by omega⟩,by unfold I64;omega,by unfold I64;omega,fun W1 _=>⟨rfl,trivial⟩⟩
theorem Al9 {W0 W:PW} {M:Nat→Prop} {m:Mon} {K:Value→PW→Prop} (hm:m.ok) (kont: ∀(W':PW),Ext W W'→(True)→K (.int .i64 m.deg) W'):
  Aa1 Tryz.prog W0 M 175 [.agg ⟨[.int .u8 m.x,.int .u8 m.y,.int .u8 m.z]⟩] W K:=
 Aa2 (fun W' hE=>Da6 (M:=fun _=>False) hm) (fun W' v W'' hE hE' hP=>by
  obtain⟨rfl,h⟩:=hP
  exact kont W'' (hE.trans hE') h)
theorem Ck7 {W0:PW} {M:Nat→Prop} {a b:Mon} (ha:a.ok) (hb:b.ok):
  Aa0 Tryz.prog 118 [.agg ⟨[.int .u8 a.x,.int .u8 a.y,.int .u8 a.z]⟩,.agg ⟨[.int .u8 b.x,.int .u8 b.y,.int .u8 b.z]⟩] W0 M fun v W'=>v = .int .i64 (a.cmp b)∧True:=by
 apply Bn9
 refine Al9 ha fun W2 _ _=>⟨_,rfl,Al9 hb fun W5 hE5 _=>⟨_,rfl,fun hne=>?_,fun heq=>?_⟩⟩
 ·refine Al9 ha fun W8 _ _=>⟨_,rfl,Al9 hb fun W11 _ _=>⟨_,rfl,fun h W13 _=>⟨?_,trivial⟩,fun h W14 _=>⟨?_,trivial⟩⟩⟩
  ·rw[Ch0];unfold As4;rw[if_pos h];simp
  ·rw[Ch0];unfold As4;rw[if_neg h,if_neg hne];simp
 ·have hdeg:a.deg=b.deg:=by omega
  have hcm:a.cmp b=Ey8 a b:=by rw[Ch0];unfold As4;simp[hdeg]
  rw[hcm]
  refine⟨fun l W=>match l with | [.val (.int .i64 i)]=>∃k:Nat,i=(k:Int)∧k≤3∧∀j,j<k→An6 a j=An6 b j | _=>False,fun l _=>match l with | [.val (.int .i64 i)]=>3-i.toNat | _=>0,⟨0,rfl,by omega,fun j hj=>by omega⟩,?_⟩
  rintro i17 W18 ⟨k,rfl,hk,hj⟩
  refine⟨fun hlt=>?_,fun hge W25 _=>⟨?_,trivial⟩⟩
  ·have hk3:k<3:=by omega
   have hr:(0:Int)≤(k:Int)∧(k:Int)<3:=⟨by omega,by omega⟩
   have ba:=Aw0 a hk3 _ _ _ rfl rfl rfl
   have bb:=Aw0 b hk3 _ _ _ rfl rfl rfl
   refine⟨hr,_,ba,hr,_,bb,fun h W21 _=>⟨?_,trivial⟩,fun h=>⟨hr,_,ba,hr,_,bb,fun h' W24 _=>⟨?_,trivial⟩,fun h'=>⟨by unfold I64;omega,⟨k+1,by push_cast;rfl,by omega,fun j hjk=>?_⟩,?_⟩⟩⟩
   ·rw[Dh1 hk3 hj (by omega)];unfold As4;rw[if_pos h]
   ·rw[Dh1 hk3 hj (by omega)];unfold As4;rw[if_neg h,if_neg (by omega)]
   ·by_cases e:j=k
    ·subst e;omega
    ·exact hj j (by omega)
   ·show 3-Int.toNat ((k:Int)+1)<3-Int.toNat (k:Int)
    omega
  ·have:k=3:=by omega
   subst this
   rw[Eq5 hj]
theorem Bx0 {W0 W:PW} {M:Nat→Prop} {a b:Mon} {K:Value→PW→Prop} (ha:a.ok) (hb:b.ok) (kont: ∀(W':PW),Ext W W'→(True)→K (.int .i64 (a.cmp b)) W'):
  Aa1 Tryz.prog W0 M 118 [.agg ⟨[.int .u8 a.x,.int .u8 a.y,.int .u8 a.z]⟩,.agg ⟨[.int .u8 b.x,.int .u8 b.y,.int .u8 b.z]⟩] W K:=
 Aa2 (fun W' hE=>Ck7 (M:=fun _=>False) ha hb) (fun W' v W'' hE hE' hP=>by
  obtain⟨rfl,h⟩:=hP
  exact kont W'' (hE.trans hE') h)
def Kp5 (a b:Mon) (l:List PL):Prop:=match l with
 | [.val (.int .i64 i),_,.cells [.int .u8 x,.int .u8 y,.int .u8 z]]=>∃k:Nat,i=(k:Int)∧k≤3∧x=(if 0<k then a.x+b.x else 0)∧y=(if 1<k then a.y+b.y else 0)∧z=(if 2<k then a.z+b.z else 0)∧∀j,j<k→An6 a j+An6 b j≤255
 | _=>False
theorem Kg3 {W0:PW} {M:Nat→Prop} {a b:Mon} (ha:a.ok) (hb:b.ok):
  Aa0 Tryz.prog 198 [.agg ⟨[.int .u8 a.x,.int .u8 a.y,.int .u8 a.z]⟩,.agg ⟨[.int .u8 b.x,.int .u8 b.y,.int .u8 b.z]⟩] W0 M fun v W'=>v = .tuple ⟨[.agg ⟨[.int .u8 (mulMon a b).x,.int .u8 (mulMon a b).y,.int .u8 (mulMon a b).z]⟩,.bool (decide (a.add b).ok)]⟩∧True:=by
 apply Kc9
 refine⟨fun l W=>Kp5 a b l,fun l _=>match l with | [.val (.int .i64 i),_,_]=>3-i.toNat | _=>0,⟨0,rfl,by omega,rfl,rfl,rfl,fun j hj=>by omega⟩,?_⟩
 rintro i3 i4 i5 i6 i7 i8 i9 W10 ⟨k,rfl,hk,hx,hy,hz,hj⟩
 refine⟨fun hlt=>?_,fun hge W15 _=>⟨?_,trivial⟩⟩
 ·have hk3:k<3:=by omega
  have ea:=Dg9 ha k
  have eb:=Dg9 hb k
  have ba:=Aw0 a hk3 _ _ _ rfl rfl rfl
  have bb:=Aw0 b hk3 _ _ _ rfl rfl rfl
  have hr:(0:Int)≤(k:Int)∧(k:Int)<3:=⟨by omega,by omega⟩
  refine⟨hr,_,ba,by unfold I64;omega,hr,_,bb,by unfold I64;omega,by unfold I64;omega,fun h255 W13 _=>⟨?_,trivial⟩,fun hle=>⟨hr,_,ba,hr,_,bb,hr,by omega,⟨⟨trivial,fun h0=>?_⟩,fun h1=>?_⟩,fun h2=>?_⟩⟩
  ·have:=Dv9 h255
   rw[decide_eq_false this]
   unfold mulMon
   rw[if_neg this]
  all_goals
   have hw:IntKind.wrap .u8 (An6 a k+An6 b k)=An6 a k+An6 b k:=Du1 (by omega) (by omega)
   rw[hw]
   have hkk:Int.toNat (k:Int)=k:=by omega
   rw[hkk] at *
  ·subst h0
   refine⟨by unfold I64;omega,⟨1,rfl,by omega,by simp[An6],by simpa using hy,by simpa using hz,fun j h=>?_⟩,by show 3-Int.toNat (((0:Nat):Int)+1)<3-Int.toNat ((0:Nat):Int);omega⟩
   have:j=0:=by omega
   subst this;omega
  ·subst h1
   refine⟨by unfold I64;omega,⟨2,rfl,by omega,by simpa using hx,by simp[An6],by simpa using hz,fun j h=>?_⟩,by show 3-Int.toNat (((1:Nat):Int)+1)<3-Int.toNat ((1:Nat):Int);omega⟩
   rcases(by omega:j=0∨j=1) with rfl | rfl
   ·exact hj 0 (by omega)
   ·omega
  ·subst h2
   refine⟨by unfold I64;omega,⟨3,rfl,by omega,by simpa using hx,by simpa using hy,by simp[An6],fun j h=>?_⟩,by show 3-Int.toNat (((2:Nat):Int)+1)<3-Int.toNat ((2:Nat):Int);omega⟩
   rcases(by omega:j<2∨j=2) with h | rfl
   ·exact hj j h
   ·omega
 ·have:k=3:=by omega
  subst this
  have h0:=hj 0 (by omega)
  have h1:=hj 1 (by omega)
  have h2:=hj 2 (by omega)
  simp[An6] at h0 h1 h2 hx hy hz
  have hok:(a.add b).ok:=by
   unfold Mon.ok at ha hb
   unfold Mon.ok Mon.add
   dsimp only
   omega
  rw[decide_eq_true hok]
  unfold mulMon
  rw[if_pos hok,hx,hy,hz]
  rfl
theorem Ke2 {W0 W:PW} {M:Nat→Prop} {a b:Mon} {K:Value→PW→Prop} (ha:a.ok) (hb:b.ok) (kont: ∀(W':PW),Ext W W'→(True)→K (.tuple ⟨[.agg ⟨[.int .u8 (mulMon a b).x,.int .u8 (mulMon a b).y,.int .u8 (mulMon a b).z]⟩,.bool (decide (a.add b).ok)]⟩) W'):
  Aa1 Tryz.prog W0 M 198 [.agg ⟨[.int .u8 a.x,.int .u8 a.y,.int .u8 a.z]⟩,.agg ⟨[.int .u8 b.x,.int .u8 b.y,.int .u8 b.z]⟩] W K:=
 Aa2 (fun W' hE=>Kg3 (M:=fun _=>False) ha hb) (fun W' v W'' hE hE' hP=>by
  obtain⟨rfl,h⟩:=hP
  exact kont W'' (hE.trans hE') h)
end Go.Proofs.YtokefihiadbkbaaGreatDoor
/- cinctureref1: put, PolyOf. -/
namespace Go.Proofs.YtokefihiadbkbaaGreatDoor
open Go Go.SX
theorem Ce0 {α:Type} {l:List α} {j:Nat} (h:j<l.length):l.take (j+1)=l.take j ++ [l[j]]:=by
 rw[List.take_add_one,List.getElem?_eq_getElem h];rfl
theorem Hi3 {a b:Mon} :([Value.int .u8 a.x,.int .u8 a.y,.int .u8 a.z] = [.int .u8 b.x,.int .u8 b.y,.int .u8 b.z])↔a=b:=by
 constructor
 ·intro h
  simp only[List.cons.injEq,Value.int.injEq,true_and,and_true] at h
  exact Mon.Fp2 h.1 h.2.1 h.2.2
 ·rintro rfl;rfl
theorem Ds0 {z:Int} :By8 z=0↔z=0:=by
 unfold By8
 split
 ·constructor<;>intro h<;>omega
 ·split
  ·simp_all
  ·constructor<;>intro h<;>omega
theorem Ds5 {q:Rat} :q.num=0↔q=0:=Rat.num_eq_zero
theorem Hr4 {W:PW} {t:TypeId} {sz:Nat} {s:Sl} {xs:List (List Value)} (h:Row W t sz s xs):(s.n:Int)≤(s.c:Int):=by
 have:=h.2.1
 omega
def Hs3 (W0:PW) (p:List Tm) (m:Mon) (l:List PL) (W:PW):Prop:=match l with
 | [.val (.int .i64 i)]=>∃j:Nat,i=(j:Int)∧j≤p.length∧Ext W0 W∧∀t∈p.take j,t.1.lt m
 | _=>False
def Hs4 (W0:PW) (p:List Tm) (m:Mon) (l:List PL) (W:PW):Prop:=match l with
 | [.val (.int .i64 i)]=>∃j:Nat,i=(j:Int)∧j≤p.length∧Ext W0 W∧(∀t∈p.take j,t.1.lt m)∧∀t∈(p.drop j).head?,¬t.1.lt m
 | _=>False
theorem Hd3 {p:List Tm} {t:Tm} {j:Nat} (hj:j≤p.length) (h: ∀x∈p.take j,x.1.lt t.1) (h2: ∀x∈(p.drop j).head?,¬x.1.lt t.1) (hne: ∀x∈(p.drop j).head?,x.1≠t.1):Bg6 p t=if t.2=0 then p else p.take j ++ t :: p.drop j:=by
 rw[Hp3 hj h]
 cases hd:p.drop j with
 | nil=>
  rw[Bg6]
  split
  ·have:=List.take_append_drop j p
   rw[hd] at this
   exact this
  ·rfl
 | cons e r=>
  rw[hd] at h2 hne
  rw[Bg6,if_neg (h2 e (by simp)),if_neg (hne e (by simp))]
  split
  ·rw[←hd,List.take_append_drop]
  ·rfl
theorem Ho3 {W0:PW} {M:Nat→Prop} {sp s s':Sl} {p:List Tm} {m:Mon} {b:Bool} {q:Rat} {k:Nat} (hp:Ag1 231 142 W0 sp p) (hq:Ab6 231 W0 b s s' q) (hm:m.ok) (hs: ∀t∈p,Sz k t.2) (hz:Sz k q) (hk:k≤100000000) (hl:p.length≤1073741824):
  Aa0 Tryz.prog 62 [sp.v,.agg ⟨[.int .u8 m.x,.int .u8 m.y,.int .u8 m.z,.bool b,s.v,s'.v]⟩] W0 M fun v W'=>∃(s2:Sl),v=Sl.v s2∧Ag1 231 142 W' s2 (Bg6 p (m,q)):=by
 apply Hi1
 have hn:=hp.n
 have hc:(sp.n:Int)≤(sp.c:Int):=let⟨_,h,_⟩:=hp;Hr4 h
 refine⟨Hs4 W0 p m,⟨Hs3 W0 p m,fun l _=>match l with | [.val (.int .i64 i)]=>p.length-i.toNat | _=>0,⟨0,rfl,by omega,Ext.refl _,fun t ht=>by simp at ht⟩,?_⟩,?_⟩
 ·rintro i4 W5 ⟨j,rfl,hj,hE5,hlt⟩
  refine⟨fun hjn=>?_,fun hge=>⟨j,rfl,hj,hE5,hlt,fun t ht=>?_⟩⟩
  ·have hjl:j<p.length:=by omega
   obtain⟨h0,b1,s1,s2,_,e2,_,_⟩:=(hp.ext hE5).at (List.getElem?_eq_getElem hjl)
   refine⟨(hp.ext hE5).inB (by omega) (by omega),_,_,_,e2,Bx0 h0 hm fun W10 hE10 _=>⟨_,rfl,fun hneg=>⟨by unfold I64;omega,⟨j+1,by push_cast;rfl,by omega,hE5.trans hE10,fun t ht=>?_⟩,?_⟩,fun hnn=>⟨j,rfl,hj,hE5.trans hE10,hlt,fun t ht=>?_⟩⟩⟩
   ·rw[Ce0 hjl] at ht
    rcases List.mem_append.1 ht with ht | ht
    ·exact hlt t ht
    ·simp at ht;subst ht;exact Mon.Dm2.1 hneg
   ·show p.length-Int.toNat ((j:Int)+1)<p.length-Int.toNat (j:Int)
    omega
   ·rw[List.drop_eq_getElem_cons hjl] at ht
    have ht:some p[j]=some t:=ht
    have ht:=Option.some.inj ht
    subst ht
    exact fun h=>hnn (Mon.Dm2.2 h)
  ·rw[List.drop_eq_nil_of_le (by omega)] at ht
   simp at ht
 rintro i12 W13 ⟨j,rfl,hj,hE13,hlt,hge⟩
 refine⟨fun hjn=>?_,fun hjn=>?_⟩
 ·have hjl:j<p.length:=by omega
  have hib:=(hp.ext hE13).inB (i:=(j:Int)) (by omega) (by omega)
  obtain⟨h0,b1,s1,s2,_,e2,e3,hr⟩:=(hp.ext hE13).at (List.getElem?_eq_getElem hjl)
  refine⟨hib,_,_,_,e2,fun heq=>⟨hib,b1,s1,s2,e3,?_⟩,fun hneq=>?_⟩
  ·have hmm:p[j].1=m:=Hi3.1 heq
   have hpp:Bg6 p (m,q)=p.take j ++ (if p[j].2+q=0 then p.drop (j+1) else(p[j].1,p[j].2+q) :: p.drop (j+1)):=by
    rw[Hp3 hj hlt,List.drop_eq_getElem_cons hjl,Bg6,if_neg (hge _ (by rw[List.drop_eq_getElem_cons hjl];rfl)),if_pos hmm]
   refine Bj7 hr (hq.ext hE13) (hs _ (List.getElem_mem hjl)) hz (by omega) (by omega) fun b22 s23 s24 W21 hE21 h21=>⟨b22,s23,s24,rfl,?_⟩
   obtain⟨ys,r1,a1⟩:=hp.ext (hE13.trans hE21)
   have hyl:=a1.len
   refine⟨ys,⟨_,r1⟩,by omega,Aq7 h21.1 fun W27 hE27 _=>⟨_,rfl,fun hz0=>?_,fun hnz=>?_⟩⟩
   ·have hq0:p[j].2+q=0:=Ds5.1 (Ds0.1 hz0)
    have r3:=(r1.ext hE27).cut (lo:=j+1) (hi:=sp.n) (by omega) (by omega)
    refine⟨by unfold I64;omega,⟨by omega,by omega,by omega⟩,⟨by omega,by omega⟩,_,⟨_,r3⟩,by simp;omega,fun s30 W31 hE31 hO _ W32 hE32=>⟨s30,rfl,?_⟩⟩
    rw[hpp,if_pos hq0]
    refine⟨_,(hO.ext hE32).row,?_⟩
    have a2:=a1.mono fun _ _ h=>h.ext (hE27.trans (hE31.trans hE32))
    have hd:ys.take sp.n=ys:=List.take_of_length_le (by omega)
    rw[hd]
    exact(a2.take j).append (a2.drop (j+1))
   ·have hq0:¬p[j].2+q=0:=fun e=>hnz (Ds0.2 (Ds5.2 e))
    refine⟨⟨by omega,by omega⟩,by show j<_;omega,fun s33 W34 hE34 hO _ W35 hE35=>⟨s33,rfl,?_⟩⟩
    rw[hpp,if_neg hq0]
    have hset:p.take j ++ (p[j].1,p[j].2+q) :: p.drop (j+1)=p.set j (p[j].1,p[j].2+q):=by
     rw[List.set_eq_take_append_cons_drop,if_pos hjl]
    rw[hset]
    refine⟨_,(hO.ext hE35).row,?_⟩
    have a2:=a1.mono fun _ _ h=>h.ext (hE27.trans (hE34.trans hE35))
    obtain⟨x,hx,h0',b',sx,sy,rfl,hr'⟩:=a2.get (List.getElem?_eq_getElem hjl)
    have hgx:ys.getD j [] = [.int .u8 p[j].1.x,.int .u8 p[j].1.y,.int .u8 p[j].1.z,.bool b',sx.v,sy.v]:=by
     rw[List.getD_eq_getElem?_getD,hx];rfl
    show An5 _ (ys.set j (patch (ys.getD j []) 3 _)) _
    rw[hgx]
    exact a2.set j ⟨h0,b22,s23,s24,rfl,h21.ext (hE27.trans (hE34.trans hE35))⟩
  ·have hmm:¬p[j].1=m:=fun e=>hneq (Hi3.2 e)
   have hne: ∀x∈(p.drop j).head?,x.1≠m:=by
    rw[List.drop_eq_getElem_cons hjl]
    intro x hx
    have hx:some p[j]=some x:=hx
    have hx:=Option.some.inj hx
    subst hx
    exact hmm
   refine Aq7 (hq.ext hE13).1 fun W53 hE53 _=>⟨_,rfl,fun h0 W55 hE55=>⟨sp,rfl,?_⟩,fun h0=>⟨⟨by omega,by omega,by omega⟩,⟨by omega,by omega,by omega⟩,?_⟩⟩
   ·have hq0:q=0:=Ds5.1 (Ds0.1 h0)
    rw[Hd3 hj hlt hge hne,if_pos hq0]
    exact hp.ext (hE13.trans (hE53.trans hE55))
   ·have hq0:¬q=0:=fun e=>h0 (Ds0.2 (Ds5.2 e))
    obtain⟨ys,r1,a1⟩:=hp.ext (hE13.trans hE53)
    have hyl:=a1.len
    have r2:=r1.cut (lo:=0) (hi:=j) (Nat.zero_le _) (by omega)
    have r3:=r1.cut (lo:=j) (hi:=sp.n) (by omega) (by omega)
    refine Fc8 ?_ 1
    refine⟨_,⟨_,r2⟩,by simp;omega,by simp;omega,_,⟨_,r3⟩,by simp;omega,fun s58 W59 hE59 hO _ W60 hE60=>⟨s58,rfl,?_⟩⟩
    rw[Hd3 hj hlt hge hne,if_neg hq0]
    refine⟨_,(hO.ext hE60).row,?_⟩
    have a2:=a1.mono fun _ _ h=>h.ext (hE59.trans hE60)
    have hd:ys.take sp.n=ys:=List.take_of_length_le (by omega)
    rw[List.drop_zero,hd,List.append_assoc]
    exact(a2.take j).append ⟨⟨hm,b,s,s',rfl,hq.ext (hE13.trans (hE53.trans (hE59.trans hE60)))⟩,a2.drop j⟩
 ·have hne: ∀x∈(p.drop j).head?,x.1≠m:=by
   rw[List.drop_eq_nil_of_le (by omega)]
   intro x hx
   simp at hx
  refine Aq7 (hq.ext hE13).1 fun W53 hE53 _=>⟨_,rfl,fun h0 W55 hE55=>⟨sp,rfl,?_⟩,fun h0=>⟨⟨by omega,by omega,by omega⟩,⟨by omega,by omega,by omega⟩,?_⟩⟩
  ·have hq0:q=0:=Ds5.1 (Ds0.1 h0)
   rw[Hd3 hj hlt hge hne,if_pos hq0]
   exact hp.ext (hE13.trans (hE53.trans hE55))
  ·have hq0:¬q=0:=fun e=>h0 (Ds0.2 (Ds5.2 e))
   obtain⟨ys,r1,a1⟩:=hp.ext (hE13.trans hE53)
   have hyl:=a1.len
   have r2:=r1.cut (lo:=0) (hi:=j) (Nat.zero_le _) (by omega)
   have r3:=r1.cut (lo:=j) (hi:=sp.n) (by omega) (by omega)
   refine Fc8 ?_ 1
   refine⟨_,⟨_,r2⟩,by simp;omega,by simp;omega,_,⟨_,r3⟩,by simp;omega,fun s58 W59 hE59 hO _ W60 hE60=>⟨s58,rfl,?_⟩⟩
   rw[Hd3 hj hlt hge hne,if_neg hq0]
   refine⟨_,(hO.ext hE60).row,?_⟩
   have a2:=a1.mono fun _ _ h=>h.ext (hE59.trans hE60)
   have hd:ys.take sp.n=ys:=List.take_of_length_le (by omega)
   rw[List.drop_zero,hd,List.append_assoc]
   exact(a2.take j).append ⟨⟨hm,b,s,s',rfl,hq.ext (hE13.trans (hE53.trans (hE59.trans hE60)))⟩,a2.drop j⟩
theorem Hd1 {W0 W:PW} {M:Nat→Prop} {sp s s':Sl} {p:List Tm} {m:Mon} {b:Bool} {q:Rat} {k:Nat} {K:Value→PW→Prop} (hp:Ag1 231 142 W sp p) (hq:Ab6 231 W b s s' q) (hm:m.ok) (hs: ∀t∈p,Sz k t.2) (hz:Sz k q) (hk:k≤100000000) (hl:p.length≤1073741824) (kont: ∀(s2:Sl) (W':PW),Ext W W'→(Ag1 231 142 W' s2 (Bg6 p (m,q)))→K (Sl.v s2) W'):
  Aa1 Tryz.prog W0 M 62 [sp.v,.agg ⟨[.int .u8 m.x,.int .u8 m.y,.int .u8 m.z,.bool b,s.v,s'.v]⟩] W K:=
 Aa2 (fun W' hE=>Ho3 (M:=fun _=>False) (hp.ext hE) (hq.ext hE) hm hs hz hk hl) (fun W' v W'' hE hE' hP=>by
  obtain⟨s2,rfl,h⟩:=hP
  exact kont s2 W'' (hE.trans hE') h)
end Go.Proofs.YtokefihiadbkbaaGreatDoor
/- cinctureref1: PolyOf, PolyPlain; poly.Plain; book.SameTerms, law8.Is. -/
namespace Go.Proofs.YtokefihiadbkbaaGreatDoor
open Go Go.SX
def cnL (n:Nat) (l:List PL) (W:PW):Nat:=match l with
 | [_,.val (.int .i64 i)]=>n-i.toNat
 | _=>0
end Go.Proofs.YtokefihiadbkbaaGreatDoor
/- cincturelaw8.alive. -/
namespace Go.Proofs.YtokefihiadbkbaaGreatDoor
open Go Go.SX
theorem Fn8:Sz 1 (-1:Rat):=(Sz.one (Nat.le_refl 1)).neg
theorem Fl0:Sz 1 (1:Rat):=Sz.one (Nat.le_refl 1)
theorem En2:Bd 7 (Dc6 0):=(Cq4 (m:=Da3 0) Fl0).mono (by decide)
end Go.Proofs.YtokefihiadbkbaaGreatDoor
