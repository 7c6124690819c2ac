/- cinctureref1.Half, cinctureref1.Matrix. -/
import Derived.Test.YthpmkcidkcmlgaaGreatW16
import Derived.Test.YthpmkcidkcmlgaaGreatW19
import Derived.Test.YthpmkcidkcmlgaaGreatLib4
import Derived.Test.YthpmkcidkcmlgaaGreatR15
import Derived.Test.YthpmkcidkcmlgaaGreatW17
import Derived.Test.YthpmkcidkcmlgaaGreatW18
import Derived.Test.YthpmkcidkcmlgaaGreatW15
set_option linter.unusedVariables false
set_option linter.unusedSimpArgs false
set_option maxRecDepth 100000
set_option linter.unusedVariables false
set_option linter.unusedSimpArgs false
namespace Go.Proofs.YthpmkcidkcmlgaaGreat
open Go Go.SX
theorem sz_half:Sz 1 ((1:Rat)/2):=by
 have:(1:Rat)/2=mkRat 1 2:=by decide +kernel
 rw[this]
 exact Sz.mk (Nat.le_of_eq nl_one) (nl_le (by decide)) (by decide)
theorem half_mul (q:Rat):q*(1/2)=q/2:=by grind
theorem refHalf_ok {W0:PW} {M:Nat→Prop} {s t:Sl} {b:Bool} {q:Rat} {k:Nat} (h:IsRefQ 317 W0 b s t q) (hq:Sz k q) (hk:k≤500000000):
  PCallsM Go.Proofs.Tryz.prog 89 [.agg ⟨[.bool b,s.v,t.v]⟩] W0 M fun v W'=>∃(c:Bool),∃(r:Sl),∃(u:Sl),v = .agg ⟨[.bool c,Sl.v r,Sl.v u]⟩∧IsRefQ 317 W' c r u (q/2):=by
 apply callref1_Half
 refine refIntOf_call (z:=1) (by unfold I64;omega) fun b3 s4 W2 hE2 h2=>⟨b3,s4,rfl,refNatOf_call (x:=2) (by decide) fun s7 W6 hE6 h6=>⟨s7,rfl,?_⟩⟩
 have hd:((1:Rat)/2).num=1∧((1:Rat)/2).den=2:=by decide +kernel
 have hh:IsRefQ 317 W6 b3 s4 s7 ((1:Rat)/2):=⟨by rw[hd.1];exact h2.ext hE6,.inl (by rw[hd.2];exact h6)⟩
 exact refQMul_call (h.ext (hE2.trans hE6)) hh hq sz_half (by omega) (by omega) fun b10 s11 s12 W9 hE9 h9=>⟨b10,s11,s12,rfl,fun W13 hE13=>⟨_,_,_,rfl,by rw[←half_mul];exact h9.ext hE13⟩⟩
theorem refHalf_call {W0 W:PW} {M:Nat→Prop} {s t:Sl} {b:Bool} {q:Rat} {k:Nat} {K:Value→PW→Prop} (h:IsRefQ 317 W b s t q) (hq:Sz k q) (hk:k≤500000000) (kont: ∀(c:Bool) (r:Sl) (u:Sl) (W':PW),Ext W W'→(IsRefQ 317 W' c r u (q/2))→K (.agg ⟨[.bool c,Sl.v r,Sl.v u]⟩) W'):
  callN Go.Proofs.Tryz.prog W0 M 89 [.agg ⟨[.bool b,s.v,t.v]⟩] W K:=
 callN_of (fun W' hE=>refHalf_ok (M:=fun _=>False) (h.ext hE) hq hk) (fun W' v W'' hE hE' hP=>by
  obtain⟨c,r,u,rfl,h⟩:=hP
  exact kont c r u W'' (hE.trans hE') h)
theorem putRPoly {tu tt tq:TypeId} {N:Nat→Prop} {W W':PW} {s:Sl} {p:List Tm} (h:Put tq N W W') (hp:IsRPoly tu tt W s p) (h1:tt≠tq) (h2:tu≠tq):IsRPoly tu tt W' s p:=
 let⟨g,_,hw⟩:=h;let⟨xs,k1,k2⟩:=hp
 ⟨xs,hw.row k1 h1,k2.mono fun _ _ ⟨h0,b,s1,s2,e1,e2⟩=>⟨h0,b,s1,s2,e1,hw.rq e2 h2⟩⟩
theorem pl_lt {m:Mon} : ∀{v:Nat},∀x∈pl m v,0≤x∧x<(v:Int)
 | 0,x,h=>by simp[pl] at h
 | v+1,x,h=>by
  rw[pl,List.mem_append] at h
  rcases h with h | h
  ·have:=pl_lt x h
   omega
  ·have:=(List.mem_replicate.1 h).2
   omega
theorem pl_end {m:Mon} {n:Nat} (hm:m.ok) (hn:n≤3) (hv:varsM m≤n):pl m n=pl m 3:=by
 unfold Mon.ok at hm
 unfold varsM at hv
 rcases(by omega:n=0∨n=1∨n=2∨n=3) with rfl | rfl | rfl | rfl
 ·have h1:m.x=0:=by(repeat' split at hv)<;>omega
  have h2:m.y=0:=by(repeat' split at hv)<;>omega
  have h3:m.z=0:=by(repeat' split at hv)<;>omega
  simp[pl,eget,h1,h2,h3]
 ·have h2:m.y=0:=by(repeat' split at hv)<;>omega
  have h3:m.z=0:=by(repeat' split at hv)<;>omega
  simp[pl,eget,h2,h3]
 ·have h3:m.z=0:=by(repeat' split at hv)<;>omega
  simp[pl,eget,h3]
 ·rfl
def rxI (W0:PW) (r:Nat) (L:List PL) (W:PW):Prop:=match L with
 | [.row l,.val (.int .i64 i)]=>Ext W0 W∧∃(k:Nat) (ss:List Sl),i=(k:Int)∧k≤r∧ss.length=k∧l=(ss.map fun x=>[x.v])∧ORows 317 92 (W0.w.heap.size≤·) W ss r fun _ _=>0
 | _=>False
def rxJ (W0:PW) (ss:List Sl) (s:Sl) (p:List Tm) (n:Nat) (L:List PL) (W:PW):Prop:=match L with
 | [.val (.int .i64 i)]=>∃k:Nat,i=(k:Int)∧k≤p.length∧ExtN W0.w.heap.size W0 W∧IsRPoly 317 195 W s p∧ORows 317 92 (W0.w.heap.size≤·) W ss (n+1) (gmat n (p.take k))
 | _=>False
def rxV (W0:PW) (m:Mon) (n:Nat) (L:List PL) (W:PW):Prop:=match L with
 | [.val (.int .i64 a),.val (.int .i64 b),.val (.int .i64 i)]=>∃v:Nat,i=(v:Int)∧v≤n∧Ext W0 W∧a=(pl m v).getD 0 (n:Int)∧b=(pl m v).getD 1 (n:Int)
 | _=>False
def rxE (W0:PW) (m:Mon) (n v:Nat) (L:List PL) (W:PW):Prop:=match L with
 | [.val (.int .i64 a),.val (.int .i64 b),.val (.int .i64 i)]=>∃(e:Nat) (l:List Int),i=(e:Int)∧e≤(eget m v).toNat∧Ext W0 W∧l=pl m v ++ List.replicate e (v:Int)∧a=l.getD 0 (n:Int)∧b=l.getD 1 (n:Int)
 | _=>False
def rx3 (n:Nat) (L:List PL) (_:PW):Nat:=match L with
 | [_,_,.val (.int .i64 i)]=>n-i.toNat
 | _=>0
theorem refMatrix_ok {W0:PW} {M:Nat→Prop} {s:Sl} {p:List Tm} {n:Int} {k:Nat} (h:IsRPoly 317 195 W0 s p) (hG:PGood p) (hz: ∀t∈p,Sz k t.2) (hk:k≤100000000):
  PCallsM Go.Proofs.Tryz.prog 15 [s.v,.int .i64 n] W0 M fun v W'=>∃(s':Sl),∃(b:Bool),v = .tuple ⟨[Sl.v s',.bool b]⟩∧(b=true↔GmOK p n)∧(b=true→IsRMat 317 92 193 W' s' (n.toNat+1) (fun _=>n.toNat+1) (gmat n.toNat p))∧(b=false→s'=⟨none,0,0⟩):=by
 apply callref1_Matrix
 have hl:=PGood.len hG h.ok
 have hn:=h.n
 have bad:¬GmOK p n→∀W':PW,∃(s':Sl) (b:Bool),(Value.tuple ⟨[.slice none 0 0,.bool false]⟩) = .tuple ⟨[Sl.v s',.bool b]⟩∧(b=true↔GmOK p n)∧(b=true→IsRMat 317 92 193 W' s' (n.toNat+1) (fun _=>n.toNat+1) (gmat n.toNat p))∧(b=false→s'=⟨none,0,0⟩):=
  fun hN W'=>⟨⟨none,0,0⟩,false,rfl,⟨fun e=>(by cases e),fun e=>absurd e hN⟩,fun e=>(by cases e),fun _=>rfl⟩
 refine⟨fun h1 W1 _=>bad (fun e=>by have:=e.1;omega) W1,fun h1=>⟨fun h3 W2 _=>bad (fun e=>by have:=e.2.1;omega) W2,fun h3=>?_⟩⟩
 refine refPolyDegree_call h (by omega) fun W4 hE4 _=>⟨_,rfl,?_⟩
 refine⟨fun hd W6 _=>bad (fun e=>by have:=e.2.2.1;omega) W6,fun hd=>?_⟩
 refine refPolyVars_call (h.ext hE4) (by omega) fun W8 hE8 _=>⟨_,rfl,fun hv W10 _=>bad (fun e=>by have:=e.2.2.2;omega) W10,fun hv=>?_⟩
 have hOK:GmOK p n:=⟨by omega,by omega,by omega,by omega⟩
 obtain⟨c,rfl⟩:=Int.eq_ofNat_of_zero_le (show 0≤n by omega)
 rw[show Int.toNat ((c:Int)+1)=c+1 by omega,Int.toNat_natCast]
 refine⟨rxI W0 (c+1),fun L _=>match L with | [_,.val (.int .i64 i)]=>c+1-i.toNat | _=>0,⟨hE4.trans hE8,0,[],rfl,Nat.zero_le _,rfl,rfl,ORows.nil⟩,?_⟩
 rintro l13 i14 W15 ⟨hE15,j0,ss,rfl,hkr,hsl,rfl,hQ⟩
 refine⟨fun hlt=>⟨by unfold I64;omega,⟨rfl,by omega,by omega⟩,fun s16 W17 hE17 hO hf=>⟨by simp;omega,by unfold I64;omega,⟨hE15.trans hE17,j0+1,ss ++ [s16],by push_cast;rfl,by omega,by simp[hsl],by simp,?_⟩,?_⟩⟩,fun hge=>?_⟩
 ·exact hQ.snoc hE17 hO (fun g hg=>hf g hg) (rqs_zero W17 (c+1))
 ·show c+1-Int.toNat ((j0:Int)+1)<c+1-Int.toNat (j0:Int)
  omega
 have hkc:j0=c+1:=by omega
 subst hkc
 refine⟨rxJ W0 ss s p c,fun L _=>match L with | [.val (.int .i64 i)]=>p.length-i.toNat | _=>0,⟨0,rfl,Nat.zero_le _,hE15.toM _,h.ext hE15,hQ⟩,?_⟩
 clear hQ
 rintro i20 W21 ⟨j,rfl,hj,hE21,h21,hQ⟩
 refine⟨fun hlt=>?_,fun hge s60 W61 hE61 hO61 _ W62 hE62=>⟨s60,true,rfl,⟨fun _=>hOK,fun _=>rfl⟩,fun _=>?_,fun e=>(by cases e)⟩⟩
 ·have hjl:j<p.length:=by omega
  have hmem:=List.getElem_mem hjl
  have hk0:p[j].1.ok:=h21.ok _ hmem
  have hdj:p[j].1.deg≤2:=by have:=(le_maxf (w:=Mon.deg) (n:=-1) (p:=p)).2 _ hmem;omega
  have hvj:varsM p[j].1≤c:=by have:=(le_maxf (w:=varsM) (n:=0) (p:=p)).2 _ hmem;omega
  refine⟨rxV W21 p[j].1 c,rx3 c,⟨0,rfl,Nat.zero_le _,Ext.refl _,rfl,rfl⟩,?_⟩
  rintro i24 i25 i26 W27 ⟨v,rfl,hvc,hE27,rfl,rfl⟩
  refine⟨fun hlt2=>?_,fun hge2=>?_⟩
  ·have hv3:v<3:=by omega
   have hlen:=pl_len hk0 hdj v hv3
   have hek:=eget_ok hk0 v
   refine⟨rxE W27 p[j].1 c v,rx3 ((eget p[j].1 v).toNat),⟨0,pl p[j].1 v,rfl,Nat.zero_le _,Ext.refl _,by simp,rfl,rfl⟩,?_⟩
   rintro i30 i31 i32 W33 ⟨e,l,rfl,he,hE33,hl',rfl,rfl⟩
   have hP:=h21.ext (hE27.trans hE33)
   have hel:ElemAt W33 s 6 j (0+Int.toNat (v:Int)*1) [.int .u8 (eget p[j].1 v)]:=by
    obtain⟨ys,r1,a1⟩:=hP
    obtain⟨x,hx,_,d,e,f,rfl,_⟩:=a1.get (List.getElem?_eq_getElem hjl)
    rcases(by omega:v=0∨v=1∨v=2) with rfl | rfl | rfl
    ·exact r1.part hx 0 rfl
    ·exact r1.part hx 1 rfl
    ·exact r1.part hx 2 rfl
   have hll:l.length=(pl p[j].1 v).length+e:=by rw[hl'];simp
   have hsn:l ++ [(v:Int)]=pl p[j].1 v ++ List.replicate (e+1) (v:Int):=by rw[hl',List.replicate_succ',List.append_assoc]
   refine⟨hP.inB (by omega) (by omega),⟨by omega,by omega⟩,_,hel,by unfold I64;omega,fun hlte=>⟨fun h0=>⟨by unfold I64;omega,⟨e+1,l ++ [(v:Int)],by push_cast;rfl,by omega,hE33,hsn,?_,?_⟩,?_⟩,fun h0=>⟨by unfold I64;omega,⟨e+1,l ++ [(v:Int)],by push_cast;rfl,by omega,hE33,hsn,?_,?_⟩,?_⟩⟩,fun hgee=>⟨by unfold I64;omega,⟨v+1,by push_cast;rfl,by omega,hE27.trans hE33,?_,?_⟩,?_⟩⟩
   ·exact(snoc_get0 v c (by
     cases l with
     | nil=>rfl
     | cons x r=>
      exfalso
      have hx:x∈pl p[j].1 v ++ List.replicate e (v:Int):=by rw[←hl'];simp
      have hxc:x<(c:Int):=by
       rcases List.mem_append.1 hx with hx | hx
       ·have:=pl_lt x hx;omega
       ·have:=(List.mem_replicate.1 hx).2;omega
      have h0:x=(c:Int):=h0
      omega)).1.symm
   ·exact(snoc_get0 v c (by
     cases l with
     | nil=>rfl
     | cons x r=>
      exfalso
      have hx:x∈pl p[j].1 v ++ List.replicate e (v:Int):=by rw[←hl'];simp
      have hxc:x<(c:Int):=by
       rcases List.mem_append.1 hx with hx | hx
       ·have:=pl_lt x hx;omega
       ·have:=(List.mem_replicate.1 hx).2;omega
      have h0:x=(c:Int):=h0
      omega)).2.symm
   ·show(eget p[j].1 v).toNat-Int.toNat ((e:Int)+1)<(eget p[j].1 v).toNat-Int.toNat (e:Int)
    omega
   ·have hl1:l.length=1:=by
     have:l.length≠0:=fun e0=>h0 (by rw[List.eq_nil_of_length_eq_zero e0];rfl)
     omega
    exact(snoc_get1 v c hl1).1.symm
   ·have hl1:l.length=1:=by
     have:l.length≠0:=fun e0=>h0 (by rw[List.eq_nil_of_length_eq_zero e0];rfl)
     omega
    exact(snoc_get1 v c hl1).2.symm
   ·show(eget p[j].1 v).toNat-Int.toNat ((e:Int)+1)<(eget p[j].1 v).toNat-Int.toNat (e:Int)
    omega
   ·have:e=(eget p[j].1 v).toNat:=by omega
    subst this
    rw[show pl p[j].1 (v+1)=l by rw[hl'];rfl]
   ·have:e=(eget p[j].1 v).toNat:=by omega
    subst this
    rw[show pl p[j].1 (v+1)=l by rw[hl'];rfl]
   ·show c-Int.toNat ((v:Int)+1)<c-Int.toNat (v:Int)
    omega
  ·have:v=c:=by omega
   subst this
   rw[pl_end hk0 (by omega) hvj]
   have ea:=pa_eq hk0 hvj
   have eb:=pb_eq hk0 hvj
   rw[ea.1,eb.1]
   obtain⟨a,hae⟩: ∃a,pa p[j].1 v=a:=⟨_,rfl⟩
   obtain⟨d,hde⟩: ∃d,pb p[j].1 v=d:=⟨_,rfl⟩
   rw[hae] at ea
   rw[hde] at eb
   rw[hae,hde]
   have hal:a<ss.length:=by omega
   have hdl:d<ss.length:=by omega
   have hal':a<v+1:=ea.2
   have hdl':d<v+1:=eb.2
   have hmu:p.length-Int.toNat ((j:Int)+1)<p.length-Int.toNat (j:Int):=by omega
   have hll:(ss.map fun x:Sl=>[x.v]).length=ss.length:=List.length_map _
   have hP:=h21.ext hE27
   obtain⟨_,b1,s1,s2,_,_,e3,hq⟩:=hP.at (List.getElem?_eq_getElem hjl)
   have fin: ∀q:Rat,q=(if a≠d then p[j].2/2 else p[j].2)→setM (setM (gmat v (p.take j)) a d q) d a q=gmat v (p.take (j+1)):=by
    rintro q rfl
    rw[take_snocR hjl]
    unfold gmat
    rw[List.foldl_append,List.foldl_cons,List.foldl_nil,gset,hae,hde]
   refine⟨fun heq=>?_,fun hne=>?_⟩
   ·have had:a=d:=by omega
    subst had
    refine⟨⟨by omega,by omega⟩,ss[a],own_at hal,hP.inB (by omega) (by omega),b1,s1,s2,e3,(hQ.ext hE27).inB hal hal',?_⟩
    refine ORows.store (hQ.ext hE27) hal hal' hq (by decide) (fun g hg=>.inr hg) fun W39 hp39 hQ39=>⟨by unfold I64;omega,⟨j+1,by push_cast;rfl,by omega,(hE21.trans (hE27.toM _)).trans (hp39.extN fun g hg=>hg),putRPoly hp39 hP (by decide) (by decide),?_⟩,hmu⟩
    rw[←fin _ rfl,if_neg (fun e=>e rfl)]
    have:setM (setM (gmat v (p.take j)) a a p[j].2) a a p[j].2=setM (gmat v (p.take j)) a a p[j].2:=by
     funext x y
     unfold setM
     split<;>rfl
    rw[this]
    exact hQ39
   ·refine⟨⟨by omega,by omega⟩,ss[a],own_at hal,⟨by omega,by omega⟩,ss[d],own_at hdl,hP.inB (by omega) (by omega),b1,s1,s2,e3,hP.inB (by omega) (by omega),b1,s1,s2,e3,?_⟩
    refine refHalf_call hq (hz _ hmem) (by omega) fun b50 s51 s52 W49 hE49 h49=>⟨b50,s51,s52,rfl,hE49,refHalf_call (hq.ext hE49) (hz _ hmem) (by omega) fun b55 s56 s57 W54 hE54 h54=>⟨b55,s56,s57,rfl,?_⟩⟩
    have hE:=(hE27.trans hE49).trans hE54
    refine⟨(hQ.ext hE).inB hal hdl',?_⟩
    refine ORows.store (hQ.ext hE) hal hdl' (h49.ext hE54) (by decide) (fun g hg=>.inr hg) fun W58 hp58 hQ58=>⟨hQ58.inB hdl hal',?_⟩
    refine ORows.store hQ58 hdl hal' (hp58.rq h54 (by decide)) (by decide) (fun g hg=>.inr hg) fun W59 hp59 hQ59=>⟨by unfold I64;omega,⟨j+1,by push_cast;rfl,by omega,((hE21.trans (hE.toM _)).trans (hp58.extN fun g hg=>hg)).trans (hp59.extN fun g hg=>hg),putRPoly hp59 (putRPoly hp58 (h21.ext hE) (by decide) (by decide)) (by decide) (by decide),?_⟩,hmu⟩
    rw[←fin _ rfl,if_pos (fun e=>hne (by rw[e]))]
    exact hQ59
 ·have:j=p.length:=by omega
  subst this
  rw[List.take_length] at hQ
  exact(((hQ.ext hE61).ext hE62).mat (by omega) ((hO61.ext hE62).row)).mat
theorem refMatrix_call {W0 W:PW} {M:Nat→Prop} {s:Sl} {p:List Tm} {n:Int} {k:Nat} {K:Value→PW→Prop} (h:IsRPoly 317 195 W s p) (hG:PGood p) (hz: ∀t∈p,Sz k t.2) (hk:k≤100000000) (kont: ∀(s':Sl) (b:Bool) (W':PW),Ext W W'→((b=true↔GmOK p n)∧(b=true→IsRMat 317 92 193 W' s' (n.toNat+1) (fun _=>n.toNat+1) (gmat n.toNat p))∧(b=false→s'=⟨none,0,0⟩))→K (.tuple ⟨[Sl.v s',.bool b]⟩) W'):
  callN Go.Proofs.Tryz.prog W0 M 15 [s.v,.int .i64 n] W K:=
 callN_of (fun W' hE=>refMatrix_ok (M:=fun _=>False) (h.ext hE) hG hz hk) (fun W' v W'' hE hE' hP=>by
  obtain⟨s',b,rfl,h⟩:=hP
  exact kont s' b W'' (hE.trans hE') h)
end Go.Proofs.YthpmkcidkcmlgaaGreat

/- mat.Plain, cinctureref1.MatPlain; cincturebook.SameTexts, SameRows; cincturelaw11.Is, cincturelaw10.Is. -/
set_option maxRecDepth 100000
set_option linter.unusedVariables false
set_option linter.unusedSimpArgs false
namespace Go.Proofs.YthpmkcidkcmlgaaGreat
open Go Go.SX
def qn1 (r:Nat) (l:List PL) (_:PW):Nat:=match l with
 | [.val (.int .i64 i)]=>r-i.toNat
 | _=>0
def plR (n:Nat) (f:Nat→Rat):List ByteArray:=(List.range n).map fun j=>decQ (f j)
def plT (r:Nat) (c:Nat→Nat) (m:Nat→Nat→Rat):List (List ByteArray):=(List.range r).map fun i=>plR (c i) (m i)
theorem plR_len (n:Nat) (f:Nat→Rat):(plR n f).length=n:=by simp[plR]
theorem plT_len (r:Nat) (c:Nat→Nat) (m:Nat→Nat→Rat):(plT r c m).length=r:=by simp[plT]
theorem plR_snoc (n:Nat) (f:Nat→Rat):tcel (plR n f) ++ [[.string (decQ (f n))]]=tcel (plR (n+1) f):=by simp[plR,tcel,List.range_succ]
theorem plT_congr {r:Nat} {c c':Nat→Nat} {m m':Nat→Nat→Rat} (h: ∀i,i<r→c i=c' i∧∀j,j<c i→m i j=m' i j):plT r c m=plT r c' m':=by
 unfold plT
 refine List.map_congr_left fun i hi=>?_
 obtain⟨h1,h2⟩:=h i (List.mem_range.1 hi)
 unfold plR
 rw[←h1]
 refine List.map_congr_left fun j hj=>?_
 rw[h2 j (List.mem_range.1 hj)]
def pmI (W0:PW) (r:Nat) (c:Nat→Nat) (m:Nat→Nat→Rat) (l:List PL) (W:PW):Prop:=
 match l with
 | [.row l3,.val (.int .i64 i)]=>Ext W0 W∧∃(k:Nat) (ss:List Sl),i=(k:Int)∧l3=(ss.map fun x=>[x.v])∧ss.length=k∧k≤r∧∀i (h:i<ss.length),RowA W 1 ss[i] (tcel (plR (c i) (m i)))
 | _=>False
def pmJ (W0:PW) (n:Nat) (f:Nat→Rat) (l:List PL) (W:PW):Prop:=
 match l with
 | [.row l3,.val (.int .i64 i)]=>Ext W0 W∧∃(k:Nat),i=(k:Int)∧l3=tcel (plR k f)∧k≤n
 | _=>False
theorem pl_snoc {W W':PW} {ss:List Sl} {c:Nat→Nat} {m:Nat→Nat→Rat} {s:Sl} (h: ∀i (h:i<ss.length),RowA W 1 ss[i] (tcel (plR (c i) (m i)))) (hE:Ext W W') (hs:RowA W' 1 s (tcel (plR (c ss.length) (m ss.length)))):
  ∀i (h:i<(ss ++ [s]).length),RowA W' 1 (ss ++ [s])[i] (tcel (plR (c i) (m i))):=by
 intro i hi
 by_cases e:i<ss.length
 ·rw[List.getElem_append_left e]
  exact(h i e).ext hE
 ·have:i=ss.length:=by simp at hi;omega
  subst this
  rw[List.getElem_concat_length rfl]
  exact hs
theorem pl_tx {W W':PW} {ss:List Sl} {r:Nat} {c:Nat→Nat} {m:Nat→Nat→Rat} {s:Sl} {t:TypeId} (h: ∀i (h:i<ss.length),RowA W 1 ss[i] (tcel (plR (c i) (m i)))) (hl:ss.length=r) (hE:Ext W W') (hs:Row W' t 1 s (ss.map fun x=>[x.v])):IsTx W' s (plT r c m):=
 ⟨ss,⟨t,hs⟩,by rw[plT_len];exact hl,fun i hi hi'=>by simpa[plT] using(h i hi).ext hE⟩
theorem matPlain_ok {W0:PW} {M:Nat→Prop} {k r:Nat} {s:Sl} {c:Nat→Nat} {m:Nat→Nat→Rat} (h:IsMat 317 51 100 W0 s r c m) (hr:r≤1048576) (hc: ∀i,i<r→c i≤1048576) (hz: ∀i j,i<r→j<c i→Sz k (m i j)) (hk:k≤100000000):
  PCallsM Go.Proofs.Tryz.prog 91 [s.v] W0 M fun v W'=>∃(s':Sl),v=Sl.v s'∧IsTx W' s' (plT r c m):=by
 apply callmat_Plain
 have hsn:=h.n
 refine⟨pmI W0 r c m,cn2 r,⟨Ext.refl _,0,[],rfl,rfl,rfl,Nat.zero_le _,fun i h=>by simp at h⟩,?_⟩
 rintro l3 i4 W5 ⟨hE5,a,ss,rfl,rfl,hl,ha,hO⟩
 refine⟨fun hlt=>?_,fun hge s20 W21 hE21 hO21 hf21 W22 hE22=>⟨s20,rfl,?_⟩⟩
 ·have har:a<r:=by omega
  obtain⟨x,e1,e2⟩:=(h.ext hE5).at (i:=a) har
  have hx:=e2.n
  have hca:=hc a har
  refine⟨(h.ext hE5).inB (by omega) (by omega),x,e1,pmJ W5 (c a) (m a),cn2 (c a),⟨Ext.refl _,0,rfl,rfl,Nat.zero_le _⟩,?_⟩
  rintro l9 i10 W11 ⟨hE11,j,rfl,rfl,hj⟩
  have hpl:=plR_len j (m a)
  have htl:=tcel_length (plR j (m a))
  refine⟨fun hlt2=>?_,fun hge2 s18 W19 hE19 hO19 hf19=>⟨by simp;omega,by unfold I64;omega,⟨(hE5.trans hE11).trans hE19,a+1,ss ++ [s18],by push_cast;rfl,by simp,by simp[hl],by omega,pl_snoc hO (hE11.trans hE19) ?_⟩,?_⟩⟩
  ·obtain⟨p1,pb,p2,p3,p4⟩:=(e2.ext hE11).at (i:=j) (by omega)
   refine⟨(e2.ext hE11).inB (by omega) (by omega),p1,pb,p2,p3,ratText_call p4 (hz a j har (by omega)) hk fun W16 hE16 _=>⟨_,rfl,by rw[htl,hpl];simp only[List.length_cons,List.length_nil];omega,by unfold I64;omega,⟨hE11.trans hE16,j+1,by push_cast;rfl,plR_snoc j (m a),by omega⟩,?_⟩⟩
   show c a-Int.toNat ((j:Int)+1)<c a-Int.toNat (j:Int)
   omega
  ·have:j=c a:=by omega
   subst this
   rw[hl]
   exact⟨_,hO19.row⟩
  ·show r-Int.toNat ((a:Int)+1)<r-Int.toNat (a:Int)
   omega
 ·exact(pl_tx hO (by omega) hE21 hO21.row).ext hE22
theorem matPlain_call {W0 W:PW} {M:Nat→Prop} {k r:Nat} {s:Sl} {c:Nat→Nat} {m:Nat→Nat→Rat} {K:Value→PW→Prop} (h:IsMat 317 51 100 W s r c m) (hr:r≤1048576) (hc: ∀i,i<r→c i≤1048576) (hz: ∀i j,i<r→j<c i→Sz k (m i j)) (hk:k≤100000000) (kont: ∀(s':Sl) (W':PW),Ext W W'→(IsTx W' s' (plT r c m))→K (Sl.v s') W'):
  callN Go.Proofs.Tryz.prog W0 M 91 [s.v] W K:=
 callN_of (fun W' hE=>matPlain_ok (M:=fun _=>False) (h.ext hE) hr hc hz hk) (fun W' v W'' hE hE' hP=>by
  obtain⟨s',rfl,h⟩:=hP
  exact kont s' W'' (hE.trans hE') h)
theorem refMPlain_ok {W0:PW} {M:Nat→Prop} {k r:Nat} {s:Sl} {c:Nat→Nat} {m:Nat→Nat→Rat} (h:IsRMat 317 92 193 W0 s r c m) (hr:r≤1048576) (hc: ∀i,i<r→c i≤1048576) (hz: ∀i j,i<r→j<c i→Sz k (m i j)) (hk:k≤100000000):
  PCallsM Go.Proofs.Tryz.prog 92 [s.v] W0 M fun v W'=>∃(s':Sl),v=Sl.v s'∧IsTx W' s' (plT r c m):=by
 apply callref1_MatPlain
 have hsn:=h.n
 refine⟨pmI W0 r c m,cn2 r,⟨Ext.refl _,0,[],rfl,rfl,rfl,Nat.zero_le _,fun i h=>by simp at h⟩,?_⟩
 rintro l3 i4 W5 ⟨hE5,a,ss,rfl,rfl,hl,ha,hO⟩
 refine⟨fun hlt=>?_,fun hge s20 W21 hE21 hO21 hf21 W22 hE22=>⟨s20,rfl,?_⟩⟩
 ·have har:a<r:=by omega
  have hca:=hc a har
  refine⟨pmJ W5 (c a) (m a),cn2 (c a),⟨Ext.refl _,0,rfl,rfl,Nat.zero_le _⟩,?_⟩
  rintro l9 i10 W11 ⟨hE11,j,rfl,rfl,hj⟩
  have h11:=h.ext (hE5.trans hE11)
  obtain⟨x,e1,e2⟩:=h11.at (i:=a) har
  have hx:=e2.n
  have hpl:=plR_len j (m a)
  have htl:=tcel_length (plR j (m a))
  have hib:=h11.inB (i:=(a:Int)) (by omega) (by omega)
  refine⟨hib,x,e1,fun hlt2=>?_,fun hge2 s18 W19 hE19 hO19 hf19=>⟨by simp;omega,by unfold I64;omega,⟨(hE5.trans hE11).trans hE19,a+1,ss ++ [s18],by push_cast;rfl,by simp,by simp[hl],by omega,pl_snoc hO (hE11.trans hE19) ?_⟩,?_⟩⟩
  ·obtain⟨p1,pb,p2,p3,p4⟩:=e2.at (i:=j) (by omega)
   refine⟨hib,x,e1,e2.inB (by omega) (by omega),pb,p1,p2,p3,refQText_call p4 (hz a j har (by omega)) hk fun W16 hE16 _=>⟨_,rfl,by rw[htl,hpl];simp only[List.length_cons,List.length_nil];omega,by unfold I64;omega,⟨hE11.trans hE16,j+1,by push_cast;rfl,plR_snoc j (m a),by omega⟩,?_⟩⟩
   show c a-Int.toNat ((j:Int)+1)<c a-Int.toNat (j:Int)
   omega
  ·have:j=c a:=by omega
   subst this
   rw[hl]
   exact⟨_,hO19.row⟩
  ·show r-Int.toNat ((a:Int)+1)<r-Int.toNat (a:Int)
   omega
 ·exact(pl_tx hO (by omega) hE21 hO21.row).ext hE22
theorem refMPlain_call {W0 W:PW} {M:Nat→Prop} {k r:Nat} {s:Sl} {c:Nat→Nat} {m:Nat→Nat→Rat} {K:Value→PW→Prop} (h:IsRMat 317 92 193 W s r c m) (hr:r≤1048576) (hc: ∀i,i<r→c i≤1048576) (hz: ∀i j,i<r→j<c i→Sz k (m i j)) (hk:k≤100000000) (kont: ∀(s':Sl) (W':PW),Ext W W'→(IsTx W' s' (plT r c m))→K (Sl.v s') W'):
  callN Go.Proofs.Tryz.prog W0 M 92 [s.v] W K:=
 callN_of (fun W' hE=>refMPlain_ok (M:=fun _=>False) (h.ext hE) hr hc hz hk) (fun W' v W'' hE hE' hP=>by
  obtain⟨s',rfl,h⟩:=hP
  exact kont s' W'' (hE.trans hE') h)
theorem bookTexts_ok {W0:PW} {M:Nat→Prop} {s t:Sl} {l l':List ByteArray} (h1:RowA W0 1 s (tcel l)) (h2:RowA W0 1 t (tcel l')) (hl:l.length≤1099511627776):
  PCallsM Go.Proofs.Tryz.prog 170 [s.v,t.v] W0 M fun v W'=>v = .bool (decide (l=l'))∧True:=by
 apply callbook_SameTexts
 have n1:=h1.nt
 have n2:=h2.nt
 refine⟨fun hne W1 _=>⟨?_,trivial⟩,fun heq=>?_⟩
 ·rw[decide_eq_false fun e=>hne (by rw[n1,n2,e])]
 refine⟨fun l2 W=>match l2 with | [.val (.int .i64 i)]=>Ext W0 W∧∃k:Nat,i=(k:Int)∧k≤l.length∧∀j,j<k→l[j]?=l'[j]? | _=>False,qn1 l.length,⟨Ext.refl _,0,rfl,Nat.zero_le _,fun j h=>by omega⟩,?_⟩
 rintro i4 W5 ⟨hE,k,rfl,hk,hj⟩
 refine⟨fun hlt=>?_,fun hge W9 _=>⟨?_,trivial⟩⟩
 ·have hkl:k<l.length:=by omega
  have hkl':k<l'.length:=by omega
  refine⟨(h1.ext hE).inBt (by omega) (by omega),l[k],(h1.ext hE).text hkl,(h2.ext hE).inBt (by omega) (by omega),l'[k],(h2.ext hE).text hkl',fun hne W8 _=>⟨?_,trivial⟩,fun he=>⟨by unfold I64;omega,⟨hE,k+1,by push_cast;rfl,by omega,fun j h=>?_⟩,?_⟩⟩
  ·rw[decide_eq_false]
   rintro rfl
   exact hne rfl
  ·by_cases e:j=k
   ·subst e
    rw[List.getElem?_eq_getElem hkl,List.getElem?_eq_getElem hkl',Classical.not_not.1 he]
   ·exact hj j (by omega)
  ·show l.length-Int.toNat ((k:Int)+1)<l.length-Int.toNat (k:Int)
   omega
 ·have:l=l':=by
   apply List.ext_getElem?
   intro j
   by_cases h:j<l.length
   ·exact hj j (by omega)
   ·rw[List.getElem?_eq_none (by omega),List.getElem?_eq_none (by omega)]
  rw[decide_eq_true this]
theorem bookTexts_call {W0 W:PW} {M:Nat→Prop} {s t:Sl} {l l':List ByteArray} {K:Value→PW→Prop} (h1:RowA W 1 s (tcel l)) (h2:RowA W 1 t (tcel l')) (hl:l.length≤1099511627776) (kont: ∀(W':PW),Ext W W'→(True)→K (.bool (decide (l=l'))) W'):
  callN Go.Proofs.Tryz.prog W0 M 170 [s.v,t.v] W K:=
 callN_of (fun W' hE=>bookTexts_ok (M:=fun _=>False) (h1.ext hE) (h2.ext hE) hl) (fun W' v W'' hE hE' hP=>by
  obtain⟨rfl,h⟩:=hP
  exact kont W'' (hE.trans hE') h)
theorem bookRows_ok {W0:PW} {M:Nat→Prop} {s t:Sl} {T T':List (List ByteArray)} (h1:IsTx W0 s T) (h2:IsTx W0 t T') (hT:T.length≤1099511627776) (hl: ∀l∈T,l.length≤1099511627776):
  PCallsM Go.Proofs.Tryz.prog 90 [s.v,t.v] W0 M fun v W'=>v = .bool (decide (T=T'))∧True:=by
 apply callbook_SameRows
 have n1:=h1.n
 have n2:=h2.n
 refine⟨fun hne W1 _=>⟨?_,trivial⟩,fun heq=>?_⟩
 ·rw[decide_eq_false fun e=>hne (by rw[n1,n2,e])]
 refine⟨fun l2 W=>match l2 with | [.val (.int .i64 i)]=>Ext W0 W∧∃k:Nat,i=(k:Int)∧k≤T.length∧∀j,j<k→T[j]?=T'[j]? | _=>False,qn1 T.length,⟨Ext.refl _,0,rfl,Nat.zero_le _,fun j h=>by omega⟩,?_⟩
 rintro i4 W5 ⟨hE,k,rfl,hk,hj⟩
 refine⟨fun hlt=>?_,fun hge W9 _=>⟨?_,trivial⟩⟩
 ·have hkl:k<T.length:=by omega
  have hkl':k<T'.length:=by omega
  obtain⟨x,x1,x2⟩:=(h1.ext hE).at hkl
  obtain⟨y,y1,y2⟩:=(h2.ext hE).at hkl'
  refine⟨(h1.ext hE).inB (by omega) (by omega),x,x1,(h2.ext hE).inB (by omega) (by omega),y,y1,bookTexts_call x2 y2 (hl _ (List.getElem_mem hkl)) fun W9 hE9 _=>⟨_,rfl,fun hne W8 _=>⟨?_,trivial⟩,fun he=>⟨by unfold I64;omega,⟨hE.trans hE9,k+1,by push_cast;rfl,by omega,fun j h=>?_⟩,?_⟩⟩⟩
  ·rw[decide_eq_false]
   rintro rfl
   simp at hne
  ·by_cases e:j=k
   ·subst e
    have he':T[j]=T'[j]:=by simpa using he
    rw[List.getElem?_eq_getElem hkl,List.getElem?_eq_getElem hkl',he']
   ·exact hj j (by omega)
  ·show T.length-Int.toNat ((k:Int)+1)<T.length-Int.toNat (k:Int)
   omega
 ·have:T=T':=by
   apply List.ext_getElem?
   intro j
   by_cases h:j<T.length
   ·exact hj j (by omega)
   ·rw[List.getElem?_eq_none (by omega),List.getElem?_eq_none (by omega)]
  rw[decide_eq_true this]
theorem bookRows_call {W0 W:PW} {M:Nat→Prop} {s t:Sl} {T T':List (List ByteArray)} {K:Value→PW→Prop} (h1:IsTx W s T) (h2:IsTx W t T') (hT:T.length≤1099511627776) (hl: ∀l∈T,l.length≤1099511627776) (kont: ∀(W':PW),Ext W W'→(True)→K (.bool (decide (T=T'))) W'):
  callN Go.Proofs.Tryz.prog W0 M 90 [s.v,t.v] W K:=
 callN_of (fun W' hE=>bookRows_ok (M:=fun _=>False) (h1.ext hE) (h2.ext hE) hT hl) (fun W' v W'' hE hE' hP=>by
  obtain⟨rfl,h⟩:=hP
  exact kont W'' (hE.trans hE') h)
theorem law11Is_ok {W0:PW} {M:Nat→Prop} {k r:Nat} {s t:Sl} {c c':Nat→Nat} {m m':Nat→Nat→Rat} (h1:IsMat 317 51 100 W0 s r c m) (h2:IsRMat 317 92 193 W0 t r c' m') (hr:r≤1048576) (hc: ∀i,i<r→c i≤1048576) (hz: ∀i j,i<r→j<c i→Sz k (m i j)) (hk:k≤100000000) (he: ∀i,i<r→c i=c' i∧∀j,j<c i→m i j=m' i j):
  PCallsM Go.Proofs.Tryz.prog 16 [s.v,t.v] W0 M fun v W'=>v = .bool true∧True:=by
 apply calllaw11_Is
 refine matPlain_call h1 hr hc hz hk fun s3 W2 hE2 h3=>⟨s3,rfl,refMPlain_call (h2.ext hE2) hr (fun i hi=>by rw[←(he i hi).1];exact hc i hi) (fun i j hi hj=>by rw[←(he i hi).1] at hj;rw[←(he i hi).2 j hj];exact hz i j hi hj) hk fun s6 W5 hE5 h6=>⟨s6,rfl,bookRows_call (h3.ext hE5) h6 (by rw[plT_len];omega) (fun l hl=>?_) fun W8 hE8 _=>⟨_,rfl,fun W10 _=>⟨?_,trivial⟩⟩⟩⟩
 ·obtain⟨i,hi,rfl⟩:=List.mem_map.1 hl
  rw[plR_len]
  have:=hc i (List.mem_range.1 hi)
  omega
 ·rw[decide_eq_true (plT_congr he)]
theorem law11Is_call {W0 W:PW} {M:Nat→Prop} {k r:Nat} {s t:Sl} {c c':Nat→Nat} {m m':Nat→Nat→Rat} {K:Value→PW→Prop} (h1:IsMat 317 51 100 W s r c m) (h2:IsRMat 317 92 193 W t r c' m') (hr:r≤1048576) (hc: ∀i,i<r→c i≤1048576) (hz: ∀i j,i<r→j<c i→Sz k (m i j)) (hk:k≤100000000) (he: ∀i,i<r→c i=c' i∧∀j,j<c i→m i j=m' i j) (kont: ∀(W':PW),Ext W W'→(True)→K (.bool true) W'):
  callN Go.Proofs.Tryz.prog W0 M 16 [s.v,t.v] W K:=
 callN_of (fun W' hE=>law11Is_ok (M:=fun _=>False) (h1.ext hE) (h2.ext hE) hr hc hz hk he) (fun W' v W'' hE hE' hP=>by
  obtain⟨rfl,h⟩:=hP
  exact kont W'' (hE.trans hE') h)
end Go.Proofs.YthpmkcidkcmlgaaGreat

/- mat: Turn, Mul, Same; ldl: symmetric, left. -/
set_option maxRecDepth 100000
set_option linter.unusedVariables false
set_option linter.unusedSimpArgs false
namespace Go.Proofs.YthpmkcidkcmlgaaGreat
open Go Go.SX
theorem matTurn_ok {W0:PW} {M:Nat→Prop} {n0 r:Nat} {s:Sl} {c:Nat→Nat} {m:Nat→Nat→Rat} (hn:NewFrom n0 W0) (h:IsMat 317 51 100 W0 s r c m) (hr:r≤1099511627776):
  PCallsM Go.Proofs.Tryz.prog 21 [s.v] W0 M fun v W'=>∃(s':Sl),∃(b:Bool),v = .tuple #[Sl.v s',.bool b]∧((b=true↔RightP r c)∧(RightP r c→OMat 317 51 100 (n0≤·) W' s' (c 0) r (fun i j=>m j i))):=by
 apply callmat_Turn
 have hsn:=h.n
 refine matRight_call h hr fun b W2 hE2 hb=>⟨b,rfl,fun hf W4 hE4=>⟨⟨none,0,0⟩,false,rfl,?_,?_⟩,fun ht=>?_⟩
 ·have:b=false:=by simpa using hf
  rw[this] at hb
  exact hb
 ·intro hR
  have:=hb.2 hR
  rw[this] at hf
  cases hf
 have hbt:b=true:=by simpa using ht
 have hR:=hb.1 hbt
 obtain⟨hc,hr1,hr12,hc1,hc12⟩:=hR
 have h2:=h.ext hE2
 obtain⟨y,f1,f2⟩:=h2.at (i:=0) (by omega)
 have ny:=f2.n
 refine⟨h2.inB (by omega) (by omega),y,f1,?_⟩
 rw[ny,hsn]
 obtain⟨n1,hn1⟩: ∃n1,W2.w.heap.size=n1:=⟨_,rfl⟩
 have hle:W2.w.heap.size≤n1:=by omega
 have hn1':NewFrom n1 W2:=by unfold NewFrom;omega
 have h01:W0.w.heap.size≤n1:=Nat.le_trans hE2.size hle
 refine matNone_call hn1' (by omega) (by omega) fun s8 W7 hE7 h8=>⟨s8,rfl,?_⟩
 refine⟨fun l W=>match l with | [.val (.int .i64 i)]=>∃k:Nat,i=(k:Int)∧k≤r∧ExtN n1 W2 W∧OMat 317 51 100 (n1≤·) W s8 (c 0) r (fun a b=>if b<k then m b a else 0) | _=>False,fun l _=>match l with | [.val (.int .i64 i)]=>r-i.toNat | _=>0,⟨0,rfl,Nat.zero_le _,hE7.toM _,h8.congr fun i j _ _=>by simp⟩,?_⟩
 rintro i11 W12 ⟨k,rfl,hk,hE12,h12⟩
 refine⟨fun hlt=>?_,fun hge W23 hE23=>⟨s8,true,rfl,⟨fun _=>hb.1 hbt,fun _=>rfl⟩,fun _=>?_⟩⟩
 ·have hkr:k<r:=by omega
  obtain⟨x,e1,e2⟩:=h2.at (i:=k) hkr
  have nx:=e2.n
  have hck:=hc k hkr
  refine⟨(h2.new hE12 hle).inB (by omega) (by omega),x,e1.new hE12 hle,?_⟩
  refine⟨fun l W=>match l with | [.val (.int .i64 i)]=>∃l:Nat,i=(l:Int)∧l≤c 0∧ExtN n1 W2 W∧OMat 317 51 100 (n1≤·) W s8 (c 0) r (fun a b=>if b<k∨(b=k∧a<l) then m b a else 0) | _=>False,fun l _=>match l with | [.val (.int .i64 i)]=>c 0-i.toNat | _=>0,⟨0,rfl,Nat.zero_le _,hE12,h12.congr fun i j _ _=>by simp⟩,?_⟩
  rintro i16 W17 ⟨l,rfl,hl,hE17,h17⟩
  refine⟨fun hlt2=>?_,fun hge2=>⟨by unfold I64;omega,⟨k+1,by push_cast;rfl,by omega,hE17,h17.congr fun a b ha hb=>?_⟩,?_⟩⟩
  ·have hlc:l<c 0:=by omega
   have e17:=e2.new hE17 hle
   obtain⟨s18,b19,s20,g1,g2⟩:=e17.at (i:=l) (by omega)
   obtain⟨z,z1,z2⟩:=h17.mat.at (i:=l) hlc
   refine⟨e17.inB (by omega) (by omega),s18,b19,s20,g1,h17.mat.inB (by omega) (by omega),z,z1,z2.inB (by omega) (by omega),?_⟩
   refine h17.store (j:=k) z1 hlc hkr g2 (by decide) (by decide) (fun g hg=>.inr (Nat.le_trans h01 hg)) fun W22 hp h22=>⟨by unfold I64;omega,⟨l+1,by push_cast;rfl,by omega,hE17.trans (hp.extN fun g hg=>hg),h22.congr fun a b ha hb=>?_⟩,?_⟩
   ·unfold setM
    by_cases e:a=l∧b=k
    ·rw[if_pos e,if_pos (by omega),e.1,e.2]
    ·rw[if_neg e]
     dsimp only
     by_cases e':b<k∨(b=k∧a<l)
     ·rw[if_pos e',if_pos (by omega)]
     ·rw[if_neg e',if_neg (by omega)]
   ·show c 0-Int.toNat ((l:Int)+1)<c 0-Int.toNat (l:Int)
    omega
  ·by_cases e':b<k∨(b=k∧a<l)
   ·rw[if_pos e',if_pos (by omega)]
   ·rw[if_neg e',if_neg (by omega)]
  ·show r-Int.toNat ((k:Int)+1)<r-Int.toNat (k:Int)
   omega
 ·refine((h12.ext hE23).mono fun g hg=>Nat.le_trans (hn.ext hE2) (Nat.le_trans hle hg)).congr fun a b ha hb=>?_
  rw[if_pos (by omega)]
theorem matTurn_call {W0 W:PW} {M:Nat→Prop} {n0 r:Nat} {s:Sl} {c:Nat→Nat} {m:Nat→Nat→Rat} {K:Value→PW→Prop} (hn:NewFrom n0 W) (h:IsMat 317 51 100 W s r c m) (hr:r≤1099511627776) (kont: ∀(s':Sl) (b:Bool) (W':PW),Ext W W'→(((b=true↔RightP r c)∧(RightP r c→OMat 317 51 100 (n0≤·) W' s' (c 0) r (fun i j=>m j i))))→K (.tuple #[Sl.v s',.bool b]) W'):
  callN Go.Proofs.Tryz.prog W0 M 21 [s.v] W K:=
 callN_of (fun W' hE=>matTurn_ok (M:=fun _=>False) (hn.ext hE) (h.ext hE) hr) (fun W' v W'' hE hE' hP=>by
  obtain⟨s',b,rfl,h⟩:=hP
  exact kont s' b W'' (hE.trans hE') h)
end Go.Proofs.YthpmkcidkcmlgaaGreat
