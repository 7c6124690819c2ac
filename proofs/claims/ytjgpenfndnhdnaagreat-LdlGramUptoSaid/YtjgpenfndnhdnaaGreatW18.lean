/- cincturelaw8.PolyLeibniz. -/
import Derived.Test.YtjgpenfndnhdnaaGreatW17
import Derived.Test.YtjgpenfndnhdnaaGreatW12
import Derived.Test.YtjgpenfndnhdnaaGreatR23
import Derived.Test.YtjgpenfndnhdnaaGreatLib4
import Derived.Test.YtjgpenfndnhdnaaGreatW14
import Derived.Test.YtjgpenfndnhdnaaGreatR21
set_option linter.unusedVariables false
set_option linter.unusedSimpArgs false
set_option maxRecDepth 100000
set_option linter.unusedVariables false
set_option linter.unusedSimpArgs false
namespace Go.Proofs.YtjgpenfndnhdnaaGreat
open Go Go.SX
theorem bookWithin_ok {W0:PW} {M:Nat→Prop} {n lo hi:Int} (h0: -1000000≤lo) (h1:lo≤hi) (h2:hi≤1000000):
  PCallsM Go.Proofs.Tryz.prog 36 [.int .i64 n,.int .i64 lo,.int .i64 hi] W0 M fun v W'=>∃(k:Int),v = .int .i64 k∧lo≤k∧k≤hi:=by
 apply callbook_Within
 have hb:(Int.tmod n (hi-lo+1)).natAbs<(hi-lo+1).natAbs:=by
  rw[Int.natAbs_tmod]
  exact Nat.mod_lt _ (by omega)
 exact⟨by unfold I64;omega,by unfold I64;omega,by omega,fun h=>⟨by unfold I64;omega,by unfold I64;omega,by unfold I64;omega,by unfold I64;omega,fun W1 _=>⟨_,rfl,by omega,by omega⟩⟩,fun h=>⟨by unfold I64;omega,fun W2 _=>⟨_,rfl,by omega,by omega⟩⟩⟩
theorem bookWithin_call {W0 W:PW} {M:Nat→Prop} {n lo hi:Int} {K:Value→PW→Prop} (h0: -1000000≤lo) (h1:lo≤hi) (h2:hi≤1000000) (kont: ∀(k:Int) (W':PW),Ext W W'→(lo≤k∧k≤hi)→K (.int .i64 k) W'):
  callN Go.Proofs.Tryz.prog W0 M 36 [.int .i64 n,.int .i64 lo,.int .i64 hi] W K:=
 callN_of (fun W' hE=>bookWithin_ok (M:=fun _=>False) h0 h1 h2) (fun W' v W'' hE hE' hP=>by
  obtain⟨k,rfl,h⟩:=hP
  exact kont k W'' (hE.trans hE') h)
end Go.Proofs.YtjgpenfndnhdnaaGreat

/- gram.places. -/
set_option maxRecDepth 100000
set_option linter.unusedVariables false
set_option linter.unusedSimpArgs false
namespace Go.Proofs.YtjgpenfndnhdnaaGreat
open Go Go.SX
def pl (m:Mon):Nat→List Int
 | 0=>[]
 | v+1=>pl m v ++ List.replicate (eget m v).toNat (v:Int)
theorem pl_len {m:Mon} (h:m.ok) (hd:m.deg≤2): ∀v,v<3→(pl m v).length+(eget m v).toNat≤2:=by
 unfold Mon.ok at h
 unfold Mon.deg at hd
 intro v hv
 rcases(by omega:v=0∨v=1∨v=2) with rfl | rfl | rfl<;>simp[pl,eget]<;>omega
theorem snoc_get0 {l:List Int} (v n:Int) (h:l.length=0):(l ++ [v]).getD 0 n=v∧(l ++ [v]).getD 1 n=l.getD 1 n:=by
 have:l = []:=List.eq_nil_of_length_eq_zero h
 subst this
 exact⟨rfl,rfl⟩
theorem snoc_get1 {l:List Int} (v n:Int) (h:l.length=1):(l ++ [v]).getD 0 n=l.getD 0 n∧(l ++ [v]).getD 1 n=v:=by
 obtain⟨a,rfl⟩:=List.length_eq_one_iff.1 h
 exact⟨rfl,rfl⟩
def plF (W0:PW) (m:Mon) (n:Int) (L:List PL) (W:PW):Prop:=match L with
 | [.val (.int .i64 k),.val (.int .i64 i),.cells [.int .i64 a,.int .i64 b]]=>∃v:Nat,i=(v:Int)∧v≤3∧Ext W0 W∧k=((pl m v).length:Int)∧a=(pl m v).getD 0 n∧b=(pl m v).getD 1 n
 | _=>False
def plG (W0:PW) (m:Mon) (n:Int) (v:Nat) (L:List PL) (W:PW):Prop:=match L with
 | [.val (.int .i64 k),.val (.int .u8 i),.cells [.int .i64 a,.int .i64 b]]=>∃(e:Nat) (l:List Int),i=(e:Int)∧e≤(eget m v).toNat∧Ext W0 W∧l=pl m v ++ List.replicate e (v:Int)∧k=(l.length:Int)∧a=l.getD 0 n∧b=l.getD 1 n
 | _=>False
theorem gramPlaces_ok {W0:PW} {M:Nat→Prop} {m:Mon} {n:Int} (hk:m.ok) (hd:m.deg≤2):
  PCallsM Go.Proofs.Tryz.prog 61 [m.v,.int .i64 n] W0 M fun v W'=>v = .tuple ⟨[.int .i64 ((pl m 3).getD 0 n),.int .i64 ((pl m 3).getD 1 n)]⟩∧True:=by
 apply callgram_places
 refine⟨plF W0 m n,fun L _=>match L with | [_,.val (.int .i64 i),_]=>3-i.toNat | _=>0,⟨0,rfl,by omega,Ext.refl _,rfl,rfl,rfl⟩,?_⟩
 rintro i3 i4 i5 i6 W7 ⟨v,rfl,hv,hE7,rfl,rfl,rfl⟩
 refine⟨fun hlt=>?_,fun hge=>⟨by omega,by omega,fun W16 _=>?_⟩⟩
 ·have hv3:v<3:=by omega
  have hlen:=pl_len hk hd v hv3
  have hk2:=eget_ok hk v
  refine⟨by omega,_,take_mon m hv3,?_⟩
  refine⟨plG W7 m n v,fun L _=>match L with | [_,.val (.int .u8 i),_]=>2-i.toNat | _=>0,⟨0,_,rfl,by omega,Ext.refl _,rfl,by simp,by simp,by simp⟩,?_⟩
  rintro i11 i12 i13 i14 W15 ⟨e,l,rfl,he,hE15,hl,rfl,rfl,rfl⟩
  have hll:l.length=(pl m v).length+e:=by rw[hl];simp
  refine⟨fun hlte=>?_,fun hgee=>⟨by unfold I64;omega,⟨v+1,by push_cast;rfl,by omega,hE7.trans hE15,?_⟩,?_⟩⟩
  ·have he2:e+1≤(eget m v).toNat:=by omega
   have hw:IntKind.wrap .u8 ((e:Int)+1)=((e+1:Nat):Int):=by rw[wrap8 (by omega) (by omega)];push_cast;rfl
   have hsn:l ++ [(v:Int)]=pl m v ++ List.replicate (e+1) (v:Int):=by rw[hl,List.replicate_succ',List.append_assoc]
   have hmu:2-Int.toNat ((e+1:Nat):Int)<2-Int.toNat (e:Int):=by omega
   rw[hw]
   refine⟨by omega,by omega,⟨trivial,fun h0=>⟨by unfold I64;omega,⟨e+1,l ++ [(v:Int)],rfl,he2,hE15,hsn,by simp,?_,?_⟩,hmu⟩⟩,fun h1=>⟨by unfold I64;omega,⟨e+1,l ++ [(v:Int)],rfl,he2,hE15,hsn,by simp,?_,?_⟩,hmu⟩⟩
   ·exact(snoc_get0 v n (by omega)).1.symm
   ·exact(snoc_get0 v n (by omega)).2.symm
   ·exact(snoc_get1 v n (by omega)).1.symm
   ·exact(snoc_get1 v n (by omega)).2.symm
  ·have:e=(eget m v).toNat:=by omega
   subst this
   rw[show pl m (v+1)=l by rw[hl];rfl]
   exact⟨rfl,rfl,rfl⟩
  ·show 3-Int.toNat ((v:Int)+1)<3-Int.toNat (v:Int)
   omega
 ·have:v=3:=by omega
  subst this
  exact⟨rfl,trivial⟩
theorem gramPlaces_call {W0 W:PW} {M:Nat→Prop} {m:Mon} {n:Int} {K:Value→PW→Prop} (hk:m.ok) (hd:m.deg≤2) (kont: ∀(W':PW),Ext W W'→(True)→K (.tuple ⟨[.int .i64 ((pl m 3).getD 0 n),.int .i64 ((pl m 3).getD 1 n)]⟩) W'):
  callN Go.Proofs.Tryz.prog W0 M 61 [m.v,.int .i64 n] W K:=
 callN_of (fun W' hE=>gramPlaces_ok (M:=fun _=>False) hk hd) (fun W' v W'' hE hE' hP=>by
  obtain⟨rfl,h⟩:=hP
  exact kont W'' (hE.trans hE') h)
end Go.Proofs.YtjgpenfndnhdnaaGreat

/- gram.Matrix. -/
set_option maxRecDepth 100000
set_option linter.unusedVariables false
set_option linter.unusedSimpArgs false
namespace Go.Proofs.YtjgpenfndnhdnaaGreat
open Go Go.SX
def pa (m:Mon) (n:Nat):Nat:=((pl m 3).getD 0 (n:Int)).toNat
def pb (m:Mon) (n:Nat):Nat:=((pl m 3).getD 1 (n:Int)).toNat
theorem pl_mem {m:Mon} (h:m.ok): ∀x∈pl m 3,0≤x∧x<varsM m:=by
 unfold Mon.ok at h
 intro x hx
 simp only[pl,eget,List.nil_append,List.mem_append,List.mem_replicate] at hx
 unfold varsM
 simp at hx
 (repeat' split)<;>omega
theorem place_ok {m:Mon} {n:Nat} (h:m.ok) (hv:varsM m≤n) (i:Nat):0≤(pl m 3).getD i (n:Int)∧(pl m 3).getD i (n:Int)≤n:=by
 rw[List.getD_eq_getElem?_getD]
 by_cases hi:i<(pl m 3).length
 ·rw[List.getElem?_eq_getElem hi]
  have:=pl_mem h _ (List.getElem_mem hi)
  simp only[Option.getD_some]
  omega
 ·rw[List.getElem?_eq_none (by omega)]
  simp only[Option.getD_none]
  omega
theorem pa_eq {m:Mon} {n:Nat} (h:m.ok) (hv:varsM m≤n):(pl m 3).getD 0 (n:Int)=(pa m n:Int)∧pa m n<n+1:=by
 have:=place_ok h hv 0
 unfold pa
 omega
theorem pb_eq {m:Mon} {n:Nat} (h:m.ok) (hv:varsM m≤n):(pl m 3).getD 1 (n:Int)=(pb m n:Int)∧pb m n<n+1:=by
 have:=place_ok h hv 1
 unfold pb
 omega
def gset (n:Nat) (M:Nat→Nat→Rat) (t:Tm):Nat→Nat→Rat:=
 setM (setM M (pa t.1 n) (pb t.1 n) (if pa t.1 n≠pb t.1 n then t.2/2 else t.2)) (pb t.1 n) (pa t.1 n) (if pa t.1 n≠pb t.1 n then t.2/2 else t.2)
def gmat (n:Nat) (p:List Tm):Nat→Nat→Rat:=p.foldl (gset n) fun _ _=>0
def GmOK (p:List Tm) (n:Int):Prop:=1≤n∧n≤3∧maxf Mon.deg (-1) p≤2∧maxf varsM 0 p≤n
theorem putPoly {tu tt tq:TypeId} {N:Nat→Prop} {W W':PW} {s:Sl} {p:List Tm} (h:Put tq N W W') (hp:IsPoly tu tt W s p) (h1:tt≠tq) (h2:tu≠tq):IsPoly tu tt W' s p:=
 let⟨g,_,hw⟩:=h;let⟨xs,k1,k2⟩:=hp
 ⟨xs,hw.row k1 h1,k2.mono fun _ _ ⟨h0,s1,b,s2,e1,e2⟩=>⟨h0,s1,b,s2,e1,hw.rat e2 h2⟩⟩
theorem sz_two:Sz 1 ((2:Int):Rat):=⟨by rw[Rat.num_intCast];exact nl_le (by decide),by rw[Rat.den_intCast];exact Nat.le_of_eq nl_one⟩
def gI (W0:PW) (r:Nat) (L:List PL) (W:PW):Prop:=match L with
 | [.val (.int .i64 i),.row l]=>Ext W0 W∧∃(k:Nat) (ss:List Sl),i=(k:Int)∧k≤r∧ss.length=k∧l=(ss.map fun x=>[x.v]) ++ List.replicate (r-k) [.slice none 0 0]∧QRows 260 62 (W0.w.heap.size≤·) W ss r fun _ _=>0
 | _=>False
def gJ (W0:PW) (ss:List Sl) (s:Sl) (p:List Tm) (n:Nat) (L:List PL) (W:PW):Prop:=match L with
 | [.val (.int .i64 i)]=>∃k:Nat,i=(k:Int)∧k≤p.length∧ExtN W0.w.heap.size W0 W∧IsPoly 260 136 W s p∧QRows 260 62 (W0.w.heap.size≤·) W ss (n+1) (gmat n (p.take k))
 | _=>False
theorem gramMatrix_ok {W0:PW} {M:Nat→Prop} {s:Sl} {p:List Tm} {n:Int} {k:Nat} (h:IsPoly 260 136 W0 s p) (hG:PGood p) (hz: ∀t∈p,Sz k t.2) (hk:k≤1000000000):
  PCallsM Go.Proofs.Tryz.prog 16 [.agg ⟨[s.v]⟩,.int .i64 n] W0 M fun v W'=>∃(s':Sl),∃(b:Bool),v = .tuple ⟨[Sl.v s',.bool b]⟩∧(b=true↔GmOK p n)∧(b=true→IsMat 260 62 119 W' s' (n.toNat+1) (fun _=>n.toNat+1) (gmat n.toNat p)):=by
 apply callgram_Matrix
 have hl:=PGood.len hG h.ok
 have bad:¬GmOK p n→∀W':PW,∃(s':Sl) (b:Bool),(Value.tuple ⟨[.slice none 0 0,.bool false]⟩) = .tuple ⟨[Sl.v s',.bool b]⟩∧(b=true↔GmOK p n)∧(b=true→IsMat 260 62 119 W' s' (n.toNat+1) (fun _=>n.toNat+1) (gmat n.toNat p)):=
  fun hN W'=>⟨⟨none,0,0⟩,false,rfl,⟨fun e=>(by cases e),fun e=>absurd e hN⟩,fun e=>(by cases e)⟩
 refine⟨fun h1 W1 _=>bad (fun e=>by have:=e.1;omega) W1,fun h1=>⟨fun h3 W2 _=>bad (fun e=>by have:=e.2.1;omega) W2,fun h3=>?_⟩⟩
 refine polyDegree_call h (by omega) fun W4 hE4 _=>⟨_,rfl,?_⟩
 rw[lastDeg_max hG h.ok]
 refine⟨fun hd W6 _=>bad (fun e=>by have:=e.2.2.1;omega) W6,fun hd=>?_⟩
 refine polyVars_call (h.ext hE4) (by omega) fun W8 hE8 _=>⟨_,rfl,fun hv W10 _=>bad (fun e=>by have:=e.2.2.2;omega) W10,fun hv=>?_⟩
 have hOK:GmOK p n:=⟨by omega,by omega,by omega,by omega⟩
 obtain⟨c,rfl⟩:=Int.eq_ofNat_of_zero_le (show 0≤n by omega)
 rw[show Int.toNat ((c:Int)+1)=c+1 by omega,List.length_replicate,Int.toNat_natCast]
 refine⟨by unfold I64;omega,⟨rfl,by omega,by omega⟩,gI W0 (c+1),fun L _=>match L with | [.val (.int .i64 i),_]=>c+1-i.toNat | _=>0,⟨hE4.trans hE8,0,[],rfl,Nat.zero_le _,rfl,by simp,QRows.nil⟩,?_⟩
 rintro l13 i14 W15 ⟨hE15,k,ss,rfl,hkr,hsl,rfl,hQ⟩
 have hlen:((ss.map fun x=>[x.v]) ++ List.replicate (c+1-k) [Value.slice none 0 0]).length=c+1:=by simp;omega
 refine⟨fun hlt=>⟨by unfold I64;omega,⟨rfl,by omega,by omega⟩,⟨by omega,by rw[hlen];omega⟩,fun s16 W17 hE17 hO hf=>⟨by rw[hlen];omega,by unfold I64;omega,⟨hE15.trans hE17,k+1,ss ++ [s16],by push_cast;rfl,by omega,by simp[hsl],?_,?_⟩,?_⟩⟩,fun hge=>?_⟩
 ·rw[Int.toNat_natCast,List.set_append_right _ _ (by simp[hsl])]
  simp only[List.length_map,hsl,Nat.sub_self,List.map_append,List.map_cons,List.map_nil]
  rw[show c+1-k=(c+1-(k+1))+1 by omega,List.replicate_succ,List.set_cons_zero]
  simp
 ·exact hQ.snoc hE17 hO (fun g hg=>hf g hg) (qs_zero W17 (c+1))
 ·show c+1-Int.toNat ((k:Int)+1)<c+1-Int.toNat (k:Int)
  omega
 have hkc:k=c+1:=by omega
 subst hkc
 rw[Nat.sub_self,List.replicate_zero,List.append_nil]
 obtain⟨xs,hr,ha⟩:=h.ext hE15
 have hxl:=ha.len
 refine polyTerms_call hr (by omega) fun s20 W19 hE19 ⟨_,hO19⟩=>⟨s20,rfl,?_⟩
 have h19:IsPoly 260 136 W19 s20 p:=⟨xs,hO19.row,ha.mono fun _ _ e=>e.ext hE19⟩
 have hn19:=h19.n
 refine⟨gJ W0 ss s20 p c,fun L _=>match L with | [.val (.int .i64 i)]=>p.length-i.toNat | _=>0,⟨0,rfl,Nat.zero_le _,(hE15.trans hE19).toM _,h19,hQ.ext hE19⟩,?_⟩
 clear hQ h19 hO19 hr ha
 rintro i23 W24 ⟨j,rfl,hj,hE24,h24,hQ⟩
 refine⟨fun hlt=>?_,fun hge s54 W55 hE55 hO55 _ W56 hE56=>⟨s54,true,rfl,⟨fun _=>hOK,fun _=>rfl⟩,fun _=>?_⟩⟩
 ·have hjl:j<p.length:=by omega
  have hmem:=List.getElem_mem hjl
  obtain⟨k0,s1,b,s2,e1,_,_,hq⟩:=h24.at (List.getElem?_eq_getElem hjl)
  have hdj:p[j].1.deg≤2:=by have:=(le_maxf (w:=Mon.deg) (n:=-1) (p:=p)).2 _ hmem;omega
  have hvj:varsM p[j].1≤c:=by have:=(le_maxf (w:=varsM) (n:=0) (p:=p)).2 _ hmem;omega
  have ea:=pa_eq k0 hvj
  have eb:=pb_eq k0 hvj
  refine⟨h24.inB (by omega) (by omega),_,_,_,s1,b,s2,e1,gramPlaces_call k0 hdj fun W32 hE32 _=>⟨_,_,rfl,?_⟩⟩
  rw[ea.1,eb.1]
  obtain⟨a,hae⟩: ∃a,pa p[j].1 c=a:=⟨_,rfl⟩
  obtain⟨d,hde⟩: ∃d,pb p[j].1 c=d:=⟨_,rfl⟩
  rw[hae] at ea
  rw[hde] at eb
  rw[hae,hde]
  have hal:a<ss.length:=by omega
  have hdl:d<ss.length:=by omega
  have hal':a<c+1:=ea.2
  have hdl':d<c+1:=eb.2
  have hmu:p.length-Int.toNat ((j:Int)+1)<p.length-Int.toNat (j:Int):=by omega
  have hll:(ss.map fun x:Sl=>[x.v]).length=ss.length:=List.length_map _
  have fin: ∀q:Rat,q=(if a≠d then p[j].2/2 else p[j].2)→setM (setM (gmat c (p.take j)) a d q) d a q=gmat c (p.take (j+1)):=by
   rintro q rfl
   rw[take_snocR hjl]
   unfold gmat
   rw[List.foldl_append,List.foldl_cons,List.foldl_nil,gset,hae,hde]
  refine⟨fun hne=>?_,fun heq=>?_⟩
  ·refine ratOf_call (by unfold I64;omega) fun s37 b38 s39 W36 hE36 h36=>⟨s37,b38,s39,rfl,?_⟩
   refine ratDiv_call (k:=k) (l:=1) ((hq.ext hE32).ext hE36) h36 (hz _ hmem) sz_two (by omega) (by omega) (by omega) fun s42 b43 s44 W41 hE41 h41=>⟨s42,b43,s44,_,rfl,?_⟩
   have hE:=(hE32.trans hE36).trans hE41
   refine⟨⟨by omega,by omega⟩,ss[a],own_at hal,⟨by omega,by omega⟩,ss[d],own_at hdl,(hQ.ext hE).inB hal hdl',?_⟩
   refine QRows.store (hQ.ext hE) hal hdl' h41 (by decide) (fun g hg=>.inr hg) fun W48 hp48 hQ48=>⟨hQ48.inB hdl hal',?_⟩
   refine QRows.store hQ48 hdl hal' (hp48.rat h41 (by decide)) (by decide) (fun g hg=>.inr hg) fun W49 hp49 hQ49=>⟨by unfold I64;omega,⟨j+1,by push_cast;rfl,by omega,((hE24.trans (hE.toM _)).trans (hp48.extN fun g hg=>hg)).trans (hp49.extN fun g hg=>hg),putPoly hp49 (putPoly hp48 (h24.ext hE) (by decide) (by decide)) (by decide) (by decide),?_⟩,hmu⟩
   rw[←fin _ rfl,if_pos (fun e=>hne (by rw[e]))]
   exact hQ49
  ·have hE:=hE32
   refine⟨⟨by omega,by omega⟩,ss[a],own_at hal,⟨by omega,by omega⟩,ss[d],own_at hdl,(hQ.ext hE).inB hal hdl',?_⟩
   refine QRows.store (hQ.ext hE) hal hdl' (hq.ext hE) (by decide) (fun g hg=>.inr hg) fun W48 hp48 hQ48=>⟨hQ48.inB hdl hal',?_⟩
   refine QRows.store hQ48 hdl hal' (hp48.rat (hq.ext hE) (by decide)) (by decide) (fun g hg=>.inr hg) fun W49 hp49 hQ49=>⟨by unfold I64;omega,⟨j+1,by push_cast;rfl,by omega,((hE24.trans (hE.toM _)).trans (hp48.extN fun g hg=>hg)).trans (hp49.extN fun g hg=>hg),putPoly hp49 (putPoly hp48 (h24.ext hE) (by decide) (by decide)) (by decide) (by decide),?_⟩,hmu⟩
   rw[←fin _ rfl,if_neg (fun e=>e (by omega))]
   exact hQ49
 ·have:j=p.length:=by omega
  subst this
  rw[List.take_length] at hQ
  exact(((hQ.ext hE55).ext hE56).mat (by omega) ((hO55.ext hE56).row)).mat
theorem gramMatrix_call {W0 W:PW} {M:Nat→Prop} {s:Sl} {p:List Tm} {n:Int} {k:Nat} {K:Value→PW→Prop} (h:IsPoly 260 136 W s p) (hG:PGood p) (hz: ∀t∈p,Sz k t.2) (hk:k≤1000000000) (kont: ∀(s':Sl) (b:Bool) (W':PW),Ext W W'→((b=true↔GmOK p n)∧(b=true→IsMat 260 62 119 W' s' (n.toNat+1) (fun _=>n.toNat+1) (gmat n.toNat p)))→K (.tuple ⟨[Sl.v s',.bool b]⟩) W'):
  callN Go.Proofs.Tryz.prog W0 M 16 [.agg ⟨[s.v]⟩,.int .i64 n] W K:=
 callN_of (fun W' hE=>gramMatrix_ok (M:=fun _=>False) (h.ext hE) hG hz hk) (fun W' v W'' hE hE' hP=>by
  obtain⟨s',b,rfl,h⟩:=hP
  exact kont s' b W'' (hE.trans hE') h)
end Go.Proofs.YtjgpenfndnhdnaaGreat

/- whole.Pow, rat.Pow; cinctureref1.times. -/
set_option maxRecDepth 100000
set_option linter.unusedVariables false
set_option linter.unusedSimpArgs false
namespace Go.Proofs.YtjgpenfndnhdnaaGreat
open Go Go.SX
theorem and1 {i:Nat} (h:i<256):bits .and .i64 (i:Int) 1=((i%2:Nat):Int):=by
 have key: ∀i:Nat,i<256→bits .and .i64 (i:Int) 1=((i%2:Nat):Int):=by decide +kernel
 exact key i h
theorem shr1 (i:Nat):ishr (i:Int) 1=((i/2:Nat):Int):=by
 unfold ishr
 rw[Int.fdiv_eq_ediv_of_nonneg _ (by decide)]
 omega
theorem nl_pow {z:Int} {k:Nat} (h:nl z.natAbs≤k) (e:Nat):nl (z^e).natAbs≤k*e+1:=by
 induction e with
 | zero=>simp[nl_one]
 | succ e ih=>
  rw[Int.pow_succ,Int.natAbs_mul]
  have:=nl_mul (z^e).natAbs z.natAbs
  rw[Nat.mul_add]
  omega
theorem wholePow_ok {W0:PW} {M:Nat→Prop} {s:Sl} {b:Bool} {z:Int} {n k:Nat} (h:IsInt 260 W0 s b z) (hz:nl z.natAbs≤k) (hk:k≤1048576) (hn:n≤255):
  PCallsM Go.Proofs.Tryz.prog 138 [.agg ⟨[s.v,.bool b]⟩,.int .i64 (n:Int)] W0 M fun v W'=>∃(s':Sl),∃(b':Bool),v = .agg ⟨[Sl.v s',.bool b']⟩∧IsInt 260 W' s' b' (z^n):=by
 apply callwhole_Pow
 have en:mn (mx (n:Int) 0) 255=(n:Int):=by unfold mn mx;split<;>(try split)<;>omega
 unfold Rwhole_Pow
 rw[en]
 refine wholeOf_call (z:=1) (by unfold I64;omega) fun s3 b4 W2 hE2 h2=>⟨s3,b4,rfl,?_⟩
 refine⟨fun l W=>match l with
  | [.val (.int .i64 i),.cells [.slice A m c,.bool x],.cells [.slice A' m' c',.bool y]]=>∃(j e f:Nat),i=(j:Int)∧Ext W0 W∧f+e*j=n∧e≤2*n+1∧j≤255∧IsInt 260 W ⟨A,m,c⟩ x (z^f)∧IsInt 260 W ⟨A',m',c'⟩ y (z^e)
  | _=>False,fun l _=>match l with | [.val (.int .i64 i),_,_]=>i.toNat | _=>0,⟨n,1,0,rfl,hE2,by omega,by omega,hn,by simpa using h2,by rw[show z^1=z by rw[Int.pow_succ,Int.pow_zero,Int.one_mul]];exact h.ext hE2⟩,?_⟩
 rintro s7 b8 s9 b10 i11 W12 ⟨j,e,f,rfl,hE,hfe,he,hj,hf1,hf2⟩
 have hf1:IsInt 260 W12 s7 b8 (z^f):=hf1
 have hf2:IsInt 260 W12 s9 b10 (z^e):=hf2
 have hjn:e*j≤n:=by omega
 refine⟨fun hpos=>?_,fun hz0 W25 hE25=>⟨s7,b8,rfl,?_⟩⟩
 ·have hj1:1≤j:=by omega
  have hen:e≤n:=Nat.le_trans (Nat.le_mul_of_pos_right e hj1) hjn
  have hsz: ∀x,x≤511→nl (z^x).natAbs≤68719476736:=fun x hx=>by
   have h1:=nl_pow hz x
   have h2:=Nat.mul_le_mul hk hx
   omega
  have hee:(e+e)*(j/2)=e*(2*(j/2)):=by rw[←Nat.two_mul,Nat.mul_comm 2 e,Nat.mul_assoc]
  have hi:Int.toNat (ishr (j:Int) 1)<Int.toNat (j:Int):=by rw[shr1];omega
  refine⟨fun hodd=>?_,fun heven=>?_⟩
  ·have ho:j%2=1:=by rw[and1 (by omega)] at hodd;omega
   have hj2:j=2*(j/2)+1:=by omega
   have hej:e*j=e*(2*(j/2))+e:=by conv=>lhs;rw[hj2,Nat.mul_add,Nat.mul_one]
   refine wholeMul_call hf1 hf2 (hsz f (by omega)) (hsz e (by omega)) fun s15 b16 W14 hE14 h14=>⟨s15,b16,rfl,wholeMul_call (hf2.ext hE14) (hf2.ext hE14) (hsz e (by omega)) (hsz e (by omega)) fun s19 b20 W18 hE18 h18=>⟨s19,b20,rfl,⟨j/2,e+e,f+e,by rw[shr1],hE.trans (hE14.trans hE18),by omega,by omega,by omega,?_,?_⟩,hi⟩⟩
   ·rw[Int.pow_add];exact h14.ext hE18
   ·rw[Int.pow_add];exact h18
  ·have ho:j%2=0:=by
    rw[and1 (by omega)] at heven
    omega
   have hj2:j=2*(j/2):=by omega
   have hej:e*j=e*(2*(j/2)):=by conv=>lhs;rw[hj2]
   refine wholeMul_call hf2 hf2 (hsz e (by omega)) (hsz e (by omega)) fun s23 b24 W22 hE22 h22=>⟨s23,b24,rfl,⟨j/2,e+e,f,by rw[shr1],hE.trans hE22,by omega,by omega,by omega,hf1.ext hE22,?_⟩,hi⟩
   rw[Int.pow_add];exact h22
 ·have:j=0:=by omega
  subst this
  rw[Nat.mul_zero,Nat.add_zero] at hfe
  rw[←hfe]
  exact hf1.ext hE25
theorem wholePow_call {W0 W:PW} {M:Nat→Prop} {s:Sl} {b:Bool} {z:Int} {n k:Nat} {K:Value→PW→Prop} (h:IsInt 260 W s b z) (hz:nl z.natAbs≤k) (hk:k≤1048576) (hn:n≤255) (kont: ∀(s':Sl) (b':Bool) (W':PW),Ext W W'→(IsInt 260 W' s' b' (z^n))→K (.agg ⟨[Sl.v s',.bool b']⟩) W'):
  callN Go.Proofs.Tryz.prog W0 M 138 [.agg ⟨[s.v,.bool b]⟩,.int .i64 (n:Int)] W K:=
 callN_of (fun W' hE=>wholePow_ok (M:=fun _=>False) (h.ext hE) hz hk hn) (fun W' v W'' hE hE' hP=>by
  obtain⟨s',b',rfl,h⟩:=hP
  exact kont s' b' W'' (hE.trans hE') h)
theorem dn_pow (q:Rat) (n:Nat):dn (q^n)=if dn q=0∨n=0 then 0 else q.den^n:=by
 unfold dn
 rw[Rat.den_pow]
 by_cases h1:q.den=1
 ·simp[h1]
 ·by_cases h2:n=0
  ·subst h2;simp
  ·have:q.den^n≠1:=by
    have hd:=q.den_nz
    obtain⟨m,rfl⟩: ∃m,n=m+1:=⟨n-1,by omega⟩
    rw[Nat.pow_succ]
    have:1≤q.den^m:=Nat.pow_pos (by omega)
    have:=Nat.mul_le_mul this (show 2≤q.den by omega)
    omega
   have hz:q.den≠0:=q.den_nz
   simp[h1,h2,this,hz]
theorem ratPow_ok {W0:PW} {M:Nat→Prop} {s t:Sl} {b:Bool} {q:Rat} {n k:Nat} (h:IsRat 260 W0 s b t q) (hz:Sz k q) (hk:k≤1048576) (hn:n≤255):
  PCallsM Go.Proofs.Tryz.prog 92 [.agg ⟨[s.v,.bool b,t.v]⟩,.int .i64 (n:Int)] W0 M fun v W'=>∃(s':Sl),∃(b':Bool),∃(t':Sl),v = .agg ⟨[Sl.v s',.bool b',Sl.v t']⟩∧IsRat 260 W' s' b' t' (q^n):=by
 apply callrat_Pow
 have hd:=hz.dn
 refine wholePow_call h.1 hz.1 hk hn fun s3 b4 W2 hE2 h2=>⟨s3,b4,rfl,natBits_call (h.2.ext hE2) (by omega) fun W6 hE6 _=>⟨_,rfl,fun hb=>⟨fun hn0=>?_,fun hn0 W20 hE20=>⟨s3,b4,⟨none,0,0⟩,rfl,(h2.ext hE6).ext hE20,?_⟩⟩,fun hb W21 hE21=>⟨s3,b4,⟨none,0,0⟩,rfl,(h2.ext hE6).ext hE21,?_⟩⟩⟩
 ·refine ratDen_call (h.ext (hE2.trans hE6)) hz (by omega) fun s10 b11 W9 hE9 h9=>⟨s10,b11,rfl,wholePow_call h9 (by rw[Int.natAbs_natCast];exact hz.2) hk hn fun s14 b15 W13 hE13 h13=>⟨s14,b15,rfl,wholeAbs_call h13 fun s18 W17 hE17 h17=>⟨s18,rfl,fun W19 hE19=>⟨s3,b4,s18,rfl,(h2.ext (hE6.trans (hE9.trans (hE13.trans hE17)))).ext hE19,?_⟩⟩⟩⟩
  have hdq:dn q≠0:=fun e=>by
   rw[e] at hb
   simp[blen] at hb
  have e:dn (q^n)=q.den^n:=by rw[dn_pow,if_neg (by omega)]
  rw[e]
  have e2:((q.den:Int)^n).natAbs=q.den^n:=by rw[Int.natAbs_pow,Int.natAbs_natCast]
  rw[e2] at h17
  exact h17.ext hE19
 ·have:n=0:=by omega
  rw[dn_pow,if_pos (.inr this)]
  exact isNat_zero W20
 ·have:dn q=0:=(blen_eq_zero (x:=dn q)).1 (by omega)
  rw[dn_pow,if_pos (.inl this)]
  exact isNat_zero W21
theorem ratPow_call {W0 W:PW} {M:Nat→Prop} {s t:Sl} {b:Bool} {q:Rat} {n k:Nat} {K:Value→PW→Prop} (h:IsRat 260 W s b t q) (hz:Sz k q) (hk:k≤1048576) (hn:n≤255) (kont: ∀(s':Sl) (b':Bool) (t':Sl) (W':PW),Ext W W'→(IsRat 260 W' s' b' t' (q^n))→K (.agg ⟨[Sl.v s',.bool b',Sl.v t']⟩) W'):
  callN Go.Proofs.Tryz.prog W0 M 92 [.agg ⟨[s.v,.bool b,t.v]⟩,.int .i64 (n:Int)] W K:=
 callN_of (fun W' hE=>ratPow_ok (M:=fun _=>False) (h.ext hE) hz hk hn) (fun W' v W'' hE hE' hP=>by
  obtain⟨s',b',t',rfl,h⟩:=hP
  exact kont s' b' t' W'' (hE.trans hE') h)
end Go.Proofs.YtjgpenfndnhdnaaGreat

/- cinctureref1.times; poly.At, cinctureref1.At. -/
set_option maxRecDepth 100000
set_option linter.unusedVariables false
set_option linter.unusedSimpArgs false
namespace Go.Proofs.YtjgpenfndnhdnaaGreat
open Go Go.SX
theorem Sz.powq {k:Nat} {q:Rat} (h:Sz k q) (n:Nat):Sz (k*n+1) (q^n):=by
 induction n with
 | zero=>rw[Rat.pow_zero];exact Sz.one (by omega)
 | succ n ih=>
  rw[Rat.pow_succ]
  exact(ih.mul h).mono (by rw[Nat.mul_add];omega)
structure Pt where
 x:Rat
 y:Rat
 z:Rat
def Pt.get (u:Pt) (k:Nat):Rat:=if k=0 then u.x else if k=1 then u.y else u.z
def ctm (t:Tm) (u:Pt):Nat→Rat
 | 0=>t.2
 | j+1=>ctm t u j*u.get j^(eget t.1 j).toNat
def atQ (u:Pt) (p:List Tm):Rat:=p.foldl (fun a t=>a+ctm t u 3) 0
theorem atQ_snoc (u:Pt) (l:List Tm) (t:Tm):atQ u (l ++ [t])=atQ u l+ctm t u 3:=by simp[atQ]
theorem ctm_sz {t:Tm} {u:Pt} {k l e:Nat} (ht:Sz k t.2) (hu: ∀i,Sz l (u.get i)) (he: ∀i,(eget t.1 i).toNat≤e): ∀j,Sz (k+j*(l*e+1)) (ctm t u j)
 | 0=>by rw[Nat.zero_mul,Nat.add_zero];exact ht
 | j+1=>by
  have h1:=ctm_sz ht hu he j
  have h2:=Sz.powq (hu j) (eget t.1 j).toNat
  have h3:=Nat.mul_le_mul_left l (he j)
  exact(h1.mul h2).mono (by rw[Nat.add_mul,Nat.one_mul];omega)
theorem atQ_sz {u:Pt} {k l e:Nat} {p:List Tm} (hp: ∀t∈p,Sz k t.2) (hu: ∀i,Sz l (u.get i)) (he: ∀t∈p,∀i,(eget t.1 i).toNat≤e):Sz (p.length*(k+3*(l*e+1)+1)+1) (atQ u p):=by
 have key: ∀j,j≤p.length→Sz (j*(k+3*(l*e+1)+1)+1) (atQ u (p.take j)):=by
  intro j
  induction j with
  | zero=>intro _;exact Sz.zero (by omega)
  | succ j ih=>
   intro hj
   have hjl:j<p.length:=by omega
   rw[take_snocR hjl,atQ_snoc]
   have h1:=ih (by omega)
   have h2:=ctm_sz (hp _ (List.getElem_mem hjl)) hu (he _ (List.getElem_mem hjl)) 3
   refine(h1.add h2).mono ?_
   rw[Nat.add_mul,Nat.one_mul]
   omega
 have:=key p.length (Nat.le_refl _)
 rwa [List.take_length] at this
theorem eget_le {m:Mon} (h:m.ok) (i:Nat):(eget m i).toNat≤255:=by
 have:=eget_ok h i
 omega
def atO (W0:PW) (p:List Tm) (u:Pt) (L:List PL) (W:PW):Prop:=match L with
 | [.val (.int .i64 i),.cells [.slice A m c,.bool x,.slice A' m' c']]=>∃j:Nat,i=(j:Int)∧j≤p.length∧Ext W0 W∧IsRat 260 W ⟨A,m,c⟩ x ⟨A',m',c'⟩ (atQ u (p.take j))
 | _=>False
def atI (W1:PW) (t:Tm) (u:Pt) (L:List PL) (W:PW):Prop:=match L with
 | [.val (.int .i64 i),.cells [.slice A m c,.bool x,.slice A' m' c']]=>∃j:Nat,i=(j:Int)∧j≤3∧Ext W1 W∧IsRat 260 W ⟨A,m,c⟩ x ⟨A',m',c'⟩ (ctm t u j)
 | _=>False
theorem polyAt_ok {W0:PW} {M:Nat→Prop} {s s0 t0 s1 t1 s2 t2:Sl} {b0 b1 b2:Bool} {p:List Tm} {u:Pt} {k l:Nat} (h:IsPoly 260 136 W0 s p) (g0:IsRat 260 W0 s0 b0 t0 u.x) (g1:IsRat 260 W0 s1 b1 t1 u.y) (g2:IsRat 260 W0 s2 b2 t2 u.z) (hp: ∀t∈p,Sz k t.2) (hu: ∀i,Sz l (u.get i)) (hl:l≤100000) (hb:p.length*(k+3*(l*255+1)+1)+1≤400000000) (hk:k+3*(l*255+1)≤400000000):
  PCallsM Go.Proofs.Tryz.prog 39 [.agg ⟨[s.v]⟩,.agg ⟨[s0.v,.bool b0,t0.v,s1.v,.bool b1,t1.v,s2.v,.bool b2,t2.v]⟩] W0 M fun v W'=>∃(s':Sl),∃(b':Bool),∃(t':Sl),v = .agg ⟨[Sl.v s',.bool b',Sl.v t']⟩∧IsRat 260 W' s' b' t' (atQ u p):=by
 apply callpoly_At
 have hn:=h.n
 have hpl:p.length≤400000000:=by
  have:=Nat.le_mul_of_pos_right p.length (show 0<k+3*(l*255+1)+1 by omega)
  omega
 refine⟨atO W0 p u,cn1 p.length,⟨0,rfl,by omega,Ext.refl _,isRat_zero W0⟩,?_⟩
 rintro s3 b4 s5 i6 W7 ⟨j,rfl,hj,hE7,hs⟩
 have hs:IsRat 260 W7 s3 b4 s5 (atQ u (p.take j)):=hs
 refine⟨fun hlt=>?_,fun hge W40 hE40=>⟨s3,b4,s5,rfl,?_⟩⟩
 ·have hjl:j<p.length:=by omega
  have hP:=h.ext hE7
  have hm:=List.getElem_mem hjl
  obtain⟨h0,c1,d1,c2,e1,_,_,hr⟩:=hP.at (List.getElem?_eq_getElem hjl)
  have hcs:=fun i=>ctm_sz (j:=i) (hp _ hm) hu (fun i=>eget_le h0 i)
  have hbd: ∀i,i≤3→k+i*(l*255+1)≤400000000:=fun i hi=>by
   have:=Nat.mul_le_mul_right (l*255+1) hi
   omega
  refine⟨hP.inB (by omega) (by omega),_,_,_,c1,d1,c2,e1,atI W7 p[j] u,cn1 3,⟨0,rfl,by omega,Ext.refl _,hr⟩,?_⟩
  rintro s16 b17 s18 i19 W20 ⟨m,rfl,hm3,hE20,hc⟩
  have hc:IsRat 260 W20 s16 b17 s18 (ctm p[j] u m):=hc
  refine⟨fun hlt'=>?_,fun hge'=>?_⟩
  ·have hm3':m<3:=by omega
   have hmr:(0:Int)≤(m:Int)∧(m:Int)<3:=⟨by omega,by omega⟩
   have hek:=eget_ok h0 m
   have hE:=hE7.trans hE20
   obtain⟨x1,y1,z1,hbx,hux⟩: ∃(x1:Sl) (y1:Bool) (z1:Sl),BoxAt [s0.v,.bool b0,t0.v,s1.v,.bool b1,t1.v,s2.v,.bool b2,t2.v] (0+Int.toNat (m:Int)*3+0) [x1.v,.bool y1,z1.v]∧IsRat 260 W20 x1 y1 z1 (u.get m):=by
    rcases(by omega:m=0∨m=1∨m=2) with rfl | rfl | rfl
    ·exact⟨s0,b0,t0,⟨by simp,rfl⟩,g0.ext hE⟩
    ·exact⟨s1,b1,t1,⟨by simp,rfl⟩,g1.ext hE⟩
    ·exact⟨s2,b2,t2,⟨by simp,rfl⟩,g2.ext hE⟩
   obtain⟨n,hnn⟩:=Int.eq_ofNat_of_zero_le hek.1
   refine⟨hmr,_,take_mon p[j].1 hm3',hmr,x1,y1,z1,hbx,by unfold I64;omega,?_⟩
   rw[hnn]
   have hp2:=Nat.mul_le_mul_left l (by omega:n≤255)
   refine ratPow_call hux (hu m) (by omega) (by omega) fun s27 b28 s29 W26 hE26 h26=>⟨s27,b28,s29,rfl,ratMul_call (hc.ext hE26) h26 (hcs m) (Sz.powq (hu m) n) (by have:=hbd m (by omega);omega) (by omega) fun s32 b33 s34 W31 hE31 h31=>⟨s32,b33,s34,rfl,by unfold I64;omega,⟨m+1,by push_cast;rfl,by omega,hE20.trans (hE26.trans hE31),?_⟩,?_⟩⟩
   ·show IsRat 260 W31 s32 b33 s34 (ctm p[j] u m*u.get m^(eget p[j].1 m).toNat)
    rw[hnn]
    exact h31
   ·show 3-Int.toNat ((m:Int)+1)<3-Int.toNat (m:Int)
    omega
  ·have:m=3:=by omega
   subst this
   have hsz:=atQ_sz (u:=u) (p:=p.take j) (k:=k) (l:=l) (e:=255) (fun t ht=>hp t (List.mem_of_mem_take ht)) hu (fun t ht i=>eget_le (h.ok t (List.mem_of_mem_take ht)) i)
   have hl2:(p.take j).length*(k+3*(l*255+1)+1)≤p.length*(k+3*(l*255+1)+1):=Nat.mul_le_mul_right _ (by rw[List.length_take];omega)
   refine ratAdd_call (hs.ext hE20) hc hsz (hcs 3) (by omega) (by omega) fun s37 b38 s39 W36 hE36 h36=>⟨s37,b38,s39,rfl,by unfold I64;omega,⟨j+1,by push_cast;rfl,by omega,hE7.trans (hE20.trans hE36),?_⟩,?_⟩
   ·rw[take_snocR hjl,atQ_snoc]
    exact h36
   ·show p.length-Int.toNat ((j:Int)+1)<p.length-Int.toNat (j:Int)
    omega
 ·have:j=p.length:=by omega
  subst this
  rw[List.take_length] at hs
  exact hs.ext hE40
theorem polyAt_call {W0 W:PW} {M:Nat→Prop} {s s0 t0 s1 t1 s2 t2:Sl} {b0 b1 b2:Bool} {p:List Tm} {u:Pt} {k l:Nat} {K:Value→PW→Prop} (h:IsPoly 260 136 W s p) (g0:IsRat 260 W s0 b0 t0 u.x) (g1:IsRat 260 W s1 b1 t1 u.y) (g2:IsRat 260 W s2 b2 t2 u.z) (hp: ∀t∈p,Sz k t.2) (hu: ∀i,Sz l (u.get i)) (hl:l≤100000) (hb:p.length*(k+3*(l*255+1)+1)+1≤400000000) (hk:k+3*(l*255+1)≤400000000) (kont: ∀(s':Sl) (b':Bool) (t':Sl) (W':PW),Ext W W'→(IsRat 260 W' s' b' t' (atQ u p))→K (.agg ⟨[Sl.v s',.bool b',Sl.v t']⟩) W'):
  callN Go.Proofs.Tryz.prog W0 M 39 [.agg ⟨[s.v]⟩,.agg ⟨[s0.v,.bool b0,t0.v,s1.v,.bool b1,t1.v,s2.v,.bool b2,t2.v]⟩] W K:=
 callN_of (fun W' hE=>polyAt_ok (M:=fun _=>False) (h.ext hE) (g0.ext hE) (g1.ext hE) (g2.ext hE) hp hu hl hb hk) (fun W' v W'' hE hE' hP=>by
  obtain⟨s',b',t',rfl,h⟩:=hP
  exact kont s' b' t' W'' (hE.trans hE') h)
end Go.Proofs.YtjgpenfndnhdnaaGreat
