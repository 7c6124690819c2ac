/- gram.Matrix. -/
import Derived.Test.YthpmkcidkcmlgaaGreatW14
import Derived.Test.YthpmkcidkcmlgaaGreatW15
import Derived.Test.YthpmkcidkcmlgaaGreatLib4
import Derived.Test.YthpmkcidkcmlgaaGreatW6
import Derived.Test.YthpmkcidkcmlgaaGreatR11
import Derived.Test.YthpmkcidkcmlgaaGreatLib2
import Derived.Test.YthpmkcidkcmlgaaGreatR14
import Derived.Test.YthpmkcidkcmlgaaGreatW12
set_option linter.unusedVariables false
set_option linter.unusedSimpArgs false
set_option maxRecDepth 100000
set_option linter.unusedVariables false
set_option linter.unusedSimpArgs false
namespace Go.Proofs.YthpmkcidkcmlgaaGreat
open Go Go.SX
def pa (m:Mon) (n:Nat):Nat:=((pl m 3).getD 0 (n:Int)).toNat
def pb (m:Mon) (n:Nat):Nat:=((pl m 3).getD 1 (n:Int)).toNat
theorem pl_mem {m:Mon} (h:m.ok): ∀x∈pl m 3,0≤x∧x<varsM m:=by
 unfold Mon.ok at h
 intro x hx
 simp only[pl,eget,List.nil_append,List.mem_append,List.mem_replicate] at hx
 unfold varsM
 simp at hx
 (repeat' split)<;>omega
theorem place_ok {m:Mon} {n:Nat} (h:m.ok) (hv:varsM m≤n) (i:Nat):0≤(pl m 3).getD i (n:Int)∧(pl m 3).getD i (n:Int)≤n:=by
 rw[List.getD_eq_getElem?_getD]
 by_cases hi:i<(pl m 3).length
 ·rw[List.getElem?_eq_getElem hi]
  have:=pl_mem h _ (List.getElem_mem hi)
  simp only[Option.getD_some]
  omega
 ·rw[List.getElem?_eq_none (by omega)]
  simp only[Option.getD_none]
  omega
theorem pa_eq {m:Mon} {n:Nat} (h:m.ok) (hv:varsM m≤n):(pl m 3).getD 0 (n:Int)=(pa m n:Int)∧pa m n<n+1:=by
 have:=place_ok h hv 0
 unfold pa
 omega
theorem pb_eq {m:Mon} {n:Nat} (h:m.ok) (hv:varsM m≤n):(pl m 3).getD 1 (n:Int)=(pb m n:Int)∧pb m n<n+1:=by
 have:=place_ok h hv 1
 unfold pb
 omega
def gset (n:Nat) (M:Nat→Nat→Rat) (t:Tm):Nat→Nat→Rat:=
 setM (setM M (pa t.1 n) (pb t.1 n) (if pa t.1 n≠pb t.1 n then t.2/2 else t.2)) (pb t.1 n) (pa t.1 n) (if pa t.1 n≠pb t.1 n then t.2/2 else t.2)
def gmat (n:Nat) (p:List Tm):Nat→Nat→Rat:=p.foldl (gset n) fun _ _=>0
def GmOK (p:List Tm) (n:Int):Prop:=1≤n∧n≤3∧maxf Mon.deg (-1) p≤2∧maxf varsM 0 p≤n
theorem putPoly {tu tt tq:TypeId} {N:Nat→Prop} {W W':PW} {s:Sl} {p:List Tm} (h:Put tq N W W') (hp:IsPoly tu tt W s p) (h1:tt≠tq) (h2:tu≠tq):IsPoly tu tt W' s p:=
 let⟨g,_,hw⟩:=h;let⟨xs,k1,k2⟩:=hp
 ⟨xs,hw.row k1 h1,k2.mono fun _ _ ⟨h0,s1,b,s2,e1,e2⟩=>⟨h0,s1,b,s2,e1,hw.rat e2 h2⟩⟩
theorem sz_two:Sz 1 ((2:Int):Rat):=⟨by rw[Rat.num_intCast];exact nl_le (by decide),by rw[Rat.den_intCast];exact Nat.le_of_eq nl_one⟩
def gI (W0:PW) (r:Nat) (L:List PL) (W:PW):Prop:=match L with
 | [.val (.int .i64 i),.row l]=>Ext W0 W∧∃(k:Nat) (ss:List Sl),i=(k:Int)∧k≤r∧ss.length=k∧l=(ss.map fun x=>[x.v]) ++ List.replicate (r-k) [.slice none 0 0]∧QRows 317 51 (W0.w.heap.size≤·) W ss r fun _ _=>0
 | _=>False
def gJ (W0:PW) (ss:List Sl) (s:Sl) (p:List Tm) (n:Nat) (L:List PL) (W:PW):Prop:=match L with
 | [.val (.int .i64 i)]=>∃k:Nat,i=(k:Int)∧k≤p.length∧ExtN W0.w.heap.size W0 W∧IsPoly 317 188 W s p∧QRows 317 51 (W0.w.heap.size≤·) W ss (n+1) (gmat n (p.take k))
 | _=>False
theorem gramMatrix_ok {W0:PW} {M:Nat→Prop} {s:Sl} {p:List Tm} {n:Int} {k:Nat} (h:IsPoly 317 188 W0 s p) (hG:PGood p) (hz: ∀t∈p,Sz k t.2) (hk:k≤1000000000):
  PCallsM Go.Proofs.Tryz.prog 14 [.agg ⟨[s.v]⟩,.int .i64 n] W0 M fun v W'=>∃(s':Sl),∃(b:Bool),v = .tuple ⟨[Sl.v s',.bool b]⟩∧(b=true↔GmOK p n)∧(b=true→IsMat 317 51 100 W' s' (n.toNat+1) (fun _=>n.toNat+1) (gmat n.toNat p))∧(b=false→s'=⟨none,0,0⟩):=by
 apply callgram_Matrix
 have hl:=PGood.len hG h.ok
 have bad:¬GmOK p n→∀W':PW,∃(s':Sl) (b:Bool),(Value.tuple ⟨[.slice none 0 0,.bool false]⟩) = .tuple ⟨[Sl.v s',.bool b]⟩∧(b=true↔GmOK p n)∧(b=true→IsMat 317 51 100 W' s' (n.toNat+1) (fun _=>n.toNat+1) (gmat n.toNat p))∧(b=false→s'=⟨none,0,0⟩):=
  fun hN W'=>⟨⟨none,0,0⟩,false,rfl,⟨fun e=>(by cases e),fun e=>absurd e hN⟩,fun e=>(by cases e),fun _=>rfl⟩
 refine⟨fun h1 W1 _=>bad (fun e=>by have:=e.1;omega) W1,fun h1=>⟨fun h3 W2 _=>bad (fun e=>by have:=e.2.1;omega) W2,fun h3=>?_⟩⟩
 refine polyDegree_call h (by omega) fun W4 hE4 _=>⟨_,rfl,?_⟩
 rw[lastDeg_max hG h.ok]
 refine⟨fun hd W6 _=>bad (fun e=>by have:=e.2.2.1;omega) W6,fun hd=>?_⟩
 refine polyVars_call (h.ext hE4) (by omega) fun W8 hE8 _=>⟨_,rfl,fun hv W10 _=>bad (fun e=>by have:=e.2.2.2;omega) W10,fun hv=>?_⟩
 have hOK:GmOK p n:=⟨by omega,by omega,by omega,by omega⟩
 obtain⟨c,rfl⟩:=Int.eq_ofNat_of_zero_le (show 0≤n by omega)
 rw[show Int.toNat ((c:Int)+1)=c+1 by omega,List.length_replicate,Int.toNat_natCast]
 refine⟨by unfold I64;omega,⟨rfl,by omega,by omega⟩,gI W0 (c+1),fun L _=>match L with | [.val (.int .i64 i),_]=>c+1-i.toNat | _=>0,⟨hE4.trans hE8,0,[],rfl,Nat.zero_le _,rfl,by simp,QRows.nil⟩,?_⟩
 rintro l13 i14 W15 ⟨hE15,k,ss,rfl,hkr,hsl,rfl,hQ⟩
 have hlen:((ss.map fun x=>[x.v]) ++ List.replicate (c+1-k) [Value.slice none 0 0]).length=c+1:=by simp;omega
 refine⟨fun hlt=>⟨by unfold I64;omega,⟨rfl,by omega,by omega⟩,⟨by omega,by rw[hlen];omega⟩,fun s16 W17 hE17 hO hf=>⟨by rw[hlen];omega,by unfold I64;omega,⟨hE15.trans hE17,k+1,ss ++ [s16],by push_cast;rfl,by omega,by simp[hsl],?_,?_⟩,?_⟩⟩,fun hge=>?_⟩
 ·rw[Int.toNat_natCast,List.set_append_right _ _ (by simp[hsl])]
  simp only[List.length_map,hsl,Nat.sub_self,List.map_append,List.map_cons,List.map_nil]
  rw[show c+1-k=(c+1-(k+1))+1 by omega,List.replicate_succ,List.set_cons_zero]
  simp
 ·exact hQ.snoc hE17 hO (fun g hg=>hf g hg) (qs_zero W17 (c+1))
 ·show c+1-Int.toNat ((k:Int)+1)<c+1-Int.toNat (k:Int)
  omega
 have hkc:k=c+1:=by omega
 subst hkc
 rw[Nat.sub_self,List.replicate_zero,List.append_nil]
 obtain⟨xs,hr,ha⟩:=h.ext hE15
 have hxl:=ha.len
 refine polyTerms_call hr (by omega) fun s20 W19 hE19 ⟨_,hO19⟩=>⟨s20,rfl,?_⟩
 have h19:IsPoly 317 188 W19 s20 p:=⟨xs,hO19.row,ha.mono fun _ _ e=>e.ext hE19⟩
 have hn19:=h19.n
 refine⟨gJ W0 ss s20 p c,fun L _=>match L with | [.val (.int .i64 i)]=>p.length-i.toNat | _=>0,⟨0,rfl,Nat.zero_le _,(hE15.trans hE19).toM _,h19,hQ.ext hE19⟩,?_⟩
 clear hQ h19 hO19 hr ha
 rintro i23 W24 ⟨j,rfl,hj,hE24,h24,hQ⟩
 refine⟨fun hlt=>?_,fun hge s54 W55 hE55 hO55 _ W56 hE56=>⟨s54,true,rfl,⟨fun _=>hOK,fun _=>rfl⟩,fun _=>?_,fun e=>(by cases e)⟩⟩
 ·have hjl:j<p.length:=by omega
  have hmem:=List.getElem_mem hjl
  obtain⟨k0,s1,b,s2,e1,_,_,hq⟩:=h24.at (List.getElem?_eq_getElem hjl)
  have hdj:p[j].1.deg≤2:=by have:=(le_maxf (w:=Mon.deg) (n:=-1) (p:=p)).2 _ hmem;omega
  have hvj:varsM p[j].1≤c:=by have:=(le_maxf (w:=varsM) (n:=0) (p:=p)).2 _ hmem;omega
  have ea:=pa_eq k0 hvj
  have eb:=pb_eq k0 hvj
  refine⟨h24.inB (by omega) (by omega),_,_,_,s1,b,s2,e1,gramPlaces_call k0 hdj fun W32 hE32 _=>⟨_,_,rfl,?_⟩⟩
  rw[ea.1,eb.1]
  obtain⟨a,hae⟩: ∃a,pa p[j].1 c=a:=⟨_,rfl⟩
  obtain⟨d,hde⟩: ∃d,pb p[j].1 c=d:=⟨_,rfl⟩
  rw[hae] at ea
  rw[hde] at eb
  rw[hae,hde]
  have hal:a<ss.length:=by omega
  have hdl:d<ss.length:=by omega
  have hal':a<c+1:=ea.2
  have hdl':d<c+1:=eb.2
  have hmu:p.length-Int.toNat ((j:Int)+1)<p.length-Int.toNat (j:Int):=by omega
  have hll:(ss.map fun x:Sl=>[x.v]).length=ss.length:=List.length_map _
  have fin: ∀q:Rat,q=(if a≠d then p[j].2/2 else p[j].2)→setM (setM (gmat c (p.take j)) a d q) d a q=gmat c (p.take (j+1)):=by
   rintro q rfl
   rw[take_snocR hjl]
   unfold gmat
   rw[List.foldl_append,List.foldl_cons,List.foldl_nil,gset,hae,hde]
  refine⟨fun hne=>?_,fun heq=>?_⟩
  ·refine ratOf_call (by unfold I64;omega) fun s37 b38 s39 W36 hE36 h36=>⟨s37,b38,s39,rfl,?_⟩
   refine ratDiv_call (k:=k) (l:=1) ((hq.ext hE32).ext hE36) h36 (hz _ hmem) sz_two (by omega) (by omega) (by omega) fun s42 b43 s44 W41 hE41 h41=>⟨s42,b43,s44,_,rfl,?_⟩
   have hE:=(hE32.trans hE36).trans hE41
   refine⟨⟨by omega,by omega⟩,ss[a],own_at hal,⟨by omega,by omega⟩,ss[d],own_at hdl,(hQ.ext hE).inB hal hdl',?_⟩
   refine QRows.store (hQ.ext hE) hal hdl' h41 (by decide) (fun g hg=>.inr hg) fun W48 hp48 hQ48=>⟨hQ48.inB hdl hal',?_⟩
   refine QRows.store hQ48 hdl hal' (hp48.rat h41 (by decide)) (by decide) (fun g hg=>.inr hg) fun W49 hp49 hQ49=>⟨by unfold I64;omega,⟨j+1,by push_cast;rfl,by omega,((hE24.trans (hE.toM _)).trans (hp48.extN fun g hg=>hg)).trans (hp49.extN fun g hg=>hg),putPoly hp49 (putPoly hp48 (h24.ext hE) (by decide) (by decide)) (by decide) (by decide),?_⟩,hmu⟩
   rw[←fin _ rfl,if_pos (fun e=>hne (by rw[e]))]
   exact hQ49
  ·have hE:=hE32
   refine⟨⟨by omega,by omega⟩,ss[a],own_at hal,⟨by omega,by omega⟩,ss[d],own_at hdl,(hQ.ext hE).inB hal hdl',?_⟩
   refine QRows.store (hQ.ext hE) hal hdl' (hq.ext hE) (by decide) (fun g hg=>.inr hg) fun W48 hp48 hQ48=>⟨hQ48.inB hdl hal',?_⟩
   refine QRows.store hQ48 hdl hal' (hp48.rat (hq.ext hE) (by decide)) (by decide) (fun g hg=>.inr hg) fun W49 hp49 hQ49=>⟨by unfold I64;omega,⟨j+1,by push_cast;rfl,by omega,((hE24.trans (hE.toM _)).trans (hp48.extN fun g hg=>hg)).trans (hp49.extN fun g hg=>hg),putPoly hp49 (putPoly hp48 (h24.ext hE) (by decide) (by decide)) (by decide) (by decide),?_⟩,hmu⟩
   rw[←fin _ rfl,if_neg (fun e=>e (by omega))]
   exact hQ49
 ·have:j=p.length:=by omega
  subst this
  rw[List.take_length] at hQ
  exact(((hQ.ext hE55).ext hE56).mat (by omega) ((hO55.ext hE56).row)).mat
theorem gramMatrix_call {W0 W:PW} {M:Nat→Prop} {s:Sl} {p:List Tm} {n:Int} {k:Nat} {K:Value→PW→Prop} (h:IsPoly 317 188 W s p) (hG:PGood p) (hz: ∀t∈p,Sz k t.2) (hk:k≤1000000000) (kont: ∀(s':Sl) (b:Bool) (W':PW),Ext W W'→((b=true↔GmOK p n)∧(b=true→IsMat 317 51 100 W' s' (n.toNat+1) (fun _=>n.toNat+1) (gmat n.toNat p))∧(b=false→s'=⟨none,0,0⟩))→K (.tuple ⟨[Sl.v s',.bool b]⟩) W'):
  callN Go.Proofs.Tryz.prog W0 M 14 [.agg ⟨[s.v]⟩,.int .i64 n] W K:=
 callN_of (fun W' hE=>gramMatrix_ok (M:=fun _=>False) (h.ext hE) hG hz hk) (fun W' v W'' hE hE' hP=>by
  obtain⟨s',b,rfl,h⟩:=hP
  exact kont s' b W'' (hE.trans hE') h)
end Go.Proofs.YthpmkcidkcmlgaaGreat

/- whole.Pow, rat.Pow; cinctureref1.times. -/
set_option maxRecDepth 100000
set_option linter.unusedVariables false
set_option linter.unusedSimpArgs false
namespace Go.Proofs.YthpmkcidkcmlgaaGreat
open Go Go.SX
end Go.Proofs.YthpmkcidkcmlgaaGreat

/- cinctureref1.times; poly.At, cinctureref1.At. -/
set_option maxRecDepth 100000
set_option linter.unusedVariables false
set_option linter.unusedSimpArgs false
namespace Go.Proofs.YthpmkcidkcmlgaaGreat
open Go Go.SX
end Go.Proofs.YthpmkcidkcmlgaaGreat

/- The matrix of a polynomial of degree 2 has its values: plain law. -/
set_option maxRecDepth 100000
set_option linter.unusedVariables false
set_option linter.unusedSimpArgs false
namespace Go.Proofs.YthpmkcidkcmlgaaGreat
open Go Go.SX
def mons:List Mon:=[⟨0,0,0⟩,⟨1,0,0⟩,⟨0,1,0⟩,⟨0,0,1⟩,⟨2,0,0⟩,⟨1,1,0⟩,⟨1,0,1⟩,⟨0,2,0⟩,⟨0,1,1⟩,⟨0,0,2⟩]
theorem mem_mons {m:Mon} (h:m.ok) (hd:m.deg≤2):m∈mons:=by
 obtain⟨x,y,z⟩:=m
 unfold Mon.ok at h
 unfold Mon.deg at hd
 dsimp only at h hd
 rcases(by omega:x=0∨x=1∨x=2) with rfl | rfl | rfl<;>rcases(by omega:y=0∨y=1∨y=2) with rfl | rfl | rfl<;>rcases(by omega:z=0∨z=1∨z=2) with rfl | rfl | rfl<;>first | (exfalso;omega) | simp[mons]
theorem place_inj: ∀n∈[1,2,3],∀m∈mons,∀m'∈mons,varsM m≤((n:Nat):Int)→varsM m'≤(n:Int)→pa m n=pa m' n∧pb m n=pb m' n∨pa m n=pb m' n∧pb m n=pa m' n→m=m':=by
 decide
theorem lsum_one {a:Nat} {f:Nat→Rat} : ∀{n:Nat},a<n→lsum (fun j=>if j=a then f j else 0) n=f a
 | 0,h=>by omega
 | n+1,h=>by
  simp only[lsum]
  by_cases e:n=a
  ·subst e
   rw[if_pos rfl,lsum_zero fun j hj=>if_neg (by omega),Rat.zero_add]
  ·rw[if_neg e,lsum_one (by omega),Rat.add_zero]
theorem quadH_set {M H:Nat→Nat→Rat} {a b r:Nat} {q:Rat} (h:M a b=0) (ha:a<r) (hb:b<r):quadH (setM M a b q) H r=quadH M H r+q*H a b:=by
 have e: ∀i,lsum (fun k=>setM M a b q i k*H i k) r=lsum (fun k=>M i k*H i k) r+(if i=a then q*H i b else 0):=fun i=>by
  by_cases hi:i=a
  ·subst hi
   rw[if_pos rfl,←lsum_one (f:=fun k=>q*H i k) hb,←lsum_add]
   refine lsum_congr fun k _=>?_
   unfold setM
   by_cases hk:k=b
   ·subst hk
    rw[if_pos ⟨rfl,rfl⟩,if_pos rfl,h]
    grind
   ·rw[if_neg (fun e=>hk e.2),if_neg hk,Rat.add_zero]
  ·rw[if_neg hi,Rat.add_zero]
   refine lsum_congr fun k _=>?_
   unfold setM
   rw[if_neg (fun e=>hi e.1)]
 unfold quadH
 simp only[e]
 rw[lsum_add,lsum_one (f:=fun i=>q*H i b) ha]
theorem quadH_gset {M H:Nat→Nat→Rat} {n:Nat} {t:Tm} (hs: ∀i k,H i k=H k i) (ha:pa t.1 n<n+1) (hb:pb t.1 n<n+1) (h1:M (pa t.1 n) (pb t.1 n)=0) (h2:M (pb t.1 n) (pa t.1 n)=0):
  quadH (gset n M t) H (n+1)=quadH M H (n+1)+t.2*H (pa t.1 n) (pb t.1 n):=by
 unfold gset
 by_cases e:pa t.1 n=pb t.1 n
 ·rw[if_neg (fun h=>h e),←e]
  rw[←e] at h1
  have:setM (setM M (pa t.1 n) (pa t.1 n) t.2) (pa t.1 n) (pa t.1 n) t.2=setM M (pa t.1 n) (pa t.1 n) t.2:=by
   funext i k
   unfold setM
   split<;>rfl
  rw[this,quadH_set h1 ha ha]
 ·rw[if_pos e,quadH_set (by unfold setM;rw[if_neg (fun h=>e h.1.symm)];exact h2) hb ha,quadH_set h1 ha hb,hs (pb t.1 n)]
  grind
theorem gset_sym {n:Nat} {M:Nat→Nat→Rat} {t:Tm} (h: ∀i j,M i j=M j i) (i j:Nat):gset n M t i j=gset n M t j i:=by
 unfold gset setM
 (repeat' split)<;>first | rfl | (exfalso;omega) | exact h i j
theorem gmat_sym (n:Nat): ∀(l:List Tm) (M:Nat→Nat→Rat),(∀i j,M i j=M j i)→∀i j,l.foldl (gset n) M i j=l.foldl (gset n) M j i
 | [],M,h,i,j=>h i j
 | t :: l,M,h,i,j=>by
  rw[List.foldl_cons]
  exact gmat_sym n l _ (gset_sym h) i j
theorem gmat_sz {n K:Nat} (hK:1≤K): ∀(l:List Tm) (M:Nat→Nat→Rat),(∀i j,Sz (K+1) (M i j))→(∀t∈l,Sz K t.2)→∀i j,Sz (K+1) (l.foldl (gset n) M i j)
 | [],M,h,_,i,j=>h i j
 | t :: l,M,h,hl,i,j=>by
  rw[List.foldl_cons]
  refine gmat_sz hK l _ (fun i j=>?_) (fun x hx=>hl x (by simp[hx])) i j
  have ht:=hl t (by simp)
  have hq:Sz (K+1) (if pa t.1 n≠pb t.1 n then t.2/2 else t.2):=by
   split
   ·exact ht.div (l:=1) (by have:=sz_two;simpa using this) (Nat.le_refl _)
   ·exact ht.mono (by omega)
  unfold gset setM
  split
  ·exact hq
  ·split
   ·exact hq
   ·exact h i j
theorem lt_irr (m:Mon):¬m.lt m:=by unfold Mon.lt;omega
def tsum (V:Tm→Rat) (p:List Tm):Rat:=p.foldl (fun a t=>a+V t) 0
theorem tsum_snoc (V:Tm→Rat) (l:List Tm) (t:Tm):tsum V (l ++ [t])=tsum V l+V t:=by simp[tsum]
theorem gmatH_inv {n:Nat} {p:List Tm} (h1:1≤n) (h3:n≤3) (hG:PGood p) (hok:POk p) (hd: ∀t∈p,t.1.deg≤2) (hv: ∀t∈p,varsM t.1≤(n:Int)) {H:Nat→Nat→Rat} (hs: ∀i k,H i k=H k i) {V:Tm→Rat} (hV: ∀t∈p,t.2*H (pa t.1 n) (pb t.1 n)=V t):
  ∀k,k≤p.length→quadH (gmat n (p.take k)) H (n+1)=tsum V (p.take k)∧∀i j,gmat n (p.take k) i j≠0→∃t∈p.take k,i=pa t.1 n∧j=pb t.1 n∨i=pb t.1 n∧j=pa t.1 n
 | 0,_=>⟨by
   show quadH (fun _ _=>0) _ _=0
   exact lsum_zero fun i _=>lsum_zero fun k _=>Rat.zero_mul _,fun i j h=>absurd rfl h⟩
 | k+1,hk=>by
  obtain⟨ih1,ih2⟩:=gmatH_inv h1 h3 hG hok hd hv hs hV k (by omega)
  have hkl:k<p.length:=by omega
  have hm:=List.getElem_mem hkl
  have hin:=mem_mons (hok _ hm) (hd _ hm)
  have ea:=pa_eq (hok _ hm) (hv _ hm)
  have eb:=pb_eq (hok _ hm) (hv _ hm)
  have hn:n∈[1,2,3]:=by simp;omega
  have new: ∀i j,(i=pa p[k].1 n∧j=pb p[k].1 n∨i=pb p[k].1 n∧j=pa p[k].1 n)→gmat n (p.take k) i j=0:=by
   intro i j hij
   apply Decidable.byContradiction
   intro hne
   obtain⟨t,ht,h⟩:=ih2 i j hne
   have htp:=List.mem_of_mem_take ht
   have e:=place_inj n hn t.1 (mem_mons (hok _ htp) (hd _ htp)) p[k].1 hin (hv _ htp) (hv _ hm) (by omega)
   obtain⟨a,ha,rfl⟩:=List.getElem_of_mem ht
   have hak:a<k:=by simp at ha;omega
   have:=List.pairwise_iff_getElem.1 hG.srt a k (by omega) hkl hak
   rw[List.getElem_take] at e
   rw[e] at this
   exact lt_irr _ this
  have e:gmat n (p.take (k+1))=gset n (gmat n (p.take k)) p[k]:=by
   rw[take_snocR hkl]
   unfold gmat
   rw[List.foldl_append,List.foldl_cons,List.foldl_nil]
  rw[e]
  refine⟨?_,fun i j hne=>?_⟩
  ·rw[quadH_gset hs ea.2 eb.2 (new _ _ (.inl ⟨rfl,rfl⟩)) (new _ _ (.inr ⟨rfl,rfl⟩)),ih1,take_snocR hkl,tsum_snoc,hV _ hm]
  ·rw[take_snocR hkl]
   unfold gset setM at hne
   by_cases c1:i=pb p[k].1 n∧j=pa p[k].1 n
   ·exact⟨p[k],List.mem_append_right _ (List.mem_singleton.2 rfl),.inr c1⟩
   ·rw[if_neg c1] at hne
    by_cases c2:i=pa p[k].1 n∧j=pb p[k].1 n
    ·exact⟨p[k],List.mem_append_right _ (List.mem_singleton.2 rfl),.inl c2⟩
    ·rw[if_neg c2] at hne
     obtain⟨t,ht,h⟩:=ih2 i j hne
     exact⟨t,List.mem_append_left _ ht,h⟩
theorem gmatH {n:Nat} {p:List Tm} (h1:1≤n) (h3:n≤3) (hG:PGood p) (hok:POk p) (hd: ∀t∈p,t.1.deg≤2) (hv: ∀t∈p,varsM t.1≤(n:Int)) {H:Nat→Nat→Rat} (hs: ∀i k,H i k=H k i) {V:Tm→Rat} (hV: ∀t∈p,t.2*H (pa t.1 n) (pb t.1 n)=V t):quadH (gmat n p) H (n+1)=tsum V p:=by
 have:=(gmatH_inv h1 h3 hG hok hd hv hs hV p.length (Nat.le_refl _)).1
 rwa [List.take_length] at this
end Go.Proofs.YthpmkcidkcmlgaaGreat

/- Exponents up to a bound; products that fit. -/
set_option linter.unusedVariables false
set_option linter.unusedSimpArgs false
namespace Go.Proofs.YthpmkcidkcmlgaaGreat
open Go Go.SX
theorem mulP_of {p q:List Tm} (h:MulOK p q):mulP p q=pnorm (ppairs p q):=by unfold mulP;rw[if_pos h]
end Go.Proofs.YthpmkcidkcmlgaaGreat

/- cincturelaw12.System: polynomials of texts. -/
set_option maxRecDepth 100000
set_option linter.unusedVariables false
set_option linter.unusedSimpArgs false
namespace Go.Proofs.YthpmkcidkcmlgaaGreat
open Go Go.SX
abbrev Ps (W:PW) (s:Sl) (ps:List (List Tm)):Prop:=IsPolys 317 188 W s ps
end Go.Proofs.YthpmkcidkcmlgaaGreat
