/- Models without rests, uncut: they are polynomials; plain law. -/
import Derived.Test.YthpmkcidkcmlgaaGreatW20
import Derived.Test.YthpmkcidkcmlgaaGreatW15
import Derived.Test.YthpmkcidkcmlgaaGreatW19
import Derived.Test.YthpmkcidkcmlgaaGreatLib4
import Derived.Test.YthpmkcidkcmlgaaGreatW3
import Derived.Test.YthpmkcidkcmlgaaGreatW11
import Derived.Test.YthpmkcidkcmlgaaGreatW12
import Derived.Test.YthpmkcidkcmlgaaGreatR11
import Derived.Test.YthpmkcidkcmlgaaGreatW14
import Derived.Test.YthpmkcidkcmlgaaGreatR16
set_option linter.unusedVariables false
set_option linter.unusedSimpArgs false
set_option maxRecDepth 100000
set_option linter.unusedVariables false
set_option linter.unusedSimpArgs false
namespace Go.Proofs.YthpmkcidkcmlgaaGreat
open Go Go.SX
def Zr (p:List Tm):Mdl:=(p,(0,0))
theorem iv_mz (x:Iv):ivMul x (0,0)=(0,0):=by
 unfold ivMul ivHull ivAround
 simp[Rat.mul_zero,rmin,rmax]
theorem iv_zm (x:Iv):ivMul (0,0) x=(0,0):=by
 unfold ivMul ivHull ivAround
 simp[Rat.zero_mul,rmin,rmax]
theorem iv_az:ivAdd ((0:Rat),(0:Rat)) ((0:Rat),(0:Rat))=(0,0):=by
 unfold ivAdd
 simp[Rat.add_zero]
def PDg (d:Int) (p:List Tm):Prop:=∀t∈p,t.1.deg≤d
theorem PDg.norm {d:Int} {p:List Tm} (h:PDg d p):PDg d (pnorm p):=fun t ht=>by
 obtain⟨u,hu,e⟩:=mem_pnorm ht
 rw[e]
 exact h u hu
theorem PDg.pairs {d e:Int} {p q:List Tm} (h:PDg d p) (k:PDg e q):PDg (d+e) (ppairs p q):=fun t ht=>by
 obtain⟨a,ha,hm⟩:=List.mem_flatMap.1 ht
 obtain⟨b,hb,rfl⟩:=List.mem_map.1 hm
 have h1:=h a ha
 have h2:=k b hb
 unfold Mon.deg at h1 h2
 show(a.1.add b.1).deg≤d+e
 unfold Mon.deg Mon.add
 dsimp only
 omega
theorem PDg.mono {d e:Int} {p:List Tm} (h:PDg d p) (hd:d≤e):PDg e p:=fun t ht=>Int.le_trans (h t ht) hd
theorem cut_id {b:Nat→Iv} {n:Int} {p:List Tm} (h:PDg n p):cutP b n p=Zr p:=by
 have e1:lowP n p=p:=List.filter_eq_self.2 fun t ht=>decide_eq_true (h t ht)
 have e2:highP n p = []:=List.filter_eq_nil_iff.2 fun t ht=>by
  have:=h t ht
  simp
  omega
 unfold cutP
 rw[e1,e2]
 rfl
theorem mul_zr {b:Nat→Iv} {n:Int} {p q:List Tm} {d e:Int} (h:PDg d p) (k:PDg e q) (hn:d+e≤n):mdMul b n (Zr p) (Zr q)=Zr (pnorm (ppairs p q)):=by
 have hc:cutP b n (pnorm (ppairs p q))=Zr (pnorm (ppairs p q)):=cut_id ((h.pairs k).norm.mono hn)
 unfold mdMul
 simp only[Zr] at hc⊢
 rw[hc]
 simp only[iv_mz,iv_az]
theorem add_zr (p q:List Tm):mdAdd (Zr p) (Zr q)=Zr (pnorm (p ++ q)):=by
 unfold mdAdd Zr
 simp only[iv_az]
def repP (v y:List Tm):Nat→List Tm
 | 0=>v
 | k+1=>pnorm (ppairs (repP v y k) y)
theorem repP_dg {v y:List Tm} {d e:Int} (h:PDg d v) (k:PDg e y): ∀n:Nat,PDg (d+e*n) (repP v y n)
 | 0=>h.mono (by simp)
 | n+1=>by
  refine((repP_dg h k n).pairs k).norm.mono ?_
  push_cast
  rw[Int.mul_add,Int.mul_one]
  omega
theorem repP_exp {v y:List Tm} {d:Int} (h:PExp d v) (k:PExp 1 y): ∀n:Nat,d+n≤254→PExp (d+n) (repP v y n)
 | 0,_=>by simpa[repP] using h
 | n+1,hn=>by
  have:=repP_exp h k n (by omega)
  have:=PExp.pairs this k (mulOK_of this k (by omega))
  rw[show d+((n+1:Nat):Int)=d+n+1 by omega]
  exact this
theorem rep_zr {b:Nat→Iv} {N:Int} {v y:List Tm} {d e:Int} (h:PDg d v) (k:PDg e y) (he:0≤e): ∀n:Nat,d+e*n≤N→mdRep b N (Zr v) (Zr y) n=Zr (repP v y n)
 | 0,_=>rfl
 | n+1,hn=>by
  have h1:e*((n+1:Nat):Int)=e*n+e:=by push_cast;rw[Int.mul_add,Int.mul_one]
  rw[mdRep,rep_zr h k he n (by omega),mul_zr (repP_dg h k n) k (by omega)]
  rfl
def tmP (y:Nat→List Tm) (t:Tm):Nat→List Tm
 | 0=>cst t.2
 | j+1=>repP (tmP y t j) (y j) (mex t.1 j)
theorem cst_dg (r:Rat):PDg 0 (cst r):=PDg.norm fun t ht=>by rw[List.mem_singleton.1 ht];exact(by decide:(⟨0,0,0⟩:Mon).deg≤0)
theorem cst_ex0 (r:Rat):PExp 0 (cst r):=PExp.norm fun t ht=>by rw[List.mem_singleton.1 ht];exact⟨(by decide:(⟨0,0,0⟩:Mon).ok),Int.le_refl 0,Int.le_refl 0,Int.le_refl 0⟩
theorem tmP_dg {y:Nat→List Tm} (hy: ∀i,PDg 2 (y i)) (t:Tm): ∀j,PDg (2*(sex t j:Int)) (tmP y t j)
 | 0=>cst_dg t.2
 | j+1=>by
  refine(repP_dg (tmP_dg hy t j) (hy j) (mex t.1 j)).mono ?_
  rw[sex]
  push_cast
  omega
theorem tmP_exp {y:Nat→List Tm} (hy: ∀i,PExp 1 (y i)) {t:Tm} (ht:sex t 3≤4): ∀j,j≤3→PExp (sex t j:Int) (tmP y t j)
 | 0,_=>cst_ex0 t.2
 | j+1,hj=>by
  have:=sex_mono t hj
  rw[sex] at this
  have:=repP_exp (tmP_exp hy ht j (by omega)) (hy j) (mex t.1 j) (by omega)
  rw[sex]
  push_cast
  exact this
theorem tm_zr {b:Nat→Iv} {y:Nat→List Tm} (hy: ∀i,PDg 2 (y i)) {t:Tm} (ht:sex t 3≤4): ∀j,j≤3→mdTm b 8 (fun i=>Zr (y i)) t j=Zr (tmP y t j)
 | 0,_=>cut_id ((cst_dg t.2).mono (by omega))
 | j+1,hj=>by
  have:=sex_mono t hj
  rw[sex] at this
  rw[mdTm,tm_zr hy ht j (by omega),rep_zr (tmP_dg hy t j) (hy j) (by omega) _ (by omega)]
  rfl
def comP (y:Nat→List Tm) (f:List Tm) (a:List Tm):List Tm:=f.foldl (fun a t=>pnorm (a ++ tmP y t 3)) a
theorem comp_zr {b:Nat→Iv} {y:Nat→List Tm} (hy: ∀i,PDg 2 (y i)) {f:List Tm} (hf: ∀t∈f,sex t 3≤4):mdComp b 8 (fun i=>Zr (y i)) f=Zr (comP y f []):=by
 have key: ∀(f:List Tm) (a:List Tm),(∀t∈f,sex t 3≤4)→f.foldl (fun a t=>mdAdd a (mdTm b 8 (fun i=>Zr (y i)) t 3)) (Zr a)=Zr (comP y f a):=by
  intro f
  induction f with
  | nil=>intro a _;rfl
  | cons t r ih=>
   intro a h
   rw[List.foldl_cons,tm_zr hy (h t (by simp)) 3 (Nat.le_refl 3),add_zr,ih _ fun u hu=>h u (by simp[hu])]
   rfl
 exact key f [] hf
def catP (y:Nat→List Tm) (f:List Tm):List Tm:=f.flatMap fun t=>tmP y t 3
theorem comP_lin (y:Nat→List Tm) (G:Mon→Rat): ∀(f:List Tm) (a:List Tm),lin G (comP y f a)=lin G a+lin G (catP y f)
 | [],a=>by simp[comP,catP,lin,Rat.add_zero]
 | t :: r,a=>by
  have:=comP_lin y G r (pnorm (a ++ tmP y t 3))
  unfold comP catP at this⊢
  rw[List.foldl_cons,this,lin_pnorm,lin_append,List.flatMap_cons,lin_append,Rat.add_assoc]
theorem comP_good (y:Nat→List Tm): ∀(f:List Tm) (a:List Tm),PGood a→PGood (comP y f a)
 | [],a,h=>h
 | t :: r,a,h=>comP_good y r _ (pnorm_good _)
theorem runF_rep {q:List Tm} (hq:PExp 1 q): ∀(k:Nat) {v:List Tm} {d:Int},PExp d v→d+k≤254→(List.replicate k q).foldl stepM (some v)=some (repP v q k):=by
 have snoc: ∀(k:Nat) (v:List Tm),List.replicate (k+1) q=List.replicate k q ++ [q]:=fun k v=>by rw[List.replicate_succ']
 intro k
 induction k with
 | zero=>intro v d _ _;rfl
 | succ k ih=>
  intro v d hv hd
  rw[snoc k v,List.foldl_append,ih hv (by omega),List.foldl_cons,List.foldl_nil]
  have:=repP_exp hv hq k (by omega)
  rw[stepM,if_pos (mulOK_of this hq (by omega))]
  rfl
theorem mex_ege (t:Tm) (i:Nat):mex t.1 i=ege t i:=by
 unfold mex ege eget
 (repeat' split)<;>rfl
theorem runF_tm {y:Nat→List Tm} (hy: ∀i,PExp 1 (y i)) {t:Tm} (ht:sex t 3≤4): ∀j,j≤3→runF (cst t.2) (facs y (ege t) j)=some (tmP y t j)
 | 0,_=>rfl
 | j+1,hj=>by
  have:=sex_mono t hj
  rw[sex] at this
  have ih:=runF_tm hy ht j (by omega)
  unfold runF at ih⊢
  rw[facs,List.foldl_append,ih,←mex_ege,runF_rep (hy j) _ (tmP_exp hy ht j (by omega)) (by omega)]
  rfl
theorem compL_tm {y:Nat→List Tm} (hy: ∀i,PExp 1 (y i)): ∀{f:List Tm},(∀t∈f,sex t 3≤4)→compL y f=some (catP y f)
 | [],_=>rfl
 | t :: r,h=>by
  have h1:termC y t=some (tmP y t 3):=runF_tm hy (h t (by simp)) 3 (Nat.le_refl 3)
  rw[compL,h1,compL_tm hy fun u hu=>h u (by simp[hu])]
  rfl
theorem comp_same (y:Nat→List Tm) (f:List Tm):comP y f []=pnorm (catP y f):=
 (comP_good y f [] PGood.nil).uniq (pnorm_good _) fun m=>by
  rw[ptot_lin,ptot_lin,comP_lin,lin_pnorm]
  simp[lin,Rat.zero_add]
theorem ris_dg {p:List Tm} {d:Int} (h:PDg d p):PDg (d+1) (risP p):=fun t ht=>by
 obtain⟨u,hu,rfl⟩:=List.mem_map.1 ht
 have:=h u hu
 unfold Mon.deg at this
 unfold rsT Mon.deg
 dsimp only
 omega
theorem time_zr {b:Nat→Iv} {p:List Tm} (h:PDg 2 p):mdTime b 8 (Zr p)=Zr (pnorm (risP p)):=by
 have hc:cutP b 8 (pnorm (risP p))=Zr (pnorm (risP p)):=cut_id ((ris_dg h).norm.mono (by omega))
 unfold mdTime
 simp only[Zr] at hc⊢
 rw[hc]
 simp only[iv_zm,iv_az]
theorem ptot_ris (m:Mon): ∀{p:List Tm},POk p→0≤m.z→ptot (risP p) (incM m 2)*((eget m 2+1:Int):Rat)=ptot p m
 | [],_,_=>by simp[risP,ptot,Rat.zero_mul]
 | t :: r,h,hz=>by
  have ih:=ptot_ris m (p:=r) (fun u hu=>h u (by simp[hu])) hz
  have ht:=h t (by simp)
  unfold Mon.ok at ht
  have e2:eget m 2=m.z:=rfl
  rw[e2] at ih⊢
  show(ptot (rsT t :: risP r) (incM m 2))*_=_
  rw[ptot,ptot,Rat.add_mul,ih]
  congr 1
  by_cases e:t.1=m
  ·subst e
   have hne:(((t.1.z+1:Int)):Rat)≠0:=by
    intro e
    have:t.1.z+1=0:=by exact_mod_cast e
    omega
   rw[if_pos (show(rsT t).1=incM t.1 2 from rfl),if_pos rfl]
   show t.2/((t.1.z+1:Int):Rat)*_=_
   exact Rat.div_mul_cancel hne
  ·rw[if_neg fun h'=>e ?_,if_neg e,Rat.zero_mul]
   have h1:(⟨t.1.x,t.1.y,t.1.z+1⟩:Mon)=⟨m.x,m.y,m.z+1⟩:=h'
   injection h1 with a1 a2 a3
   exact Mon.ext3 a1 a2 (by omega)
theorem ptot_no (m:Mon): ∀{p:List Tm},(∀t∈p,t.1≠m)→ptot p m=0
 | [],_=>rfl
 | t :: r,h=>by rw[ptot,if_neg (h t (by simp)),ptot_no m fun u hu=>h u (by simp[hu]),Rat.add_zero]
theorem diff_ris {p:List Tm} (h:PGood p) (ho:POk p) (hr:POk (pnorm (risP p))):diffP (pnorm (risP p)) 2=p:=by
 rw[diffP_in (by omega)]
 refine(pnorm_good _).uniq h fun m=>?_
 rw[ptot_pnorm,ptot_dlist hr,show Int.toNat 2=2 from rfl,ptot_pnorm]
 by_cases hz:0≤m.z
 ·exact ptot_ris m ho hz
 ·rw[ptot_no m fun t ht e=>by
   have:=ho t ht
   rw[e] at this
   unfold Mon.ok at this
   omega,ptot_no (incM m 2) fun t ht e=>?_,Rat.zero_mul]
  obtain⟨u,hu,rfl⟩:=List.mem_map.1 ht
  have h1:(⟨u.1.x,u.1.y,u.1.z+1⟩:Mon)=⟨m.x,m.y,m.z+1⟩:=e
  injection h1 with a1 a2 a3
  have:=ho u hu
  unfold Mon.ok at this
  omega
theorem len7 {p:List Tm} (h:PGood p) (he:PExp 1 p) (hd:PDg 2 p):p.length≤7:=by
 have hb: ∀t∈p,0≤t.1.x∧t.1.x≤1∧0≤t.1.y∧t.1.y≤1∧0≤t.1.z∧t.1.z≤1∧t.1.x+t.1.y+t.1.z≤2:=fun t ht=>by
  have h1:=he t ht
  have h2:=hd t ht
  have h3:=h1.1
  unfold Mon.ok at h3
  unfold Mon.deg at h2
  omega
 have h1:(p.map fun t=>(t.1.x*4+t.1.y*2+t.1.z).toNat).Nodup:=by
  have:p.Pairwise fun a b=>(a.1.x*4+a.1.y*2+a.1.z).toNat≠(b.1.x*4+b.1.y*2+b.1.z).toNat:=by
   refine List.Pairwise.imp_of_mem ?_ h.srt
   intro a b ha hb' hlt e
   have g1:=hb a ha
   have g2:=hb b hb'
   exact Mon.lt_ne hlt (Mon.ext3 (by omega) (by omega) (by omega))
  exact List.pairwise_map.2 this
 have:=nodup_bound (n:=7) h1 fun x hx=>by
  obtain⟨t,ht,rfl⟩:=List.mem_map.1 hx
  have:=hb t ht
  omega
 simpa using this
end Go.Proofs.YthpmkcidkcmlgaaGreat

/- slices.Backward of bytes; mono.Vars. -/
set_option linter.unusedVariables false
set_option linter.unusedSimpArgs false
namespace Go.Proofs.YthpmkcidkcmlgaaGreat
open Go Go.SX Go.RowKit Go.Shelf
attribute [local go_sem] Oper.semAt_some
end Go.Proofs.YthpmkcidkcmlgaaGreat

/- poly.Degree, poly.Top. -/
set_option maxRecDepth 100000
set_option linter.unusedVariables false
set_option linter.unusedSimpArgs false
namespace Go.Proofs.YthpmkcidkcmlgaaGreat
open Go Go.SX
theorem polyDegree_ok {W0:PW} {M:Nat→Prop} {s:Sl} {p:List Tm} (h:IsPoly 317 188 W0 s p) (hl:p.length≤1099511627776):
  PCallsM Go.Proofs.Tryz.prog 75 [.agg ⟨[s.v]⟩] W0 M fun v W'=>v = .int .i64 (lastDeg p)∧True:=by
 apply callpoly_Degree
 have hn:=h.n
 refine⟨fun h0 W1 _=>⟨?_,trivial⟩,fun h0=>?_⟩
 ·have:p = []:=List.eq_nil_of_length_eq_zero (by omega)
  subst this
  rfl
 ·have hp:p.length-1<p.length:=by omega
  obtain⟨k0,c1,d1,c2,e1,e2,_,hr⟩:=h.at (List.getElem?_eq_getElem hp)
  rw[show Int.toNat ((s.n:Int)-1)=p.length-1 by omega]
  refine⟨by unfold I64;omega,h.inB (by omega) (by omega),_,_,_,e2,monoDegree_call k0 fun W6 _ _=>⟨_,rfl,fun W8 _=>⟨?_,trivial⟩⟩⟩
  unfold lastDeg
  rw[List.getLast?_eq_getElem?,List.getElem?_eq_getElem hp]
theorem polyDegree_call {W0 W:PW} {M:Nat→Prop} {s:Sl} {p:List Tm} {K:Value→PW→Prop} (h:IsPoly 317 188 W s p) (hl:p.length≤1099511627776) (kont: ∀(W':PW),Ext W W'→(True)→K (.int .i64 (lastDeg p)) W'):
  callN Go.Proofs.Tryz.prog W0 M 75 [.agg ⟨[s.v]⟩] W K:=
 callN_of (fun W' hE=>polyDegree_ok (M:=fun _=>False) (h.ext hE) hl) (fun W' v W'' hE hE' hP=>by
  obtain⟨rfl,h⟩:=hP
  exact kont W'' (hE.trans hE') h)
end Go.Proofs.YthpmkcidkcmlgaaGreat

/- cincturelaw15.TmodExact. -/
set_option maxRecDepth 100000
set_option linter.unusedVariables false
set_option linter.unusedSimpArgs false
namespace Go.Proofs.YthpmkcidkcmlgaaGreat
open Go Go.SX
theorem DT.szs3 {t:DT} {k:Nat} (h0:t.a0.size≤k) (h1:t.b0.size≤k) (h2:t.a1.size≤k) (h3:t.b1.size≤k) (h4:t.a2.size≤k) (h5:t.b2.size≤k) (i:Nat):(t.lo i).size≤k∧(t.hi i).size≤k:=by
 unfold DT.lo DT.hi
 (repeat' split)<;>first | exact⟨h0,h1⟩ | exact⟨h2,h3⟩ | exact⟨h4,h5⟩
theorem sex_deg4 {t:Tm} (h:t.1.ok) (hd:t.1.deg≤2):sex t 3≤4:=by
 unfold Mon.ok at h
 unfold Mon.deg at hd
 show 0+t.1.x.toNat+t.1.y.toNat+t.1.z.toNat≤4
 omega
theorem var2:varP 2 = [(⟨0,0,1⟩,1)]:=by decide +kernel
theorem mo7_zr {p:List Tm} (hG:PGood p) (hz: ∀t∈p,Sz 4000 t.2) (he:PExp 1 p) (hd:PDg 2 p):MO7 (Zr p):=by
 have h7:=len7 hG he hd
 exact⟨⟨(Bd.of_sz hz).mono (by have:=Nat.mul_le_mul_left 4002 h7;omega),BdI.zero (by omega),hG,he⟩,h7⟩
theorem v2_good:PGood (varP 2):=by
 rw[var2]
 exact⟨List.pairwise_singleton ..,fun t ht=>by rw[List.mem_singleton.1 ht];show(1:Rat)≠0;decide⟩
theorem v2_sz: ∀t∈varP 2,Sz 4000 t.2:=fun t ht=>by
 rw[var2] at ht
 rw[List.mem_singleton.1 ht]
 exact Sz.one (by omega)
theorem v2_exp:PExp 1 (varP 2):=fun t ht=>by
 rw[var2] at ht
 rw[List.mem_singleton.1 ht]
 exact⟨(by decide:(⟨0,0,1⟩:Mon).ok),by decide,by decide,by decide⟩
theorem v2_dg:PDg 2 (varP 2):=fun t ht=>by
 rw[var2] at ht
 rw[List.mem_singleton.1 ht]
 exact(by decide:(⟨0,0,1⟩:Mon).deg≤2)
theorem zero_txt:parseQ ⟨⟨[48]⟩⟩=some 0:=by decide +kernel
theorem tmodExact_ok {W0:PW} {M:Nat→Prop} {q0 q1 q2 r0 r1 r2:ByteArray} {s u w:Sl} {L L2 L3:List (Mon×ByteArray)} (h:IsAPoly W0 s L) (h2:IsAPoly W0 u L2) (h3:IsAPoly W0 w L3) (z0:q0.size≤1099511627776) (z1:q1.size≤1099511627776) (z2:q2.size≤1099511627776) (z3:r0.size≤1099511627776) (z4:r1.size≤1099511627776) (z5:r2.size≤1099511627776) (hl:L.length≤1099511627776) (hz: ∀t∈L,t.2.size≤1099511627776) (hl2:L2.length≤1099511627776) (hz2: ∀t∈L2,t.2.size≤1099511627776) (hl3:L3.length≤1099511627776) (hz3: ∀t∈L3,t.2.size≤1099511627776):
  PCallsM Go.Proofs.Tryz.prog 11 [.agg ⟨[.string q0,.string r0,.string q1,.string r1,.string q2,.string r2]⟩,s.v,u.v,w.v] W0 M fun v W'=>v = .bool true∧True:=by
 apply calllaw15_TmodExact
 have hn:=h.n
 have hn2:=h2.n
 have hn3:=h3.n
 have alv: ∀W,callN Go.Proofs.Tryz.prog W0 M 46 [] W fun v11 W12=>∃b13:Bool,v11 = .bool b13∧∀(W14:PW),Ext W12 W14→Value.bool b13 = .bool true∧True:=fun W=>law15alive_call fun W12 _ _=>⟨true,rfl,fun W14 _=>⟨rfl,trivial⟩⟩
 refine⟨by omega,law15Domain_call (t:=⟨q0,r0,q1,r1,⟨⟨[48]⟩⟩,r2⟩) (n:=8) (DT.szs3 z0 z3 z1 z4 (show(⟨⟨[48]⟩⟩:ByteArray).size≤1099511627776 by decide) z5) fun l l' ok b W2 hE2 ⟨hD,hR,hB,_,hsp⟩=>dom_out hD hR ?_⟩
 intros
 rename_i hD hR
 refine law8Of_call (h.ext hE2) hl hz fun s44 s45 b46 W43 hE43 g1=>⟨s44,s45,b46,rfl,law8Of_call (h2.ext (hE2.trans hE43)) hl2 hz2 fun s49 s50 b51 W48 hE48 g2=>⟨s49,s50,b51,rfl,law8Of_call (h3.ext (hE2.trans (hE43.trans hE48))) hl3 hz3 fun s54 s55 b56 W53 hE53 g3=>⟨s54,s55,b56,rfl,fun _=>alv _,fun hok=>⟨fun _=>alv _,fun k1=>⟨fun _=>alv _,fun k2=>⟨fun _=>alv _,fun k3=>law15alive_call fun W74 hE74 _=>⟨true,rfl,fun e=>(by cases e),fun _=>?_⟩⟩⟩⟩⟩⟩⟩
 obtain⟨f,of,f1,_⟩:=g1 (by simpa using k1)
 obtain⟨p,op,p1,_⟩:=g2 (by simpa using k2)
 obtain⟨q,oq,q1,_⟩:=g3 (by simpa using k3)
 have lf:=of.len
 have lp:=op.len
 have lq:=oq.len
 refine refDomainRight_call (k:=7) (hR.ext (hE43.trans (hE48.trans (hE53.trans hE74)))) (fun i=>((hB.bd i).mono (Nat.le_refl 7)).sz) (by omega) fun W81 hE81 _=>⟨_,rfl,fun _=>alv _,fun hdr=>?_⟩
 have hdr:DRight b 8:=by simpa using hdr
 have E53:=hE74.trans hE81
 have E48:=hE53.trans E53
 have E43:=hE48.trans E48
 have hD:=hD.ext (hE43.trans E43)
 have f1:=f1.ext E43
 have p1:=p1.ext E48
 have q1:=q1.ext E53
 refine polyDegree_call f1 (by omega) fun W88 hE88 _=>⟨_,rfl,fun _=>alv _,fun d1=>polyDegree_call (p1.ext hE88) (by omega) fun W95 hE95 _=>⟨_,rfl,fun _=>alv _,fun d2=>polyDegree_call (q1.ext (hE88.trans hE95)) (by omega) fun W102 hE102 _=>⟨_,rfl,fun _=>alv _,fun d3=>⟨by unfold I64;omega,by unfold I64;omega,fun _=>alv _,fun _=>?_⟩⟩⟩⟩
 have gf:=of.1.good
 have gp:=op.1.good
 have gq:=oq.1.good
 have okf:=f1.ok
 have okp:=p1.ok
 have okq:=q1.ok
 have ef:=of.exp okf
 have ep:=op.exp okp
 have eq:=oq.exp okq
 have df:PDg 2 f:=fun t ht=>by have e1:=lastDeg_max gf okf;have e2:=(le_maxf (w:=Mon.deg) (n:=-1) (p:=f)).2 t ht;omega
 have dp:PDg 2 p:=fun t ht=>by have e1:=lastDeg_max gp okp;have e2:=(le_maxf (w:=Mon.deg) (n:=-1) (p:=p)).2 t ht;omega
 have dq:PDg 2 q:=fun t ht=>by have e1:=lastDeg_max gq okq;have e2:=(le_maxf (w:=Mon.deg) (n:=-1) (p:=q)).2 t ht;omega
 have F:=hE88.trans (hE95.trans hE102)
 have hy: ∀i,MO7 (Zr (selQ p q (varP 2) i)):=fun i=>by
  unfold selQ
  (repeat' split)
  ·exact mo7_zr gp op.1.sz ep dp
  ·exact mo7_zr gq oq.1.sz eq dq
  ·exact mo7_zr v2_good v2_sz v2_exp v2_dg
 have hyd: ∀i,PDg 2 (selQ p q (varP 2) i):=fun i=>by
  unfold selQ
  (repeat' split)<;>first | exact dp | exact dq | exact v2_dg
 have hye: ∀i,PExp 1 (selQ p q (varP 2) i):=fun i=>by
  unfold selQ
  (repeat' split)<;>first | exact ep | exact eq | exact v2_exp
 have hsx: ∀t∈f,sex t 3≤4:=fun t ht=>sex_deg4 (okf t ht) (df t ht)
 have hf: ∀t∈f,Sz 4000 t.2∧sex t 3≤4:=fun t ht=>⟨of.1.sz t ht,hsx t ht⟩
 have f7:=len7 gf ef df
 have p7:=len7 gp ep dp
 have q7:=len7 gq eq dq
 have hc:=compL_tm hye hsx
 have hcs:=comp_same (selQ p q (varP 2)) f
 have hcz:=comp_zr (b:=b) hyd hsx
 obtain⟨c1,c2⟩:=comp_b hf hy hB hdr f.length (Nat.le_refl _)
 rw[List.take_length,hcz] at c1 c2
 have hT:TRight b 8:=by
  refine⟨hdr,?_⟩
  have h2:=hsp (by simpa using hok) 2 (by omega)
  have:=(spP_some h2).1
  have e:parseQ ⟨⟨[48]⟩⟩=some (b 2).1:=this
  rw[zero_txt] at e
  exact(Option.some.inj e).symm
 refine polyVar_call fun s114 W113 hE113 h113=>⟨s114,rfl,?_⟩
 have F2:=F.trans hE113
 have M1:M3V 317 188 W113 [s49.v,.slice none 0 0,.bool false,.slice none 0 0,.slice none 0 0,.bool false,.slice none 0 0,s54.v,.slice none 0 0,.bool false,.slice none 0 0,.slice none 0 0,.bool false,.slice none 0 0,s114.v,.slice none 0 0,.bool false,.slice none 0 0,.slice none 0 0,.bool false,.slice none 0 0] (fun i=>Zr (selQ p q (varP 2) i)):=
  ⟨s49,⟨none,0,0⟩,false,⟨none,0,0⟩,⟨none,0,0⟩,false,⟨none,0,0⟩,s54,⟨none,0,0⟩,false,⟨none,0,0⟩,⟨none,0,0⟩,false,⟨none,0,0⟩,s114,⟨none,0,0⟩,false,⟨none,0,0⟩,⟨none,0,0⟩,false,⟨none,0,0⟩,rfl,MdV.mk (x:=Zr p) (p1.ext F2) (SpV.zero W113),MdV.mk (x:=Zr q) (q1.ext F2) (SpV.zero W113),MdV.mk (x:=Zr (varP 2)) h113 (SpV.zero W113)⟩
 refine tmodCompose_call (hD.ext F2) (f1.ext F2) M1 hf f7 hy hB fun r W116 hE116 k116=>k116.out fun _ _ _ _ _ _ _ _ k116p k116r=>?_
 rw[if_pos hdr,hcz] at k116p k116r
 refine polyVar_call fun s127 W126 hE126 h126=>⟨s127,rfl,?_⟩
 have F3:=F2.trans (hE116.trans hE126)
 have hF:FacOK 56029 (selQ p q (varP 2)) f:=⟨fun i hi=>⟨(hy i).b.bd.mono (by omega),by have:=(hy i).len;show(Zr (selQ p q (varP 2) i)).1.length≤10;omega⟩,fun t ht=>(of.1.sz t ht).mono (by omega),fun t ht=>by have:=df t ht;omega,okf,by omega,by omega⟩
 refine polyCompose_call (f1.ext F3) (p1.ext F3) (q1.ext F3) h126 hF fun s130 W129 hE129 h130=>⟨s130,_,rfl,?_⟩
 rw[hc,Option.getD_some,←hcs] at h130
 have F4:=F3.trans hE129
 refine tmodTime_call (kx:=28015) (rx:=7) (ex:=1) (hD.ext F4) (MdV.mk (x:=Zr p) (p1.ext F4) (SpV.zero W129)) (mo7_zr gp op.1.sz ep dp).b hB.bd (Nat.le_refl 7) (by omega) (by show(28015+3)*p.length+1≤_;omega) (by omega) (by omega) (by show p.length≤_;omega) fun r W133 hE133 k133=>k133.out fun _ _ _ _ _ _ _ _ k133p k133r=>?_
 rw[if_pos hT,time_zr dp] at k133p k133r
 refine⟨fun _=>⟨fun _=>⟨fun _=>?_,fun e=>absurd e (by simp[hT])⟩,fun e=>absurd e (by simp[hc])⟩,fun e=>absurd e (by simp[hdr])⟩
 have k116p:IsPoly 317 188 W116 _ (comP (selQ p q (varP 2)) f []):=k116p
 have k133p:IsPoly 317 188 W133 _ (pnorm (risP p)):=k133p
 have G1:=hE126.trans (hE129.trans hE133)
 have csz: ∀t∈comP (selQ p q (varP 2)) f [],Sz 1000000 t.2:=fun t ht=>(c1.bd.mono (by omega)).sz t ht
 have clen:(comP (selQ p q (varP 2)) f []).length≤1099511627776:=by
  have:(comP (selQ p q (varP 2)) f []).length≤f.length*2401:=c2
  omega
 refine polySame_call (k116p.ext G1) (h130.ext hE133) csz csz (by omega) clen fun W143 hE143 _=>⟨_,rfl,fun _=>?_,fun e=>absurd e (by simp)⟩
 refine law5Is_call (x:=(0,0)) (k:=1) (k116r.ext (G1.trans hE143)) (RSpV.zero W143) ⟨Sz.zero (by omega),Sz.zero (by omega)⟩ (by omega) fun W146 hE146 _=>⟨true,rfl,fun _=>?_,fun e=>(by cases e)⟩
 have rz:=Bd.of_sz (ris_sz op.1.sz ep (by omega))
 rw[risP_len] at rz
 have rl:=pnorm_len (risP p)
 rw[risP_len] at rl
 have G2:=hE143.trans hE146
 refine polyDiff_call (i:=2) (k133p.ext G2) rz.norm (by omega) (by omega) fun s150 W149 hE149 h149=>⟨s150,rfl,?_⟩
 rw[diff_ris gp okp k133p.ok] at h149
 have F6:=F4.trans (hE133.trans (G2.trans hE149))
 refine polySame_call h149 (p1.ext F6) op.1.sz op.1.sz (by omega) (by omega) fun W152 hE152 _=>⟨_,rfl,fun _=>?_,fun e=>absurd e (by simp)⟩
 exact law5Is_call (x:=(0,0)) (k:=1) (k133r.ext (G2.trans (hE149.trans hE152))) (RSpV.zero W152) ⟨Sz.zero (by omega),Sz.zero (by omega)⟩ (by omega) fun W155 hE155 _=>⟨true,rfl,fun W157 _=>⟨rfl,trivial⟩⟩
end Go.Proofs.YthpmkcidkcmlgaaGreat
