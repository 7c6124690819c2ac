/- poly.Compose, cinctureref1.Compose. -/
import Derived.Test.YthpmkcidkcmlgaaGreatW17
import Derived.Test.YthpmkcidkcmlgaaGreatW16
import Derived.Test.YthpmkcidkcmlgaaGreatR14
import Derived.Test.YthpmkcidkcmlgaaGreatW18
import Derived.Test.YthpmkcidkcmlgaaGreatLib4
set_option linter.unusedVariables false
set_option linter.unusedSimpArgs false
set_option maxRecDepth 100000
set_option linter.unusedVariables false
set_option linter.unusedSimpArgs false
namespace Go.Proofs.YthpmkcidkcmlgaaGreat
open Go Go.SX
def cst (r:Rat):List Tm:=pnorm [(⟨0,0,0⟩,r)]
end Go.Proofs.YthpmkcidkcmlgaaGreat

/- Values of sums, products and compositions. -/
set_option linter.unusedVariables false
set_option linter.unusedSimpArgs false
namespace Go.Proofs.YthpmkcidkcmlgaaGreat
open Go Go.SX
def evM (u:Pt) (m:Mon):Rat:=u.get 0^(eget m 0).toNat*u.get 1^(eget m 1).toNat*u.get 2^(eget m 2).toNat
theorem ctm_ev (t:Tm) (u:Pt):ctm t u 3=t.2*evM u t.1:=by
 simp only[ctm,evM,Rat.mul_assoc]
theorem atQ_lin (u:Pt) (p:List Tm):atQ u p=lin (evM u) p:=by
 have key: ∀(p:List Tm) (a:Rat),p.foldl (fun a t=>a+ctm t u 3) a=a+lin (evM u) p:=by
  intro p
  induction p with
  | nil=>intro a;simp[lin,Rat.add_zero]
  | cons t r ih=>
   intro a
   rw[List.foldl_cons,ih,lin,ctm_ev,Rat.add_assoc]
 rw[atQ,key,Rat.zero_add]
theorem rpow_add (x:Rat) (a b:Nat):x^(a+b)=x^a*x^b:=by
 induction b with
 | zero=>simp[Rat.mul_one]
 | succ b ih=>rw[←Nat.add_assoc,Rat.pow_succ,Rat.pow_succ,ih,Rat.mul_assoc]
theorem evM_add (u:Pt) {a b:Mon} (ha:a.ok) (hb:b.ok):evM u (a.add b)=evM u a*evM u b:=by
 have h: ∀k,(eget (a.add b) k).toNat=(eget a k).toNat+(eget b k).toNat:=fun k=>by
  have h1:=(eget_ok ha k).1
  have h2:=(eget_ok hb k).1
  have e:eget (a.add b) k=eget a k+eget b k:=by unfold eget Mon.add;(repeat' split)<;>rfl
  omega
 unfold evM
 rw[h,h,h,rpow_add,rpow_add,rpow_add]
 grind
theorem lin_row {G:Mon→Rat} {a:Tm} {q:List Tm} (h: ∀b∈q,G (a.1.add b.1)=G a.1*G b.1):lin G (q.map fun b=>(a.1.add b.1,a.2*b.2))=a.2*G a.1*lin G q:=by
 induction q with
 | nil=>simp[lin,Rat.mul_zero]
 | cons b r ih=>
  rw[List.map_cons,lin,lin,ih fun x hx=>h x (by simp[hx])]
  dsimp only
  rw[h b (by simp)]
  grind
theorem lin_pairs {G:Mon→Rat} {p q:List Tm} (h: ∀a∈p,∀b∈q,G (a.1.add b.1)=G a.1*G b.1):lin G (ppairs p q)=lin G p*lin G q:=by
 induction p with
 | nil=>simp[ppairs,lin,Rat.zero_mul]
 | cons a r ih=>
  have e:ppairs (a :: r) q=(q.map fun b=>(a.1.add b.1,a.2*b.2)) ++ ppairs r q:=rfl
  rw[e,lin_append,lin_row fun b hb=>h a (by simp) b hb,ih fun x hx b hb=>h x (by simp[hx]) b hb,lin]
  grind
theorem at_mul (u:Pt) {p q:List Tm} (hp:POk p) (hq:POk q):atQ u (pnorm (ppairs p q))=atQ u p*atQ u q:=by
 rw[atQ_lin,atQ_lin,atQ_lin,lin_pnorm,lin_pairs fun a ha b hb=>evM_add u (hp a ha) (hq b hb)]
theorem at_add (u:Pt) (p q:List Tm):atQ u (pnorm (p ++ q))=atQ u p+atQ u q:=by
 rw[atQ_lin,atQ_lin,atQ_lin,lin_pnorm,lin_append]
theorem at_cst (u:Pt) (r:Rat):atQ u (cst r)=r:=by
 have h:evM u ⟨0,0,0⟩=1:=by
  unfold evM eget
  simp
 rw[atQ_lin,cst,lin_pnorm,lin,lin,h,Rat.mul_one,Rat.add_zero]
end Go.Proofs.YthpmkcidkcmlgaaGreat

/- A form at constants has a matrix' value: plain law. -/
set_option linter.unusedVariables false
set_option linter.unusedSimpArgs false
namespace Go.Proofs.YthpmkcidkcmlgaaGreat
open Go Go.SX
theorem lin_pmap (G:Mon→Rat) (r:Rat): ∀p:List Tm,lin G (pmap p r)=r*lin G p
 | []=>by simp[pmap,lin,Rat.mul_zero]
 | t :: p=>by
  have ih:=lin_pmap G r p
  unfold pmap at ih⊢
  rw[List.map_cons,lin,ih,lin]
  grind
theorem at_pmap (u:Pt) (p:List Tm) (r:Rat):atQ u (pnorm (pmap p r))=r*atQ u p:=by
 rw[atQ_lin,atQ_lin,lin_pnorm,lin_pmap]
def Z0 (p:List Tm):Prop:=∀t∈p,t.1=⟨0,0,0⟩
theorem Z0.norm {p:List Tm} (h:Z0 p):Z0 (pnorm p):=fun t ht=>let⟨x,hx,e⟩:=mem_pnorm ht;e.trans (h x hx)
theorem Z0.append {p q:List Tm} (h:Z0 p) (k:Z0 q):Z0 (p ++ q):=fun t ht=>(List.mem_append.1 ht).elim (h t) (k t)
theorem Z0.pmap {p:List Tm} (h:Z0 p) (r:Rat):Z0 (pmap p r):=fun t ht=>by
 obtain⟨x,hx,rfl⟩:=List.mem_map.1 ht
 exact h x hx
theorem Z0.pairs {p q:List Tm} (h:Z0 p) (k:Z0 q):Z0 (ppairs p q):=fun t ht=>by
 obtain⟨a,ha,hm⟩:=List.mem_flatMap.1 ht
 obtain⟨b,hb,rfl⟩:=List.mem_map.1 hm
 show a.1.add b.1=_
 rw[h a ha,k b hb]
 rfl
theorem Z0.ok {p:List Tm} (h:Z0 p):POk p:=fun t ht=>by rw[h t ht];decide
theorem Z0.mul {p q:List Tm} (h:Z0 p) (k:Z0 q):MulOK p q:=fun a ha b hb=>by rw[h a ha,k b hb];decide
theorem Z0.len {p:List Tm} (h:Z0 p) (hG:PGood p):p.length≤1:=by
 match p,h,hG with
 | [],_,_=>simp
 | [_],_,_=>simp
 | a :: b :: r,h,hG=>
  have h1:=(List.pairwise_cons.1 hG.srt).1 b (by simp)
  rw[h a (by simp),h b (by simp)] at h1
  exact absurd h1 (by unfold Mon.lt;decide)
theorem cst_z0 (r:Rat):Z0 (cst r):=Z0.norm fun t ht=>by simp at ht;subst ht;rfl
theorem formK_z0 (u:Pt) {q:Nat→List Tm} (hq: ∀i,Z0 (q i)) (m:Nat→Nat→Rat) (i:Nat) {a0:List Tm} (h0:Z0 a0): ∀k,∃a,formK q m i (some a0) k=some a∧Z0 a∧atQ u a=atQ u a0+lsum (fun t=>m i t*(atQ u (q i)*atQ u (q t))) k
 | 0=>⟨a0,rfl,h0,by simp only[lsum];rw[Rat.add_zero]⟩
 | k+1=>by
  obtain⟨a,e,hz,hv⟩:=formK_z0 u hq m i h0 k
  refine⟨pnorm (a ++ pnorm (pmap (pnorm (ppairs (q i) (q k))) (m i k))),?_,(hz.append (((hq i).pairs (hq k)).norm.pmap _).norm).norm,?_⟩
  ·rw[formK,e,stepA,if_pos ((hq i).mul (hq k))]
  ·rw[at_add,at_pmap,at_mul u (hq i).ok (hq k).ok,hv,lsum]
   grind
theorem formI_z0 (u:Pt) {q:Nat→List Tm} (hq: ∀i,Z0 (q i)) (m:Nat→Nat→Rat) (n:Nat): ∀j,∃a,formI q m n j=some a∧Z0 a∧atQ u a=lsum (fun i=>lsum (fun t=>m i t*(atQ u (q i)*atQ u (q t))) n) j
 | 0=>⟨[],rfl,fun t ht=>(by cases ht),rfl⟩
 | j+1=>by
  obtain⟨a,e,hz,hv⟩:=formI_z0 u hq m n j
  obtain⟨b,e2,hz2,hv2⟩:=formK_z0 u hq m j hz n
  exact⟨b,by rw[formI,e,e2],hz2,by rw[hv2,hv,lsum]⟩
end Go.Proofs.YthpmkcidkcmlgaaGreat

/- The elimination of a matrix with 1 on the diagonal and 0 below it: plain law. -/
set_option maxRecDepth 100000
set_option linter.unusedVariables false
set_option linter.unusedSimpArgs false
namespace Go.Proofs.YthpmkcidkcmlgaaGreat
open Go Go.SX
structure UpT (T:Nat→Nat→Rat) (r:Nat):Prop where
 one: ∀i,i<r→T i i=1
 low: ∀a b,b<a→a<r→T a b=0
theorem lsum_subm (x y t:Nat→Rat) (f:Rat): ∀n,lsum (fun k=>(x k-f*y k)*t k) n=lsum (fun k=>x k*t k) n-f*lsum (fun k=>y k*t k) n
 | 0=>by simp only[lsum];grind
 | n+1=>by
  have ih:=lsum_subm x y t f n
  simp only[lsum,ih]
  grind
structure GI (T:Nat→Nat→Rat) (r i:Nat) (A:Nat→Nat→Rat):Prop where
 keep: ∀a,i≤a→a<r→∀b,b<r+r→A a b=augM r T oneF a b
 unit: ∀a b,a<r→b<i→A a b=if a=b then 1 else 0
 diag: ∀a,a<r→A a a=1
 comb: ∀a b,a<r→b<r→A a b=lsum (fun k=>A a (r+k)*T k b) r
theorem GI.start {T:Nat→Nat→Rat} {r:Nat} (h:UpT T r):GI T r 0 (augM r T oneF) where
 keep a _ _ b _:=rfl
 unit a b _ hb:=by omega
 diag a ha:=by unfold augM;rw[if_pos ha];exact h.one a ha
 comb a b ha hb:=by
  have e:lsum (fun k=>augM r T oneF a (r+k)*T k b) r=augM r T oneF a (r+a)*T a b:=lsum_single ha fun k _ hk=>by
   unfold augM oneF
   rw[if_neg (by omega),if_neg (by omega),Rat.zero_mul]
  rw[e]
  unfold augM oneF
  rw[if_pos hb,if_neg (by omega),if_pos (by omega),Rat.one_mul]
theorem GI.row {T:Nat→Nat→Rat} {r i:Nat} {A:Nat→Nat→Rat} (g:GI T r i A) (hi:i<r) {a b:Nat} (hne:a≠i) (hb:b<r+r):gstep A i a b=A a b-A a i*A i b:=by
 unfold gstep
 have h1:=g.diag i hi
 by_cases e:i≤b
 ·rw[if_pos ⟨hne,e⟩,h1,Rat.div_def,show((1:Rat))⁻¹ = 1 from by decide +kernel,Rat.mul_one]
 ·rw[if_neg (by omega),g.unit i b hi (by omega),if_neg (by omega),Rat.mul_zero]
  grind
theorem gstep_self (A:Nat→Nat→Rat) (i b:Nat):gstep A i i b=A i b:=by unfold gstep;rw[if_neg (by omega)]
theorem GI.step {T:Nat→Nat→Rat} {r i:Nat} {A:Nat→Nat→Rat} (h:UpT T r) (g:GI T r i A) (hi:i<r):GI T r (i+1) (gstep A i) where
 keep a ha har b hb:=by
  rw[g.row hi (by omega) hb,g.keep a (by omega) har b hb,show A a i=0 from by rw[g.keep a (by omega) har i (by omega)];unfold augM;rw[if_pos hi];exact h.low a i (by omega) har]
  grind
 unit a b ha hb:=by
  by_cases e:a=i
  ·subst e
   rw[gstep_self]
   by_cases e2:b=a
   ·subst e2
    rw[if_pos rfl]
    exact g.diag b ha
   ·exact g.unit a b ha (by omega)
  ·rw[g.row hi e (by omega)]
   by_cases e2:b=i
   ·subst e2
    rw[g.diag b hi,if_neg e]
    grind
   ·rw[g.unit a b ha (by omega),g.unit i b hi (by omega),if_neg (show ¬i=b by omega)]
    grind
 diag a ha:=by
  by_cases e:a=i
  ·subst e
   rw[gstep_self]
   exact g.diag a ha
  ·rw[g.row hi e (by omega),g.diag a ha]
   by_cases e2:i≤a
   ·rw[show A a i=0 from by rw[g.keep a e2 ha i (by omega)];unfold augM;rw[if_pos hi];exact h.low a i (by omega) ha]
    grind
   ·rw[g.unit i a hi (by omega),if_neg (by omega)]
    grind
 comb a b ha hb:=by
  by_cases e:a=i
  ·subst e
   simp only[gstep_self]
   exact g.comb a b ha hb
  ·rw[g.row hi e (by omega),show lsum (fun k=>gstep A i a (r+k)*T k b) r=lsum (fun k=>(A a (r+k)-A a i*A i (r+k))*T k b) r from lsum_congr fun k hk=>by rw[g.row hi e (by omega)],lsum_subm,←g.comb a b ha hb,←g.comb i b hi hb]
theorem GI.all {T:Nat→Nat→Rat} {r:Nat} (h:UpT T r): ∀i,i≤r→GI T r i (gj (augM r T oneF) i)
 | 0,_=>GI.start h
 | i+1,hi=>(GI.all h i (by omega)).step h (by omega)
def ez (a:Nat):Nat:=if a=0 then 6 else if a=1 then 44 else if a=2 then 538 else if a=3 then 9696 else 1
def gz (a:Nat):Nat→Nat
 | 0=>ez a
 | i+1=>if i≤a then gz a i else 2*gz a i+ez i+1
theorem gz_le: ∀a,a<5→∀i,i<6→gz a i≤25000∧(i≤a→gz a i=ez a)∧1≤gz a i:=by decide
theorem GI.sz {T:Nat→Nat→Rat} {r:Nat} (hr:r≤5) (h:UpT T r) (hz: ∀a b,a<r→b<r+r→Sz (ez a) (augM r T oneF a b)): ∀i,i≤r→∀a b,a<r→b<r+r→Sz (gz a i) (gj (augM r T oneF) i a b)
 | 0,_,a,b,ha,hb=>hz a b ha hb
 | i+1,hi,a,b,ha,hb=>by
  have ih:=GI.sz hr h hz i (by omega)
  have g:=GI.all h i (by omega)
  show Sz _ (gstep (gj (augM r T oneF) i) i a b)
  rw[gz]
  by_cases e:a=i
  ·subst e
   rw[gstep_self,if_pos (Nat.le_refl _)]
   exact ih a b ha hb
  ·rw[g.row (by omega) e hb]
   by_cases e2:i≤a
   ·rw[if_pos e2,show gj (augM r T oneF) i a i=0 from by rw[g.keep a e2 ha i (by omega)];unfold augM;rw[if_pos (by omega)];exact h.low a i (by omega) ha,show gj (augM r T oneF) i a b-0*gj (augM r T oneF) i i b=gj (augM r T oneF) i a b from by grind]
    exact ih a b ha hb
   ·rw[if_neg e2]
    have z1:=ih a b ha hb
    have z2:=ih a i ha (by omega)
    have z3:=ih i b (by omega) hb
    have e3:=(gz_le i (by omega) i (by omega)).2.1 (Nat.le_refl _)
    rw[e3] at z3
    exact(z1.sub (z2.mul z3)).mono (by omega)
theorem right_inv {T B:Nat→Nat→Rat} {r:Nat} (h:UpT T r) (hb: ∀a b,a<r→b<r→lsum (fun k=>B a k*T k b) r=if a=b then 1 else 0): ∀{a:Nat} (_:a<r),∀c,c<r→lsum (fun j=>T a j*B j c) r=if a=c then 1 else 0:=by
 intro a ha
 have key: ∀c,c<r→lsum (fun k=>lsum (fun j=>T a j*B j k) r*T k c) r=T a c:=fun c hc=>by
  have e1:lsum (fun k=>lsum (fun j=>T a j*B j k) r*T k c) r=lsum (fun k=>lsum (fun j=>T a j*(B j k*T k c)) r) r:=lsum_congr fun k hk=>by
   rw[Rat.mul_comm,←lsum_mul]
   exact lsum_congr fun j _=>by grind
  rw[e1,lsum_swap,show lsum (fun j=>lsum (fun k=>T a j*(B j k*T k c)) r) r=lsum (fun j=>T a j*(if j=c then 1 else 0)) r from lsum_congr fun j hj=>by rw[lsum_mul,hb j c hj hc],lsum_single hc fun j _ hj=>by rw[if_neg hj,Rat.mul_zero],if_pos rfl,Rat.mul_one]
 intro c
 induction c using Nat.strongRecOn with
 | ind c ih=>
  intro hc
  have h1:=key c hc
  rw[lsum_part (k:=c+1) (by omega) fun k hk hk2=>by rw[h.low k c (by omega) hk2,Rat.mul_zero]] at h1
  simp only[lsum] at h1
  rw[h.one c hc,Rat.mul_one] at h1
  by_cases e:a<c
  ·have e2:lsum (fun k=>lsum (fun j=>T a j*B j k) r*T k c) c=T a c:=by
    rw[lsum_single e fun k hk hne=>by rw[ih k hk (by omega),if_neg (by omega),Rat.zero_mul],ih a e (by omega),if_pos rfl,Rat.one_mul]
   rw[e2] at h1
   rw[if_neg (by omega)]
   grind
  ·have e2:lsum (fun k=>lsum (fun j=>T a j*B j k) r*T k c) c=0:=lsum_zero fun k hk=>by rw[ih k hk (by omega),if_neg (by omega),Rat.zero_mul]
   rw[e2] at h1
   by_cases e3:a=c
   ·subst e3
    rw[h.one a ha] at h1
    rw[if_pos rfl]
    grind
   ·rw[h.low a c (by omega) ha] at h1
    rw[if_neg e3]
    grind
theorem Parts.szc {m L:Nat→Nat→Rat} {D:Nat→Rat} {r K:Nat} (hK:1≤K) (h:Parts m L D r r) (hz: ∀i j,i<r→j<r→Sz K (m i j)): ∀j,j<r→Sz (Ub K (j+1)) (D j)∧∀a,a<r→Sz (Ub K (j+1)) (L a j):=by
 have mono: ∀{a b:Nat},a≤b→Ub K a≤Ub K b:=fun {a b} hab=>by
  induction b with
  | zero=>rw[show a=0 by omega];exact Nat.le_refl _
  | succ b ih=>
   by_cases e:a=b+1
   ·rw[e];exact Nat.le_refl _
   ·exact Nat.le_trans (ih (by omega)) (Ub_mono hK b)
 intro j
 induction j using Nat.strongRecOn with
 | ind j ih=>
  intro hj
  have zt: ∀t,t<j→Sz (Ub K j) (D t)∧∀a,a<r→Sz (Ub K j) (L a t):=fun t ht=>⟨(ih t ht (by omega)).1.mono (mono (by omega)),fun a ha=>((ih t ht (by omega)).2 a ha).mono (mono (by omega))⟩
  have zl: ∀a,a<r→Sz (Sk K j) (leftF m L D a j):=fun a ha=>left_sz (hz a j ha hj) fun t ht=>(((zt t ht).2 a ha).mul (zt t ht).1).mul ((zt t ht).2 j hj)
  have hS:Sk K j≤Ub K (j+1):=by rw[Ub_succ];omega
  have hS1:1≤Sk K j:=by unfold Sk;omega
  have hD:Sz (Sk K j) (D j):=by rw[h.diag j hj];exact zl j hj
  refine⟨hD.mono hS,fun a ha=>?_⟩
  by_cases e:j<a
  ·rw[(h.low a j hj e ha).1,Ub_succ]
   exact(zl a ha).div hD hS1
  ·by_cases e2:a=j
   ·subst e2
    rw[h.one a ha]
    exact Sz.one (by omega)
   ·rw[h.up a j (by omega) hj]
    exact Sz.zero (by omega)
theorem up_turn {m L:Nat→Nat→Rat} {D:Nat→Rat} {r:Nat} (h:Parts m L D r r):UpT (fun i j=>L j i) r:=⟨fun i hi=>h.one i hi,fun a b hb ha=>h.up b a hb ha⟩
theorem aug_sz {m L:Nat→Nat→Rat} {D:Nat→Rat} {r:Nat} (hr:r≤5) (h:Parts m L D r r) (hz: ∀i j,i<r→j<r→Sz 3 (m i j)): ∀a b,a<r→b<r+r→Sz (ez a) (augM r (fun i j=>L j i) oneF a b):=fun a b ha hb=>by
 have h1:1≤ez a:=by unfold ez;(repeat' split)<;>omega
 unfold augM
 by_cases e:b<r
 ·rw[if_pos e]
  show Sz (ez a) (L b a)
  by_cases e2:b≤a
  ·by_cases e3:b=a
   ·rw[e3,h.one a ha];exact Sz.one h1
   ·rw[h.up b a (by omega) ha];exact Sz.zero h1
  ·have:=(Parts.szc (by omega) h hz a ha).2 b e
   rcases(by omega:a=0∨a=1∨a=2∨a=3) with rfl | rfl | rfl | rfl<;>exact this
 ·rw[if_neg e]
  unfold oneF
  split
  ·exact Sz.one h1
  ·exact Sz.zero h1
theorem form_part {m L:Nat→Nat→Rat} {D:Nat→Rat} {r k:Nat} (h:Parts m L D r r) (hs: ∀i t,i<r→t<r→m i t=m t i) {z:Nat→Rat} (hk:k<r) (hz: ∀j,j<r→lsum (fun i=>L i j*z i) r=if j=k then 1 else 0):lsum (fun i=>lsum (fun t=>m i t*(z i*z t)) r) r=D k:=by
 have:=h.quadH hs fun i t=>z i*z t
 unfold quadH at this
 rw[this]
 have e: ∀j,j<r→D j*lsum (fun i=>L i j*lsum (fun t=>L t j*(z i*z t)) r) r=D j*((if j=k then 1 else 0)*(if j=k then 1 else 0)):=fun j hj=>by
  congr 1
  rw[←hz j hj,←lsum_mul]
  refine lsum_congr fun i _=>?_
  rw[show lsum (fun t=>L t j*(z i*z t)) r=z i*lsum (fun t=>L t j*z t) r from by rw[←lsum_mul];exact lsum_congr fun t _=>by grind]
  grind
 rw[lsum_congr e,lsum_single hk fun j _ hj=>by rw[if_neg hj];grind,if_pos rfl]
 grind
end Go.Proofs.YthpmkcidkcmlgaaGreat
