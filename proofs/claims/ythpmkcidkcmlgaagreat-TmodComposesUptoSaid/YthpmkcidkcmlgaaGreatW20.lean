/- cincturelaw15: Of, Is, told, alive. -/
import Derived.Test.YthpmkcidkcmlgaaGreatW19
import Derived.Test.YthpmkcidkcmlgaaGreatLib4
import Derived.Test.YthpmkcidkcmlgaaGreatR15
import Derived.Test.YthpmkcidkcmlgaaGreatW14
import Derived.Test.YthpmkcidkcmlgaaGreatR10
set_option linter.unusedVariables false
set_option linter.unusedSimpArgs false
set_option maxRecDepth 100000
set_option linter.unusedVariables false
set_option linter.unusedSimpArgs false
namespace Go.Proofs.YthpmkcidkcmlgaaGreat
open Go Go.SX
structure MOK (e:Int) (x:Mdl):Prop where
 b:MdB 24013 7 e x
 len:x.1.length≤6
 ord:x.2.1≤x.2.2
theorem law15Of_ok {W0:PW} {M:Nat→Prop} {s:Sl} {L:List (Mon×ByteArray)} {c d:ByteArray} {e:Int} (h:IsAPoly W0 s L) (hl:L.length≤1099511627776) (hz: ∀t∈L,t.2.size≤1099511627776) (hc:c.size≤1099511627776) (hd:d.size≤1099511627776):
  PCallsM Go.Proofs.Tryz.prog 45 [.agg ⟨[s.v,.string c,.string d]⟩,.int .i64 e] W0 M fun v W'=>∃(l:List Value),∃(l':List Value),∃(ok:Bool),∃(x:Mdl),v = .tuple ⟨[.agg ⟨l⟩,.agg ⟨l'⟩,.bool ok]⟩∧MdV 317 188 W' l x∧RMdV 317 195 W' l' x∧(ok=true→MOK e x):=by
 apply calllaw15_Of
 have bad: ∀(W':PW),∃(l:List Value) (l':List Value) (ok:Bool) (x:Mdl),Value.tuple ⟨[.agg ⟨[.slice none 0 0,.slice none 0 0,.bool false,.slice none 0 0,.slice none 0 0,.bool false,.slice none 0 0]⟩,.agg ⟨[.slice none 0 0,.bool false,.slice none 0 0,.slice none 0 0,.bool false,.slice none 0 0,.slice none 0 0]⟩,.bool false]⟩ = .tuple ⟨[.agg ⟨l⟩,.agg ⟨l'⟩,.bool ok]⟩∧
   MdV 317 188 W' l x∧RMdV 317 195 W' l' x∧(ok=true→MOK e x):=fun W'=>⟨_,_,_,mdlZ,rfl,MdV.zero W',RMdV.zero W',fun e=>(by cases e)⟩
 refine law8Of_call h hl hz fun s3 s4 b5 W2 hE2 g=>⟨s3,s4,b5,rfl,law5Of_call hc hd fun l l' ok x W7 hE7 ⟨h1,h2,h3,_⟩=>?_⟩
 obtain⟨s8,b9,s10,s11,b12,s13,rfl,k1,k2⟩:=h1
 obtain⟨b14,s15,s16,b17,s18,s19,rfl,q1,q2⟩:=h2
 refine⟨s8,b9,s10,s11,b12,s13,b14,s15,s16,b17,s18,s19,ok,rfl,fun _ W21 _=>bad W21,fun hb5=>⟨fun _ W22 _=>bad W22,fun hok=>⟨fun _ W23 _=>bad W23,fun h6=>⟨fun _ W24 _=>bad W24,fun h16=>⟨fun _ W25 _=>bad W25,fun h17 W26 hE26=>?_⟩⟩⟩⟩⟩
 obtain⟨p,op,p1,p2⟩:=g (by simpa using hb5)
 obtain⟨hs,_,_⟩:=h3 (by simpa using hok)
 have hsz:=spP_sz hs (by omega) (by omega)
 have hn:s.n=L.length:=by obtain⟨xs,⟨_,hr⟩,ha⟩:=h;exact hr.1.trans ha.len
 have hpl:p.length≤6:=by have:=op.1.len;omega
 have hbd:=Bd.of_sz op.1.sz
 refine⟨_,_,_,(p,x),rfl,MdV.mk (x:=(p,x)) (p1.ext (hE7.trans hE26)) (SpV.mk (k1.ext hE26) (k2.ext hE26)),RMdV.mk (x:=(p,x)) (p2.ext (hE7.trans hE26)) (RSpV.mk (q1.ext hE26) (q2.ext hE26)),fun _=>⟨⟨hbd.mono ?_,BdI.of_sz hsz.1,op.1.good,op.exp p1.ok⟩,hpl,hsz.2⟩⟩
 have:=Nat.mul_le_mul_left (4000+2) hpl
 omega
theorem law15Of_call {W0 W:PW} {M:Nat→Prop} {s:Sl} {L:List (Mon×ByteArray)} {c d:ByteArray} {e:Int} {K:Value→PW→Prop} (h:IsAPoly W s L) (hl:L.length≤1099511627776) (hz: ∀t∈L,t.2.size≤1099511627776) (hc:c.size≤1099511627776) (hd:d.size≤1099511627776) (kont: ∀(l:List Value) (l':List Value) (ok:Bool) (x:Mdl) (W':PW),Ext W W'→(MdV 317 188 W' l x∧RMdV 317 195 W' l' x∧(ok=true→MOK e x))→K (.tuple ⟨[.agg ⟨l⟩,.agg ⟨l'⟩,.bool ok]⟩) W'):
  callN Go.Proofs.Tryz.prog W0 M 45 [.agg ⟨[s.v,.string c,.string d]⟩,.int .i64 e] W K:=
 callN_of (fun W' hE=>law15Of_ok (M:=fun _=>False) (h.ext hE) hl hz hc hd) (fun W' v W'' hE hE' hP=>by
  obtain⟨l,l',ok,x,rfl,h⟩:=hP
  exact kont l l' ok x W'' (hE.trans hE') h)
theorem law15Is_ok {W0:PW} {M:Nat→Prop} {l l':List Value} {x:Mdl} {k:Nat} (h1:MdV 317 188 W0 l x) (h2:RMdV 317 195 W0 l' x) (hp: ∀t∈x.1,Sz k t.2) (hx:IvS k x.2) (hk:k≤100000000) (hl:x.1.length≤1073741824):
  PCallsM Go.Proofs.Tryz.prog 61 [.agg ⟨l⟩,.agg ⟨l'⟩] W0 M fun v W'=>v = .bool true∧True:=by
 obtain⟨px,u0,c0,v0,u1,c1,v1,rfl,hxp,hxr⟩:=MdV.pts h1
 obtain⟨py,u2,c2,v2,u3,c3,v3,rfl,hyp,hyr⟩:=RMdV.pts h2
 apply calllaw15_Is
 exact law8Is_call hxp hyp hp hk hl fun W2 hE2 _=>⟨true,rfl,fun _=>law5Is_call (hxr.ext hE2) (hyr.ext hE2) hx hk fun W5 hE5 _=>⟨true,rfl,fun W7 _=>⟨rfl,trivial⟩⟩,fun e=>(by cases e)⟩
theorem law15Is_call {W0 W:PW} {M:Nat→Prop} {l l':List Value} {x:Mdl} {k:Nat} {K:Value→PW→Prop} (h1:MdV 317 188 W l x) (h2:RMdV 317 195 W l' x) (hp: ∀t∈x.1,Sz k t.2) (hx:IvS k x.2) (hk:k≤100000000) (hl:x.1.length≤1073741824) (kont: ∀(W':PW),Ext W W'→(True)→K (.bool true) W'):
  callN Go.Proofs.Tryz.prog W0 M 61 [.agg ⟨l⟩,.agg ⟨l'⟩] W K:=
 callN_of (fun W' hE=>law15Is_ok (M:=fun _=>False) (h1.ext hE) (h2.ext hE) hp hx hk hl) (fun W' v W'' hE hE' hP=>by
  obtain⟨rfl,h⟩:=hP
  exact kont W'' (hE.trans hE') h)
theorem law15told_ok {W0:PW} {M:Nat→Prop} {l l':List Value} {x:Mdl} {c:Bool} {k:Nat} (h1:MdV 317 188 W0 l x) (h2:RMdV 317 195 W0 l' x) (hp: ∀t∈x.1,Sz k t.2) (hx:IvS k x.2) (hk:k≤100000000) (hl:x.1.length≤1073741824) (h0:c=false→x=mdlZ):
  PCallsM Go.Proofs.Tryz.prog 49 [.agg ⟨l⟩,.bool c,.agg ⟨l'⟩,.bool c] W0 M fun v W'=>v = .bool true∧True:=by
 have g1:=h1
 have g2:=h2
 obtain⟨px,u0,c0,v0,u1,c1,v1,rfl,_,_⟩:=MdV.pts h1
 obtain⟨py,u2,c2,v2,u3,c3,v3,rfl,_,_⟩:=RMdV.pts h2
 apply calllaw15_told
 refine⟨fun hc=>⟨fun _=>?_,fun e=>absurd rfl e⟩,fun _=>⟨fun _=>law15Is_call g1 g2 hp hx hk hl fun W7 hE7 _=>⟨true,rfl,fun W9 _=>⟨rfl,trivial⟩⟩,fun e=>absurd rfl e⟩⟩
 have e:=h0 (by simpa using hc)
 subst e
 exact law15Is_call g1 (RMdV.zero W0) hp hx hk hl fun W2 hE2 _=>⟨true,rfl,fun W4 _=>⟨rfl,trivial⟩⟩
theorem law15told_call {W0 W:PW} {M:Nat→Prop} {l l':List Value} {x:Mdl} {c:Bool} {k:Nat} {K:Value→PW→Prop} (h1:MdV 317 188 W l x) (h2:RMdV 317 195 W l' x) (hp: ∀t∈x.1,Sz k t.2) (hx:IvS k x.2) (hk:k≤100000000) (hl:x.1.length≤1073741824) (h0:c=false→x=mdlZ) (kont: ∀(W':PW),Ext W W'→(True)→K (.bool true) W'):
  callN Go.Proofs.Tryz.prog W0 M 49 [.agg ⟨l⟩,.bool c,.agg ⟨l'⟩,.bool c] W K:=
 callN_of (fun W' hE=>law15told_ok (M:=fun _=>False) (h1.ext hE) (h2.ext hE) hp hx hk hl h0) (fun W' v W'' hE hE' hP=>by
  obtain⟨rfl,h⟩:=hP
  exact kont W'' (hE.trans hE') h)
def aT:DT:=⟨⟨⟨[48]⟩⟩,⟨⟨[50]⟩⟩,⟨⟨[48]⟩⟩,⟨⟨[48]⟩⟩,⟨⟨[48]⟩⟩,⟨⟨[49]⟩⟩⟩
def aB (i:Nat):Iv:=if i=0 then(0,2) else if i=1 then(0,0) else(0,1)
theorem a_sp: ∀i,i<3→spP (aT.lo i) (aT.hi i)=some (aB i):=fun i hi=>by
 rcases(by omega:i=0∨i=1∨i=2) with rfl | rfl | rfl<;>decide +kernel
theorem a_side: ∀i,i<3→sideOK aT i:=fun i hi=>⟨by rw[a_sp i hi];rfl,by rcases(by omega:i=0∨i=1∨i=2) with rfl | rfl | rfl<;>decide,by rcases(by omega:i=0∨i=1∨i=2) with rfl | rfl | rfl<;>decide⟩
theorem ivTm_congr {b b':Nat→Iv} (h: ∀i,i<3→b i=b' i) (t:Tm): ∀j,j≤3→ivTm b t j=ivTm b' t j
 | 0,_=>rfl
 | j+1,hj=>by rw[ivTm,ivTm,ivTm_congr h t j (by omega),h j (by omega)]
theorem ivOver_congr {b b':Nat→Iv} (h: ∀i,i<3→b i=b' i) (p:List Tm):ivOver b p=ivOver b' p:=by
 unfold ivOver
 have:(fun a t=>ivAdd a (ivTm b t 3))=fun a t=>ivAdd a (ivTm b' t 3):=by
  funext a t
  rw[ivTm_congr h t 3 (Nat.le_refl _)]
 rw[this]
theorem mdMul_congr {b b':Nat→Iv} (h: ∀i,i<3→b i=b' i) (n:Int) (x y:Mdl):mdMul b n x y=mdMul b' n x y:=by
 unfold mdMul cutP
 simp only[ivOver_congr h]
def aX:Mdl:=(varP 0,(0,0))
theorem a_mul:mdMul aB 1 aX aX=([],(0,4)):=by decide +kernel
theorem a_right {b:Nat→Iv} (h: ∀i,i<3→b i=aB i):DRight b 1:=by
 unfold DRight
 rw[h 0 (by omega),h 1 (by omega),h 2 (by omega)]
 decide +kernel
theorem aX_b:MdB 10 1 1 aX:=⟨(bd_one (Sz.one (Nat.le_refl 1))).mono (by decide),BdI.zero (Nat.le_refl 1),by
 rw[show aX.1=pnorm (varP 0) from by decide +kernel];exact pnorm_good _,fun t ht=>by
 have:t=((⟨1,0,0⟩:Mon),(1:Rat)):=by simpa[aX,varP,unitM] using ht
 subst this
 decide⟩
theorem sz_4:IvS 1 ((0:Rat),(4:Rat)):=⟨Sz.zero (Nat.le_refl 1),by
 rw[show(4:Rat)=((4:Int):Rat) from rfl]
 exact sz_small (by omega) (by omega)⟩
theorem law15alive_ok {W0:PW} {M:Nat→Prop} :
  PCallsM Go.Proofs.Tryz.prog 46 [] W0 M fun v W'=>v = .bool true∧True:=by
 apply calllaw15_alive
 refine law15Domain_call (t:=aT) (n:=1) (fun i=>by unfold DT.lo DT.hi aT;(repeat' split)<;>decide) fun l l' ok b W2 hE2 ⟨hD,hR,hB,hok,hb⟩=>dom_out hD hR ?_
 intros
 rename_i hD hR
 have hok':ok=true:=hok.2 a_side
 have hbe: ∀i,i<3→b i=aB i:=fun i hi=>by have:=(hb hok' i hi).symm.trans (a_sp i hi);exact Option.some.inj this
 refine polyVar_call fun s44 W43 hE43 h43=>⟨s44,rfl,?_⟩
 have hX:MdV 317 188 W43 [s44.v,.slice none 0 0,.bool false,.slice none 0 0,.slice none 0 0,.bool false,.slice none 0 0] aX:=MdV.mk (x:=aX) h43 (SpV.zero W43)
 refine tmodMul_call (hD.ext hE43) hX hX aX_b aX_b hB.bd (by omega) (by omega) (by omega) (by omega) (by omega) (by omega) (by decide) (by decide) fun r W46 hE46 h46=>h46.out fun s47 s48 b49 s50 s51 b52 s53 h46 hp hr=>?_
 have hdr:=a_right hbe
 rw[if_pos hdr,mdMul_congr hbe,a_mul] at hp hr
 refine⟨fun _=>⟨fun _=>?_,fun e=>absurd e (by simp[hdr])⟩,fun e=>absurd e (by simp[hok'])⟩
 obtain⟨xs,hrow,ha⟩:=hp
 have hxl:=ha.len
 refine polyTerms_call hrow (by simp at hxl;simp[hxl]) fun s57 W56 hE56 ⟨_,hO⟩=>⟨s57,rfl,fun _=>?_,fun e=>absurd ?_ e⟩
 ·refine refRatOf_call (z:=0) (by unfold I64;omega) fun b60 s61 s62 W59 hE59 h59=>⟨b60,s61,s62,rfl,refRatOf_call (z:=4) (by unfold I64;omega) fun b65 s66 s67 W64 hE64 h64=>⟨b65,s66,s67,rfl,?_⟩⟩
  exact law5Is_call (x:=(0,4)) (hr.ext (hE56.trans (hE59.trans hE64))) (RSpV.mk (x:=(0,4)) (h59.ext hE64) h64) sz_4 (by omega) fun W69 hE69 _=>⟨true,rfl,fun W71 _=>⟨rfl,trivial⟩⟩
 ·have:=hO.row.1
  simp at hxl
  rw[hxl] at this
  simp at this
  omega
theorem law15alive_call {W0 W:PW} {M:Nat→Prop} {K:Value→PW→Prop} (kont: ∀(W':PW),Ext W W'→(True)→K (.bool true) W'):
  callN Go.Proofs.Tryz.prog W0 M 46 [] W K:=
 callN_of (fun W' hE=>law15alive_ok (M:=fun _=>False) ) (fun W' v W'' hE hE' hP=>by
  obtain⟨rfl,h⟩:=hP
  exact kont W'' (hE.trans hE') h)
end Go.Proofs.YthpmkcidkcmlgaaGreat

/- tmod.Compose, cinctureref1.ModelCompose. -/
set_option maxRecDepth 100000
set_option linter.unusedVariables false
set_option linter.unusedSimpArgs false
namespace Go.Proofs.YthpmkcidkcmlgaaGreat
open Go Go.SX
def mdRep (b:Nat→Iv) (n:Int) (v y:Mdl):Nat→Mdl
 | 0=>v
 | k+1=>mdMul b n (mdRep b n v y k) y
def mdTm (b:Nat→Iv) (n:Int) (y:Nat→Mdl) (t:Tm):Nat→Mdl
 | 0=>cutP b n (cst t.2)
 | j+1=>mdRep b n (mdTm b n y t j) (y j) (mex t.1 j)
def mdComp (b:Nat→Iv) (n:Int) (y:Nat→Mdl) (f:List Tm):Mdl:=f.foldl (fun a t=>mdAdd a (mdTm b n y t 3)) mdlZ
theorem mdComp_snoc (b:Nat→Iv) (n:Int) (y:Nat→Mdl) (f:List Tm) (t:Tm):mdComp b n y (f ++ [t])=mdAdd (mdComp b n y f) (mdTm b n y t 3):=by simp[mdComp]
def rB:Nat→Nat
 | 0=>10126
 | c+1=>2*(4003+c*24013+24013)+2*(rB c+7)+18372
theorem rB_mono: ∀{c d:Nat},c≤d→rB c≤rB d
 | c,0,h=>by
  have:c=0:=by omega
  subst this
  exact Nat.le_refl _
 | c,d+1,h=>by
  by_cases e:c=d+1
  ·subst e;exact Nat.le_refl _
  ·have:=rB_mono (c:=c) (d:=d) (by omega)
   rw[rB]
   omega
theorem rB_4:rB 4=1806572:=by decide
structure MB (c:Nat) (x:Mdl):Prop where
 b:MdB (4003+c*24013) (rB c) 8 x
 len:x.1.length≤6^c
theorem md_len (b:Nat→Iv) (n:Int) (x y:Mdl):(mdMul b n x y).1.length≤x.1.length*y.1.length:=by
 have h1:=low_len n (pnorm (ppairs x.1 y.1))
 have h2:=pnorm_len (ppairs x.1 y.1)
 rw[ppairs_len] at h2
 show(lowP n (pnorm (ppairs x.1 y.1))).length≤_
 omega
theorem MB.step {c:Nat} {b:Nat→Iv} {n:Int} {x y:Mdl} (h:MB c x) (hy:MOK 3 y) (hB:DomB b) (hR:DRight b n):MB (c+1) (mdMul b n x y):=by
 have h8:n≤8:=hR.2.2.2.2
 have hm:=MdB.mul (n:=n) h.b hy.b hB.bd (Nat.le_refl 7) (by omega) (by omega) (by omega)
 have hok:POk (pnorm (ppairs x.1 y.1)):=fun t ht=>(pairs_exp h.b.ok hy.b.ok (by omega) t ht).1
 refine⟨⟨hm.bd.mono (by omega),hm.rest.mono (Nat.le_of_eq rfl),hm.good,low_exp hok h8⟩,?_⟩
 have h1:=md_len b n x y
 have h2:=Nat.mul_le_mul h.len hy.len
 rw[Nat.pow_succ]
 omega
theorem cst_b {q:Rat} (hq:Sz 4000 q):Bd 4003 (cst q)∧PExp 0 (cst q)∧(cst q).length≤1:=
 ⟨(bd_one hq).norm,PExp.norm fun t ht=>by
  rw[List.mem_singleton.1 ht]
  refine⟨?_,?_⟩
  ·exact(by decide:(⟨0,0,0⟩:Mon).ok)
  ·exact⟨Int.le_refl 0,Int.le_refl 0,Int.le_refl 0⟩,pnorm_len [((⟨0,0,0⟩:Mon),q)]⟩
theorem MB.ofc {b:Nat→Iv} {n:Int} {q:Rat} (hq:Sz 4000 q) (hB:DomB b):MB 0 (cutP b n (cst q)):=by
 obtain⟨hbd,he,hl⟩:=cst_b hq
 have hc:=MdB.cut (n:=n) hbd (pnorm_good _) hB.bd (Nat.le_refl 7) he (by omega)
 refine⟨⟨hc.bd,hc.rest,hc.good,fun t ht=>?_⟩,?_⟩
 ·have:=hc.ok t ht
  exact⟨this.1,by omega,by omega,by omega⟩
 ·have h1:=low_len n (cst q)
  show(lowP n (cst q)).length≤1
  omega
theorem MB.rep {c:Nat} {b:Nat→Iv} {n:Int} {v y:Mdl} (h:MB c v) (hy:MOK 3 y) (hB:DomB b) (hR:DRight b n): ∀k,MB (c+k) (mdRep b n v y k)
 | 0=>h
 | k+1=>(MB.rep h hy hB hR k).step hy hB hR
def sex (t:Tm):Nat→Nat
 | 0=>0
 | j+1=>sex t j+mex t.1 j
theorem sex_mono (t:Tm): ∀{i j:Nat},i≤j→sex t i≤sex t j
 | i,0,h=>by
  have:i=0:=by omega
  subst this
  exact Nat.le_refl _
 | i,j+1,h=>by
  by_cases e:i=j+1
  ·subst e;exact Nat.le_refl _
  ·have:=sex_mono t (i:=i) (j:=j) (by omega)
   rw[sex]
   omega
theorem MB.tm {b:Nat→Iv} {n:Int} {y:Nat→Mdl} {t:Tm} (ht:Sz 4000 t.2) (hy: ∀i,MOK 3 (y i)) (hB:DomB b) (hR:DRight b n): ∀j,MB (sex t j) (mdTm b n y t j)
 | 0=>MB.ofc ht hB
 | j+1=>(MB.tm ht hy hB hR j).rep (hy j) hB hR _
theorem MB.small {c:Nat} {x:Mdl} (h:MB c x) (hc:c≤4):MdB 100055 1806572 8 x∧x.1.length≤1296:=by
 have h1:=rB_mono hc
 rw[rB_4] at h1
 have h2:=Nat.mul_le_mul_right 24013 hc
 exact⟨⟨h.b.bd.mono (by omega),h.b.rest.mono h1,h.b.good,h.b.ok⟩,Nat.le_trans h.len (Nat.pow_le_pow_right (by omega) hc)⟩
theorem comp_b {b:Nat→Iv} {n:Int} {y:Nat→Mdl} {f:List Tm} (hf: ∀t∈f,Sz 4000 t.2∧sex t 3≤4) (hy: ∀i,MOK 3 (y i)) (hB:DomB b) (hR:DRight b n): ∀i,i≤f.length→MdB (1+i*100056) (1+i*1806573) 8 (mdComp b n y (f.take i))∧(mdComp b n y (f.take i)).1.length≤i*1296
 | 0,_=>⟨⟨⟨1,0,trivial,by decide,by rw[nl_one];omega,by rw[nl_zero];omega⟩,BdI.zero (by omega),PGood.nil,fun t ht=>(by cases ht)⟩,Nat.zero_le _⟩
 | i+1,hi=>by
  obtain⟨h1,h2⟩:=comp_b hf hy hB hR i (by omega)
  have hil:i<f.length:=by omega
  obtain⟨g1,g2⟩:=hf _ (List.getElem_mem hil)
  obtain⟨k1,k2⟩:=(MB.tm g1 hy hB hR 3).small g2
  rw[List.take_succ_eq_append_getElem hil,mdComp_snoc]
  have ha:=MdB.add h1 k1
  refine⟨⟨ha.bd.mono (by omega),ha.rest.mono (by omega),ha.good,ha.ok⟩,?_⟩
  have h3:=pnorm_len ((mdComp b n y (f.take i)).1 ++ (mdTm b n y f[i] 3).1)
  rw[List.length_append] at h3
  show(pnorm ((mdComp b n y (f.take i)).1 ++ (mdTm b n y f[i] 3).1)).length≤_
  omega
def tkO (W0:PW) (b:Nat→Iv) (n:Int) (y:Nat→Mdl) (f:List Tm) (L:List PL) (W:PW):Prop:=match L with
 | [.val (.int .i64 i),_,.cells l]=>∃j:Nat,i=(j:Int)∧j≤f.length∧Ext W0 W∧(¬DRight b n→j=0)∧MdV 317 188 W l (mdComp b n y (f.take j))
 | _=>False
def tkV (W0:PW) (b:Nat→Iv) (n:Int) (y:Nat→Mdl) (t:Tm) (L:List PL) (W:PW):Prop:=match L with
 | [.val (.bool c),.val (.int .i64 i),.cells l]=>∃v:Nat,i=(v:Int)∧v≤3∧Ext W0 W∧c=decide (DRight b n)∧(DRight b n→MdV 317 188 W l (mdTm b n y t v))
 | _=>False
def tkR (W0:PW) (b:Nat→Iv) (n:Int) (x z:Mdl) (m:Nat) (L:List PL) (W:PW):Prop:=match L with
 | [.val (.bool c),.val (.int .u8 i),.cells l]=>∃v:Nat,i=(v:Int)∧v≤m∧Ext W0 W∧c=decide (DRight b n)∧(DRight b n→MdV 317 188 W l (mdRep b n x z v))
 | _=>False
theorem pow6 {c:Nat} (h:c≤3):6^c≤216:=Nat.le_trans (Nat.pow_le_pow_right (by omega) h) (by decide)
theorem tmodCompose_ok {W0:PW} {M:Nat→Prop} {l ly:List Value} {s:Sl} {f:List Tm} {y:Nat→Mdl} {b:Nat→Iv} {n:Int} (hD:DomV 317 W0 l b n) (h:IsPoly 317 188 W0 s f) (hY:M3V 317 188 W0 ly y) (hf: ∀t∈f,Sz 4000 t.2∧sex t 3≤4) (hl:f.length≤5) (hy: ∀i,MOK 3 (y i)) (hB:DomB b):
  PCallsM Go.Proofs.Tryz.prog 68 [.agg ⟨l⟩,.agg ⟨[s.v]⟩,.agg ⟨ly⟩] W0 M fun v W'=>∃(r:List Value),v = .tuple ⟨[.agg ⟨r⟩,.bool (decide (DRight b n))]⟩∧MdV 317 188 W' r (if DRight b n then mdComp b n y f else mdlZ):=by
 obtain⟨l',rfl,hb⟩:=hD
 have hb0:=hb
 obtain⟨s0,b0,t0,s1,b1,t1,s2,b2,t2,s3,b3,t3,s4,b4,t4,s5,b5,t5,rfl,_⟩:=hb
 have hY0:=hY
 obtain⟨p0,s0',a0,t0',u0,b0',w0,p1,s1',a1,t1',u1,b1',w1,p2,s2',a2,t2',u2,b2',w2,rfl,_⟩:=hY
 apply calltmod_Compose
 have z7: ∀i,IvS 7 (b i):=fun i=>(hB.bd i).sz
 obtain⟨xs,hr,ha⟩:=h
 have hxl:=ha.len
 refine polyTerms_call hr (by omega) fun s3' W2 hE2 ⟨_,hO⟩=>⟨s3',rfl,?_⟩
 have h2:IsPoly 317 188 W2 s3' f:=⟨xs,hO.row,ha.mono fun _ _ e=>e.ext hE2⟩
 have hn:=h2.n
 refine⟨tkO W2 b n y f,cn1 f.length,⟨0,rfl,Nat.zero_le _,Ext.refl _,fun _=>rfl,MdV.zero W2⟩,?_⟩
 rintro s6 s7 b8 s9 s10 b11 s12 s13 s14 b15 s16 s17 b18 s19 i20 W21 ⟨j,rfl,hj,hE21,hj0,hS⟩
 refine⟨fun hlt=>?_,fun hge=>?_⟩
 ·have hjl:j<f.length:=by omega
  have hmem:=List.getElem_mem hjl
  obtain⟨g1,g2⟩:=hf _ hmem
  have hP:=h2.ext hE21
  obtain⟨h0,c1,d1,c2,e1,_,_,hq⟩:=hP.at (List.getElem?_eq_getElem hjl)
  have E21:=hE2.trans hE21
  refine⟨hP.inB (by omega) (by omega),_,_,_,c1,d1,c2,e1,polyConst_call hq g1 (by omega) fun s30 W29 hE29 h29=>⟨s30,rfl,?_⟩⟩
  obtain⟨hcb,hce,hcl⟩:=cst_b g1
  refine tmodCut_call (p:=cst f[j].2) (DomV.mk (hb0.ext (E21.trans hE29))) h29 (pnorm_good _) hcb hB.bd (Nat.le_refl 7) hce (by omega) (by omega) (by omega) fun r W32 hE32 h32=>h32.out fun _ _ _ _ _ _ _ h32 _ _=>?_
  refine⟨tkV W32 b n y f[j],fun L _=>match L with | [_,.val (.int .i64 i),_]=>3-i.toNat | _=>0,⟨0,rfl,Nat.zero_le _,Ext.refl _,rfl,fun hR=>by rw[if_pos hR] at h32;exact h32⟩,?_⟩
  rintro s43 s44 b45 s46 s47 b48 s49 b50 i51 W52 ⟨v,rfl,hv,hE52,rfl,hT⟩
  refine⟨fun hlt3=>?_,fun hge3=>?_⟩
  ·have hv3:v<3:=by omega
   refine⟨⟨by omega,by omega⟩,_,take_mon f[j].1 hv3,?_⟩
   rw[mex_eget h0 v]
   have hmx:mex f[j].1 v≤255:=by have:=eget_le h0 v;have:=mex_eget h0 v;omega
   have hsx:=sex_mono f[j] (show v+1≤3 by omega)
   rw[show sex f[j] (v+1)=sex f[j] v+mex f[j].1 v from rfl] at hsx
   refine⟨tkR W52 b n (mdTm b n y f[j] v) (y v) (mex f[j].1 v),fun L _=>match L with | [_,.val (.int .u8 i),_]=>mex f[j].1 v-i.toNat | _=>0,⟨0,rfl,Nat.zero_le _,Ext.refl _,rfl,hT⟩,?_⟩
   rintro s56 s57 b58 s59 s60 b61 s62 b63 i64 W65 ⟨k,rfl,hk,hE65,rfl,hQ⟩
   refine⟨fun hltk=>?_,fun hgek=>⟨by unfold I64;omega,⟨v+1,by push_cast;rfl,by omega,hE52.trans hE65,rfl,fun hR=>?_⟩,?_⟩⟩
   ·have hwr:IntKind.wrap .u8 ((k:Int)+1)=((k+1:Nat):Int):=by rw[wrap8 (by omega) (by omega)];push_cast;rfl
    rw[hwr]
    have hmu:mex f[j].1 v-Int.toNat ((k+1:Nat):Int)<mex f[j].1 v-Int.toNat (k:Int):=by omega
    refine⟨fun hyes=>?_,fun hno=>⟨⟨k+1,rfl,by omega,hE65,rfl,fun hR=>absurd hR (of_decide_eq_false hno)⟩,hmu⟩⟩
    have hR:DRight b n:=of_decide_eq_true hyes
    have hE:=E21.trans (hE29.trans (hE32.trans (hE52.trans hE65)))
    obtain⟨_,_,_,_,_,_,_,hbx,hyv⟩:=(hY0.ext hE).box hv3
    have hmb:=(MB.tm g1 hy hB hR v).rep (hy v) hB hR k
    have hc3:sex f[j] v+k≤3:=by omega
    have p6:=pow6 hc3
    have r3:=rB_mono hc3
    have r3':rB 3=794038:=by decide
    have k3:=Nat.mul_le_mul_right 24013 hc3
    have yl:=(hy v).len
    have ml:=hmb.len
    refine⟨⟨by omega,by omega⟩,_,_,_,_,_,_,_,hbx,?_⟩
    refine tmodMul_call (DomV.mk (hb0.ext hE)) (hQ hR) hyv hmb.b (hy v).b hB.bd (Nat.le_refl 7) (by omega) (by omega) (by omega) (by omega) (by omega) (by omega) (by omega) fun r W74 hE74 h74=>h74.out fun _ _ _ _ _ _ _ h74 _ _=>⟨⟨k+1,rfl,by omega,hE65.trans hE74,rfl,fun _=>?_⟩,hmu⟩
    rw[if_pos hR] at h74
    exact h74
   ·have:k=mex f[j].1 v:=by omega
    subst this
    exact hQ hR
   ·show 3-Int.toNat ((v:Int)+1)<3-Int.toNat (v:Int)
    omega
  ·have:v=3:=by omega
   subst this
   refine⟨fun hno W83 hE83=>?_,fun hyes=>?_⟩
   ·have hR:¬DRight b n:=by simpa using hno
    rw[decide_eq_false hR,if_neg hR]
    exact⟨_,rfl,MdV.zero W83⟩
   ·have hR:DRight b n:=by simpa using hyes
    obtain⟨k1,k2⟩:=(MB.tm g1 hy hB hR 3).small g2
    obtain⟨c1,c2⟩:=comp_b hf hy hB hR j hj
    have hj5:=Nat.mul_le_mul_right 100056 (show j≤5 by omega)
    have hj6:=Nat.mul_le_mul_right 1806573 (show j≤5 by omega)
    have hj7:=Nat.mul_le_mul_right 1296 (show j≤5 by omega)
    refine tmodAdd_call (k:=600000) (r:=10000000) (hS.ext (hE29.trans (hE32.trans hE52))) (hT hR) (c1.bd.mono (by omega)) (k1.bd.mono (by omega)) (c1.rest.mono (by omega)).sz (k1.rest.mono (by omega)).sz (by omega) (by omega) (by omega) (by omega) fun r W85 hE85 h85=>h85.out1 fun _ _ _ _ _ _ _ h85 _ _=>⟨by unfold I64;omega,⟨j+1,by push_cast;rfl,by omega,hE21.trans (hE29.trans (hE32.trans (hE52.trans hE85))),fun e=>absurd hR e,?_⟩,?_⟩
    ·rw[List.take_succ_eq_append_getElem hjl,mdComp_snoc]
     exact h85
    ·show f.length-Int.toNat ((j:Int)+1)<f.length-Int.toNat (j:Int)
     omega
 ·have:j=f.length:=by omega
  refine tmodRight_call (k:=7) (DomV.mk (hb0.ext (hE2.trans hE21))) z7 (by omega) fun W94 hE94 _=>⟨_,rfl,fun W96 hE96=>⟨_,rfl,?_⟩⟩
  by_cases hR:DRight b n
  ·rw[if_pos hR]
   subst this
   rw[List.take_length] at hS
   exact hS.ext (hE94.trans hE96)
  ·rw[if_neg hR]
   have hj':=hj0 hR
   subst hj'
   exact hS.ext (hE94.trans hE96)
theorem tmodCompose_call {W0 W:PW} {M:Nat→Prop} {l ly:List Value} {s:Sl} {f:List Tm} {y:Nat→Mdl} {b:Nat→Iv} {n:Int} {K:Value→PW→Prop} (hD:DomV 317 W l b n) (h:IsPoly 317 188 W s f) (hY:M3V 317 188 W ly y) (hf: ∀t∈f,Sz 4000 t.2∧sex t 3≤4) (hl:f.length≤5) (hy: ∀i,MOK 3 (y i)) (hB:DomB b) (kont: ∀(r:List Value) (W':PW),Ext W W'→(MdV 317 188 W' r (if DRight b n then mdComp b n y f else mdlZ))→K (.tuple ⟨[.agg ⟨r⟩,.bool (decide (DRight b n))]⟩) W'):
  callN Go.Proofs.Tryz.prog W0 M 68 [.agg ⟨l⟩,.agg ⟨[s.v]⟩,.agg ⟨ly⟩] W K:=
 callN_of (fun W' hE=>tmodCompose_ok (M:=fun _=>False) (hD.ext hE) (h.ext hE) (hY.ext hE) hf hl hy hB) (fun W' v W'' hE hE' hP=>by
  obtain⟨r,rfl,h⟩:=hP
  exact kont r W'' (hE.trans hE') h)
def rkO (W0:PW) (b:Nat→Iv) (n:Int) (y:Nat→Mdl) (f:List Tm) (L:List PL) (W:PW):Prop:=match L with
 | [.val (.int .i64 i),_,.cells l]=>∃j:Nat,i=(j:Int)∧j≤f.length∧Ext W0 W∧RMdV 317 195 W l (mdComp b n y (f.take j))
 | _=>False
def rkV (W0:PW) (b:Nat→Iv) (n:Int) (y:Nat→Mdl) (t:Tm) (L:List PL) (W:PW):Prop:=match L with
 | [.val (.int .i64 i),_,.cells l]=>∃v:Nat,i=(v:Int)∧v≤3∧Ext W0 W∧RMdV 317 195 W l (mdTm b n y t v)
 | _=>False
def rkR (W0:PW) (b:Nat→Iv) (n:Int) (x z:Mdl) (m:Nat) (L:List PL) (W:PW):Prop:=match L with
 | [.val (.int .i64 i),_,.cells l]=>∃v:Nat,i=(v:Int)∧v≤m∧Ext W0 W∧RMdV 317 195 W l (mdRep b n x z v)
 | _=>False
theorem refModelCompose_ok {W0:PW} {M:Nat→Prop} {l ly:List Value} {s:Sl} {f:List Tm} {y:Nat→Mdl} {b:Nat→Iv} {n:Int} (hD:RDomV 317 W0 l b n) (h:IsRPoly 317 195 W0 s f) (hY:RM3V 317 195 W0 ly y) (hf: ∀t∈f,Sz 4000 t.2∧sex t 3≤4) (hl:f.length≤5) (hy: ∀i,MOK 3 (y i)) (hB:DomB b):
  PCallsM Go.Proofs.Tryz.prog 69 [.agg ⟨l⟩,s.v,.agg ⟨ly⟩] W0 M fun v W'=>∃(r:List Value),v = .tuple ⟨[.agg ⟨r⟩,.bool (decide (DRight b n))]⟩∧RMdV 317 195 W' r (if DRight b n then mdComp b n y f else mdlZ):=by
 obtain⟨l',rfl,hb⟩:=hD
 have hb0:=hb
 obtain⟨b0,s0,t0,b1,s1,t1,b2,s2,t2,b3,s3,t3,b4,s4,t4,b5,s5,t5,rfl,_⟩:=hb
 have hY0:=hY
 obtain⟨p0,a0,s0',t0',b0',u0,w0,p1,a1,s1',t1',b1',u1,w1,p2,a2,s2',t2',b2',u2,w2,rfl,_⟩:=hY
 apply callref1_ModelCompose
 have z7: ∀i,IvS 7 (b i):=fun i=>(hB.bd i).sz
 have hn:=h.n
 refine refDomainRight_call (k:=7) (RDomV.mk hb0) z7 (by omega) fun W2 hE2 _=>⟨_,rfl,fun hno W4 hE4=>?_,fun hyes=>?_⟩
 ·have hR:¬DRight b n:=by simpa using hno
  rw[decide_eq_false hR,if_neg hR]
  exact⟨_,rfl,RMdV.zero W4⟩
 have hR:DRight b n:=by simpa using hyes
 rw[decide_eq_true hR,if_pos hR]
 refine refNone_call fun r W6 hE6 h6=>h6.out1 fun _ _ _ _ _ _ _ h6 _ _=>?_
 have E6:=hE2.trans hE6
 refine⟨rkO W6 b n y f,cn1 f.length,⟨0,rfl,Nat.zero_le _,Ext.refl _,h6⟩,?_⟩
 rintro s16 b17 s18 s19 b20 s21 s22 s23 b24 s25 s26 b27 s28 s29 i30 W31 ⟨j,rfl,hj,hE31,hS⟩
 refine⟨fun hlt=>?_,fun hge W112 hE112=>⟨_,rfl,?_⟩⟩
 ·have hjl:j<f.length:=by omega
  have hmem:=List.getElem_mem hjl
  obtain⟨g1,g2⟩:=hf _ hmem
  have E31:=E6.trans hE31
  have hP:=h.ext E31
  obtain⟨h0,c1,d1,c2,_,_,e3,hq⟩:=hP.at (List.getElem?_eq_getElem hjl)
  refine⟨hP.inB (by omega) (by omega),_,_,_,e3,refConst_call hq g1 (by omega) fun s37 W36 hE36 h36=>⟨s37,rfl,?_⟩⟩
  obtain⟨hcb,hce,hcl⟩:=cst_b g1
  refine refCut_call (p:=cst f[j].2) (RDomV.mk (hb0.ext (E31.trans hE36))) h36 hcb hB.bd hB.ord (Nat.le_refl 7) hce (by omega) (by omega) (by omega) fun r W39 hE39 h39=>h39.out fun _ _ _ _ _ _ _ h39 _ _=>?_
  rw[if_pos hR] at h39
  refine⟨rkV W39 b n y f[j],cn1 3,⟨0,rfl,Nat.zero_le _,Ext.refl _,h39⟩,?_⟩
  rintro s50 b51 s52 s53 b54 s55 s56 s57 b58 s59 s60 b61 s62 s63 i64 W65 ⟨v,rfl,hv,hE65,hT⟩
  refine⟨fun hlt3=>?_,fun hge3=>?_⟩
  ·have hv3:v<3:=by omega
   have hmx:mex f[j].1 v≤255:=by have:=eget_le h0 v;have:=mex_eget h0 v;omega
   have hsx:=sex_mono f[j] (show v+1≤3 by omega)
   rw[show sex f[j] (v+1)=sex f[j] v+mex f[j].1 v from rfl] at hsx
   refine⟨rkR W65 b n (mdTm b n y f[j] v) (y v) (mex f[j].1 v),cn1 (mex f[j].1 v),⟨0,rfl,Nat.zero_le _,Ext.refl _,hT⟩,?_⟩
   rintro s68 b69 s70 s71 b72 s73 s74 s75 b76 s77 s78 b79 s80 s81 i82 W83 ⟨k,rfl,hk,hE83,hQ⟩
   have hE:=E31.trans (hE36.trans (hE39.trans (hE65.trans hE83)))
   have hP83:=h.ext hE
   have hel:ElemAt W83 s 6 j (0+Int.toNat (v:Int)*1) [.int .u8 (eget f[j].1 v)]:=by
    obtain⟨ys,r1,a1⟩:=hP83
    obtain⟨x,hx,_,d,e,f,rfl,_⟩:=a1.get (List.getElem?_eq_getElem hjl)
    rcases(by omega:v=0∨v=1∨v=2) with rfl | rfl | rfl
    ·exact r1.part hx 0 rfl
    ·exact r1.part hx 1 rfl
    ·exact r1.part hx 2 rfl
   rw[mex_eget h0 v] at hel
   refine⟨hP83.inB (by omega) (by omega),⟨by omega,by omega⟩,_,hel,by unfold I64;omega,fun hltk=>?_,fun hgek=>⟨by unfold I64;omega,⟨v+1,by push_cast;rfl,by omega,hE65.trans hE83,?_⟩,?_⟩⟩
   ·obtain⟨_,_,_,_,_,_,_,hbx,hyv⟩:=(hY0.ext hE).box hv3
    have hmb:=(MB.tm g1 hy hB hR v).rep (hy v) hB hR k
    have hc3:sex f[j] v+k≤3:=by omega
    have p6:=pow6 hc3
    have r3:=rB_mono hc3
    have r3':rB 3=794038:=by decide
    have k3:=Nat.mul_le_mul_right 24013 hc3
    have yl:=(hy v).len
    have ml:=hmb.len
    refine⟨⟨by omega,by omega⟩,_,_,_,_,_,_,_,hbx,?_⟩
    refine refModelMul_call (RDomV.mk (hb0.ext hE)) hQ hyv hmb.b (hy v).b hB.bd hB.ord (Nat.le_refl 7) (by omega) (by omega) (by omega) (by omega) (by omega) (by omega) (by omega) fun r W93 hE93 h93=>h93.out fun _ _ _ _ _ _ _ h93 _ _=>⟨fun e=>absurd e (by simp[hR]),fun _=>⟨by unfold I64;omega,⟨k+1,by push_cast;rfl,by omega,hE83.trans hE93,?_⟩,?_⟩⟩
    ·rw[if_pos hR] at h93
     exact h93
    ·show mex f[j].1 v-Int.toNat ((k:Int)+1)<mex f[j].1 v-Int.toNat (k:Int)
     omega
   ·have:k=mex f[j].1 v:=by omega
    subst this
    exact hQ
   ·show 3-Int.toNat ((v:Int)+1)<3-Int.toNat (v:Int)
    omega
  ·have:v=3:=by omega
   subst this
   obtain⟨k1,k2⟩:=(MB.tm g1 hy hB hR 3).small g2
   obtain⟨c1,c2⟩:=comp_b hf hy hB hR j hj
   have hj5:=Nat.mul_le_mul_right 100056 (show j≤5 by omega)
   have hj6:=Nat.mul_le_mul_right 1806573 (show j≤5 by omega)
   have hj7:=Nat.mul_le_mul_right 1296 (show j≤5 by omega)
   refine refModelAdd_call (k:=600000) (r:=10000000) (hS.ext (hE36.trans (hE39.trans hE65))) hT c1.good (c1.bd.mono (by omega)) (k1.bd.mono (by omega)) (c1.rest.mono (by omega)).sz (k1.rest.mono (by omega)).sz (by omega) (by omega) (by omega) (by omega) fun r W104 hE104 h104=>h104.out1 fun _ _ _ _ _ _ _ h104 _ _=>⟨by unfold I64;omega,⟨j+1,by push_cast;rfl,by omega,hE31.trans (hE36.trans (hE39.trans (hE65.trans hE104))),?_⟩,?_⟩
   ·rw[List.take_succ_eq_append_getElem hjl,mdComp_snoc]
    exact h104
   ·show f.length-Int.toNat ((j:Int)+1)<f.length-Int.toNat (j:Int)
    omega
 ·have:j=f.length:=by omega
  subst this
  rw[List.take_length] at hS
  exact hS.ext hE112
theorem refModelCompose_call {W0 W:PW} {M:Nat→Prop} {l ly:List Value} {s:Sl} {f:List Tm} {y:Nat→Mdl} {b:Nat→Iv} {n:Int} {K:Value→PW→Prop} (hD:RDomV 317 W l b n) (h:IsRPoly 317 195 W s f) (hY:RM3V 317 195 W ly y) (hf: ∀t∈f,Sz 4000 t.2∧sex t 3≤4) (hl:f.length≤5) (hy: ∀i,MOK 3 (y i)) (hB:DomB b) (kont: ∀(r:List Value) (W':PW),Ext W W'→(RMdV 317 195 W' r (if DRight b n then mdComp b n y f else mdlZ))→K (.tuple ⟨[.agg ⟨r⟩,.bool (decide (DRight b n))]⟩) W'):
  callN Go.Proofs.Tryz.prog W0 M 69 [.agg ⟨l⟩,s.v,.agg ⟨ly⟩] W K:=
 callN_of (fun W' hE=>refModelCompose_ok (M:=fun _=>False) (hD.ext hE) (h.ext hE) (hY.ext hE) hf hl hy hB) (fun W' v W'' hE hE' hP=>by
  obtain⟨r,rfl,h⟩:=hP
  exact kont r W'' (hE.trans hE') h)
end Go.Proofs.YthpmkcidkcmlgaaGreat

/- poly.Diff, cinctureref1.Diff; cincturelaw8.PolyDiffs. -/
set_option maxRecDepth 100000
set_option linter.unusedVariables false
set_option linter.unusedSimpArgs false
namespace Go.Proofs.YthpmkcidkcmlgaaGreat
open Go Go.SX
end Go.Proofs.YthpmkcidkcmlgaaGreat
