/- cincturelaw15: Of, Is, told, alive. -/
import Derived.Test.YthpmkcidkcmlgaaGreatW19
import Derived.Test.YthpmkcidkcmlgaaGreatR15
import Derived.Test.YthpmkcidkcmlgaaGreatLib2
import Derived.Test.YthpmkcidkcmlgaaGreatLib3
import Derived.Test.YthpmkcidkcmlgaaGreatRows
import Derived.WalkKit
import Derived.ProofKit
import Derived.OpenShut
import Derived.JoinedCond
import Derived.Carry
import Derived.Deep.Strs
import Derived.Deep.Slices
set_option linter.unusedVariables false
set_option linter.unusedSimpArgs false
set_option maxRecDepth 100000
set_option linter.unusedVariables false
set_option linter.unusedSimpArgs false
namespace Go.Proofs.YthpmkcidkcmlgaaGreat
open Go Go.SX
structure MOK (e:Int) (x:Mdl):Prop where
 b:MdB 24013 7 e x
 len:x.1.length≤6
 ord:x.2.1≤x.2.2
theorem law15Of_ok {W0:PW} {M:Nat→Prop} {s:Sl} {L:List (Mon×ByteArray)} {c d:ByteArray} {e:Int} (h:IsAPoly W0 s L) (hl:L.length≤1099511627776) (hz: ∀t∈L,t.2.size≤1099511627776) (hc:c.size≤1099511627776) (hd:d.size≤1099511627776):
  PCallsM Go.Proofs.Tryz.prog 45 [.agg ⟨[s.v,.string c,.string d]⟩,.int .i64 e] W0 M fun v W'=>∃(l:List Value),∃(l':List Value),∃(ok:Bool),∃(x:Mdl),v = .tuple ⟨[.agg ⟨l⟩,.agg ⟨l'⟩,.bool ok]⟩∧MdV 317 188 W' l x∧RMdV 317 195 W' l' x∧(ok=true→MOK e x):=by
 apply calllaw15_Of
 have bad: ∀(W':PW),∃(l:List Value) (l':List Value) (ok:Bool) (x:Mdl),Value.tuple ⟨[.agg ⟨[.slice none 0 0,.slice none 0 0,.bool false,.slice none 0 0,.slice none 0 0,.bool false,.slice none 0 0]⟩,.agg ⟨[.slice none 0 0,.bool false,.slice none 0 0,.slice none 0 0,.bool false,.slice none 0 0,.slice none 0 0]⟩,.bool false]⟩ = .tuple ⟨[.agg ⟨l⟩,.agg ⟨l'⟩,.bool ok]⟩∧
   MdV 317 188 W' l x∧RMdV 317 195 W' l' x∧(ok=true→MOK e x):=fun W'=>⟨_,_,_,mdlZ,rfl,MdV.zero W',RMdV.zero W',fun e=>(by cases e)⟩
 refine law8Of_call h hl hz fun s3 s4 b5 W2 hE2 g=>⟨s3,s4,b5,rfl,law5Of_call hc hd fun l l' ok x W7 hE7 ⟨h1,h2,h3,_⟩=>?_⟩
 obtain⟨s8,b9,s10,s11,b12,s13,rfl,k1,k2⟩:=h1
 obtain⟨b14,s15,s16,b17,s18,s19,rfl,q1,q2⟩:=h2
 refine⟨s8,b9,s10,s11,b12,s13,b14,s15,s16,b17,s18,s19,ok,rfl,fun _ W21 _=>bad W21,fun hb5=>⟨fun _ W22 _=>bad W22,fun hok=>⟨fun _ W23 _=>bad W23,fun h6=>⟨fun _ W24 _=>bad W24,fun h16=>⟨fun _ W25 _=>bad W25,fun h17 W26 hE26=>?_⟩⟩⟩⟩⟩
 obtain⟨p,op,p1,p2⟩:=g (by simpa using hb5)
 obtain⟨hs,_,_⟩:=h3 (by simpa using hok)
 have hsz:=spP_sz hs (by omega) (by omega)
 have hn:s.n=L.length:=by obtain⟨xs,⟨_,hr⟩,ha⟩:=h;exact hr.1.trans ha.len
 have hpl:p.length≤6:=by have:=op.1.len;omega
 have hbd:=Bd.of_sz op.1.sz
 refine⟨_,_,_,(p,x),rfl,MdV.mk (x:=(p,x)) (p1.ext (hE7.trans hE26)) (SpV.mk (k1.ext hE26) (k2.ext hE26)),RMdV.mk (x:=(p,x)) (p2.ext (hE7.trans hE26)) (RSpV.mk (q1.ext hE26) (q2.ext hE26)),fun _=>⟨⟨hbd.mono ?_,BdI.of_sz hsz.1,op.1.good,op.exp p1.ok⟩,hpl,hsz.2⟩⟩
 have:=Nat.mul_le_mul_left (4000+2) hpl
 omega
theorem law15Of_call {W0 W:PW} {M:Nat→Prop} {s:Sl} {L:List (Mon×ByteArray)} {c d:ByteArray} {e:Int} {K:Value→PW→Prop} (h:IsAPoly W s L) (hl:L.length≤1099511627776) (hz: ∀t∈L,t.2.size≤1099511627776) (hc:c.size≤1099511627776) (hd:d.size≤1099511627776) (kont: ∀(l:List Value) (l':List Value) (ok:Bool) (x:Mdl) (W':PW),Ext W W'→(MdV 317 188 W' l x∧RMdV 317 195 W' l' x∧(ok=true→MOK e x))→K (.tuple ⟨[.agg ⟨l⟩,.agg ⟨l'⟩,.bool ok]⟩) W'):
  callN Go.Proofs.Tryz.prog W0 M 45 [.agg ⟨[s.v,.string c,.string d]⟩,.int .i64 e] W K:=
 callN_of (fun W' hE=>law15Of_ok (M:=fun _=>False) (h.ext hE) hl hz hc hd) (fun W' v W'' hE hE' hP=>by
  obtain⟨l,l',ok,x,rfl,h⟩:=hP
  exact kont l l' ok x W'' (hE.trans hE') h)
theorem law15Is_ok {W0:PW} {M:Nat→Prop} {l l':List Value} {x:Mdl} {k:Nat} (h1:MdV 317 188 W0 l x) (h2:RMdV 317 195 W0 l' x) (hp: ∀t∈x.1,Sz k t.2) (hx:IvS k x.2) (hk:k≤100000000) (hl:x.1.length≤1073741824):
  PCallsM Go.Proofs.Tryz.prog 61 [.agg ⟨l⟩,.agg ⟨l'⟩] W0 M fun v W'=>v = .bool true∧True:=by
 obtain⟨px,u0,c0,v0,u1,c1,v1,rfl,hxp,hxr⟩:=MdV.pts h1
 obtain⟨py,u2,c2,v2,u3,c3,v3,rfl,hyp,hyr⟩:=RMdV.pts h2
 apply calllaw15_Is
 exact law8Is_call hxp hyp hp hk hl fun W2 hE2 _=>⟨true,rfl,fun _=>law5Is_call (hxr.ext hE2) (hyr.ext hE2) hx hk fun W5 hE5 _=>⟨true,rfl,fun W7 _=>⟨rfl,trivial⟩⟩,fun e=>(by cases e)⟩
theorem law15Is_call {W0 W:PW} {M:Nat→Prop} {l l':List Value} {x:Mdl} {k:Nat} {K:Value→PW→Prop} (h1:MdV 317 188 W l x) (h2:RMdV 317 195 W l' x) (hp: ∀t∈x.1,Sz k t.2) (hx:IvS k x.2) (hk:k≤100000000) (hl:x.1.length≤1073741824) (kont: ∀(W':PW),Ext W W'→(True)→K (.bool true) W'):
  callN Go.Proofs.Tryz.prog W0 M 61 [.agg ⟨l⟩,.agg ⟨l'⟩] W K:=
 callN_of (fun W' hE=>law15Is_ok (M:=fun _=>False) (h1.ext hE) (h2.ext hE) hp hx hk hl) (fun W' v W'' hE hE' hP=>by
  obtain⟨rfl,h⟩:=hP
  exact kont W'' (hE.trans hE') h)
theorem law15told_ok {W0:PW} {M:Nat→Prop} {l l':List Value} {x:Mdl} {c:Bool} {k:Nat} (h1:MdV 317 188 W0 l x) (h2:RMdV 317 195 W0 l' x) (hp: ∀t∈x.1,Sz k t.2) (hx:IvS k x.2) (hk:k≤100000000) (hl:x.1.length≤1073741824) (h0:c=false→x=mdlZ):
  PCallsM Go.Proofs.Tryz.prog 49 [.agg ⟨l⟩,.bool c,.agg ⟨l'⟩,.bool c] W0 M fun v W'=>v = .bool true∧True:=by
 have g1:=h1
 have g2:=h2
 obtain⟨px,u0,c0,v0,u1,c1,v1,rfl,_,_⟩:=MdV.pts h1
 obtain⟨py,u2,c2,v2,u3,c3,v3,rfl,_,_⟩:=RMdV.pts h2
 apply calllaw15_told
 refine⟨fun hc=>⟨fun _=>?_,fun e=>absurd rfl e⟩,fun _=>⟨fun _=>law15Is_call g1 g2 hp hx hk hl fun W7 hE7 _=>⟨true,rfl,fun W9 _=>⟨rfl,trivial⟩⟩,fun e=>absurd rfl e⟩⟩
 have e:=h0 (by simpa using hc)
 subst e
 exact law15Is_call g1 (RMdV.zero W0) hp hx hk hl fun W2 hE2 _=>⟨true,rfl,fun W4 _=>⟨rfl,trivial⟩⟩
theorem law15told_call {W0 W:PW} {M:Nat→Prop} {l l':List Value} {x:Mdl} {c:Bool} {k:Nat} {K:Value→PW→Prop} (h1:MdV 317 188 W l x) (h2:RMdV 317 195 W l' x) (hp: ∀t∈x.1,Sz k t.2) (hx:IvS k x.2) (hk:k≤100000000) (hl:x.1.length≤1073741824) (h0:c=false→x=mdlZ) (kont: ∀(W':PW),Ext W W'→(True)→K (.bool true) W'):
  callN Go.Proofs.Tryz.prog W0 M 49 [.agg ⟨l⟩,.bool c,.agg ⟨l'⟩,.bool c] W K:=
 callN_of (fun W' hE=>law15told_ok (M:=fun _=>False) (h1.ext hE) (h2.ext hE) hp hx hk hl h0) (fun W' v W'' hE hE' hP=>by
  obtain⟨rfl,h⟩:=hP
  exact kont W'' (hE.trans hE') h)
def aT:DT:=⟨⟨⟨[48]⟩⟩,⟨⟨[50]⟩⟩,⟨⟨[48]⟩⟩,⟨⟨[48]⟩⟩,⟨⟨[48]⟩⟩,⟨⟨[49]⟩⟩⟩
def aB (i:Nat):Iv:=if i=0 then(0,2) else if i=1 then(0,0) else(0,1)
theorem a_sp: ∀i,i<3→spP (aT.lo i) (aT.hi i)=some (aB i):=fun i hi=>by
 rcases(by omega:i=0∨i=1∨i=2) with rfl | rfl | rfl<;>decide +kernel
theorem a_side: ∀i,i<3→sideOK aT i:=fun i hi=>⟨by rw[a_sp i hi];rfl,by rcases(by omega:i=0∨i=1∨i=2) with rfl | rfl | rfl<;>decide,by rcases(by omega:i=0∨i=1∨i=2) with rfl | rfl | rfl<;>decide⟩
theorem ivTm_congr {b b':Nat→Iv} (h: ∀i,i<3→b i=b' i) (t:Tm): ∀j,j≤3→ivTm b t j=ivTm b' t j
 | 0,_=>rfl
 | j+1,hj=>by rw[ivTm,ivTm,ivTm_congr h t j (by omega),h j (by omega)]
theorem ivOver_congr {b b':Nat→Iv} (h: ∀i,i<3→b i=b' i) (p:List Tm):ivOver b p=ivOver b' p:=by
 unfold ivOver
 have:(fun a t=>ivAdd a (ivTm b t 3))=fun a t=>ivAdd a (ivTm b' t 3):=by
  funext a t
  rw[ivTm_congr h t 3 (Nat.le_refl _)]
 rw[this]
theorem mdMul_congr {b b':Nat→Iv} (h: ∀i,i<3→b i=b' i) (n:Int) (x y:Mdl):mdMul b n x y=mdMul b' n x y:=by
 unfold mdMul cutP
 simp only[ivOver_congr h]
def aX:Mdl:=(varP 0,(0,0))
theorem a_mul:mdMul aB 1 aX aX=([],(0,4)):=by decide +kernel
theorem a_right {b:Nat→Iv} (h: ∀i,i<3→b i=aB i):DRight b 1:=by
 unfold DRight
 rw[h 0 (by omega),h 1 (by omega),h 2 (by omega)]
 decide +kernel
theorem aX_b:MdB 10 1 1 aX:=⟨(bd_one (Sz.one (Nat.le_refl 1))).mono (by decide),BdI.zero (Nat.le_refl 1),by
 rw[show aX.1=pnorm (varP 0) from by decide +kernel];exact pnorm_good _,fun t ht=>by
 have:t=((⟨1,0,0⟩:Mon),(1:Rat)):=by simpa[aX,varP,unitM] using ht
 subst this
 decide⟩
theorem sz_4:IvS 1 ((0:Rat),(4:Rat)):=⟨Sz.zero (Nat.le_refl 1),by
 rw[show(4:Rat)=((4:Int):Rat) from rfl]
 exact sz_small (by omega) (by omega)⟩
theorem law15alive_ok {W0:PW} {M:Nat→Prop} :
  PCallsM Go.Proofs.Tryz.prog 46 [] W0 M fun v W'=>v = .bool true∧True:=by
 apply calllaw15_alive
 refine law15Domain_call (t:=aT) (n:=1) (fun i=>by unfold DT.lo DT.hi aT;(repeat' split)<;>decide) fun l l' ok b W2 hE2 ⟨hD,hR,hB,hok,hb⟩=>dom_out hD hR ?_
 intros
 rename_i hD hR
 have hok':ok=true:=hok.2 a_side
 have hbe: ∀i,i<3→b i=aB i:=fun i hi=>by have:=(hb hok' i hi).symm.trans (a_sp i hi);exact Option.some.inj this
 refine polyVar_call fun s44 W43 hE43 h43=>⟨s44,rfl,?_⟩
 have hX:MdV 317 188 W43 [s44.v,.slice none 0 0,.bool false,.slice none 0 0,.slice none 0 0,.bool false,.slice none 0 0] aX:=MdV.mk (x:=aX) h43 (SpV.zero W43)
 refine tmodMul_call (hD.ext hE43) hX hX aX_b aX_b hB.bd (by omega) (by omega) (by omega) (by omega) (by omega) (by omega) (by decide) (by decide) fun r W46 hE46 h46=>h46.out fun s47 s48 b49 s50 s51 b52 s53 h46 hp hr=>?_
 have hdr:=a_right hbe
 rw[if_pos hdr,mdMul_congr hbe,a_mul] at hp hr
 refine⟨fun _=>⟨fun _=>?_,fun e=>absurd e (by simp[hdr])⟩,fun e=>absurd e (by simp[hok'])⟩
 obtain⟨xs,hrow,ha⟩:=hp
 have hxl:=ha.len
 refine polyTerms_call hrow (by simp at hxl;simp[hxl]) fun s57 W56 hE56 ⟨_,hO⟩=>⟨s57,rfl,fun _=>?_,fun e=>absurd ?_ e⟩
 ·refine refRatOf_call (z:=0) (by unfold I64;omega) fun b60 s61 s62 W59 hE59 h59=>⟨b60,s61,s62,rfl,refRatOf_call (z:=4) (by unfold I64;omega) fun b65 s66 s67 W64 hE64 h64=>⟨b65,s66,s67,rfl,?_⟩⟩
  exact law5Is_call (x:=(0,4)) (hr.ext (hE56.trans (hE59.trans hE64))) (RSpV.mk (x:=(0,4)) (h59.ext hE64) h64) sz_4 (by omega) fun W69 hE69 _=>⟨true,rfl,fun W71 _=>⟨rfl,trivial⟩⟩
 ·have:=hO.row.1
  simp at hxl
  rw[hxl] at this
  simp at this
  omega
theorem law15alive_call {W0 W:PW} {M:Nat→Prop} {K:Value→PW→Prop} (kont: ∀(W':PW),Ext W W'→(True)→K (.bool true) W'):
  callN Go.Proofs.Tryz.prog W0 M 46 [] W K:=
 callN_of (fun W' hE=>law15alive_ok (M:=fun _=>False) ) (fun W' v W'' hE hE' hP=>by
  obtain⟨rfl,h⟩:=hP
  exact kont W'' (hE.trans hE') h)
end Go.Proofs.YthpmkcidkcmlgaaGreat

/- cincturelaw15.TmodTimes. -/
set_option maxRecDepth 100000
set_option linter.unusedVariables false
set_option linter.unusedSimpArgs false
namespace Go.Proofs.YthpmkcidkcmlgaaGreat
open Go Go.SX
theorem DT.szs {t:DT} {k:Nat} (h0:t.a0.size≤k) (h1:t.b0.size≤k) (h2:t.a1.size≤k) (h3:t.b1.size≤k) (h4:t.a2.size≤k) (h5:t.b2.size≤k) (i:Nat):(t.lo i).size≤k∧(t.hi i).size≤k:=by
 unfold DT.lo DT.hi
 (repeat' split)<;>first | exact⟨h0,h1⟩ | exact⟨h2,h3⟩ | exact⟨h4,h5⟩
theorem time_ok {b:Nat→Iv} {n:Int} {x:Mdl} {e:Int} (h:MOK e x) (he:e≤254) (hB:DomB b):(∀t∈(if TRight b n then mdTime b n x else mdlZ).1,Sz 1000000 t.2)∧IvS 1000000 (if TRight b n then mdTime b n x else mdlZ).2∧(if TRight b n then mdTime b n x else mdlZ).1.length≤1073741824:=by
 by_cases hT:TRight b n
 ·rw[if_pos hT]
  have hl:=h.len
  have hb':=Bd.of_sz (ris_sz h.b.bd.sz h.b.ok he)
  rw[risP_len,show 24013+1+2=24016 by omega] at hb'
  have:=Nat.mul_le_mul_left 24016 hl
  have hpe:PExp (e+1) (pnorm (risP x.1)):=PExp.norm (ris_ok h.b.ok he)
  have hc:=MdB.cut (n:=n) hb'.norm (pnorm_good _) hB.bd (Nat.le_refl 7) hpe (by omega)
  refine⟨fun t ht=>(hc.bd.mono (by omega)).sz t ht,((hc.rest.add (h.b.rest.mul (hB.bd 2))).mono (by omega)).sz,?_⟩
  have h1:=low_len n (pnorm (risP x.1))
  have h2:=pnorm_len (risP x.1)
  rw[risP_len] at h2
  show(lowP n (pnorm (risP x.1))).length≤_
  omega
 ·rw[if_neg hT]
  exact⟨fun t ht=>(by cases ht),⟨Sz.zero (by omega),Sz.zero (by omega)⟩,by simp[mdlZ]⟩
theorem tmodTimes_ok {W0:PW} {M:Nat→Prop} {q0 q1 q2 r0 r1 r2:ByteArray} {n:Int} {s:Sl} {L:List (Mon×ByteArray)} {x2a x2b:ByteArray} {y:Bool} (h:IsAPoly W0 s L) (z0:q0.size≤1099511627776) (z1:q1.size≤1099511627776) (z2:q2.size≤1099511627776) (z3:r0.size≤1099511627776) (z4:r1.size≤1099511627776) (z5:r2.size≤1099511627776) (hl:L.length≤1099511627776) (hz: ∀t∈L,t.2.size≤1099511627776) (hc:x2a.size≤1099511627776) (hd:x2b.size≤1099511627776):
  PCallsM Go.Proofs.Tryz.prog 7 [.agg ⟨[.string q0,.string r0,.string q1,.string r1,.string q2,.string r2]⟩,.int .i64 n,.agg ⟨[s.v,.string x2a,.string x2b]⟩,.bool y] W0 M fun v W'=>v = .bool true∧True:=by
 apply calllaw15_TmodTimes
 have alv: ∀W,callN Go.Proofs.Tryz.prog W0 M 46 [] W fun v11 W12=>∃b13:Bool,v11 = .bool b13∧∀(W14:PW),Ext W12 W14→Value.bool b13 = .bool true∧True:=fun W=>law15alive_call fun W12 _ _=>⟨true,rfl,fun W14 _=>⟨rfl,trivial⟩⟩
 have hz48:((⟨⟨[48]⟩⟩:ByteArray)).size≤1099511627776:=by decide
 refine⟨fun _=>⟨⟨by omega,by omega⟩,?_⟩,fun _=>?_⟩
 ·obtain⟨t,ht⟩: ∃t:DT,t=⟨q0,r0,q1,r1,⟨⟨[48]⟩⟩,r2⟩:=⟨_,rfl⟩
  have ht:(t.a0.size≤1099511627776∧t.b0.size≤1099511627776∧t.a1.size≤1099511627776∧t.b1.size≤1099511627776∧t.a2.size≤1099511627776∧t.b2.size≤1099511627776)∧t=⟨q0,r0,q1,r1,⟨⟨[48]⟩⟩,r2⟩:=⟨by subst ht;exact⟨z0,z3,z1,z4,hz48,z5⟩,ht⟩
  obtain⟨ht,e⟩:=ht
  have: [Value.agg ⟨[.string q0,.string r0,.string q1,.string r1,.string ⟨⟨[48]⟩⟩,.string r2]⟩,Value.int .i64 n] = [Value.agg ⟨[.string t.a0,.string t.b0,.string t.a1,.string t.b1,.string t.a2,.string t.b2]⟩,Value.int .i64 n]:=by rw[e]
  rw[this]
  clear this e
  refine law15Domain_call (t:=t) (n:=n) (DT.szs ht.1 ht.2.1 ht.2.2.1 ht.2.2.2.1 ht.2.2.2.2.1 ht.2.2.2.2.2) fun l l' ok b W2 hE2 ⟨hD,hR,hB,_,_⟩=>dom_out hD hR ?_
  intros
  rename_i hD hR
  refine law15Of_call (h.ext hE2) hl hz hc hd fun l l' ok2 x W43 hE43 ⟨hm,hr,hok⟩=>?_
  obtain⟨_,_,_,_,_,_,_,rfl,hmp,hmr⟩:=MdV.pts hm
  obtain⟨_,_,_,_,_,_,_,rfl,hrp,hrr⟩:=RMdV.pts hr
  refine⟨_,_,_,_,_,_,_,_,_,_,_,_,_,_,_,rfl,fun _=>alv _,fun _=>⟨fun _=>alv _,fun hk2=>law15alive_call fun W68 hE68 _=>⟨true,rfl,fun _=>alv _,fun _=>?_⟩⟩⟩
  have hx:=hok (by simpa using hk2)
  have hlen:=hx.len
  have hmul:=Nat.mul_le_mul_left (24013+3) hlen
  refine tmodTime_call (hD.ext (hE43.trans hE68)) (MdV.mk (x:=x) (hmp.ext hE68) (hmr.ext hE68)) hx.b hB.bd (by omega) (by omega) (by omega) (by omega) (by omega) (by omega) fun r W75 hE75 h75=>h75.out fun _ _ _ _ _ _ _ h75 _ _=>?_
  refine refTime_call (hR.ext (hE43.trans (hE68.trans hE75))) (RMdV.mk (x:=x) (hrp.ext (hE68.trans hE75)) (hrr.ext (hE68.trans hE75))) hx.b hB.bd hB.ord (by omega) (by omega) (by omega) (by omega) (by omega) (by omega) fun r W85 hE85 h85=>h85.out fun _ _ _ _ _ _ _ h85 _ _=>?_
  obtain⟨t1,t2,t3⟩:=time_ok (n:=n) hx (by omega) hB
  exact law15told_call (h75.ext hE85) h85 t1 t2 (by omega) t3 (fun e=>if_neg (of_decide_eq_false e)) fun W95 hE95 _=>⟨true,rfl,fun W97 _=>⟨rfl,trivial⟩⟩
 ·obtain⟨t,ht⟩: ∃t:DT,t=⟨q0,r0,q1,r1,q2,r2⟩:=⟨_,rfl⟩
  have ht:(t.a0.size≤1099511627776∧t.b0.size≤1099511627776∧t.a1.size≤1099511627776∧t.b1.size≤1099511627776∧t.a2.size≤1099511627776∧t.b2.size≤1099511627776)∧t=⟨q0,r0,q1,r1,q2,r2⟩:=⟨by subst ht;exact⟨z0,z3,z1,z4,z2,z5⟩,ht⟩
  obtain⟨ht,e⟩:=ht
  have: [Value.agg ⟨[.string q0,.string r0,.string q1,.string r1,.string q2,.string r2]⟩,Value.int .i64 n] = [Value.agg ⟨[.string t.a0,.string t.b0,.string t.a1,.string t.b1,.string t.a2,.string t.b2]⟩,Value.int .i64 n]:=by rw[e]
  rw[this]
  clear this e
  refine law15Domain_call (t:=t) (n:=n) (DT.szs ht.1 ht.2.1 ht.2.2.1 ht.2.2.2.1 ht.2.2.2.2.1 ht.2.2.2.2.2) fun l l' ok b W2 hE2 ⟨hD,hR,hB,_,_⟩=>dom_out hD hR ?_
  intros
  rename_i hD hR
  refine law15Of_call (h.ext hE2) hl hz hc hd fun l l' ok2 x W43 hE43 ⟨hm,hr,hok⟩=>?_
  obtain⟨_,_,_,_,_,_,_,rfl,hmp,hmr⟩:=MdV.pts hm
  obtain⟨_,_,_,_,_,_,_,rfl,hrp,hrr⟩:=RMdV.pts hr
  refine⟨_,_,_,_,_,_,_,_,_,_,_,_,_,_,_,rfl,fun _=>alv _,fun _=>⟨fun _=>alv _,fun hk2=>law15alive_call fun W68 hE68 _=>⟨true,rfl,fun _=>alv _,fun _=>?_⟩⟩⟩
  have hx:=hok (by simpa using hk2)
  have hlen:=hx.len
  have hmul:=Nat.mul_le_mul_left (24013+3) hlen
  refine tmodTime_call (hD.ext (hE43.trans hE68)) (MdV.mk (x:=x) (hmp.ext hE68) (hmr.ext hE68)) hx.b hB.bd (by omega) (by omega) (by omega) (by omega) (by omega) (by omega) fun r W75 hE75 h75=>h75.out fun _ _ _ _ _ _ _ h75 _ _=>?_
  refine refTime_call (hR.ext (hE43.trans (hE68.trans hE75))) (RMdV.mk (x:=x) (hrp.ext (hE68.trans hE75)) (hrr.ext (hE68.trans hE75))) hx.b hB.bd hB.ord (by omega) (by omega) (by omega) (by omega) (by omega) (by omega) fun r W85 hE85 h85=>h85.out fun _ _ _ _ _ _ _ h85 _ _=>?_
  obtain⟨t1,t2,t3⟩:=time_ok (n:=n) hx (by omega) hB
  exact law15told_call (h75.ext hE85) h85 t1 t2 (by omega) t3 (fun e=>if_neg (of_decide_eq_false e)) fun W95 hE95 _=>⟨true,rfl,fun W97 _=>⟨rfl,trivial⟩⟩
end Go.Proofs.YthpmkcidkcmlgaaGreat

/- Arguments opened: what every kind of argument needs. -/
set_option maxRecDepth 100000
set_option linter.unusedVariables false
set_option linter.unusedSimpArgs false
namespace Go.Proofs.YthpmkcidkcmlgaaGreat
open Go Go.SX Go.ChangeShapes Go.WideShapes Go.ChangeAt Go.RowKit Go.Deep
theorem ownKnob_none:ownKnob Go.Proofs.Tryz.prog.godebug=none:=by kernel_rfl
theorem laidOut:laidOutB Go.Proofs.Tryz.prog=true:=by kernel_rfl
theorem cells_str:Go.Proofs.Tryz.prog.cellsOf 9=1:=by kernel_rfl
theorem cell_block {W:World} {b o:Nat} {v:Value} (h:W.cell? ⟨b,o,none⟩=some v): ∃cs t fz,W.heap[b]?=some (.cells cs t fz)∧cs[o]?=some v:=by
 unfold World.cell? at h
 cases e:W.heap[b]? with
 | none=>simp[e] at h
 | some ob=>
  cases ob with
  | cells cs t fz=>exact⟨cs,t,fz,rfl,by simpa[e] using h⟩
  | _=>simp[e] at h
theorem bulk_one {H:Type} (d:DataW H):1≤Rows.uptoBulk d:=by
 cases d with
 | lit l=>cases l<;>simp[Rows.uptoBulk]
 | nil=>simp[Rows.uptoBulk]
 | ptr d=>simp[Rows.uptoBulk]
 | slice elems spare=>simp[Rows.uptoBulk]
 | agg parts=>simp[Rows.uptoBulk]
 | iface t d=>simp[Rows.uptoBulk]
 | map entries=>simp[Rows.uptoBulk]
 | held h=>simp[Rows.uptoBulk]
theorem bulk_part {H:Type} {d:DataW H} {l:List (DataW H)} (h:d∈l):Rows.uptoBulk d≤Rows.uptoBulkAll l:=by
 induction l with
 | nil=>cases h
 | cons x r ih=>
  simp only[Rows.uptoBulkAll]
  cases List.mem_cons.1 h with
  | inl e=>subst e;omega
  | inr e=>have:=ih e;omega
theorem bulk_length {H:Type} (l:List (DataW H)):l.length≤Rows.uptoBulkAll l:=by
 induction l with
 | nil=>simp[Rows.uptoBulkAll]
 | cons x r ih=>have:=bulk_one x;simp only[Rows.uptoBulkAll,List.length_cons];omega
theorem rowA_of_cellsN {W:World} {a:Addr} {n c sz:Nat} {V:Nat→List Value} (h: ∀j,j<n→∀i v,(V j)[i]?=some v→W.cell? (a.add (j*sz+i))=some v) (hV: ∀j,j<n→(V j).length=sz) (hsz:0<sz) (hn:n≤c) (hc:c≤maxLen) (h1: ∀j,j<n→∀u∈V j,u.oneCell'=true):
  RowA ⟨W,fun _=>False⟩ sz ⟨some a,n,c⟩ ((List.range n).map V):=by
 have hel: ∀x∈(List.range n).map V,x.length=sz∧∀u∈x,u.oneCell'=true:=by
  intro x hx
  obtain⟨j,hj,rfl⟩:=List.mem_map.1 hx
  exact⟨hV j (List.mem_range.1 hj),h1 j (List.mem_range.1 hj)⟩
 by_cases h0:n=0
 ·subst h0
  exact⟨0,rfl,Nat.zero_le _,hc,hel,.inl rfl⟩
 ·obtain⟨b,off,sp⟩:=a
  have hlen0:=hV 0 (by omega)
  obtain⟨v0,hv0⟩: ∃v,(V 0)[0]?=some v:=⟨_,List.getElem?_eq_getElem (by omega)⟩
  have hc0:=h 0 (by omega) 0 v0 hv0
  have hsp:sp=none:=by simpa[Addr.add] using World.cell?_spot hc0
  subst hsp
  obtain⟨cs,t,fz,hh,_⟩:=cell_block (by rw[←add_plain];exact hc0)
  refine⟨t,by simp,hn,hc,hel,.inr ⟨b,off,cs,fz,rfl,id,hh,fun j v hj=>?_⟩⟩
  have hjl:=(List.getElem?_eq_some_iff.1 hj).1
  rw[flatten_length (sz:=sz) (fun x hx=>(hel x hx).1)] at hjl
  simp only[List.length_map,List.length_range] at hjl
  have hi:j/sz<n:=(Nat.div_lt_iff_lt_mul hsz).2 hjl
  have hm:j%sz<sz:=Nat.mod_lt _ hsz
  have e:j/sz*sz+j%sz=j:=by rw[Nat.mul_comm];exact Nat.div_add_mod j sz
  have hx:((List.range n).map V)[j/sz]?=some (V (j/sz)):=by simp[hi]
  have hl:=hV _ hi
  have hf:=flatten_at (sz:=sz) (fun x hx=>(hel x hx).1) hx (j:=j%sz) (v:=(V (j/sz))[j%sz]'(by omega)) (List.getElem?_eq_getElem (by omega))
  rw[e,hj] at hf
  have hcell:=h _ hi (j%sz) v (by rw[hf];exact List.getElem?_eq_getElem (by omega))
  rw[e,add_plain] at hcell
  obtain⟨cs',t',fz',hh',hv⟩:=cell_block hcell
  rw[hh] at hh'
  cases hh'
  exact hv
end Go.Proofs.YthpmkcidkcmlgaaGreat

/- Arguments of pairs of texts, opened. -/
set_option maxRecDepth 100000
set_option linter.unusedVariables false
set_option linter.unusedSimpArgs false
namespace Go.Proofs.YthpmkcidkcmlgaaGreat
open Go Go.SX Go.ChangeShapes Go.WideShapes Go.ChangeAt Go.RowKit Go.Deep
theorem cells_pair:Go.Proofs.Tryz.prog.cellsOf 111=2:=by kernel_rfl
theorem open_pair {H:Type} {enc:TypeId×Value→H} {W:World} {fuel:Nat} {cs:List Value} {x:DataW H×List MemPlace} (h:DataW.trod enc Go.Proofs.Tryz.prog W 0 (fun _=>true) true fuel 111 cs=some x):
  ∃a b:ByteArray,cs = [.string a,.string b]∧a.size≤Rows.uptoBulk x.1∧b.size≤Rows.uptoBulk x.1:=by
 obtain⟨xs,k,rfl,rfl,hl,hxl,hf⟩:=DataW.trod_struct Go.Proofs.Tryz.underlying111 h
 rw[cells_pair] at hl
 have g0:DataW.trod enc Go.Proofs.Tryz.prog W 0 (fun _=>true) true k 9 ((cs.drop 0).take (Go.Proofs.Tryz.prog.cellsOf 9))=xs[0]?:=hf 0 _ rfl
 have g1:DataW.trod enc Go.Proofs.Tryz.prog W 0 (fun _=>true) true k 9 ((cs.drop 1).take (Go.Proofs.Tryz.prog.cellsOf 9))=xs[1]?:=hf 1 _ rfl
 rw[cells_str] at g0 g1
 match cs,hl,xs,hxl with
 | [v0,v1],_,[y0,y1],_=>
  have g0:DataW.trod enc Go.Proofs.Tryz.prog W 0 (fun _=>true) true k 9 [v0]=some y0:=g0
  have g1:DataW.trod enc Go.Proofs.Tryz.prog W 0 (fun _=>true) true k 9 [v1]=some y1:=g1
  obtain⟨s0,h0,rfl,_⟩:=DataW.trod_string Go.Proofs.Tryz.underlying9 g0
  obtain⟨s1,h1,rfl,_⟩:=DataW.trod_string Go.Proofs.Tryz.underlying9 g1
  have k0:v0=Value.string s0:=(List.cons.inj (show[v0] = [Value.string s0] from h0)).1
  have k1:v1=Value.string s1:=(List.cons.inj (show[v1] = [Value.string s1] from h1)).1
  subst k0 k1
  refine⟨s0,s1,rfl,?_⟩
  have e0:s0.data.toList.length=s0.size:=by rw[Array.length_toList];rfl
  have e1:s1.data.toList.length=s1.size:=by rw[Array.length_toList];rfl
  simp only[List.map_cons,List.map_nil,Rows.uptoBulk,Rows.uptoBulkAll]
  omega
end Go.Proofs.YthpmkcidkcmlgaaGreat

/- An argument of three pairs of texts, opened. -/
set_option maxRecDepth 100000
set_option linter.unusedVariables false
set_option linter.unusedSimpArgs false
namespace Go.Proofs.YthpmkcidkcmlgaaGreat
open Go Go.SX Go.ChangeShapes Go.WideShapes Go.ChangeAt Go.RowKit Go.Deep
theorem three_pairs_of {r:Reach} {w:World} {base:Nat} {v:Value} (h:Value.okWide Go.Proofs.Tryz.prog w r base 112 v): ∃xs:Array Value,v = .agg xs∧xs.size=6:=by
 simp only[Value.okWide,Go.Proofs.Tryz.underlying112] at h
 obtain⟨cs,h1,h2,_⟩:=h
 exact⟨cs,h1,by rw[h2];kernel_rfl⟩
theorem open_three_pairs {H:Type} {enc:TypeId×Value→H} {W:World} {fuel:Nat} {l:List Value} {d:DataW H} {p:List MemPlace} (h:DataW.trod enc Go.Proofs.Tryz.prog W 0 (fun _=>true) true fuel 112 l=some (d,p)) (hl:l.length=6):
  ∃a b c a' b' c':ByteArray,l = [.string a,.string a',.string b,.string b',.string c,.string c']∧(a.size≤Rows.uptoBulk d∧a'.size≤Rows.uptoBulk d)∧(b.size≤Rows.uptoBulk d∧b'.size≤Rows.uptoBulk d)∧c.size≤Rows.uptoBulk d∧c'.size≤Rows.uptoBulk d:=by
 obtain⟨zs,m,rfl,hx,_,hzl,hz⟩:=DataW.trod_array Go.Proofs.Tryz.underlying112 h
 have e0:=hz 0 (by omega)
 have e1:=hz 1 (by omega)
 have e2:=hz 2 (by omega)
 rw[cells_pair] at e0 e1 e2
 match l,hl,zs,hzl with
 | [v0,v1,v2,v3,v4,v5],_,[w0,w1,w2],_=>
  have e0:DataW.trod enc Go.Proofs.Tryz.prog W 0 (fun _=>true) true m 111 [v0,v1]=some w0:=e0
  have e1:DataW.trod enc Go.Proofs.Tryz.prog W 0 (fun _=>true) true m 111 [v2,v3]=some w1:=e1
  have e2:DataW.trod enc Go.Proofs.Tryz.prog W 0 (fun _=>true) true m 111 [v4,v5]=some w2:=e2
  obtain⟨a,a',h0,k0,k1⟩:=open_pair e0
  obtain⟨b,b',h1,k2,k3⟩:=open_pair e1
  obtain⟨c,c',h2,k4,k5⟩:=open_pair e2
  simp only[List.cons.injEq,and_true] at h0 h1 h2
  obtain⟨rfl,rfl⟩:=h0
  obtain⟨rfl,rfl⟩:=h1
  obtain⟨rfl,rfl⟩:=h2
  simp only[Prod.mk.injEq] at hx
  obtain⟨rfl,_⟩:=hx
  refine⟨a,b,c,a',b',c',rfl,?_⟩
  simp only[List.map_cons,List.map_nil,Rows.uptoBulk,Rows.uptoBulkAll]
  omega
end Go.Proofs.YthpmkcidkcmlgaaGreat

/- An argument that is a slice of terms with texts, opened. -/
set_option maxRecDepth 100000
set_option linter.unusedVariables false
set_option linter.unusedSimpArgs false
namespace Go.Proofs.YthpmkcidkcmlgaaGreat
open Go Go.SX Go.ChangeShapes Go.WideShapes Go.ChangeAt Go.RowKit Go.Deep
instance:Inhabited (Mon×ByteArray):=⟨(⟨0,0,0⟩,⟨#[]⟩)⟩
theorem cells_term:Go.Proofs.Tryz.prog.cellsOf 185=4:=by kernel_rfl
theorem cells_mono:Go.Proofs.Tryz.prog.cellsOf 183=3:=by kernel_rfl
theorem cells_u8:Go.Proofs.Tryz.prog.cellsOf 5=1:=by kernel_rfl
theorem u8_ok {n:Int} (h:(Lit.int .u8 n).wf=true):0≤n∧n≤255:=by
 simp[Lit.wf,IntKind.min,IntKind.max,IntKind.bits,IntKind.signed] at h
 omega
theorem open_term {H:Type} {enc:TypeId×Value→H} {W:World} {fuel:Nat} {cs:List Value} {x:DataW H×List MemPlace} (h:DataW.trod enc Go.Proofs.Tryz.prog W 0 (fun _=>true) true fuel 185 cs=some x):
  ∃t:Mon×ByteArray,AT cs t∧t.2.size≤Rows.uptoBulk x.1:=by
 obtain⟨xs,k,rfl,rfl,hl,hxl,hf⟩:=DataW.trod_struct Go.Proofs.Tryz.underlying185 h
 rw[cells_term] at hl
 have g0:DataW.trod enc Go.Proofs.Tryz.prog W 0 (fun _=>true) true k 183 ((cs.drop 0).take (Go.Proofs.Tryz.prog.cellsOf 183))=xs[0]?:=hf 0 _ rfl
 have g1:DataW.trod enc Go.Proofs.Tryz.prog W 0 (fun _=>true) true k 9 ((cs.drop 3).take (Go.Proofs.Tryz.prog.cellsOf 9))=xs[1]?:=hf 1 _ rfl
 rw[cells_mono] at g0
 rw[cells_str] at g1
 match cs,hl,xs,hxl with
 | [v0,v1,v2,v3],_,[y0,y1],_=>
  have g0:DataW.trod enc Go.Proofs.Tryz.prog W 0 (fun _=>true) true k 183 [v0,v1,v2]=some y0:=g0
  have g1:DataW.trod enc Go.Proofs.Tryz.prog W 0 (fun _=>true) true k 9 [v3]=some y1:=g1
  obtain⟨zs,m,rfl,rfl,_,hzl,hz⟩:=DataW.trod_array Go.Proofs.Tryz.underlying183 g0
  obtain⟨s,hs,rfl,hsz⟩:=DataW.trod_string Go.Proofs.Tryz.underlying9 g1
  have e0:=hz 0 (by omega)
  have e1:=hz 1 (by omega)
  have e2:=hz 2 (by omega)
  rw[cells_u8] at e0 e1 e2
  match zs,hzl with
  | [w0,w1,w2],_=>
   have e0:DataW.trod enc Go.Proofs.Tryz.prog W 0 (fun _=>true) true m 5 [v0]=some w0:=e0
   have e1:DataW.trod enc Go.Proofs.Tryz.prog W 0 (fun _=>true) true m 5 [v1]=some w1:=e1
   have e2:DataW.trod enc Go.Proofs.Tryz.prog W 0 (fun _=>true) true m 5 [v2]=some w2:=e2
   obtain⟨n0,h0,_,k0⟩:=DataW.trod_int Go.Proofs.Tryz.underlying5 e0
   obtain⟨n1,h1,_,k1⟩:=DataW.trod_int Go.Proofs.Tryz.underlying5 e1
   obtain⟨n2,h2,_,k2⟩:=DataW.trod_int Go.Proofs.Tryz.underlying5 e2
   have hs: [v3] = [Value.string s]:=hs
   have h0: [v0] = [Value.int .u8 n0]:=h0
   have h1: [v1] = [Value.int .u8 n1]:=h1
   have h2: [v2] = [Value.int .u8 n2]:=h2
   simp only[List.cons.injEq,and_true] at hs h0 h1 h2
   subst hs h0 h1 h2
   refine⟨(⟨n0,n1,n2⟩,s),⟨⟨u8_ok k0,u8_ok k1,u8_ok k2⟩,rfl⟩,?_⟩
   have e:s.data.toList.length=s.size:=by rw[Array.length_toList];rfl
   simp only[List.map_cons,List.map_nil,Rows.uptoBulk,Rows.uptoBulkAll]
   omega
theorem all2_map {n:Nat} {V:Nat→List Value} {y:Nat→Mon×ByteArray} (h: ∀i,i<n→AT (V i) (y i)):All2 AT ((List.range n).map V) ((List.range n).map y):=by
 induction n with
 | zero=>trivial
 | succ n ih=>
  rw[List.range_succ,List.map_append,List.map_append]
  exact(ih fun i hi=>h i (by omega)).append ⟨h n (by omega),trivial⟩
theorem open_terms {H:Type} {enc:TypeId×Value→H} {W:World} {fuel:Nat} {v:Value} {d:DataW H} {p:List MemPlace} (h:DataW.trod enc Go.Proofs.Tryz.prog W 0 (fun _=>true) true fuel 22 [v]=some (d,p)):
  ∃(s:Sl) (L:List (Mon×ByteArray)),v=s.v∧IsAPoly ⟨W,fun _=>False⟩ s L∧L.length≤Rows.uptoBulk d∧∀t∈L,t.2.size≤Rows.uptoBulk d:=by
 rcases open_slice Go.Proofs.Tryz.underlying22 h with⟨hcs,hx⟩ | ⟨a,len,cap,m,n,D,Pl,hcs,_,hl,hm,hmm,hx,hcell⟩
 ·have hv:v = .slice none 0 0:=by simpa using hcs
  subst hv
  exact⟨⟨none,0,0⟩,[],rfl,⟨[],⟨0,rfl,Nat.le_refl _,Nat.zero_le _,fun x h=>by simp at h,.inl rfl⟩,trivial⟩,Nat.zero_le _,fun l h=>by simp at h⟩
 ·have hv:v = .slice (some a) len cap:=by simpa using hcs
  subst hv
  simp only[if_true] at hmm
  subst hmm
  simp only[Prod.mk.injEq] at hx
  obtain⟨rfl,_⟩:=hx
  rw[cells_term] at hcell
  obtain⟨q,hq⟩: ∃q:Nat→List Value×(Mon×ByteArray),∀i,i<m→W.cells? 0 (a.add (i*4)) 4=some (q i).1∧AT (q i).1 (q i).2∧(q i).2.2.size≤Rows.uptoBulk (D i):=choose_lt (α:=List Value×(Mon×ByteArray)) (p:=fun i q=>W.cells? 0 (a.add (i*4)) 4=some q.1∧AT q.1 q.2∧q.2.2.size≤Rows.uptoBulk (D i)) fun i hi=>by
   obtain⟨cs',h1,h2⟩:=hcell i hi
   obtain⟨t,h3,h4⟩:=open_term h2
   exact⟨(cs',t),h1,h3,h4⟩
  have hr:=rowA_of_cellsN (W:=W) (a:=a) (n:=len) (c:=m) (sz:=4) (V:=fun i=>(q i).1) (fun j hj i v hv=>by
   obtain⟨_,hlen,hc⟩:=World.cells?_some (hq j (by omega)).1
   have hi:i<4:=by have:=(List.getElem?_eq_some_iff.1 hv).1;omega
   have:=hc i hi
   rw[add_add] at this
   rw[this];exact hv) (fun j hj=>(World.cells?_some (hq j (by omega)).1).2.1) (by omega) hl hm (fun j hj u hu=>by
   rw[(hq j (by omega)).2.1.2] at hu
   simp only[List.mem_cons,List.not_mem_nil,or_false] at hu
   rcases hu with rfl | rfl | rfl | rfl<;>rfl)
  have hbulk: ∀i,i<len→Rows.uptoBulk (D i)≤Rows.uptoBulkAll ((List.range len).map D):=fun i hi=>bulk_part (List.mem_map.2 ⟨i,List.mem_range.2 hi,rfl⟩)
  have hlen:=bulk_length ((List.range len).map D)
  simp only[List.length_map,List.length_range] at hlen
  refine⟨⟨some a,len,m⟩,(List.range len).map fun i=>(q i).2,rfl,⟨_,hr,all2_map fun i hi=>(hq i (by omega)).2.1⟩,?_,fun t ht=>?_⟩
  ·simp only[List.length_map,List.length_range,Rows.uptoBulk]
   omega
  ·obtain⟨j,hj,rfl⟩:=List.mem_map.1 ht
   have hj':=List.mem_range.1 hj
   have h1:=hbulk j hj'
   have h2:=(hq j (by omega)).2.2
   simp only[Rows.uptoBulk]
   omega
end Go.Proofs.YthpmkcidkcmlgaaGreat

/- An argument that is a model's texts, opened. -/
set_option maxRecDepth 100000
set_option linter.unusedVariables false
set_option linter.unusedSimpArgs false
namespace Go.Proofs.YthpmkcidkcmlgaaGreat
open Go Go.SX Go.ChangeShapes Go.WideShapes Go.ChangeAt Go.RowKit Go.Deep
theorem model_of {r:Reach} {w:World} {base:Nat} {v:Value} (h:Value.okWide Go.Proofs.Tryz.prog w r base 114 v): ∃xs:Array Value,v = .agg xs∧xs.size=3:=by
 simp only[Value.okWide,Go.Proofs.Tryz.underlying114] at h
 obtain⟨cs,h1,h2,_⟩:=h
 exact⟨cs,h1,by rw[h2];kernel_rfl⟩
theorem cells_terms1:Go.Proofs.Tryz.prog.cellsOf 22=1:=by kernel_rfl
theorem open_model {H:Type} {enc:TypeId×Value→H} {W:World} {fuel:Nat} {l:List Value} {d:DataW H} {p:List MemPlace} (h:DataW.trod enc Go.Proofs.Tryz.prog W 0 (fun _=>true) true fuel 114 l=some (d,p)) (hl:l.length=3):
  ∃(s:Sl) (L:List (Mon×ByteArray)) (a b:ByteArray),l = [s.v,.string a,.string b]∧IsAPoly ⟨W,fun _=>False⟩ s L∧(L.length≤Rows.uptoBulk d∧∀t∈L,t.2.size≤Rows.uptoBulk d)∧a.size≤Rows.uptoBulk d∧b.size≤Rows.uptoBulk d:=by
 obtain⟨xs,k,rfl,hx,_,hxl,hf⟩:=DataW.trod_struct Go.Proofs.Tryz.underlying114 h
 have g0:DataW.trod enc Go.Proofs.Tryz.prog W 0 (fun _=>true) true k 22 ((l.drop 0).take (Go.Proofs.Tryz.prog.cellsOf 22))=xs[0]?:=hf 0 _ rfl
 have g1:DataW.trod enc Go.Proofs.Tryz.prog W 0 (fun _=>true) true k 111 ((l.drop 1).take (Go.Proofs.Tryz.prog.cellsOf 111))=xs[1]?:=hf 1 _ rfl
 rw[cells_terms1] at g0
 rw[cells_pair] at g1
 match l,hl,xs,hxl with
 | [v0,v1,v2],_,[y0,y1],_=>
  have g0:DataW.trod enc Go.Proofs.Tryz.prog W 0 (fun _=>true) true k 22 [v0]=some (y0.1,y0.2):=g0
  have g1:DataW.trod enc Go.Proofs.Tryz.prog W 0 (fun _=>true) true k 111 [v1,v2]=some y1:=g1
  obtain⟨s,L,rfl,h1,h2,h3⟩:=open_terms g0
  obtain⟨a,b,h4,h5,h6⟩:=open_pair g1
  obtain⟨k1,k2⟩:=List.cons.inj (show[v1,v2] = [Value.string a,Value.string b] from h4)
  obtain⟨k2,_⟩:=List.cons.inj k2
  subst k1 k2
  simp only[Prod.mk.injEq] at hx
  obtain⟨rfl,_⟩:=hx
  refine⟨s,L,a,b,rfl,h1,⟨?_,fun t ht=>?_⟩,?_⟩
  ·simp only[List.map_cons,List.map_nil,Rows.uptoBulk,Rows.uptoBulkAll]
   omega
  ·have:=h3 t ht
   simp only[List.map_cons,List.map_nil,Rows.uptoBulk,Rows.uptoBulkAll]
   omega
  ·simp only[List.map_cons,List.map_nil,Rows.uptoBulk,Rows.uptoBulkAll]
   omega
end Go.Proofs.YthpmkcidkcmlgaaGreat
