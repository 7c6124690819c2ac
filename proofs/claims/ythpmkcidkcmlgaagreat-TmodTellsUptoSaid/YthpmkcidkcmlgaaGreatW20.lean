/- cincturelaw15: Of, Is, told, alive. -/
import Derived.Test.YthpmkcidkcmlgaaGreatW19
import Derived.Test.YthpmkcidkcmlgaaGreatR15
import Derived.Test.YthpmkcidkcmlgaaGreatLib2
import Derived.Test.YthpmkcidkcmlgaaGreatLib3
import Derived.Test.YthpmkcidkcmlgaaGreatRows
import Derived.WalkKit
import Derived.ProofKit
import Derived.OpenShut
import Derived.JoinedCond
import Derived.Carry
import Derived.Deep.Strs
import Derived.Deep.Slices
set_option linter.unusedVariables false
set_option linter.unusedSimpArgs false
set_option maxRecDepth 100000
set_option linter.unusedVariables false
set_option linter.unusedSimpArgs false
namespace Go.Proofs.YthpmkcidkcmlgaaGreat
open Go Go.SX
structure MOK (e:Int) (x:Mdl):Prop where
 b:MdB 24013 7 e x
 len:x.1.length≤6
 ord:x.2.1≤x.2.2
theorem law15Of_ok {W0:PW} {M:Nat→Prop} {s:Sl} {L:List (Mon×ByteArray)} {c d:ByteArray} {e:Int} (h:IsAPoly W0 s L) (hl:L.length≤1099511627776) (hz: ∀t∈L,t.2.size≤1099511627776) (hc:c.size≤1099511627776) (hd:d.size≤1099511627776):
  PCallsM Go.Proofs.Tryz.prog 45 [.agg ⟨[s.v,.string c,.string d]⟩,.int .i64 e] W0 M fun v W'=>∃(l:List Value),∃(l':List Value),∃(ok:Bool),∃(x:Mdl),v = .tuple ⟨[.agg ⟨l⟩,.agg ⟨l'⟩,.bool ok]⟩∧MdV 317 188 W' l x∧RMdV 317 195 W' l' x∧(ok=true→MOK e x):=by
 apply calllaw15_Of
 have bad: ∀(W':PW),∃(l:List Value) (l':List Value) (ok:Bool) (x:Mdl),Value.tuple ⟨[.agg ⟨[.slice none 0 0,.slice none 0 0,.bool false,.slice none 0 0,.slice none 0 0,.bool false,.slice none 0 0]⟩,.agg ⟨[.slice none 0 0,.bool false,.slice none 0 0,.slice none 0 0,.bool false,.slice none 0 0,.slice none 0 0]⟩,.bool false]⟩ = .tuple ⟨[.agg ⟨l⟩,.agg ⟨l'⟩,.bool ok]⟩∧
   MdV 317 188 W' l x∧RMdV 317 195 W' l' x∧(ok=true→MOK e x):=fun W'=>⟨_,_,_,mdlZ,rfl,MdV.zero W',RMdV.zero W',fun e=>(by cases e)⟩
 refine law8Of_call h hl hz fun s3 s4 b5 W2 hE2 g=>⟨s3,s4,b5,rfl,law5Of_call hc hd fun l l' ok x W7 hE7 ⟨h1,h2,h3,_⟩=>?_⟩
 obtain⟨s8,b9,s10,s11,b12,s13,rfl,k1,k2⟩:=h1
 obtain⟨b14,s15,s16,b17,s18,s19,rfl,q1,q2⟩:=h2
 refine⟨s8,b9,s10,s11,b12,s13,b14,s15,s16,b17,s18,s19,ok,rfl,fun _ W21 _=>bad W21,fun hb5=>⟨fun _ W22 _=>bad W22,fun hok=>⟨fun _ W23 _=>bad W23,fun h6=>⟨fun _ W24 _=>bad W24,fun h16=>⟨fun _ W25 _=>bad W25,fun h17 W26 hE26=>?_⟩⟩⟩⟩⟩
 obtain⟨p,op,p1,p2⟩:=g (by simpa using hb5)
 obtain⟨hs,_,_⟩:=h3 (by simpa using hok)
 have hsz:=spP_sz hs (by omega) (by omega)
 have hn:s.n=L.length:=by obtain⟨xs,⟨_,hr⟩,ha⟩:=h;exact hr.1.trans ha.len
 have hpl:p.length≤6:=by have:=op.1.len;omega
 have hbd:=Bd.of_sz op.1.sz
 refine⟨_,_,_,(p,x),rfl,MdV.mk (x:=(p,x)) (p1.ext (hE7.trans hE26)) (SpV.mk (k1.ext hE26) (k2.ext hE26)),RMdV.mk (x:=(p,x)) (p2.ext (hE7.trans hE26)) (RSpV.mk (q1.ext hE26) (q2.ext hE26)),fun _=>⟨⟨hbd.mono ?_,BdI.of_sz hsz.1,op.1.good,op.exp p1.ok⟩,hpl,hsz.2⟩⟩
 have:=Nat.mul_le_mul_left (4000+2) hpl
 omega
theorem law15Of_call {W0 W:PW} {M:Nat→Prop} {s:Sl} {L:List (Mon×ByteArray)} {c d:ByteArray} {e:Int} {K:Value→PW→Prop} (h:IsAPoly W s L) (hl:L.length≤1099511627776) (hz: ∀t∈L,t.2.size≤1099511627776) (hc:c.size≤1099511627776) (hd:d.size≤1099511627776) (kont: ∀(l:List Value) (l':List Value) (ok:Bool) (x:Mdl) (W':PW),Ext W W'→(MdV 317 188 W' l x∧RMdV 317 195 W' l' x∧(ok=true→MOK e x))→K (.tuple ⟨[.agg ⟨l⟩,.agg ⟨l'⟩,.bool ok]⟩) W'):
  callN Go.Proofs.Tryz.prog W0 M 45 [.agg ⟨[s.v,.string c,.string d]⟩,.int .i64 e] W K:=
 callN_of (fun W' hE=>law15Of_ok (M:=fun _=>False) (h.ext hE) hl hz hc hd) (fun W' v W'' hE hE' hP=>by
  obtain⟨l,l',ok,x,rfl,h⟩:=hP
  exact kont l l' ok x W'' (hE.trans hE') h)
theorem law15Is_ok {W0:PW} {M:Nat→Prop} {l l':List Value} {x:Mdl} {k:Nat} (h1:MdV 317 188 W0 l x) (h2:RMdV 317 195 W0 l' x) (hp: ∀t∈x.1,Sz k t.2) (hx:IvS k x.2) (hk:k≤100000000) (hl:x.1.length≤1073741824):
  PCallsM Go.Proofs.Tryz.prog 61 [.agg ⟨l⟩,.agg ⟨l'⟩] W0 M fun v W'=>v = .bool true∧True:=by
 obtain⟨px,u0,c0,v0,u1,c1,v1,rfl,hxp,hxr⟩:=MdV.pts h1
 obtain⟨py,u2,c2,v2,u3,c3,v3,rfl,hyp,hyr⟩:=RMdV.pts h2
 apply calllaw15_Is
 exact law8Is_call hxp hyp hp hk hl fun W2 hE2 _=>⟨true,rfl,fun _=>law5Is_call (hxr.ext hE2) (hyr.ext hE2) hx hk fun W5 hE5 _=>⟨true,rfl,fun W7 _=>⟨rfl,trivial⟩⟩,fun e=>(by cases e)⟩
theorem law15Is_call {W0 W:PW} {M:Nat→Prop} {l l':List Value} {x:Mdl} {k:Nat} {K:Value→PW→Prop} (h1:MdV 317 188 W l x) (h2:RMdV 317 195 W l' x) (hp: ∀t∈x.1,Sz k t.2) (hx:IvS k x.2) (hk:k≤100000000) (hl:x.1.length≤1073741824) (kont: ∀(W':PW),Ext W W'→(True)→K (.bool true) W'):
  callN Go.Proofs.Tryz.prog W0 M 61 [.agg ⟨l⟩,.agg ⟨l'⟩] W K:=
 callN_of (fun W' hE=>law15Is_ok (M:=fun _=>False) (h1.ext hE) (h2.ext hE) hp hx hk hl) (fun W' v W'' hE hE' hP=>by
  obtain⟨rfl,h⟩:=hP
  exact kont W'' (hE.trans hE') h)
theorem law15told_ok {W0:PW} {M:Nat→Prop} {l l':List Value} {x:Mdl} {c:Bool} {k:Nat} (h1:MdV 317 188 W0 l x) (h2:RMdV 317 195 W0 l' x) (hp: ∀t∈x.1,Sz k t.2) (hx:IvS k x.2) (hk:k≤100000000) (hl:x.1.length≤1073741824) (h0:c=false→x=mdlZ):
  PCallsM Go.Proofs.Tryz.prog 49 [.agg ⟨l⟩,.bool c,.agg ⟨l'⟩,.bool c] W0 M fun v W'=>v = .bool true∧True:=by
 have g1:=h1
 have g2:=h2
 obtain⟨px,u0,c0,v0,u1,c1,v1,rfl,_,_⟩:=MdV.pts h1
 obtain⟨py,u2,c2,v2,u3,c3,v3,rfl,_,_⟩:=RMdV.pts h2
 apply calllaw15_told
 refine⟨fun hc=>⟨fun _=>?_,fun e=>absurd rfl e⟩,fun _=>⟨fun _=>law15Is_call g1 g2 hp hx hk hl fun W7 hE7 _=>⟨true,rfl,fun W9 _=>⟨rfl,trivial⟩⟩,fun e=>absurd rfl e⟩⟩
 have e:=h0 (by simpa using hc)
 subst e
 exact law15Is_call g1 (RMdV.zero W0) hp hx hk hl fun W2 hE2 _=>⟨true,rfl,fun W4 _=>⟨rfl,trivial⟩⟩
theorem law15told_call {W0 W:PW} {M:Nat→Prop} {l l':List Value} {x:Mdl} {c:Bool} {k:Nat} {K:Value→PW→Prop} (h1:MdV 317 188 W l x) (h2:RMdV 317 195 W l' x) (hp: ∀t∈x.1,Sz k t.2) (hx:IvS k x.2) (hk:k≤100000000) (hl:x.1.length≤1073741824) (h0:c=false→x=mdlZ) (kont: ∀(W':PW),Ext W W'→(True)→K (.bool true) W'):
  callN Go.Proofs.Tryz.prog W0 M 49 [.agg ⟨l⟩,.bool c,.agg ⟨l'⟩,.bool c] W K:=
 callN_of (fun W' hE=>law15told_ok (M:=fun _=>False) (h1.ext hE) (h2.ext hE) hp hx hk hl h0) (fun W' v W'' hE hE' hP=>by
  obtain⟨rfl,h⟩:=hP
  exact kont W'' (hE.trans hE') h)
def aT:DT:=⟨⟨⟨[48]⟩⟩,⟨⟨[50]⟩⟩,⟨⟨[48]⟩⟩,⟨⟨[48]⟩⟩,⟨⟨[48]⟩⟩,⟨⟨[49]⟩⟩⟩
def aB (i:Nat):Iv:=if i=0 then(0,2) else if i=1 then(0,0) else(0,1)
theorem a_sp: ∀i,i<3→spP (aT.lo i) (aT.hi i)=some (aB i):=fun i hi=>by
 rcases(by omega:i=0∨i=1∨i=2) with rfl | rfl | rfl<;>decide +kernel
theorem a_side: ∀i,i<3→sideOK aT i:=fun i hi=>⟨by rw[a_sp i hi];rfl,by rcases(by omega:i=0∨i=1∨i=2) with rfl | rfl | rfl<;>decide,by rcases(by omega:i=0∨i=1∨i=2) with rfl | rfl | rfl<;>decide⟩
theorem ivTm_congr {b b':Nat→Iv} (h: ∀i,i<3→b i=b' i) (t:Tm): ∀j,j≤3→ivTm b t j=ivTm b' t j
 | 0,_=>rfl
 | j+1,hj=>by rw[ivTm,ivTm,ivTm_congr h t j (by omega),h j (by omega)]
theorem ivOver_congr {b b':Nat→Iv} (h: ∀i,i<3→b i=b' i) (p:List Tm):ivOver b p=ivOver b' p:=by
 unfold ivOver
 have:(fun a t=>ivAdd a (ivTm b t 3))=fun a t=>ivAdd a (ivTm b' t 3):=by
  funext a t
  rw[ivTm_congr h t 3 (Nat.le_refl _)]
 rw[this]
theorem mdMul_congr {b b':Nat→Iv} (h: ∀i,i<3→b i=b' i) (n:Int) (x y:Mdl):mdMul b n x y=mdMul b' n x y:=by
 unfold mdMul cutP
 simp only[ivOver_congr h]
def aX:Mdl:=(varP 0,(0,0))
theorem a_mul:mdMul aB 1 aX aX=([],(0,4)):=by decide +kernel
theorem a_right {b:Nat→Iv} (h: ∀i,i<3→b i=aB i):DRight b 1:=by
 unfold DRight
 rw[h 0 (by omega),h 1 (by omega),h 2 (by omega)]
 decide +kernel
theorem aX_b:MdB 10 1 1 aX:=⟨(bd_one (Sz.one (Nat.le_refl 1))).mono (by decide),BdI.zero (Nat.le_refl 1),by
 rw[show aX.1=pnorm (varP 0) from by decide +kernel];exact pnorm_good _,fun t ht=>by
 have:t=((⟨1,0,0⟩:Mon),(1:Rat)):=by simpa[aX,varP,unitM] using ht
 subst this
 decide⟩
theorem sz_4:IvS 1 ((0:Rat),(4:Rat)):=⟨Sz.zero (Nat.le_refl 1),by
 rw[show(4:Rat)=((4:Int):Rat) from rfl]
 exact sz_small (by omega) (by omega)⟩
theorem law15alive_ok {W0:PW} {M:Nat→Prop} :
  PCallsM Go.Proofs.Tryz.prog 46 [] W0 M fun v W'=>v = .bool true∧True:=by
 apply calllaw15_alive
 refine law15Domain_call (t:=aT) (n:=1) (fun i=>by unfold DT.lo DT.hi aT;(repeat' split)<;>decide) fun l l' ok b W2 hE2 ⟨hD,hR,hB,hok,hb⟩=>dom_out hD hR ?_
 intros
 rename_i hD hR
 have hok':ok=true:=hok.2 a_side
 have hbe: ∀i,i<3→b i=aB i:=fun i hi=>by have:=(hb hok' i hi).symm.trans (a_sp i hi);exact Option.some.inj this
 refine polyVar_call fun s44 W43 hE43 h43=>⟨s44,rfl,?_⟩
 have hX:MdV 317 188 W43 [s44.v,.slice none 0 0,.bool false,.slice none 0 0,.slice none 0 0,.bool false,.slice none 0 0] aX:=MdV.mk (x:=aX) h43 (SpV.zero W43)
 refine tmodMul_call (hD.ext hE43) hX hX aX_b aX_b hB.bd (by omega) (by omega) (by omega) (by omega) (by omega) (by omega) (by decide) (by decide) fun r W46 hE46 h46=>h46.out fun s47 s48 b49 s50 s51 b52 s53 h46 hp hr=>?_
 have hdr:=a_right hbe
 rw[if_pos hdr,mdMul_congr hbe,a_mul] at hp hr
 refine⟨fun _=>⟨fun _=>?_,fun e=>absurd e (by simp[hdr])⟩,fun e=>absurd e (by simp[hok'])⟩
 obtain⟨xs,hrow,ha⟩:=hp
 have hxl:=ha.len
 refine polyTerms_call hrow (by simp at hxl;simp[hxl]) fun s57 W56 hE56 ⟨_,hO⟩=>⟨s57,rfl,fun _=>?_,fun e=>absurd ?_ e⟩
 ·refine refRatOf_call (z:=0) (by unfold I64;omega) fun b60 s61 s62 W59 hE59 h59=>⟨b60,s61,s62,rfl,refRatOf_call (z:=4) (by unfold I64;omega) fun b65 s66 s67 W64 hE64 h64=>⟨b65,s66,s67,rfl,?_⟩⟩
  exact law5Is_call (x:=(0,4)) (hr.ext (hE56.trans (hE59.trans hE64))) (RSpV.mk (x:=(0,4)) (h59.ext hE64) h64) sz_4 (by omega) fun W69 hE69 _=>⟨true,rfl,fun W71 _=>⟨rfl,trivial⟩⟩
 ·have:=hO.row.1
  simp at hxl
  rw[hxl] at this
  simp at this
  omega
theorem law15alive_call {W0 W:PW} {M:Nat→Prop} {K:Value→PW→Prop} (kont: ∀(W':PW),Ext W W'→(True)→K (.bool true) W'):
  callN Go.Proofs.Tryz.prog W0 M 46 [] W K:=
 callN_of (fun W' hE=>law15alive_ok (M:=fun _=>False) ) (fun W' v W'' hE hE' hP=>by
  obtain⟨rfl,h⟩:=hP
  exact kont W'' (hE.trans hE') h)
end Go.Proofs.YthpmkcidkcmlgaaGreat

/- cincturelaw15.TmodTells. -/
set_option maxRecDepth 100000
set_option linter.unusedVariables false
set_option linter.unusedSimpArgs false
namespace Go.Proofs.YthpmkcidkcmlgaaGreat
open Go Go.SX
theorem DT.szs' {t:DT} {k:Nat} (h0:t.a0.size≤k) (h1:t.b0.size≤k) (h2:t.a1.size≤k) (h3:t.b1.size≤k) (h4:t.a2.size≤k) (h5:t.b2.size≤k) (i:Nat):(t.lo i).size≤k∧(t.hi i).size≤k:=by
 unfold DT.lo DT.hi
 (repeat' split)<;>first | exact⟨h0,h1⟩ | exact⟨h2,h3⟩ | exact⟨h4,h5⟩
theorem num_4000 {a:ByteArray} {q:Rat} (h:numQ a=some q):Sz 4000 q:=by
 unfold numQ at h
 split at h
 ·exact(parseQ_sz h).1
 ·cases h
def Tld (x:Mdl):Prop:=(∀t∈x.1,Sz 1000000 t.2)∧IvS 1000000 x.2∧x.1.length≤1073741824
theorem Tld.of {k r:Nat} {e:Int} {x:Mdl} (h:MdB k r e x) (hk:k≤1000000) (hr:r≤1000000) (hl:x.1.length≤1073741824):Tld x:=⟨fun t ht=>((h.bd.sz t ht).mono hk),(h.rest.mono hr).sz,hl⟩
theorem Tld.ite {p:Prop} [Decidable p] {x:Mdl} (h:Tld x):Tld (if p then x else mdlZ):=by
 split
 ·exact h
 ·exact⟨fun t ht=>(by cases ht),⟨Sz.zero (by omega),Sz.zero (by omega)⟩,by simp[mdlZ]⟩
theorem tmodTells_ok {W0:PW} {M:Nat→Prop} {q0 q1 q2 r0 r1 r2:ByteArray} {n:Int} {s u:Sl} {L L3:List (Mon×ByteArray)} {x2a x2b x3a x3b r:ByteArray} (h:IsAPoly W0 s L) (h3:IsAPoly W0 u L3) (z0:q0.size≤1099511627776) (z1:q1.size≤1099511627776) (z2:q2.size≤1099511627776) (z3:r0.size≤1099511627776) (z4:r1.size≤1099511627776) (z5:r2.size≤1099511627776) (hl:L.length≤1099511627776) (hz: ∀t∈L,t.2.size≤1099511627776) (hc:x2a.size≤1099511627776) (hd:x2b.size≤1099511627776) (hl3:L3.length≤1099511627776) (hz3: ∀t∈L3,t.2.size≤1099511627776) (hc3:x3a.size≤1099511627776) (hd3:x3b.size≤1099511627776) (hr:r.size≤1099511627776):
  PCallsM Go.Proofs.Tryz.prog 8 [.agg ⟨[.string q0,.string r0,.string q1,.string r1,.string q2,.string r2]⟩,.int .i64 n,.agg ⟨[s.v,.string x2a,.string x2b]⟩,.agg ⟨[u.v,.string x3a,.string x3b]⟩,.string r] W0 M fun v W'=>v = .bool true∧True:=by
 apply calllaw15_TmodTells
 have alv: ∀W,callN Go.Proofs.Tryz.prog W0 M 46 [] W fun v11 W12=>∃b13:Bool,v11 = .bool b13∧∀(W14:PW),Ext W12 W14→Value.bool b13 = .bool true∧True:=fun W=>law15alive_call fun W12 _ _=>⟨true,rfl,fun W14 _=>⟨rfl,trivial⟩⟩
 refine law15Domain_call (t:=⟨q0,r0,q1,r1,q2,r2⟩) (n:=n) (DT.szs' z0 z3 z1 z4 z2 z5) fun l l' ok b W2 hE2 ⟨hD,hR,hB,_,_⟩=>dom_out hD hR ?_
 intros
 rename_i hD hR
 refine law15Of_call (h.ext hE2) hl hz hc hd fun l l' ok2 x W43 hE43 ⟨hm,hrm,hok⟩=>?_
 obtain⟨_,_,_,_,_,_,_,rfl,mp,mr⟩:=MdV.pts hm
 obtain⟨_,_,_,_,_,_,_,rfl,rp,rr⟩:=RMdV.pts hrm
 refine⟨_,_,_,_,_,_,_,_,_,_,_,_,_,_,_,rfl,law15Of_call (h3.ext (hE2.trans hE43)) hl3 hz3 hc3 hd3 fun l l' ok3 y W60 hE60 ⟨hm,hrm,hok3⟩=>?_⟩
 obtain⟨_,_,_,_,_,_,_,rfl,np,nr⟩:=MdV.pts hm
 obtain⟨_,_,_,_,_,_,_,rfl,op,or⟩:=RMdV.pts hrm
 refine⟨_,_,_,_,_,_,_,_,_,_,_,_,_,_,_,rfl,law3Num_call hr fun s78 b79 s80 b81 s82 s83 W77 hE77 ⟨v1,v2⟩=>⟨s78,b79,s80,b81,s82,s83,_,rfl,fun _=>alv _,fun _=>⟨fun _=>alv _,fun hk2=>⟨fun _=>alv _,fun hk3=>⟨fun _=>alv _,fun hk4=>law15alive_call fun W hE102 _=>⟨true,rfl,fun _=>alv _,fun _=>?_⟩⟩⟩⟩⟩⟩
 have hx:=hok (by simpa using hk2)
 have hy:=hok3 (by simpa using hk3)
 obtain⟨q,hq⟩:=Option.isSome_iff_exists.1 (show(numQ r).isSome=true by simpa using hk4)
 rw[hq] at v1 v2
 have hqs:=num_4000 hq
 have E43:=(hE60.trans hE77).trans hE102
 have E60:=hE77.trans hE102
 have hD:=hD.ext (hE43.trans E43)
 have hR:=hR.ext (hE43.trans E43)
 have mp:=mp.ext E43
 have mr:=mr.ext E43
 have rp:=rp.ext E43
 have rr:=rr.ext E43
 have np:=np.ext E60
 have nr:=nr.ext E60
 have op:=op.ext E60
 have or:=or.ext E60
 have v1:IsRat 317 W s78 b79 s80 q:=v1.ext hE102
 have v2:IsRefQ 317 W b81 s82 s83 q:=v2.ext hE102
 have l1:=hx.len
 have l2:=hy.len
 have l12:=Nat.mul_le_mul l1 l2
 clear hE2 hE43 hE60 hE77 hE102 E43 E60 h h3 hm hrm alv
 have cutb:=MdB.cut (n:=n) hx.b.bd hx.b.good hB.bd (Nat.le_refl 7) hx.b.ok (by omega)
 have T1:Tld (if DRight b n then cutP b n x.1 else mdlZ):=(Tld.of cutb (by omega) (by omega) (by have:=low_len n x.1;show(lowP n x.1).length≤_;omega)).ite
 have mulb:=MdB.mul (n:=n) hx.b hy.b hB.bd (Nat.le_refl 7) (by omega) (by omega) (by omega)
 have T2:Tld (if DRight b n then mdMul b n x y else mdlZ):=(Tld.of mulb (by omega) (by omega) (by
  have h1:=low_len n (pnorm (ppairs x.1 y.1))
  have h2:=pnorm_len (ppairs x.1 y.1)
  rw[ppairs_len] at h2
  show(lowP n (pnorm (ppairs x.1 y.1))).length≤_
  omega)).ite
 have addb:=MdB.add hx.b hy.b
 have T3:Tld (mdAdd x y):=Tld.of addb (by omega) (by omega) (by
  have h2:=pnorm_len (x.1 ++ y.1)
  rw[List.length_append] at h2
  show(pnorm (x.1 ++ y.1)).length≤_
  omega)
 have T4:Tld (mdScale x q):=⟨fun t ht=>((Bd.pmap hx.b.bd hqs).norm.sz t ht).mono (by omega),((hx.b.rest.scale hqs).mono (by omega)).sz,by
  have h2:=pnorm_len (pmap x.1 q)
  rw[pmap_len] at h2
  show(pnorm (pmap x.1 q)).length≤_
  omega⟩
 have oz:=(over_bd hx.b.bd hB.bd (Nat.le_refl 7) hx.b.ok (by omega))
 have T5:IvS 1000000 (if DRight b n then ivAdd (ivOver b x.1) x.2 else(0,0)):=by
  split
  ·exact((oz.add hx.b.rest).mono (by omega)).sz
  ·exact⟨Sz.zero (by omega),Sz.zero (by omega)⟩
 refine tmodCut_call hD mp hx.b.good hx.b.bd hB.bd (Nat.le_refl 7) hx.b.ok (by omega) (by omega) (by omega) fun r1 W1 E1 k1=>k1.out fun _ _ _ _ _ _ _ k1 _ _=>?_
 refine refCut_call (hR.ext E1) (rp.ext E1) hx.b.bd hB.bd hB.ord (Nat.le_refl 7) hx.b.ok (by omega) (by omega) (by omega) fun r2 W2 E2 k2=>k2.out fun _ _ _ _ _ _ _ k2 _ _=>?_
 have F2:=E1.trans E2
 refine tmodMul_call (hD.ext F2) (MdV.mk (x:=x) (mp.ext F2) (mr.ext F2)) (MdV.mk (x:=y) (np.ext F2) (nr.ext F2)) hx.b hy.b hB.bd (Nat.le_refl 7) (by omega) (by omega) (by omega) (by omega) (by omega) (by omega) (by omega) fun r3 W3 E3 k3=>k3.out fun _ _ _ _ _ _ _ k3 _ _=>?_
 have F3:=F2.trans E3
 refine refModelMul_call (hR.ext F3) (RMdV.mk (x:=x) (rp.ext F3) (rr.ext F3)) (RMdV.mk (x:=y) (op.ext F3) (or.ext F3)) hx.b hy.b hB.bd hB.ord (Nat.le_refl 7) (by omega) (by omega) (by omega) (by omega) (by omega) (by omega) (by omega) fun r4 W4 E4 k4=>k4.out fun _ _ _ _ _ _ _ k4 _ _=>?_
 have F4:=F3.trans E4
 refine tmodBound_call (hD.ext F4) (MdV.mk (x:=x) (mp.ext F4) (mr.ext F4)) hx.b hB.bd (Nat.le_refl 7) (by omega) (by omega) (by omega) (by omega) fun r5 W5 E5 k5=>?_
 obtain⟨_,_,_,_,_,_,rfl,k5a,k5b⟩:=k5
 have k5:=SpV.mk k5a k5b
 refine⟨_,_,_,_,_,_,_,rfl,?_⟩
 have F5:=F4.trans E5
 have G1:=E2.trans (E3.trans (E4.trans E5))
 have G2:=E3.trans (E4.trans E5)
 have G3:=E4.trans E5
 refine refDomainRight_call (k:=7) (hR.ext F5) (fun i=>((hB.bd i).mono (Nat.le_refl 7)).sz) (by omega) fun W6 E6 _=>⟨_,rfl,fun hdr=>?_,fun hdr=>?_⟩
 ·have hdr:=of_decide_eq_true hdr
  rw[if_pos hdr] at k5 T5
  have F6:=F5.trans E6
  obtain⟨l0,e0,hR0⟩:=hR.ext F6
  obtain⟨_,_,_,_,_,_,_,_,_,_,_,_,_,_,_,_,_,_,rfl,y0,y1,y2⟩:=hR0
  simp only[List.cons_append,List.nil_append,List.cons.injEq,Value.bool.injEq,and_true] at e0
  have hR0:RDmV 317 W6 _ b:=⟨_,_,_,_,_,_,_,_,_,_,_,_,_,_,_,_,_,_,rfl,y0,y1,y2⟩
  obtain⟨a0,a1,a2,a3,a4,a5,a6,a7,a8,a9,a10,a11,a12,a13,a14,a15,a16,a17⟩:=e0
  rw[←a0,←a1,←a2,←a3,←a4,←a5,←a6,←a7,←a8,←a9,←a10,←a11,←a12,←a13,←a14,←a15,←a16,←a17] at hR0
  refine refOver_call (rp.ext F6) hR0 hx.b.bd hB.bd hB.ord (PExp.mex hx.b.ok) (by omega) (by omega) (by omega) (by omega) fun r7 W7 E7 k7=>k7.out fun _ _ _ _ _ _ k7=>?_
  refine refSpanAdd_call k7 (rr.ext (F6.trans E7)) (oz.mono (show _≤100000000 by omega)).sz (hx.b.rest.mono (by omega)).sz (by omega) fun r8 W8 E8 k8=>k8.out fun _ _ _ _ _ _ k8=>?_
  have F8:=(F6.trans E7).trans E8
  refine tmodRight_call (k:=7) (hD.ext F8) (fun i=>((hB.bd i).mono (Nat.le_refl 7)).sz) (by omega) fun W9 E9 _=>⟨_,rfl,fun _=>?_,fun e=>absurd rfl e⟩
  have G6:=E6.trans (E7.trans (E8.trans E9))
  refine law15told_call (k1.ext (G1.trans G6)) (k2.ext (G2.trans G6)) T1.1 T1.2.1 (by omega) T1.2.2 (fun e=>if_neg (of_decide_eq_false e)) fun W10 E10 _=>⟨true,rfl,fun _=>?_,fun e=>(by cases e)⟩
  refine law15told_call (k3.ext (G3.trans (G6.trans E10))) (k4.ext (E5.trans (G6.trans E10))) T2.1 T2.2.1 (by omega) T2.2.2 (fun e=>if_neg (of_decide_eq_false e)) fun W11 E11 _=>⟨true,rfl,fun _=>⟨fun _=>?_,fun e=>absurd rfl e⟩,fun e=>(by cases e)⟩
  have F9:=(((F8.trans E9).trans E10).trans E11)
  refine law5Is_call (k5.ext (G6.trans (E10.trans E11))) (k8.ext (E9.trans (E10.trans E11))) T5 (by omega) fun W12 E12 _=>⟨true,rfl,fun _=>?_,fun e=>(by cases e)⟩
  have F12:=F9.trans E12
  refine tmodAdd_call (k:=24013) (r:=7) (MdV.mk (x:=x) (mp.ext F12) (mr.ext F12)) (MdV.mk (x:=y) (np.ext F12) (nr.ext F12)) hx.b.bd hy.b.bd hx.b.rest.sz hy.b.rest.sz (by omega) (by omega) (by omega) (by omega) fun r13 W13 E13 k13=>k13.out1 fun _ _ _ _ _ _ _ k13 _ _=>?_
  have F13:=F12.trans E13
  refine refModelAdd_call (k:=24013) (r:=7) (RMdV.mk (x:=x) (rp.ext F13) (rr.ext F13)) (RMdV.mk (x:=y) (op.ext F13) (or.ext F13)) hx.b.good hx.b.bd hy.b.bd hx.b.rest.sz hy.b.rest.sz (by omega) (by omega) (by omega) (by omega) fun r14 W14 E14 k14=>k14.out1 fun _ _ _ _ _ _ _ k14 _ _=>?_
  refine law15Is_call (k13.ext E14) k14 T3.1 T3.2.1 (by omega) T3.2.2 fun W15 E15 _=>⟨true,rfl,fun _=>?_,fun e=>(by cases e)⟩
  have F15:=(F13.trans E14).trans E15
  refine tmodScale_call (k:=24013) (r:=4000) (MdV.mk (x:=x) (mp.ext F15) (mr.ext F15)) (v1.ext F15) hx.b.bd (hx.b.rest.mono (by omega)).sz hqs (by omega) (by omega) (by omega) fun r16 W16 E16 k16=>k16.out1 fun _ _ _ _ _ _ _ k16 _ _=>?_
  have F16:=F15.trans E16
  refine refPolyScale_call (rp.ext F16) (v2.ext F16) hx.b.bd hqs (by omega) (by omega) (by omega) fun s17 W17 E17 k17=>⟨s17,rfl,?_⟩
  have F17:=F16.trans E17
  refine refSpanScale_call (k:=4000) (rr.ext F17) (v2.ext F17) (hx.b.rest.mono (by omega)).sz hqs (by omega) fun r18 W18 E18 k18=>k18.out fun _ _ _ _ _ _ k18=>?_
  exact law15Is_call (x:=mdScale x q) (k16.ext (E17.trans E18)) (RMdV.mk (x:=mdScale x q) (k17.ext E18) k18) T4.1 T4.2.1 (by omega) T4.2.2 fun W19 E19 _=>⟨true,rfl,fun W20 _=>⟨rfl,trivial⟩⟩
 ·have hdr:=of_decide_eq_false hdr
  rw[if_neg hdr] at k5 T5
  have F6:=F5.trans E6
  have F8:=F6
  refine tmodRight_call (k:=7) (hD.ext F8) (fun i=>((hB.bd i).mono (Nat.le_refl 7)).sz) (by omega) fun W9 E9 _=>⟨_,rfl,fun _=>?_,fun e=>absurd rfl e⟩
  have G6:=E6.trans E9
  refine law15told_call (k1.ext (G1.trans G6)) (k2.ext (G2.trans G6)) T1.1 T1.2.1 (by omega) T1.2.2 (fun e=>if_neg (of_decide_eq_false e)) fun W10 E10 _=>⟨true,rfl,fun _=>?_,fun e=>(by cases e)⟩
  refine law15told_call (k3.ext (G3.trans (G6.trans E10))) (k4.ext (E5.trans (G6.trans E10))) T2.1 T2.2.1 (by omega) T2.2.2 (fun e=>if_neg (of_decide_eq_false e)) fun W11 E11 _=>⟨true,rfl,fun _=>⟨fun _=>?_,fun e=>absurd rfl e⟩,fun e=>(by cases e)⟩
  have F9:=(((F8.trans E9).trans E10).trans E11)
  refine law5Is_call (k5.ext (G6.trans (E10.trans E11))) (RSpV.zero W11) T5 (by omega) fun W12 E12 _=>⟨true,rfl,fun _=>?_,fun e=>(by cases e)⟩
  have F12:=F9.trans E12
  refine tmodAdd_call (k:=24013) (r:=7) (MdV.mk (x:=x) (mp.ext F12) (mr.ext F12)) (MdV.mk (x:=y) (np.ext F12) (nr.ext F12)) hx.b.bd hy.b.bd hx.b.rest.sz hy.b.rest.sz (by omega) (by omega) (by omega) (by omega) fun r13 W13 E13 k13=>k13.out1 fun _ _ _ _ _ _ _ k13 _ _=>?_
  have F13:=F12.trans E13
  refine refModelAdd_call (k:=24013) (r:=7) (RMdV.mk (x:=x) (rp.ext F13) (rr.ext F13)) (RMdV.mk (x:=y) (op.ext F13) (or.ext F13)) hx.b.good hx.b.bd hy.b.bd hx.b.rest.sz hy.b.rest.sz (by omega) (by omega) (by omega) (by omega) fun r14 W14 E14 k14=>k14.out1 fun _ _ _ _ _ _ _ k14 _ _=>?_
  refine law15Is_call (k13.ext E14) k14 T3.1 T3.2.1 (by omega) T3.2.2 fun W15 E15 _=>⟨true,rfl,fun _=>?_,fun e=>(by cases e)⟩
  have F15:=(F13.trans E14).trans E15
  refine tmodScale_call (k:=24013) (r:=4000) (MdV.mk (x:=x) (mp.ext F15) (mr.ext F15)) (v1.ext F15) hx.b.bd (hx.b.rest.mono (by omega)).sz hqs (by omega) (by omega) (by omega) fun r16 W16 E16 k16=>k16.out1 fun _ _ _ _ _ _ _ k16 _ _=>?_
  have F16:=F15.trans E16
  refine refPolyScale_call (rp.ext F16) (v2.ext F16) hx.b.bd hqs (by omega) (by omega) (by omega) fun s17 W17 E17 k17=>⟨s17,rfl,?_⟩
  have F17:=F16.trans E17
  refine refSpanScale_call (k:=4000) (rr.ext F17) (v2.ext F17) (hx.b.rest.mono (by omega)).sz hqs (by omega) fun r18 W18 E18 k18=>k18.out fun _ _ _ _ _ _ k18=>?_
  exact law15Is_call (x:=mdScale x q) (k16.ext (E17.trans E18)) (RMdV.mk (x:=mdScale x q) (k17.ext E18) k18) T4.1 T4.2.1 (by omega) T4.2.2 fun W19 E19 _=>⟨true,rfl,fun W20 _=>⟨rfl,trivial⟩⟩
end Go.Proofs.YthpmkcidkcmlgaaGreat

/- Arguments opened: what every kind of argument needs. -/
set_option maxRecDepth 100000
set_option linter.unusedVariables false
set_option linter.unusedSimpArgs false
namespace Go.Proofs.YthpmkcidkcmlgaaGreat
open Go Go.SX Go.ChangeShapes Go.WideShapes Go.ChangeAt Go.RowKit Go.Deep
theorem ownKnob_none:ownKnob Go.Proofs.Tryz.prog.godebug=none:=by kernel_rfl
theorem laidOut:laidOutB Go.Proofs.Tryz.prog=true:=by kernel_rfl
theorem cells_str:Go.Proofs.Tryz.prog.cellsOf 9=1:=by kernel_rfl
theorem cell_block {W:World} {b o:Nat} {v:Value} (h:W.cell? ⟨b,o,none⟩=some v): ∃cs t fz,W.heap[b]?=some (.cells cs t fz)∧cs[o]?=some v:=by
 unfold World.cell? at h
 cases e:W.heap[b]? with
 | none=>simp[e] at h
 | some ob=>
  cases ob with
  | cells cs t fz=>exact⟨cs,t,fz,rfl,by simpa[e] using h⟩
  | _=>simp[e] at h
theorem bulk_one {H:Type} (d:DataW H):1≤Rows.uptoBulk d:=by
 cases d with
 | lit l=>cases l<;>simp[Rows.uptoBulk]
 | nil=>simp[Rows.uptoBulk]
 | ptr d=>simp[Rows.uptoBulk]
 | slice elems spare=>simp[Rows.uptoBulk]
 | agg parts=>simp[Rows.uptoBulk]
 | iface t d=>simp[Rows.uptoBulk]
 | map entries=>simp[Rows.uptoBulk]
 | held h=>simp[Rows.uptoBulk]
theorem bulk_part {H:Type} {d:DataW H} {l:List (DataW H)} (h:d∈l):Rows.uptoBulk d≤Rows.uptoBulkAll l:=by
 induction l with
 | nil=>cases h
 | cons x r ih=>
  simp only[Rows.uptoBulkAll]
  cases List.mem_cons.1 h with
  | inl e=>subst e;omega
  | inr e=>have:=ih e;omega
theorem bulk_length {H:Type} (l:List (DataW H)):l.length≤Rows.uptoBulkAll l:=by
 induction l with
 | nil=>simp[Rows.uptoBulkAll]
 | cons x r ih=>have:=bulk_one x;simp only[Rows.uptoBulkAll,List.length_cons];omega
theorem rowA_of_cellsN {W:World} {a:Addr} {n c sz:Nat} {V:Nat→List Value} (h: ∀j,j<n→∀i v,(V j)[i]?=some v→W.cell? (a.add (j*sz+i))=some v) (hV: ∀j,j<n→(V j).length=sz) (hsz:0<sz) (hn:n≤c) (hc:c≤maxLen) (h1: ∀j,j<n→∀u∈V j,u.oneCell'=true):
  RowA ⟨W,fun _=>False⟩ sz ⟨some a,n,c⟩ ((List.range n).map V):=by
 have hel: ∀x∈(List.range n).map V,x.length=sz∧∀u∈x,u.oneCell'=true:=by
  intro x hx
  obtain⟨j,hj,rfl⟩:=List.mem_map.1 hx
  exact⟨hV j (List.mem_range.1 hj),h1 j (List.mem_range.1 hj)⟩
 by_cases h0:n=0
 ·subst h0
  exact⟨0,rfl,Nat.zero_le _,hc,hel,.inl rfl⟩
 ·obtain⟨b,off,sp⟩:=a
  have hlen0:=hV 0 (by omega)
  obtain⟨v0,hv0⟩: ∃v,(V 0)[0]?=some v:=⟨_,List.getElem?_eq_getElem (by omega)⟩
  have hc0:=h 0 (by omega) 0 v0 hv0
  have hsp:sp=none:=by simpa[Addr.add] using World.cell?_spot hc0
  subst hsp
  obtain⟨cs,t,fz,hh,_⟩:=cell_block (by rw[←add_plain];exact hc0)
  refine⟨t,by simp,hn,hc,hel,.inr ⟨b,off,cs,fz,rfl,id,hh,fun j v hj=>?_⟩⟩
  have hjl:=(List.getElem?_eq_some_iff.1 hj).1
  rw[flatten_length (sz:=sz) (fun x hx=>(hel x hx).1)] at hjl
  simp only[List.length_map,List.length_range] at hjl
  have hi:j/sz<n:=(Nat.div_lt_iff_lt_mul hsz).2 hjl
  have hm:j%sz<sz:=Nat.mod_lt _ hsz
  have e:j/sz*sz+j%sz=j:=by rw[Nat.mul_comm];exact Nat.div_add_mod j sz
  have hx:((List.range n).map V)[j/sz]?=some (V (j/sz)):=by simp[hi]
  have hl:=hV _ hi
  have hf:=flatten_at (sz:=sz) (fun x hx=>(hel x hx).1) hx (j:=j%sz) (v:=(V (j/sz))[j%sz]'(by omega)) (List.getElem?_eq_getElem (by omega))
  rw[e,hj] at hf
  have hcell:=h _ hi (j%sz) v (by rw[hf];exact List.getElem?_eq_getElem (by omega))
  rw[e,add_plain] at hcell
  obtain⟨cs',t',fz',hh',hv⟩:=cell_block hcell
  rw[hh] at hh'
  cases hh'
  exact hv
end Go.Proofs.YthpmkcidkcmlgaaGreat

/- Arguments of pairs of texts, opened. -/
set_option maxRecDepth 100000
set_option linter.unusedVariables false
set_option linter.unusedSimpArgs false
namespace Go.Proofs.YthpmkcidkcmlgaaGreat
open Go Go.SX Go.ChangeShapes Go.WideShapes Go.ChangeAt Go.RowKit Go.Deep
theorem cells_pair:Go.Proofs.Tryz.prog.cellsOf 111=2:=by kernel_rfl
theorem open_pair {H:Type} {enc:TypeId×Value→H} {W:World} {fuel:Nat} {cs:List Value} {x:DataW H×List MemPlace} (h:DataW.trod enc Go.Proofs.Tryz.prog W 0 (fun _=>true) true fuel 111 cs=some x):
  ∃a b:ByteArray,cs = [.string a,.string b]∧a.size≤Rows.uptoBulk x.1∧b.size≤Rows.uptoBulk x.1:=by
 obtain⟨xs,k,rfl,rfl,hl,hxl,hf⟩:=DataW.trod_struct Go.Proofs.Tryz.underlying111 h
 rw[cells_pair] at hl
 have g0:DataW.trod enc Go.Proofs.Tryz.prog W 0 (fun _=>true) true k 9 ((cs.drop 0).take (Go.Proofs.Tryz.prog.cellsOf 9))=xs[0]?:=hf 0 _ rfl
 have g1:DataW.trod enc Go.Proofs.Tryz.prog W 0 (fun _=>true) true k 9 ((cs.drop 1).take (Go.Proofs.Tryz.prog.cellsOf 9))=xs[1]?:=hf 1 _ rfl
 rw[cells_str] at g0 g1
 match cs,hl,xs,hxl with
 | [v0,v1],_,[y0,y1],_=>
  have g0:DataW.trod enc Go.Proofs.Tryz.prog W 0 (fun _=>true) true k 9 [v0]=some y0:=g0
  have g1:DataW.trod enc Go.Proofs.Tryz.prog W 0 (fun _=>true) true k 9 [v1]=some y1:=g1
  obtain⟨s0,h0,rfl,_⟩:=DataW.trod_string Go.Proofs.Tryz.underlying9 g0
  obtain⟨s1,h1,rfl,_⟩:=DataW.trod_string Go.Proofs.Tryz.underlying9 g1
  have k0:v0=Value.string s0:=(List.cons.inj (show[v0] = [Value.string s0] from h0)).1
  have k1:v1=Value.string s1:=(List.cons.inj (show[v1] = [Value.string s1] from h1)).1
  subst k0 k1
  refine⟨s0,s1,rfl,?_⟩
  have e0:s0.data.toList.length=s0.size:=by rw[Array.length_toList];rfl
  have e1:s1.data.toList.length=s1.size:=by rw[Array.length_toList];rfl
  simp only[List.map_cons,List.map_nil,Rows.uptoBulk,Rows.uptoBulkAll]
  omega
end Go.Proofs.YthpmkcidkcmlgaaGreat

/- An argument of three pairs of texts, opened. -/
set_option maxRecDepth 100000
set_option linter.unusedVariables false
set_option linter.unusedSimpArgs false
namespace Go.Proofs.YthpmkcidkcmlgaaGreat
open Go Go.SX Go.ChangeShapes Go.WideShapes Go.ChangeAt Go.RowKit Go.Deep
theorem three_pairs_of {r:Reach} {w:World} {base:Nat} {v:Value} (h:Value.okWide Go.Proofs.Tryz.prog w r base 112 v): ∃xs:Array Value,v = .agg xs∧xs.size=6:=by
 simp only[Value.okWide,Go.Proofs.Tryz.underlying112] at h
 obtain⟨cs,h1,h2,_⟩:=h
 exact⟨cs,h1,by rw[h2];kernel_rfl⟩
theorem open_three_pairs {H:Type} {enc:TypeId×Value→H} {W:World} {fuel:Nat} {l:List Value} {d:DataW H} {p:List MemPlace} (h:DataW.trod enc Go.Proofs.Tryz.prog W 0 (fun _=>true) true fuel 112 l=some (d,p)) (hl:l.length=6):
  ∃a b c a' b' c':ByteArray,l = [.string a,.string a',.string b,.string b',.string c,.string c']∧(a.size≤Rows.uptoBulk d∧a'.size≤Rows.uptoBulk d)∧(b.size≤Rows.uptoBulk d∧b'.size≤Rows.uptoBulk d)∧c.size≤Rows.uptoBulk d∧c'.size≤Rows.uptoBulk d:=by
 obtain⟨zs,m,rfl,hx,_,hzl,hz⟩:=DataW.trod_array Go.Proofs.Tryz.underlying112 h
 have e0:=hz 0 (by omega)
 have e1:=hz 1 (by omega)
 have e2:=hz 2 (by omega)
 rw[cells_pair] at e0 e1 e2
 match l,hl,zs,hzl with
 | [v0,v1,v2,v3,v4,v5],_,[w0,w1,w2],_=>
  have e0:DataW.trod enc Go.Proofs.Tryz.prog W 0 (fun _=>true) true m 111 [v0,v1]=some w0:=e0
  have e1:DataW.trod enc Go.Proofs.Tryz.prog W 0 (fun _=>true) true m 111 [v2,v3]=some w1:=e1
  have e2:DataW.trod enc Go.Proofs.Tryz.prog W 0 (fun _=>true) true m 111 [v4,v5]=some w2:=e2
  obtain⟨a,a',h0,k0,k1⟩:=open_pair e0
  obtain⟨b,b',h1,k2,k3⟩:=open_pair e1
  obtain⟨c,c',h2,k4,k5⟩:=open_pair e2
  simp only[List.cons.injEq,and_true] at h0 h1 h2
  obtain⟨rfl,rfl⟩:=h0
  obtain⟨rfl,rfl⟩:=h1
  obtain⟨rfl,rfl⟩:=h2
  simp only[Prod.mk.injEq] at hx
  obtain⟨rfl,_⟩:=hx
  refine⟨a,b,c,a',b',c',rfl,?_⟩
  simp only[List.map_cons,List.map_nil,Rows.uptoBulk,Rows.uptoBulkAll]
  omega
end Go.Proofs.YthpmkcidkcmlgaaGreat
