/- cincturelaw15: Of, Is, told, alive. -/
import Derived.Test.YthpmkcidkcmlgaaGreatW19
import Derived.Test.YthpmkcidkcmlgaaGreatR15
import Derived.Test.YthpmkcidkcmlgaaGreatW14
import Derived.Test.YthpmkcidkcmlgaaGreatR10
set_option linter.unusedVariables false
set_option linter.unusedSimpArgs false
set_option maxRecDepth 100000
set_option linter.unusedVariables false
set_option linter.unusedSimpArgs false
namespace Go.Proofs.YthpmkcidkcmlgaaGreat
open Go Go.SX
structure MOK (e:Int) (x:Mdl):Prop where
 b:MdB 24013 7 e x
 len:x.1.length≤6
 ord:x.2.1≤x.2.2
theorem law15Of_ok {W0:PW} {M:Nat→Prop} {s:Sl} {L:List (Mon×ByteArray)} {c d:ByteArray} {e:Int} (h:IsAPoly W0 s L) (hl:L.length≤1099511627776) (hz: ∀t∈L,t.2.size≤1099511627776) (hc:c.size≤1099511627776) (hd:d.size≤1099511627776):
  PCallsM Go.Proofs.Tryz.prog 45 [.agg ⟨[s.v,.string c,.string d]⟩,.int .i64 e] W0 M fun v W'=>∃(l:List Value),∃(l':List Value),∃(ok:Bool),∃(x:Mdl),v = .tuple ⟨[.agg ⟨l⟩,.agg ⟨l'⟩,.bool ok]⟩∧MdV 317 188 W' l x∧RMdV 317 195 W' l' x∧(ok=true→MOK e x):=by
 apply calllaw15_Of
 have bad: ∀(W':PW),∃(l:List Value) (l':List Value) (ok:Bool) (x:Mdl),Value.tuple ⟨[.agg ⟨[.slice none 0 0,.slice none 0 0,.bool false,.slice none 0 0,.slice none 0 0,.bool false,.slice none 0 0]⟩,.agg ⟨[.slice none 0 0,.bool false,.slice none 0 0,.slice none 0 0,.bool false,.slice none 0 0,.slice none 0 0]⟩,.bool false]⟩ = .tuple ⟨[.agg ⟨l⟩,.agg ⟨l'⟩,.bool ok]⟩∧
   MdV 317 188 W' l x∧RMdV 317 195 W' l' x∧(ok=true→MOK e x):=fun W'=>⟨_,_,_,mdlZ,rfl,MdV.zero W',RMdV.zero W',fun e=>(by cases e)⟩
 refine law8Of_call h hl hz fun s3 s4 b5 W2 hE2 g=>⟨s3,s4,b5,rfl,law5Of_call hc hd fun l l' ok x W7 hE7 ⟨h1,h2,h3,_⟩=>?_⟩
 obtain⟨s8,b9,s10,s11,b12,s13,rfl,k1,k2⟩:=h1
 obtain⟨b14,s15,s16,b17,s18,s19,rfl,q1,q2⟩:=h2
 refine⟨s8,b9,s10,s11,b12,s13,b14,s15,s16,b17,s18,s19,ok,rfl,fun _ W21 _=>bad W21,fun hb5=>⟨fun _ W22 _=>bad W22,fun hok=>⟨fun _ W23 _=>bad W23,fun h6=>⟨fun _ W24 _=>bad W24,fun h16=>⟨fun _ W25 _=>bad W25,fun h17 W26 hE26=>?_⟩⟩⟩⟩⟩
 obtain⟨p,op,p1,p2⟩:=g (by simpa using hb5)
 obtain⟨hs,_,_⟩:=h3 (by simpa using hok)
 have hsz:=spP_sz hs (by omega) (by omega)
 have hn:s.n=L.length:=by obtain⟨xs,⟨_,hr⟩,ha⟩:=h;exact hr.1.trans ha.len
 have hpl:p.length≤6:=by have:=op.1.len;omega
 have hbd:=Bd.of_sz op.1.sz
 refine⟨_,_,_,(p,x),rfl,MdV.mk (x:=(p,x)) (p1.ext (hE7.trans hE26)) (SpV.mk (k1.ext hE26) (k2.ext hE26)),RMdV.mk (x:=(p,x)) (p2.ext (hE7.trans hE26)) (RSpV.mk (q1.ext hE26) (q2.ext hE26)),fun _=>⟨⟨hbd.mono ?_,BdI.of_sz hsz.1,op.1.good,op.exp p1.ok⟩,hpl,hsz.2⟩⟩
 have:=Nat.mul_le_mul_left (4000+2) hpl
 omega
theorem law15Of_call {W0 W:PW} {M:Nat→Prop} {s:Sl} {L:List (Mon×ByteArray)} {c d:ByteArray} {e:Int} {K:Value→PW→Prop} (h:IsAPoly W s L) (hl:L.length≤1099511627776) (hz: ∀t∈L,t.2.size≤1099511627776) (hc:c.size≤1099511627776) (hd:d.size≤1099511627776) (kont: ∀(l:List Value) (l':List Value) (ok:Bool) (x:Mdl) (W':PW),Ext W W'→(MdV 317 188 W' l x∧RMdV 317 195 W' l' x∧(ok=true→MOK e x))→K (.tuple ⟨[.agg ⟨l⟩,.agg ⟨l'⟩,.bool ok]⟩) W'):
  callN Go.Proofs.Tryz.prog W0 M 45 [.agg ⟨[s.v,.string c,.string d]⟩,.int .i64 e] W K:=
 callN_of (fun W' hE=>law15Of_ok (M:=fun _=>False) (h.ext hE) hl hz hc hd) (fun W' v W'' hE hE' hP=>by
  obtain⟨l,l',ok,x,rfl,h⟩:=hP
  exact kont l l' ok x W'' (hE.trans hE') h)
def aT:DT:=⟨⟨⟨[48]⟩⟩,⟨⟨[50]⟩⟩,⟨⟨[48]⟩⟩,⟨⟨[48]⟩⟩,⟨⟨[48]⟩⟩,⟨⟨[49]⟩⟩⟩
def aB (i:Nat):Iv:=if i=0 then(0,2) else if i=1 then(0,0) else(0,1)
theorem a_sp: ∀i,i<3→spP (aT.lo i) (aT.hi i)=some (aB i):=fun i hi=>by
 rcases(by omega:i=0∨i=1∨i=2) with rfl | rfl | rfl<;>decide +kernel
theorem a_side: ∀i,i<3→sideOK aT i:=fun i hi=>⟨by rw[a_sp i hi];rfl,by rcases(by omega:i=0∨i=1∨i=2) with rfl | rfl | rfl<;>decide,by rcases(by omega:i=0∨i=1∨i=2) with rfl | rfl | rfl<;>decide⟩
theorem ivTm_congr {b b':Nat→Iv} (h: ∀i,i<3→b i=b' i) (t:Tm): ∀j,j≤3→ivTm b t j=ivTm b' t j
 | 0,_=>rfl
 | j+1,hj=>by rw[ivTm,ivTm,ivTm_congr h t j (by omega),h j (by omega)]
theorem ivOver_congr {b b':Nat→Iv} (h: ∀i,i<3→b i=b' i) (p:List Tm):ivOver b p=ivOver b' p:=by
 unfold ivOver
 have:(fun a t=>ivAdd a (ivTm b t 3))=fun a t=>ivAdd a (ivTm b' t 3):=by
  funext a t
  rw[ivTm_congr h t 3 (Nat.le_refl _)]
 rw[this]
theorem mdMul_congr {b b':Nat→Iv} (h: ∀i,i<3→b i=b' i) (n:Int) (x y:Mdl):mdMul b n x y=mdMul b' n x y:=by
 unfold mdMul cutP
 simp only[ivOver_congr h]
def aX:Mdl:=(varP 0,(0,0))
theorem a_mul:mdMul aB 1 aX aX=([],(0,4)):=by decide +kernel
theorem a_right {b:Nat→Iv} (h: ∀i,i<3→b i=aB i):DRight b 1:=by
 unfold DRight
 rw[h 0 (by omega),h 1 (by omega),h 2 (by omega)]
 decide +kernel
theorem aX_b:MdB 10 1 1 aX:=⟨(bd_one (Sz.one (Nat.le_refl 1))).mono (by decide),BdI.zero (Nat.le_refl 1),by
 rw[show aX.1=pnorm (varP 0) from by decide +kernel];exact pnorm_good _,fun t ht=>by
 have:t=((⟨1,0,0⟩:Mon),(1:Rat)):=by simpa[aX,varP,unitM] using ht
 subst this
 decide⟩
theorem sz_4:IvS 1 ((0:Rat),(4:Rat)):=⟨Sz.zero (Nat.le_refl 1),by
 rw[show(4:Rat)=((4:Int):Rat) from rfl]
 exact sz_small (by omega) (by omega)⟩
theorem law15alive_ok {W0:PW} {M:Nat→Prop} :
  PCallsM Go.Proofs.Tryz.prog 46 [] W0 M fun v W'=>v = .bool true∧True:=by
 apply calllaw15_alive
 refine law15Domain_call (t:=aT) (n:=1) (fun i=>by unfold DT.lo DT.hi aT;(repeat' split)<;>decide) fun l l' ok b W2 hE2 ⟨hD,hR,hB,hok,hb⟩=>dom_out hD hR ?_
 intros
 rename_i hD hR
 have hok':ok=true:=hok.2 a_side
 have hbe: ∀i,i<3→b i=aB i:=fun i hi=>by have:=(hb hok' i hi).symm.trans (a_sp i hi);exact Option.some.inj this
 refine polyVar_call fun s44 W43 hE43 h43=>⟨s44,rfl,?_⟩
 have hX:MdV 317 188 W43 [s44.v,.slice none 0 0,.bool false,.slice none 0 0,.slice none 0 0,.bool false,.slice none 0 0] aX:=MdV.mk (x:=aX) h43 (SpV.zero W43)
 refine tmodMul_call (hD.ext hE43) hX hX aX_b aX_b hB.bd (by omega) (by omega) (by omega) (by omega) (by omega) (by omega) (by decide) (by decide) fun r W46 hE46 h46=>h46.out fun s47 s48 b49 s50 s51 b52 s53 h46 hp hr=>?_
 have hdr:=a_right hbe
 rw[if_pos hdr,mdMul_congr hbe,a_mul] at hp hr
 refine⟨fun _=>⟨fun _=>?_,fun e=>absurd e (by simp[hdr])⟩,fun e=>absurd e (by simp[hok'])⟩
 obtain⟨xs,hrow,ha⟩:=hp
 have hxl:=ha.len
 refine polyTerms_call hrow (by simp at hxl;simp[hxl]) fun s57 W56 hE56 ⟨_,hO⟩=>⟨s57,rfl,fun _=>?_,fun e=>absurd ?_ e⟩
 ·refine refRatOf_call (z:=0) (by unfold I64;omega) fun b60 s61 s62 W59 hE59 h59=>⟨b60,s61,s62,rfl,refRatOf_call (z:=4) (by unfold I64;omega) fun b65 s66 s67 W64 hE64 h64=>⟨b65,s66,s67,rfl,?_⟩⟩
  exact law5Is_call (x:=(0,4)) (hr.ext (hE56.trans (hE59.trans hE64))) (RSpV.mk (x:=(0,4)) (h59.ext hE64) h64) sz_4 (by omega) fun W69 hE69 _=>⟨true,rfl,fun W71 _=>⟨rfl,trivial⟩⟩
 ·have:=hO.row.1
  simp at hxl
  rw[hxl] at this
  simp at this
  omega
theorem law15alive_call {W0 W:PW} {M:Nat→Prop} {K:Value→PW→Prop} (kont: ∀(W':PW),Ext W W'→(True)→K (.bool true) W'):
  callN Go.Proofs.Tryz.prog W0 M 46 [] W K:=
 callN_of (fun W' hE=>law15alive_ok (M:=fun _=>False) ) (fun W' v W'' hE hE' hP=>by
  obtain⟨rfl,h⟩:=hP
  exact kont W'' (hE.trans hE') h)
end Go.Proofs.YthpmkcidkcmlgaaGreat

/- cincturelaw15.TmodTells. -/
set_option maxRecDepth 100000
set_option linter.unusedVariables false
set_option linter.unusedSimpArgs false
namespace Go.Proofs.YthpmkcidkcmlgaaGreat
open Go Go.SX
theorem DT.szs' {t:DT} {k:Nat} (h0:t.a0.size≤k) (h1:t.b0.size≤k) (h2:t.a1.size≤k) (h3:t.b1.size≤k) (h4:t.a2.size≤k) (h5:t.b2.size≤k) (i:Nat):(t.lo i).size≤k∧(t.hi i).size≤k:=by
 unfold DT.lo DT.hi
 (repeat' split)<;>first | exact⟨h0,h1⟩ | exact⟨h2,h3⟩ | exact⟨h4,h5⟩
end Go.Proofs.YthpmkcidkcmlgaaGreat

/- poly.Diff, cinctureref1.Diff; cincturelaw8.PolyDiffs. -/
set_option maxRecDepth 100000
set_option linter.unusedVariables false
set_option linter.unusedSimpArgs false
namespace Go.Proofs.YthpmkcidkcmlgaaGreat
open Go Go.SX
end Go.Proofs.YthpmkcidkcmlgaaGreat

/- cincturelaw8.PolyLeibniz. -/
set_option maxRecDepth 100000
set_option linter.unusedVariables false
set_option linter.unusedSimpArgs false
namespace Go.Proofs.YthpmkcidkcmlgaaGreat
open Go Go.SX
theorem bookWithin_ok {W0:PW} {M:Nat→Prop} {n lo hi:Int} (h0: -1000000≤lo) (h1:lo≤hi) (h2:hi≤1000000):
  PCallsM Go.Proofs.Tryz.prog 151 [.int .i64 n,.int .i64 lo,.int .i64 hi] W0 M fun v W'=>∃(k:Int),v = .int .i64 k∧lo≤k∧k≤hi:=by
 apply callbook_Within
 have hb:(Int.tmod n (hi-lo+1)).natAbs<(hi-lo+1).natAbs:=by
  rw[Int.natAbs_tmod]
  exact Nat.mod_lt _ (by omega)
 exact⟨by unfold I64;omega,by unfold I64;omega,by omega,fun h=>⟨by unfold I64;omega,by unfold I64;omega,by unfold I64;omega,by unfold I64;omega,fun W1 _=>⟨_,rfl,by omega,by omega⟩⟩,fun h=>⟨by unfold I64;omega,fun W2 _=>⟨_,rfl,by omega,by omega⟩⟩⟩
theorem bookWithin_call {W0 W:PW} {M:Nat→Prop} {n lo hi:Int} {K:Value→PW→Prop} (h0: -1000000≤lo) (h1:lo≤hi) (h2:hi≤1000000) (kont: ∀(k:Int) (W':PW),Ext W W'→(lo≤k∧k≤hi)→K (.int .i64 k) W'):
  callN Go.Proofs.Tryz.prog W0 M 151 [.int .i64 n,.int .i64 lo,.int .i64 hi] W K:=
 callN_of (fun W' hE=>bookWithin_ok (M:=fun _=>False) h0 h1 h2) (fun W' v W'' hE hE' hP=>by
  obtain⟨k,rfl,h⟩:=hP
  exact kont k W'' (hE.trans hE') h)
end Go.Proofs.YthpmkcidkcmlgaaGreat
