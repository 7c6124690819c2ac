/- gram.Matrix. -/
import Derived.Test.YthpmkcidkcmlgaaGreatW14
import Derived.Test.YthpmkcidkcmlgaaGreatW15
import Derived.Test.YthpmkcidkcmlgaaGreatLib4
import Derived.Test.YthpmkcidkcmlgaaGreatW6
import Derived.Test.YthpmkcidkcmlgaaGreatR11
import Derived.Test.YthpmkcidkcmlgaaGreatLib2
import Derived.Test.YthpmkcidkcmlgaaGreatR14
import Derived.Test.YthpmkcidkcmlgaaGreatW12
set_option linter.unusedVariables false
set_option linter.unusedSimpArgs false
set_option maxRecDepth 100000
set_option linter.unusedVariables false
set_option linter.unusedSimpArgs false
namespace Go.Proofs.YthpmkcidkcmlgaaGreat
open Go Go.SX
def pb (m:Mon) (n:Nat):Nat:=((pl m 3).getD 1 (n:Int)).toNat
end Go.Proofs.YthpmkcidkcmlgaaGreat

/- whole.Pow, rat.Pow; cinctureref1.times. -/
set_option maxRecDepth 100000
set_option linter.unusedVariables false
set_option linter.unusedSimpArgs false
namespace Go.Proofs.YthpmkcidkcmlgaaGreat
open Go Go.SX
end Go.Proofs.YthpmkcidkcmlgaaGreat

/- cinctureref1.times; poly.At, cinctureref1.At. -/
set_option maxRecDepth 100000
set_option linter.unusedVariables false
set_option linter.unusedSimpArgs false
namespace Go.Proofs.YthpmkcidkcmlgaaGreat
open Go Go.SX
end Go.Proofs.YthpmkcidkcmlgaaGreat

/- The matrix of a polynomial of degree 2 has its values: plain law. -/
set_option maxRecDepth 100000
set_option linter.unusedVariables false
set_option linter.unusedSimpArgs false
namespace Go.Proofs.YthpmkcidkcmlgaaGreat
open Go Go.SX
end Go.Proofs.YthpmkcidkcmlgaaGreat

/- Exponents up to a bound; products that fit. -/
set_option linter.unusedVariables false
set_option linter.unusedSimpArgs false
namespace Go.Proofs.YthpmkcidkcmlgaaGreat
open Go Go.SX
theorem TermsOK.exp {L:List (Mon×ByteArray)} {p:List Tm} {most e:Int} (h:TermsOK L most e) (hp:PParse L p): ∀t∈p,t.1.x≤e∧t.1.y≤e∧t.1.z≤e:=fun t ht=>by
 obtain⟨u,hu,h1,_⟩:=all2_mem hp.1 ht
 have:=(h.2 u hu).2
 rw[h1]
 exact this
def PExp (e:Int) (p:List Tm):Prop:=∀t∈p,t.1.ok∧t.1.x≤e∧t.1.y≤e∧t.1.z≤e
theorem OfOK.exp {L:List (Mon×ByteArray)} {p:List Tm} {e:Int} (h:OfOK L e p) (ho:POk p):PExp e p:=fun t ht=>⟨ho t ht,h.2.exp h.1 t ht⟩
theorem PExp.norm {e:Int} {p:List Tm} (h:PExp e p):PExp e (pnorm p):=fun t ht=>by
 obtain⟨u,hu,h1⟩:=mem_pnorm ht
 rw[h1]
 exact h u hu
theorem PExp.append {e:Int} {p q:List Tm} (h:PExp e p) (k:PExp e q):PExp e (p ++ q):=fun t ht=>by
 rcases List.mem_append.1 ht with ht | ht
 ·exact h t ht
 ·exact k t ht
theorem mulOK_of {e f:Int} {p q:List Tm} (h:PExp e p) (k:PExp f q) (hef:e+f≤255):MulOK p q:=fun a ha b hb=>by
 have h1:=h a ha
 have h2:=k b hb
 unfold Mon.ok at *
 unfold Mon.add
 dsimp only
 omega
theorem mulP_of {p q:List Tm} (h:MulOK p q):mulP p q=pnorm (ppairs p q):=by unfold mulP;rw[if_pos h]
end Go.Proofs.YthpmkcidkcmlgaaGreat

/- cincturelaw12.System: polynomials of texts. -/
set_option maxRecDepth 100000
set_option linter.unusedVariables false
set_option linter.unusedSimpArgs false
namespace Go.Proofs.YthpmkcidkcmlgaaGreat
open Go Go.SX
abbrev Ps (W:PW) (s:Sl) (ps:List (List Tm)):Prop:=IsPolys 317 188 W s ps
abbrev RPs (W:PW) (s:Sl) (ps:List (List Tm)):Prop:=IsRPolys 317 195 W s ps
def OfAll (T:List (List (Mon×ByteArray))) (exp:Int) (ps:List (List Tm)):Prop:=All2 (fun l p=>OfOK l exp p) T ps
theorem OfAll.at {T:List (List (Mon×ByteArray))} {exp:Int} {ps:List (List Tm)} (h:OfAll T exp ps) {i:Nat} (hi:i<ps.length): ∃l,OfOK l exp ps[i]∧T[i]?=some l:=by
 obtain⟨l,hl,ho⟩:=All2.get h (List.getElem?_eq_getElem hi)
 exact⟨l,ho,hl⟩
theorem OfAll.mem {T:List (List (Mon×ByteArray))} {exp:Int} {ps:List (List Tm)} (h:OfAll T exp ps) {p:List Tm} (hp:p∈ps): ∃l,OfOK l exp p:=by
 obtain⟨i,hi,rfl⟩:=List.mem_iff_getElem.1 hp
 obtain⟨l,ho,_⟩:=h.at hi
 exact⟨l,ho⟩
def cnL1 (n:Nat) (l:List PL) (_:PW):Nat:=match l with
 | [.val (.int .i64 i)]=>n-i.toNat
 | _=>0
def sysI (W0:PW) (T:List (List (Mon×ByteArray))) (exp:Int) (L:List PL) (W:PW):Prop:=match L with
 | [.row xs,.row ys,.val (.int .i64 i)]=>∃(j:Nat) (ps:List (List Tm)),i=(j:Int)∧j≤T.length∧Ext W0 W∧OfAll (T.take j) exp ps∧All2 (PolyX 317 188 W) xs ps∧All2 (RPolyX 317 195 W) ys ps
 | _=>False
theorem lawSystem_ok {W0:PW} {M:Nat→Prop} {s:Sl} {T:List (List (Mon×ByteArray))} {exp:Int} (h:IsAPolys W0 s T) (hz: ∀l∈T,l.length≤1099511627776∧∀t∈l,t.2.size≤1099511627776):
  PCallsM Go.Proofs.Tryz.prog 29 [s.v,.int .i64 exp] W0 M fun v W'=>∃(s1:Sl),∃(s2:Sl),∃(b:Bool),v = .tuple ⟨[Sl.v s1,Sl.v s2,.bool b]⟩∧(b=true→∃ps,OfAll T exp ps∧T.length≤4∧Ps W' s1 ps∧RPs W' s2 ps):=by
 apply calllaw12_System
 have hn:=h.n
 refine⟨fun _ W1 _=>⟨⟨none,0,0⟩,⟨none,0,0⟩,false,rfl,fun e=>by cases e⟩,fun h4=>⟨sysI W0 T exp,fun L _=>match L with | [_,_,.val (.int .i64 i)]=>T.length-i.toNat | _=>0,⟨0,[],rfl,Nat.zero_le _,Ext.refl _,trivial,trivial,trivial⟩,?_⟩⟩
 rintro l4 l5 i6 W7 ⟨j,ps,rfl,hj,hE,hof,ha,hb⟩
 have hal:=ha.len
 have hbl:=hb.len
 have hol:=All2.len hof
 rw[List.length_take] at hol
 refine⟨fun hlt=>?_,fun hge s15 W16 hE16 hO _ s17 W18 hE18 hO2 _ W19 hE19=>⟨s15,s17,true,rfl,fun _=>?_⟩⟩
 ·have hjl:j<T.length:=by omega
  have hT:=h.ext hE
  obtain⟨x,hx,hp⟩:=hT.at hjl
  obtain⟨z1,z2⟩:=hz _ (List.getElem_mem hjl)
  refine⟨hT.inB (by omega) (by omega),x,hx,law8Of_call hp z1 z2 fun s11 s12 b13 W10 hE10 g=>⟨s11,s12,b13,rfl,fun _ W14 _=>⟨⟨none,0,0⟩,⟨none,0,0⟩,false,rfl,fun e=>(by cases e)⟩,fun hb13=>?_⟩⟩
  obtain⟨p,op,p1,p2⟩:=g (by simpa using hb13)
  refine⟨by simp only[List.length_cons,List.length_nil];omega,by simp only[List.length_cons,List.length_nil];omega,by unfold I64;omega,⟨j+1,ps ++ [p],by push_cast;rfl,by omega,hE.trans hE10,?_,(ha.mono fun _ _ h=>h.ext hE10).snoc ⟨s11,rfl,p1⟩,(hb.mono fun _ _ h=>h.ext hE10).snoc ⟨s12,rfl,p2⟩⟩,?_⟩
  ·have e:T.take (j+1)=T.take j ++ [T[j]]:=by rw[List.take_add_one,List.getElem?_eq_getElem hjl];rfl
   rw[e]
   exact All2.snoc hof op
  ·show T.length-Int.toNat ((j:Int)+1)<T.length-Int.toNat (j:Int)
   omega
 ·have:j=T.length:=by omega
  subst this
  rw[List.take_length] at hof
  exact⟨ps,hof,by omega,⟨l4,⟨_,((hO.ext hE18).ext hE19).row⟩,ha.mono fun _ _ h=>h.ext (hE16.trans (hE18.trans hE19))⟩,⟨l5,⟨_,(hO2.ext hE19).row⟩,hb.mono fun _ _ h=>h.ext (hE16.trans (hE18.trans hE19))⟩⟩
theorem lawSystem_call {W0 W:PW} {M:Nat→Prop} {s:Sl} {T:List (List (Mon×ByteArray))} {exp:Int} {K:Value→PW→Prop} (h:IsAPolys W s T) (hz: ∀l∈T,l.length≤1099511627776∧∀t∈l,t.2.size≤1099511627776) (kont: ∀(s1:Sl) (s2:Sl) (b:Bool) (W':PW),Ext W W'→((b=true→∃ps,OfAll T exp ps∧T.length≤4∧Ps W' s1 ps∧RPs W' s2 ps))→K (.tuple ⟨[Sl.v s1,Sl.v s2,.bool b]⟩) W'):
  callN Go.Proofs.Tryz.prog W0 M 29 [s.v,.int .i64 exp] W K:=
 callN_of (fun W' hE=>lawSystem_ok (M:=fun _=>False) (h.ext hE) hz) (fun W' v W'' hE hE' hP=>by
  obtain⟨s1,s2,b,rfl,h⟩:=hP
  exact kont s1 s2 b W'' (hE.trans hE') h)
end Go.Proofs.YthpmkcidkcmlgaaGreat
