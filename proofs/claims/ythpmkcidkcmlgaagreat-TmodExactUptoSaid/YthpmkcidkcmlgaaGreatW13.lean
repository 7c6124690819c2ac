/- cinctureref1: Degree, MonoCmp, MonoMul; put, PolyOf. -/
import Derived.Test.YthpmkcidkcmlgaaGreatW11
import Derived.Test.YthpmkcidkcmlgaaGreatW10
import Derived.Test.YthpmkcidkcmlgaaGreatR9
import Derived.Test.YthpmkcidkcmlgaaGreatW12
set_option linter.unusedVariables false
set_option linter.unusedSimpArgs false
set_option maxRecDepth 100000
set_option linter.unusedVariables false
set_option linter.unusedSimpArgs false
namespace Go.Proofs.YthpmkcidkcmlgaaGreat
open Go Go.SX
theorem refDegree_ok {W0:PW} {M:Nat→Prop} {m:Mon} (hm:m.ok):
  PCallsM Go.Proofs.Tryz.prog 143 [.agg ⟨[.int .u8 m.x,.int .u8 m.y,.int .u8 m.z]⟩] W0 M fun v W'=>v = .int .i64 m.deg∧True:=by
 apply callref1_Degree
 unfold Mon.ok at hm
 exact⟨⟨by omega,by omega⟩,by unfold I64;omega,⟨by omega,by omega⟩,by unfold I64;omega,by unfold I64;omega,⟨by omega,by omega⟩,by unfold I64;omega,by unfold I64;omega,fun W1 _=>⟨rfl,trivial⟩⟩
theorem refDegree_call {W0 W:PW} {M:Nat→Prop} {m:Mon} {K:Value→PW→Prop} (hm:m.ok) (kont: ∀(W':PW),Ext W W'→(True)→K (.int .i64 m.deg) W'):
  callN Go.Proofs.Tryz.prog W0 M 143 [.agg ⟨[.int .u8 m.x,.int .u8 m.y,.int .u8 m.z]⟩] W K:=
 callN_of (fun W' hE=>refDegree_ok (M:=fun _=>False) hm) (fun W' v W'' hE hE' hP=>by
  obtain⟨rfl,h⟩:=hP
  exact kont W'' (hE.trans hE') h)
theorem refMonoCmp_ok {W0:PW} {M:Nat→Prop} {a b:Mon} (ha:a.ok) (hb:b.ok):
  PCallsM Go.Proofs.Tryz.prog 160 [.agg ⟨[.int .u8 a.x,.int .u8 a.y,.int .u8 a.z]⟩,.agg ⟨[.int .u8 b.x,.int .u8 b.y,.int .u8 b.z]⟩] W0 M fun v W'=>v = .int .i64 (a.cmp b)∧True:=by
 apply callref1_MonoCmp
 refine refDegree_call ha fun W2 _ _=>⟨_,rfl,refDegree_call hb fun W5 hE5 _=>⟨_,rfl,fun hne=>?_,fun heq=>?_⟩⟩
 ·refine refDegree_call ha fun W8 _ _=>⟨_,rfl,refDegree_call hb fun W11 _ _=>⟨_,rfl,fun h W13 _=>⟨?_,trivial⟩,fun h W14 _=>⟨?_,trivial⟩⟩⟩
  ·rw[cmpM_eq];unfold cmpI;rw[if_pos h];simp
  ·rw[cmpM_eq];unfold cmpI;rw[if_neg h,if_neg hne];simp
 ·have hdeg:a.deg=b.deg:=by omega
  have hcm:a.cmp b=lexM a b:=by rw[cmpM_eq];unfold cmpI;simp[hdeg]
  rw[hcm]
  refine⟨fun l W=>match l with | [.val (.int .i64 i)]=>∃k:Nat,i=(k:Int)∧k≤3∧∀j,j<k→eget a j=eget b j | _=>False,fun l _=>match l with | [.val (.int .i64 i)]=>3-i.toNat | _=>0,⟨0,rfl,by omega,fun j hj=>by omega⟩,?_⟩
  rintro i17 W18 ⟨k,rfl,hk,hj⟩
  refine⟨fun hlt=>?_,fun hge W25 _=>⟨?_,trivial⟩⟩
  ·have hk3:k<3:=by omega
   have hr:(0:Int)≤(k:Int)∧(k:Int)<3:=⟨by omega,by omega⟩
   have ba:=boxAt_mon a hk3 _ _ _ rfl rfl rfl
   have bb:=boxAt_mon b hk3 _ _ _ rfl rfl rfl
   refine⟨hr,_,ba,hr,_,bb,fun h W21 _=>⟨?_,trivial⟩,fun h=>⟨hr,_,ba,hr,_,bb,fun h' W24 _=>⟨?_,trivial⟩,fun h'=>⟨by unfold I64;omega,⟨k+1,by push_cast;rfl,by omega,fun j hjk=>?_⟩,?_⟩⟩⟩
   ·rw[lexM_at hk3 hj (by omega)];unfold cmpI;rw[if_pos h]
   ·rw[lexM_at hk3 hj (by omega)];unfold cmpI;rw[if_neg h,if_neg (by omega)]
   ·by_cases e:j=k
    ·subst e;omega
    ·exact hj j (by omega)
   ·show 3-Int.toNat ((k:Int)+1)<3-Int.toNat (k:Int)
    omega
  ·have:k=3:=by omega
   subst this
   rw[lexM_eq hj]
theorem refMonoCmp_call {W0 W:PW} {M:Nat→Prop} {a b:Mon} {K:Value→PW→Prop} (ha:a.ok) (hb:b.ok) (kont: ∀(W':PW),Ext W W'→(True)→K (.int .i64 (a.cmp b)) W'):
  callN Go.Proofs.Tryz.prog W0 M 160 [.agg ⟨[.int .u8 a.x,.int .u8 a.y,.int .u8 a.z]⟩,.agg ⟨[.int .u8 b.x,.int .u8 b.y,.int .u8 b.z]⟩] W K:=
 callN_of (fun W' hE=>refMonoCmp_ok (M:=fun _=>False) ha hb) (fun W' v W'' hE hE' hP=>by
  obtain⟨rfl,h⟩:=hP
  exact kont W'' (hE.trans hE') h)
end Go.Proofs.YthpmkcidkcmlgaaGreat

/- cinctureref1: put, PolyOf. -/
set_option maxRecDepth 100000
set_option linter.unusedVariables false
set_option linter.unusedSimpArgs false
namespace Go.Proofs.YthpmkcidkcmlgaaGreat
open Go Go.SX
theorem take_snocR {α:Type} {l:List α} {j:Nat} (h:j<l.length):l.take (j+1)=l.take j ++ [l[j]]:=by
 rw[List.take_add_one,List.getElem?_eq_getElem h];rfl
theorem mon_cells {a b:Mon} :([Value.int .u8 a.x,.int .u8 a.y,.int .u8 a.z] = [.int .u8 b.x,.int .u8 b.y,.int .u8 b.z])↔a=b:=by
 constructor
 ·intro h
  simp only[List.cons.injEq,Value.int.injEq,true_and,and_true] at h
  exact Mon.ext3 h.1 h.2.1 h.2.2
 ·rintro rfl;rfl
theorem sgn_zero {z:Int} :sgnI z=0↔z=0:=by
 unfold sgnI
 split
 ·constructor<;>intro h<;>omega
 ·split
  ·simp_all
  ·constructor<;>intro h<;>omega
theorem num_zero {q:Rat} :q.num=0↔q=0:=Rat.num_eq_zero
end Go.Proofs.YthpmkcidkcmlgaaGreat

/- cinctureref1: PolyOf, PolyPlain; poly.Plain; book.SameTerms, law8.Is. -/
set_option maxRecDepth 100000
set_option linter.unusedVariables false
set_option linter.unusedSimpArgs false
namespace Go.Proofs.YthpmkcidkcmlgaaGreat
open Go Go.SX
def cnL (n:Nat) (l:List PL) (W:PW):Nat:=match l with
 | [_,.val (.int .i64 i)]=>n-i.toNat
 | _=>0
end Go.Proofs.YthpmkcidkcmlgaaGreat

/- cincturelaw8.alive. -/
set_option maxRecDepth 100000
set_option linter.unusedVariables false
set_option linter.unusedSimpArgs false
namespace Go.Proofs.YthpmkcidkcmlgaaGreat
open Go Go.SX
end Go.Proofs.YthpmkcidkcmlgaaGreat
