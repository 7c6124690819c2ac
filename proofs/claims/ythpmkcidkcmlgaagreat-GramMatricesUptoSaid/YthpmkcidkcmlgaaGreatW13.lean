/- cinctureref1: Degree, MonoCmp, MonoMul; put, PolyOf. -/
import Derived.Test.YthpmkcidkcmlgaaGreatW11
import Derived.Test.YthpmkcidkcmlgaaGreatW10
import Derived.Test.YthpmkcidkcmlgaaGreatR12
import Derived.Test.YthpmkcidkcmlgaaGreatW12
set_option linter.unusedVariables false
set_option linter.unusedSimpArgs false
set_option maxRecDepth 100000
set_option linter.unusedVariables false
set_option linter.unusedSimpArgs false
namespace Go.Proofs.YthpmkcidkcmlgaaGreat
open Go Go.SX
theorem refDegree_ok {W0:PW} {M:Nat→Prop} {m:Mon} (hm:m.ok):
  PCallsM Go.Proofs.Tryz.prog 143 [.agg ⟨[.int .u8 m.x,.int .u8 m.y,.int .u8 m.z]⟩] W0 M fun v W'=>v = .int .i64 m.deg∧True:=by
 apply callref1_Degree
 unfold Mon.ok at hm
 exact⟨⟨by omega,by omega⟩,by unfold I64;omega,⟨by omega,by omega⟩,by unfold I64;omega,by unfold I64;omega,⟨by omega,by omega⟩,by unfold I64;omega,by unfold I64;omega,fun W1 _=>⟨rfl,trivial⟩⟩
theorem refDegree_call {W0 W:PW} {M:Nat→Prop} {m:Mon} {K:Value→PW→Prop} (hm:m.ok) (kont: ∀(W':PW),Ext W W'→(True)→K (.int .i64 m.deg) W'):
  callN Go.Proofs.Tryz.prog W0 M 143 [.agg ⟨[.int .u8 m.x,.int .u8 m.y,.int .u8 m.z]⟩] W K:=
 callN_of (fun W' hE=>refDegree_ok (M:=fun _=>False) hm) (fun W' v W'' hE hE' hP=>by
  obtain⟨rfl,h⟩:=hP
  exact kont W'' (hE.trans hE') h)
theorem refMonoCmp_ok {W0:PW} {M:Nat→Prop} {a b:Mon} (ha:a.ok) (hb:b.ok):
  PCallsM Go.Proofs.Tryz.prog 160 [.agg ⟨[.int .u8 a.x,.int .u8 a.y,.int .u8 a.z]⟩,.agg ⟨[.int .u8 b.x,.int .u8 b.y,.int .u8 b.z]⟩] W0 M fun v W'=>v = .int .i64 (a.cmp b)∧True:=by
 apply callref1_MonoCmp
 refine refDegree_call ha fun W2 _ _=>⟨_,rfl,refDegree_call hb fun W5 hE5 _=>⟨_,rfl,fun hne=>?_,fun heq=>?_⟩⟩
 ·refine refDegree_call ha fun W8 _ _=>⟨_,rfl,refDegree_call hb fun W11 _ _=>⟨_,rfl,fun h W13 _=>⟨?_,trivial⟩,fun h W14 _=>⟨?_,trivial⟩⟩⟩
  ·rw[cmpM_eq];unfold cmpI;rw[if_pos h];simp
  ·rw[cmpM_eq];unfold cmpI;rw[if_neg h,if_neg hne];simp
 ·have hdeg:a.deg=b.deg:=by omega
  have hcm:a.cmp b=lexM a b:=by rw[cmpM_eq];unfold cmpI;simp[hdeg]
  rw[hcm]
  refine⟨fun l W=>match l with | [.val (.int .i64 i)]=>∃k:Nat,i=(k:Int)∧k≤3∧∀j,j<k→eget a j=eget b j | _=>False,fun l _=>match l with | [.val (.int .i64 i)]=>3-i.toNat | _=>0,⟨0,rfl,by omega,fun j hj=>by omega⟩,?_⟩
  rintro i17 W18 ⟨k,rfl,hk,hj⟩
  refine⟨fun hlt=>?_,fun hge W25 _=>⟨?_,trivial⟩⟩
  ·have hk3:k<3:=by omega
   have hr:(0:Int)≤(k:Int)∧(k:Int)<3:=⟨by omega,by omega⟩
   have ba:=boxAt_mon a hk3 _ _ _ rfl rfl rfl
   have bb:=boxAt_mon b hk3 _ _ _ rfl rfl rfl
   refine⟨hr,_,ba,hr,_,bb,fun h W21 _=>⟨?_,trivial⟩,fun h=>⟨hr,_,ba,hr,_,bb,fun h' W24 _=>⟨?_,trivial⟩,fun h'=>⟨by unfold I64;omega,⟨k+1,by push_cast;rfl,by omega,fun j hjk=>?_⟩,?_⟩⟩⟩
   ·rw[lexM_at hk3 hj (by omega)];unfold cmpI;rw[if_pos h]
   ·rw[lexM_at hk3 hj (by omega)];unfold cmpI;rw[if_neg h,if_neg (by omega)]
   ·by_cases e:j=k
    ·subst e;omega
    ·exact hj j (by omega)
   ·show 3-Int.toNat ((k:Int)+1)<3-Int.toNat (k:Int)
    omega
  ·have:k=3:=by omega
   subst this
   rw[lexM_eq hj]
theorem refMonoCmp_call {W0 W:PW} {M:Nat→Prop} {a b:Mon} {K:Value→PW→Prop} (ha:a.ok) (hb:b.ok) (kont: ∀(W':PW),Ext W W'→(True)→K (.int .i64 (a.cmp b)) W'):
  callN Go.Proofs.Tryz.prog W0 M 160 [.agg ⟨[.int .u8 a.x,.int .u8 a.y,.int .u8 a.z]⟩,.agg ⟨[.int .u8 b.x,.int .u8 b.y,.int .u8 b.z]⟩] W K:=
 callN_of (fun W' hE=>refMonoCmp_ok (M:=fun _=>False) ha hb) (fun W' v W'' hE hE' hP=>by
  obtain⟨rfl,h⟩:=hP
  exact kont W'' (hE.trans hE') h)
end Go.Proofs.YthpmkcidkcmlgaaGreat

/- cinctureref1: put, PolyOf. -/
set_option maxRecDepth 100000
set_option linter.unusedVariables false
set_option linter.unusedSimpArgs false
namespace Go.Proofs.YthpmkcidkcmlgaaGreat
open Go Go.SX
theorem take_snocR {α:Type} {l:List α} {j:Nat} (h:j<l.length):l.take (j+1)=l.take j ++ [l[j]]:=by
 rw[List.take_add_one,List.getElem?_eq_getElem h];rfl
theorem mon_cells {a b:Mon} :([Value.int .u8 a.x,.int .u8 a.y,.int .u8 a.z] = [.int .u8 b.x,.int .u8 b.y,.int .u8 b.z])↔a=b:=by
 constructor
 ·intro h
  simp only[List.cons.injEq,Value.int.injEq,true_and,and_true] at h
  exact Mon.ext3 h.1 h.2.1 h.2.2
 ·rintro rfl;rfl
theorem sgn_zero {z:Int} :sgnI z=0↔z=0:=by
 unfold sgnI
 split
 ·constructor<;>intro h<;>omega
 ·split
  ·simp_all
  ·constructor<;>intro h<;>omega
theorem num_zero {q:Rat} :q.num=0↔q=0:=Rat.num_eq_zero
end Go.Proofs.YthpmkcidkcmlgaaGreat

/- cinctureref1: PolyOf, PolyPlain; poly.Plain; book.SameTerms, law8.Is. -/
set_option maxRecDepth 100000
set_option linter.unusedVariables false
set_option linter.unusedSimpArgs false
namespace Go.Proofs.YthpmkcidkcmlgaaGreat
open Go Go.SX
def cnL (n:Nat) (l:List PL) (W:PW):Nat:=match l with
 | [_,.val (.int .i64 i)]=>n-i.toNat
 | _=>0
def ptxt (p:List Tm):List (Mon×ByteArray):=p.map fun t=>(t.1,decQ t.2)
theorem ptxt_len (p:List Tm):(ptxt p).length=p.length:=by simp[ptxt]
theorem ptxt_take {p:List Tm} {j:Nat} (h:j<p.length):ptxt (p.take (j+1))=ptxt (p.take j) ++ [(p[j].1,decQ p[j].2)]:=by
 rw[take_snocR h]
 exact List.map_append
def plI (W0:PW) (p:List Tm) (L:List PL) (W:PW):Prop:=match L with
 | [.row xs,.val (.int .i64 i)]=>∃j:Nat,i=(j:Int)∧j≤p.length∧Ext W0 W∧All2 AT xs (ptxt (p.take j))
 | _=>False
theorem polyPlainO_ok {W0:PW} {M:Nat→Prop} {s:Sl} {p:List Tm} {k:Nat} (h:IsPoly 317 188 W0 s p) (hs: ∀t∈p,Sz k t.2) (hk:k≤100000000) (hl:p.length≤1073741824):
  PCallsM Go.Proofs.Tryz.prog 83 [.agg ⟨[s.v]⟩] W0 M fun v W'=>∃(s':Sl),v=Sl.v s'∧Fresh W0 s'∧OAPoly 185 W' s' (ptxt p):=by
 apply callpoly_Plain
 have hn:=h.n
 refine⟨plI W0 p,cnL p.length,⟨0,rfl,by omega,Ext.refl _,trivial⟩,?_⟩
 rintro l3 i4 W5 ⟨j,rfl,hj,hE5,ha⟩
 have hal:=ha.len
 rw[ptxt_len,List.length_take] at hal
 refine⟨fun hlt=>?_,fun hge s15 W16 hE16 hO hf W17 hE17=>⟨s15,rfl,fun g hg=>(hf g hg).1,?_⟩⟩
 ·have hjl:j<p.length:=by omega
  have hp:=h.ext hE5
  have hib:=hp.inB (i:=(j:Int)) (by omega) (by omega)
  obtain⟨h0,s1,b1,s2,e1,_,_,hr⟩:=hp.at (List.getElem?_eq_getElem hjl)
  refine⟨hib,_,_,_,s1,b1,s2,e1,ratText_call hr (hs _ (List.getElem_mem hjl)) hk fun W13 hE13 _=>⟨_,rfl,by simp;omega,by unfold I64;omega,⟨j+1,by push_cast;rfl,by omega,hE5.trans hE13,?_⟩,?_⟩⟩
  ·rw[ptxt_take hjl]
   exact ha.snoc ⟨h0,rfl⟩
  ·show p.length-Int.toNat ((j:Int)+1)<p.length-Int.toNat (j:Int)
   omega
 ·have:j=p.length:=by omega
  subst this
  rw[List.take_length] at ha
  exact⟨_,hO.ext hE17,ha⟩
theorem polyPlain_ok {W0:PW} {M:Nat→Prop} {s:Sl} {p:List Tm} {k:Nat} (h:IsPoly 317 188 W0 s p) (hs: ∀t∈p,Sz k t.2) (hk:k≤100000000) (hl:p.length≤1073741824):
  PCallsM Go.Proofs.Tryz.prog 83 [.agg ⟨[s.v]⟩] W0 M fun v W'=>∃(s':Sl),v=Sl.v s'∧IsAPoly W' s' (ptxt p):=by
 exact(polyPlainO_ok h hs hk hl).mono (fun _ h=>h) fun v W' _ ⟨s',hv,_,hp⟩=>⟨s',hv,hp.poly⟩
theorem polyPlain_call {W0 W:PW} {M:Nat→Prop} {s:Sl} {p:List Tm} {k:Nat} {K:Value→PW→Prop} (h:IsPoly 317 188 W s p) (hs: ∀t∈p,Sz k t.2) (hk:k≤100000000) (hl:p.length≤1073741824) (kont: ∀(s':Sl) (W':PW),Ext W W'→(IsAPoly W' s' (ptxt p))→K (Sl.v s') W'):
  callN Go.Proofs.Tryz.prog W0 M 83 [.agg ⟨[s.v]⟩] W K:=
 callN_of (fun W' hE=>polyPlain_ok (M:=fun _=>False) (h.ext hE) hs hk hl) (fun W' v W'' hE hE' hP=>by
  obtain⟨s',rfl,h⟩:=hP
  exact kont s' W'' (hE.trans hE') h)
theorem sameTerms_ok {W0:PW} {M:Nat→Prop} {s t:Sl} {p:List (Mon×ByteArray)} (h1:IsAPoly W0 s p) (h2:IsAPoly W0 t p) (hl:p.length≤1099511627776):
  PCallsM Go.Proofs.Tryz.prog 82 [s.v,t.v] W0 M fun v W'=>v = .bool true∧True:=by
 apply callbook_SameTerms
 have n1:=h1.n
 have n2:=h2.n
 refine⟨fun h=>absurd (by omega) h,fun _=>⟨fun L W=>match L with | [.val (.int .i64 i)]=>Ext W0 W∧∃j:Nat,i=(j:Int)∧j≤p.length | _=>False,fun L _=>match L with | [.val (.int .i64 i)]=>p.length-i.toNat | _=>0,⟨Ext.refl _,0,rfl,by omega⟩,?_⟩⟩
 rintro i4 W5 ⟨hE,j,rfl,hj⟩
 refine⟨fun hlt=>?_,fun hge W15 _=>⟨rfl,trivial⟩⟩
 have hjl:j<p.length:=by omega
 obtain⟨_,e1,_,_⟩:=(h1.ext hE).at (List.getElem?_eq_getElem hjl)
 obtain⟨_,e2,_,_⟩:=(h2.ext hE).at (List.getElem?_eq_getElem hjl)
 refine⟨(h1.ext hE).inB (by omega) (by omega),_,_,_,_,e1,(h2.ext hE).inB (by omega) (by omega),_,_,_,_,e2,fun h=>absurd rfl h,fun _=>⟨by unfold I64;omega,⟨hE,j+1,by push_cast;rfl,by omega⟩,?_⟩⟩
 show p.length-Int.toNat ((j:Int)+1)<p.length-Int.toNat (j:Int)
 omega
theorem sameTerms_call {W0 W:PW} {M:Nat→Prop} {s t:Sl} {p:List (Mon×ByteArray)} {K:Value→PW→Prop} (h1:IsAPoly W s p) (h2:IsAPoly W t p) (hl:p.length≤1099511627776) (kont: ∀(W':PW),Ext W W'→(True)→K (.bool true) W'):
  callN Go.Proofs.Tryz.prog W0 M 82 [s.v,t.v] W K:=
 callN_of (fun W' hE=>sameTerms_ok (M:=fun _=>False) (h1.ext hE) (h2.ext hE) hl) (fun W' v W'' hE hE' hP=>by
  obtain⟨rfl,h⟩:=hP
  exact kont W'' (hE.trans hE') h)
end Go.Proofs.YthpmkcidkcmlgaaGreat

/- cincturelaw8.alive. -/
set_option maxRecDepth 100000
set_option linter.unusedVariables false
set_option linter.unusedSimpArgs false
namespace Go.Proofs.YthpmkcidkcmlgaaGreat
open Go Go.SX
end Go.Proofs.YthpmkcidkcmlgaaGreat
