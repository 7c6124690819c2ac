/- cinctureref1.PolyMul. -/
import Derived.Test.YtahohahjnhfedaaGreatW8
import Derived.Test.YtahohahjnhfedaaGreatR10
import Derived.Test.YtahohahjnhfedaaGreatR12
import Derived.Test.YtahohahjnhfedaaGreatLib4
import Derived.Test.YtahohahjnhfedaaGreatW3
import Derived.Test.YtahohahjnhfedaaGreatR8
import Derived.Test.YtahohahjnhfedaaGreatLib2
import Derived.Test.YtahohahjnhfedaaGreatR13
set_option linter.unusedVariables false
set_option linter.unusedSimpArgs false
set_option maxRecDepth 100000
namespace Go.Proofs.YtahohahjnhfedaaGreat
open Go Go.SX
theorem Kb8 {p q:List Tm} {j:Nat} (hj:j<p.length):An8 p q=An8 (p.take j) q ++ (Ev4 p[j] q ++ An8 (p.drop (j+1)) q):=by
 have e:p=p.take j ++ p[j] :: p.drop (j+1):=by rw[←List.drop_eq_getElem_cons hj,List.take_append_drop]
 have e2: ∀a b:List Tm,An8 (a ++ b) q=An8 a q ++ An8 b q:=fun a b=>by simp[An8]
 conv=>lhs;rw[e]
 rw[e2]
 rfl
theorem Kl5 (a:Tm) (q:List Tm) (k:Nat):Ev4 a q=Ev4 a (q.take k) ++ Ev4 a (q.drop k):=by
 rw[Ev4,Ev4,Ev4,←List.map_append,List.take_append_drop]
theorem Kh2 {a:Tm} {q:List Tm} {k:Nat} (hk:k<q.length):Ev4 a (q.take (k+1))=Ev4 a (q.take k) ++ [(a.1.add q[k].1,a.2*q[k].2)]:=by
 rw[Ce0 hk]
 exact List.map_append
def rmO (W0:PW) (p q:List Tm) (l:List PL) (W:PW):Prop:=match l with
 | [.val (.slice A n c),.val (.int .i64 i)]=>∃j:Nat,i=(j:Int)∧j≤p.length∧Ext W0 W∧Ct4 (p.take j) q∧Ag1 240 120 W ⟨A,n,c⟩ (Ag2 (An8 (p.take j) q))
 | _=>False
def rmI (W0:PW) (p q:List Tm) (j:Nat) (t:Tm) (l:List PL) (W:PW):Prop:=match l with
 | [.val (.slice A n c),.val (.int .i64 i)]=>∃k:Nat,i=(k:Int)∧k≤q.length∧Ext W0 W∧(∀b∈q.take k,(t.1.add b.1).ok)∧Ag1 240 120 W ⟨A,n,c⟩ (Ag2 (An8 (p.take j) q ++ Ev4 t (q.take k)))
 | _=>False
theorem Kg0 {W0:PW} {M:Nat→Prop} {sp sq:Sl} {p q:List Tm} {k:Nat} (h1:Ag1 240 120 W0 sp p) (h2:Ag1 240 120 W0 sq q) (b1:Bd k p) (b2:Bd k q) (hk:k≤50000000) (hp:p.length≤1073741824) (hq:q.length≤1073741824) (hpq:p.length*q.length≤1073741824):
  Aa0 Tryz.prog 118 [sp.v,sq.v] W0 M fun v W'=>∃(s':Sl),v = .tuple ⟨[Sl.v s',.bool (decide (Ct4 p q))]⟩∧Ag1 240 120 W' s' (Fm8 p q):=by
 apply Kd2
 have n1:=h1.n
 have n2:=h2.n
 have hB:=b1.Ff3 b2
 refine⟨rmO W0 p q,cnL p.length,⟨0,rfl,by omega,Ext.refl _,fun a ha=>by simp at ha,Ag1.nil W0⟩,?_⟩
 rintro s3 i4 W5 ⟨j,rfl,hj,hE5,hok,hr⟩
 have hr:Ag1 240 120 W5 s3 (Ag2 (An8 (p.take j) q)):=hr
 refine⟨fun hlt=>?_,fun hge W59 hE59=>⟨s3,?_,?_⟩⟩
 ·have hjl:j<p.length:=by omega
  refine⟨rmI W0 p q j p[j],cnL q.length,⟨0,rfl,by omega,hE5,fun b hb=>by simp at hb,by simpa[Ev4] using hr⟩,?_⟩
  rintro s8 i9 W10 ⟨k',rfl,hk',hE10,hok',hr'⟩
  have hr':Ag1 240 120 W10 s8 (Ag2 (An8 (p.take j) q ++ Ev4 p[j] (q.take k'))):=hr'
  refine⟨fun hlt'=>?_,fun hge'=>⟨by unfold I64;omega,⟨j+1,by push_cast;rfl,by omega,hE10,?_,?_⟩,?_⟩⟩
  ·have hkl:k'<q.length:=by omega
   have hP:=h1.ext hE10
   have hQ:=h2.ext hE10
   have i1:=hP.inB (i:=(j:Int)) (by omega) (by omega)
   have i2:=hQ.inB (i:=(k':Int)) (by omega) (by omega)
   obtain⟨o1,_,_,_,_,e1,_,_⟩:=hP.at (List.getElem?_eq_getElem hjl)
   obtain⟨o2,_,_,_,_,e2,_,_⟩:=hQ.at (List.getElem?_eq_getElem hkl)
   refine⟨i1,_,_,_,e1,i2,_,_,_,e2,?_⟩
   refine Ke2 o1 o2 fun W18 hE18 _=>⟨_,_,_,_,rfl,fun hno W23 hE23=>?_,fun hyes=>?_⟩
   ·have hno:¬(p[j].1.add q[k'].1).ok:=by simpa using hno
    have hM:¬Ct4 p q:=fun h=>hno (h _ (List.getElem_mem hjl) _ (List.getElem_mem hkl))
    refine⟨⟨none,0,0⟩,?_,?_⟩
    ·rw[decide_eq_false hM]
    ·unfold Fm8
     rw[if_neg hM]
     exact Ag1.nil W23
   ·have hyes:(p[j].1.add q[k'].1).ok:=by simpa using hyes
    have hmm:mulMon p[j].1 q[k'].1=p[j].1.add q[k'].1:=by unfold mulMon;rw[if_pos hyes]
    rw[hmm]
    obtain⟨_,c1,t1,u1,_,_,f1,r1⟩:=(hP.ext hE18).at (List.getElem?_eq_getElem hjl)
    obtain⟨_,c2,t2,u2,_,_,f2,r2⟩:=(hQ.ext hE18).at (List.getElem?_eq_getElem hkl)
    have hpre:Bd (k+k) (An8 (p.take j) q ++ Ev4 p[j] (q.take k') ++ [(p[j].1.add q[k'].1,p[j].2*q[k'].2)]):=by
     have hB':=hB
     rw[Kb8 hjl,←List.append_assoc] at hB'
     have:=hB'.left
     rw[Kl5 p[j] q (k'+1),Kh2 hkl] at this
     rw[←List.append_assoc,←List.append_assoc] at this
     exact this.left
    have hlen:=El2 (An8 (p.take j) q ++ Ev4 p[j] (q.take k'))
    have hll:(An8 (p.take j) q ++ Ev4 p[j] (q.take k')).length≤p.length*q.length:=by
     have:=congrArg List.length (Kb8 (q:=q) hjl)
     rw[Eb1] at this
     simp only[List.length_append] at this⊢
     have e:(Ev4 p[j] (q.take k')).length≤(Ev4 p[j] q).length:=by simp[Ev4];omega
     omega
    refine⟨i1,c1,t1,u1,f1,i2,c2,t2,u2,f2,Am6 r1 r2 (b1.sz _ (List.getElem_mem hjl)) (b2.sz _ (List.getElem_mem hkl)) (by omega) (by omega) fun c3 t3 u3 W31 hE31 h31=>⟨c3,t3,u3,rfl,?_⟩⟩
    refine Hd1 (m:=p[j].1.add q[k'].1) (hr'.ext (hE18.trans hE31)) h31 hyes hpre.left.norm.sz (hpre.right.sz (p[j].1.add q[k'].1,p[j].2*q[k'].2) (by simp)) (by omega) (by omega) fun s37 W36 hE36 h36=>⟨s37,rfl,by unfold I64;omega,⟨k'+1,by push_cast;rfl,by omega,hE10.trans ((hE18.trans hE31).trans hE36),?_,?_⟩,?_⟩
    ·intro b hb
     rw[Ce0 hkl] at hb
     rcases List.mem_append.1 hb with hb | hb
     ·exact hok' b hb
     ·simp at hb;subst hb;exact hyes
    ·rw[Kh2 hkl,←List.append_assoc,Hn2]
     exact h36
    ·show q.length-Int.toNat ((k':Int)+1)<q.length-Int.toNat (k':Int)
     omega
  ·intro a ha b hb
   rw[Ce0 hjl] at ha
   rcases List.mem_append.1 ha with ha | ha
   ·exact hok a ha b hb
   ·simp at ha;subst ha
    have:k'=q.length:=by omega
    subst this
    rw[List.take_length] at hok'
    exact hok' b hb
  ·have:k'=q.length:=by omega
   subst this
   rw[List.take_length] at hr'
   rw[Ce0 hjl,Dl0]
   exact hr'
  ·show p.length-Int.toNat ((j:Int)+1)<p.length-Int.toNat (j:Int)
   omega
 ·have:j=p.length:=by omega
  subst this
  rw[List.take_length] at hok
  rw[decide_eq_true hok]
 ·have:j=p.length:=by omega
  subst this
  rw[List.take_length] at hok hr
  unfold Fm8
  rw[if_pos hok]
  exact hr.ext hE59
theorem Ke0 {W0 W:PW} {M:Nat→Prop} {sp sq:Sl} {p q:List Tm} {k:Nat} {K:Value→PW→Prop} (h1:Ag1 240 120 W sp p) (h2:Ag1 240 120 W sq q) (b1:Bd k p) (b2:Bd k q) (hk:k≤50000000) (hp:p.length≤1073741824) (hq:q.length≤1073741824) (hpq:p.length*q.length≤1073741824) (kont: ∀(s':Sl) (W':PW),Ext W W'→(Ag1 240 120 W' s' (Fm8 p q))→K (.tuple ⟨[Sl.v s',.bool (decide (Ct4 p q))]⟩) W'):
  Aa1 Tryz.prog W0 M 118 [sp.v,sq.v] W K:=
 Aa2 (fun W' hE=>Kg0 (M:=fun _=>False) (h1.ext hE) (h2.ext hE) b1 b2 hk hp hq hpq) (fun W' v W'' hE hE' hP=>by
  obtain⟨s',rfl,h⟩:=hP
  exact kont s' W'' (hE.trans hE') h)
end Go.Proofs.YtahohahjnhfedaaGreat
/- cinctureref1: MonoVars, PolyDegree, PolyVars, Top. -/
namespace Go.Proofs.YtahohahjnhfedaaGreat
open Go Go.SX
def mvI (m:Mon) (L:List PL):Prop:=match L with
 | [.val (.int .i64 a),.val (.int .i64 i)]=>∃k:Nat,i=(k:Int)∧k≤3∧a=(if 2<k∧0<m.z then 3 else if 1<k∧0<m.y then 2 else if 0<k∧0<m.x then 1 else 0)
 | _=>False
theorem Gk7 {W0:PW} {M:Nat→Prop} {m:Mon} (hm:m.ok):
  Aa0 Tryz.prog 182 [.agg ⟨[.int .u8 m.x,.int .u8 m.y,.int .u8 m.z]⟩] W0 M fun v W'=>v = .int .i64 (Cx8 m)∧True:=by
 apply Gh2
 refine⟨fun L _=>mvI m L,fun L _=>match L with | [_,.val (.int .i64 i)]=>3-i.toNat | _=>0,⟨0,rfl,by omega,rfl⟩,?_⟩
 rintro i3 i4 W5 ⟨k,rfl,hk,rfl⟩
 refine⟨fun hlt=>?_,fun hge W7 _=>⟨?_,trivial⟩⟩
 ·have hk3:k<3:=by omega
  have hmu:3-Int.toNat ((k:Int)+1)<3-Int.toNat (k:Int):=by omega
  refine⟨⟨by omega,by omega⟩,_,Aw0 m hk3 _ _ _ rfl rfl rfl,fun hp=>⟨by unfold I64;omega,by unfold I64;omega,⟨k+1,by push_cast;rfl,by omega,?_⟩,hmu⟩,fun hp=>⟨by unfold I64;omega,⟨k+1,by push_cast;rfl,by omega,?_⟩,hmu⟩⟩
  all_goals
   rcases(by omega:k=0∨k=1∨k=2) with rfl | rfl | rfl<;>simp[An6] at hp⊢<;>(try simp[hp])<;>(repeat' split)<;>first | rfl | omega
 ·have:k=3:=by omega
  subst this
  congr 1
  unfold Cx8
  (repeat' split)<;>first | rfl | omega
theorem Gh7 {W0 W:PW} {M:Nat→Prop} {m:Mon} {K:Value→PW→Prop} (hm:m.ok) (kont: ∀(W':PW),Ext W W'→(True)→K (.int .i64 (Cx8 m)) W'):
  Aa1 Tryz.prog W0 M 182 [.agg ⟨[.int .u8 m.x,.int .u8 m.y,.int .u8 m.z]⟩] W K:=
 Aa2 (fun W' hE=>Gk7 (M:=fun _=>False) hm) (fun W' v W'' hE hE' hP=>by
  obtain⟨rfl,h⟩:=hP
  exact kont W'' (hE.trans hE') h)
def rdI (w:Mon→Int) (n:Int) (W0:PW) (p:List Tm) (L:List PL) (W:PW):Prop:=match L with
 | [.val (.int .i64 a),.val (.int .i64 k)]=>∃j:Nat,k=(j:Int)∧j≤p.length∧Ext W0 W∧a=Fd0 w n (p.take j)
 | _=>False
theorem Kd1 {W0:PW} {M:Nat→Prop} {s:Sl} {p:List Tm} (h:Ag1 240 120 W0 s p) (hl:p.length≤1099511627776):
  Aa0 Tryz.prog 9 [s.v] W0 M fun v W'=>v = .int .i64 (Fd0 Mon.deg (-1) p)∧True:=by
 apply Ka2
 have hn:=h.n
 refine⟨rdI Mon.deg (-1) W0 p,Fv5 p,⟨0,rfl,by omega,Ext.refl _,rfl⟩,?_⟩
 rintro i3 i4 W5 ⟨j,rfl,hj,hE,rfl⟩
 refine⟨fun hlt=>?_,fun hge W13 _=>⟨?_,trivial⟩⟩
 ·have hjl:j<p.length:=by omega
  have hP:=h.ext hE
  obtain⟨k0,c1,d1,c2,_,e1,_,hr⟩:=hP.at (List.getElem?_eq_getElem hjl)
  have hmu:p.length-Int.toNat ((j:Int)+1)<p.length-Int.toNat (j:Int):=by omega
  exact⟨hP.inB (by omega) (by omega),_,_,_,e1,Al9 k0 fun W13 hE13 _=>⟨_,rfl,by unfold I64;omega,⟨j+1,by push_cast;rfl,by omega,hE.trans hE13,by rw[Ce0 hjl,Em4]⟩,hmu⟩⟩
 ·have:j=p.length:=by omega
  subst this
  rw[List.take_length]
theorem Ka5 {W0 W:PW} {M:Nat→Prop} {s:Sl} {p:List Tm} {K:Value→PW→Prop} (h:Ag1 240 120 W s p) (hl:p.length≤1099511627776) (kont: ∀(W':PW),Ext W W'→(True)→K (.int .i64 (Fd0 Mon.deg (-1) p)) W'):
  Aa1 Tryz.prog W0 M 9 [s.v] W K:=
 Aa2 (fun W' hE=>Kd1 (M:=fun _=>False) (h.ext hE) hl) (fun W' v W'' hE hE' hP=>by
  obtain⟨rfl,h⟩:=hP
  exact kont W'' (hE.trans hE') h)
theorem Gk8 {W0:PW} {M:Nat→Prop} {s:Sl} {p:List Tm} (h:Ag1 240 120 W0 s p) (hl:p.length≤1099511627776):
  Aa0 Tryz.prog 142 [s.v] W0 M fun v W'=>v = .int .i64 (Fd0 Cx8 0 p)∧True:=by
 apply Gh3
 have hn:=h.n
 refine⟨rdI Cx8 0 W0 p,Fv5 p,⟨0,rfl,by omega,Ext.refl _,rfl⟩,?_⟩
 rintro i3 i4 W5 ⟨j,rfl,hj,hE,rfl⟩
 refine⟨fun hlt=>?_,fun hge W13 _=>⟨?_,trivial⟩⟩
 ·have hjl:j<p.length:=by omega
  have hP:=h.ext hE
  obtain⟨k0,c1,d1,c2,_,e1,_,hr⟩:=hP.at (List.getElem?_eq_getElem hjl)
  have hmu:p.length-Int.toNat ((j:Int)+1)<p.length-Int.toNat (j:Int):=by omega
  exact⟨hP.inB (by omega) (by omega),_,_,_,e1,Gh7 k0 fun W13 hE13 _=>⟨_,rfl,by unfold I64;omega,⟨j+1,by push_cast;rfl,by omega,hE.trans hE13,by rw[Ce0 hjl,Em4]⟩,hmu⟩⟩
 ·have:j=p.length:=by omega
  subst this
  rw[List.take_length]
theorem Gi0 {W0 W:PW} {M:Nat→Prop} {s:Sl} {p:List Tm} {K:Value→PW→Prop} (h:Ag1 240 120 W s p) (hl:p.length≤1099511627776) (kont: ∀(W':PW),Ext W W'→(True)→K (.int .i64 (Fd0 Cx8 0 p)) W'):
  Aa1 Tryz.prog W0 M 142 [s.v] W K:=
 Aa2 (fun W' hE=>Gk8 (M:=fun _=>False) (h.ext hE) hl) (fun W' v W'' hE hE' hP=>by
  obtain⟨rfl,h⟩:=hP
  exact kont W'' (hE.trans hE') h)
end Go.Proofs.YtahohahjnhfedaaGreat
/- flow.Right, flow.next, flow.Lie; cinctureref1: FieldRight, Lie. -/
namespace Go.Proofs.YtahohahjnhfedaaGreat
open Go Go.SX
def Jz8 (f:List (List Tm)):Prop:=(∀p∈f,Fd0 Cx8 0 p≤(f.length:Int))∧1≤f.length∧f.length≤2
instance (f:List (List Tm)):Decidable (Jz8 f):=inferInstanceAs (Decidable (_∧_))
def frI (W0:PW) (f:List (List Tm)) (L:List PL) (W:PW):Prop:=match L with
 | [.val (.int .i64 i)]=>∃j:Nat,i=(j:Int)∧j≤f.length∧Ext W0 W∧∀p∈f.take j,Fd0 Cx8 0 p≤(f.length:Int)
 | _=>False
theorem Ki0 {α:Type} {Q:α→Prop} {l:List α} {j:Nat} (hj:j<l.length) (h: ∀p∈l.take j,Q p) (h2:Q l[j]): ∀p∈l.take (j+1),Q p:=fun p hp=>by
 rw[List.take_add_one,List.getElem?_eq_getElem hj] at hp
 rcases List.mem_append.1 hp with hp | hp
 ·exact h p hp
 ·have:p=l[j]:=by simpa using hp
  rw[this];exact h2
theorem Kg9 {W0:PW} {M:Nat→Prop} {s:Sl} {f:List (List Tm)} (h:Ps W0 s f) (hl:f.length≤1099511627776) (hp: ∀p∈f,p.length≤1099511627776):
  Aa0 Tryz.prog 36 [s.v] W0 M fun v W'=>v = .bool (decide (Jz8 f))∧True:=by
 apply Ke5
 have hn:=h.n
 refine⟨frI W0 f,Kq0 f.length,⟨0,rfl,Nat.zero_le _,Ext.refl _,fun p hp=>by simp at hp⟩,?_⟩
 rintro i3 W4 ⟨j,rfl,hj,hE,hall⟩
 refine⟨fun hlt=>?_,fun hge=>?_⟩
 ·have hjl:j<f.length:=by omega
  obtain⟨x,hx,hq⟩:=(h.ext hE).at hjl
  refine⟨(h.ext hE).inB (by omega) (by omega),x,hx,Co3 hq (hp _ (List.getElem_mem hjl)) fun W7 hE7 _=>⟨_,rfl,fun hbig W9 _=>⟨?_,trivial⟩,fun hok=>⟨by unfold I64;omega,⟨j+1,by push_cast;rfl,by omega,hE.trans hE7,Ki0 hjl hall (by omega)⟩,?_⟩⟩⟩
  ·rw[decide_eq_false]
   intro hF
   have:=hF.1 _ (List.getElem_mem hjl)
   omega
  ·show f.length-Int.toNat ((j:Int)+1)<f.length-Int.toNat (j:Int)
   omega
 ·have:j=f.length:=by omega
  subst this
  rw[List.take_length] at hall
  refine⟨fun h1 W10 _=>⟨?_,trivial⟩,fun h1 W11 _=>⟨?_,trivial⟩⟩
  ·congr 1
   rw[decide_eq_decide]
   exact⟨fun h2=>⟨hall,by omega,by omega⟩,fun hF=>by have:=hF.2.2;omega⟩
  ·rw[decide_eq_false]
   intro hF
   have:=hF.2.1
   omega
theorem Jz5 {W0 W:PW} {M:Nat→Prop} {s:Sl} {f:List (List Tm)} {K:Value→PW→Prop} (h:Ps W s f) (hl:f.length≤1099511627776) (hp: ∀p∈f,p.length≤1099511627776) (kont: ∀(W':PW),Ext W W'→(True)→K (.bool (decide (Jz8 f))) W'):
  Aa1 Tryz.prog W0 M 36 [s.v] W K:=
 Aa2 (fun W' hE=>Kg9 (M:=fun _=>False) (h.ext hE) hl hp) (fun W' v W'' hE hE' hP=>by
  obtain⟨rfl,h⟩:=hP
  exact kont W'' (hE.trans hE') h)
theorem Kc0 {W0:PW} {M:Nat→Prop} {s:Sl} {f:List (List Tm)} (h:RPs W0 s f) (hl:f.length≤1099511627776) (hp: ∀p∈f,p.length≤1099511627776):
  Aa0 Tryz.prog 73 [s.v] W0 M fun v W'=>v = .bool (decide (Jz8 f))∧True:=by
 apply Ka1
 have hn:=h.n
 refine⟨fun h1 W1 _=>⟨?_,trivial⟩,fun h1=>⟨fun h2 W2 _=>⟨?_,trivial⟩,fun h2=>?_⟩⟩
 ·rw[decide_eq_false]
  intro hF
  have:=hF.2.1
  omega
 ·rw[decide_eq_false]
  intro hF
  have:=hF.2.2
  omega
 refine⟨frI W0 f,Kq0 f.length,⟨0,rfl,Nat.zero_le _,Ext.refl _,fun p hp=>by simp at hp⟩,?_⟩
 rintro i3 W4 ⟨j,rfl,hj,hE,hall⟩
 refine⟨fun hlt=>?_,fun hge W12 _=>⟨?_,trivial⟩⟩
 ·have hjl:j<f.length:=by omega
  obtain⟨x,hx,hq⟩:=(h.ext hE).at hjl
  refine⟨(h.ext hE).inB (by omega) (by omega),x,hx,Gi0 hq (hp _ (List.getElem_mem hjl)) fun W7 hE7 _=>⟨_,rfl,fun hbig W9 _=>⟨?_,trivial⟩,fun hok=>⟨by unfold I64;omega,⟨j+1,by push_cast;rfl,by omega,hE.trans hE7,Ki0 hjl hall (by omega)⟩,?_⟩⟩⟩
  ·rw[decide_eq_false]
   intro hF
   have:=hF.1 _ (List.getElem_mem hjl)
   omega
  ·show f.length-Int.toNat ((j:Int)+1)<f.length-Int.toNat (j:Int)
   omega
 ·have:j=f.length:=by omega
  subst this
  rw[List.take_length] at hall
  rw[decide_eq_true ⟨hall,by omega,by omega⟩]
theorem Jz4 {W0 W:PW} {M:Nat→Prop} {s:Sl} {f:List (List Tm)} {K:Value→PW→Prop} (h:RPs W s f) (hl:f.length≤1099511627776) (hp: ∀p∈f,p.length≤1099511627776) (kont: ∀(W':PW),Ext W W'→(True)→K (.bool (decide (Jz8 f))) W'):
  Aa1 Tryz.prog W0 M 73 [s.v] W K:=
 Aa2 (fun W' hE=>Kc0 (M:=fun _=>False) (h.ext hE) hl hp) (fun W' v W'' hE hE' hP=>by
  obtain⟨rfl,h⟩:=hP
  exact kont W'' (hE.trans hE') h)
def Jz9 (f:List (List Tm)) (g:List Tm):Nat→Option (List Tm)
 | 0=>some []
 | j+1=>match Jz9 f g j with
  | none=>none
  | some a=>if Ct4 (Hc3 g (j:Int)) (f.getD j []) then some (Ag2 (a ++ Ag2 (An8 (Hc3 g (j:Int)) (f.getD j [])))) else none
def Kd0 (f:List (List Tm)) (g:List Tm):Option (List Tm):=Jz9 f g f.length
theorem Kb5 {f:List (List Tm)} {g:List Tm} {j:Nat} (h:Jz9 f g j=none): ∀k,j≤k→Jz9 f g k=none
 | 0,hk=>by
  have:j=0:=by omega
  subst this
  exact h
 | k+1,hk=>by
  by_cases e:j=k+1
  ·subst e;exact h
  ·rw[Jz9,Kb5 h k (by omega)]
structure Kj2 (f:List (List Tm)):Prop where
 bd: ∀q∈f,Bd 56029 q∧q.length≤14
 len:f.length≤2
structure GOK (l:Nat) (g:List Tm):Prop where
 bd:Bd l g
 Aq3:Av6 g
 ok:POk g
theorem GOK.len {l:Nat} {g:List Tm} (h:GOK l g):g.length≤16777216:=h.Aq3.len h.ok
theorem Jy8 {f:List (List Tm)} {j:Nat} (hj:j<f.length):f.getD j []=f[j]:=by rw[List.getD_eq_getElem?_getD,List.getElem?_eq_getElem hj];rfl
theorem Ko8 {p q:List Tm} (h:Ct4 p q):POk (Ag2 (An8 p q)):=POk.norm fun t ht=>by
 obtain⟨a,ha,hm⟩:=List.mem_flatMap.1 ht
 obtain⟨b,hb,rfl⟩:=List.mem_map.1 hm
 exact h a ha b hb
def nb (l:Nat):Nat→Nat
 | 0=>1
 | j+1=>nb l j+(l+1+56029)+1
theorem Kd5 {f:List (List Tm)} {g:List Tm} {l:Nat} (hf:Kj2 f) (hg:GOK l g): ∀{j:Nat} {a:List Tm} (_:j≤f.length) (_:Jz9 f g j=some a),Bd (nb l j) a∧Av6 a∧POk a
 | 0,a,_,h=>by
  simp only[Jz9,Option.some.injEq] at h
  subst h
  exact⟨⟨1,0,trivial,by decide,by rw[Ax0];exact Nat.le_refl 1,by rw[Ag9];exact Nat.zero_le 1⟩,Av6.nil,fun t ht=>by simp at ht⟩
 | j+1,a,hj,h=>by
  rw[Jz9] at h
  split at h
  ·cases h
  ·rename_i a' ha'
   split at h
   ·rename_i hM
    simp only[Option.some.injEq] at h
    subst h
    have ih:=Kd5 hf hg (by omega) ha'
    have hm:=hf.bd _ (List.getElem_mem (show j<f.length by omega))
    rw[←Jy8] at hm
    have hB:=(Hg1 hg.bd hg.ok (j:Int)).Ff3 hm.1
    exact⟨(ih.1.append hB.norm).norm.mono (by simp only[nb];omega),Ce8 _,(ih.2.2.append (Ko8 hM)).norm⟩
   ·cases h
def nxI (W0:PW) (f:List (List Tm)) (g:List Tm) (L:List PL) (W:PW):Prop:=match L with
 | [.val (.int .i64 i),_,.cells [.slice A n c]]=>∃(j:Nat) (a:List Tm),i=(j:Int)∧j≤f.length∧Ext W0 W∧Jz9 f g j=some a∧Ab0 240 196 W ⟨A,n,c⟩ a
 | _=>False
theorem Kq7 {l j:Nat} (hl:l≤2000000) (hj:j≤2):nb l j≤5000000:=by
 rcases(by omega:j=0∨j=1∨j=2) with rfl | rfl | rfl<;>simp only[nb]<;>omega
theorem Ki3 {W0:PW} {M:Nat→Prop} {s sg:Sl} {f:List (List Tm)} {g:List Tm} {l:Nat} (h:Ps W0 s f) (hp:Ab0 240 196 W0 sg g) (hf:Kj2 f) (hg:GOK l g) (hl:l≤2000000):
  Aa0 Tryz.prog 97 [s.v,.agg ⟨[sg.v]⟩] W0 M fun v W'=>∃(s':Sl),v = .tuple ⟨[.agg ⟨[Sl.v s']⟩,.bool (Kd0 f g).isSome]⟩∧Ab0 240 196 W' s' ((Kd0 f g).getD []):=by
 apply Kf8
 have hn:=h.n
 have hfl:=hf.len
 have hgl:=hg.len
 refine⟨nxI W0 f g,fun L _=>match L with | [.val (.int .i64 i),_,_]=>f.length-i.toNat | _=>0,⟨0,[],rfl,Nat.zero_le _,Ext.refl _,rfl,Ab0.nil W0⟩,?_⟩
 rintro s3 s4 i5 W6 ⟨j,a,rfl,hj,hE,ha,hP⟩
 have hP:Ab0 240 196 W6 s4 a:=hP
 have hA:=Kd5 hf hg hj ha
 have hal:=Av6.len hA.2.1 hA.2.2
 have hnb:=Kq7 hl (Nat.le_trans hj hfl)
 refine⟨fun hlt=>?_,fun hge W19 hE19=>⟨s4,?_,?_⟩⟩
 ·have hjl:j<f.length:=by omega
  obtain⟨x,hx,hq⟩:=(h.ext hE).at hjl
  have hm:=hf.bd _ (List.getElem_mem hjl)
  have hdb:=Hg1 hg.bd hg.ok (j:Int)
  have hdl:=Hj1 g (j:Int)
  refine⟨(h.ext hE).inB (by omega) (by omega),x,hx,Hg6 (hp.ext hE) hg.bd (by omega) (by omega) fun s10 W9 hE9 h9=>⟨s10,rfl,?_⟩⟩
  refine Ct0 (k:=3000000) h9 (hq.ext hE9) (hdb.mono (by omega)) (hm.1.mono (by omega)) (by omega) (by omega) (by omega) (by have:=Nat.mul_le_mul (Nat.le_trans hdl hgl) hm.2;omega) fun s13 W12 hE12 h12=>⟨s13,_,rfl,fun hno W15 _=>?_,fun hyes=>?_⟩
  ·have hM:¬Ct4 (Hc3 g (j:Int)) f[j]:=by simpa using hno
   have:Kd0 f g=none:=Kb5 (j:=j+1) (by rw[Jz9,ha,Jy8 hjl];dsimp only;rw[if_neg hM]) _ hjl
   rw[this]
   exact⟨⟨none,0,0⟩,rfl,Ab0.nil W15⟩
  ·have hM:Ct4 (Hc3 g (j:Int)) f[j]:=by simpa using hyes
   rw[Gn4 hM] at h12
   have hB:=(hdb.Ff3 hm.1).norm
   have hpl:=Av6.len (Ce8 (An8 (Hc3 g (j:Int)) f[j])) h12.ok
   refine Cw8 (k:=5000000) (hP.ext (hE9.trans hE12)) h12 (hA.1.mono (by omega)) (hB.mono (by omega)) (by omega) (by omega) (by omega) fun s18 W17 hE17 h17=>⟨s18,rfl,by unfold I64;omega,⟨j+1,Ag2 (a ++ Ag2 (An8 (Hc3 g (j:Int)) f[j])),by push_cast;rfl,by omega,hE.trans (hE9.trans (hE12.trans hE17)),?_,h17⟩,?_⟩
   ·rw[Jz9,ha,Jy8 hjl]
    dsimp only
    rw[if_pos hM]
   ·show f.length-Int.toNat ((j:Int)+1)<f.length-Int.toNat (j:Int)
    omega
 ·have:j=f.length:=by omega
  subst this
  unfold Kd0
  rw[ha]
  rfl
 ·have:j=f.length:=by omega
  subst this
  unfold Kd0
  rw[ha]
  exact hP.ext hE19
theorem Kg6 {W0 W:PW} {M:Nat→Prop} {s sg:Sl} {f:List (List Tm)} {g:List Tm} {l:Nat} {K:Value→PW→Prop} (h:Ps W s f) (hp:Ab0 240 196 W sg g) (hf:Kj2 f) (hg:GOK l g) (hl:l≤2000000) (kont: ∀(s':Sl) (W':PW),Ext W W'→(Ab0 240 196 W' s' ((Kd0 f g).getD []))→K (.tuple ⟨[.agg ⟨[Sl.v s']⟩,.bool (Kd0 f g).isSome]⟩) W'):
  Aa1 Tryz.prog W0 M 97 [s.v,.agg ⟨[sg.v]⟩] W K:=
 Aa2 (fun W' hE=>Ki3 (M:=fun _=>False) (h.ext hE) (hp.ext hE) hf hg hl) (fun W' v W'' hE hE' hP=>by
  obtain⟨s',rfl,h⟩:=hP
  exact kont s' W'' (hE.trans hE') h)
def Jz7 (f:List (List Tm)) (i:Nat):Nat→Option (List Tm)
 | 0=>some (Dc6 (i:Int))
 | n+1=>match Jz7 f i n with
  | none=>none
  | some g=>Kd0 f g
theorem Kb0 {f:List (List Tm)} {i n:Nat} (h:Jz7 f i n=none): ∀k,n≤k→Jz7 f i k=none
 | 0,hk=>by
  have:n=0:=by omega
  subst this
  exact h
 | k+1,hk=>by
  by_cases e:n=k+1
  ·subst e;exact h
  ·rw[Jz7,Kb0 h k (by omega)]
def Jz6 (f:List (List Tm)) (k:Int):Prop:=Jz8 f∧(0≤k∧k≤4)∧∀i,i<f.length→(Jz7 f i k.toNat).isSome=true
noncomputable def Ke7 (f:List (List Tm)) (k:Int):Option (List (List Tm)):=by
 classical exact if Jz6 f k then some ((List.range f.length).map fun i=>(Jz7 f i k.toNat).getD []) else none
theorem Kd3 {f:List (List Tm)} {k:Int} (h:¬Jz6 f k):Ke7 f k=none:=by unfold Ke7;rw[if_neg h]
theorem Jz3 {f:List (List Tm)} {k:Int} (h:Jz6 f k):Ke7 f k=some ((List.range f.length).map fun i=>(Jz7 f i k.toNat).getD []):=by unfold Ke7;rw[if_pos h]
def lb:Nat→Nat
 | 0=>4
 | n+1=>nb (lb n) 2
theorem Kp7: ∀n,n≤4→lb n≤2000000:=by decide
theorem Kf4 {f:List (List Tm)} (hf:Kj2 f) (hl:f.length=1∨f.length=2) {i:Nat} : ∀{n:Nat} {g:List Tm} (_:n≤4) (_:Jz7 f i n=some g),GOK (lb n) g
 | 0,g,_,h=>by
  simp only[Jz7,Option.some.injEq] at h
  subst h
  unfold Dc6
  split
  ·refine⟨Cq4 (Sz.one (Nat.le_refl 1)),⟨List.pairwise_singleton _ _,fun t ht=>?_⟩,fun t ht=>?_⟩
   ·simp at ht;subst ht;exact(by decide:(1:Rat)≠0)
   ·simp at ht;subst ht
    unfold Da3
    dsimp only
    (repeat' split)<;>decide
  ·exact⟨⟨1,0,trivial,by decide,by rw[Ax0];exact(by decide:1≤lb 0),by rw[Ag9];exact Nat.zero_le _⟩,Av6.nil,fun t ht=>by simp at ht⟩
 | n+1,g,hn,h=>by
  rw[Jz7] at h
  split at h
  ·cases h
  ·rename_i g' hg'
   have ih:=Kf4 hf hl (n:=n) (by omega) hg'
   have:=Kd5 hf ih (Nat.le_refl _) h
   refine⟨this.1.mono ?_,this.2.1,this.2.2⟩
   show nb (lb n) f.length≤nb (lb n) 2
   rcases hl with e | e<;>rw[e]
   ·simp only[nb];omega
   ·exact Nat.le_refl _
def lsN (f:List (List Tm)) (n:Nat):List (List Tm):=(List.range f.length).map fun i=>(Jz7 f i n).getD []
def Kk3 (f:List (List Tm)) (n i:Nat):List (List Tm):=(List.range f.length).map fun t=>if t<i then(Jz7 f t (n+1)).getD [] else(Jz7 f t n).getD []
theorem Kn7 (f:List (List Tm)) (n:Nat):Kk3 f n 0=lsN f n:=by
 unfold Kk3 lsN
 refine List.map_congr_left fun t _=>?_
 rw[if_neg (by omega)]
theorem Ko2 (f:List (List Tm)) (n:Nat):Kk3 f n f.length=lsN f (n+1):=by
 unfold Kk3 lsN
 refine List.map_congr_left fun t ht=>?_
 rw[if_pos (List.mem_range.1 ht)]
theorem Kd4 (f:List (List Tm)) (n i:Nat):(Kk3 f n i).length=f.length:=by simp[Kk3]
theorem Kp3 {f:List (List Tm)} {n i:Nat} (hi:i<f.length):(Kk3 f n i)[i]?=some ((Jz7 f i n).getD []):=by
 unfold Kk3
 rw[List.getElem?_map,List.getElem?_range hi]
 simp
theorem Ko7 {f:List (List Tm)} {n i:Nat} (hi:i<f.length):(Kk3 f n i).set i ((Jz7 f i (n+1)).getD [])=Kk3 f n (i+1):=by
 apply List.ext_getElem?
 intro t
 rw[List.getElem?_set]
 by_cases ht:t<f.length
 ·by_cases e:i=t
  ·subst e
   rw[if_pos rfl,if_pos (by rw[Kd4];exact hi)]
   unfold Kk3
   rw[List.getElem?_map,List.getElem?_range hi]
   simp
  ·rw[if_neg e]
   unfold Kk3
   rw[List.getElem?_map,List.getElem?_map,List.getElem?_range ht]
   by_cases h1:t<i
   ·simp[h1,show t<i+1 by omega]
   ·simp[h1,show ¬t<i+1 by omega]
 ·have h1:(Kk3 f n (i+1)).length≤t:=by rw[Kd4];omega
  have h2:(Kk3 f n i).length≤t:=by rw[Kd4];omega
  rw[if_neg (by omega),List.getElem?_eq_none h1,List.getElem?_eq_none h2]
def lf1 (W0:PW) (f:List (List Tm)) (L:List PL) (W:PW):Prop:=match L with
 | [.row l,.val (.int .i64 i)]=>∃j:Nat,i=(j:Int)∧j≤f.length∧Ext W0 W∧An5 (Gx4 240 196 W) l ((List.range j).map fun t:Nat=>Dc6 (t:Int))
 | _=>False
def lf2 (W0:PW) (f:List (List Tm)) (k:Int) (L:List PL) (W:PW):Prop:=match L with
 | [.val (.int .i64 i),.row l]=>∃n:Nat,i=(n:Int)∧(n:Int)≤k∧Ext W0 W∧(∀t,t<f.length→(Jz7 f t n).isSome=true)∧An5 (Gx4 240 196 W) l (lsN f n)
 | _=>False
def lf3 (W0:PW) (f:List (List Tm)) (n:Nat) (L:List PL) (W:PW):Prop:=match L with
 | [.val (.int .i64 i),.row l]=>∃j:Nat,i=(j:Int)∧j≤f.length∧Ext W0 W∧(∀t,t<j→(Jz7 f t (n+1)).isSome=true)∧An5 (Gx4 240 196 W) l (Kk3 f n j)
 | _=>False
theorem Kl2 {W0:PW} {M:Nat→Prop} {s:Sl} {f:List (List Tm)} {k:Int} (h:Ps W0 s f) (hl:f.length≤4) (hb: ∀q∈f,Bd 56029 q∧q.length≤14):
  Aa0 Tryz.prog 30 [s.v,.int .i64 k] W0 M fun v W'=>∃(s':Sl),v = .tuple ⟨[Sl.v s',.bool (Ke7 f k).isSome]⟩∧Ps W' s' ((Ke7 f k).getD []):=by
 apply Kh9
 have hn:=h.n
 have bad:¬Jz6 f k→∀W':PW,∃s':Sl,(Value.tuple ⟨[.slice none 0 0,.bool false]⟩) = .tuple ⟨[Sl.v s',.bool (Ke7 f k).isSome]⟩∧Ps W' s' ((Ke7 f k).getD []):=fun hb W'=>by rw[Kd3 hb];exact⟨⟨none,0,0⟩,rfl,Gf4.nil W'⟩
 refine Jz5 h (by omega) (fun p hp=>by have:=(hb p hp).2;omega) fun W2 hE2 _=>⟨_,rfl,fun hno W4 _=>bad (fun hL=>by have:=hL.1;simp[this] at hno) W4,fun hyes=>⟨fun hk W5 _=>bad (fun hL=>by have:=hL.2.1;omega) W5,fun h0=>⟨fun hk W6 _=>bad (fun hL=>by have:=hL.2.1;omega) W6,fun h4=>?_⟩⟩⟩
 have hF:Jz8 f:=by simpa using hyes
 have hf:Kj2 f:=⟨hb,hF.2.2⟩
 have hf12:f.length=1∨f.length=2:=by have:=hF.2;omega
 refine⟨lf1 W0 f,fun L _=>match L with | [_,.val (.int .i64 i)]=>f.length-i.toNat | _=>0,⟨0,rfl,Nat.zero_le _,hE2,trivial⟩,?_⟩
 rintro l9 i10 W11 ⟨j,rfl,hj,hE11,ha⟩
 have hal:=ha.len
 rw[List.length_map,List.length_range] at hal
 refine⟨fun hlt=>?_,fun hge=>?_⟩
 ·refine Cr4 fun s14 W13 hE13 h13=>⟨s14,rfl,by simp only[List.length_cons,List.length_nil];omega,by unfold I64;omega,⟨j+1,by push_cast;rfl,by omega,hE11.trans hE13,?_⟩,?_⟩
  ·rw[List.range_succ,List.map_append]
   exact(ha.mono fun _ _ h=>h.ext hE13).snoc ⟨s14,rfl,h13⟩
  ·show f.length-Int.toNat ((j:Int)+1)<f.length-Int.toNat (j:Int)
   omega
 have hjj:j=f.length:=by omega
 subst hjj
 refine⟨lf2 W0 f k,fun L _=>match L with | [.val (.int .i64 i),_]=>(k-i).toNat | _=>0,⟨0,rfl,by omega,hE11,fun t _=>rfl,ha⟩,?_⟩
 rintro l17 i18 W19 ⟨n,rfl,hnk,hE19,hsome,hall⟩
 have hl17:=hall.len
 simp only[lsN,List.length_map,List.length_range] at hl17
 refine⟨fun hltk=>?_,fun hgek s31 W32 hE32 hO _ W33 hE33=>?_⟩
 ·refine⟨lf3 W0 f n,fun L _=>match L with | [.val (.int .i64 i),_]=>f.length-i.toNat | _=>0,⟨0,rfl,Nat.zero_le _,hE19,fun t ht=>absurd ht (Nat.not_lt_zero t),by rw[Kn7];exact hall⟩,?_⟩
  rintro l22 i23 W24 ⟨t,rfl,ht,hE24,hs1,hmix⟩
  have hl22:=hmix.len
  rw[Kd4] at hl22
  refine⟨fun hltt=>?_,fun hget=>⟨by unfold I64;omega,⟨n+1,by push_cast;rfl,by omega,hE24,?_,?_⟩,?_⟩⟩
  ·have htl:t<f.length:=by omega
   obtain⟨x,hx,y,rfl,hy⟩:=hmix.get (Kp3 htl)
   obtain⟨g,hg⟩:=Option.isSome_iff_exists.1 (hsome t htl)
   rw[hg] at hy
   have hy:Ab0 240 196 W24 y g:=hy
   have hG:=Kf4 hf hf12 (n:=n) (by omega) hg
   refine⟨⟨by omega,by omega⟩,y,⟨[y.v],hx,rfl⟩,Kg6 (h.ext hE24) hy hf hG (Kp7 n (by omega)) fun s28 W27 hE27 h27=>⟨s28,_,rfl,fun hno W30 _=>bad (fun hL=>?_) W30,fun hok=>⟨⟨by omega,by omega⟩,by omega,by unfold I64;omega,⟨t+1,by push_cast;rfl,by omega,hE24.trans hE27,fun u hu=>?_,?_⟩,?_⟩⟩⟩
   ·have hnn:Jz7 f t (n+1)=none:=by
     rw[Jz7,hg]
     show Kd0 f g=none
     cases hq:Kd0 f g with
     | none=>rfl
     | some r=>rw[hq] at hno;cases hno
    have h1:=hL.2.2 t htl
    rw[Kb0 hnn k.toNat (by omega)] at h1
    cases h1
   ·by_cases e:u=t
    ·subst e
     rw[Jz7,hg]
     simpa using hok
    ·exact hs1 u (by omega)
   ·rw[←Ko7 htl]
    have e:Jz7 f t (n+1)=Kd0 f g:=by rw[Jz7,hg]
    rw[e]
    exact(hmix.mono fun _ _ h=>h.ext hE27).set t ⟨s28,rfl,h27⟩
   ·show f.length-Int.toNat ((t:Int)+1)<f.length-Int.toNat (t:Int)
    omega
  ·intro u hu
   exact hs1 u (by omega)
  ·have:t=f.length:=by omega
   subst this
   rw[←Ko2]
   exact hmix
  ·show(k-((n:Int)+1)).toNat<(k-(n:Int)).toNat
   omega
 ·have hkn:k.toNat=n:=by omega
  have hL:Jz6 f k:=⟨hF,⟨by omega,by omega⟩,fun i hi=>by rw[hkn];exact hsome i hi⟩
  rw[Jz3 hL,hkn]
  exact⟨s31,rfl,l17,⟨_,(hO.ext hE33).row⟩,hall.mono fun _ _ h=>h.ext (hE32.trans hE33)⟩
theorem Kb9 {W0 W:PW} {M:Nat→Prop} {s:Sl} {f:List (List Tm)} {k:Int} {K:Value→PW→Prop} (h:Ps W s f) (hl:f.length≤4) (hb: ∀q∈f,Bd 56029 q∧q.length≤14) (kont: ∀(s':Sl) (W':PW),Ext W W'→(Ps W' s' ((Ke7 f k).getD []))→K (.tuple ⟨[Sl.v s',.bool (Ke7 f k).isSome]⟩) W'):
  Aa1 Tryz.prog W0 M 30 [s.v,.int .i64 k] W K:=
 Aa2 (fun W' hE=>Kl2 (M:=fun _=>False) (h.ext hE) hl hb) (fun W' v W'' hE hE' hP=>by
  obtain⟨s',rfl,h⟩:=hP
  exact kont s' W'' (hE.trans hE') h)
def rf1 (W0:PW) (f:List (List Tm)) (k:Nat) (L:List PL) (W:PW):Prop:=match L with
 | [.row l,.val (.int .i64 i)]=>∃j:Nat,i=(j:Int)∧j≤f.length∧Ext W0 W∧(∀t,t<j→(Jz7 f t k).isSome=true)∧An5 (Ke9 240 120 W) l ((List.range j).map fun i=>(Jz7 f i k).getD [])
 | _=>False
def rf2 (W0:PW) (f:List (List Tm)) (k:Int) (j:Nat) (L:List PL) (W:PW):Prop:=match L with
 | [.val (.slice A m c),.val (.int .i64 i)]=>∃(n:Nat) (g:List Tm),i=(n:Int)∧(n:Int)≤k∧Ext W0 W∧Jz7 f j n=some g∧Ag1 240 120 W ⟨A,m,c⟩ g
 | _=>False
def rf3 (W0:PW) (f:List (List Tm)) (g:List Tm) (L:List PL) (W:PW):Prop:=match L with
 | [.val (.slice A m c),.val (.int .i64 i)]=>∃(j:Nat) (a:List Tm),i=(j:Int)∧j≤f.length∧Ext W0 W∧Jz9 f g j=some a∧Ag1 240 120 W ⟨A,m,c⟩ a
 | _=>False
theorem Kn8 {W0:PW} {M:Nat→Prop} {s:Sl} {f:List (List Tm)} {k:Int} (h:RPs W0 s f) (hl:f.length≤4) (hb: ∀q∈f,Bd 56029 q∧q.length≤14):
  Aa0 Tryz.prog 48 [s.v,.int .i64 k] W0 M fun v W'=>∃(s':Sl),v = .tuple ⟨[Sl.v s',.bool (Ke7 f k).isSome]⟩∧RPs W' s' ((Ke7 f k).getD []):=by
 apply Kh7
 have hn:=h.n
 have bad:¬Jz6 f k→∀W':PW,∃s':Sl,(Value.tuple ⟨[.slice none 0 0,.bool false]⟩) = .tuple ⟨[Sl.v s',.bool (Ke7 f k).isSome]⟩∧RPs W' s' ((Ke7 f k).getD []):=fun hb W'=>by rw[Kd3 hb];exact⟨⟨none,0,0⟩,rfl,Jz0.nil W'⟩
 refine Jz4 h (by omega) (fun p hp=>by have:=(hb p hp).2;omega) fun W2 hE2 _=>⟨_,rfl,fun hno W4 _=>bad (fun hL=>by have:=hL.1;simp[this] at hno) W4,fun hyes=>⟨fun hk W5 _=>bad (fun hL=>by have:=hL.2.1;omega) W5,fun h0=>⟨fun hk W6 _=>bad (fun hL=>by have:=hL.2.1;omega) W6,fun h4=>?_⟩⟩⟩
 have hF:Jz8 f:=by simpa using hyes
 have hf:Kj2 f:=⟨hb,hF.2.2⟩
 have hf12:f.length=1∨f.length=2:=by have:=hF.2;omega
 refine⟨rf1 W0 f k.toNat,fun L _=>match L with | [_,.val (.int .i64 i)]=>f.length-i.toNat | _=>0,⟨0,rfl,Nat.zero_le _,hE2,fun t ht=>absurd ht (Nat.not_lt_zero t),trivial⟩,?_⟩
 rintro l9 i10 W11 ⟨j,rfl,hj,hE11,hs,ha⟩
 have hal:=ha.len
 rw[List.length_map,List.length_range] at hal
 refine⟨fun hlt=>?_,fun hge s37 W38 hE38 hO _ W39 hE39=>?_⟩
 ·have hjl:j<f.length:=by omega
  refine Kj4 fun s14 W13 hE13 h13=>⟨s14,rfl,?_⟩
  refine⟨rf2 W13 f k j,fun L _=>match L with | [_,.val (.int .i64 i)]=>(k-i).toNat | _=>0,⟨0,Dc6 (j:Int),rfl,by omega,Ext.refl _,rfl,h13⟩,?_⟩
  rintro s17 i18 W19 ⟨n,g,rfl,hnk,hE19,hg,hP⟩
  have hP:Ag1 240 120 W19 s17 g:=hP
  refine⟨fun hltk=>?_,fun hgek=>⟨by simp only[List.length_cons,List.length_nil];omega,by unfold I64;omega,⟨j+1,by push_cast;rfl,by omega,(hE11.trans hE13).trans hE19,fun t ht=>?_,?_⟩,?_⟩⟩
  ·have hG:=Kf4 hf hf12 (n:=n) (by omega) hg
   have hlb:=Kp7 n (by omega)
   have hgl:=hG.len
   refine⟨rf3 W19 f g,cnL f.length,⟨0,[],rfl,Nat.zero_le _,Ext.refl _,rfl,Ag1.nil W19⟩,?_⟩
   rintro s22 i23 W24 ⟨t,a,rfl,ht,hE24,hta,hPa⟩
   have hPa:Ag1 240 120 W24 s22 a:=hPa
   have hA:=Kd5 hf hG ht hta
   have hal:=Av6.len hA.2.1 hA.2.2
   have hnb:=Kq7 hlb (Nat.le_trans ht hf.len)
   refine⟨fun hltt=>?_,fun hget=>⟨by unfold I64;omega,⟨n+1,a,by push_cast;rfl,by omega,hE19.trans hE24,?_,hPa⟩,?_⟩⟩
   ·have htl:t<f.length:=by omega
    have hEx:=((hE11.trans hE13).trans hE19).trans hE24
    obtain⟨x,hx,hq⟩:=(h.ext hEx).at htl
    have hm:=hf.bd _ (List.getElem_mem htl)
    have hdb:=Hg1 hG.bd hG.ok (t:Int)
    have hdl:=Hj1 g (t:Int)
    refine⟨(h.ext hEx).inB (by omega) (by omega),x,hx,Hj4 (hP.ext hE24) hG.bd (by omega) (by omega) fun s28 W27 hE27 h27=>⟨s28,rfl,hE27,?_⟩⟩
    refine Ke0 (k:=3000000) h27 (hq.ext hE27) (hdb.mono (by omega)) (hm.1.mono (by omega)) (by omega) (by omega) (by omega) (by have:=Nat.mul_le_mul (Nat.le_trans hdl hgl) hm.2;omega) fun s31 W30 hE30 h30=>⟨s31,_,rfl,fun hno W33 _=>bad (fun hL=>?_) W33,fun hok=>?_⟩
    ·have hM:¬Ct4 (Hc3 g (t:Int)) f[t]:=by simpa using hno
     have hnn:Kd0 f g=none:=Kb5 (j:=t+1) (by rw[Jz9,hta,Jy8 htl];dsimp only;rw[if_neg hM]) _ htl
     have h1:=hL.2.2 j hjl
     rw[Kb0 (n:=n+1) (by rw[Jz7,hg];exact hnn) k.toNat (by omega)] at h1
     cases h1
    ·have hM:Ct4 (Hc3 g (t:Int)) f[t]:=by simpa using hok
     rw[Gn4 hM] at h30
     have hB:=(hdb.Ff3 hm.1).norm
     have hpl:=Av6.len (Ce8 (An8 (Hc3 g (t:Int)) f[t])) h30.ok
     refine Jv3 (k:=5000000) (hPa.ext (hE27.trans hE30)) h30 hA.2.1 (hA.1.mono (by omega)) (hB.mono (by omega)) (by omega) (by omega) (by omega) fun s36 W35 hE35 h35=>⟨s36,rfl,by unfold I64;omega,⟨t+1,Ag2 (a ++ Ag2 (An8 (Hc3 g (t:Int)) f[t])),by push_cast;rfl,by omega,hE24.trans (hE27.trans (hE30.trans hE35)),?_,h35⟩,?_⟩
     ·rw[Jz9,hta,Jy8 htl]
      dsimp only
      rw[if_pos hM]
     ·show f.length-Int.toNat ((t:Int)+1)<f.length-Int.toNat (t:Int)
      omega
   ·have:t=f.length:=by omega
    subst this
    rw[Jz7,hg]
    exact hta
   ·show(k-((n:Int)+1)).toNat<(k-(n:Int)).toNat
    omega
  ·have hkn:k.toNat=n:=by omega
   by_cases e:t=j
   ·subst e
    rw[hkn,hg]
    rfl
   ·exact hs t (by omega)
  ·have hkn:k.toNat=n:=by omega
   rw[List.range_succ,List.map_append]
   refine(ha.mono fun _ _ h=>h.ext (hE13.trans hE19)).snoc ⟨s17,rfl,?_⟩
   show Ag1 240 120 W19 s17 ((Jz7 f j k.toNat).getD [])
   rw[hkn,hg]
   exact hP
  ·show f.length-Int.toNat ((j:Int)+1)<f.length-Int.toNat (j:Int)
   omega
 ·have hjj:j=f.length:=by omega
  subst hjj
  have hL:Jz6 f k:=⟨hF,⟨by omega,by omega⟩,hs⟩
  rw[Jz3 hL]
  exact⟨s37,rfl,l9,⟨_,(hO.ext hE39).row⟩,ha.mono fun _ _ h=>h.ext (hE38.trans hE39)⟩
theorem Kj3 {W0 W:PW} {M:Nat→Prop} {s:Sl} {f:List (List Tm)} {k:Int} {K:Value→PW→Prop} (h:RPs W s f) (hl:f.length≤4) (hb: ∀q∈f,Bd 56029 q∧q.length≤14) (kont: ∀(s':Sl) (W':PW),Ext W W'→(RPs W' s' ((Ke7 f k).getD []))→K (.tuple ⟨[Sl.v s',.bool (Ke7 f k).isSome]⟩) W'):
  Aa1 Tryz.prog W0 M 48 [s.v,.int .i64 k] W K:=
 Aa2 (fun W' hE=>Kn8 (M:=fun _=>False) (h.ext hE) hl hb) (fun W' v W'' hE hE' hP=>by
  obtain⟨s',rfl,h⟩:=hP
  exact kont s' W'' (hE.trans hE') h)
end Go.Proofs.YtahohahjnhfedaaGreat
/- cincturelaw16.FlowLies. -/
namespace Go.Proofs.YtahohahjnhfedaaGreat
open Go Go.SX
theorem Kq5:Ag2 [((⟨0,0,0⟩:Mon),((1:Int):Rat))] = [(⟨0,0,0⟩,1)]:=by decide +kernel
theorem Kp1:Ke7 [[((⟨0,0,0⟩:Mon),(1:Rat))]] 1=some [[(⟨0,0,0⟩,1)]]:=by
 have h1:Jz7 [[((⟨0,0,0⟩:Mon),(1:Rat))]] 0 1=some [(⟨0,0,0⟩,1)]:=by decide +kernel
 have hF:Jz8 [[((⟨0,0,0⟩:Mon),(1:Rat))]]:=by decide +kernel
 have hL:Jz6 [[((⟨0,0,0⟩:Mon),(1:Rat))]] 1:=⟨hF,by decide,fun i hi=>by
  have:i=0:=by simp at hi;exact hi
  subst this
  show(Jz7 _ 0 1).isSome=true
  rw[h1]
  rfl⟩
 rw[Jz3 hL]
 show some [(Jz7 _ 0 1).getD []]=_
 rw[h1]
 rfl
theorem Kr3:Bd 56029 [((⟨0,0,0⟩:Mon),(1:Rat))]:=(Cq4 (Sz.one (Nat.le_refl 1))).mono (by decide)
theorem Kf3 {W0:PW} {M:Nat→Prop} :
  Aa0 Tryz.prog 7 [] W0 M fun v W'=>v = .bool true∧True:=by
 apply Kd6
 refine Ay8 (z:=1) (by unfold I64;omega) fun s3 b4 s5 W2 hE2 h2=>⟨s3,b4,s5,rfl,?_⟩
 refine Gf5 h2 (Sz.one (show 1≤1 by omega)) (by omega) fun s8 W7 hE7 h7=>⟨s8,rfl,fun s9 W10 hE10 hO _=>?_⟩
 rw[Kq5] at h7
 have hf:Ps W10 s9 [[((⟨0,0,0⟩:Mon),(1:Rat))]]:=⟨_,⟨_,hO.row⟩,⟨s8,rfl,h7.ext hE10⟩,trivial⟩
 refine Kb9 hf (by simp) (fun q hq=>by simp at hq;subst hq;exact⟨Kr3,by simp⟩) fun s13 W12 hE12 h12=>⟨s13,_,rfl,?_⟩
 rw[Kp1] at h12⊢
 have h12:Ps W12 s13 [[((⟨0,0,0⟩:Mon),(1:Rat))]]:=h12
 have hn:=h12.n
 refine⟨fun _=>⟨fun _=>?_,fun e=>absurd (by rw[hn];rfl) e⟩,fun e=>(by cases e)⟩
 obtain⟨x,hx,hp⟩:=h12.at (i:=0) (by simp)
 refine⟨h12.inB (by omega) (by simp),x,hx,?_⟩
 refine Ak1 (z:=1) (by unfold I64;omega) fun b18 s19 s20 W17 hE17 h17=>⟨b18,s19,s20,rfl,hE17,?_⟩
 refine Kf1 h17 (Sz.one (show 1≤1 by omega)) (by omega) fun s23 W22 hE22 h22=>⟨s23,rfl,hE22,?_⟩
 rw[Kq5] at h22
 refine Ki6 (hp.ext (hE17.trans hE22)) h22 (k:=1) (fun t ht=>by simp at ht;subst ht;exact Sz.one (Nat.le_refl 1)) (by omega) (by simp) fun W25 hE25 _=>⟨true,rfl,fun _=>?_,fun e=>(by cases e)⟩
 refine Cr4 fun s29 W28 hE28 h28=>⟨s29,rfl,fun s30 W31 hE31 hO2 _=>?_⟩
 have hv:Ps W31 s30 [Dc6 0]:=⟨_,⟨_,hO2.row⟩,⟨s29,rfl,h28.ext hE31⟩,trivial⟩
 have hF:Jz8 [Dc6 0]:=by decide +kernel
 exact Jz5 hv (by simp) (fun p hp=>by simp at hp;subst hp;exact Nat.le_trans (show(Dc6 0).length≤1 by unfold Dc6;split<;>simp) (by omega)) fun W33 hE33 _=>⟨_,rfl,fun W35 _=>⟨by rw[decide_eq_true hF],trivial⟩⟩
theorem Ka0 {W0 W:PW} {M:Nat→Prop} {K:Value→PW→Prop} (kont: ∀(W':PW),Ext W W'→(True)→K (.bool true) W'):
  Aa1 Tryz.prog W0 M 7 [] W K:=
 Aa2 (fun W' hE=>Kf3 (M:=fun _=>False) ) (fun W' v W'' hE hE' hP=>by
  obtain⟨rfl,h⟩:=hP
  exact kont W'' (hE.trans hE') h)
def flI (W0:PW) (n:Nat) (L:List PL) (W:PW):Prop:=match L with
 | [.val (.int .i64 i)]=>∃j:Nat,i=(j:Int)∧j≤n∧Ext W0 W
 | _=>False
end Go.Proofs.YtahohahjnhfedaaGreat
/- whole.Pow, rat.Pow; cinctureref1.times. -/
namespace Go.Proofs.YtahohahjnhfedaaGreat
open Go Go.SX
theorem Fu3 {i:Nat} (h:i<256):bits .and .i64 (i:Int) 1=((i%2:Nat):Int):=by
 have key: ∀i:Nat,i<256→bits .and .i64 (i:Int) 1=((i%2:Nat):Int):=by decide +kernel
 exact key i h
theorem Fp4 (i:Nat):Ah0 (i:Int) 1=((i/2:Nat):Int):=by
 unfold Ah0
 rw[Int.fdiv_eq_ediv_of_nonneg _ (by decide)]
 omega
theorem Cf5 {z:Int} {k:Nat} (h:nl z.natAbs≤k) (e:Nat):nl (z^e).natAbs≤k*e+1:=by
 induction e with
 | zero=>simp[Ax0]
 | succ e ih=>
  rw[Int.pow_succ,Int.natAbs_mul]
  have:=Ae5 (z^e).natAbs z.natAbs
  rw[Nat.mul_add]
  omega
theorem Di0 {W0:PW} {M:Nat→Prop} {s:Sl} {b:Bool} {z:Int} {n k:Nat} (h:Ab5 240 W0 s b z) (hz:nl z.natAbs≤k) (hk:k≤1048576) (hn:n≤255):
  Aa0 Tryz.prog 218 [.agg ⟨[s.v,.bool b]⟩,.int .i64 (n:Int)] W0 M fun v W'=>∃(s':Sl),∃(b':Bool),v = .agg ⟨[Sl.v s',.bool b']⟩∧Ab5 240 W' s' b' (z^n):=by
 apply Cg5
 have en:mn (mx (n:Int) 0) 255=(n:Int):=by unfold mn mx;split<;>(try split)<;>omega
 unfold Cf2
 rw[en]
 refine Bk1 (z:=1) (by unfold I64;omega) fun s3 b4 W2 hE2 h2=>⟨s3,b4,rfl,?_⟩
 refine⟨fun l W=>match l with
  | [.val (.int .i64 i),.cells [.slice A m c,.bool x],.cells [.slice A' m' c',.bool y]]=>∃(j e f:Nat),i=(j:Int)∧Ext W0 W∧f+e*j=n∧e≤2*n+1∧j≤255∧Ab5 240 W ⟨A,m,c⟩ x (z^f)∧Ab5 240 W ⟨A',m',c'⟩ y (z^e)
  | _=>False,fun l _=>match l with | [.val (.int .i64 i),_,_]=>i.toNat | _=>0,⟨n,1,0,rfl,hE2,by omega,by omega,hn,by simpa using h2,by rw[show z^1=z by rw[Int.pow_succ,Int.pow_zero,Int.one_mul]];exact h.ext hE2⟩,?_⟩
 rintro s7 b8 s9 b10 i11 W12 ⟨j,e,f,rfl,hE,hfe,he,hj,hf1,hf2⟩
 have hf1:Ab5 240 W12 s7 b8 (z^f):=hf1
 have hf2:Ab5 240 W12 s9 b10 (z^e):=hf2
 have hjn:e*j≤n:=by omega
 refine⟨fun hpos=>?_,fun hz0 W25 hE25=>⟨s7,b8,rfl,?_⟩⟩
 ·have hj1:1≤j:=by omega
  have hen:e≤n:=Nat.le_trans (Nat.le_mul_of_pos_right e hj1) hjn
  have hsz: ∀x,x≤511→nl (z^x).natAbs≤68719476736:=fun x hx=>by
   have h1:=Cf5 hz x
   have h2:=Nat.mul_le_mul hk hx
   omega
  have hee:(e+e)*(j/2)=e*(2*(j/2)):=by rw[←Nat.two_mul,Nat.mul_comm 2 e,Nat.mul_assoc]
  have hi:Int.toNat (Ah0 (j:Int) 1)<Int.toNat (j:Int):=by rw[Fp4];omega
  refine⟨fun hodd=>?_,fun heven=>?_⟩
  ·have ho:j%2=1:=by rw[Fu3 (by omega)] at hodd;omega
   have hj2:j=2*(j/2)+1:=by omega
   have hej:e*j=e*(2*(j/2))+e:=by conv=>lhs;rw[hj2,Nat.mul_add,Nat.mul_one]
   refine Ak0 hf1 hf2 (hsz f (by omega)) (hsz e (by omega)) fun s15 b16 W14 hE14 h14=>⟨s15,b16,rfl,Ak0 (hf2.ext hE14) (hf2.ext hE14) (hsz e (by omega)) (hsz e (by omega)) fun s19 b20 W18 hE18 h18=>⟨s19,b20,rfl,⟨j/2,e+e,f+e,by rw[Fp4],hE.trans (hE14.trans hE18),by omega,by omega,by omega,?_,?_⟩,hi⟩⟩
   ·rw[Int.pow_add];exact h14.ext hE18
   ·rw[Int.pow_add];exact h18
  ·have ho:j%2=0:=by
    rw[Fu3 (by omega)] at heven
    omega
   have hj2:j=2*(j/2):=by omega
   have hej:e*j=e*(2*(j/2)):=by conv=>lhs;rw[hj2]
   refine Ak0 hf2 hf2 (hsz e (by omega)) (hsz e (by omega)) fun s23 b24 W22 hE22 h22=>⟨s23,b24,rfl,⟨j/2,e+e,f,by rw[Fp4],hE.trans hE22,by omega,by omega,by omega,hf1.ext hE22,?_⟩,hi⟩
   rw[Int.pow_add];exact h22
 ·have:j=0:=by omega
  subst this
  rw[Nat.mul_zero,Nat.add_zero] at hfe
  rw[←hfe]
  exact hf1.ext hE25
theorem Bd6 {W0 W:PW} {M:Nat→Prop} {s:Sl} {b:Bool} {z:Int} {n k:Nat} {K:Value→PW→Prop} (h:Ab5 240 W s b z) (hz:nl z.natAbs≤k) (hk:k≤1048576) (hn:n≤255) (kont: ∀(s':Sl) (b':Bool) (W':PW),Ext W W'→(Ab5 240 W' s' b' (z^n))→K (.agg ⟨[Sl.v s',.bool b']⟩) W'):
  Aa1 Tryz.prog W0 M 218 [.agg ⟨[s.v,.bool b]⟩,.int .i64 (n:Int)] W K:=
 Aa2 (fun W' hE=>Di0 (M:=fun _=>False) (h.ext hE) hz hk hn) (fun W' v W'' hE hE' hP=>by
  obtain⟨s',b',rfl,h⟩:=hP
  exact kont s' b' W'' (hE.trans hE') h)
theorem Eo3 (q:Rat) (n:Nat):dn (q^n)=if dn q=0∨n=0 then 0 else q.den^n:=by
 unfold dn
 rw[Rat.den_pow]
 by_cases h1:q.den=1
 ·simp[h1]
 ·by_cases h2:n=0
  ·subst h2;simp
  ·have:q.den^n≠1:=by
    have hd:=q.den_nz
    obtain⟨m,rfl⟩: ∃m,n=m+1:=⟨n-1,by omega⟩
    rw[Nat.pow_succ]
    have:1≤q.den^m:=Nat.pow_pos (by omega)
    have:=Nat.mul_le_mul this (show 2≤q.den by omega)
    omega
   have hz:q.den≠0:=q.den_nz
   simp[h1,h2,this,hz]
theorem Er1 {W0:PW} {M:Nat→Prop} {s t:Sl} {b:Bool} {q:Rat} {n k:Nat} (h:Ab3 240 W0 s b t q) (hz:Sz k q) (hk:k≤1048576) (hn:n≤255):
  Aa0 Tryz.prog 199 [.agg ⟨[s.v,.bool b,t.v]⟩,.int .i64 (n:Int)] W0 M fun v W'=>∃(s':Sl),∃(b':Bool),∃(t':Sl),v = .agg ⟨[Sl.v s',.bool b',Sl.v t']⟩∧Ab3 240 W' s' b' t' (q^n):=by
 apply Dk0
 have hd:=hz.dn
 refine Bd6 h.1 hz.1 hk hn fun s3 b4 W2 hE2 h2=>⟨s3,b4,rfl,Ac9 (h.2.ext hE2) (by omega) fun W6 hE6 _=>⟨_,rfl,fun hb=>⟨fun hn0=>?_,fun hn0 W20 hE20=>⟨s3,b4,⟨none,0,0⟩,rfl,(h2.ext hE6).ext hE20,?_⟩⟩,fun hb W21 hE21=>⟨s3,b4,⟨none,0,0⟩,rfl,(h2.ext hE6).ext hE21,?_⟩⟩⟩
 ·refine Bc0 (h.ext (hE2.trans hE6)) hz (by omega) fun s10 b11 W9 hE9 h9=>⟨s10,b11,rfl,Bd6 h9 (by rw[Int.natAbs_natCast];exact hz.2) hk hn fun s14 b15 W13 hE13 h13=>⟨s14,b15,rfl,Ag5 h13 fun s18 W17 hE17 h17=>⟨s18,rfl,fun W19 hE19=>⟨s3,b4,s18,rfl,(h2.ext (hE6.trans (hE9.trans (hE13.trans hE17)))).ext hE19,?_⟩⟩⟩⟩
  have hdq:dn q≠0:=fun e=>by
   rw[e] at hb
   simp[Aj9] at hb
  have e:dn (q^n)=q.den^n:=by rw[Eo3,if_neg (by omega)]
  rw[e]
  have e2:((q.den:Int)^n).natAbs=q.den^n:=by rw[Int.natAbs_pow,Int.natAbs_natCast]
  rw[e2] at h17
  exact h17.ext hE19
 ·have:n=0:=by omega
  rw[Eo3,if_pos (.inr this)]
  exact Ao9 W20
 ·have:dn q=0:=(Ag3 (x:=dn q)).1 (by omega)
  rw[Eo3,if_pos (.inl this)]
  exact Ao9 W21
theorem Bq4 {W0 W:PW} {M:Nat→Prop} {s t:Sl} {b:Bool} {q:Rat} {n k:Nat} {K:Value→PW→Prop} (h:Ab3 240 W s b t q) (hz:Sz k q) (hk:k≤1048576) (hn:n≤255) (kont: ∀(s':Sl) (b':Bool) (t':Sl) (W':PW),Ext W W'→(Ab3 240 W' s' b' t' (q^n))→K (.agg ⟨[Sl.v s',.bool b',Sl.v t']⟩) W'):
  Aa1 Tryz.prog W0 M 199 [.agg ⟨[s.v,.bool b,t.v]⟩,.int .i64 (n:Int)] W K:=
 Aa2 (fun W' hE=>Er1 (M:=fun _=>False) (h.ext hE) hz hk hn) (fun W' v W'' hE hE' hP=>by
  obtain⟨s',b',t',rfl,h⟩:=hP
  exact kont s' b' t' W'' (hE.trans hE') h)
end Go.Proofs.YtahohahjnhfedaaGreat
/- The program's intervals. -/
namespace Go.Proofs.YtahohahjnhfedaaGreat
open Go Go.SX
theorem De5 {W0:PW} {M:Nat→Prop} {s t s' t':Sl} {b b':Bool} {p q:Rat} {k:Nat} (h1:Ab3 240 W0 s b t p) (h2:Ab3 240 W0 s' b' t' q) (hp:Sz k p) (hq:Sz k q) (hk:k≤34359738368):
  Aa0 Tryz.prog 168 [.agg ⟨[s.v,.bool b,t.v]⟩,.agg ⟨[s'.v,.bool b',t'.v]⟩] W0 M fun v W'=>∃(r:Sl),∃(c:Bool),∃(u:Sl),v = .agg ⟨[Sl.v r,.bool c,Sl.v u]⟩∧Ab3 240 W' r c u (Az9 p q):=by
 apply Cg1
 refine Aj2 h2 h1 hq hp hk hk fun W2 hE2 _=>⟨_,rfl,fun h W4 hE4=>⟨s',b',t',rfl,?_⟩,fun h W5 hE5=>⟨s,b,t,rfl,?_⟩⟩
 ·rw[Az9,if_pos (At6.1 h)];exact h2.ext (hE2.trans hE4)
 ·rw[Az9,if_neg (fun e=>h (At6.2 e))];exact h1.ext (hE2.trans hE5)
theorem Be3 {W0 W:PW} {M:Nat→Prop} {s t s' t':Sl} {b b':Bool} {p q:Rat} {k:Nat} {K:Value→PW→Prop} (h1:Ab3 240 W s b t p) (h2:Ab3 240 W s' b' t' q) (hp:Sz k p) (hq:Sz k q) (hk:k≤34359738368) (kont: ∀(r:Sl) (c:Bool) (u:Sl) (W':PW),Ext W W'→(Ab3 240 W' r c u (Az9 p q))→K (.agg ⟨[Sl.v r,.bool c,Sl.v u]⟩) W'):
  Aa1 Tryz.prog W0 M 168 [.agg ⟨[s.v,.bool b,t.v]⟩,.agg ⟨[s'.v,.bool b',t'.v]⟩] W K:=
 Aa2 (fun W' hE=>De5 (M:=fun _=>False) (h1.ext hE) (h2.ext hE) hp hq hk) (fun W' v W'' hE hE' hP=>by
  obtain⟨r,c,u,rfl,h⟩:=hP
  exact kont r c u W'' (hE.trans hE') h)
theorem Dl7 {W0:PW} {M:Nat→Prop} {s t s' t':Sl} {b b':Bool} {p q:Rat} {k:Nat} (h1:Ab3 240 W0 s b t p) (h2:Ab3 240 W0 s' b' t' q) (hp:Sz k p) (hq:Sz k q) (hk:k≤34359738368):
  Aa0 Tryz.prog 169 [.agg ⟨[s.v,.bool b,t.v]⟩,.agg ⟨[s'.v,.bool b',t'.v]⟩] W0 M fun v W'=>∃(r:Sl),∃(c:Bool),∃(u:Sl),v = .agg ⟨[Sl.v r,.bool c,Sl.v u]⟩∧Ab3 240 W' r c u (Au7 p q):=by
 apply Ck9
 refine Aj2 h2 h1 hq hp hk hk fun W2 hE2 _=>⟨_,rfl,fun h W4 hE4=>⟨s',b',t',rfl,?_⟩,fun h W5 hE5=>⟨s,b,t,rfl,?_⟩⟩
 ·rw[Au7,if_pos (Al3.1 h)];exact h2.ext (hE2.trans hE4)
 ·rw[Au7,if_neg (fun e=>h (Al3.2 e))];exact h1.ext (hE2.trans hE5)
theorem Bd3 {W0 W:PW} {M:Nat→Prop} {s t s' t':Sl} {b b':Bool} {p q:Rat} {k:Nat} {K:Value→PW→Prop} (h1:Ab3 240 W s b t p) (h2:Ab3 240 W s' b' t' q) (hp:Sz k p) (hq:Sz k q) (hk:k≤34359738368) (kont: ∀(r:Sl) (c:Bool) (u:Sl) (W':PW),Ext W W'→(Ab3 240 W' r c u (Au7 p q))→K (.agg ⟨[Sl.v r,.bool c,Sl.v u]⟩) W'):
  Aa1 Tryz.prog W0 M 169 [.agg ⟨[s.v,.bool b,t.v]⟩,.agg ⟨[s'.v,.bool b',t'.v]⟩] W K:=
 Aa2 (fun W' hE=>Dl7 (M:=fun _=>False) (h1.ext hE) (h2.ext hE) hp hq hk) (fun W' v W'' hE hE' hP=>by
  obtain⟨r,c,u,rfl,h⟩:=hP
  exact kont r c u W'' (hE.trans hE') h)
theorem Cl8 {W0:PW} {M:Nat→Prop} {s t s' t':Sl} {b b':Bool} {p q:Rat} {k:Nat} (h1:Ab3 240 W0 s b t p) (h2:Ab3 240 W0 s' b' t' q) (hp:Sz k p) (hq:Sz k q) (hk:k≤34359738368):
  Aa0 Tryz.prog 117 [.agg ⟨[s.v,.bool b,t.v]⟩,.agg ⟨[s'.v,.bool b',t'.v]⟩] W0 M fun v W'=>∃(l:List Value),v = .agg ⟨l⟩∧SpV 240 W' l (Ag0 p q):=by
 apply Bv4
 exact Be3 h1 h2 hp hq hk fun s3 b4 s5 W2 hE2 g1=>⟨s3,b4,s5,rfl,Bd3 (h1.ext hE2) (h2.ext hE2) hp hq hk fun s8 b9 s10 W7 hE7 g2=>⟨s8,b9,s10,rfl,fun W11 hE11=>⟨_,rfl,SpV.mk (x:=Ag0 p q) (g1.ext (hE7.trans hE11)) (g2.ext hE11)⟩⟩⟩
theorem Ap8 {W0 W:PW} {M:Nat→Prop} {s t s' t':Sl} {b b':Bool} {p q:Rat} {k:Nat} {K:Value→PW→Prop} (h1:Ab3 240 W s b t p) (h2:Ab3 240 W s' b' t' q) (hp:Sz k p) (hq:Sz k q) (hk:k≤34359738368) (kont: ∀(l:List Value) (W':PW),Ext W W'→(SpV 240 W' l (Ag0 p q))→K (.agg ⟨l⟩) W'):
  Aa1 Tryz.prog W0 M 117 [.agg ⟨[s.v,.bool b,t.v]⟩,.agg ⟨[s'.v,.bool b',t'.v]⟩] W K:=
 Aa2 (fun W' hE=>Cl8 (M:=fun _=>False) (h1.ext hE) (h2.ext hE) hp hq hk) (fun W' v W'' hE hE' hP=>by
  obtain⟨l,rfl,h⟩:=hP
  exact kont l W'' (hE.trans hE') h)
theorem Dh8 {W0:PW} {M:Nat→Prop} {l1 l2:List Value} {x y:Iv} {k:Nat} (h1:SpV 240 W0 l1 x) (h2:SpV 240 W0 l2 y) (hx:IvS k x) (hy:IvS k y) (hk:k≤34359738368):
  Aa0 Tryz.prog 128 [.agg ⟨l1⟩,.agg ⟨l2⟩] W0 M fun v W'=>∃(l:List Value),v = .agg ⟨l⟩∧SpV 240 W' l (Bu9 x y):=by
 obtain⟨s0,b0,t0,s1,b1,t1,rfl,h1,h1'⟩:=h1
 obtain⟨s2,b2,t2,s3,b3,t3,rfl,h2,h2'⟩:=h2
 apply Ck6
 exact Be3 h1 h2 hx.1 hy.1 hk fun s3 b4 s5 W2 hE2 g1=>⟨s3,b4,s5,rfl,Bd3 (h1'.ext hE2) (h2'.ext hE2) hx.2 hy.2 hk fun s8 b9 s10 W7 hE7 g2=>⟨s8,b9,s10,rfl,fun W11 hE11=>⟨_,rfl,SpV.mk (x:=Bu9 x y) (g1.ext (hE7.trans hE11)) (g2.ext hE11)⟩⟩⟩
theorem Cn9 {W0 W:PW} {M:Nat→Prop} {l1 l2:List Value} {x y:Iv} {k:Nat} {K:Value→PW→Prop} (h1:SpV 240 W l1 x) (h2:SpV 240 W l2 y) (hx:IvS k x) (hy:IvS k y) (hk:k≤34359738368) (kont: ∀(l:List Value) (W':PW),Ext W W'→(SpV 240 W' l (Bu9 x y))→K (.agg ⟨l⟩) W'):
  Aa1 Tryz.prog W0 M 128 [.agg ⟨l1⟩,.agg ⟨l2⟩] W K:=
 Aa2 (fun W' hE=>Dh8 (M:=fun _=>False) (h1.ext hE) (h2.ext hE) hx hy hk) (fun W' v W'' hE hE' hP=>by
  obtain⟨l,rfl,h⟩:=hP
  exact kont l W'' (hE.trans hE') h)
theorem Dx1 {W0:PW} {M:Nat→Prop} {l1 l2:List Value} {x y:Iv} {k:Nat} (h1:SpV 240 W0 l1 x) (h2:SpV 240 W0 l2 y) (hx:IvS k x) (hy:IvS k y) (hk:k≤8589934592):
  Aa0 Tryz.prog 44 [.agg ⟨l1⟩,.agg ⟨l2⟩] W0 M fun v W'=>∃(l:List Value),v = .agg ⟨l⟩∧SpV 240 W' l (Cb5 x y):=by
 obtain⟨s0,b0,t0,s1,b1,t1,rfl,h1,h1'⟩:=h1
 obtain⟨s2,b2,t2,s3,b3,t3,rfl,h2,h2'⟩:=h2
 apply Cs4
 exact At2 h1 h2 hx.1 hy.1 hk hk fun s3 b4 s5 W2 hE2 g1=>⟨s3,b4,s5,rfl,At2 (h1'.ext hE2) (h2'.ext hE2) hx.2 hy.2 hk hk fun s8 b9 s10 W7 hE7 g2=>⟨s8,b9,s10,rfl,fun W11 hE11=>⟨_,rfl,SpV.mk (x:=Cb5 x y) (g1.ext (hE7.trans hE11)) (g2.ext hE11)⟩⟩⟩
theorem Cy0 {W0 W:PW} {M:Nat→Prop} {l1 l2:List Value} {x y:Iv} {k:Nat} {K:Value→PW→Prop} (h1:SpV 240 W l1 x) (h2:SpV 240 W l2 y) (hx:IvS k x) (hy:IvS k y) (hk:k≤8589934592) (kont: ∀(l:List Value) (W':PW),Ext W W'→(SpV 240 W' l (Cb5 x y))→K (.agg ⟨l⟩) W'):
  Aa1 Tryz.prog W0 M 44 [.agg ⟨l1⟩,.agg ⟨l2⟩] W K:=
 Aa2 (fun W' hE=>Dx1 (M:=fun _=>False) (h1.ext hE) (h2.ext hE) hx hy hk) (fun W' v W'' hE hE' hP=>by
  obtain⟨l,rfl,h⟩:=hP
  exact kont l W'' (hE.trans hE') h)
theorem Dy9 {W0:PW} {M:Nat→Prop} {l1 l2:List Value} {x y:Iv} {k:Nat} (h1:SpV 240 W0 l1 x) (h2:SpV 240 W0 l2 y) (hx:IvS k x) (hy:IvS k y) (hk:k≤8589934592):
  Aa0 Tryz.prog 55 [.agg ⟨l1⟩,.agg ⟨l2⟩] W0 M fun v W'=>∃(l:List Value),v = .agg ⟨l⟩∧SpV 240 W' l (Ay9 x y):=by
 obtain⟨s0,b0,t0,s1,b1,t1,rfl,h1,h1'⟩:=h1
 obtain⟨s2,b2,t2,s3,b3,t3,rfl,h2,h2'⟩:=h2
 apply Cy7
 have z1:=hx.1.mul hy.1
 have z2:=hx.2.mul hy.2
 have z3:=hx.1.mul hy.2
 have z4:=hx.2.mul hy.1
 have zm: ∀{a b:Rat},Sz (k+k) a→Sz (k+k) b→IvS (k+k) (Ag0 a b):=fun ha hb=>⟨by rcases Dj0 _ _ with e | e<;>rw[Ag0,e]<;>assumption,by rcases Dj7 _ _ with e | e<;>rw[Ag0,e]<;>assumption⟩
 refine Ak9 h1 h2 hx.1 hy.1 hk hk fun s3 b4 s5 W2 hE2 g1=>⟨s3,b4,s5,rfl,Ak9 (h1'.ext hE2) (h2'.ext hE2) hx.2 hy.2 hk hk fun s8 b9 s10 W7 hE7 g2=>⟨s8,b9,s10,rfl,Ap8 (g1.ext hE7) g2 z1 z2 (by omega) fun l W12 hE12 h12=>h12.out fun s13 b14 s15 s16 b17 s18 h12=>?_⟩⟩
 have hE:=(hE2.trans hE7).trans hE12
 refine Ak9 (h1.ext hE) (h2'.ext hE) hx.1 hy.2 hk hk fun s3 b4 s5 W20 hE20 g1=>⟨s3,b4,s5,rfl,Ak9 (h1'.ext (hE.trans hE20)) (h2.ext (hE.trans hE20)) hx.2 hy.1 hk hk fun s8 b9 s10 W25 hE25 g2=>⟨s8,b9,s10,rfl,Ap8 (g1.ext hE25) g2 z3 z4 (by omega) fun l W30 hE30 h30=>h30.out fun s31 b32 s33 s34 b35 s36 h30=>?_⟩⟩
 exact Cn9 (h12.ext ((hE20.trans hE25).trans hE30)) h30 (zm z1 z2) (zm z3 z4) (by omega) fun l W38 hE38 h38=>h38.out fun s39 b40 s41 s42 b43 s44 h38 W45 hE45=>⟨_,rfl,h38.ext hE45⟩
theorem Cx4 {W0 W:PW} {M:Nat→Prop} {l1 l2:List Value} {x y:Iv} {k:Nat} {K:Value→PW→Prop} (h1:SpV 240 W l1 x) (h2:SpV 240 W l2 y) (hx:IvS k x) (hy:IvS k y) (hk:k≤8589934592) (kont: ∀(l:List Value) (W':PW),Ext W W'→(SpV 240 W' l (Ay9 x y))→K (.agg ⟨l⟩) W'):
  Aa1 Tryz.prog W0 M 55 [.agg ⟨l1⟩,.agg ⟨l2⟩] W K:=
 Aa2 (fun W' hE=>Dy9 (M:=fun _=>False) (h1.ext hE) (h2.ext hE) hx hy hk) (fun W' v W'' hE hE' hP=>by
  obtain⟨l,rfl,h⟩:=hP
  exact kont l W'' (hE.trans hE') h)
theorem Hv0 {W0:PW} {M:Nat→Prop} {l1:List Value} {s t:Sl} {b:Bool} {x:Iv} {r:Rat} {k:Nat} (h1:SpV 240 W0 l1 x) (h2:Ab3 240 W0 s b t r) (hx:IvS k x) (hr:Sz k r) (hk:k≤8589934592):
  Aa0 Tryz.prog 45 [.agg ⟨l1⟩,.agg ⟨[s.v,.bool b,t.v]⟩] W0 M fun v W'=>∃(l:List Value),v = .agg ⟨l⟩∧SpV 240 W' l (De8 x r):=by
 obtain⟨s0,b0,t0,s1,b1,t1,rfl,h1,h1'⟩:=h1
 apply Hu3
 exact Ak9 h1 h2 hx.1 hr hk hk fun s3 b4 s5 W2 hE2 g1=>⟨s3,b4,s5,rfl,Ak9 (h1'.ext hE2) (h2.ext hE2) hx.2 hr hk hk fun s8 b9 s10 W7 hE7 g2=>⟨s8,b9,s10,rfl,Ap8 (g1.ext hE7) g2 (hx.1.mul hr) (hx.2.mul hr) (by omega) fun l W12 hE12 h12=>h12.out fun s13 b14 s15 s16 b17 s18 h12 W19 hE19=>⟨_,rfl,h12.ext hE19⟩⟩⟩
theorem Hu2 {W0 W:PW} {M:Nat→Prop} {l1:List Value} {s t:Sl} {b:Bool} {x:Iv} {r:Rat} {k:Nat} {K:Value→PW→Prop} (h1:SpV 240 W l1 x) (h2:Ab3 240 W s b t r) (hx:IvS k x) (hr:Sz k r) (hk:k≤8589934592) (kont: ∀(l:List Value) (W':PW),Ext W W'→(SpV 240 W' l (De8 x r))→K (.agg ⟨l⟩) W'):
  Aa1 Tryz.prog W0 M 45 [.agg ⟨l1⟩,.agg ⟨[s.v,.bool b,t.v]⟩] W K:=
 Aa2 (fun W' hE=>Hv0 (M:=fun _=>False) (h1.ext hE) (h2.ext hE) hx hr hk) (fun W' v W'' hE hE' hP=>by
  obtain⟨l,rfl,h⟩:=hP
  exact kont l W'' (hE.trans hE') h)
theorem Ep4 {W0:PW} {M:Nat→Prop} {s t:Sl} {b:Bool} {r:Rat} (h:Ab3 240 W0 s b t r):
  Aa0 Tryz.prog 163 [.agg ⟨[s.v,.bool b,t.v]⟩] W0 M fun v W'=>∃(l:List Value),v = .agg ⟨l⟩∧SpV 240 W' l (Eb6 r):=by
 apply Dk8
 exact fun W1 hE=>⟨_,rfl,SpV.mk (x:=Eb6 r) (h.ext hE) (h.ext hE)⟩
theorem De4 {W0 W:PW} {M:Nat→Prop} {s t:Sl} {b:Bool} {r:Rat} {K:Value→PW→Prop} (h:Ab3 240 W s b t r) (kont: ∀(l:List Value) (W':PW),Ext W W'→(SpV 240 W' l (Eb6 r))→K (.agg ⟨l⟩) W'):
  Aa1 Tryz.prog W0 M 163 [.agg ⟨[s.v,.bool b,t.v]⟩] W K:=
 Aa2 (fun W' hE=>Ep4 (M:=fun _=>False) (h.ext hE)) (fun W' v W'' hE hE' hP=>by
  obtain⟨l,rfl,h⟩:=hP
  exact kont l W'' (hE.trans hE') h)
theorem Dt0 {W0:PW} {M:Nat→Prop} {l1:List Value} {s t:Sl} {b:Bool} {x:Iv} {r:Rat} {k:Nat} (h1:SpV 240 W0 l1 x) (h2:Ab3 240 W0 s b t r) (hx:IvS k x) (hr:Sz k r) (hk:k≤8589934592):
  Aa0 Tryz.prog 200 [.agg ⟨l1⟩,.agg ⟨[s.v,.bool b,t.v]⟩] W0 M fun v W'=>v = .bool (decide (x.1≤r∧r≤x.2))∧True:=by
 obtain⟨s0,b0,t0,s1,b1,t1,rfl,h1,h1'⟩:=h1
 apply Cu8
 refine Aj2 h1 h2 hx.1 hr (by omega) (by omega) fun W2 hE2 _=>⟨_,rfl,fun h=>Aj2 (h2.ext hE2) (h1'.ext hE2) hr hx.2 (by omega) (by omega) fun W5 hE5 _=>⟨_,rfl,fun W7 hE7=>⟨?_,trivial⟩⟩,fun h W8 hE8=>⟨?_,trivial⟩⟩
 ·have h:=Dn3.1 h
  congr 1
  rw[decide_eq_decide,Dn3]
  exact⟨fun e=>⟨h,e⟩,fun e=>e.2⟩
 ·rw[decide_eq_false fun e=>h (Dn3.2 e.1)]
theorem Cs8 {W0 W:PW} {M:Nat→Prop} {l1:List Value} {s t:Sl} {b:Bool} {x:Iv} {r:Rat} {k:Nat} {K:Value→PW→Prop} (h1:SpV 240 W l1 x) (h2:Ab3 240 W s b t r) (hx:IvS k x) (hr:Sz k r) (hk:k≤8589934592) (kont: ∀(W':PW),Ext W W'→(True)→K (.bool (decide (x.1≤r∧r≤x.2))) W'):
  Aa1 Tryz.prog W0 M 200 [.agg ⟨l1⟩,.agg ⟨[s.v,.bool b,t.v]⟩] W K:=
 Aa2 (fun W' hE=>Dt0 (M:=fun _=>False) (h1.ext hE) (h2.ext hE) hx hr hk) (fun W' v W'' hE hE' hP=>by
  obtain⟨rfl,h⟩:=hP
  exact kont W'' (hE.trans hE') h)
theorem Du0 {W0:PW} {M:Nat→Prop} {l1:List Value} {x:Iv} {n k:Nat} (h1:SpV 240 W0 l1 x) (hx:IvS k x) (hk:k≤1048576) (hn:n≤255):
  Aa0 Tryz.prog 164 [.agg ⟨l1⟩,.int .i64 (n:Int)] W0 M fun v W'=>∃(l:List Value),v = .agg ⟨l⟩∧SpV 240 W' l (Ai3 x n):=by
 obtain⟨s0,b0,t0,s1,b1,t1,rfl,h1,h1'⟩:=h1
 apply Cz8
 have hm:=Nat.mul_le_mul hk hn
 have hmn:mn (mx (n:Int) 0) 255=(n:Int):=by unfold mn mx;(repeat' split)<;>omega
 unfold Da1
 rw[hmn]
 refine Bq4 h1 hx.1 hk hn fun s3 b4 s5 W2 hE2 g1=>⟨s3,b4,s5,rfl,Bq4 (h1'.ext hE2) hx.2 hk hn fun s8 b9 s10 W7 hE7 g2=>⟨s8,b9,s10,rfl,Ap8 (g1.ext hE7) g2 (Sz.Fe7 hx.1 n) (Sz.Fe7 hx.2 n) (by omega) fun l W12 hE12 h12=>h12.out fun s13 b14 s15 s16 b17 s18 h12=>⟨fun hpos=>⟨by omega,fun hev=>?_,fun hod W24 hE24=>⟨_,rfl,?_⟩⟩,fun h0 W25 hE25=>⟨_,rfl,?_⟩⟩⟩⟩
 ·have hev':n%2=0:=by have:=Int.tmod_eq_emod_of_nonneg (a:=(n:Int)) (b:=2) (by omega);omega
  have hE:=(hE2.trans hE7).trans hE12
  refine Cs8 (s:=⟨none,0,0⟩) (b:=false) (t:=⟨none,0,0⟩) (k:=k+1) (SpV.mk (h1.ext hE) (h1'.ext hE)) (Ar9 W12) ⟨hx.1.mono (by omega),hx.2.mono (by omega)⟩ (Sz.zero (by omega)) (by omega) fun W20 hE20 _=>⟨_,rfl,fun hb W22 hE22=>⟨_,rfl,?_⟩,fun hb W23 hE23=>⟨_,rfl,?_⟩⟩
  ·have hb:=of_decide_eq_true hb
   rw[Ai3,if_pos ⟨by omega,hev',hb⟩]
   obtain⟨_,_,_,_,_,_,e,k1,k2⟩:=h12.ext (hE20.trans hE22)
   simp only[List.cons.injEq,Value.bool.injEq,and_true] at e
   obtain⟨e1,e2,e3,e4,e5,e6⟩:=e
   have e4:=Sl.Ck0 e4
   have e6:=Sl.Ck0 e6
   subst e4 e5 e6
   exact⟨⟨none,0,0⟩,false,⟨none,0,0⟩,_,_,_,rfl,Ar9 _,k2⟩
  ·have hb:=of_decide_eq_false hb
   rw[Ai3,if_neg fun e=>hb e.2.2]
   exact h12.ext (hE20.trans hE23)
 ·rw[Ai3,if_neg]
  ·exact h12.ext hE24
  ·intro e
   apply hod
   have:=Int.tmod_eq_emod_of_nonneg (a:=(n:Int)) (b:=2) (by omega)
   have:=e.2.1
   omega
 ·rw[Ai3,if_neg fun e=>h0 (by have:=e.1;omega)]
  exact h12.ext hE25
theorem Co8 {W0 W:PW} {M:Nat→Prop} {l1:List Value} {x:Iv} {n k:Nat} {K:Value→PW→Prop} (h1:SpV 240 W l1 x) (hx:IvS k x) (hk:k≤1048576) (hn:n≤255) (kont: ∀(l:List Value) (W':PW),Ext W W'→(SpV 240 W' l (Ai3 x n))→K (.agg ⟨l⟩) W'):
  Aa1 Tryz.prog W0 M 164 [.agg ⟨l1⟩,.int .i64 (n:Int)] W K:=
 Aa2 (fun W' hE=>Du0 (M:=fun _=>False) (h1.ext hE) hx hk hn) (fun W' v W'' hE hE' hP=>by
  obtain⟨l,rfl,h⟩:=hP
  exact kont l W'' (hE.trans hE') h)
theorem Dt4 {W0:PW} {M:Nat→Prop} {s t s' t':Sl} {b b':Bool} {p q:Rat} {k:Nat} (h1:Ab3 240 W0 s b t p) (h2:Ab3 240 W0 s' b' t' q) (hp:Sz k p) (hq:Sz k q) (hk:k≤34359738368):
  Aa0 Tryz.prog 161 [.agg ⟨[s.v,.bool b,t.v]⟩,.agg ⟨[s'.v,.bool b',t'.v]⟩] W0 M fun v W'=>∃(l:List Value),v = .tuple ⟨[.agg ⟨l⟩,.bool (decide (p≤q))]⟩∧SpV 240 W' l (if p≤q then(p,q) else(0,0)):=by
 apply Ct1
 refine Aj2 h1 h2 hp hq hk hk fun W2 hE2 _=>⟨_,rfl,fun h W4 hE4=>?_,fun h W5 hE5=>?_⟩
 ·have h:=Al3.1 h
  have h':¬p≤q:=Rat.not_le.2 h
  rw[if_neg h',decide_eq_false h']
  exact⟨_,rfl,SpV.zero W4⟩
 ·have h':p≤q:=Rat.not_lt.1 fun e=>h (Al3.2 e)
  rw[if_pos h',decide_eq_true h']
  exact⟨_,rfl,SpV.mk (x:=(p,q)) (h1.ext (hE2.trans hE5)) (h2.ext (hE2.trans hE5))⟩
theorem Cq7 {W0 W:PW} {M:Nat→Prop} {s t s' t':Sl} {b b':Bool} {p q:Rat} {k:Nat} {K:Value→PW→Prop} (h1:Ab3 240 W s b t p) (h2:Ab3 240 W s' b' t' q) (hp:Sz k p) (hq:Sz k q) (hk:k≤34359738368) (kont: ∀(l:List Value) (W':PW),Ext W W'→(SpV 240 W' l (if p≤q then(p,q) else(0,0)))→K (.tuple ⟨[.agg ⟨l⟩,.bool (decide (p≤q))]⟩) W'):
  Aa1 Tryz.prog W0 M 161 [.agg ⟨[s.v,.bool b,t.v]⟩,.agg ⟨[s'.v,.bool b',t'.v]⟩] W K:=
 Aa2 (fun W' hE=>Dt4 (M:=fun _=>False) (h1.ext hE) (h2.ext hE) hp hq hk) (fun W' v W'' hE hE' hP=>by
  obtain⟨l,rfl,h⟩:=hP
  exact kont l W'' (hE.trans hE') h)
end Go.Proofs.YtahohahjnhfedaaGreat
