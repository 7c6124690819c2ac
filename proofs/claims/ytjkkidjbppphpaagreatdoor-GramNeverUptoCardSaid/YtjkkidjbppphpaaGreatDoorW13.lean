/- Values of sums, products and compositions. -/
import Derived.Test.YtjkkidjbppphpaaGreatDoorW10
import Derived.Test.YtjkkidjbppphpaaGreatDoorW9
import Derived.Test.YtjkkidjbppphpaaGreatDoorLib4
import Derived.Test.YtjkkidjbppphpaaGreatDoorW8
import Derived.Test.YtjkkidjbppphpaaGreatDoorR5
import Derived.Test.YtjkkidjbppphpaaGreatDoorW3
import Derived.Test.YtjkkidjbppphpaaGreatDoorLib2
import Derived.Test.YtjkkidjbppphpaaGreatDoorLib1
import Derived.Test.YtjkkidjbppphpaaGreatDoorW6
import Derived.Test.YtjkkidjbppphpaaGreatDoorR7
import Derived.Test.YtjkkidjbppphpaaGreatDoorR12
import Derived.Test.YtjkkidjbppphpaaGreatDoorW5
import Derived.Test.YtjkkidjbppphpaaGreatDoorLib3
import Derived.Test.YtjkkidjbppphpaaGreatDoorW7
import Derived.Test.YtjkkidjbppphpaaGreatDoorW12
import Derived.Test.YtjkkidjbppphpaaGreatDoorR19
import Derived.Test.YtjkkidjbppphpaaGreatDoorW11
set_option linter.unusedVariables false
set_option linter.unusedSimpArgs false
namespace Go.Proofs.YtjkkidjbppphpaaGreatDoor
open Go Go.SX
def evM (u:Pt) (m:Mon):Rat:=u.get 0^(An6 m 0).toNat*u.get 1^(An6 m 1).toNat*u.get 2^(An6 m 2).toNat
theorem Ha1 (t:Tm) (u:Pt):ctm t u 3=t.2*evM u t.1:=by
 simp only[ctm,evM,Rat.mul_assoc]
theorem Gf3 (u:Pt) (p:List Tm):atQ u p=lin (evM u) p:=by
 have key: ∀(p:List Tm) (a:Rat),p.foldl (fun a t=>a+ctm t u 3) a=a+lin (evM u) p:=by
  intro p
  induction p with
  | nil=>intro a;simp[lin,Rat.add_zero]
  | cons t r ih=>
   intro a
   rw[List.foldl_cons,ih,lin,Ha1,Rat.add_assoc]
 rw[atQ,key,Rat.zero_add]
theorem Gm0 (x:Rat) (a b:Nat):x^(a+b)=x^a*x^b:=by
 induction b with
 | zero=>simp[Rat.mul_one]
 | succ b ih=>rw[←Nat.add_assoc,Rat.pow_succ,Rat.pow_succ,ih,Rat.mul_assoc]
theorem Gy5 (u:Pt) {a b:Mon} (ha:a.ok) (hb:b.ok):evM u (a.add b)=evM u a*evM u b:=by
 have h: ∀k,(An6 (a.add b) k).toNat=(An6 a k).toNat+(An6 b k).toNat:=fun k=>by
  have h1:=(Dg9 ha k).1
  have h2:=(Dg9 hb k).1
  have e:An6 (a.add b) k=An6 a k+An6 b k:=by unfold An6 Mon.add;(repeat' split)<;>rfl
  omega
 unfold evM
 rw[h,h,h,Gm0,Gm0,Gm0]
 grind
theorem Gy8 {G:Mon→Rat} {a:Tm} {q:List Tm} (h: ∀b∈q,G (a.1.add b.1)=G a.1*G b.1):lin G (q.map fun b=>(a.1.add b.1,a.2*b.2))=a.2*G a.1*lin G q:=by
 induction q with
 | nil=>simp[lin,Rat.mul_zero]
 | cons b r ih=>
  rw[List.map_cons,lin,lin,ih fun x hx=>h x (by simp[hx])]
  dsimp only
  rw[h b (by simp)]
  grind
theorem Gu5 {G:Mon→Rat} {p q:List Tm} (h: ∀a∈p,∀b∈q,G (a.1.add b.1)=G a.1*G b.1):lin G (An8 p q)=lin G p*lin G q:=by
 induction p with
 | nil=>simp[An8,lin,Rat.zero_mul]
 | cons a r ih=>
  have e:An8 (a :: r) q=(q.map fun b=>(a.1.add b.1,a.2*b.2)) ++ An8 r q:=rfl
  rw[e,Gl3,Gy8 fun b hb=>h a (by simp) b hb,ih fun x hx b hb=>h x (by simp[hx]) b hb,lin]
  grind
theorem Gs0 (u:Pt) {p q:List Tm} (hp:POk p) (hq:POk q):atQ u (Ag2 (An8 p q))=atQ u p*atQ u q:=by
 rw[Gf3,Gf3,Gf3,Gi6,Gu5 fun a ha b hb=>Gy5 u (hp a ha) (hq b hb)]
theorem POk.Ff3 {p q:List Tm} (h:Ct4 p q):POk (Ag2 (An8 p q)):=POk.norm fun t ht=>by
 obtain⟨a,ha,hm⟩:=List.mem_flatMap.1 ht
 obtain⟨b,hb,rfl⟩:=List.mem_map.1 hm
 exact h a ha b hb
theorem Gx9 (u:Pt) (r:Rat):atQ u (cst r)=r:=by
 have h:evM u ⟨0,0,0⟩=1:=by
  unfold evM An6
  simp
 rw[Gf3,cst,Gi6,lin,lin,h,Rat.mul_one,Rat.add_zero]
end Go.Proofs.YtjkkidjbppphpaaGreatDoor
/- Values of sums, of multiples, of variables: plain law. -/
set_option maxRecDepth 100000
namespace Go.Proofs.YtjkkidjbppphpaaGreatDoor
open Go Go.SX
theorem Gw0 (u:Pt) (p q:List Tm):atQ u (p ++ q)=atQ u p+atQ u q:=by rw[Gf3,Gf3,Gf3,Gl3]
theorem Gy3 (u:Pt) (p:List Tm) (r:Rat):atQ u (pmap p r)=r*atQ u p:=by rw[Gf3,Gf3];exact Gs4 _ r p
theorem Gn5 (u:Pt) (p:List Tm):atQ u (Ag2 p)=atQ u p:=by rw[Gf3,Gf3,Gi6]
theorem Gz3 (u:Pt) {i:Nat} (hi:i<3):atQ u (Dc6 (i:Int))=u.get i:=by
 have e:Dc6 (i:Int) = [(Da3 i,1)]:=by unfold Dc6;rw[if_pos ⟨by omega,by omega⟩,Int.toNat_natCast]
 rw[e]
 show 0+1*u.get 0^(An6 (Da3 i) 0).toNat*u.get 1^(An6 (Da3 i) 1).toNat*u.get 2^(An6 (Da3 i) 2).toNat=u.get i
 rcases(by omega:i=0∨i=1∨i=2) with rfl | rfl | rfl
 ·show 0+1*u.get 0^1*u.get 1^0*u.get 2^0=u.get 0
  simp only[Rat.pow_zero,Rat.pow_succ]
  grind
 ·show 0+1*u.get 0^0*u.get 1^1*u.get 2^0=u.get 1
  simp only[Rat.pow_zero,Rat.pow_succ]
  grind
 ·show 0+1*u.get 0^0*u.get 1^0*u.get 2^1=u.get 2
  simp only[Rat.pow_zero,Rat.pow_succ]
  grind
end Go.Proofs.YtjkkidjbppphpaaGreatDoor
/- cincturelaw12.System: polynomials of texts. -/
namespace Go.Proofs.YtjkkidjbppphpaaGreatDoor
open Go Go.SX
abbrev Ps (W:PW) (s:Sl) (ps:List (List Tm)):Prop:=Gf4 284 165 W s ps
end Go.Proofs.YtjkkidjbppphpaaGreatDoor
/- mat: none, even, Right, One, Turn, Same; cincturelaw11.Shaped. -/
namespace Go.Proofs.YtjkkidjbppphpaaGreatDoor
open Go Go.SX
theorem Gy4 {t:TypeId} (W:PW) (c:Nat):Qs t W (List.replicate c [.slice none 0 0,.bool false,.slice none 0 0]) c (fun _=>0):=
 ⟨by simp,fun i hi=>⟨⟨none,0,0⟩,false,⟨none,0,0⟩,by simp[hi],Ar9 W⟩⟩
def Ha8 (n0:Nat) (W0:PW) (r c:Nat) (l:List PL) (W:PW):Prop:=
 match l with
 | [.val (.int .i64 i),.row l3]=>Ext W0 W∧∃(k:Nat) (ss:List Sl),i=(k:Int)∧k≤r∧ss.length=k∧l3=(ss.map fun x=>[x.v]) ++ List.replicate (r-k) [.slice none 0 0]∧
   (∀i (h:i<ss.length),∃xs,Go.SX.Own W 40 3 ss[i] xs∧Qs 284 W xs c (fun _=>0)∧∀g,ss[i].v.ownBlock=some g→n0≤g)∧
   ∀i j (hi:i<ss.length) (hj:j<ss.length),i≠j→∀g,ss[i].v.ownBlock=some g→ss[j].v.ownBlock≠some g
 | _=>False
def Ha5 (r:Nat) (l:List PL) (W:PW):Nat:=
 match l with
 | [.val (.int .i64 i),_]=>r-i.toNat
 | _=>0
theorem Gt9 {W0:PW} {M:Nat→Prop} {n0 r c:Nat} (hn:Gf6 n0 W0) (hr:r≤1048576) (hc:c≤1048576):
  Aa0 Tryz.prog 179 [.int .i64 (r:Int),.int .i64 (c:Int)] W0 M fun v W'=>∃(s':Sl),v=Sl.v s'∧Gl4 284 40 94 (n0≤·) W' s' r c (fun _ _=>0):=by
 apply Gn9
 refine⟨⟨rfl,by omega,by omega⟩,Ha8 n0 W0 r c,Ha5 r,⟨Ext.refl _,0,[],rfl,Nat.zero_le _,rfl,by simp,fun i h=>by simp at h,fun i j h=>by simp at h⟩,?_⟩
 rintro l3 i4 W5 ⟨hE5,k,ss,rfl,hk,hl,rfl,h3,h4⟩
 rw[List.length_replicate,show Int.toNat (r:Int)=r from rfl,show Int.toNat (c:Int)=c from rfl,show Int.toNat (k:Int)=k from rfl]
 have hlen:((ss.map fun x=>[x.v]) ++ List.replicate (r-k) [Value.slice none 0 0]).length=r:=by simp;omega
 refine⟨fun hlt=>⟨⟨rfl,by omega,by omega⟩,⟨by omega,by rw[hlen];omega⟩,fun s6 W7 hE7 hO hf=>⟨by rw[hlen];omega,by unfold I64;omega,⟨hE5.trans hE7,k+1,ss ++ [s6],by push_cast;rfl,by omega,by simp[hl],?_,?_,?_⟩,?_⟩⟩,fun hge s9 W10 hE10 hO hf W12 hE12=>⟨s9,rfl,?_⟩⟩
 ·rw[List.set_append_right _ _ (by simp[hl])]
  simp only[List.length_map,hl,Nat.sub_self,List.map_append,List.map_cons,List.map_nil]
  rw[show r-k=(r-(k+1))+1 by omega,List.replicate_succ,List.set_cons_zero]
  simp
 ·intro i h
  by_cases e:i<ss.length
  ·obtain⟨xs,k1,k2,k3⟩:=h3 i e
   rw[List.getElem_append_left e]
   exact⟨xs,k1.ext hE7,k2.ext hE7,k3⟩
  ·have:i=ss.length:=by simp at h;omega
   subst this
   rw[List.getElem_concat_length rfl]
   refine⟨_,hO,Gy4 W7 c,fun g hg=>?_⟩
   exact Nat.le_trans hn (hf g hg).1
 ·have key: ∀i (hi:i<ss.length) g,s6.v.ownBlock=some g→ss[i].v.ownBlock≠some g:=by
   intro i hi g hg hg'
   obtain⟨xs,k1,k2,k3⟩:=h3 i hi
   by_cases hx:xs = []
   ·have hn:=k1.n
    subst hx
    have h6:=hO.n
    rcases k1.1.2.2 with⟨hv,_⟩ | ⟨g1,cap,cur,hv,_,hh,_⟩
    ·rw[hv] at hg'
     simp[Value.ownBlock] at hg'
    ·have hgg:ss[i].v.ownBlock=some g1:=by rw[hv];rfl
     rw[hg'] at hgg
     cases hgg
     exact k1.2 g hg' ((hf g hg).2 (Array.getElem?_eq_some_iff.1 hh).1)
   ·obtain⟨g1,cs,_,hg1,hS,hh,_⟩:=k1.at hx
    rw[hg'] at hg1
    cases hg1
    exact hS ((hf g hg).2 (Array.getElem?_eq_some_iff.1 hh).1)
  intro i j hi hj hne g hg hg'
  simp only[List.length_append,List.length_cons,List.length_nil] at hi hj
  by_cases ei:i<ss.length
  ·rw[List.getElem_append_left ei] at hg
   by_cases ej:j<ss.length
   ·rw[List.getElem_append_left ej] at hg'
    exact h4 i j ei ej hne g hg hg'
   ·have:j=ss.length:=by omega
    subst this
    rw[List.getElem_concat_length rfl] at hg'
    exact key i ei g hg' hg
  ·have:i=ss.length:=by omega
   subst this
   rw[List.getElem_concat_length rfl] at hg
   rw[List.getElem_append_left (by omega)] at hg'
   exact key j (by omega) g hg hg'
 ·show r-Int.toNat ((k:Int)+1)<r-Int.toNat (k:Int)
  omega
 ·have hkr:k=r:=by omega
  subst hkr
  rw[Nat.sub_self,List.replicate_zero,List.append_nil] at hO
  exact⟨ss,hl,(hO.ext hE12).row,fun i hi=>let⟨xs,k1,k2,k3⟩:=h3 i hi;⟨xs,(k1.ext hE10).ext hE12,(k2.ext hE10).ext hE12,k3⟩,h4⟩
theorem Gp0 {W0 W:PW} {M:Nat→Prop} {n0 r c:Nat} {K:Value→PW→Prop} (hn:Gf6 n0 W) (hr:r≤1048576) (hc:c≤1048576) (kont: ∀(s':Sl) (W':PW),Ext W W'→(Gl4 284 40 94 (n0≤·) W' s' r c (fun _ _=>0))→K (Sl.v s') W'):
  Aa1 Tryz.prog W0 M 179 [.int .i64 (r:Int),.int .i64 (c:Int)] W K:=
 Aa2 (fun W' hE=>Gt9 (M:=fun _=>False) (hn.ext hE) hr hc) (fun W' v W'' hE hE' hP=>by
  obtain⟨s',rfl,h⟩:=hP
  exact kont s' W'' (hE.trans hE') h)
def Gf8 (r:Nat) (c:Nat→Nat):Prop:=(∀i,i<r→c i=c 0)∧1≤r∧r≤12∧1≤c 0∧c 0≤12
theorem Gt0 {W0:PW} {M:Nat→Prop} {s:Sl} {r:Nat} {c:Nat→Nat} {m:Nat→Nat→Rat} (h:Gf9 284 40 94 W0 s r c m) (hr:r≤1099511627776):
  Aa0 Tryz.prog 229 [s.v] W0 M fun v W'=>∃(b:Bool),v = .bool b∧(b=true↔Gf8 r c):=by
 apply Gg2
 have hn:=h.n
 refine⟨fun l W=>match l with | [.val (.int .i64 i)]=>Ext W0 W∧∃k:Nat,i=(k:Int)∧k≤r∧∀i,i<k→c i=c 0 | _=>False,fun l _=>match l with | [.val (.int .i64 i)]=>r-i.toNat | _=>0,⟨Ext.refl _,0,rfl,Nat.zero_le _,fun i h=>(by omega)⟩,?_⟩
 rintro i3 W4 ⟨hE4,k,rfl,hk,hck⟩
 have h4:=h.ext hE4
 refine⟨fun hlt=>?_,fun hge=>⟨fun h1=>⟨fun h12=>?_,fun h12=>fun W14 _=>⟨false,rfl,?_⟩⟩,fun h1=>fun W21 _=>⟨false,rfl,?_⟩⟩⟩
 ·obtain⟨x,e1,e2⟩:=h4.at (i:=k) (by omega)
  obtain⟨y,f1,f2⟩:=h4.at (i:=0) (by omega)
  have n1:=e2.n
  have n2:=f2.n
  refine⟨h4.inB (by omega) (by omega),x,e1,h4.inB (by omega) (by omega),y,f1,fun hne W7 _=>⟨false,rfl,?_⟩,fun heq=>⟨by unfold I64;omega,⟨hE4,k+1,by push_cast;rfl,by omega,fun i hi=>?_⟩,?_⟩⟩
  ·refine⟨fun h=>(by cases h),fun h=>?_⟩
   have:=h.1 k (by omega)
   omega
  ·by_cases e:i=k
   ·subst e;omega
   ·exact hck i (by omega)
  ·show r-Int.toNat ((k:Int)+1)<r-Int.toNat (k:Int)
   omega
 ·have hkr:k=r:=by omega
  obtain⟨y,f1,f2⟩:=h4.at (i:=0) (by omega)
  have n2:=f2.n
  have ib:=h4.inB (i:=0) (by omega) (by omega)
  refine⟨ib,y,f1,fun hy=>⟨ib,y,f1,fun W10 _=>⟨_,rfl,?_⟩⟩,fun hy W11 _=>⟨false,rfl,?_⟩⟩
  ·rw[decide_eq_true_iff]
   exact⟨fun h=>⟨fun i hi=>hck i (by omega),by omega,by omega,by omega,by omega⟩,fun h=>by have:=h.2.2.2.2;omega⟩
  ·refine⟨fun h=>(by cases h),fun h=>?_⟩
   have:=h.2.2.2.1
   omega
 ·refine⟨fun h=>(by cases h),fun h=>?_⟩
  have:=h.2.2.1
  omega
 ·refine⟨fun h=>(by cases h),fun h=>?_⟩
  have:=h.2.1
  omega
theorem Go6 {W0 W:PW} {M:Nat→Prop} {s:Sl} {r:Nat} {c:Nat→Nat} {m:Nat→Nat→Rat} {K:Value→PW→Prop} (h:Gf9 284 40 94 W s r c m) (hr:r≤1099511627776) (kont: ∀(b:Bool) (W':PW),Ext W W'→((b=true↔Gf8 r c))→K (.bool b) W'):
  Aa1 Tryz.prog W0 M 229 [s.v] W K:=
 Aa2 (fun W' hE=>Gt0 (M:=fun _=>False) (h.ext hE) hr) (fun W' v W'' hE hE' hP=>by
  obtain⟨b,rfl,h⟩:=hP
  exact kont b W'' (hE.trans hE') h)
theorem Gr7 {W0:PW} {M:Nat→Prop} {s:Sl} {r:Nat} {c:Nat→Nat} {m:Nat→Nat→Rat} (h:Gf9 284 40 94 W0 s r c m) (hr:r≤1099511627776):
  Aa0 Tryz.prog 180 [s.v] W0 M fun v W'=>∃(b:Bool),v = .bool b∧(b=true↔Gf8 r c):=by
 apply Gm1
 exact Go6 h hr fun b W2 hE2 hb=>⟨b,rfl,fun W4 hE4=>⟨b,rfl,hb⟩⟩
theorem Gn0 {W0 W:PW} {M:Nat→Prop} {s:Sl} {r:Nat} {c:Nat→Nat} {m:Nat→Nat→Rat} {K:Value→PW→Prop} (h:Gf9 284 40 94 W s r c m) (hr:r≤1099511627776) (kont: ∀(b:Bool) (W':PW),Ext W W'→((b=true↔Gf8 r c))→K (.bool b) W'):
  Aa1 Tryz.prog W0 M 180 [s.v] W K:=
 Aa2 (fun W' hE=>Gr7 (M:=fun _=>False) (h.ext hE) hr) (fun W' v W'' hE hE' hP=>by
  obtain⟨b,rfl,h⟩:=hP
  exact kont b W'' (hE.trans hE') h)
end Go.Proofs.YtjkkidjbppphpaaGreatDoor
/- cinctureref1: MatRight, square, rows, One, Ldl, Semi; ldl.Semi. -/
namespace Go.Proofs.YtjkkidjbppphpaaGreatDoor
open Go Go.SX
end Go.Proofs.YtjkkidjbppphpaaGreatDoor
/- gram.Form, cinctureref1.Form. -/
namespace Go.Proofs.YtjkkidjbppphpaaGreatDoor
open Go Go.SX
def Gx5 (q:Nat→List Tm) (m:Nat→Nat→Rat) (i k:Nat) (a:Option (List Tm)):Option (List Tm):=match a with
 | none=>none
 | some a=>if Ct4 (q i) (q k) then some (Ag2 (a ++ Ag2 (pmap (Ag2 (An8 (q i) (q k))) (m i k)))) else none
def Gh9 (q:Nat→List Tm) (m:Nat→Nat→Rat) (i:Nat) (a:Option (List Tm)):Nat→Option (List Tm)
 | 0=>a
 | k+1=>Gx5 q m i k (Gh9 q m i a k)
def Gg7 (q:Nat→List Tm) (m:Nat→Nat→Rat) (n:Nat):Nat→Option (List Tm)
 | 0=>some []
 | i+1=>Gh9 q m i (Gg7 q m n i) n
theorem Gh0 {q:Nat→List Tm} {m:Nat→Nat→Rat} {i:Nat} {a:Option (List Tm)} {k:Nat} (h:Gh9 q m i a k=none): ∀n,k≤n→Gh9 q m i a n=none
 | 0,hk=>by
  have:k=0:=by omega
  subst this
  exact h
 | n+1,hk=>by
  by_cases e:k=n+1
  ·subst e;exact h
  ·rw[Gh9,Gh0 h n (by omega)]
   rfl
theorem Gl1 {q:Nat→List Tm} {m:Nat→Nat→Rat} {n i:Nat} (h:Gg7 q m n i=none): ∀j,i≤j→Gg7 q m n j=none
 | 0,hj=>by
  have:i=0:=by omega
  subst this
  exact h
 | j+1,hj=>by
  by_cases e:i=j+1
  ·subst e;exact h
  ·rw[Gg7,Gl1 h j (by omega)]
   exact Gh0 (k:=0) rfl n (Nat.zero_le _)
def qat (ps:List (List Tm)) (i:Nat):List Tm:=ps.getD i []
def Go9 (ps:List (List Tm)) (r:Nat) (c:Nat→Nat):Prop:=Gf8 r c∧c 0=r∧ps.length=r
noncomputable def Gi1 (ps:List (List Tm)) (r:Nat) (c:Nat→Nat) (m:Nat→Nat→Rat):Option (List Tm):=by
 classical exact if Go9 ps r c then Gg7 (qat ps) m ps.length ps.length else none
theorem Gi8 {ps:List (List Tm)} {r:Nat} {c:Nat→Nat} {m:Nat→Nat→Rat} (h:¬Go9 ps r c):Gi1 ps r c m=none:=by unfold Gi1;rw[if_neg h]
theorem Gg1 {ps:List (List Tm)} {r:Nat} {c:Nat→Nat} {m:Nat→Nat→Rat} (h:Go9 ps r c):Gi1 ps r c m=Gg7 (qat ps) m ps.length ps.length:=by unfold Gi1;rw[if_pos h]
theorem Gs6 {ps:List (List Tm)} {i:Nat} (h:i<ps.length):qat ps i=ps[i]:=by unfold qat;rw[List.getD_eq_getElem?_getD,List.getElem?_eq_getElem h];rfl
def cmb:Nat→Nat:=fun t=>1+t*116070
theorem Gw7 (t:Nat):cmb (t+1)=cmb t+116070:=by unfold cmb;omega
theorem Gz0 {n i k:Nat} (hn:n≤5) (hi:i<n) (hk:k≤n):cmb (i*n+k)≤3000000:=by
 unfold cmb
 have h1:i*n≤4*5:=Nat.mul_le_mul (by omega) hn
 have h2:=Nat.mul_le_mul_right 116070 (show i*n+k≤25 by omega)
 omega
def foO (W0:PW) (ps:List (List Tm)) (m:Nat→Nat→Rat) (L:List PL) (W:PW):Prop:=match L with
 | [.val (.int .i64 i),_,.cells [.slice A n c]]=>∃(j:Nat) (a:List Tm),i=(j:Int)∧j≤ps.length∧Ext W0 W∧Gg7 (qat ps) m ps.length j=some a∧Ab0 284 165 W ⟨A,n,c⟩ a∧Bd (cmb (j*ps.length)) a∧Av6 a
 | _=>False
def foI (W0:PW) (ps:List (List Tm)) (m:Nat→Nat→Rat) (j:Nat) (a0:List Tm) (L:List PL) (W:PW):Prop:=match L with
 | [.val (.int .i64 i),_,.cells [.slice A n c]]=>∃(k:Nat) (a:List Tm),i=(k:Int)∧k≤ps.length∧Ext W0 W∧Gh9 (qat ps) m j (some a0) k=some a∧Ab0 284 165 W ⟨A,n,c⟩ a∧Bd (cmb (j*ps.length+k)) a∧Av6 a
 | _=>False
structure Gy2 (ps:List (List Tm)):Prop where
 bd: ∀q∈ps,Bd 56029 q∧q.length≤14
 len:ps.length≤5
theorem Gq2 {W0:PW} {M:Nat→Prop} {s sm:Sl} {ps:List (List Tm)} {r:Nat} {c:Nat→Nat} {m:Nat→Nat→Rat} (h:Ps W0 s ps) (hm:Gf9 284 40 94 W0 sm r c m) (hp:Gy2 ps) (hr:r≤1099511627776) (hz: ∀i j,Sz 4001 (m i j)):
  Aa0 Tryz.prog 102 [s.v,sm.v] W0 M fun v W'=>∃(s':Sl),v = .tuple ⟨[.agg ⟨[Sl.v s']⟩,.bool (Gi1 ps r c m).isSome]⟩∧Ab0 284 165 W' s' ((Gi1 ps r c m).getD []):=by
 apply Gm6
 have hn:=h.n
 have hmn:=hm.n
 have h4:=hp.len
 have bad:Gi1 ps r c m=none→∀W':PW,∃s':Sl,(Value.tuple ⟨[.agg ⟨[.slice none 0 0]⟩,.bool false]⟩) = .tuple ⟨[.agg ⟨[Sl.v s']⟩,.bool (Gi1 ps r c m).isSome]⟩∧Ab0 284 165 W' s' ((Gi1 ps r c m).getD []):=fun hb W'=>by rw[hb];exact⟨⟨none,0,0⟩,rfl,Ab0.nil W'⟩
 refine Gn0 hm hr fun b3 W2 hE2 hR=>⟨b3,rfl,fun hno W4 _=>bad (Gi8 fun hF=>?_) W4,fun hyes=>?_⟩
 ·have:=hR.2 hF.1
  rw[this] at hno
  cases hno
 have hRP:Gf8 r c:=hR.1 (by simpa using hyes)
 have hr1:=hRP.2.1
 obtain⟨x0,hx0,hq0⟩:=(hm.ext hE2).at (i:=0) (by omega)
 have hn0:=hq0.n
 refine⟨(hm.ext hE2).inB (by omega) (by omega),x0,hx0,fun hne W6 _=>bad (Gi8 fun hF=>?_) W6,fun hsq=>⟨fun hne W7 _=>bad (Gi8 fun hF=>?_) W7,fun hlen=>?_⟩⟩
 ·have:=hF.2.1
  omega
 ·have:=hF.2.2
  omega
 have hF:Go9 ps r c:=⟨hRP,by omega,by omega⟩
 refine⟨foO W0 ps m,fun L _=>match L with | [.val (.int .i64 i),_,_]=>ps.length-i.toNat | _=>0,⟨0,[],rfl,Nat.zero_le _,hE2,rfl,Ab0.nil W2,⟨1,0,trivial,by decide,by rw[Ax0];simp[cmb],by rw[Ag9];exact Nat.zero_le _⟩,Av6.nil⟩,?_⟩
 rintro s10 s11 i12 W13 ⟨j,a0,rfl,hj,hE13,ha0,hP0,hB0,hG0⟩
 refine⟨fun hlt=>?_,fun hge W37 hE37=>⟨s11,?_,?_⟩⟩
 ·have hjl:j<ps.length:=by omega
  obtain⟨x,hx,hxp⟩:=(h.ext hE13).at hjl
  refine⟨(h.ext hE13).inB (by omega) (by omega),x,hx,?_⟩
  refine⟨foI W13 ps m j a0,fun L _=>match L with | [.val (.int .i64 i),_,_]=>ps.length-i.toNat | _=>0,⟨0,a0,rfl,Nat.zero_le _,Ext.refl _,rfl,hP0,hB0,hG0⟩,?_⟩
  rintro s17 s18 i19 W20 ⟨k,a,rfl,hk,hE20,ha,hP,hB,hG⟩
  have hP:Ab0 284 165 W20 s18 a:=hP
  refine⟨fun hltk=>?_,fun hgek=>⟨by unfold I64;omega,⟨j+1,a,by push_cast;rfl,by omega,hE13.trans hE20,?_,hP,?_,hG⟩,?_⟩⟩
  ·have hkl:k<ps.length:=by omega
   have hE0:=hE13.trans hE20
   obtain⟨y,hy,hyp⟩:=(h.ext hE0).at hkl
   have m1:=hp.bd _ (List.getElem_mem hjl)
   have m2:=hp.bd _ (List.getElem_mem hkl)
   refine⟨(h.ext hE0).inB (by omega) (by omega),y,hy,Ct0 (hxp.ext hE20) hyp m1.1 m2.1 (by omega) (by omega) (by omega) (by have:=Nat.mul_le_mul m1.2 m2.2;omega) fun s24 W23 hE23 h23=>⟨s24,_,rfl,fun hno W26 _=>bad ?_ W26,fun hyes=>?_⟩⟩
   ·have hM:¬Ct4 ps[j] ps[k]:=by simpa using hno
    rw[Gg1 hF]
    refine Gl1 (i:=j+1) ?_ _ hjl
    rw[Gg7,ha0]
    refine Gh0 (k:=k+1) ?_ _ hkl
    rw[Gh9,ha,Gx5,Gs6 hjl,Gs6 hkl]
    rw[if_neg hM]
   ·have hM:Ct4 ps[j] ps[k]:=by simpa using hyes
    rw[Gn4 hM] at h23
    have hpl:(Ag2 (An8 ps[j] ps[k])).length≤196:=by have:=El2 (An8 ps[j] ps[k]);rw[Eb1] at this;have:=Nat.mul_le_mul m1.2 m2.2;omega
    have hpb:=(m1.1.Ff3 m2.1).norm
    have hmE:=hm.ext (hE0.trans hE23)
    obtain⟨z,hz1,hz2⟩:=hmE.at (i:=j) (by omega)
    have hck:k<c j:=by rw[hRP.1 j (by omega)];omega
    obtain⟨s1,b1,s2,e1,e2⟩:=hz2.at hck
    have hzb:Bd (56029+56029+4001) (pmap (Ag2 (An8 ps[j] ps[k])) (m j k)):=Bd.pmap hpb (hz j k)
    have hzl:=Ew2 (Ag2 (An8 ps[j] ps[k])) (m j k)
    have hzl2:=El2 (pmap (Ag2 (An8 ps[j] ps[k])) (m j k))
    have hal:=Av6.len hG hP.ok
    have hcm:=Gz0 h4 hjl (Nat.le_of_lt hkl)
    refine⟨hmE.inB (by omega) (by omega),z,hz1,hz2.inB (by omega) (by omega),s1,b1,s2,e1,Cb0 h23 e2 hpb (hz j k) (by omega) (by omega) (by omega) fun s33 W32 hE32 h32=>⟨s33,rfl,hE32,?_⟩⟩
    refine Cw8 (k:=3000000) (hP.ext (hE23.trans hE32)) h32 (hB.mono hcm) (hzb.norm.mono (by omega)) (by omega) (by omega) (by omega) fun s36 W35 hE35 h35=>⟨s36,rfl,hE35,by unfold I64;omega,⟨k+1,Ag2 (a ++ Ag2 (pmap (Ag2 (An8 ps[j] ps[k])) (m j k))),by push_cast;rfl,by omega,hE20.trans (hE23.trans (hE32.trans hE35)),?_,h35,?_,Ce8 _⟩,?_⟩
    ·rw[Gh9,ha,Gx5,Gs6 hjl,Gs6 hkl]
     rw[if_pos hM]
    ·refine(hB.append hzb.norm).norm.mono ?_
     rw[show j*ps.length+(k+1)=(j*ps.length+k)+1 by omega,Gw7]
     omega
    ·show ps.length-Int.toNat ((k:Int)+1)<ps.length-Int.toNat (k:Int)
     omega
  ·have:k=ps.length:=by omega
   subst this
   rw[Gg7,ha0]
   exact ha
  ·have:k=ps.length:=by omega
   subst this
   rw[Nat.add_mul,Nat.one_mul]
   exact hB
  ·show ps.length-Int.toNat ((j:Int)+1)<ps.length-Int.toNat (j:Int)
   omega
 ·have:j=ps.length:=by omega
  subst this
  rw[Gg1 hF,ha0]
  rfl
 ·have:j=ps.length:=by omega
  subst this
  rw[Gg1 hF,ha0]
  exact Ab0.ext hP0 hE37
theorem Gm3 {W0 W:PW} {M:Nat→Prop} {s sm:Sl} {ps:List (List Tm)} {r:Nat} {c:Nat→Nat} {m:Nat→Nat→Rat} {K:Value→PW→Prop} (h:Ps W s ps) (hm:Gf9 284 40 94 W sm r c m) (hp:Gy2 ps) (hr:r≤1099511627776) (hz: ∀i j,Sz 4001 (m i j)) (kont: ∀(s':Sl) (W':PW),Ext W W'→(Ab0 284 165 W' s' ((Gi1 ps r c m).getD []))→K (.tuple ⟨[.agg ⟨[Sl.v s']⟩,.bool (Gi1 ps r c m).isSome]⟩) W'):
  Aa1 Tryz.prog W0 M 102 [s.v,sm.v] W K:=
 Aa2 (fun W' hE=>Gq2 (M:=fun _=>False) (h.ext hE) (hm.ext hE) hp hr hz) (fun W' v W'' hE hE' hP=>by
  obtain⟨s',rfl,h⟩:=hP
  exact kont s' W'' (hE.trans hE') h)
end Go.Proofs.YtjkkidjbppphpaaGreatDoor
/- Tables of texts: mat.Parse, cincturelaw14.even, alive. -/
namespace Go.Proofs.YtjkkidjbppphpaaGreatDoor
open Go Go.SX
def tw (T:List (List ByteArray)) (i:Nat):Nat:=(T[i]?.getD []).length
theorem Gt2 {T:List (List ByteArray)} {i:Nat} (h:i<T.length):tw T i=T[i].length:=by
 unfold tw
 rw[List.getElem?_eq_getElem h];rfl
def txt (T:List (List ByteArray)) (i j:Nat):ByteArray:=(T[i]?.getD [])[j]?.getD ⟨⟨[]⟩⟩
theorem Gz2 {T:List (List ByteArray)} {i j:Nat} (h:i<T.length) (hj:j<T[i].length):txt T i j=T[i][j]:=by
 unfold txt
 rw[List.getElem?_eq_getElem h]
 simp[hj]
theorem Gw2 {W0:PW} {M:Nat→Prop} {s:Sl} {T:List (List ByteArray)} (h:Go3 W0 s T) (hr:T.length≤1099511627776):
  Aa0 Tryz.prog 178 [s.v] W0 M fun v W'=>∃(b:Bool),v = .bool b∧(b=true↔Gf8 T.length (tw T)):=by
 apply Gg3
 have hn:=h.n
 refine⟨fun l W=>match l with | [.val (.int .i64 i)]=>Ext W0 W∧∃k:Nat,i=(k:Int)∧k≤T.length∧∀i,i<k→tw T i=tw T 0 | _=>False,fun l _=>match l with | [.val (.int .i64 i)]=>T.length-i.toNat | _=>0,⟨Ext.refl _,0,rfl,Nat.zero_le _,fun i h=>(by omega)⟩,?_⟩
 rintro i3 W4 ⟨hE4,k,rfl,hk,hck⟩
 have h4:=h.ext hE4
 refine⟨fun hlt=>?_,fun hge=>⟨fun h1=>⟨fun h12=>?_,fun h12=>fun W14 _=>⟨false,rfl,?_⟩⟩,fun h1=>fun W21 _=>⟨false,rfl,?_⟩⟩⟩
 ·obtain⟨x,e1,e2⟩:=h4.at (i:=k) (by omega)
  obtain⟨y,f1,f2⟩:=h4.at (i:=0) (by omega)
  have n1:=e2.nt.trans (Gt2 (by omega)).symm
  have n2:=f2.nt.trans (Gt2 (by omega)).symm
  refine⟨h4.inB (by omega) (by omega),x,e1,h4.inB (by omega) (by omega),y,f1,fun hne W7 _=>⟨false,rfl,?_⟩,fun heq=>⟨by unfold I64;omega,⟨hE4,k+1,by push_cast;rfl,by omega,fun i hi=>?_⟩,?_⟩⟩
  ·refine⟨fun h=>(by cases h),fun h=>?_⟩
   have:=h.1 k (by omega)
   omega
  ·by_cases e:i=k
   ·subst e;omega
   ·exact hck i (by omega)
  ·show T.length-Int.toNat ((k:Int)+1)<T.length-Int.toNat (k:Int)
   omega
 ·have hkr:k=T.length:=by omega
  obtain⟨y,f1,f2⟩:=h4.at (i:=0) (by omega)
  have n2:=f2.nt.trans (Gt2 (by omega)).symm
  have ib:=h4.inB (i:=0) (by omega) (by omega)
  refine⟨ib,y,f1,fun hy=>⟨ib,y,f1,fun W10 _=>⟨_,rfl,?_⟩⟩,fun hy W11 _=>⟨false,rfl,?_⟩⟩
  ·rw[decide_eq_true_iff]
   exact⟨fun h=>⟨fun i hi=>hck i (by omega),by omega,by omega,by omega,by omega⟩,fun h=>by have:=h.2.2.2.2;omega⟩
  ·refine⟨fun h=>(by cases h),fun h=>?_⟩
   have:=h.2.2.2.1
   omega
 ·refine⟨fun h=>(by cases h),fun h=>?_⟩
  have:=h.2.2.1
  omega
 ·refine⟨fun h=>(by cases h),fun h=>?_⟩
  have:=h.2.1
  omega
theorem Gr8 {W0 W:PW} {M:Nat→Prop} {s:Sl} {T:List (List ByteArray)} {K:Value→PW→Prop} (h:Go3 W s T) (hr:T.length≤1099511627776) (kont: ∀(b:Bool) (W':PW),Ext W W'→((b=true↔Gf8 T.length (tw T)))→K (.bool b) W'):
  Aa1 Tryz.prog W0 M 178 [s.v] W K:=
 Aa2 (fun W' hE=>Gw2 (M:=fun _=>False) (h.ext hE) hr) (fun W' v W'' hE hE' hP=>by
  obtain⟨b,rfl,h⟩:=hP
  exact kont b W'' (hE.trans hE') h)
theorem Gq8 {W0:PW} {M:Nat→Prop} {n0:Nat} {s:Sl} {T:List (List ByteArray)} (hn:Gf6 n0 W0) (h:Go3 W0 s T) (hr:T.length≤1099511627776) (ht: ∀i j,(txt T i j).size≤1099511627776):
  Aa0 Tryz.prog 101 [s.v] W0 M fun v W'=>∃(s':Sl),∃(e:Int),v = .tuple #[Sl.v s',.int .i64 e]∧(e=0→Gf8 T.length (tw T)∧Gl4 284 40 94 (n0≤·) W' s' T.length (tw T 0) (fun i j=>(Ab7 (txt T i j)).getD 0))∧(e≠0→¬(Gf8 T.length (tw T)∧∀i j,i<T.length→j<tw T i→(Ab7 (txt T i j)).isSome=true)):=by
 apply Gn6
 have hsn:=h.n
 refine Gr8 h hr fun b W2 hE2 hb=>⟨b,rfl,fun hf W4 _=>⟨⟨none,0,0⟩,1,rfl,fun h=>(by cases h),fun _ h=>?_⟩,fun ht'=>?_⟩
 ·rw[hb.2 h.1] at hf;cases hf
 have hbt:b=true:=by simpa using ht'
 have hR:=hb.1 hbt
 have hR':=hR
 obtain⟨hc,hr1,hr12,hc1,hc12⟩:=hR'
 have h2:=h.ext hE2
 obtain⟨y,f1,f2⟩:=h2.at (i:=0) (by omega)
 have ny:=f2.nt.trans (Gt2 (by omega)).symm
 refine⟨h2.inB (by omega) (by omega),y,f1,?_⟩
 rw[ny,hsn]
 obtain⟨n1,hn1⟩: ∃n1,W2.w.heap.size=n1:=⟨_,rfl⟩
 have hle:W2.w.heap.size≤n1:=by omega
 have hn1':Gf6 n1 W2:=by unfold Gf6;omega
 have h01:W0.w.heap.size≤n1:=Nat.le_trans hE2.size hle
 refine Gp0 hn1' (by omega) (by omega) fun s8 W7 hE7 h8=>⟨s8,rfl,?_⟩
 refine⟨fun l W=>match l with | [.val (.int .i64 i)]=>∃k:Nat,i=(k:Int)∧k≤T.length∧Eo1 n1 W2 W∧Gl4 284 40 94 (n1≤·) W s8 T.length (tw T 0) (fun a b=>if a<k then(Ab7 (txt T a b)).getD 0 else 0) | _=>False,fun l _=>match l with | [.val (.int .i64 i)]=>T.length-i.toNat | _=>0,⟨0,rfl,Nat.zero_le _,hE7.toM _,h8.congr fun i j _ _=>by simp⟩,?_⟩
 rintro i11 W12 ⟨k,rfl,hk,hE12,h12⟩
 refine⟨fun hlt=>?_,fun hge W28 hE28=>⟨s8,0,rfl,fun _=>⟨hR,?_⟩,fun h=>absurd rfl h⟩⟩
 ·have hkr:k<T.length:=by omega
  obtain⟨x,e1,e2⟩:=h2.at (i:=k) hkr
  have nx:=e2.nt.trans (Gt2 hkr).symm
  have hck:=hc k hkr
  have hkt:=Gt2 hkr
  refine⟨(h2.new hE12 hle).inB (by omega) (by omega),x,e1.new hE12 hle,?_⟩
  refine⟨fun l W=>match l with | [.val (.int .i64 i)]=>∃l:Nat,i=(l:Int)∧l≤tw T 0∧Eo1 n1 W2 W∧Gl4 284 40 94 (n1≤·) W s8 T.length (tw T 0) (fun a b=>if a<k∨(a=k∧b<l) then(Ab7 (txt T a b)).getD 0 else 0) | _=>False,fun l _=>match l with | [.val (.int .i64 i)]=>tw T 0-i.toNat | _=>0,⟨0,rfl,Nat.zero_le _,hE12,h12.congr fun i j _ _=>by simp⟩,?_⟩
  rintro i16 W17 ⟨l,rfl,hl,hE17,h17⟩
  refine⟨fun hlt2=>?_,fun hge2=>⟨by unfold I64;omega,⟨k+1,by push_cast;rfl,by omega,hE17,h17.congr fun a b ha hb=>?_⟩,?_⟩⟩
  ·have hlc:l<tw T 0:=by omega
   have e17:=e2.new hE17 hle
   have hlt3:l<T[k].length:=by omega
   have htx:=Gz2 hkr hlt3
   refine⟨e17.Hb8 (by omega) (by omega),_,e17.text hlt3,?_⟩
   rw[←htx]
   refine As8 (ht k l) fun s21 b22 s23 W20 hE20 h21=>⟨s21,b22,s23,_,rfl,fun hne W25 _=>⟨⟨none,0,0⟩,_,rfl,fun h=>absurd h hne,fun _ hall=>?_⟩,fun heq=>?_⟩
   ·have:=hall.2 k l hkr (by omega)
    rw[Ey7 hne] at this
    cases this
   ·have h20:=h17.ext hE20
    obtain⟨z,z1,z2⟩:=h20.mat.at (i:=k) hkr
    refine⟨h20.mat.inB (by omega) (by omega),z,z1,z2.inB (by omega) (by omega),?_⟩
    refine h20.store (j:=l) z1 hkr hlc h21 (by decide) (by decide) (fun g hg=>.inr (Nat.le_trans h01 hg)) fun W22 hp h22=>⟨by unfold I64;omega,⟨l+1,by push_cast;rfl,by omega,(hE17.trans (hE20.toM _)).trans (hp.Fi8 fun g hg=>hg),h22.congr fun a b ha hb=>?_⟩,?_⟩
    ·unfold Ha2
     by_cases e:a=k∧b=l
     ·rw[if_pos e,if_pos (by omega),e.1,e.2]
     ·rw[if_neg e]
      dsimp only
      by_cases e':a<k∨(a=k∧b<l)
      ·rw[if_pos e',if_pos (by omega)]
      ·rw[if_neg e',if_neg (by omega)]
    ·show tw T 0-Int.toNat ((l:Int)+1)<tw T 0-Int.toNat (l:Int)
     omega
  ·by_cases e':a<k∨(a=k∧b<l)
   ·rw[if_pos e',if_pos (by omega)]
   ·rw[if_neg e',if_neg (by omega)]
  ·show T.length-Int.toNat ((k:Int)+1)<T.length-Int.toNat (k:Int)
   omega
 ·refine((h12.ext hE28).mono fun g hg=>Nat.le_trans (hn.ext hE2) (Nat.le_trans hle hg)).congr fun a b ha hb=>?_
  rw[if_pos (by omega)]
theorem Gl7 {W0 W:PW} {M:Nat→Prop} {n0:Nat} {s:Sl} {T:List (List ByteArray)} {K:Value→PW→Prop} (hn:Gf6 n0 W) (h:Go3 W s T) (hr:T.length≤1099511627776) (ht: ∀i j,(txt T i j).size≤1099511627776) (kont: ∀(s':Sl) (e:Int) (W':PW),Ext W W'→((e=0→Gf8 T.length (tw T)∧Gl4 284 40 94 (n0≤·) W' s' T.length (tw T 0) (fun i j=>(Ab7 (txt T i j)).getD 0))∧(e≠0→¬(Gf8 T.length (tw T)∧∀i j,i<T.length→j<tw T i→(Ab7 (txt T i j)).isSome=true)))→K (.tuple #[Sl.v s',.int .i64 e]) W'):
  Aa1 Tryz.prog W0 M 101 [s.v] W K:=
 Aa2 (fun W' hE=>Gq8 (M:=fun _=>False) (hn.ext hE) (h.ext hE) hr ht) (fun W' v W'' hE hE' hP=>by
  obtain⟨s',e,rfl,h⟩:=hP
  exact kont s' e W'' (hE.trans hE') h)
end Go.Proofs.YtjkkidjbppphpaaGreatDoor
/- cincturelaw11.Raw. -/
namespace Go.Proofs.YtjkkidjbppphpaaGreatDoor
open Go Go.SX
def qw (Q:List (List Rat)) (i:Nat):Nat:=(Q[i]?.getD []).length
end Go.Proofs.YtjkkidjbppphpaaGreatDoor
/- The matrix of the document's program as a function. -/
namespace Go.Proofs.YtjkkidjbppphpaaGreatDoor
open Go Go.SX
end Go.Proofs.YtjkkidjbppphpaaGreatDoor
/- cincturelaw13.GramForms. -/
namespace Go.Proofs.YtjkkidjbppphpaaGreatDoor
open Go Go.SX
def g0:ByteArray:=⟨⟨[48]⟩⟩
def g1:ByteArray:=⟨⟨[49]⟩⟩
def gh:ByteArray:=⟨⟨[49,47,50]⟩⟩
def gT:List (List ByteArray):=[[g1,gh],[gh,g0]]
theorem Gs3:Ab7 g0=some 0:=by decide +kernel
theorem Gr9:Ab7 g1=some 1:=by decide +kernel
theorem Gi3:Ab7 gh=some (1/2):=by decide +kernel
def gM (i j:Nat):Rat:=(Ab7 (txt gT i j)).getD 0
def gM' (i j:Nat):Rat:=if i=0 then(if j=0 then 1 else 1/2) else if j=0 then 1/2 else 0
theorem Hb4 {i j:Nat} (hi:i<2) (hj:j<2):gM i j=gM' i j:=by
 rcases(show i=0∨i=1 by omega) with rfl | rfl<;>rcases(show j=0∨j=1 by omega) with rfl | rfl
 ·show(Ab7 g1).getD 0=1;rw[Gr9];rfl
 ·show(Ab7 gh).getD 0=1/2;rw[Gi3];rfl
 ·show(Ab7 gh).getD 0=1/2;rw[Gi3];rfl
 ·show(Ab7 g0).getD 0=0;rw[Gs3];rfl
theorem Gj1 {q:Nat→List Tm} {m m':Nat→Nat→Rat} {i:Nat} {a:Option (List Tm)} : ∀{k:Nat} (_: ∀t,t<k→m i t=m' i t),Gh9 q m i a k=Gh9 q m' i a k
 | 0,_=>rfl
 | k+1,h=>by
  rw[Gh9,Gh9,Gj1 fun t ht=>h t (by omega)]
  unfold Gx5
  rw[h k (by omega)]
theorem Gj4 {q:Nat→List Tm} {m m':Nat→Nat→Rat} {n:Nat} : ∀{i:Nat} (_: ∀t u,t<i→u<n→m t u=m' t u),Gg7 q m n i=Gg7 q m' n i
 | 0,_=>rfl
 | i+1,h=>by
  rw[Gg7,Gg7,Gj4 fun t u ht hu=>h t u (by omega) hu,Gj1 fun t ht=>h i t (by omega) ht]
def gPs:List (List Tm):=[[(⟨1,0,0⟩,1)],[(⟨0,0,0⟩,1)]]
def gP:List Tm:=[(⟨1,0,0⟩,1),(⟨2,0,0⟩,1)]
theorem Gz5:Gg7 (qat gPs) gM' 2 2=some gP:=by decide +kernel
theorem Ha6:Ag2 [((⟨0,0,0⟩:Mon),((1:Int):Rat))] = [(⟨0,0,0⟩,1)]:=by decide +kernel
theorem Ha9:Dc6 0 = [(⟨1,0,0⟩,1)]:=rfl
theorem Gx7 {T:List (List ByteArray)} {n:Nat} (h: ∀l∈T,∀t∈l,t.size≤n) (i j:Nat):(txt T i j).size≤n:=by
 unfold txt
 cases e:T[i]? with
 | none=>exact Nat.zero_le _
 | some l=>
  show(l[j]?.getD ⟨⟨[]⟩⟩).size≤_
  cases e2:l[j]? with
  | none=>exact Nat.zero_le _
  | some t=>exact h l (List.mem_of_getElem? e) t (List.mem_of_getElem? e2)
theorem Hb6: ∀l∈gT,∀t∈l,t.size≤20:=by decide
theorem gSz (i j:Nat):Sz 3 (gM i j):=by
 unfold gM
 cases e:Ab7 (txt gT i j) with
 | none=>exact Sz.zero (by omega)
 | some q=>exact(Aw6 e).2 (Gx7 Hb6 i j)
theorem Gx8:Go9 gPs 2 (tw gT):=by
 have h0:tw gT 0=2:=rfl
 have h1:tw gT 1=2:=rfl
 refine⟨⟨fun i hi=>?_,by omega,by omega,by omega,by omega⟩,h0,rfl⟩
 rcases(show i=0∨i=1 by omega) with rfl | rfl
 ·rfl
 ·rw[h0,h1]
theorem Hb3:Gi1 gPs 2 (tw gT) gM=some gP:=by
 rw[Gg1 Gx8,←Gz5]
 exact Gj4 fun t u ht hu=>Hb4 ht hu
theorem Hb7 (m:Mon):Bd 56029 [(m,(1:Rat))]:=(Cq4 (Sz.one (Nat.le_refl 1))).mono (by decide)
theorem Ha4:Gy2 gPs:=⟨fun q hq=>by
 simp only[gPs,List.mem_cons,List.not_mem_nil,or_false] at hq
 rcases hq with rfl | rfl
 ·exact⟨Hb7 _,by simp⟩
 ·exact⟨Hb7 _,by simp⟩,by decide⟩
theorem Gz1:Ed0 1=g1:=by
 have h:(1:Rat).den=1:=by decide
 have h2:(1:Rat).num=1:=by decide
 unfold Ed0
 rw[if_pos h,h2]
 unfold Dq2 En3
 rw[if_neg (by decide),if_neg (by decide),show Int.natAbs 1=1 from rfl,Dj5 (by decide),show 1/10=0 from rfl,Ay1]
 decide
theorem Hb2:Gw3 gP = [(⟨1,0,0⟩,g1),(⟨2,0,0⟩,g1)]:=by
 simp only[Gw3,gP,List.map_cons,List.map_nil,Gz1]
theorem gTx {W:PW} {s1 s4 s7:Sl} (h1:Row W 9 1 s1 [[.string g1],[.string gh]]) (h4:Row W 9 1 s4 [[.string gh],[.string g0]]) (h7:Row W 131 1 s7 [[s1.v],[s4.v]]):Go3 W s7 gT:=
 ⟨[s1,s4],⟨_,h7⟩,rfl,fun i hi hi'=>by
  have hi2:i<2:=hi
  rcases(show i=0∨i=1 by omega) with rfl | rfl
  ·exact⟨_,h1⟩
  ·exact⟨_,h4⟩⟩
theorem Gm8 {W0:PW} {M:Nat→Prop} :
  Aa0 Tryz.prog 33 [] W0 M fun v W'=>v = .bool true∧True:=by
 apply Gj0
 intro s1 W2 hE2 hO1 hf1 s3 W4 hE4 hO3 hf3 s5 W6 hE6 hO5 hf5
 have ht:=gTx (((hO1.ext hE4).ext hE6).row) (hO3.ext hE6).row hO5.row
 have hnn:Gf6 W6.w.heap.size W6:=Nat.le_refl _
 refine Gl7 hnn ht (by decide) (fun i j=>Nat.le_trans (Gx7 Hb6 i j) (by omega)) fun s9 e W8 hE8 ⟨h1,h2⟩=>⟨s9,e,rfl,?_⟩
 have he:e=0:=by
  apply Decidable.byContradiction
  intro hne
  refine h2 hne ⟨Gx8.1,fun i j hi hj=>?_⟩
  have hi2:i<2:=hi
  rcases(show i=0∨i=1 by omega) with rfl | rfl
  ·have hj2:j<2:=hj
   rcases(show j=0∨j=1 by omega) with rfl | rfl
   ·show(Ab7 g1).isSome=true;rw[Gr9];rfl
   ·show(Ab7 gh).isSome=true;rw[Gi3];rfl
  ·have hj2:j<2:=hj
   rcases(show j=0∨j=1 by omega) with rfl | rfl
   ·show(Ab7 gh).isSome=true;rw[Gi3];rfl
   ·show(Ab7 g0).isSome=true;rw[Gs3];rfl
 subst he
 have hm:Gf9 284 40 94 W8 s9 2 (fun _=>tw gT 0) gM:=(h1 rfl).2.mat
 have hm:Gf9 284 40 94 W8 s9 2 (tw gT) gM:=by
  obtain⟨ss,k1,k2,k3⟩:=hm
  refine⟨ss,k1,k2,fun i hi=>?_⟩
  have:=k3 i hi
  rcases(show i=0∨i=1 by omega) with rfl | rfl
  ·exact this
  ·exact this
 refine Cr4 fun s13 W12 hE12 h13=>⟨s13,rfl,?_⟩
 refine Ay8 (z:=1) (by unfold I64;omega) fun s16 b17 s18 W15 hE15 h15=>⟨s16,b17,s18,rfl,?_⟩
 refine Gf5 h15 (Sz.one (show 1≤1 by omega)) (by omega) fun s21 W20 hE20 h21=>⟨s21,rfl,fun s22 W23 hE23 hO22 _=>?_⟩
 rw[Ha6] at h21
 rw[Ha9] at h13
 have hps:Ps W23 s22 gPs:=⟨_,⟨_,hO22.row⟩,⟨s13,rfl,h13.ext (hE15.trans (hE20.trans hE23))⟩,⟨s21,rfl,h21.ext hE23⟩,trivial⟩
 refine Gm3 hps (hm.ext (hE12.trans (hE15.trans (hE20.trans hE23)))) Ha4 (by omega) (fun i j=>(gSz i j).mono (by omega)) fun s26 W25 hE25 h26=>⟨s26,_,rfl,?_⟩
 rw[Hb3] at h26⊢
 have h26:Ab0 284 165 W25 s26 gP:=h26
 refine⟨fun _=>⟨fun _=>?_,fun e=>(by cases e)⟩,fun e=>absurd rfl e⟩
 have hs1: ∀t∈gP,Sz 1 t.2:=fun t ht=>by
  simp only[gP,List.mem_cons,List.not_mem_nil,or_false] at ht
  rcases ht with rfl | rfl<;>exact Sz.one (Nat.le_refl 1)
 refine Gk2 h26 hs1 (by omega) (by simp[gP]) fun s30 W29 hE29 h30=>⟨s30,rfl,fun s31 W32 hE32 hO31 _=>?_⟩
 rw[Hb2] at h30
 have h31:Af3 W32 s31 [(⟨1,0,0⟩,g1),(⟨2,0,0⟩,g1)]:=⟨_,⟨_,hO31.row⟩,⟨(by decide:(⟨1,0,0⟩:Mon).ok),rfl⟩,⟨(by decide:(⟨2,0,0⟩:Mon).ok),rfl⟩,trivial⟩
 exact Gk1 (h30.ext hE32) h31 (by simp) fun W34 hE34 _=>⟨true,rfl,fun W36 _=>⟨rfl,trivial⟩⟩
theorem Gg0 {W0 W:PW} {M:Nat→Prop} {K:Value→PW→Prop} (kont: ∀(W':PW),Ext W W'→(True)→K (.bool true) W'):
  Aa1 Tryz.prog W0 M 33 [] W K:=
 Aa2 (fun W' hE=>Gm8 (M:=fun _=>False) ) (fun W' v W'' hE hE' hP=>by
  obtain⟨rfl,h⟩:=hP
  exact kont W'' (hE.trans hE') h)
end Go.Proofs.YtjkkidjbppphpaaGreatDoor
/- cincturelaw13.GramNever. -/
namespace Go.Proofs.YtjkkidjbppphpaaGreatDoor
open Go Go.SX
theorem Ff1.bd4 {L:List (Mon×ByteArray)} {exp:Int} {p:List Tm} (h:Ff1 L exp p):Bd 90 p:=by
 have hl:=h.len
 refine(Bd.Co7 (k:=4) fun t ht=>?_).mono (by omega)
 obtain⟨x,hx,_,hq,_⟩:=Fa5 h.1.1 ht
 exact Ct3 hq (h.2.2 x hx).1
theorem Gy1 (u:Pt) {x:Iv} (h:IvS 4000 x) {i:Nat} (hi:i<3):atQ u (Gg6 x (i:Int))=(u.get i-x.1)*(x.2-u.get i):=by
 have hM:=Gq9 h (i:Int)
 unfold Gg6
 rw[Gs0 u (fun t ht=>((Gn2 h i).2.1 t ht).1) (fun t ht=>((Gl6 h i).2.1 t ht).1)]
 unfold Gm5 Gm9
 rw[Gn5,Gn5,Gw0,Gw0,Gy3,Gy3,Gz3 u hi,Gx9,Gx9]
 grind
theorem Gz4 {bs:List Iv} (hk: ∀x∈bs,IvS 4000 x) (i:Nat):IvS 4000 (bs.getD i (0,0)):=by
 rw[List.getD_eq_getElem?_getD]
 cases e:bs[i]? with
 | none=>exact⟨Sz.zero (by omega),Sz.zero (by omega)⟩
 | some x=>exact hk x (List.mem_of_getElem? e)
theorem Gw5 {bs:List Iv} (hk: ∀x∈bs,IvS 4000 x) {u:Pt} (hu:Ha3 (Bm3 bs) u) {s:SqP} (hg:s.g≤3) (ho:POk s.q) {p:List Tm} (h:Gg5 bs s=some p):0≤atQ u p∧(s.q.length≤14→p.length≤784):=by
 have hsq:=Fj3 (atQ u s.q)
 have hql:=El2 (An8 s.q s.q)
 rw[Eb1] at hql
 unfold Gg5 at h
 split at h
 ·rename_i hM
  have hPk:POk (Ag2 (An8 s.q s.q)):=POk.Ff3 hM
  split at h
  ·rename_i hg0
   split at h
   ·simp only[Option.some.injEq] at h
    subst h
    obtain⟨i,hi⟩:=Int.eq_ofNat_of_zero_le (show 0≤s.g-1 by omega)
    have hi3:i<3:=by omega
    rw[hi,Int.toNat_natCast]
    have hb:=Gz4 hk i
    have hsb:=Gv1 hb (i:Int)
    refine⟨?_,fun hl=>?_⟩
    ·rw[Gs0 u hPk (q:=Gg6 (bs.getD i (0,0)) (i:Int)) (POk.Ff3 (Gq9 hb i)),Gs0 u ho ho,Gy1 u hb hi3]
     obtain⟨h1,h2⟩:=hu i hi3
     have h1:(bs.getD i (0,0)).1≤u.get i:=h1
     have h2:u.get i≤(bs.getD i (0,0)).2:=h2
     exact Rat.mul_nonneg hsq (Rat.mul_nonneg (by grind) (by grind))
    ·have hl2:=El2 (An8 (Ag2 (An8 s.q s.q)) (Gg6 (bs.getD i (0,0)) (i:Int)))
     rw[Eb1] at hl2
     have hm:=Nat.mul_le_mul hl hl
     have hm2:=Nat.mul_le_mul (show(Ag2 (An8 s.q s.q)).length≤196 by omega) hsb.2
     omega
   ·cases h
  ·simp only[Option.some.injEq] at h
   subst h
   refine⟨by rw[Gs0 u ho ho];exact hsq,fun hl=>?_⟩
   have hm:=Nat.mul_le_mul hl hl
   omega
 ·cases h
theorem Gp9 {bs:List Iv} (hk: ∀x∈bs,IvS 4000 x) {u:Pt} (hu:Ha3 (Bm3 bs) u): ∀{l:List SqP} {a0 a:List Tm} (_: ∀s∈l,s.g≤3∧POk s.q∧0≤s.w∧s.q.length≤14) (_:0≤atQ u a0) (_:l.foldl (Gf2 bs) (some a0)=some a),0≤atQ u a∧a.length≤a0.length+l.length*784
 | [],a0,a,_,h0,e=>by
  cases e
  exact⟨h0,by omega⟩
 | s :: l,a0,a,h,h0,e=>by
  rw[List.foldl_cons] at e
  obtain⟨g1,g2,g3,g4⟩:=h s (by simp)
  cases hm:Gg5 bs s with
  | none=>rw[Gj3 (some a0) hm,Gr6] at e;cases e
  | some p=>
   obtain⟨k1,k2⟩:=Gw5 hk hu g1 g2 hm
   have k2:=k2 g4
   rw[show Gf2 bs (some a0) s=some (Ag2 (a0 ++ Ag2 (pmap p s.w))) from by unfold Gf2;rw[hm]] at e
   have hn:0≤atQ u (Ag2 (a0 ++ Ag2 (pmap p s.w))):=by
    rw[Gn5,Gw0,Gn5,Gy3]
    have:=Rat.mul_nonneg g3 k1
    grind
   obtain⟨r1,r2⟩:=Gp9 hk hu (l:=l) (fun t ht=>h t (by simp[ht])) hn e
   have l1:=El2 (a0 ++ Ag2 (pmap p s.w))
   have l2:=El2 (pmap p s.w)
   rw[Ew2] at l2
   rw[List.length_append] at l1
   refine⟨r1,?_⟩
   rw[List.length_cons]
   omega
theorem Hb0 {a k:Nat} (h1:a≤4704) (h2:k≤50000):a*(k+3*(16*255+1)+1)+1≤400000000:=by
 have h3:k+3*(16*255+1)+1≤62244:=by omega
 have h4:a*(k+3*(16*255+1)+1)≤4704*62244:=Nat.mul_le_mul h1 h3
 exact Nat.le_trans (Nat.add_le_add_right h4 1) (by decide)
def nvI (W0:PW) (l:List SqP) (L:List PL) (W:PW):Prop:=match L with
 | [.val (.int .i64 i)]=>∃j:Nat,i=(j:Int)∧j≤l.length∧Ext W0 W∧∀s∈l.take j,0≤s.w
 | _=>False
theorem Gp4 {W0:PW} {M:Nat→Prop} {s t:Sl} {L:List SqT} {B:List (ByteArray×ByteArray)} {j0 j1 j2:Int} (hT:Ac6 W0) (h1:Go.Proofs.YtjkkidjbppphpaaGreatDoor.Gf7 W0 s L) (h2:Bs7 W0 t B) (l1:L.length≤1099511627776) (za: ∀t∈L,t.1.size≤1099511627776) (zb: ∀t∈L,t.2.2.length≤1099511627776) (zc: ∀t∈L,∀u∈t.2.2,u.2.size≤1099511627776) (l2:B.length≤1099511627776) (z2: ∀t∈B,t.1.size≤1099511627776∧t.2.size≤1099511627776):
  Aa0 Tryz.prog 6 [s.v,t.v,.agg ⟨[.int .i64 j0,.int .i64 j1,.int .i64 j2]⟩] W0 M fun v W'=>v = .bool true∧True:=by
 apply Gg4
 have alv: ∀W,Aa1 Tryz.prog W0 M 33 [] W fun v11 W12=>∃b13:Bool,v11 = .bool b13∧∀(W14:PW),Ext W12 W14→Value.bool b13 = .bool true∧True:=fun W=>Gg0 fun W12 _ _=>⟨true,rfl,fun W14 _=>⟨rfl,trivial⟩⟩
 refine Gb4 hT h2 l2 z2 fun s3 s4 b5 W2 hE2 hbox=>⟨s3,s4,b5,rfl,fun _=>alv _,fun hb5=>Gg0 fun W11 hE11 _=>⟨true,rfl,fun e=>(by cases e),fun _=>?_⟩⟩
 obtain⟨bs,bx,_,hBox,hk⟩:=hbox (by simpa using hb5)
 have hbl:=hBox.1.2
 have hk4: ∀x∈bs,IvS 4000 x:=fun x hx=>⟨(hk x hx).1.mono (by omega),(hk x hx).2.mono (by omega)⟩
 refine Gh4 (Gf7.ext h1 (hE2.trans hE11)) l1 (fun t ht=>⟨za t ht,zb t ht,zc t ht⟩) fun s19 s20 l W18 hE18 ⟨a1,a2,al,ag⟩=>⟨s19,s20,rfl,?_⟩
 have b18:=bx.ext (hE11.trans hE18)
 have n3:=bx.n
 have n20:=a2.n
 have hok: ∀x∈l,POk x.q:=fun x hx=>by
  obtain⟨xs,_,ha⟩:=a1
  obtain⟨v,_,⟨_,_,_,_,_,_,hp⟩⟩:=Fa5 ha hx
  exact hp.ok
 have hS:Gz9 90 11 l:=⟨fun x hx=>let⟨_,L,op⟩:=ag x hx;⟨op.bd4,by have:=op.len;omega,op.1.Aq3,hok x hx⟩,fun x hx=>(ag x hx).1,by omega,by omega,by omega,by have:=Nat.mul_le_mul_right (2*90+11+8019) al;omega⟩
 refine⟨nvI W18 l,cn1 l.length,⟨0,rfl,Nat.zero_le _,Ext.refl _,fun x hx=>(by cases hx)⟩,?_⟩
 rintro i23 W24 ⟨j,rfl,hj,hE24,hall⟩
 refine⟨fun hlt=>?_,fun hge=>?_⟩
 ·have hjl:j<l.length:=by omega
  have hmem:=List.getElem_mem hjl
  have hA:=a2.ext hE24
  obtain⟨x,⟨b1,c1,c2,cp,rfl,hq,hp⟩,hel⟩:=hA.at hjl
  have hib:=hA.inB (i:=(j:Int)) (by omega) (by omega)
  have hw:=(ag _ hmem).1
  refine⟨hib,b1,c1,hel 0 rfl,Aq7 hq.1 fun W28 hE28 _=>⟨_,rfl,fun _ W30 _=>⟨rfl,trivial⟩,fun hnn=>?_⟩⟩
  obtain⟨x',⟨b1',c1',c2',cp',rfl,hq',hp'⟩,hel'⟩:=(hA.ext hE28).at hjl
  obtain⟨_,Lq,op⟩:=ag _ hmem
  refine⟨hib,cp',hel' 4 rfl,Gi0 hp' (by have:=op.len;omega) fun W33 hE33 _=>⟨_,rfl,fun _ W35 _=>⟨rfl,trivial⟩,fun _=>⟨by unfold I64;omega,⟨j+1,by push_cast;rfl,by omega,hE24.trans (hE28.trans hE33),fun y hy=>?_⟩,?_⟩⟩⟩
  ·rw[List.take_succ_eq_append_getElem hjl] at hy
   rcases List.mem_append.1 hy with hy | hy
   ·exact hall y hy
   ·rw[List.mem_singleton.1 hy]
    rw[Bo6] at hnn
    exact El9.1 (by omega)
  ·show l.length-Int.toNat ((j:Int)+1)<l.length-Int.toNat (j:Int)
   omega
 have:j=l.length:=by omega
 subst this
 rw[List.take_length] at hall
 refine Gp1 (SX.Gf7.ext a1 hE24) (b18.ext hE24) hS hk4 (by omega) fun s38 W37 hE37 h37=>⟨s38,_,rfl,?_⟩
 have hord: ∀x∈bs,x.1≤x.2:=fun x hx=>Rat.le_of_lt (hBox.2 x hx)
 refine Gj8 (b18.ext (hE24.trans hE37)) hord hk (by omega) hbl fun s42 s43 b44 s45 s46 b47 s48 s49 b50 s51 u W41 hE41 ⟨g0,g1,g2,hin,hsz⟩=>⟨s42,s43,b44,s45,s46,b47,s48,s49,b50,s51,rfl,fun _ W52 _=>⟨rfl,trivial⟩,fun hsome=>?_⟩
 obtain⟨a,ea⟩:=Option.isSome_iff_exists.1 (show(Gt5 l bs).isSome=true by simpa using hsome)
 rw[ea] at h37
 have h37:Ab0 284 165 W37 s38 a:=h37
 have hSO:Fj5 l bs:=Classical.byContradiction fun hno=>by rw[Gi2 hno] at ea;cases ea
 have efold:l.foldl (Gf2 bs) (some [])=some a:=by unfold Gt5 at ea;rwa [if_pos hSO] at ea
 obtain⟨v1,v2⟩:=Gp9 hk4 hin (l:=l) (a0:=[]) (fun x hx=>⟨by have:=(hSO.2 x hx).2;omega,hok x hx,hall x hx,let⟨_,L,op⟩:=ag x hx;op.len⟩) (show(0:Rat)≤0 from Rat.le_refl) efold
 have hbd:=(Gu4 hS hk4 (j:=l.length) (Nat.le_refl _) (by rw[List.take_length];exact efold)).1
 have hK:1+l.length*(2*90+11+8019)≤50000:=by
  have:=Nat.mul_le_mul_right (2*90+11+8019) al
  omega
 have hlen:a.length≤4704:=by
  have:l.length*784≤6*784:=Nat.mul_le_mul_right 784 al
  rw[List.length_nil] at v2
  omega
 have hat:=Hb0 hlen hK
 refine Gr5 (l:=16) (h37.ext hE41) g0 g1 g2 hbd.sz hsz (by omega) hat (by omega) fun s55 b56 s57 W54 hE54 h54=>⟨s55,b56,s57,rfl,?_⟩
 have zv:Sz 400000000 (atQ u a):=(Gx6 hbd.sz hsz (e:=255) fun t ht i=>Gq6 (h37.ok t ht) i).mono hat
 exact Bk6 h54 zv (by omega) fun W59 hE59 _=>⟨_,rfl,fun W61 _=>⟨congrArg Value.bool (decide_eq_true (El9.2 v1)),trivial⟩⟩
end Go.Proofs.YtjkkidjbppphpaaGreatDoor
/- An argument of three whole numbers, opened. -/
namespace Go.Proofs.YtjkkidjbppphpaaGreatDoor
open Go Go.SX Go.ChangeShapes Go.WideShapes Go.ChangeAt Go.RowKit Go.Deep
theorem Gl8 {r:Reach} {w:World} {base:Nat} {v:Value} (h:Value.okWide Tryz.prog w r base 83 v): ∃xs:Array Value,v = .agg xs∧xs.size=3:=by
 simp only[Value.okWide,Tryz.underlying83] at h
 obtain⟨cs,h1,h2,_⟩:=h
 exact⟨cs,h1,by rw[h2];kernel_rfl⟩
theorem Gu1:Tryz.prog.cellsOf 3=1:=by kernel_rfl
theorem Gj7 {H:Type} {enc:TypeId×Value→H} {W:World} {fuel:Nat} {l:List Value} {d:DataW H} {p:List MemPlace} (h:DataW.trod enc Tryz.prog W 0 (fun _=>true) true fuel 83 l=some (d,p)) (hl:l.length=3):
  ∃a b c:Int,l = [.int .i64 a,.int .i64 b,.int .i64 c]:=by
 obtain⟨zs,m,rfl,hx,_,hzl,hz⟩:=DataW.trod_array Tryz.underlying83 h
 have e0:=hz 0 (by omega)
 have e1:=hz 1 (by omega)
 have e2:=hz 2 (by omega)
 rw[Gu1] at e0 e1 e2
 match l,hl,zs,hzl with
 | [v0,v1,v2],_,[w0,w1,w2],_=>
  have e0:DataW.trod enc Tryz.prog W 0 (fun _=>true) true m 3 [v0]=some w0:=e0
  have e1:DataW.trod enc Tryz.prog W 0 (fun _=>true) true m 3 [v1]=some w1:=e1
  have e2:DataW.trod enc Tryz.prog W 0 (fun _=>true) true m 3 [v2]=some w2:=e2
  obtain⟨n0,h0,_⟩:=DataW.trod_int Tryz.underlying3 e0
  obtain⟨n1,h1,_⟩:=DataW.trod_int Tryz.underlying3 e1
  obtain⟨n2,h2,_⟩:=DataW.trod_int Tryz.underlying3 e2
  have k0:v0=Value.int .i64 n0:=(List.cons.inj (show[v0] = [Value.int .i64 n0] from h0)).1
  have k1:v1=Value.int .i64 n1:=(List.cons.inj (show[v1] = [Value.int .i64 n1] from h1)).1
  have k2:v2=Value.int .i64 n2:=(List.cons.inj (show[v2] = [Value.int .i64 n2] from h2)).1
  subst k0 k1 k2
  exact⟨n0,n1,n2,rfl⟩
end Go.Proofs.YtjkkidjbppphpaaGreatDoor
