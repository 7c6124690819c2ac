/- A polynomial of degree 1 on a box: plain law. -/
import Derived.Test.YtjkkidjbppphpaaGreatDoorW23
import Derived.Test.YtjkkidjbppphpaaGreatDoorW19
import Derived.Test.YtjkkidjbppphpaaGreatDoorW22
import Derived.Test.YtjkkidjbppphpaaGreatDoorR19
import Derived.Test.YtjkkidjbppphpaaGreatDoorW21
import Derived.Test.YtjkkidjbppphpaaGreatDoorCards
import Derived.Test.YtjkkidjbppphpaaGreatDoorTie
import Derived.Deep.DeepHandedRow
import Derived.Lib.LaidTab
import Derived.Test.YtjkkidjbppphpaaGreatDoorLib4
set_option linter.unusedVariables false
set_option linter.unusedSimpArgs false
set_option maxRecDepth 100000
namespace Go.Proofs.YtjkkidjbppphpaaGreatDoor
open Go Go.SX
theorem Hy1 (x:Iv):Cb5 x (0,0)=x:=Prod.ext (Rat.add_zero _) (Rat.add_zero _)
theorem Hy2 (x:Iv):Cb5 (0,0) x=x:=Prod.ext (Rat.zero_add _) (Rat.zero_add _)
theorem Hz8 (x y z:Iv):Cb5 (Cb5 x y) z=Cb5 x (Cb5 y z):=Prod.ext (Rat.add_assoc _ _ _) (Rat.add_assoc _ _ _)
theorem Ia7 (x y z:Iv):Cb5 x (Cb5 y z)=Cb5 y (Cb5 x z):=Prod.ext (Rat.add_left_comm _ _ _) (Rat.add_left_comm _ _ _)
def Ib5 (l:Nat→Iv) (p:List Tm):List Mon→Iv
 | []=>(0,0)
 | m :: ms=>Cb5 (Ci9 l (m,Aj5 p m) 3) (Ib5 l p ms)
theorem Ia2 (l:Nat→Iv): ∀ms:List Mon,Ib5 l [] ms=(0,0)
 | []=>rfl
 | m :: ms=>by rw[Ib5,Ia2 l ms,Hv2 l (t:=(m,Aj5 [] m)) rfl];exact Hy1 _
theorem Hz7 (l:Nat→Iv) {t:Tm} {r:List Tm} (h0:Aj5 r t.1=0): ∀{ms:List Mon} (_:ms.Nodup),Ib5 l (t :: r) ms=if t.1∈ms then Cb5 (Ci9 l t 3) (Ib5 l r ms) else Ib5 l r ms
 | [],_=>by rw[if_neg (by simp)];rfl
 | m :: ms,hn=>by
  obtain⟨h1,h2⟩:=List.nodup_cons.1 hn
  have ih:=Hz7 l h0 h2
  rw[Ib5,Ib5,ih,Aj5]
  by_cases e:t.1=m
  ·subst e
   rw[if_pos rfl,if_neg h1,if_pos (by simp),h0,Rat.add_zero,Hv2 l (t:=(t.1,0)) rfl,Hy2]
  ·rw[if_neg e,Rat.zero_add]
   by_cases hm:t.1∈ms
   ·rw[if_pos hm,if_pos (by simp[hm]),Ia7]
   ·rw[if_neg hm,if_neg (by simp[hm,e])]
theorem Hz5 (l:Nat→Iv): ∀{p:List Tm} (_:Av6 p) {ms:List Mon} (_:ms.Nodup) (_: ∀t∈p,t.1∈ms),ovS l p=Ib5 l p ms
 | [],_,ms,_,_=>(Ia2 l ms).symm
 | t :: r,h,ms,hn,hm=>by
  have hs:=List.pairwise_cons.1 h.srt
  have h0:=Av5 (l:=r) (m:=t.1) fun x hx e=>Mon.Eg6 (hs.1 x hx) e.symm
  rw[ovS,Hz5 l h.tail hn (fun u hu=>hm u (by simp[hu])),Hz7 l h0 hn,if_pos (hm t (by simp))]
def Hy3 (w:Pt):Nat→List Tm
 | 0=>[]
 | j+1=>Ag2 (Hy3 w j ++ Ag2 (pmap (Dc6 (j:Int)) (w.get j)))
theorem Hy6 (w:Pt): ∀n,Av6 (Hy3 w n)
 | 0=>Av6.nil
 | n+1=>Ce8 _
theorem Ia0 (w:Pt): ∀n,n≤3→(Hy3 w n).length≤n
 | 0,_=>Nat.le_refl _
 | n+1,h=>by
  have h1:=El2 (Hy3 w n ++ Ag2 (pmap (Dc6 (n:Int)) (w.get n)))
  have h2:=El2 (pmap (Dc6 (n:Int)) (w.get n))
  have h3:=Ia0 w n (by omega)
  have e:(Dc6 (n:Int)).length=1:=by unfold Dc6;rw[if_pos ⟨by omega,by omega⟩];rfl
  rw[Ew2,e] at h2
  rw[List.length_append] at h1
  rw[Hy3]
  omega
theorem Ic3 (i:Nat):(Da3 i).ok:=by unfold Da3 Mon.ok;(repeat' split)<;>decide
theorem Hy8 (w:Pt): ∀n,n≤3→∀t∈Hy3 w n,∃i,i<n∧t.1=Da3 i
 | 0,_,t,ht=>by cases ht
 | n+1,h,t,ht=>by
  obtain⟨u,hu,e⟩:=Gu2 ht
  rcases List.mem_append.1 hu with hu | hu
  ·obtain⟨i,hi,e2⟩:=Hy8 w n (by omega) u hu
   exact⟨i,by omega,e.trans e2⟩
  ·obtain⟨v,hv,e2⟩:=Gu2 hu
   have e3:Dc6 (n:Int) = [(Da3 n,1)]:=by unfold Dc6;rw[if_pos ⟨by omega,by omega⟩,Int.toNat_natCast]
   rw[e3] at hv
   have:v=(Da3 n,1*w.get n):=by simpa[pmap] using hv
   exact⟨n,by omega,by rw[e,e2,this]⟩
theorem Ib3 (w:Pt) {n:Nat} (hn:n≤3):POk (Hy3 w n):=fun t ht=>by
 obtain⟨i,_,e⟩:=Hy8 w n hn t ht
 rw[e]
 exact Ic3 i
theorem Ib2 {w:Pt} (hw: ∀i,Sz 3 (w.get i)): ∀n,Bd (1+12*n) (Hy3 w n)
 | 0=>⟨1,0,trivial,by decide,by rw[Ax0];omega,by rw[Ag9];omega⟩
 | n+1=>by
  have hv:Bd 4 (Dc6 (n:Int)):=by
   unfold Dc6
   split
   ·exact Cq4 (Sz.one (Nat.le_refl 1))
   ·exact⟨1,0,trivial,by decide,by rw[Ax0];omega,by rw[Ag9];omega⟩
  exact((Ib2 hw n).append (Bd.pmap hv (hw n)).norm).norm.mono (by omega)
theorem Ib7 {i j:Nat} (hi:i<3) (hj:j<3) (h:Da3 i=Da3 j):i=j:=by
 rcases(by omega:i=0∨i=1∨i=2) with rfl | rfl | rfl<;>rcases(by omega:j=0∨j=1∨j=2) with rfl | rfl | rfl<;>first | rfl | exact absurd h (by decide)
def lco (w:Pt) (n i:Nat):Rat:=if i<n then w.get i else 0
theorem Hy5 (w:Pt): ∀n,n≤3→∀i,i<3→Aj5 (Hy3 w n) (Da3 i)=lco w n i
 | 0,_,i,_=>by unfold lco;rw[if_neg (by omega)];rfl
 | n+1,h,i,hi=>by
  rw[Hy3,Bh2,Au2,Bh2,Hy5 w n (by omega) i hi]
  have e3:Dc6 (n:Int) = [(Da3 n,1)]:=by unfold Dc6;rw[if_pos ⟨by omega,by omega⟩,Int.toNat_natCast]
  rw[e3]
  show lco w n i+((if Da3 n=Da3 i then 1*w.get n else 0)+0)=lco w (n+1) i
  unfold lco
  by_cases e:i=n
  ·subst e
   rw[if_neg (by omega),if_pos rfl,if_pos (by omega)]
   grind
  ·rw[if_neg (c:=Da3 n=Da3 i) fun h'=>e (Ib7 (by omega) hi h').symm]
   by_cases h2:i<n
   ·rw[if_pos h2,if_pos (by omega)];grind
   ·rw[if_neg h2,if_neg (by omega)];grind
theorem Hy7 (x:Iv) (r:Rat):Ay9 (Eb6 r) x=De8 x r:=by
 simp only[Ay9,Bu9,Ag0,De8,Eb6,Prod.mk.injEq]
 rw[Rat.mul_comm r,Rat.mul_comm r]
 unfold Az9 Au7
 constructor<;>grind
theorem Hz1 {x:Iv} (h:x.1≤x.2):Ai3 x 1=x:=by
 unfold Ai3
 rw[if_neg (by omega)]
 unfold Ag0
 rw[show x.1^1=x.1 by rw[Rat.pow_succ,Rat.pow_zero,Rat.one_mul],show x.2^1=x.2 by rw[Rat.pow_succ,Rat.pow_zero,Rat.one_mul],(Ht1 h).1,(Ht1 h).2]
theorem Hz2 {x:Iv} (h:x.1≤x.2):De8 x 1=x:=by rw[Ht2 (by decide +kernel) h,Rat.mul_one,Rat.mul_one]
theorem Hz9 {l:Nat→Iv} (h: ∀i,(l i).1≤(l i).2) (c:Rat) {i:Nat} (hi:i<3):Ci9 l (Da3 i,c) 3=De8 (l i) c:=by
 rw[Ht4]
 congr 1
 rcases(by omega:i=0∨i=1∨i=2) with rfl | rfl | rfl
 ·show Ay9 (Eb6 1) (Ai3 (l 0) 1)=l 0
  rw[Hz1 (h 0),Hy7,Hz2 (h 0)]
 ·show Ay9 (Eb6 1) (Ai3 (l 1) 1)=l 1
  rw[Hz1 (h 1),Hy7,Hz2 (h 1)]
 ·show Ay9 (Eb6 1) (Ai3 (l 2) 1)=l 2
  rw[Hz1 (h 2),Hy7,Hz2 (h 2)]
def scS (w:Pt) (l:Nat→Iv):Nat→Iv
 | 0=>(0,0)
 | j+1=>Cb5 (scS w l j) (De8 (l j) (w.get j))
theorem Ia4 {l:Nat→Iv} (h: ∀i,(l i).1≤(l i).2) (w:Pt) {n:Nat} (hn:n≤3):Aq8 l (Hy3 w n)=scS w l n:=by
 rw[Gc3,Hz5 l (Hy6 w n) (ms:=[Da3 0,Da3 1,Da3 2]) (by decide) fun t ht=>by
  obtain⟨i,hi,e⟩:=Hy8 w n hn t ht
  rw[e]
  rcases(by omega:i=0∨i=1∨i=2) with rfl | rfl | rfl<;>simp]
 simp only[Ib5]
 rw[Hy5 w n hn 0 (by omega),Hy5 w n hn 1 (by omega),Hy5 w n hn 2 (by omega),Hz9 h _ (by omega),Hz9 h _ (by omega),Hz9 h _ (by omega),Hy1]
 unfold lco
 rcases(by omega:n=0∨n=1∨n=2∨n=3) with rfl | rfl | rfl | rfl
 ·simp only[scS,Hu5,Hy1,Nat.not_lt_zero,if_false]
 ·rw[if_pos (by omega),if_neg (by omega),if_neg (by omega)]
  simp only[scS,Hu5,Hy1,Hy2]
 ·rw[if_pos (by omega),if_pos (by omega),if_neg (by omega)]
  simp only[scS,Hu5,Hy1,Hy2]
 ·rw[if_pos (by omega),if_pos (by omega),if_pos (by omega)]
  simp only[scS,Hy2,Hz8]
theorem Ib6 {l:Nat→Iv} (w:Pt) {n j:Nat} (hn:n≤3) (hj:j<n):Aq8 l (Hc3 (Hy3 w n) (j:Int))=Eb6 (w.get j):=by
 rw[Gc3,Hp8 (Hy6 w n) (by omega),Hz5 l (Hn6 (Hy6 w n) j) (ms:=[⟨0,0,0⟩]) (by simp) fun t ht=>by
  obtain⟨s,hs,hp,rfl⟩:=Hj9 ht
  obtain⟨i,hi,e⟩:=Hy8 w n hn s hs
  rw[e] at hp⊢
  have hi3:i<3:=by omega
  have hj3:j<3:=by omega
  rcases(by omega:i=0∨i=1∨i=2) with rfl | rfl | rfl<;>rcases(by omega:j=0∨j=1∨j=2) with rfl | rfl | rfl<;>first | exact List.mem_singleton.2 rfl | exact absurd hp (by decide)]
 simp only[Ib5]
 rw[Ia5 (Ib3 w hn) j]
 have e1:Ic6 ⟨0,0,0⟩ j=Da3 j:=by
  rcases(by omega:j=0∨j=1∨j=2) with rfl | rfl | rfl<;>rfl
 have e2:An6 (⟨0,0,0⟩:Mon) j+1=1:=by unfold An6;(repeat' split)<;>rfl
 rw[e1,e2,Hy5 w n hn j (by omega),lco,if_pos hj,show((1:Int):Rat)=1 from rfl,Rat.mul_one,Hy1]
 rfl
theorem Id0 (u w:Pt): ∀n,n≤3→atQ u (Hy3 w (n+1))=atQ u (Hy3 w n)+w.get n*u.get n∨n=3
 | n,h=>by
  by_cases e:n=3
  ·exact .inr e
  ·refine .inl ?_
   rw[Hy3,Gn5,Gw0,Gn5,Gy3,Gz3 u (by omega)]
def Ia6 (u w:Pt):Nat→Rat
 | 0=>0
 | j+1=>Ia6 u w j+w.get j*u.get j
theorem Hz6 (u w:Pt): ∀n,n≤3→atQ u (Hy3 w n)=Ia6 u w n
 | 0,_=>rfl
 | n+1,h=>by
  rcases Id0 u w n (by omega) with e | e
  ·rw[e,Hz6 u w n (by omega),Ia6]
  ·omega
theorem Ib0 (x:Iv) (h:x.1≤x.2) (m c:Rat):De8 (He4 x (Eb6 m)) c=Cb5 (De8 x c) (Eb6 (-(c*m))):=by
 have h2:(He4 x (Eb6 m)).1≤(He4 x (Eb6 m)).2:=by show x.1-m≤x.2-m;grind
 by_cases hc:0≤c
 ·rw[Ht2 hc h2,Ht2 hc h]
  exact Prod.ext (by show(x.1-m)*c=x.1*c + -(c*m);grind) (by show(x.2-m)*c=x.2*c + -(c*m);grind)
 ·have hc:c≤0:=by grind
  rw[Ht3 hc h2,Ht3 hc h]
  exact Prod.ext (by show(x.2-m)*c=x.2*c + -(c*m);grind) (by show(x.1-m)*c=x.1*c + -(c*m);grind)
theorem Ia3 {bs:List Iv} (hb: ∀x∈bs,x.1≤x.2) (w:Pt) {n:Nat} (hn:n≤3): ∀j,j≤n→Hc0 (Hy3 w n) bs j=Cb5 (scS w (Bm3 bs) j) (Eb6 (atQ (Hb9 bs) (Hy3 w n)-Ia6 (Hb9 bs) w j))
 | 0,_=>by
  rw[Hc0,scS,Ia6,Hy2,show atQ (Hb9 bs) (Hy3 w n)-0=atQ (Hb9 bs) (Hy3 w n) by grind]
 | j+1,hj=>by
  rw[Hc0,Ia3 hb w hn j (by omega),Ib6 w hn (by omega),Hy7,Ib0 _ (Ey5 hb j),scS,Ia6]
  generalize scS w (Bm3 bs) j=X
  generalize De8 (Bm3 bs j) (w.get j)=Y
  generalize atQ (Hb9 bs) (Hy3 w n)=a
  generalize Ia6 (Hb9 bs) w j=d
  exact Prod.ext (by show X.1+(a-d)+(Y.1 + -(w.get j*(Hb9 bs).get j))=X.1+Y.1+(a-(d+w.get j*(Hb9 bs).get j));grind) (by show X.2+(a-d)+(Y.2 + -(w.get j*(Hb9 bs).get j))=X.2+Y.2+(a-(d+w.get j*(Hb9 bs).get j));grind)
theorem Ic1 {bs:List Iv} (hb: ∀x∈bs,x.1≤x.2) (w:Pt) (hl:bs.length≤3):Hc0 (Hy3 w bs.length) bs bs.length=Aq8 (Bm3 bs) (Hy3 w bs.length):=by
 rw[Ia3 hb w hl bs.length (Nat.le_refl _),Ia4 (Ey5 hb) w hl,Hz6 _ _ _ hl,show Ia6 (Hb9 bs) w bs.length-Ia6 (Hb9 bs) w bs.length=0 by grind]
 exact Hy1 _
def loC (w:Pt) (l:Nat→Iv) (k:Nat):Rat:=if w.get k<0 then(l k).2 else(l k).1
def hiC (w:Pt) (l:Nat→Iv) (k:Nat):Rat:=if w.get k<0 then(l k).1 else(l k).2
theorem Ic5 {l:Nat→Iv} (h: ∀i,(l i).1≤(l i).2) (w:Pt) {u v:Pt} : ∀n,(∀i,i<n→u.get i=loC w l i∧v.get i=hiC w l i)→Ia6 u w n=(scS w l n).1∧Ia6 v w n=(scS w l n).2
 | 0,_=>⟨rfl,rfl⟩
 | n+1,hc=>by
  obtain⟨h1,h2⟩:=Ic5 h w n fun i hi=>hc i (by omega)
  obtain⟨e1,e2⟩:=hc n (by omega)
  rw[Ia6,Ia6,h1,h2,e1,e2,scS]
  unfold loC hiC
  by_cases hw:w.get n<0
  ·rw[if_pos hw,if_pos hw,Ht3 (Rat.le_of_lt hw) (h n)]
   exact⟨by show _=(scS w l n).1+(l n).2*w.get n;grind,by show _=(scS w l n).2+(l n).1*w.get n;grind⟩
  ·rw[if_neg hw,if_neg hw,Ht2 (Rat.not_lt.1 hw) (h n)]
   exact⟨by show _=(scS w l n).1+(l n).1*w.get n;grind,by show _=(scS w l n).2+(l n).2*w.get n;grind⟩
end Go.Proofs.YtjkkidjbppphpaaGreatDoor
/- cincturelaw9.BoundLinear. -/
namespace Go.Proofs.YtjkkidjbppphpaaGreatDoor
open Go Go.SX
def upd (f:Nat→Rat) (j:Nat) (v:Rat) (k:Nat):Rat:=if k=j then v else f k
def lov (w:Pt) (l:Nat→Iv) (j k:Nat):Rat:=if k<j then loC w l k else 0
def hiv (w:Pt) (l:Nat→Iv) (j k:Nat):Rat:=if k<j then hiC w l k else 0
theorem Ic8 {w:Pt} {l:Nat→Iv} {j:Nat} (h:w.get j<0) (a b:Rat):lov w l (j+1)=upd (upd (lov w l j) j a) j (l j).2∧hiv w l (j+1)=upd (upd (hiv w l j) j b) j (l j).1:=by
 constructor<;>funext k
 all_goals
  simp only[lov,hiv,upd]
  by_cases e:k=j
  ·subst e;rw[if_pos (by omega),if_pos rfl];simp only[loC,hiC];rw[if_pos h]
  ·rw[if_neg e,if_neg e]
   by_cases e2:k<j
   ·rw[if_pos (by omega),if_pos e2]
   ·rw[if_neg (by omega),if_neg e2]
theorem Ic9 {w:Pt} {l:Nat→Iv} {j:Nat} (h:¬w.get j<0):lov w l (j+1)=upd (lov w l j) j (l j).1∧hiv w l (j+1)=upd (hiv w l j) j (l j).2:=by
 constructor<;>funext k
 all_goals
  simp only[lov,hiv,upd]
  by_cases e:k=j
  ·subst e;rw[if_pos (by omega),if_pos rfl];simp only[loC,hiC];rw[if_neg h]
  ·rw[if_neg e]
   by_cases e2:k<j
   ·rw[if_pos (by omega),if_pos e2]
   ·rw[if_neg (by omega),if_neg e2]
theorem Ib9 {tu:TypeId} {W:PW} {s t s0 t0 s1 t1 s2 t2:Sl} {b b0 b1 b2:Bool} {f:Nat→Rat} {v:Rat} (h:NmV tu W [s0.v,.bool b0,t0.v,s1.v,.bool b1,t1.v,s2.v,.bool b2,t2.v] f) (g:Ab3 tu W s b t v):NmV tu W [s.v,.bool b,t.v,s1.v,.bool b1,t1.v,s2.v,.bool b2,t2.v] (upd f 0 v):=let⟨_,h1,h2⟩:=h.three;NmV.mk g h1 h2
theorem Ic0 {tu:TypeId} {W:PW} {s t s0 t0 s1 t1 s2 t2:Sl} {b b0 b1 b2:Bool} {f:Nat→Rat} {v:Rat} (h:NmV tu W [s0.v,.bool b0,t0.v,s1.v,.bool b1,t1.v,s2.v,.bool b2,t2.v] f) (g:Ab3 tu W s b t v):NmV tu W [s0.v,.bool b0,t0.v,s.v,.bool b,t.v,s2.v,.bool b2,t2.v] (upd f 1 v):=let⟨h0,_,h2⟩:=h.three;NmV.mk h0 g h2
theorem Ic2 {tu:TypeId} {W:PW} {s t s0 t0 s1 t1 s2 t2:Sl} {b b0 b1 b2:Bool} {f:Nat→Rat} {v:Rat} (h:NmV tu W [s0.v,.bool b0,t0.v,s1.v,.bool b1,t1.v,s2.v,.bool b2,t2.v] f) (g:Ab3 tu W s b t v):NmV tu W [s0.v,.bool b0,t0.v,s1.v,.bool b1,t1.v,s.v,.bool b,t.v] (upd f 2 v):=let⟨h0,h1,_⟩:=h.three;NmV.mk h0 h1 g
theorem Ic4 {a b c:Rat} {n:Nat} (ha:Sz n a) (hb:Sz n b) (hc:Sz n c): ∀k,Sz n ((Pt.mk a b c).get k):=fun k=>by
 unfold Pt.get
 split
 ·exact ha
 split
 ·exact hb
 ·exact hc
theorem Hz4 {w:Pt} {bs:List Iv} {n:Nat} (h1:1≤n) (h: ∀i,IvS n (Bm3 bs i)) (j k:Nat):Sz n (lov w (Bm3 bs) j k)∧Sz n (hiv w (Bm3 bs) j k):=by
 simp only[lov,hiv,loC,hiC]
 constructor
 all_goals
  split
  ·split
   ·first | exact(h k).2 | exact(h k).1
   ·first | exact(h k).1 | exact(h k).2
  ·exact Sz.zero h1
def Id1 (W0:PW) (w:Pt) (bs:List Iv) (L:List PL) (W:PW):Prop:=match L with
 | [.val (.int .i64 i),.cells c,.cells d,.cells e]=>∃(j:Nat) (sp:Sl),i=(j:Int)∧j≤bs.length∧Ext W0 W∧c = [sp.v]∧Ab0 284 165 W sp (Hy3 w j)∧NmV 284 W d (lov w (Bm3 bs) j)∧NmV 284 W e (hiv w (Bm3 bs) j)
 | _=>False
def Id3 (n:Nat) (L:List PL) (_:PW):Nat:=match L with
 | [.val (.int .i64 i),_,_,_]=>n-i.toNat
 | _=>0
def Id2 (W0:PW) (f g:Nat→Rat) (L:List PL) (W:PW):Prop:=match L with
 | [_,_,_,_,_,_,.cells d,.cells e]=>Ext W0 W∧NmV 284 W d f∧NmV 284 W e g
 | _=>False
theorem Ib4 {bs:List Iv} (hb: ∀x∈bs,x.1≤x.2) (w:Pt) (hl:bs.length≤3):atQ ⟨lov w (Bm3 bs) bs.length 0,lov w (Bm3 bs) bs.length 1,lov w (Bm3 bs) bs.length 2⟩ (Hy3 w bs.length)=(Aq8 (Bm3 bs) (Hy3 w bs.length)).1∧atQ ⟨hiv w (Bm3 bs) bs.length 0,hiv w (Bm3 bs) bs.length 1,hiv w (Bm3 bs) bs.length 2⟩ (Hy3 w bs.length)=(Aq8 (Bm3 bs) (Hy3 w bs.length)).2:=by
 have ho:=Ey5 hb
 have hc:=Ic5 ho w (u:=⟨lov w (Bm3 bs) bs.length 0,lov w (Bm3 bs) bs.length 1,lov w (Bm3 bs) bs.length 2⟩) (v:=⟨hiv w (Bm3 bs) bs.length 0,hiv w (Bm3 bs) bs.length 1,hiv w (Bm3 bs) bs.length 2⟩) bs.length fun i hi=>by
  have e1:lov w (Bm3 bs) bs.length i=loC w (Bm3 bs) i:=if_pos hi
  have e2:hiv w (Bm3 bs) bs.length i=hiC w (Bm3 bs) i:=if_pos hi
  rw[←e1,←e2]
  rcases(by omega:i=0∨i=1∨i=2) with rfl | rfl | rfl<;>exact⟨rfl,rfl⟩
 rw[Hz6 _ _ _ hl,Hz6 _ _ _ hl,Ia4 ho w hl]
 exact hc
theorem Ib1 {bs:List Iv} (hB:Cn7 bs) (w:Pt):An3 (Hy3 w bs.length) bs:=⟨hB,Hx0 (by omega) fun t ht=>by
 obtain⟨i,hi,e⟩:=Hy8 w bs.length hB.1.2 t ht
 have:=hB.1.2
 rw[e]
 rcases(by omega:i=0∨i=1∨i=2) with rfl | rfl | rfl
 ·show(1:Int)≤_;omega
 ·show(2:Int)≤_;omega
 ·show(3:Int)≤_;omega⟩
theorem Hz3 {W0:PW} {M:Nat→Prop} {c0 c1 c2 c3:ByteArray} {sb:Sl} {Lt:List (ByteArray×ByteArray)} (hT:Ac6 W0) (hb:Bs7 W0 sb Lt) (z0:c0.size≤1099511627776) (z1:c1.size≤1099511627776) (z2:c2.size≤1099511627776) (hl2:Lt.length≤1099511627776) (hz2: ∀t∈Lt,t.1.size≤1099511627776∧t.2.size≤1099511627776):
  Aa0 Tryz.prog 8 [.agg ⟨[.string c0,.string c1,.string c2,.string c3]⟩,sb.v] W0 M fun v W'=>v = .bool true∧True:=by
 apply Hy4
 have alv: ∀{W:PW},Ac6 W→Aa1 Tryz.prog W0 M 16 [] W fun v11 W12=>∃b13:Bool,v11 = .bool b13∧∀(W14:PW),Ext W12 W14→Value.bool b13 = .bool true∧True:=fun hT=>Ba2 hT fun W12 _ _=>⟨true,rfl,fun W14 _=>⟨rfl,trivial⟩⟩
 refine Gb4 hT hb hl2 hz2 fun s3 s4 b5 W2 hE2 hbx=>⟨s3,s4,b5,rfl,by decide,by decide,by decide,?_⟩
 refine Hu1 z0 z1 z2 fun s8 b9 s10 s11 b12 s13 s14 b15 s16 b17 s18 s19 b20 s21 s22 b23 s24 s25 b26 W7 hE7 g3=>⟨s8,b9,s10,s11,b12,s13,s14,b15,s16,b17,s18,s19,b20,s21,s22,b23,s24,s25,b26,rfl,?_⟩
 have T7:=hT.ext (hE2.trans hE7)
 refine⟨fun _=>alv T7,fun h5=>⟨fun _=>alv T7,fun h26=>Ba2 T7 fun W36 hE36 _=>⟨true,rfl,fun e=>(by cases e),fun _=>?_⟩⟩⟩
 obtain⟨bs,x1,_,hBox,hk⟩:=hbx (by simpa using h5)
 obtain⟨w,hw,⟨g0,g1,g2⟩,_⟩:=g3 (by simpa using h26)
 have x1:=x1.ext (hE7.trans hE36)
 have hw9:NmV 284 W36 [s8.v,.bool b9,s10.v,s11.v,.bool b12,s13.v,s14.v,.bool b15,s16.v] w.get:=NmV.mk (g0.ext hE36) (g1.ext hE36) (g2.ext hE36)
 have hn:=x1.n
 have hb3:=hBox.1.2
 have hord: ∀x∈bs,x.1≤x.2:=fun x hx=>Rat.le_of_lt (hBox.2 x hx)
 have zw:NmV 284 W36 z9 (fun _=>0):=Hn3 (ys:=[]) (qs:=[]) trivial
 refine⟨Id1 W36 w bs,Id3 bs.length,⟨0,⟨none,0,0⟩,rfl,Nat.zero_le _,Ext.refl _,rfl,Ab0.nil W36,zw,zw⟩,?_⟩
 rintro s44 s45 b46 s47 s48 b49 s50 s51 b52 s53 s54 b55 s56 s57 b58 s59 s60 b61 s62 i63 W64 ⟨j,sp,rfl,hj,hE64,e,hp,hlo,hhi⟩
 have e:=Sl.Ck0 (List.cons.inj e).1
 subst e
 have hgd:=Hy6 w j
 have hln:=Ia0 w j (by omega)
 have hbd:=Ib2 hw j
 refine⟨fun hlt=>⟨fun h3=>?_,fun h3=>absurd (show(j:Int)<3 by omega) h3⟩,fun hge=>?_⟩
 ·have hj3:j<3:=by omega
  have hjl:j<bs.length:=by omega
  have rng:(0:Int)≤(j:Int)∧(j:Int)<3:=⟨by omega,by omega⟩
  obtain⟨s65,b66,s67,bx,gw⟩:=hw9.box hj3
  refine⟨rng,s65,b66,s67,bx,?_⟩
  refine Cr4 fun s70 W69 hE69 h69=>⟨s70,rfl,?_⟩
  have bv:Bd 4 (Dc6 (j:Int)):=by unfold Dc6;rw[if_pos ⟨by omega,by omega⟩];exact Cq4 (Sz.one (Nat.le_refl 1))
  have lv:(Dc6 (j:Int)).length=1:=by unfold Dc6;rw[if_pos ⟨by omega,by omega⟩];rfl
  refine Cb0 h69 (gw.ext (hE64.trans hE69)) bv (hw j) (by omega) (by omega) (by omega) fun s73 W72 hE72 h72=>⟨s73,rfl,?_⟩
  have lm:=El2 (pmap (Dc6 (j:Int)) (w.get j))
  rw[Ew2] at lm
  refine Cw8 (k:=40) (hp.ext (hE69.trans hE72)) h72 (hbd.mono (by omega)) ((Bd.pmap bv (hw j)).norm.mono (by omega)) (by omega) (by omega) (by omega) fun s76 W75 hE75 h75=>⟨s76,rfl,?_⟩
  have E75:=hE69.trans (hE72.trans hE75)
  have X75:=x1.ext (hE64.trans E75)
  obtain⟨x,⟨s,b,t,s',b',t',rfl,q1,q2⟩,hel⟩:=X75.at hjl
  have ib:=X75.inB (i:=(j:Int)) (by omega) (by omega)
  have hlo:=hlo.ext E75
  have hhi:=hhi.ext E75
  rw[←Fi1 hjl] at q1 q2
  refine⟨Id2 W75 (upd (lov w (Bm3 bs) j) j (Bm3 bs j).1) (upd (hiv w (Bm3 bs) j) j (Bm3 bs j).2),⟨ib,s,b,t,hel 0 rfl,ib,s',b',t',hel 3 rfl,rng,by omega,⟨⟨trivial,fun e=>⟨Ext.refl _,rng,by omega,⟨⟨trivial,fun _=>?_⟩,fun e'=>by omega⟩,fun e'=>by omega⟩⟩,fun e=>⟨Ext.refl _,rng,by omega,⟨⟨trivial,fun e'=>by omega⟩,fun _=>?_⟩,fun e'=>by omega⟩⟩,fun e=>⟨Ext.refl _,rng,by omega,⟨⟨trivial,fun e'=>by omega⟩,fun e'=>by omega⟩,fun _=>?_⟩⟩,?_⟩
  ·have:j=0:=by omega
   subst this
   exact⟨Ext.refl _,Ib9 hlo q1,Ib9 hhi q2⟩
  ·have:j=1:=by omega
   subst this
   exact⟨Ext.refl _,Ic0 hlo q1,Ic0 hhi q2⟩
  ·have:j=2:=by omega
   subst this
   exact⟨Ext.refl _,Ic2 hlo q1,Ic2 hhi q2⟩
  rintro s84 b85 s86 s87 b88 s89 s90 b91 s92 s93 b94 s95 s96 b97 s98 s99 b100 s101 i102 i103 s104 i105 s106 i107 W108 ⟨hE108,nlo,nhi⟩
  have E108:=E75.trans hE108
  refine⟨rng,s65,b66,s67,bx,Bk6 (gw.ext (hE64.trans E108)) (hw j) (by omega) fun W113 hE113 _=>⟨_,rfl,fun hneg=>?_,fun hnn=>?_⟩⟩
  ·have hneg:=At6.1 hneg
   have E113:=hE108.trans hE113
   obtain⟨l1,l2⟩:=Ic8 (l:=Bm3 bs) hneg (Bm3 bs j).1 (Bm3 bs j).2
   have nlo:=nlo.ext hE113
   have nhi:=nhi.ext hE113
   have q1:=q1.ext E113
   have q2:=q2.ext E113
   have fin: ∀{d e:List Value},NmV 284 W113 d (lov w (Bm3 bs) (j+1))→NmV 284 W113 e (hiv w (Bm3 bs) (j+1))→Id1 W36 w bs [.val (.int .i64 ((j:Int)+1)),.cells [s76.v],.cells d,.cells e] W113:=fun hd he=>⟨j+1,s76,by push_cast;rfl,by omega,hE64.trans (E75.trans E113),rfl,h75.ext E113,hd,he⟩
   have hi:I64 ((j:Int)+1):=by unfold I64;omega
   have hmu:bs.length-Int.toNat ((j:Int)+1)<bs.length-Int.toNat (j:Int):=by omega
   refine⟨ib,s',b',t',(hel 3 rfl).ext E113,ib,s,b,t,(hel 0 rfl).ext E113,rng,by omega,⟨⟨trivial,fun e=>⟨Ext.refl _,rng,by omega,⟨⟨trivial,fun _=>?_⟩,fun e'=>by omega⟩,fun e'=>by omega⟩⟩,fun e=>⟨Ext.refl _,rng,by omega,⟨⟨trivial,fun e'=>by omega⟩,fun _=>?_⟩,fun e'=>by omega⟩⟩,fun e=>⟨Ext.refl _,rng,by omega,⟨⟨trivial,fun e'=>by omega⟩,fun e'=>by omega⟩,fun _=>?_⟩⟩
   ·have:j=0:=by omega
    subst this
    exact⟨hi,fin (l1 ▸ Ib9 nlo q2) (l2 ▸ Ib9 nhi q1),hmu⟩
   ·have:j=1:=by omega
    subst this
    exact⟨hi,fin (l1 ▸ Ic0 nlo q2) (l2 ▸ Ic0 nhi q1),hmu⟩
   ·have:j=2:=by omega
    subst this
    exact⟨hi,fin (l1 ▸ Ic2 nlo q2) (l2 ▸ Ic2 nhi q1),hmu⟩
  ·have hnn:¬w.get j<0:=fun e=>hnn (At6.2 e)
   obtain⟨l1,l2⟩:=Ic9 (l:=Bm3 bs) hnn
   rw[←l1] at nlo
   rw[←l2] at nhi
   have E113:=hE108.trans hE113
   exact⟨by unfold I64;omega,⟨j+1,s76,by push_cast;rfl,by omega,hE64.trans (E75.trans E113),rfl,h75.ext E113,nlo.ext hE113,nhi.ext hE113⟩,by show bs.length-Int.toNat ((j:Int)+1)<bs.length-Int.toNat (j:Int);omega⟩
 ·have:j=bs.length:=by omega
  subst this
  have X:=x1.ext hE64
  have ss:=Ib1 hBox w
  have ds:decide (An3 (Hy3 w bs.length) bs)=true:=decide_eq_true ss
  have zn:BxN 40 4 (Hy3 w bs.length) bs:=⟨hbd.mono (by omega),hk,Ib3 w hb3,by omega,by omega,by omega,by omega⟩
  have zm:BxB 40 4 (Hy3 w bs.length) bs:=⟨zn,by omega,by omega,by omega⟩
  have zo:=(zn.over.mono (show _≤67000000 by omega)).sz
  have zd:=zm.Hr5
  refine Bi4 hp X zn fun l W164 hE164 h164=>h164.Ge9 fun s165 b166 s167 s168 b169 s170 h164=>?_
  refine Hc9 (hp.ext hE164) (X.ext hE164) zm fun l W173 hE173 h173=>h173.Ge9 fun s174 b175 s176 s177 b178 s179 h173=>?_
  have eq:=Ic1 hord w hb3
  rw[if_pos ss] at h164 h173
  refine⟨fun _=>⟨fun _=>Hu6 (h164.ext hE173) h173 zo zd (by omega) fun W182 hE182 _=>⟨_,rfl,fun _=>?_,fun e=>absurd eq.symm (of_decide_eq_false e)⟩,fun e=>absurd e (by rw[ds];decide)⟩,fun e=>absurd e (by rw[ds];decide)⟩
  have E182:=hE164.trans (hE173.trans hE182)
  obtain⟨a0,a1,a2⟩:=(hlo.ext E182).three
  obtain⟨c0,c1,c2⟩:=(hhi.ext E182).three
  obtain⟨e1,e2⟩:=Ib4 hord w hb3
  have hF: ∀i,IvS 9 (Bm3 bs i):=fun i=>(Ep8 hk i).sz
  have hu:=Ic4 (Hz4 (w:=w) (by omega) hF bs.length 0).1 (Hz4 (w:=w) (by omega) hF bs.length 1).1 (Hz4 (w:=w) (by omega) hF bs.length 2).1
  have hv:=Ic4 (Hz4 (w:=w) (by omega) hF bs.length 0).2 (Hz4 (w:=w) (by omega) hF bs.length 1).2 (Hz4 (w:=w) (by omega) hF bs.length 2).2
  have hps: ∀t∈Hy3 w bs.length,Sz 40 t.2:=(hbd.mono (show _≤40 by omega)).sz
  have ar:(Hy3 w bs.length).length*(40+3*(9*255+1)+1)+1≤400000000:=by
   have:=Nat.mul_le_mul (Nat.le_trans hln hb3) (Nat.le_refl (40+3*(9*255+1)+1))
   omega
  refine Gr5 (l:=9) (hp.ext E182) a0 a1 a2 hps hu (by omega) ar (by omega) fun s186 b187 s188 W185 hE185 h185=>⟨s186,b187,s188,rfl,?_⟩
  obtain⟨o1,o2⟩:=h164.two
  have F:=hE173.trans (hE182.trans hE185)
  rw[e1] at h185
  refine Aj2 (o1.ext F) h185 zo.1 zo.1 (by omega) (by omega) fun W190 hE190 _=>⟨_,rfl,fun _=>?_,fun e=>absurd (Hv6.2 rfl) e⟩
  have G:=hE185.trans hE190
  refine Gr5 (l:=9) (hp.ext (E182.trans G)) (c0.ext G) (c1.ext G) (c2.ext G) hps hv (by omega) ar (by omega) fun s194 b195 s196 W193 hE193 h193=>⟨s194,b195,s196,rfl,?_⟩
  rw[e2] at h193
  exact Aj2 (o2.ext (F.trans (hE190.trans hE193))) h193 zo.2 zo.2 (by omega) (by omega) fun W198 hE198 _=>⟨_,rfl,fun W200 _=>⟨congrArg Value.bool (decide_eq_true (Hv6.2 rfl)),trivial⟩⟩
end Go.Proofs.YtjkkidjbppphpaaGreatDoor
/- An argument of four strings, opened. -/
namespace Go.Proofs.YtjkkidjbppphpaaGreatDoor
open Go Go.SX Go.ChangeShapes Go.WideShapes Go.ChangeAt Go.RowKit Go.Deep
theorem Ic7 {r:Reach} {w:World} {base:Nat} {v:Value} (h:Value.okWide Tryz.prog w r base 109 v): ∃xs:Array Value,v = .agg xs∧xs.size=4:=by
 simp only[Value.okWide,Tryz.underlying109] at h
 obtain⟨cs,h1,h2,_⟩:=h
 exact⟨cs,h1,by rw[h2];kernel_rfl⟩
theorem Ia9 {H:Type} {enc:TypeId×Value→H} {W:World} {fuel:Nat} {l:List Value} {d:DataW H} {p:List MemPlace} (h:DataW.trod enc Tryz.prog W 0 (fun _=>true) true fuel 109 l=some (d,p)) (hl:l.length=4):
  ∃a b c e:ByteArray,l = [.string a,.string b,.string c,.string e]∧a.size≤Rows.uptoBulk d∧b.size≤Rows.uptoBulk d∧c.size≤Rows.uptoBulk d∧e.size≤Rows.uptoBulk d:=by
 obtain⟨zs,m,rfl,hx,_,hzl,hz⟩:=DataW.trod_array Tryz.underlying109 h
 have e0:=hz 0 (by omega)
 have e1:=hz 1 (by omega)
 have e2:=hz 2 (by omega)
 have e3:=hz 3 (by omega)
 rw[Ct5] at e0 e1 e2 e3
 match l,hl,zs,hzl with
 | [v0,v1,v2,v3],_,[w0,w1,w2,w3],_=>
  have e0:DataW.trod enc Tryz.prog W 0 (fun _=>true) true m 9 [v0]=some w0:=e0
  have e1:DataW.trod enc Tryz.prog W 0 (fun _=>true) true m 9 [v1]=some w1:=e1
  have e2:DataW.trod enc Tryz.prog W 0 (fun _=>true) true m 9 [v2]=some w2:=e2
  have e3:DataW.trod enc Tryz.prog W 0 (fun _=>true) true m 9 [v3]=some w3:=e3
  obtain⟨s0,h0,rfl,_⟩:=DataW.trod_string Tryz.underlying9 e0
  obtain⟨s1,h1,rfl,_⟩:=DataW.trod_string Tryz.underlying9 e1
  obtain⟨s2,h2,rfl,_⟩:=DataW.trod_string Tryz.underlying9 e2
  obtain⟨s3,h3,rfl,_⟩:=DataW.trod_string Tryz.underlying9 e3
  have k0:v0=Value.string s0:=(List.cons.inj (show[v0] = [Value.string s0] from h0)).1
  have k1:v1=Value.string s1:=(List.cons.inj (show[v1] = [Value.string s1] from h1)).1
  have k2:v2=Value.string s2:=(List.cons.inj (show[v2] = [Value.string s2] from h2)).1
  have k3:v3=Value.string s3:=(List.cons.inj (show[v3] = [Value.string s3] from h3)).1
  subst k0 k1 k2 k3
  simp only[Prod.mk.injEq] at hx
  obtain⟨rfl,_⟩:=hx
  have k0:s0.data.toList.length=s0.size:=by rw[Array.length_toList];rfl
  have k1:s1.data.toList.length=s1.size:=by rw[Array.length_toList];rfl
  have k2:s2.data.toList.length=s2.size:=by rw[Array.length_toList];rfl
  have k3:s3.data.toList.length=s3.size:=by rw[Array.length_toList];rfl
  refine⟨s0,s1,s2,s3,rfl,?_⟩
  simp only[List.map_cons,List.map_nil,Rows.uptoBulk,Rows.uptoBulkAll]
  omega
end Go.Proofs.YtjkkidjbppphpaaGreatDoor
/- cincturelaw9.BoundLinear answers true for every input whose bulk is at most 1048576 (the second form), and its arguments read behind the call as they did ahead of it. -/
namespace Go.Proofs.YtjkkidjbppphpaaGreatDoor
open Go Go.SX Go.ChangeShapes Go.WideShapes Go.ChangeAt Go.RowKit Go.Deep
theorem Fs9:Tryz.prog.globalNamed "math/bits.deBruijn32tab" = some 1:=by kernel_rfl
theorem Ew9:(Tryz.prog.globals[1]?).map (·.type)=some 347:=by kernel_rfl
theorem Ev1:Tryz.prog.cellsOf 347=32:=by kernel_rfl
theorem Fh1:Tryz.prog.cellsOf 5=1:=by kernel_rfl
theorem Fr5 {W:World} (h:laidMetH Tryz.prog Rows.boundLinearUptoRow.laid W):Ac6 ⟨W,fun _=>False⟩:=by
 have ht:Go.Lib.TabIs Tryz.prog W "math/bits.deBruijn32tab" .u8 (Go.Lib.deBruijn32tab.map fun n:Nat=>(n:Int)):=Go.Lib.tabIs_of_head (rest:=[]) Fs9 Ew9 Tryz.underlying347 Tryz.underlying5 Fh1 Ev1 h
 have hc: ∀j,j<32→W.cell? ⟨1,j,none⟩=some (.int .u8 ((Go.Lib.deBruijn32tab.getD j 0:Nat):Int)):=fun j hj=>by
  rw[ht.cell Fs9 j (by simpa[Go.Lib.deBruijn32tab] using hj)]
  have hall: ∀j,j<32→(Go.Lib.deBruijn32tab.map fun n:Nat=>(n:Int)).getD j 0=((Go.Lib.deBruijn32tab.getD j 0:Nat):Int):=by decide
  rw[hall j hj]
 refine⟨hc,?_,fun h=>h⟩
 have:=hc 0 (by omega)
 unfold World.cell? at this
 split at this
 ·rename_i e
  exact(Array.getElem?_eq_some_iff.1 e).1
 ·cases this
theorem Fa3 (H:Type) (enc:TypeId×Value→H) (W:World) (base:Nat) (args:Array Value) (ds gs:List (DataW H)) (before:List MemPlace)
  (hval: ∀(j:Nat) t v,Tryz.f8.params[j]?=some t→args[j]?=some v→Value.okWide Tryz.prog W .any base t v)
  (hW:DataW.Whole enc Tryz.prog Tryz.f8.params.toList Rows.boundLinearSpec.vars false W args.toList ds gs before) (hk:Rows.uptoSmall H (ds ++ gs)=true) (hL:laidMetH Tryz.prog Rows.boundLinearUptoRow.laid W):
  Calls Tryz.prog 8 args W fun e W'=>∃v,e = .returned v∧Rows.boundLinearSpec.post enc Tryz.prog Tryz.f8 false true false false W args v W':=by
 have hW':=hW
 obtain⟨p,q,hA0,hV,rfl,hfz,hnd⟩:=hW
 have hA:DataW.TrodAll enc Tryz.prog W 0 (fun _=>true) true Tryz.f8.params.toList args.toList ds p:=hA0
 rw[Tryz.params8] at hA hval
 obtain⟨v0,vs0,d0,ds0,p0,q0,hargs,rfl,rfl,h0,r0⟩:=trodAll_cons hA
 obtain⟨v1,vs1,d1,ds1,p1,q1,rfl,rfl,rfl,h1,r1⟩:=trodAll_cons r0
 obtain⟨rfl,rfl,rfl⟩:=trodAll_nil r1
 obtain rfl:args = #[v0,v1]:=by cases args;simp_all
 obtain⟨rfl,rfl⟩:=trodVars_none hV
 obtain⟨⟨l0⟩,rfl,hx0⟩:=Ic7 (hval 0 109 v0 rfl rfl)
 obtain⟨a1,n1,c1,rfl⟩:=okWide_slice Tryz.underlying58 (hval 1 58 v1 rfl rfl)
 clear hA0
 simp only[List.append_nil] at hW' hk
 have hlt: ∀x∈p0 ++ p1,x.block<W.heap.size:=fun x hx=>by simpa using hW'.lt x (by simpa using hx)
 have hbulk:Rows.uptoBulkAll [d0,d1]≤1048576:=of_decide_eq_true hk
 simp only[Rows.uptoBulkAll] at hbulk
 have h0k:=h0
 obtain⟨fuel0,hf0⟩:=h0
 have hf0':DataW.trod enc Tryz.prog W 0 (fun _=>true) true fuel0 109 l0=some (d0,p0):=by simpa[Value.cells] using hf0
 obtain⟨xa0,xb0,xc0,xd0,rfl,hxa0,hxb0,hxc0,hxd0⟩:=Ia9 hf0' hx0
 have h1k:=h1
 obtain⟨fuel1,hf1⟩:=h1
 have hf1':DataW.trod enc Tryz.prog W 0 (fun _=>true) true fuel1 58 [.slice a1 n1 c1]=some (d1,p1):=by simpa[Value.cells] using hf1
 obtain⟨s1,L1,hs1,hL1,hb1,hc1⟩:=Gc9 hf1'
 have hc:=Hz3 (M:=fun _=>False) (c0:=xa0) (c1:=xb0) (c2:=xc0) (c3:=xd0) (Fr5 hL) hL1 (by omega) (by omega) (by omega) (by omega) (fun t ht=>by have:=hc1 t ht;omega)
 have hcall:=hc.2 (fun b h=>h.elim)
 rw[hs1]
 refine hcall.mono fun e W' ⟨v,he,hkeep,hv,_⟩=>⟨v,he,?_⟩
 subst hv
 have hbel:=hkeep.below
 refine⟨[d0,d1],[],_,[],p0 ++ p1,[],(by rw[←hs1];simpa using hW'),trodAll_mk1 (shut_bool Tryz.underlying4 _),(by rw[←hs1];exact trodAll_mk2 (Below.trod laidOut (by kernel_rfl) (of_decide_eq_true (by kernel_rfl)) h0k hbel fun x hx=>hlt x (by simp[hx])) (Below.trod laidOut (by kernel_rfl) (of_decide_eq_true (by kernel_rfl)) h1k hbel fun x hx=>hlt x (by simp[hx]))),rfl,hbel.frame _,fun h=>by cases h⟩
noncomputable def Bu8 (os:Os):World:=
 {World.holding Tryz.prog os ⟨#[],#[],[]⟩ with heap:=(World.holding Tryz.prog os ⟨#[],#[],[]⟩).heap.modify 1 fun
   | .cells _ t frozen=>.cells #[.int .u8 0,.int .u8 1,.int .u8 28,.int .u8 2,.int .u8 29,.int .u8 14,.int .u8 24,.int .u8 3,.int .u8 30,.int .u8 22,.int .u8 20,.int .u8 15,.int .u8 25,.int .u8 17,.int .u8 4,.int .u8 8,.int .u8 31,.int .u8 27,.int .u8 13,.int .u8 23,.int .u8 21,.int .u8 19,.int .u8 16,.int .u8 7,.int .u8 26,.int .u8 12,.int .u8 18,.int .u8 6,.int .u8 11,.int .u8 5,.int .u8 10,.int .u8 9] t frozen
   | o=>o }
theorem Fa2 (os:Os):laidMet Tryz.prog Rows.boundLinearUptoRow.laid ((Bu8 os).forCall (fun _ _=>0) ⟨#[],#[.agg ⟨[.string ⟨#[]⟩,.string ⟨#[]⟩,.string ⟨#[]⟩,.string ⟨#[]⟩]⟩,.slice none 0 0],[]⟩).memory:=
 laidMet_of_run' 8 (by kernel_rfl) (by kernel_rfl)
theorem reads (os:Os) {H:Type} (enc:TypeId×Value→H): ∃places,DataW.whole enc Tryz.prog ((Bu8 os).forCall (fun _ _=>0) ⟨#[],#[.agg ⟨[.string ⟨#[]⟩,.string ⟨#[]⟩,.string ⟨#[]⟩,.string ⟨#[]⟩]⟩,.slice none 0 0],[]⟩).memory Tryz.f8.params.toList Rows.boundLinearSpec.vars false (#[.agg ⟨[.string ⟨#[]⟩,.string ⟨#[]⟩,.string ⟨#[]⟩,.string ⟨#[]⟩]⟩,.slice none 0 0]:Array Value).toList 8=some ([.agg [.lit (.string []),.lit (.string []),.lit (.string []),.lit (.string [])],.nil],[],places):=
 ⟨[],by kernel_rfl⟩
theorem lifted (os:Os) (started:os.Started) (H:Type) (enc:TypeId×Value→H) (F:Stop.Interp):
  ReturnsInHanded {} Tryz.checked os 8 .any ((Rows.OpenSpec.upto Rows.boundLinearSpec).preRow enc Tryz.prog Tryz.f8 Rows.boundLinearUptoRow.domain false Rows.boundLinearUptoRow.laid) (((Rows.OpenSpec.upto Rows.boundLinearSpec).at F).post enc Tryz.prog Tryz.f8 false true false false):=by
 obtain⟨places,hx⟩:=reads os enc
 refine returnsInHanded_of_row (C:=Tryz.checked) (s:=Rows.OpenSpec.upto Rows.boundLinearSpec) Cp9 started (by kernel_rfl) Tryz.func8
  (witness_row_at (enc:=enc) (C:=Tryz.checked) false (Bu8 os) #[.agg ⟨[.string ⟨#[]⟩,.string ⟨#[]⟩,.string ⟨#[]⟩,.string ⟨#[]⟩]⟩,.slice none 0 0] rfl (by kernel_rfl) (by kernel_rfl) (by kernel_rfl)
   (OpenSpec.preRow_of_cond 8 hx (by kernel_rfl) (fun k hk=>by cases hk;kernel_rfl) (by kernel_rfl) (Fa2 os))) ?_
 intro W base args ds gs before hval hW _ hcond _ hL _ _
 exact Fa3 H enc W base args ds gs before hval hW (hcond _ rfl) hL
theorem Fj9:Fc7 Tryz.checked.prog 8 Tryz.f8 (Rows.OpenSpec.upto Rows.boundLinearSpec).bare Rows.boundLinearUptoRow=true:=by kernel_rfl
theorem Fl9:Fd9 Tryz.checked.prog 8 Tryz.f8 (Rows.OpenSpec.upto Rows.boundLinearSpec).bare Rows.boundLinearUptoRow=true:=by kernel_rfl
theorem Fl2:Fe1 Tryz.checked.prog 8 Tryz.f8 (Rows.OpenSpec.upto Rows.boundLinearSpec).bare Rows.boundLinearUptoRow=true:=by kernel_rfl
theorem Fn7:Fd2 Tryz.checked.prog 8 Tryz.f8 (Rows.OpenSpec.upto Rows.boundLinearSpec).bare Rows.boundLinearUptoRow=true:=by kernel_rfl
theorem Fj6:Fd4 Tryz.checked.prog 8 Tryz.f8 (Rows.OpenSpec.upto Rows.boundLinearSpec).bare Rows.boundLinearUptoRow=true:=by kernel_rfl
theorem Et8:Rows.BoundLinearUptoSaid:=
 OpenClaim.holds_of_cond 8 Tryz.f8 rfl rfl rfl rfl rfl rfl rfl ⟨rfl,rfl,rfl,rfl,rfl⟩ rfl rfl rfl rfl rfl (by kernel_rfl) Tryz.func8 (Eo7 Fj9 Fl9 Fl2 Fn7 Fj6)
  (of_decide_eq_true (by kernel_rfl)) (by unfold Func.isWrapper;first | (rw[if_pos (by decide +kernel)];kernel_rfl) | (rw[if_neg (by decide +kernel)];exact⟨rfl,rfl⟩))
  (fun os started H enc _ F=>by rw[OpenClaim.pre_eq_preRow];exact lifted os started H enc F)
theorem plain (f:FuncId) (fn:Func) (hf:Tryz.pinned.checked.prog.funcNamed "cincture/cincturelaw9.BoundLinear" = some f) (hfn:Tryz.pinned.checked.prog.funcs[f]?=some fn):
  false=Tryz.pinned.checked.prog.looks []∧∀(j:Nat) t,fn.params[j]?=some t→Tryz.pinned.checked.prog.wantsStandIn t=false:=by
 obtain rfl:f=8:=Option.some.inj ((show Tryz.prog.funcNamed "cincture/cincturelaw9.BoundLinear" = some 8 by kernel_rfl).symm.trans hf) |>.symm
 obtain rfl:fn=Tryz.f8:=(Option.some.inj (Tryz.func8.symm.trans hfn)).symm
 refine⟨by kernel_rfl,fun j t ht=>?_⟩
 rw[Tryz.params8] at ht
 have hm:t∈[109,58]:=by simpa using Array.mem_of_getElem? ht
 have hall:([109,58].all fun u=>!Tryz.prog.wantsStandIn u)=true:=by kernel_rfl
 exact(show Tryz.prog.wantsStandIn t=false by simpa using List.all_eq_true.1 hall t hm)
theorem boundLinear_card:Rows.BoundLinearUptoCardSaid:=
 Claim7.holds_tied_plain_at .later [] _ _ _ _ Et8 (fun _ h=>by cases h) (by kernel_rfl) (fun _ h=>by cases h) boundLinearUpto_row_tie rfl ⟨rfl,rfl⟩ (by kernel_rfl) rfl plain (by kernel_rfl)
#print axioms boundLinear_card
end Go.Proofs.YtjkkidjbppphpaaGreatDoor
