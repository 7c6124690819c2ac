/- What a polynomial's coefficients come to: at points, at corners; from the least to the greatest: plain law. -/
import Derived.Test.YtokefihiadbkbaaGreatDoorW11
import Derived.Test.YtokefihiadbkbaaGreatDoorW9
import Derived.Test.YtokefihiadbkbaaGreatDoorLib4
import Derived.Test.YtokefihiadbkbaaGreatDoorW5
import Derived.Test.YtokefihiadbkbaaGreatDoorLib6
import Derived.Test.YtokefihiadbkbaaGreatDoorLib5
import Derived.Test.YtokefihiadbkbaaGreatDoorR19
import Derived.Test.YtokefihiadbkbaaGreatDoorW8
import Derived.Test.YtokefihiadbkbaaGreatDoorW6
import Derived.Test.YtokefihiadbkbaaGreatDoorR12
import Derived.Test.YtokefihiadbkbaaGreatDoorW10
set_option linter.unusedVariables false
set_option linter.unusedSimpArgs false
set_option maxRecDepth 100000
namespace Go.Proofs.YtokefihiadbkbaaGreatDoor
open Go Go.SX
theorem Jr0 {m:Mon} (hm:m.ok) {n:Int} {j:Nat} (h:Cx8 m≤n) (hj:n≤(j:Int)) (h3:j<3):eg m j=0:=by
 obtain⟨⟨x0,_⟩,⟨y0,_⟩,z0,_⟩:=hm
 unfold Cx8 at h
 rcases(by omega:j=0∨j=1∨j=2) with rfl | rfl | rfl
 ·show m.x.toNat=0
  (repeat' split at h)<;>omega
 ·show m.y.toNat=0
  (repeat' split at h)<;>omega
 ·show m.z.toNat=0
  (repeat' split at h)<;>omega
theorem Jk7 {p:List Tm} {bs:List Iv} (ho:POk p) (h:Ii7 p bs):Fits (Ie8 p bs.length) p:=fun t ht=>by
 refine⟨fun j hj=>?_,fun j hj h3=>?_⟩
 ·rw[Io1] at hj
  exact Ja6 ho hj h.1.1.1.2 ht
 ·rw[Io1] at hj
  exact Jr0 (ho t ht) ((Hv3 (w:=Cx8) (n:=0) (p:=p)).2 t ht) (Int.le_trans h.1.2 (by omega)) h3
abbrev Jk3 (p:List Tm) (bs:List Iv):Nat→Rat:=Iw7 (Ie8 p bs.length) bs (ten (Ie8 p bs.length) p p.length) bs.length
theorem Jm9 {p:List Tm} {bs:List Iv} (hp:Av6 p) (ho:POk p) (h:Ii7 p bs) {k:Nat} (hk:k<stN (Ie8 p bs.length) bs.length):Jk3 p bs k=lin (fun m=>tmF (Ie8 p bs.length) bs.length (gF (Ie8 p bs.length) bs) m k) p:=by
 have hl:=Io1 p bs.length
 have:=Jm8 (bs:=bs) hp ho (Jk7 ho h) (k:=k) (by rw[hl];exact hk)
 rw[hl] at this
 exact this
/-! ### From the least to the greatest. -/
def Jo0 (F : Nat → Rat) : Nat → Iv
  | 0 => (F 0, F 0)
  | k + 1 => Bu9 (Jo0 F k) (F k, F k)
theorem Jl2 {F:Nat→Rat} {K:Nat} (h0:Sz K (F 0)): ∀n,(∀k,k<n→Sz K (F k))→IvS K (Jo0 F n)
 | 0,_=>⟨h0,h0⟩
 | n+1,h=>by
  have h1:=Jl2 h0 n fun k hk=>h k (by omega)
  exact⟨Hp0 h1.1 (h n (by omega)),Hp2 h1.2 (h n (by omega))⟩
end Go.Proofs.YtokefihiadbkbaaGreatDoor
/- The reference's coefficients are the program's: plain law. -/
namespace Go.Proofs.YtokefihiadbkbaaGreatDoor
open Go Go.SX
/-! ### One side. -/
def La0 (lo w : Rat) (g : Nat → Rat) (e : Nat) : Rat := lo * g e + w * g (e + 1)
def La4 (lo w:Rat) (g:Nat→Rat):Nat→Nat→Rat
 | 0=>g
 | n+1=>La0 lo w (La4 lo w g n)
def Kt0 (a b:Rat) (f:Nat→Rat) (r i:Nat):Nat→Rat
 | 0=>0
 | m+1=>Kt0 a b f r i m+(ch r m:Rat)*b^m*a^(r-m)*f (i+m)
theorem Kw0 {a b:Rat} {f:Nat→Rat} {r i:Nat} : ∀m,m≤r→Kt0 a b f (r+1) i (m+1)=a*Kt0 a b f r i (m+1)+b*Kt0 a b f r (i+1) m
 | 0,h=>by
  simp only[Kt0,If2,Nat.sub_zero,Nat.add_zero]
  rw[Rat.pow_succ a r]
  grind
 | m+1,h=>by
  rw[Kt0,Kw0 m (by omega)]
  have e1:Kt0 a b f r i (m+1+1)=Kt0 a b f r i (m+1)+(ch r (m+1):Rat)*b^(m+1)*a^(r-(m+1))*f (i+(m+1)):=rfl
  have e2:Kt0 a b f r (i+1) (m+1)=Kt0 a b f r (i+1) m+(ch r m:Rat)*b^m*a^(r-m)*f (i+1+m):=rfl
  rw[e1,e2,show r+1-(m+1)=r-m by omega,show i+1+m=i+(m+1) by omega,show a^(r-m)=a^(r-(m+1))*a by rw[←Rat.pow_succ];congr 1;omega,show ch (r+1) (m+1)=ch r m+ch r (m+1) from rfl]
  rw[Rat.pow_succ b m]
  push_cast
  generalize Kt0 a b f r i (m+1)=A
  generalize Kt0 a b f r (i+1) m=B
  generalize a^(r-(m+1))=V
  generalize b^m=U
  generalize f (i+(m+1))=X
  grind
theorem Ku7 (a b:Rat) (f:Nat→Rat): ∀r i,La4 a b f r i=Kt0 a b f r i (r+1)
 | 0,i=>by
  show f i=0+(ch 0 0:Rat)*b^0*a^0*f (i+0)
  rw[If2,Rat.pow_zero,Rat.pow_zero,Nat.add_zero]
  grind
 | r+1,i=>by
  show a*La4 a b f r i+b*La4 a b f r (i+1)=_
  rw[Ku7 a b f r i,Ku7 a b f r (i+1)]
  have e0:Kt0 a b f (r+1) i (r+1+1)=Kt0 a b f (r+1) i (r+1)+(ch (r+1) (r+1):Rat)*b^(r+1)*a^(r+1-(r+1))*f (i+(r+1)):=rfl
  have e1:Kt0 a b f r (i+1) (r+1)=Kt0 a b f r (i+1) r+(ch r r:Rat)*b^r*a^(r-r)*f (i+1+r):=rfl
  rw[e0,Kw0 r (Nat.le_refl _),e1,show ch (r+1) (r+1)=ch r r+ch r (r+1) from rfl,Ir8 r (r+1) (by omega),Nat.sub_self,Nat.sub_self,Rat.pow_succ b r,Rat.pow_zero,show i+1+r=i+(r+1) by omega,Nat.add_zero]
  generalize Kt0 a b f r i (r+1)=A
  generalize Kt0 a b f r (i+1) r=B
  generalize b^r=U
  generalize f (i+(r+1))=X
  grind
theorem Kv0 {a b:Rat} {f:Nat→Rat} {r i:Nat} : ∀n,Kt0 a b f r i (r+1+n)=Kt0 a b f r i (r+1)
 | 0=>rfl
 | n+1=>by
  show Kt0 a b f r i (r+1+n)+(ch r (r+1+n):Rat)*b^(r+1+n)*a^(r-(r+1+n))*f (i+(r+1+n))=_
  rw[Kv0 n,Ir8 r (r+1+n) (by omega)]
  grind
theorem Kv4 {g:Nat→Rat} {k:Nat} : ∀n,Iv7 g k (k+1+n)=Iv7 g k (k+1)
 | 0=>rfl
 | n+1=>by
  show Iv7 g k (k+1+n)+(ch k (k+1+n):Rat)*g (k+1+n)=_
  rw[Kv4 n,Ir8 k (k+1+n) (by omega)]
  grind
theorem Kv8 {lo w:Rat} {d e k:Nat} (he:e≤d): ∀m,m≤d+1→Kt0 lo w (fun j=>(ch k j:Rat)/(ch d j:Rat)) e 0 m=Iv7 (fun j=>Jb7 lo w (d+1) (uv e) j/(ch d j:Rat)) k m
 | 0,_=>rfl
 | m+1,h=>by
  rw[Kt0,Iv7,Kv8 he m (by omega),Jo6 (by omega) (by omega),Nat.zero_add]
  by_cases hm:m≤e
  ·rw[if_pos hm]
   grind
  ·rw[if_neg hm,Ir8 e m (by omega)]
   grind
theorem Lb0 {lo w:Rat} {d e k:Nat} (he:e≤d) (hk:k≤d):La4 lo w (fun j=>(ch k j:Rat)/(ch d j:Rat)) e 0=gB lo (lo+w) d e k:=by
 rw[Ku7,←Jo5 he hk,←Kv0 (d-e),show e+1+(d-e)=d+1 by omega,Kv8 he _ (Nat.le_refl _)]
 show Iv7 (fun j=>Jb7 lo w (d+1) (uv e) j/(ch d j:Rat)) k (d+1)=Iv7 (fun j=>Jb7 lo w (d+1) (uv e) j/(ch (d+1-1) j:Rat)) k (k+1)
 rw[Nat.add_sub_cancel,←Kv4 (k:=k) (d-k),show k+1+(d-k)=d+1 by omega]
/-! ### All sides. -/
def PF (f : Nat → Nat → Rat) (m : Mon) : Rat := Jg4 (fun i => f i (eg m i)) 3
def Kx9 (f:Nat→Nat→Rat) (i:Nat) (g:Nat→Rat) (j:Nat):Nat→Rat:=if j=i then g else f j
theorem Kw1 (f:Nat→Nat→Rat) (m:Mon) {i:Nat} (hi:i<3):PF f m=Jg4 (fun j=>if j=i then 1 else f j (eg m j)) 3*f i (eg m i):=by
 rw[←Jg3 (fun j=>f j (eg m j)) (f i (eg m i)) i 3 hi]
 exact Jf8 3 fun j _=>by
  by_cases e:j=i
  ·rw[if_pos e,e]
  ·rw[if_neg e]
theorem Kz7 (f:Nat→Nat→Rat) (i:Nat):Kx9 f i (f i)=f:=by
 funext j
 unfold Kx9
 split
 ·rename_i e;rw[e]
 ·rfl
theorem La1 (f:Nat→Nat→Rat) (i:Nat) (g h:Nat→Rat):Kx9 (Kx9 f i g) i h=Kx9 f i h:=by
 funext j
 unfold Kx9
 split<;>rfl
theorem Kz2 (f:Nat→Nat→Rat) (i:Nat) (g:Nat→Rat):Kx9 f i g i=g:=if_pos rfl
theorem Kx7 {a b:Mon} (ha:a.ok) (hb:b.ok) (j:Nat):eg (a.add b) j=eg a j+eg b j:=by
 have h1:=(Dg9 ha j).1
 have h2:=(Dg9 hb j).1
 have e:An6 (a.add b) j=An6 a j+An6 b j:=by unfold An6 Mon.add;(repeat' split)<;>rfl
 unfold eg
 omega
theorem Kz4 {i j:Nat} (hi:i<3) (hj:j<3):eg (Da3 i) j=if j=i then 1 else 0:=by
 rcases(by omega:i=0∨i=1∨i=2) with rfl | rfl | rfl<;>rcases(by omega:j=0∨j=1∨j=2) with rfl | rfl | rfl<;>rfl
theorem Ky7 (j:Nat):eg ⟨0,0,0⟩ j=0:=by
 unfold eg An6
 (repeat' split)<;>rfl
theorem Kz9 (i:Nat):(Da3 i).ok:=by unfold Da3 Mon.ok;(repeat' split)<;>decide
def lnQ (lo w:Rat) (i:Nat):List Tm:=Ag2 (Ag2 [(⟨0,0,0⟩,lo)] ++ Ag2 (pmap (Dc6 (i:Int)) w))
theorem Lb4 (H:Mon→Rat) (lo w:Rat) {i:Nat} (hi:i<3):lin H (lnQ lo w i)=lo*H ⟨0,0,0⟩+w*H (Da3 i):=by
 have e3:Dc6 (i:Int) = [(Da3 i,1)]:=by unfold Dc6;rw[if_pos ⟨by omega,by omega⟩,Int.toNat_natCast]
 have e4:lin H (pmap (Dc6 (i:Int)) w)=w*lin H (Dc6 (i:Int)):=Gs4 H w _
 rw[lnQ,Gi6,Gl3,Gi6,Gi6,e4,e3]
 show lo*H ⟨0,0,0⟩+0+w*(1*H (Da3 i)+0)=_
 grind
theorem Ky0 (f:Nat→Nat→Rat) (lo w:Rat) {i:Nat} (hi:i<3) {c:List Tm} (hc:POk c):lin (PF f) (An8 c (lnQ lo w i))=lin (PF (Kx9 f i (La0 lo w (f i)))) c:=by
 rw[Ky1]
 refine Jf9 fun t ht=>?_
 have h0:=hc t ht
 have hz:(⟨0,0,0⟩:Mon).ok:=by decide
 rw[Lb4 _ _ _ hi,Kw1 f (t.1.add ⟨0,0,0⟩) hi,Kw1 f (t.1.add (Da3 i)) hi,Kw1 _ t.1 hi,Kz2]
 have p1:Jg4 (fun j=>if j=i then 1 else f j (eg (t.1.add ⟨0,0,0⟩) j)) 3=Jg4 (fun j=>if j=i then 1 else f j (eg t.1 j)) 3:=Jf8 3 fun j _=>by rw[Kx7 h0 hz,Ky7,Nat.add_zero]
 have p2:Jg4 (fun j=>if j=i then 1 else f j (eg (t.1.add (Da3 i)) j)) 3=Jg4 (fun j=>if j=i then 1 else f j (eg t.1 j)) 3:=Jf8 3 fun j hj=>by
  by_cases e:j=i
  ·rw[if_pos e,if_pos e]
  ·rw[if_neg e,if_neg e,Kx7 h0 (Kz9 i),Kz4 hi hj,if_neg e,Nat.add_zero]
 have p3:Jg4 (fun j=>if j=i then 1 else Kx9 f i (La0 lo w (f i)) j (eg t.1 j)) 3=Jg4 (fun j=>if j=i then 1 else f j (eg t.1 j)) 3:=Jf8 3 fun j _=>by
  by_cases e:j=i
  ·rw[if_pos e,if_pos e]
  ·rw[if_neg e,if_neg e,Kx9,if_neg e]
 rw[p1,p2,p3,Kx7 h0 hz,Ky7,Nat.add_zero,Kx7 h0 (Kz9 i),Kz4 hi hi,if_pos rfl]
 unfold La0
 grind
theorem Kt7 {c d q:List Tm} {r:List (List Tm)} (h:Ks2 c (q :: r)=some d):Ct4 c q∧Ks2 (Ag2 (An8 c q)) r=some d:=by
 have e:Ks2 c (q :: r)=r.foldl Kr9 (Kr9 (some c) q):=rfl
 rw[e] at h
 unfold Kr9 at h
 dsimp only at h
 split at h
 ·rename_i hM
  exact⟨hM,h⟩
 ·have h:r.foldl Kr9 none=some d:=h
  rw[Ks0] at h
  cases h
theorem Ku1: ∀{l:List (List Tm)} {c d:List Tm} (_:Ks2 c l=some d) (_:POk c),POk d
 | [],c,d,h,hc=>by
  simp[Ks2] at h
  subst h
  exact hc
 | q :: r,c,d,h,hc=>by
  obtain⟨hM,h⟩:=Kt7 h
  exact Ku1 h (POk.Ff3 hM)
theorem Ku0 {l r:List (List Tm)} {c d:List Tm} (h:Ks2 c (l ++ r)=some d): ∃c1,Ks2 c l=some c1∧Ks2 c1 r=some d:=by
 cases hl:Ks2 c l with
 | none=>rw[Kx5 c l r hl] at h;cases h
 | some c1=>
  refine⟨c1,rfl,?_⟩
  unfold Ks2 at *
  rw[List.foldl_append,hl] at h
  exact h
theorem Kw7 (lo w:Rat) {i:Nat} (hi:i<3): ∀(e:Nat) (f:Nat→Nat→Rat) {c d:List Tm},POk c→Ks2 c (List.replicate e (lnQ lo w i))=some d→lin (PF f) d=lin (PF (Kx9 f i (La4 lo w (f i) e))) c
 | 0,f,c,d,hc,h=>by
  simp[Ks2] at h
  subst h
  show _=lin (PF (Kx9 f i (f i))) c
  rw[Kz7]
 | e+1,f,c,d,hc,h=>by
  rw[List.replicate_succ] at h
  obtain⟨hM,h⟩:=Kt7 h
  rw[Kw7 lo w hi e f (POk.Ff3 hM) h,Gi6,Ky0 _ _ _ hi hc,Kz2,La1]
  rfl
theorem Ku6 {lo w:Rat} {i:Nat} (hi:i<3) {e:Nat} {q:List Tm} (hq:q=lnQ lo w i∨e=0) (f:Nat→Nat→Rat) {c d:List Tm} (hc:POk c) (h:Ks2 c (List.replicate e q)=some d):lin (PF f) d=lin (PF (Kx9 f i (La4 lo w (f i) e))) c:=by
 rcases hq with rfl | rfl
 ·exact Kw7 lo w hi e f hc h
 ·exact Kw7 lo w hi 0 f hc h
theorem La2 {lo w:Nat→Rat} {q:Nat→List Tm} (f:Nat→Nat→Rat) {t:Tm} (hq: ∀i,i<3→q i=lnQ (lo i) (w i) i∨ege t i=0) {d:List Tm} (h:Ks1 q t=some d):lin (PF f) d=t.2*Jg4 (fun i=>La4 (lo i) (w i) (f i) (ege t i) 0) 3:=by
 unfold Ks1 at h
 have e:Ks6 q (ege t) 3=([] ++ List.replicate (ege t 0) (q 0)) ++ List.replicate (ege t 1) (q 1) ++ List.replicate (ege t 2) (q 2):=rfl
 rw[e,List.nil_append] at h
 obtain⟨c2,h2,h⟩:=Ku0 h
 obtain⟨c1,h1,h2⟩:=Ku0 h2
 have o0:=Lb5 t.2
 have o1:=Ku1 h1 o0
 have o2:=Ku1 h2 o1
 rw[Ku6 (by omega) (hq 2 (by omega)) f o2 h,Ku6 (by omega) (hq 1 (by omega)) _ o1 h2,Ku6 (by omega) (hq 0 (by omega)) _ o0 h1]
 have ec: ∀G:Mon→Rat,lin G (cst t.2)=t.2*G ⟨0,0,0⟩:=fun G=>by rw[cst,Gi6,lin,lin,Rat.add_zero]
 rw[ec]
 congr 1
theorem Kx0 {lo w:Nat→Rat} {q:Nat→List Tm} (f:Nat→Nat→Rat): ∀{p d:List Tm} (_: ∀t∈p,∀i,i<3→q i=lnQ (lo i) (w i) i∨ege t i=0) (_:Kr8 q p=some d),lin (PF f) d=lin (fun m=>Jg4 (fun i=>La4 (lo i) (w i) (f i) (eg m i) 0) 3) p
 | [],d,_,h=>by
  simp only[Kr8,Option.some.injEq] at h
  subst h
  rfl
 | t :: r,d,hq,h=>by
  rw[Kr8] at h
  split at h
  ·rename_i c d' h1 h2
   simp only[Option.some.injEq] at h
   subst h
   rw[Gl3,La2 f (hq t (by simp)) h1,Kx0 f (fun u hu=>hq u (by simp[hu])) h2,lin]
   rfl
  ·cases h
theorem Kv3 {g:Nat→Rat} {n:Nat} (hn:n≤3) (h: ∀i,n≤i→i<3→g i=1):Jg4 g 3=Jg4 g n:=by
 rcases(by omega:n=0∨n=1∨n=2∨n=3) with rfl | rfl | rfl | rfl
 ·show 1*g 0*g 1*g 2=1
  rw[h 0 (by omega) (by omega),h 1 (by omega) (by omega),h 2 (by omega) (by omega)];grind
 ·show 1*g 0*g 1*g 2=1*g 0
  rw[h 1 (by omega) (by omega),h 2 (by omega) (by omega)];grind
 ·show 1*g 0*g 1*g 2=1*g 0*g 1
  rw[h 2 (by omega) (by omega)];grind
 ·rfl
def rfQ (zs:List Int) (k:Nat) (m:Mon) (n:Nat):Rat:=Jg4 (fun i=>(ch (dig zs i k) (eg m i):Rat)/(ch (tpN zs i-1) (eg m i):Rat)) n
def rfF (zs:List Int) (n k:Nat) (i e:Nat):Rat:=if i<n then(ch (dig zs i k) e:Rat)/(ch (tpN zs i-1) e:Rat) else 1
theorem Lb9 (zs:List Int) (k:Nat) (m:Mon) {n:Nat} (hn:n≤3):rfQ zs k m n=PF (rfF zs n k) m:=by
 unfold PF
 rw[Kv3 (n:=n) hn fun i h1 h2=>by unfold rfF;rw[if_neg (by omega)]]
 exact Jf8 n fun i hi=>by unfold rfF;rw[if_pos hi]
def Kr7 (bs:List Iv) (n i:Nat):List Tm:=if i<n then lnQ (Bm3 bs i).1 ((Bm3 bs i).2-(Bm3 bs i).1) i else[]
theorem La9 {p:List Tm} {bs:List Iv} (hp:Av6 p) (ho:POk p) (h:Ii7 p bs) {k:Nat} (hk:k<stN (Ie8 p bs.length) bs.length) {q:Nat→List Tm} (hq: ∀i,i<3→q i=Kr7 bs bs.length i) {d:List Tm} (hd:Kr8 q p=some d):lin (fun m=>rfQ (Ie8 p bs.length) k m bs.length) d=Jk3 p bs k:=by
 have hl:=Io1 p bs.length
 have hf:=Jk7 ho h
 have hb:=h.1.1.1.2
 rw[Jf9 (H:=PF (rfF (Ie8 p bs.length) bs.length k)) fun t _=>Lb9 _ k t.1 hb,Kx0 (lo:=fun i=>(Bm3 bs i).1) (w:=fun i=>(Bm3 bs i).2-(Bm3 bs i).1) _ (fun t ht i hi=>?_) hd,Jm9 hp ho h hk]
 ·refine Jf9 fun t ht=>?_
  obtain⟨h1,h2⟩:=hf t ht
  rw[Kv3 (n:=bs.length) hb fun i hi hi3=>by
   rw[h2 i (by omega) hi3]
   show rfF _ _ _ i 0=1
   unfold rfF
   rw[if_neg (by omega)]]
  refine Jf8 _ fun i hi=>?_
  have ht1:=h1 i (by omega)
  have hd1:=Jq8 (Ie8 p bs.length) i k
  have e:rfF (Ie8 p bs.length) bs.length k i=fun j=>(ch (dig (Ie8 p bs.length) i k) j:Rat)/(ch (tpN (Ie8 p bs.length) i-1) j:Rat):=by
   funext j
   unfold rfF
   rw[if_pos hi]
  rw[e,Lb0 (by omega) (by omega)]
  unfold gF
  congr 1
  grind
 ·by_cases hi2:i<bs.length
  ·exact .inl (by rw[hq i hi,Kr7,if_pos hi2])
  ·exact .inr ((hf t ht).2 i (by omega) hi)
end Go.Proofs.YtokefihiadbkbaaGreatDoor
/- ref over, places. -/
namespace Go.Proofs.YtokefihiadbkbaaGreatDoor
open Go Go.SX
theorem Ii4 {c:Nat} (h:c≤65536):Sz 1 ((c:Nat):Rat):=
 ⟨by rw[Rat.num_natCast];exact Bc6 (Nat.lt_of_le_of_lt h (by decide +kernel)),by rw[Rat.den_natCast,Ax0];exact Nat.le_refl _⟩
theorem Jb5 (n j:Nat):(ch n j:Rat)*(((n-j:Nat):Rat)/((j+1:Nat):Rat))=(ch n (j+1):Rat):=by
 have hm:(ch n (j+1):Rat)*((j+1:Nat):Rat)=(ch n j:Rat)*((n-j:Nat):Rat):=by
  have:=congrArg (fun x:Nat=>(x:Rat)) (Ip7 n j)
  simpa only[Rat.natCast_mul] using this
 have hc:((j+1:Nat):Rat)≠0:=fun e=>absurd (show j+1=0 by exact_mod_cast e) (by omega)
 rw[Rat.div_def,←Rat.mul_assoc,←hm,Rat.mul_assoc,Rat.mul_inv_cancel _ hc,Rat.mul_one]
def ovB (W0:PW) (n k:Nat) (L:List PL) (W:PW):Prop:=match L with
 | [.val (.int .i64 z),.cells l]=>∃(j:Nat) (b:Bool) (s t:Sl),z=(j:Int)∧l = [.bool b,s.v,t.v]∧j≤k∧Ext W0 W∧Ab6 231 W b s t ((ch n j:Nat):Rat)
 | _=>False
def Jb8 (n:Nat) (L:List PL) (_:PW):Nat:=match L with
 | [.val (.int .i64 z),_]=>n-z.toNat
 | _=>0
theorem Eb8 {W0:PW} {M:Nat→Prop} {n k:Nat} (hn:n≤16) (hk:k≤n):
  Aa0 Tryz.prog 90 [.int .i64 (n:Int),.int .i64 (k:Int)] W0 M fun v W'=>∃(b:Bool),∃(s:Sl),∃(t:Sl),v = .agg ⟨[.bool b,Sl.v s,Sl.v t]⟩∧Ab6 231 W' b s t ((ch n k:Nat):Rat):=by
 apply Im5
 refine Ak1 (z:=1) (by unfold I64;omega) fun b3 s4 s5 W2 hE2 h2=>⟨b3,s4,s5,rfl,?_⟩
 refine⟨ovB W0 n k,Jb8 k,⟨0,b3,s4,s5,rfl,rfl,Nat.zero_le _,hE2,by rw[If2];exact h2⟩,?_⟩
 rintro b8 s9 s10 i11 W12 ⟨j,b,s,t,rfl,el,hj,hE12,h12⟩
 simp only[List.cons.injEq,Value.bool.injEq,and_true] at el
 obtain⟨rfl,q1,q2⟩:=el
 obtain rfl:=Sl.Ck0 q1
 obtain rfl:=Sl.Ck0 q2
 refine⟨fun hlt=>?_,fun hge W33 hE33=>⟨b8,s9,s10,rfl,?_⟩⟩
 ·have hjk:j<k:=by omega
  have e0:(n:Int)-(j:Int)=((n-j:Nat):Int):=by omega
  have e1:(j:Int)+1=((j+1:Nat):Int):=by omega
  rw[e0,e1]
  refine⟨by unfold I64;omega,by unfold I64;omega,?_⟩
  refine Ak1 (z:=((n-j:Nat):Int)) (by unfold I64;omega) fun b15 s16 s17 W14 hE14 h14=>⟨b15,s16,s17,rfl,?_⟩
  refine Ak1 (z:=((j+1:Nat):Int)) (by unfold I64;omega) fun b20 s21 s22 W19 hE19 h19=>⟨b20,s21,s22,rfl,?_⟩
  have z1:Sz 1 ((n-j:Nat):Rat):=Ii4 (by omega)
  have z2:Sz 1 ((j+1:Nat):Rat):=Ii4 (by omega)
  have hc:((j+1:Nat):Rat)≠0:=fun e=>absurd (show j+1=0 by exact_mod_cast e) (by omega)
  refine Io3 (p:=((n-j:Nat):Rat)) (q:=((j+1:Nat):Rat)) (h14.ext hE19) h19 z1 z2 hc (by omega) (by omega) fun b25 s26 s27 W24 hE24 h24=>⟨b25,s26,s27,rfl,?_⟩
  have E:=hE14.trans (hE19.trans hE24)
  refine Am6 (h12.ext E) h24 (Ii4 (Iq6 hn j)) (z1.div z2 (by omega)) (by omega) (by omega) fun b30 s31 s32 W29 hE29 h29=>⟨b30,s31,s32,rfl,by unfold I64;omega,⟨j+1,b30,s31,s32,rfl,rfl,by omega,hE12.trans (E.trans hE29),by rw[←Jb5];exact h29⟩,by show k-Int.toNat ((j+1:Nat):Int)<k-Int.toNat (j:Int);omega⟩
 ·have:j=k:=by omega
  subst this
  exact h12.ext hE33
theorem Cs3 {W0 W:PW} {M:Nat→Prop} {n k:Nat} {K:Value→PW→Prop} (hn:n≤16) (hk:k≤n) (kont: ∀(b:Bool) (s:Sl) (t:Sl) (W':PW),Ext W W'→(Ab6 231 W' b s t ((ch n k:Nat):Rat))→K (.agg ⟨[.bool b,Sl.v s,Sl.v t]⟩) W'):
  Aa1 Tryz.prog W0 M 90 [.int .i64 (n:Int),.int .i64 (k:Int)] W K:=
 Aa2 (fun W' hE=>Eb8 (M:=fun _=>False) hn hk) (fun W' v W'' hE hE' hP=>by
  obtain⟨b,s,t,rfl,h⟩:=hP
  exact kont b s t W'' (hE.trans hE') h)
def Is3 (c:Nat) (zs:List Int):Prop:=Ie1 zs∧c=stN zs zs.length
instance (c:Nat) (zs:List Int):Decidable (Is3 c zs):=by unfold Is3;infer_instance
end Go.Proofs.YtokefihiadbkbaaGreatDoor
/- ref BernAt. -/
namespace Go.Proofs.YtokefihiadbkbaaGreatDoor
open Go Go.SX
def Jc9 (tu:TypeId) (W:PW) (l:List Value) (q:Rat):Prop:=∃(b:Bool) (s t:Sl),l = [.bool b,s.v,t.v]∧Ab6 tu W b s t q
def Id5 (W:PW) (s:Sl) (l:List Rat):Prop:=Dr1 (Jc9 231) 3 W s l
theorem Id5.ext {W W':PW} {s:Sl} {l:List Rat} (h:Id5 W s l) (hE:Ext W W'):Id5 W' s l:=Dr1.ext (R:=Jc9 231) (fun⟨b,s,t,e,h⟩ hE=>⟨b,s,t,e,h.ext hE⟩) h hE
theorem Id5.n {W:PW} {s:Sl} {l:List Rat} (h:Id5 W s l):s.n=l.length:=Dr1.n h
theorem Id5.inB {W:PW} {s:Sl} {l:List Rat} (h:Id5 W s l) {i:Int} (h0:0≤i) (h1:i<(l.length:Int)):SX.inB s i:=Dr1.inB h h0 h1
theorem Id5.at {W:PW} {s:Sl} {l:List Rat} (h:Id5 W s l) {i:Nat} (hi:i<l.length): ∃(b:Bool) (s1 t:Sl),Aa7 W s 3 i 0 [.bool b,s1.v,t.v]∧Ab6 231 W b s1 t (l.getD i 0):=by
 obtain⟨_,⟨b,s1,t,rfl,g⟩,hel⟩:=Dr1.at h hi
 refine⟨b,s1,t,hel 0 rfl,?_⟩
 rw[List.getD_eq_getElem?_getD,List.getElem?_eq_getElem hi]
 exact g
end Go.Proofs.YtokefihiadbkbaaGreatDoor
/- cinctureref1.Half. -/
namespace Go.Proofs.YtokefihiadbkbaaGreatDoor
open Go Go.SX
end Go.Proofs.YtokefihiadbkbaaGreatDoor
/- ref Halves. -/
namespace Go.Proofs.YtokefihiadbkbaaGreatDoor
open Go Go.SX
def Ir0 (f:Nat→Rat) (n:Nat):List Rat:=(List.range n).map f
theorem Is8 (f:Nat→Rat) (n:Nat):(Ir0 f n).length=n:=by unfold Ir0;rw[List.length_map,List.length_range]
theorem Iw2 {f:Nat→Rat} {n i:Nat} (hi:i<n):(Ir0 f n).getD i 0=f i:=by
 unfold Ir0
 rw[List.getD_eq_getElem?_getD,List.getElem?_map,List.getElem?_range hi]
 rfl
theorem Iy6 {W:PW} : ∀{xs:List (List Value)} {n:Nat} {f:Nat→Rat},RQs 231 W xs n f→An5 (Jc9 231 W) xs (Ir0 f n):=by
 intro xs n
 induction n generalizing xs with
 | zero=>
  intro f h
  have:=List.eq_nil_of_length_eq_zero h.1
  subst this
  trivial
 | succ n ih=>
  intro f h
  have hl:=h.1
  obtain⟨s,b,s',h1,h2⟩:=h.2 n (by omega)
  have e:xs=xs.take n ++ [[.bool b,s.v,s'.v]]:=by
   have:=List.take_succ_eq_append_getElem (l:=xs) (i:=n) (by omega)
   rw[List.take_of_length_le (by omega)] at this
   rw[List.getElem?_eq_getElem (by omega)] at h1
   rw[←Option.some.inj h1]
   exact this
  have e2:Ir0 f (n+1)=Ir0 f n ++ [f n]:=by unfold Ir0;rw[List.range_succ,List.map_append];rfl
  rw[e,e2]
  exact(ih ⟨by rw[List.length_take];omega,fun i hi=>by
   obtain⟨s,b,s',h1,h2⟩:=h.2 i (by omega)
   exact⟨s,b,s',by rw[List.getElem?_take,if_pos hi];exact h1,h2⟩⟩).snoc ⟨b,s,s',rfl,h2⟩
theorem Il3 {W:PW} {ty:TypeId} {s:Sl} {xs:List (List Value)} {n:Nat} {f:Nat→Rat} (hr:Row W ty 3 s xs) (h:RQs 231 W xs n f):Id5 W s (Ir0 f n):=⟨xs,⟨_,hr⟩,Iy6 h⟩
end Go.Proofs.YtokefihiadbkbaaGreatDoor
/- bound.Mean, Best. -/
namespace Go.Proofs.YtokefihiadbkbaaGreatDoor
open Go Go.SX
end Go.Proofs.YtokefihiadbkbaaGreatDoor
/- cinctureref1: MonoVars, PolyDegree, PolyVars, Top. -/
namespace Go.Proofs.YtokefihiadbkbaaGreatDoor
open Go Go.SX
def mvI (m:Mon) (L:List PL):Prop:=match L with
 | [.val (.int .i64 a),.val (.int .i64 i)]=>∃k:Nat,i=(k:Int)∧k≤3∧a=(if 2<k∧0<m.z then 3 else if 1<k∧0<m.y then 2 else if 0<k∧0<m.x then 1 else 0)
 | _=>False
theorem Gk7 {W0:PW} {M:Nat→Prop} {m:Mon} (hm:m.ok):
  Aa0 Tryz.prog 197 [.agg ⟨[.int .u8 m.x,.int .u8 m.y,.int .u8 m.z]⟩] W0 M fun v W'=>v = .int .i64 (Cx8 m)∧True:=by
 apply Gh2
 refine⟨fun L _=>mvI m L,fun L _=>match L with | [_,.val (.int .i64 i)]=>3-i.toNat | _=>0,⟨0,rfl,by omega,rfl⟩,?_⟩
 rintro i3 i4 W5 ⟨k,rfl,hk,rfl⟩
 refine⟨fun hlt=>?_,fun hge W7 _=>⟨?_,trivial⟩⟩
 ·have hk3:k<3:=by omega
  have hmu:3-Int.toNat ((k:Int)+1)<3-Int.toNat (k:Int):=by omega
  refine⟨⟨by omega,by omega⟩,_,Aw0 m hk3 _ _ _ rfl rfl rfl,fun hp=>⟨by unfold I64;omega,by unfold I64;omega,⟨k+1,by push_cast;rfl,by omega,?_⟩,hmu⟩,fun hp=>⟨by unfold I64;omega,⟨k+1,by push_cast;rfl,by omega,?_⟩,hmu⟩⟩
  all_goals
   rcases(by omega:k=0∨k=1∨k=2) with rfl | rfl | rfl<;>simp[An6] at hp⊢<;>(try simp[hp])<;>(repeat' split)<;>first | rfl | omega
 ·have:k=3:=by omega
  subst this
  congr 1
  unfold Cx8
  (repeat' split)<;>first | rfl | omega
theorem Gh7 {W0 W:PW} {M:Nat→Prop} {m:Mon} {K:Value→PW→Prop} (hm:m.ok) (kont: ∀(W':PW),Ext W W'→(True)→K (.int .i64 (Cx8 m)) W'):
  Aa1 Tryz.prog W0 M 197 [.agg ⟨[.int .u8 m.x,.int .u8 m.y,.int .u8 m.z]⟩] W K:=
 Aa2 (fun W' hE=>Gk7 (M:=fun _=>False) hm) (fun W' v W'' hE hE' hP=>by
  obtain⟨rfl,h⟩:=hP
  exact kont W'' (hE.trans hE') h)
def rdI (w:Mon→Int) (n:Int) (W0:PW) (p:List Tm) (L:List PL) (W:PW):Prop:=match L with
 | [.val (.int .i64 a),.val (.int .i64 k)]=>∃j:Nat,k=(j:Int)∧j≤p.length∧Ext W0 W∧a=Fd0 w n (p.take j)
 | _=>False
theorem Gk8 {W0:PW} {M:Nat→Prop} {s:Sl} {p:List Tm} (h:Ag1 231 142 W0 s p) (hl:p.length≤1099511627776):
  Aa0 Tryz.prog 150 [s.v] W0 M fun v W'=>v = .int .i64 (Fd0 Cx8 0 p)∧True:=by
 apply Gh3
 have hn:=h.n
 refine⟨rdI Cx8 0 W0 p,Fv5 p,⟨0,rfl,by omega,Ext.refl _,rfl⟩,?_⟩
 rintro i3 i4 W5 ⟨j,rfl,hj,hE,rfl⟩
 refine⟨fun hlt=>?_,fun hge W13 _=>⟨?_,trivial⟩⟩
 ·have hjl:j<p.length:=by omega
  have hP:=h.ext hE
  obtain⟨k0,c1,d1,c2,_,e1,_,hr⟩:=hP.at (List.getElem?_eq_getElem hjl)
  have hmu:p.length-Int.toNat ((j:Int)+1)<p.length-Int.toNat (j:Int):=by omega
  exact⟨hP.inB (by omega) (by omega),_,_,_,e1,Gh7 k0 fun W13 hE13 _=>⟨_,rfl,by unfold I64;omega,⟨j+1,by push_cast;rfl,by omega,hE.trans hE13,by rw[Ce0 hjl,Em4]⟩,hmu⟩⟩
 ·have:j=p.length:=by omega
  subst this
  rw[List.take_length]
theorem Gi0 {W0 W:PW} {M:Nat→Prop} {s:Sl} {p:List Tm} {K:Value→PW→Prop} (h:Ag1 231 142 W s p) (hl:p.length≤1099511627776) (kont: ∀(W':PW),Ext W W'→(True)→K (.int .i64 (Fd0 Cx8 0 p)) W'):
  Aa1 Tryz.prog W0 M 150 [s.v] W K:=
 Aa2 (fun W' hE=>Gk8 (M:=fun _=>False) (h.ext hE) hl) (fun W' v W'' hE hE' hP=>by
  obtain⟨rfl,h⟩:=hP
  exact kont W'' (hE.trans hE') h)
theorem Jg8 {w:Mon→Int} (h: ∀m,w m=0) (p:List Tm):Fd0 w 0 p=0:=by
 have h1:=(Hv3 (w:=w) (n:=0) (p:=p)).1
 have h2:=Hx0 (w:=w) (n:=0) (e:=0) (p:=p) (Int.le_refl 0) fun t _=>by rw[h];exact Int.le_refl 0
 omega
theorem Jh1 {i:Int} (h:¬(0≤i∧i<3)) (m:Mon):Fv8 i m=0:=by unfold Fv8;rw[if_neg h]
theorem Jm1 {W:PW} {s:Sl} {p:List Tm} (h:Ag1 231 142 W s p) {j k:Nat} {t:Tm} (hj:p[j]?=some t) (hk:k<3):Aa7 W s 6 j (0+Int.toNat (k:Int)*1) [.int .u8 (An6 t.1 k)]:=by
 obtain⟨xs,h1,h2⟩:=h
 obtain⟨x,hx,h0,b,s1,s2,rfl,hq⟩:=h2.get hj
 refine h1.part hx _ ?_
 rcases(by omega:k=0∨k=1∨k=2) with rfl | rfl | rfl<;>rfl
theorem Jk8 {W0:PW} {M:Nat→Prop} {s:Sl} {p:List Tm} {i:Int} (h:Ag1 231 142 W0 s p) (hl:p.length≤1099511627776):
  Aa0 Tryz.prog 16 [s.v,.int .i64 i] W0 M fun v W'=>v = .int .i64 (Fd0 (Fv8 i) 0 p)∧True:=by
 apply Ji7
 have hn:=h.n
 refine⟨rdI (Fv8 i) 0 W0 p,Fv5 p,⟨0,rfl,by omega,Ext.refl _,rfl⟩,?_⟩
 rintro i3 i4 W5 ⟨j,rfl,hj,hE,rfl⟩
 refine⟨fun hlt=>⟨fun h0=>⟨fun h3=>?_,fun h3 W7 _=>⟨?_,trivial⟩⟩,fun h0 W8 _=>⟨?_,trivial⟩⟩,fun hge W13 _=>⟨?_,trivial⟩⟩
 ·have hjl:j<p.length:=by omega
  have hP:=h.ext hE
  obtain⟨k0,_⟩:=hP.at (List.getElem?_eq_getElem hjl)
  have hmu:p.length-Int.toNat ((j:Int)+1)<p.length-Int.toNat (j:Int):=by omega
  obtain⟨m,rfl⟩:=Int.eq_ofNat_of_zero_le h0
  have he:=Dg9 k0 m
  refine⟨hP.inB (by omega) (by omega),⟨h0,h3⟩,_,Jm1 hP (List.getElem?_eq_getElem hjl) (by omega),by unfold I64;omega,by unfold I64;omega,⟨j+1,by push_cast;rfl,by omega,hE,?_⟩,hmu⟩
  rw[Ce0 hjl,Em4]
  congr 1
  unfold Fv8
  rw[if_pos ⟨h0,h3⟩,Int.toNat_natCast]
 ·rw[Jg8 (Jh1 (by omega)),Jg8 (Jh1 (by omega))]
 ·rw[Jg8 (Jh1 (by omega)),Jg8 (Jh1 (by omega))]
 ·have:j=p.length:=by omega
  subst this
  rw[List.take_length]
theorem Jg6 {W0 W:PW} {M:Nat→Prop} {s:Sl} {p:List Tm} {i:Int} {K:Value→PW→Prop} (h:Ag1 231 142 W s p) (hl:p.length≤1099511627776) (kont: ∀(W':PW),Ext W W'→(True)→K (.int .i64 (Fd0 (Fv8 i) 0 p)) W'):
  Aa1 Tryz.prog W0 M 16 [s.v,.int .i64 i] W K:=
 Aa2 (fun W' hE=>Jk8 (M:=fun _=>False) (h.ext hE) hl) (fun W' v W'' hE hE' hP=>by
  obtain⟨rfl,h⟩:=hP
  exact kont W'' (hE.trans hE') h)
end Go.Proofs.YtokefihiadbkbaaGreatDoor
