/- bern.based, what is done to a line for the coefficients. -/
import Derived.Test.YtokefihiadbkbaaGreatDoorW10
import Derived.Test.YtokefihiadbkbaaGreatDoorW9
import Derived.Test.YtokefihiadbkbaaGreatDoorW8
import Derived.Test.YtokefihiadbkbaaGreatDoorW6
import Derived.Test.YtokefihiadbkbaaGreatDoorW5
import Derived.Test.YtokefihiadbkbaaGreatDoorR12
import Derived.Shelf.Spec.TrailingZeros
import Derived.Shelf.SlGeneric
import Derived.Test.YtokefihiadbkbaaGreatDoorProg
import Derived.Test.YtokefihiadbkbaaGreatDoorTt
import Derived.Test.YtokefihiadbkbaaGreatDoorLib1
import Derived.Test.YtokefihiadbkbaaGreatDoorLib2
import Derived.Test.YtokefihiadbkbaaGreatDoorLib3
import Derived.Test.YtokefihiadbkbaaGreatDoorRows
import Derived.WalkKit
import Derived.ProofKit
import Derived.OpenShut
import Derived.JoinedCond
import Derived.Carry
import Derived.Deep.Strs
import Derived.Deep.Slices
set_option linter.unusedVariables false
set_option linter.unusedSimpArgs false
set_option maxRecDepth 100000
namespace Go.Proofs.YtokefihiadbkbaaGreatDoor
open Go Go.SX
theorem Ja4 {D N n p:Nat} {f:Nat→Rat} (hf:Id9 n D N f) (hn:n≤17):Id9 n (D*chK) (N*chK) (dvS (n-1) f p):=fun i hi=>by
 unfold dvS
 split
 ·exact Iw5 (hf i hi) (Ja2 (n-1) (by omega) i (by omega) (by omega))
 ·exact(hf i hi).scale chK
theorem Ja5:nl chK≤1:=by decide +kernel
theorem Jc0 {D N n e:Nat} {g:Nat→Rat} (hg:Id9 n D N g) (hn:n≤17):Id9 n D (N*(65536*17)) (smS g e):=fun i hi=>by
 unfold smS
 split
 ·refine(Ii0 hg (by omega) (i+1) (by omega)).mono ?_
  rw[Nat.mul_assoc]
  exact Nat.mul_le_mul_left _ (Nat.mul_le_mul_left _ (by omega))
 ·exact(hg i hi).mono (Nat.le_mul_of_pos_right _ (by decide))
def bsI (s:Sl) (n:Nat) (f:Nat→Rat) (L:List PL) (W:PW):Prop:=match L with
 | [.val (.int .i64 z)]=>∃p:Nat,z=(p:Int)∧p≤n∧VQ W s n (dvS (n-1) f p)
 | _=>False
def bsO (s:Sl) (n:Nat) (g:Nat→Rat) (L:List PL) (W:PW):Prop:=match L with
 | [.val (.int .i64 z)]=>∃e:Nat,z=(e:Int)-1∧e≤n∧VQ W s n (smS g e)
 | _=>False
def bsS (s:Sl) (n k:Nat) (g:Nat→Rat) (L:List PL) (W:PW):Prop:=match L with
 | [.val (.int .i64 z),.cells l]=>∃(m:Nat) (s3:Sl) (b3:Bool) (t3:Sl),z=(m:Int)∧l = [s3.v,.bool b3,t3.v]∧m≤k+1∧VQ W s n (smS g (k+1))∧Ab3 231 W s3 b3 t3 (Iv7 g k m)
 | _=>False
theorem Ip2 {W0:PW} {s:Sl} {n D N k:Nat} {f:Nat→Rat} (h:VQ W0 s n f) (hf:Id9 n D N f) (hD:D≠0) (k1:nl D≤k) (k2:nl N≤k) (hn:n≤17) (hn0:0<n) (hk:k≤10000000):
  Aa0 Tryz.prog 70 [s.v] W0 (fun g=>s.v.ownBlock=some g) fun v W'=>v = .tuple ⟨[]⟩∧VQ W' s n (Jd3 n f):=by
 apply Ik6
 have hs:=h.n
 have hM: ∀g,s.v.ownBlock=some g→may W0 (fun g=>s.v.ownBlock=some g) g:=fun g hg=>.inl hg
 have c1:=Ja5
 have d1:=Ae5 D chK
 have d2:=Ae5 N chK
 have hD2:D*chK≠0:=Nat.mul_ne_zero hD (by decide)
 have zd: ∀p i,i<n→Sz (k+1) (dvS (n-1) f p i):=fun p i hi=>(Ja4 hf hn i hi).sz hD2 (by omega) (by omega)
 have hg:Id9 n (D*chK) (N*chK) (dvS (n-1) f n):=Ja4 hf hn
 have d3:=Ae5 (N*chK) (65536*17)
 have c2:nl (65536*17)≤1:=by decide +kernel
 have zs: ∀e i,i<n→Sz (k+2) (smS (dvS (n-1) f n) e i):=fun e i hi=>(Jc0 hg hn i hi).sz hD2 (by omega) (by omega)
 have zm: ∀a m,a<n→m≤n→Sz (k+2) (Iv7 (dvS (n-1) f n) a m):=fun a m ha hm=>((Ii0 hg (by omega) m hm).mono (N':=N*chK*(65536*17)) (by rw[Nat.mul_assoc];exact Nat.mul_le_mul_left _ (Nat.mul_le_mul_left _ (by omega)))).sz hD2 (by omega) (by omega)
 have hs1:((s.n:Nat):Int)-1=((n-1:Nat):Int):=by omega
 have zc: ∀a b,a≤16→Sz 1 ((ch a b:Nat):Rat):=fun a b ha=>by
  have h1:=Iq6 ha b
  have h2:nl (ch a b)≤1:=Bc6 (Nat.lt_of_le_of_lt h1 (by decide +kernel))
  exact⟨by rw[Rat.num_natCast];exact h2,by rw[Rat.den_natCast,Ax0];exact Nat.le_refl _⟩
 unfold Ii3
 rw[hs1]
 refine⟨by unfold I64;omega,bsI s n f,Iv2 n,⟨0,rfl,Nat.zero_le _,by rw[Iz1];exact h⟩,?_⟩
 rintro i3 W4 ⟨p,rfl,hp,hO⟩
 refine⟨fun hlt=>?_,fun hge=>?_⟩
 ·have hpn:p<n:=by omega
  obtain⟨s5,b6,s7,e5,g5⟩:=hO.at hpn
  refine⟨hO.inB (by omega) (by omega),s5,b6,s7,e5,?_⟩
  refine Ie9 (by omega) (by omega) fun s10 b11 s12 W9 hE9 h9=>⟨s10,b11,s12,rfl,hE9,?_⟩
  refine Gb1 (g5.ext hE9) h9 (zd p p hpn) (zc _ _ (by omega)) (by omega) (by omega) (by omega) fun s15 b16 s17 W14 hE14 h14=>⟨s15,b16,s17,_,rfl,(hO.ext (hE9.trans hE14)).inB (by omega) (by omega),?_⟩
  refine(hO.ext (hE9.trans hE14)).store (j:=p) hpn h14 (by decide) hM fun W19 hpu hO19=>⟨by unfold I64;omega,⟨p+1,by push_cast;rfl,by omega,by rw[Iy8];exact hO19⟩,by show n-Int.toNat ((p:Int)+1)<n-Int.toNat (p:Int);omega⟩
 have:p=n:=by omega
 subst this
 refine⟨bsO s p (dvS (p-1) f p),Je1,⟨p,by omega,Nat.le_refl _,hO.congr fun i hi=>by unfold smS;rw[if_neg (by omega)]⟩,?_⟩
 rintro i22 W23 ⟨e,rfl,he,hO3⟩
 refine⟨fun h0=>?_,fun hneg W50 hE50=>⟨rfl,(hO3.ext hE50).congr fun i hi=>?_⟩⟩
 ·obtain⟨a,rfl⟩: ∃a,e=a+1:=⟨e-1,by omega⟩
  have ea:((a+1:Nat):Int)-1=(a:Int):=by omega
  rw[ea]
  refine⟨by unfold I64;omega,bsS s p a (dvS (p-1) f p),Jd8 (a+1),⟨0,⟨none,0,0⟩,false,⟨none,0,0⟩,rfl,rfl,Nat.zero_le _,hO3,Ar9 W23⟩,?_⟩
  rintro s26 b27 s28 i29 W30 ⟨m,s3,b3,t3,rfl,el,hm,hO0,ha0⟩
  simp only[List.cons.injEq,Value.bool.injEq,and_true] at el
  obtain⟨q1,rfl,q3⟩:=el
  obtain rfl:=Sl.Ck0 q1
  obtain rfl:=Sl.Ck0 q3
  refine⟨fun hlt=>?_,fun hge2=>?_⟩
  ·have hma:m<a+1:=by omega
   obtain⟨s31,b32,s33,e31,g31⟩:=hO0.at (i:=m) (by omega)
   have hv:smS (dvS (p-1) f p) (a+1) m=dvS (p-1) f p m:=by unfold smS;rw[if_neg (by omega)]
   rw[hv] at g31
   refine⟨hO0.inB (by omega) (by omega),s31,b32,s33,e31,?_⟩
   refine Ie9 (by omega) (by omega) fun s36 b37 s38 W35 hE35 h35=>⟨s36,b37,s38,rfl,hE35,?_⟩
   refine Ak9 h35 (g31.ext hE35) (zc a m (by omega)) (zd p m (by omega)) (by omega) (by omega) fun s41 b42 s43 W40 hE40 h40=>⟨s41,b42,s43,rfl,?_⟩
   have E:=hE35.trans hE40
   exact At2 (ha0.ext E) h40 (zm a m (by omega) (by omega)) ((zc a m (by omega)).mul (zd p m (by omega))) (by omega) (by omega) fun s46 b47 s48 W45 hE45 h45=>⟨s46,b47,s48,rfl,by unfold I64;omega,⟨m+1,s46,b47,s48,by push_cast;rfl,rfl,by omega,hO0.ext (E.trans hE45),h45⟩,by show a+1-Int.toNat ((m:Int)+1)<a+1-Int.toNat (m:Int);omega⟩
  ·have:m=a+1:=by omega
   subst this
   refine⟨hO0.inB (by omega) (by omega),hO0.store (j:=a) (by omega) ha0 (by decide) hM fun W49 hpu hO49=>⟨by unfold I64;omega,⟨a,rfl,by omega,by rw[Iz5];exact hO49⟩,by show((a:Int)-1+1).toNat<((a:Int)+1).toNat;omega⟩⟩
 ·have:e=0:=by omega
  subst this
  unfold smS Jd3
  rw[if_pos (Nat.zero_le _)]
  exact Ih1 (n:=p) (fun j hj=>by unfold dvS;rw[if_pos hj]) _ (by omega)
def Iv1 (lo w:Rat) (n:Nat) (f:Nat→Rat):Nat→Rat:=Jd3 n (Jb7 lo w n f)
theorem Is9 {D N E M E2 M2 n:Nat} {lo w:Rat} {f:Nat→Rat} (hf:Id9 n D N f) (hl:Ak3 E M lo) (hw:Ak3 E2 M2 w):Id9 n (D*(E^n)^n*E2^n) (N*((E+M)^n)^n*(E2+M2)^n) (Jb7 lo w n f):=fun i hi=>Jb6 hw (Iv8 hf hl n i hi) (by omega)
theorem Ix8 {D N E M E2 M2 n:Nat} {lo w:Rat} {f:Nat→Rat} (hf:Id9 n D N f) (hl:Ak3 E M lo) (hw:Ak3 E2 M2 w) (hn:n≤17):Id9 n (D*((E^n)^n*E2^n*chK)) (N*(((E+M)^n)^n*(E2+M2)^n*(chK*(65536*17)))) (Iv1 lo w n f):=fun i hi=>by
 have h1:Id9 n _ _ (fun j=>Jb7 lo w n f j/(ch (n-1) j:Rat)):=fun j hj=>Iw5 (Is9 hf hl hw j hj) (Ja2 (n-1) (by omega) j (by omega) (by omega))
 have h2:=(Ii0 h1 (k:=i) (by omega) (i+1) (by omega)).mono (N':=N*(((E+M)^n)^n*(E2+M2)^n*(chK*(65536*17)))) (by
  have:N*((E+M)^n)^n*(E2+M2)^n*chK*65536*(i+1)≤N*((E+M)^n)^n*(E2+M2)^n*chK*65536*17:=Nat.mul_le_mul_left _ (by omega)
  refine Nat.le_trans this (Nat.le_of_eq ?_)
  simp only[Nat.mul_assoc])
 rw[show D*(E^n)^n*E2^n*chK=D*((E^n)^n*E2^n*chK) by simp only[Nat.mul_assoc]] at h2
 exact h2
theorem It6 {W0:PW} {s:Sl} {r:Option Addr} {n D N k l:Nat} {f q:Nat→Rat} (h:VQ W0 s n f) (hb:XQ W0 r 2 q) (ha:Iz4 r s) (hf:Id9 n D N f) (hD:D≠0) (k1:nl D≤k) (k2:nl N≤k) (hl:Sz l (q 0)) (hh:Sz l (q 1)) (hn:n≤17) (hn0:0<n) (hk:k≤1000000) (hl2:l≤1000):
  Aa0 Tryz.prog 68 [s.v,.pointer r] W0 (fun g=>s.v.ownBlock=some g) fun v W'=>v = .tuple ⟨[]⟩∧VQ W' s n (Iv1 (q 0) (q 1-q 0) n f):=by
 apply Ih7
 obtain⟨s1,b2,s3,s4,b5,s6,e1,g1,g2⟩:=hb.two
 refine⟨s1,b2,s3,s4,b5,s6,e1,fun W' hE=>⟨_,_,Io6 (h.ext hE) ⟨g1.ext hE,g2.ext hE⟩ hf hD k1 k2 hl hh hn hn0 hk hl2,fun g hg=>⟨(VQ.pub (h.ext hE) hn0 hg).2,.inl hg⟩,fun v W8 hX8 hP8=>⟨hP8.1,fun W'' hE''=>?_⟩⟩⟩
 have hw:Sz (2*l+1) (q 1-q 0):=(hh.sub hl).mono (by omega)
 have m1:=Is9 hf (Ak3.den (q 0)) (Ak3.den (q 1-q 0))
 have a0:nl ((q 0).den+(q 0).num.natAbs)≤l+1:=Cw6 hl.2 hl.1
 have a1:nl ((q 1-q 0).den+(q 1-q 0).num.natAbs)≤2*l+2:=Cw6 hw.2 hw.1
 have p1:=Ie6 (E:=(q 0).den) (n:=n) (k:=n) (l:=l+1) (by have:=hl.2;omega) hn hn
 have p2:=Ie6 (E:=(q 0).den+(q 0).num.natAbs) (n:=n) (k:=n) (l:=l+1) a0 hn hn
 have p3:=Go.SX.Cf5 (q 1-q 0).den n
 have p4:=Go.SX.Cf5 ((q 1-q 0).den+(q 1-q 0).num.natAbs) n
 have p5:nl (q 1-q 0).den*n≤(2*l+2)*17:=Nat.mul_le_mul (by have:=hw.2;omega) hn
 have p6:nl ((q 1-q 0).den+(q 1-q 0).num.natAbs)*n≤(2*l+2)*17:=Nat.mul_le_mul a1 hn
 have q1:=Ae5 D (((q 0).den^n)^n)
 have q2:=Ae5 (D*((q 0).den^n)^n) ((q 1-q 0).den^n)
 have q3:=Ae5 N ((((q 0).den+(q 0).num.natAbs)^n)^n)
 have q4:=Ae5 (N*(((q 0).den+(q 0).num.natAbs)^n)^n) (((q 1-q 0).den+(q 1-q 0).num.natAbs)^n)
 refine⟨_,_,Ip2 (k:=k+1000000) (hP8.2.ext hE'') m1 (Nat.mul_ne_zero (Nat.mul_ne_zero hD (Ch9 (Ch9 (q 0).den_nz n) n)) (Ch9 (q 1-q 0).den_nz n)) (by omega) (by omega) hn hn0 (by omega),fun g hg=>⟨(VQ.pub (hP8.2.ext hE'') hn0 hg).2,.inl hg⟩,fun v W10 hX10 hP10=>⟨hP10.1,fun W11 hE11=>⟨rfl,hP10.2.ext hE11⟩⟩⟩
end Go.Proofs.YtokefihiadbkbaaGreatDoor
/- bern.Coefs. -/
namespace Go.Proofs.YtokefihiadbkbaaGreatDoor
open Go Go.SX
theorem Ip0 {lo:Rat} {g h:Nat→Rat} {n:Nat} (e: ∀i,i<n→g i=h i): ∀r j,j+r≤n→hor lo g r j=hor lo h r j
 | 0,_,_=>rfl
 | r+1,j,hj=>by rw[hor,hor,e j (by omega),Ip0 e r (j+1) (by omega)]
theorem Im6 {lo:Rat} {g h:Nat→Rat} {n:Nat} (e: ∀i,i<n→g i=h i): ∀k i,i<n→mv lo n g k i=mv lo n h k i
 | 0,i,hi=>e i hi
 | k+1,i,hi=>by
  rw[mv,mv]
  split
  ·exact Im6 e k i hi
  ·exact Ip0 (fun j hj=>Im6 e k j hj) _ _ (by omega)
theorem Iu8 {lo w:Rat} {g h:Nat→Rat} {n:Nat} (e: ∀i,i<n→g i=h i) {i:Nat} (hi:i<n):Iv1 lo w n g i=Iv1 lo w n h i:=by
 unfold Iv1 Jd3
 exact Ih1 (n:=n) (fun j hj=>by unfold Jb7;rw[Im6 e n j hj]) _ (by omega)
def Ie8 (p:List Tm) (n:Nat):List Int:=(List.range n).map fun(i:Nat)=>Fd0 (Fv8 (i:Int)) 0 p
theorem Io1 (p:List Tm) (n:Nat):(Ie8 p n).length=n:=by unfold Ie8;rw[List.length_map,List.length_range]
theorem Is2 {p:List Tm} {n i:Nat} (hi:i<(Ie8 p n).length):(Ie8 p n)[i]=Fd0 (Fv8 (i:Int)) 0 p:=by simp only[Ie8,List.getElem_map,List.getElem_range]
def plS (zs:List Int) (m:Mon):Nat→Nat
 | 0=>0
 | k+1=>plS zs m k+(An6 m k).toNat*stN zs k
theorem Is7 {zs:List Int} {m:Mon} (h: ∀k,k<zs.length→(An6 m k).toNat<tpN zs k): ∀k,k≤zs.length→plS zs m k<stN zs k
 | 0,_=>Nat.one_pos
 | k+1,hk=>by
  have h1:=Is7 h k (by omega)
  have h2:((An6 m k).toNat+1)*stN zs k≤tpN zs k*stN zs k:=Nat.mul_le_mul_right _ (h k (by omega))
  rw[Nat.add_mul,Nat.one_mul] at h2
  rw[plS,stN,Nat.mul_comm (stN zs k)]
  omega
def ten (zs:List Int) (p:List Tm):Nat→Nat→Rat
 | 0=>fun _=>0
 | j+1=>match p[j]? with
  | some t=>Ij6 (ten zs p j) (plS zs t.1 zs.length) t.2
  | none=>ten zs p j
theorem Iq2 {zs:List Int} {p:List Tm} {D N NN:Nat} (h:Fit D N p): ∀j,Id9 NN D N (ten zs p j)
 | 0=>fun i _=>Ak3.zero
 | j+1=>fun i hi=>by
  unfold ten
  cases hp:p[j]? with
  | none=>exact Iq2 h j i hi
  | some t=>
   show Ak3 D N (Ij6 _ _ _ i)
   unfold Ij6
   split
   ·exact h.mem (List.mem_of_getElem? hp)
   ·exact Iq2 h j i hi
def Iw7 (zs:List Int) (bs:List Iv) (F:Nat→Rat):Nat→Nat→Rat
 | 0=>F
 | i+1=>Id6 (stN zs i) (tpN zs i) (Iv1 (Bm3 bs i).1 ((Bm3 bs i).2-(Bm3 bs i).1) (tpN zs i)) (Iw7 zs bs F i)
theorem It2 {st n R D N D' N':Nat} {T:(Nat→Rat)→Nat→Rat} {F:Nat→Rat} (hs:0<st) (hn:0<n) (hF:Id9 (st*n*R) D N F) (hT: ∀f,Id9 n D N f→Id9 n D' N' (T f)):Id9 (st*n*R) D' N' (Id6 st n T F):=fun k hk=>by
 obtain⟨h1,h2,h3,h4⟩:=Id8 (k:=k) hs hn
 exact hT _ (fun j hj=>hF _ (Ig2 hs hn (by omega) h1 hj).1) _ h4
theorem Ja3 {y1 y2 y3 y4 y5 y6 y7 x m k i:Nat} (q4:y1≤x+y2) (q5:y2≤y3+y7) (q6:y3≤y4+y5) (p2:y4≤((m+1)*17+1)*17+1) (p4:y5≤y6+1) (p6:y6≤(2*m+2)*17) (c2:y7≤2) (f4:x≤k+i*400000) (hm:m≤1000):y1≤k+(i+1)*400000:=by omega
theorem Ir6 {zs:List Int} (h16: ∀z∈zs,0≤z∧z≤16) {bs:List Iv} {F:Nat→Rat} {D N k m:Nat} (hF:Id9 (stN zs zs.length) D N F) (hD:D≠0) (k1:nl D≤k) (k2:nl N≤k) (hb: ∀i,IvS m (Bm3 bs i)) (hm:m≤1000): ∀i,i≤zs.length→∃D' N',Id9 (stN zs zs.length) D' N' (Iw7 zs bs F i)∧D'≠0∧nl D'≤k+i*400000∧nl N'≤k+i*400000
 | 0,_=>⟨D,N,hF,hD,by omega,by omega⟩
 | i+1,h=>by
  obtain⟨D1,N1,f1,f2,f3,f4⟩:=Ir6 h16 hF hD k1 k2 hb hm i (by omega)
  obtain⟨R,hR⟩:=Ig5 zs i (zs.length-(i+1))
  rw[show i+1+(zs.length-(i+1))=zs.length by omega] at hR
  have hn:=If0 h16 i
  have hn0:=Ie4 zs i
  have hl:=(hb i).1
  have hw:Sz (2*m+1) ((Bm3 bs i).2-(Bm3 bs i).1):=((hb i).2.sub hl).mono (by omega)
  rw[hR] at f1⊢
  show ∃D' N',Id9 _ D' N' (Id6 (stN zs i) (tpN zs i) (Iv1 (Bm3 bs i).1 ((Bm3 bs i).2-(Bm3 bs i).1) (tpN zs i)) (Iw7 zs bs F i))∧_
  have hT: ∀f,Id9 (tpN zs i) D1 N1 f→Id9 (tpN zs i) _ _ (Iv1 (Bm3 bs i).1 ((Bm3 bs i).2-(Bm3 bs i).1) (tpN zs i) f):=fun f hf=>Ix8 hf (Ak3.den _) (Ak3.den _) hn
  generalize (Bm3 bs i).2-(Bm3 bs i).1=w at *
  generalize (Bm3 bs i).1=lo at *
  have a0:nl (lo.den+lo.num.natAbs)≤m+1:=Cw6 hl.2 hl.1
  have a1:nl (w.den+w.num.natAbs)≤2*m+2:=Cw6 hw.2 hw.1
  generalize tpN zs i=n at *
  have p1:=Ie6 (E:=lo.den) (n:=n) (k:=n) (l:=m+1) (by have:=hl.2;omega) hn hn
  have p2:=Ie6 (E:=lo.den+lo.num.natAbs) (n:=n) (k:=n) (l:=m+1) a0 hn hn
  have p3:=Go.SX.Cf5 w.den n
  have p4:=Go.SX.Cf5 (w.den+w.num.natAbs) n
  have p5:nl w.den*n≤(2*m+2)*17:=Nat.mul_le_mul (by have:=hw.2;omega) hn
  have p6:nl (w.den+w.num.natAbs)*n≤(2*m+2)*17:=Nat.mul_le_mul a1 hn
  have c1:=Ja5
  have c2:nl (chK*(65536*17))≤2:=by decide +kernel
  have q1:=Ae5 D1 ((lo.den^n)^n*w.den^n*chK)
  have q2:=Ae5 ((lo.den^n)^n*w.den^n) chK
  have q3:=Ae5 ((lo.den^n)^n) (w.den^n)
  have q4:=Ae5 N1 (((lo.den+lo.num.natAbs)^n)^n*(w.den+w.num.natAbs)^n*(chK*(65536*17)))
  have q5:=Ae5 (((lo.den+lo.num.natAbs)^n)^n*(w.den+w.num.natAbs)^n) (chK*(65536*17))
  have q6:=Ae5 (((lo.den+lo.num.natAbs)^n)^n) ((w.den+w.num.natAbs)^n)
  have hX:Id9 (stN zs i*n*R) (D1*((lo.den^n)^n*w.den^n*chK)) (N1*(((lo.den+lo.num.natAbs)^n)^n*(w.den+w.num.natAbs)^n*(chK*(65536*17)))) (Id6 (stN zs i) n (Iv1 lo w n) (Iw7 zs bs F i)):=It2 (Ie2 zs i) hn0 f1 hT
  have hY:D1*((lo.den^n)^n*w.den^n*chK)≠0:=Nat.mul_ne_zero f2 (Nat.mul_ne_zero (Nat.mul_ne_zero (Ch9 (Ch9 lo.den_nz n) n) (Ch9 w.den_nz n)) (by decide))
  exact⟨_,_,hX,hY,Ja3 q1 q2 q3 p1 p3 p5 (Nat.le_trans c1 (by omega)) f3 hm,Ja3 q4 q5 q6 p2 p4 p6 c2 f4 hm⟩
def Ii7 (p:List Tm) (bs:List Iv):Prop:=An3 p bs∧Ie1 (Ie8 p bs.length)
instance (p:List Tm) (bs:List Iv):Decidable (Ii7 p bs):=by unfold Ii7;infer_instance
end Go.Proofs.YtokefihiadbkbaaGreatDoor
/- bern.Coefs. -/
namespace Go.Proofs.YtokefihiadbkbaaGreatDoor
open Go Go.SX
theorem Jb2 {W W':PW} {s:Sl} {bs:List Iv} (h:Bc3 231 W s bs) (hE:Eo1 W.w.heap.size W W'):Bc3 231 W' s bs:=
 let⟨xs,⟨t,h1⟩,h2⟩:=h
 ⟨xs,⟨t,h1.new hE (Nat.le_refl _)⟩,h2.mono fun _ _ ⟨s,b,t,s',b',t',e,g1,g2⟩=>⟨s,b,t,s',b',t',e,g1.new hE (Nat.le_refl _),g2.new hE (Nat.le_refl _)⟩⟩
theorem Iu0 (m:Mon) {k:Nat} (hk:k<3) (a b c:Value):As9 [.int .u8 m.x,.int .u8 m.y,.int .u8 m.z,a,b,c] (0+Int.toNat (k:Int)*1+0) [.int .u8 (An6 m k)]:=by
 rcases(by omega:k=0∨k=1∨k=2) with rfl | rfl | rfl<;>exact⟨by simp,rfl⟩
theorem Iz3 {zs:List Int} {p:List Tm} {j:Nat} (hj:j<p.length):ten zs p (j+1)=Ij6 (ten zs p j) (plS zs p[j].1 zs.length) p[j].2:=by
 show(match p[j]? with
  | some t=>Ij6 (ten zs p j) (plS zs t.1 zs.length) t.2
  | none=>ten zs p j)=_
 rw[List.getElem?_eq_getElem hj]
def bxq (x:Iv):Nat→Rat
 | 0=>x.1
 | _+1=>x.2
theorem Jc7 {bs:List Iv} {zs:List Int} {r:Option Addr} {i D N k m:Nat} (hD:D≠0) (k1:nl D≤k) (k2:nl N≤k) (hb:IvS m (Bm3 bs i)) (hn:tpN zs i≤17) (hk:k≤1000000) (hm:m≤1000):
  Je4 68 r (tpN zs i) 2 (bxq (Bm3 bs i)) D N (Iv1 (bxq (Bm3 bs i) 0) (bxq (Bm3 bs i) 1-bxq (Bm3 bs i) 0) (tpN zs i)):=
 fun W u f a1 a2 a3 a4=>It6 (q:=bxq (Bm3 bs i)) a1 a2 a3 a4 hD k1 k2 hb.1 hb.2 hn (Ie4 zs i) hk hm
theorem Iy9 (zs:List Int) (bs:List Iv) (F:Nat→Rat) (i:Nat):Id6 (stN zs i) (tpN zs i) (Iv1 (bxq (Bm3 bs i) 0) (bxq (Bm3 bs i) 1-bxq (Bm3 bs i) 0) (tpN zs i)) (Iw7 zs bs F i)=Iw7 zs bs F (i+1):=rfl
def ctI (W0:PW) (zs:List Int) (L:List PL) (W:PW):Prop:=match L with
 | [.row l,.val (.int .i64 z)]=>∃i:Nat,z=(i:Int)∧i≤zs.length∧Ext W0 W∧l=(zs.take i).map fun z=>[.int .i64 z]
 | _=>False
def tfI (W0:PW) (zs:List Int) (p:List Tm) (L:List PL) (W:PW):Prop:=match L with
 | [.val (.int .i64 z),.row l]=>∃j:Nat,z=(j:Int)∧j≤p.length∧Ext W0 W∧Qs 231 W l (stN zs zs.length) (ten zs p j)
 | _=>False
def pcI (W0:PW) (zs:List Int) (m:Mon) (L:List PL) (W:PW):Prop:=match L with
 | [.val (.int .i64 a),.val (.int .i64 y),.val (.int .i64 z)]=>∃i:Nat,z=(i:Int)∧i≤zs.length∧Ext W0 W∧a=(plS zs m i:Int)∧y=(stN zs i:Int)
 | _=>False
def csI (W0:PW) (zs:List Int) (bs:List Iv) (F:Nat→Rat) (s t:Sl) (L:List PL) (W:PW):Prop:=match L with
 | [.val (.int .i64 z)]=>∃i:Nat,z=(i:Int)∧i≤zs.length∧Eo1 W0.w.heap.size W0 W∧VQ W s (stN zs zs.length) (Iw7 zs bs F i)∧Id4 W t zs
 | _=>False
def Jf4 (n:Nat) (L:List PL) (_:PW):Nat:=match L with
 | [_,.val (.int .i64 z)]=>n-z.toNat
 | _=>0
def Jf7 (n:Nat) (L:List PL) (_:PW):Nat:=match L with
 | [_,_,.val (.int .i64 z)]=>n-z.toNat
 | _=>0
theorem Ja6 {p:List Tm} (hp:POk p) {n i:Nat} (hi:i<n) (h3:n≤3) {t:Tm} (ht:t∈p):(An6 t.1 i).toNat<tpN (Ie8 p n) i:=by
 unfold tpN
 rw[List.getD_eq_getElem?_getD,List.getElem?_eq_getElem (by rw[Io1];exact hi),Is2]
 have h1:=(Hv3 (w:=Fv8 (i:Int)) (n:=0) (p:=p)).2 t ht
 have h2:Fv8 (i:Int) t.1=An6 t.1 i:=by unfold Fv8;rw[if_pos ⟨by omega,by omega⟩,Int.toNat_natCast]
 rw[h2] at h1
 have h3:=Dg9 (hp t ht) i
 show _<(Fd0 (Fv8 (i:Int)) 0 p).toNat+1
 omega
theorem In5 {W0:PW} {M:Nat→Prop} {s sb:Sl} {p:List Tm} {bs:List Iv} {k m:Nat} (h:Ab0 231 138 W0 s p) (hb:Bc3 231 W0 sb bs) (hz:BxN k m p bs) (hk:k≤100000):
  Aa0 Tryz.prog 18 [.agg ⟨[s.v]⟩,sb.v] W0 M fun v W'=>∃(s1:Sl),v = .tuple ⟨[Sl.v s1,.bool (decide (Ii7 p bs))]⟩∧Gv6 231 42 W' s1 (if Ii7 p bs then stN (Ie8 p bs.length) bs.length else 0) (Iw7 (Ie8 p bs.length) bs (ten (Ie8 p bs.length) p p.length) bs.length):=by
 apply Ik9
 have z1:=hz.m1
 have z2:=hz.len
 have z4:=hz.bl
 have hn:=h.n
 have hbn:=hb.n
 have bad:¬Ii7 p bs→∀W',∃s1:Sl,(Value.tuple ⟨[.slice none 0 0,.bool false]⟩) = .tuple ⟨[Sl.v s1,.bool (decide (Ii7 p bs))]⟩∧Gv6 231 42 W' s1 (if Ii7 p bs then stN (Ie8 p bs.length) bs.length else 0) (Iw7 (Ie8 p bs.length) bs (ten (Ie8 p bs.length) p p.length) bs.length):=fun hno W'=>⟨⟨none,0,0⟩,by rw[decide_eq_false hno],by rw[if_neg hno];exact⟨[],⟨rfl,Nat.le_refl _,by simp[maxLen],by simp,.inl rfl⟩,rfl,fun i h=>absurd h (Nat.not_lt_zero _)⟩⟩
 refine Bv2 h hb hz.sd (by omega) (by omega) (by omega) fun W2 hE2 _=>⟨_,rfl,fun hno W4 _=>bad (fun ok=>by simp[ok.1] at hno) W4,fun hyes=>?_⟩
 have hS:An3 p bs:=by simpa using hyes
 have hb3:=hS.1.1
 have htl:=Io1 p bs.length
 generalize hzs:Ie8 p bs.length=zs at *
 have hpk:=hz.ok
 refine⟨ctI W0 zs,Jf4 zs.length,⟨0,rfl,Nat.zero_le _,hE2,rfl⟩,?_⟩
 rintro l7 i8 W9 ⟨i,rfl,hi,hE9,rfl⟩
 refine⟨fun hlt=>?_,fun hge s13 W14 hE14 hO13 hF13=>?_⟩
 ·have hil:i<zs.length:=by omega
  refine In7 (h.ext hE9) (by omega) fun W11 hE11 _=>⟨_,rfl,by simp only[List.length_map,List.length_take,List.length_cons,List.length_nil];omega,by unfold I64;omega,⟨i+1,by push_cast;rfl,by omega,hE9.trans hE11,?_⟩,by show zs.length-Int.toNat ((i:Int)+1)<zs.length-Int.toNat (i:Int);omega⟩
  rw[List.take_succ_eq_append_getElem hil,List.map_append]
  have:zs[i]=Fd0 (Fv8 (i:Int)) 0 p:=by subst hzs;exact Is2 hil
  rw[this]
  rfl
 have:i=zs.length:=by omega
 subst this
 rw[List.take_length] at hO13
 have hz14:Id4 W14 s13 zs:=⟨_,hO13.row⟩
 refine Ie5 hz14 (by omega) fun z W16 hE16 hcnt=>⟨z,_,rfl,fun hno W19 _=>bad (fun ok=>by have:=ok.2;rw[hzs] at this;simp[this] at hno) W19,fun hyes2=>?_⟩
 have hT:Ie1 zs:=by simpa using hyes2
 have hok:Ii7 p bs:=⟨hS,by rw[hzs];exact hT⟩
 obtain rfl:=hcnt hT
 have h16:=hT.1
 have hN:=Im9 h16 (k:=zs.length) (by omega)
 have hNp:=Ie2 zs zs.length
 have E16:=hE9.trans (hE14.trans hE16)
 have h16p:=h.ext E16
 obtain⟨xs,hr,ha⟩:=h16p
 have hxl:=ha.len
 refine⟨⟨rfl,by omega,by omega⟩,Ba1 hr (by omega) fun s22 W21 hE21 ⟨hf22,hO22⟩=>⟨s22,rfl,?_⟩⟩
 have h22:Ab0 231 138 W21 s22 p:=⟨xs,hO22.row,ha.mono fun _ _ h=>h.ext hE21⟩
 have hn22:=h22.n
 refine⟨tfI W21 zs p,Jd8 p.length,⟨0,rfl,Nat.zero_le _,Ext.refl _,by simp,fun j hj=>⟨⟨none,0,0⟩,false,⟨none,0,0⟩,by simp[List.getElem?_replicate,hj],Ar9 W21⟩⟩,?_⟩
 rintro l25 i26 W27 ⟨j,rfl,hj,hE27,hq⟩
 refine⟨fun hlt=>?_,fun hge2 s42 W43 hE43 hO42 hF42=>?_⟩
 ·have hjl:j<p.length:=by omega
  have hP:=h22.ext hE27
  have hmem:=List.getElem_mem hjl
  obtain⟨h0,c1,d1,c2,e1,_,_,hqr⟩:=hP.at (List.getElem?_eq_getElem hjl)
  have het: ∀i,i<zs.length→(An6 p[j].1 i).toNat<tpN zs i:=fun i hi=>by rw[←hzs];exact Ja6 hpk (by omega) hb3.2 hmem
  refine⟨hP.inB (by omega) (by omega),_,_,_,c1,d1,c2,e1,pcI W27 zs p[j].1,Jf7 zs.length,⟨0,rfl,Nat.zero_le _,Ext.refl _,rfl,rfl⟩,?_⟩
  rintro i36 i37 i38 W39 ⟨i,rfl,hi,hE39,rfl,rfl⟩
  have hz39:=hz14.ext ((hE16.trans (hE21.trans hE27)).trans hE39)
  refine⟨fun hlt2=>?_,fun hge3=>?_⟩
  ·have hil:i<zs.length:=by have:=hz39.n;omega
   have b0:=h16 _ (List.getElem_mem hil)
   have eok:=Dg9 h0 i
   have e1:(stN zs i:Int)*(zs[i]+1)=(stN zs (i+1):Int):=by rw[←Ih5 hil b0.1,stN];push_cast;rfl
   have s1:=Im9 h16 (k:=i+1) (by omega)
   have s0:=Im9 h16 (k:=i) (by omega)
   have p0:=Is7 het i hi
   have p1:=Is7 het (i+1) (by omega)
   have eI:An6 p[j].1 i=((An6 p[j].1 i).toNat:Int):=by omega
   have e2:An6 p[j].1 i*(stN zs i:Int)=(((An6 p[j].1 i).toNat*stN zs i:Nat):Int):=by rw[eI,Int.toNat_natCast];push_cast;rfl
   have e3:(plS zs p[j].1 i:Int)+(((An6 p[j].1 i).toNat*stN zs i:Nat):Int)=(plS zs p[j].1 (i+1):Int):=by rw[plS];push_cast;rfl
   have e4:(An6 p[j].1 i).toNat*stN zs i≤plS zs p[j].1 (i+1):=by rw[plS];omega
   refine⟨hz39.inB (by omega) (by omega),zs[i],hz39.at hil,⟨by omega,by omega⟩,An6 p[j].1 i,Iu0 _ (by omega) _ _ _,?_⟩
   rw[e2,e3,e1]
   exact⟨by unfold I64;omega,by unfold I64;omega,by unfold I64;omega,by unfold I64;omega,by unfold I64;omega,by unfold I64;omega,⟨i+1,by push_cast;rfl,by omega,hE39,rfl,rfl⟩,by show zs.length-Int.toNat ((i:Int)+1)<zs.length-Int.toNat (i:Int);omega⟩
  ·have:i=zs.length:=by have:=hz39.n;omega
   subst this
   have p0:=Is7 het zs.length (Nat.le_refl _)
   have hll:=hq.1
   refine⟨⟨by omega,by omega⟩,by show plS zs p[j].1 zs.length<l25.length;omega,by unfold I64;omega,⟨j+1,by push_cast;rfl,by omega,hE27.trans hE39,?_⟩,by show p.length-Int.toNat ((j:Int)+1)<p.length-Int.toNat (j:Int);omega⟩
   refine((hq.ext hE39).set p0 (hqr.ext hE39)).congr fun x hx=>?_
   rw[Iz3 hjl]
   rfl
 have:j=p.length:=by omega
 subst this
 have E43:=E16.trans (hE21.trans (hE27.trans hE43))
 have hV:VQ W43 s42 (stN zs zs.length) (ten zs p p.length):=⟨l25,hO42,hq.ext hE43⟩
 have hnew: ∀g,s42.v.ownBlock=some g→W0.w.heap.size≤g:=fun g hg=>(hF42 g hg).1
 have hza: ∀g,s13.v.ownBlock=some g→¬s42.v.ownBlock=some g:=fun g h1 h2=>by
  obtain⟨k1,k2⟩:=(hz14.ext (hE16.trans (hE21.trans hE27))).pub (by have:=hT.2.1;omega) h1
  exact k2 ((hF42 g h2).2 k1)
 obtain⟨D,N,hfit,hD,k1,k2⟩:=hz.bd
 have hzb: ∀i,IvS (2*m+1) (Bm3 bs i):=fun i=>(hz.side i).sz
 refine⟨csI W0 zs bs (ten zs p p.length) s42 s13,Iv2 zs.length,⟨0,rfl,Nat.zero_le _,E43.toM _,hV,hz14.ext (hE16.trans (hE21.trans (hE27.trans hE43)))⟩,?_⟩
 rintro i46 W47 ⟨i,rfl,hi,hE47,hV47,hz47⟩
 refine⟨fun hlt=>?_,fun hge3 W58 hE58=>⟨s42,by rw[decide_eq_true hok],?_⟩⟩
 ·have hil:i<zs.length:=by omega
  have hib:i<bs.length:=by omega
  have hB:=Jb2 hb hE47
  obtain⟨x,⟨s48,b49,s50,s51,b52,s53,rfl,g1,g2⟩,hel⟩:=hB.at hib
  rw[←Fi1 hib] at g1 g2
  refine⟨hB.inB (by omega) (by omega),s48,b49,s50,s51,b52,s53,hel 0 rfl,fun r W55 hE55 hel5 hFr=>?_⟩
  have hX:XQ W55 r 2 (bxq (Bm3 bs i)):=In9.mk2 hel5 (g1.ext hE55) (g2.ext hE55)
  have aw:Iz4 r s42:=fun g h1 h2=>(VQ.pub hV47 hNp h2).2 ((hFr g h1).2 (VQ.pub hV47 hNp h2).1)
  obtain⟨D1,N1,f1,f2,f3,f4⟩:=Ir6 h16 (Iq2 hfit p.length) hD k1 k2 hzb (by omega) i (by omega)
  have hi4:i*400000≤3*400000:=Nat.mul_le_mul_right _ (by omega)
  intro W' hE'
  have hdo:=Jc7 (zs:=zs) (r:=r) (k:=k+i*400000) f2 f3 f4 (hzb i) (If0 h16 i) (by omega) (by omega)
  have hlin:=If3 (T:=Iv1 (bxq (Bm3 bs i) 0) (bxq (Bm3 bs i) 1-bxq (Bm3 bs i) 0) (tpN zs i)) (g:=68) ((hV47.ext hE55).ext hE') ((hz47.ext hE55).ext hE') hT hil (hX.ext hE') aw f1 (fun f g he j hj=>Iu8 he hj) hdo
  rw[Iy9] at hlin
  refine⟨_,_,hlin,fun b hb'=>⟨(VQ.pub ((hV47.ext hE55).ext hE') hNp hb').2,.inr (hnew b hb')⟩,fun v W57 hX57 hP=>?_⟩
  have hput:=OwV.did (hV47.ext hE55) hNp hE' hX57
  exact⟨hP.1,by unfold I64;omega,⟨i+1,by push_cast;rfl,by omega,(hE47.trans (hE55.toM _)).trans (hput.Fi8 hnew),hP.2,(hz47.ext hE55).put hput hza⟩,by show zs.length-Int.toNat ((i:Int)+1)<zs.length-Int.toNat (i:Int);omega⟩
 ·have:i=zs.length:=by omega
  subst this
  rw[if_pos hok,←htl]
  exact(hV47.ext hE58).qs
theorem Ik5 {W0 W:PW} {M:Nat→Prop} {s sb:Sl} {p:List Tm} {bs:List Iv} {k m:Nat} {K:Value→PW→Prop} (h:Ab0 231 138 W s p) (hb:Bc3 231 W sb bs) (hz:BxN k m p bs) (hk:k≤100000) (kont: ∀(s1:Sl) (W':PW),Ext W W'→(Gv6 231 42 W' s1 (if Ii7 p bs then stN (Ie8 p bs.length) bs.length else 0) (Iw7 (Ie8 p bs.length) bs (ten (Ie8 p bs.length) p p.length) bs.length))→K (.tuple ⟨[Sl.v s1,.bool (decide (Ii7 p bs))]⟩) W'):
  Aa1 Tryz.prog W0 M 18 [.agg ⟨[s.v]⟩,sb.v] W K:=
 Aa2 (fun W' hE=>In5 (M:=fun _=>False) (h.ext hE) (hb.ext hE) hz hk) (fun W' v W'' hE hE' hP=>by
  obtain⟨s1,rfl,h⟩:=hP
  exact kont s1 W'' (hE.trans hE') h)
end Go.Proofs.YtokefihiadbkbaaGreatDoor
/- bound.Mean, Best. -/
namespace Go.Proofs.YtokefihiadbkbaaGreatDoor
open Go Go.SX
end Go.Proofs.YtokefihiadbkbaaGreatDoor
/- cinctureref1: MonoVars, PolyDegree, PolyVars, Top. -/
namespace Go.Proofs.YtokefihiadbkbaaGreatDoor
open Go Go.SX
end Go.Proofs.YtokefihiadbkbaaGreatDoor
/- span.Parse, cinctureref1.SpanParse; cincturelaw5.Is, Of. -/
namespace Go.Proofs.YtokefihiadbkbaaGreatDoor
open Go Go.SX
def spP (a b:ByteArray):Option Iv:=match Ab7 a,Ab7 b with
 | some p,some q=>if p≤q then some (p,q) else none
 | _,_=>none
theorem Dp3 {a b:ByteArray} {x:Iv} (h:spP a b=some x):Ab7 a=some x.1∧Ab7 b=some x.2∧x.1≤x.2:=by
 unfold spP at h
 cases ha:Ab7 a with
 | none=>rw[ha] at h;cases h
 | some p=>
  cases hb:Ab7 b with
  | none=>rw[ha,hb] at h;cases h
  | some q=>
   rw[ha,hb] at h
   dsimp only at h
   split at h
   ·cases h;exact⟨rfl,rfl,by assumption⟩
   ·cases h
theorem Bg2 {α:Type} {o:Option α} :er o=0↔o.isSome=true:=by
 unfold er
 cases o<;>simp
theorem At4 {a:ByteArray} :Sz 4000 ((Ab7 a).getD 0):=by
 cases h:Ab7 a with
 | none=>exact Sz.zero (by omega)
 | some q=>exact(Aw6 h).1
theorem Cq2 {W0:PW} {M:Nat→Prop} {a b:ByteArray} (ha:a.size≤1099511627776) (hb:b.size≤1099511627776):
  Aa0 Tryz.prog 148 [.agg ⟨[.string a,.string b]⟩] W0 M fun v W'=>∃(l:List Value),∃(e:Int),v = .tuple ⟨[.agg ⟨l⟩,.int .i64 e]⟩∧SpV 231 W' l ((spP a b).getD (0,0))∧(e=0↔(spP a b).isSome=true):=by
 apply Bz8
 refine As8 ha fun s3 b4 s5 W2 hE2 h2=>⟨s3,b4,s5,_,rfl,fun hne W7 hE7=>?_,fun heq=>?_⟩
 ·have hn:Ab7 a=none:=by
   cases h:Ab7 a with
   | none=>rfl
   | some q=>exact absurd (Bg2.2 (by rw[h];rfl)) hne
  have hs:spP a b=none:=by unfold spP;rw[hn]
  refine⟨_,_,rfl,by rw[hs];exact SpV.zero W7,?_⟩
  rw[hs,Bg2,hn];simp
 ·have h1:=Bg2.1 (Decidable.not_not.1 heq)
  obtain⟨p,hp⟩:=Option.isSome_iff_exists.1 h1
  refine As8 hb fun s10 b11 s12 W9 hE9 h9=>⟨s10,b11,s12,_,rfl,fun hne W14 hE14=>?_,fun heq2=>?_⟩
  ·have hn:Ab7 b=none:=by
    cases h:Ab7 b with
    | none=>rfl
    | some q=>exact absurd (Bg2.2 (by rw[h];rfl)) hne
   have hs:spP a b=none:=by unfold spP;rw[hp,hn]
   refine⟨_,_,rfl,by rw[hs];exact SpV.zero W14,?_⟩
   rw[hs,Bg2,hn];simp
  ·have h3:=Bg2.1 (Decidable.not_not.1 heq2)
   obtain⟨q,hq⟩:=Option.isSome_iff_exists.1 h3
   have z1:=At4 (a:=a)
   have z2:=At4 (a:=b)
   refine Cq7 (h2.ext hE9) h9 z1 z2 (by omega) fun l W16 hE16 h16=>?_
   rw[hp,hq] at h16⊢
   simp only[Option.getD_some] at h16⊢
   have hs:spP a b=if p≤q then some (p,q) else none:=by unfold spP;rw[hp,hq]
   obtain⟨s17,b18,s19,s20,b21,s22,rfl,k1,k2⟩:=h16
   refine⟨s17,b18,s19,s20,b21,s22,_,rfl,fun hno W24 hE24=>?_,fun hyes W25 hE25=>?_⟩
   ·have hno:¬p≤q:=by simpa using hno
    rw[hs,if_neg hno]
    exact⟨_,_,rfl,SpV.zero W24,by decide⟩
   ·have hyes:p≤q:=by simpa using hyes
    rw[if_pos hyes] at k1 k2
    rw[hs,if_pos hyes]
    exact⟨_,_,rfl,SpV.mk (x:=(p,q)) (k1.ext hE25) (k2.ext hE25),by simp⟩
theorem Az3 {W0 W:PW} {M:Nat→Prop} {a b:ByteArray} {K:Value→PW→Prop} (ha:a.size≤1099511627776) (hb:b.size≤1099511627776) (kont: ∀(l:List Value) (e:Int) (W':PW),Ext W W'→(SpV 231 W' l ((spP a b).getD (0,0))∧(e=0↔(spP a b).isSome=true))→K (.tuple ⟨[.agg ⟨l⟩,.int .i64 e]⟩) W'):
  Aa1 Tryz.prog W0 M 148 [.agg ⟨[.string a,.string b]⟩] W K:=
 Aa2 (fun W' hE=>Cq2 (M:=fun _=>False) ha hb) (fun W' v W'' hE hE' hP=>by
  obtain⟨l,e,rfl,h⟩:=hP
  exact kont l e W'' (hE.trans hE') h)
end Go.Proofs.YtokefihiadbkbaaGreatDoor
/- cinctureref1.Half. -/
namespace Go.Proofs.YtokefihiadbkbaaGreatDoor
open Go Go.SX
theorem Hr1:Sz 1 ((1:Rat)/2):=by
 have:(1:Rat)/2=mkRat 1 2:=by decide +kernel
 rw[this]
 exact Sz.mk (Nat.le_of_eq Ax0) (Bc6 (by decide)) (by decide)
theorem Hq0 (q:Rat):q*(1/2)=q/2:=by grind
theorem Hm4 {W0:PW} {M:Nat→Prop} {s t:Sl} {b:Bool} {q:Rat} {k:Nat} (h:Ab6 231 W0 b s t q) (hq:Sz k q) (hk:k≤500000000):
  Aa0 Tryz.prog 103 [.agg ⟨[.bool b,s.v,t.v]⟩] W0 M fun v W'=>∃(c:Bool),∃(r:Sl),∃(u:Sl),v = .agg ⟨[.bool c,Sl.v r,Sl.v u]⟩∧Ab6 231 W' c r u (q/2):=by
 apply Hh7
 refine Cj2 (z:=1) (by unfold I64;omega) fun b3 s4 W2 hE2 h2=>⟨b3,s4,rfl,Ae0 (x:=2) (by decide) fun s7 W6 hE6 h6=>⟨s7,rfl,?_⟩⟩
 have hd:((1:Rat)/2).num=1∧((1:Rat)/2).den=2:=by decide +kernel
 have hh:Ab6 231 W6 b3 s4 s7 ((1:Rat)/2):=⟨by rw[hd.1];exact h2.ext hE6,.inl (by rw[hd.2];exact h6)⟩
 exact Am6 (h.ext (hE2.trans hE6)) hh hq Hr1 (by omega) (by omega) fun b10 s11 s12 W9 hE9 h9=>⟨b10,s11,s12,rfl,fun W13 hE13=>⟨_,_,_,rfl,by rw[←Hq0];exact h9.ext hE13⟩⟩
theorem Hi8 {W0 W:PW} {M:Nat→Prop} {s t:Sl} {b:Bool} {q:Rat} {k:Nat} {K:Value→PW→Prop} (h:Ab6 231 W b s t q) (hq:Sz k q) (hk:k≤500000000) (kont: ∀(c:Bool) (r:Sl) (u:Sl) (W':PW),Ext W W'→(Ab6 231 W' c r u (q/2))→K (.agg ⟨[.bool c,Sl.v r,Sl.v u]⟩) W'):
  Aa1 Tryz.prog W0 M 103 [.agg ⟨[.bool b,s.v,t.v]⟩] W K:=
 Aa2 (fun W' hE=>Hm4 (M:=fun _=>False) (h.ext hE) hq hk) (fun W' v W'' hE hE' hP=>by
  obtain⟨c,r,u,rfl,h⟩:=hP
  exact kont c r u W'' (hE.trans hE') h)
end Go.Proofs.YtokefihiadbkbaaGreatDoor
/- The reference's Mid, SpanSub, Meet, Three, Sides, Natural, Mean; cincturelaw9.told. -/
namespace Go.Proofs.YtokefihiadbkbaaGreatDoor
open Go Go.SX
end Go.Proofs.YtokefihiadbkbaaGreatDoor
/- Layings of the library's generic functions, as the kit's command says them. -/
namespace Go.Proofs.YtokefihiadbkbaaGreatDoor
open Go Go.Shelf Go.Proofs
def Dm9:Go.Shelf.Ren:=⟨fun | 28=>220 | n=>n,fun | 27=>231 | 3=>3 | 4=>4 | 25=>80 | 53=>301 | 0=>0 | 5=>5 | n=>n,fun | 0=>1 | n=>n⟩
theorem Ff9:Go.Proofs.Lays7.n28 Tryz.prog Dm9 where
 mixed:=by kernel_rfl
 f28:=Tryz.func220.trans (congrArg some (by kernel_rfl))
 t0:=Tryz.underlying0
 a0:=Tryz.isAgg0
 z0:=Tryz.sizeOf0
 v0:=Tryz.zeroValue0
 i0:=by kernel_rfl
 t3:=Tryz.underlying3
 a3:=Tryz.isAgg3
 z3:=Tryz.sizeOf3
 v3:=Tryz.zeroValue3
 i3:=by kernel_rfl
 t4:=Tryz.underlying4
 a4:=Tryz.isAgg4
 z4:=Tryz.sizeOf4
 v4:=Tryz.zeroValue4
 i4:=by kernel_rfl
 t5:=Tryz.underlying5
 a5:=Tryz.isAgg5
 z5:=Tryz.sizeOf5
 v5:=Tryz.zeroValue5
 i5:=by kernel_rfl
 t25:=Tryz.underlying80
 a25:=Tryz.isAgg80
 z25:=Tryz.sizeOf80
 v25:=Tryz.zeroValue80
 i25:=by kernel_rfl
 t27:=Tryz.underlying231
 a27:=Tryz.isAgg231
 z27:=Tryz.sizeOf231
 v27:=Tryz.zeroValue231
 i27:=by kernel_rfl
 t53:=Tryz.underlying301
 a53:=Tryz.isAgg301
 z53:=Tryz.sizeOf301
 v53:=Tryz.zeroValue301
 i53:=by kernel_rfl
 g0:=by kernel_rfl
end Go.Proofs.YtokefihiadbkbaaGreatDoor
/- The table math/bits.deBruijn32tab in memory; math/bits.TrailingZeros32. -/
namespace Go.Proofs.YtokefihiadbkbaaGreatDoor
open Go Go.SX
def Ac6 (W:PW):Prop:=(∀j,j<32→W.w.cell? ⟨1,j,none⟩=some (.int .u8 ((Go.Lib.deBruijn32tab.getD j 0:Nat):Int)))∧1<W.w.heap.size∧¬W.S 1
theorem Ac6.ext {W W':PW} (h:Ac6 W) (hE:Ext W W'):Ac6 W':=by
 have hk:=hE.Ai1 _ h.2.1 h.2.2
 refine⟨fun j hj=>?_,Nat.lt_of_lt_of_le h.2.1 hE.size,hk.2⟩
 have:=h.1 j hj
 unfold World.cell? at this⊢
 dsimp only at this⊢
 rw[hk.1]
 exact this
theorem Fh2 {W0:PW} {M:Nat→Prop} {x:Nat} (hT:Ac6 W0) (hx:x<4294967296):
  Aa0 Tryz.prog 220 [.int .u32 (x:Int)] W0 M fun v W'=>v = .int .i64 ((Go.Lib.ctz 32 x:Nat):Int)∧True:=by
 refine⟨⟨_,Tryz.func220,by kernel_rfl,by kernel_rfl⟩,fun hS=>?_⟩
 have hcall:=Proofs.Any7.bits_TrailingZeros32 Ff9 x hx W0.w fun _ j hj=>hT.1 j hj
 change Calls Tryz.prog 220 _ _ _ at hcall
 refine Calls.mono hcall ?_
 rintro e w' ⟨rfl,rfl⟩
 exact⟨_,rfl,Am7.refl _ _,rfl,trivial⟩
theorem El3 {W0 W:PW} {M:Nat→Prop} {x:Nat} {K:Value→PW→Prop} (hT:Ac6 W) (hx:x<4294967296) (kont: ∀(W':PW),Ext W W'→(True)→K (.int .i64 ((Go.Lib.ctz 32 x:Nat):Int)) W'):
  Aa1 Tryz.prog W0 M 220 [.int .u32 (x:Int)] W K:=
 Aa2 (fun W' hE=>Fh2 (M:=fun _=>False) (hT.ext hE) hx) (fun W' v W'' hE hE' hP=>by
  obtain⟨rfl,h⟩:=hP
  exact kont W'' (hE.trans hE') h)
end Go.Proofs.YtokefihiadbkbaaGreatDoor
/- Arguments opened: what every kind of argument needs. -/
namespace Go.Proofs.YtokefihiadbkbaaGreatDoor
open Go Go.SX Go.ChangeShapes Go.WideShapes Go.ChangeAt Go.RowKit Go.Deep
theorem Cp9:ownKnob Tryz.prog.godebug=none:=by kernel_rfl
theorem laidOut:laidOutB Tryz.prog=true:=by kernel_rfl
theorem Ct5:Tryz.prog.cellsOf 9=1:=by kernel_rfl
theorem Cf4 {W:World} {b o:Nat} {v:Value} (h:W.cell? ⟨b,o,none⟩=some v): ∃cs t fz,W.heap[b]?=some (.cells cs t fz)∧cs[o]?=some v:=by
 unfold World.cell? at h
 cases e:W.heap[b]? with
 | none=>simp[e] at h
 | some ob=>
  cases ob with
  | cells cs t fz=>exact⟨cs,t,fz,rfl,by simpa[e] using h⟩
  | _=>simp[e] at h
theorem Ev9 {H:Type} (d:DataW H):1≤Rows.uptoBulk d:=by
 cases d with
 | lit l=>cases l<;>simp[Rows.uptoBulk]
 | nil=>simp[Rows.uptoBulk]
 | ptr d=>simp[Rows.uptoBulk]
 | slice elems spare=>simp[Rows.uptoBulk]
 | agg parts=>simp[Rows.uptoBulk]
 | iface t d=>simp[Rows.uptoBulk]
 | map entries=>simp[Rows.uptoBulk]
 | held h=>simp[Rows.uptoBulk]
theorem Eo6 {H:Type} {d:DataW H} {l:List (DataW H)} (h:d∈l):Rows.uptoBulk d≤Rows.uptoBulkAll l:=by
 induction l with
 | nil=>cases h
 | cons x r ih=>
  simp only[Rows.uptoBulkAll]
  cases List.mem_cons.1 h with
  | inl e=>subst e;omega
  | inr e=>have:=ih e;omega
theorem Dj1 {H:Type} (l:List (DataW H)):l.length≤Rows.uptoBulkAll l:=by
 induction l with
 | nil=>simp[Rows.uptoBulkAll]
 | cons x r ih=>have:=Ev9 x;simp only[Rows.uptoBulkAll,List.length_cons];omega
theorem Ig6 {W:World} {a:Addr} {n c:Nat} {V:Nat→Value} (h: ∀j,j<n→W.cell? (a.add j)=some (V j)) (hn:n≤c) (hc:c≤maxLen) (h1: ∀j,j<n→(V j).oneCell'=true):Bf9 ⟨W,fun _=>False⟩ 1 ⟨some a,n,c⟩ ((List.range n).map fun j=>[V j]):=by
 have hel: ∀x∈(List.range n).map (fun j=>[V j]),x.length=1∧∀u∈x,u.oneCell'=true:=by
  intro x hx
  obtain⟨j,hj,rfl⟩:=List.mem_map.1 hx
  exact⟨rfl,fun u hu=>by rw[List.mem_singleton.1 hu];exact h1 j (List.mem_range.1 hj)⟩
 by_cases h0:n=0
 ·subst h0
  exact⟨0,rfl,Nat.zero_le _,hc,hel,.inl rfl⟩
 ·obtain⟨b,off,sp⟩:=a
  have hsp:sp=none:=by simpa[Addr.add] using World.cell?_spot (h 0 (by omega))
  subst hsp
  have h': ∀j,j<n→W.cell? ⟨b,off+j,none⟩=some (V j):=fun j hj=>by rw[←add_plain];exact h j hj
  obtain⟨cs,t,fz,hh,_⟩:=Cf4 (h' 0 (by omega))
  refine⟨t,by simp,hn,hc,hel,.inr ⟨b,off,cs,fz,rfl,id,hh,fun j v hj=>?_⟩⟩
  have e:((List.range n).map fun j=>[V j]).flatten=(List.range n).map V:=by
   rw[←List.flatMap_def]
   generalize List.range n=l
   induction l with
   | nil=>rfl
   | cons y r ih=>simp[List.flatMap_cons,ih]
  rw[e] at hj
  have hjn:j<n:=by
   have:=(List.getElem?_eq_some_iff.1 hj).1
   simpa using this
  obtain⟨cs',t',fz',hh',hv⟩:=Cf4 (h' j hjn)
  rw[hh] at hh'
  cases hh'
  simp[hjn] at hj
  rw[←hj]
  exact hv
end Go.Proofs.YtokefihiadbkbaaGreatDoor
/- Arguments of pairs of texts, opened. -/
namespace Go.Proofs.YtokefihiadbkbaaGreatDoor
open Go Go.SX Go.ChangeShapes Go.WideShapes Go.ChangeAt Go.RowKit Go.Deep
def prc (t:ByteArray×ByteArray):List Value:=[.string t.1,.string t.2]
def Bs7 (W:PW) (s:Sl) (L:List (ByteArray×ByteArray)):Prop:=Bf9 W 2 s (L.map prc)
end Go.Proofs.YtokefihiadbkbaaGreatDoor
