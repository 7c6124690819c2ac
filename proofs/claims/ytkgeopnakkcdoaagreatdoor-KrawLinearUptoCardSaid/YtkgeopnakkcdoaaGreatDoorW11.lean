import Derived.Test.YtkgeopnakkcdoaaGreatDoorW8
import Derived.Test.YtkgeopnakkcdoaaGreatDoorW10
import Derived.Test.YtkgeopnakkcdoaaGreatDoorLib5
import Derived.Test.YtkgeopnakkcdoaaGreatDoorW7
import Derived.Test.YtkgeopnakkcdoaaGreatDoorR7
import Derived.Test.YtkgeopnakkcdoaaGreatDoorLib4
import Derived.Test.YtkgeopnakkcdoaaGreatDoorR3
import Derived.Test.YtkgeopnakkcdoaaGreatDoorW3
import Derived.Test.YtkgeopnakkcdoaaGreatDoorLib2
import Derived.Test.YtkgeopnakkcdoaaGreatDoorLib1
set_option linter.unusedVariables false
set_option linter.unusedSimpArgs false
set_option maxRecDepth 100000
namespace Go.Proofs.YtkgeopnakkcdoaaGreatDoor
open Go Go.SX
theorem Hy1 (x:Iv):Cb5 x (0,0)=x:=Prod.ext (Rat.add_zero _) (Rat.add_zero _)
theorem Hy2 (x:Iv):Cb5 (0,0) x=x:=Prod.ext (Rat.zero_add _) (Rat.zero_add _)
theorem Ia7 (x y z:Iv):Cb5 x (Cb5 y z)=Cb5 y (Cb5 x z):=Prod.ext (Rat.add_left_comm _ _ _) (Rat.add_left_comm _ _ _)
def Ib5 (l:Nat->Iv) (p:List Tm):List Mon->Iv
 | []=>(0,0)
 | m::ms=>Cb5 (Ci9 l (m,Aj5 p m) 3) (Ib5 l p ms)
theorem Ia2 (l:Nat->Iv): ∀ms:List Mon,Ib5 l [] ms=(0,0)
 | []=>rfl
 | m::ms=>by rw[Ib5,Ia2 l ms,Hv2 l (t:=(m,Aj5 [] m)) rfl];exact Hy1 _
theorem Hz7 (l:Nat->Iv){t:Tm}{r:List Tm}(a:Aj5 r t.1=0): ∀{ms:List Mon} (_:ms.Nodup),Ib5 l (t::r) ms=if t.1∈ms then Cb5 (Ci9 l t 3) (Ib5 l r ms) else Ib5 l r ms
 | [],_=>by rw[if_neg (by simp)];rfl
 | m::ms,b=>by
  obtain⟨h1,c⟩:=List.nodup_cons.1 b;have ih:=Hz7 l a c;rw[Ib5,Ib5,ih,Aj5]
  by_cases e:t.1=m
  ·subst e
   rw[if_pos rfl,if_neg h1,if_pos (by simp),a,Rat.add_zero,Hv2 l (t:=(t.1,0)) rfl,Hy2]
  ·rw[if_neg e,Rat.zero_add]
   by_cases hm:t.1∈ms
   ·rw[if_pos hm,if_pos (by simp[hm]),Ia7]
   ·rw[if_neg hm,if_neg (by simp[hm,e])]
theorem Hz5 (l:Nat->Iv): ∀{p:List Tm} (_:Av6 p) {ms:List Mon} (_:ms.Nodup) (_: ∀t∈p,t.1∈ms),ovS l p=Ib5 l p ms
 | [],_,ms,_,_=>(Ia2 l ms).symm
 | t::r,h,ms,a,hm=>by
  have b:=List.pairwise_cons.1 h.srt;have c:=Av5 (l:=r) (m:=t.1) λ x d e=>Mon.Eg6 (b.1 x d) e.symm;rw[ovS,Hz5 l h.tail a (λ u hu=>hm u (by simp[hu])),Hz7 l c a,if_pos (hm t (by simp))]
theorem Ib7 {i:Nat}{j:Nat}(hi:i<3)(a:j<3)(h:Da3 i=Da3 j):i=j:=by
 rcases(by omega:i=0\/i=1\/i=2) with rfl | rfl | rfl<;>rcases(by omega:j=0\/j=1\/j=2) with rfl | rfl | rfl<;>first | rfl | exact absurd h (by decide)
end Go.Proofs.YtkgeopnakkcdoaaGreatDoor
namespace Go.Proofs.YtkgeopnakkcdoaaGreatDoor
open Go Go.SX
variable {bs:List Iv}{f:List (List Tm)}{i k l m:Nat}{x:Iv}{y:Nat->Nat->Rat}
def fAt (f:List (List Tm)) (n:Nat):List Tm:=f.getD n []
theorem Mq1 {n:Nat}(h:n<f.length):fAt f n=f[n]:=by
 unfold fAt;rw[List.getD_eq_getElem?_getD,List.getElem?_eq_getElem h];rfl
def krS (f:List (List Tm)) (y:Nat->Nat->Rat) (bs:List Iv) (i k:Nat):Nat->Iv
 | 0=>Eb6 (if i=k then 1 else 0)
 | n+1=>He4 (krS f y bs i k n) (De8 (Aq8 (Bm3 bs) (Hc3 (fAt f n) (k:Int))) (y i n))
def krA (f:List (List Tm)) (y:Nat->Nat->Rat) (bs:List Iv) (i:Nat):Nat->Rat
 | 0=>(Hb9 bs).get i
 | n+1=>krA f y bs i n-y i n*atQ (Hb9 bs) (fAt f n)
def krR (f:List (List Tm)) (y:Nat->Nat->Rat) (bs:List Iv) (i:Nat):Nat->Iv
 | 0=>Eb6 (krA f y bs i f.length)
 | k+1=>Cb5 (krR f y bs i k) (Ay9 (krS f y bs i k f.length) (He4 (Bm3 bs k) (Eb6 ((Hb9 bs).get k))))
def krK (f:List (List Tm)) (y:Nat->Nat->Rat) (bs:List Iv):List Iv:=(List.range bs.length).map λ i=>krR f y bs i bs.length
def Mk5 (f:List (List Tm)) (bs:List Iv):Prop:=(∀p∈f,An3 p bs)/\f.length=bs.length/\Cn7 bs
instance (f:List (List Tm)) (bs:List Iv):Decidable (Mk5 f bs):=by unfold Mk5;infer_instance
def Mr9 (x y:Iv):Prop:=y.1<x.1/\x.2<y.2
instance (x y:Iv):Decidable (Mr9 x y):=by unfold Mr9;infer_instance
def Mq8 (f:List (List Tm)) (y:Nat->Nat->Rat) (bs:List Iv):Prop:=∀i,i<bs.length->Mr9 (krR f y bs i bs.length) (Bm3 bs i)
theorem Mk0 (f:List (List Tm))(y:Nat->Nat->Rat)(bs:List Iv):(krK f y bs).length=bs.length:=by unfold krK;rw[List.length_map,List.length_range]
theorem Mr2 (h:i<(krK f y bs).length):(krK f y bs)[i]=krR f y bs i bs.length:=by
 simp only[krK,List.getElem_map,List.getElem_range]
theorem Mp8 {p:List Tm}(h:An3 p bs)(d:POk p)(hk:k<3):An3 (Hc3 p (k:Int)) bs:=by
 refine⟨h.1,Hx0 (by have:=h.1.1.1;omega) λ t a=>?_⟩;unfold Hc3 at a;rw[if_pos (by omega)] at a;obtain⟨u,hu,e⟩:=Gu2 a;obtain⟨s,b,c,rfl⟩:=Hj9 hu;rw[e];have h1:=(Hv3 (w:=Cx8) (n:=0) (p:=p)).2 s b;have g:=h.2;have j:=d s b;unfold Mon.ok at j;refine Int.le_trans ?_ (Int.le_trans h1 g);rw[Int.toNat_natCast] at c⊢;unfold An6 at c;unfold Cx8 Hj5
 (repeat' split)<;>simp_all<;>omega
theorem Mj9 (a:Rat):Ag0 a a=(a,a):=by
 unfold Ag0 Az9 Au7;rw[if_neg Rat.lt_irrefl]
theorem Hu5 (x:Iv):De8 x 0=(0,0):=by
 unfold De8;rw[Rat.mul_zero,Rat.mul_zero,Mj9]
theorem Mq6 (x:Iv):Ay9 (Eb6 0) x=(0,0):=by
 unfold Ay9 Eb6 Bu9;simp only[Rat.zero_mul,Mj9];unfold Az9 Au7;rw[if_neg Rat.lt_irrefl]
structure KrB (k m l:Nat) (f:List (List Tm)) (y:Nat->Nat->Rat) (bs:List Iv):Prop where
 p: ∀q∈f,BxB k m q bs
 n:f.length<=3
 y: ∀i j,i<f.length->j<f.length->Sz l (y i j)
 l1:l<=100000000
theorem IvS.sub {y:Iv}(h:IvS k x)(a:IvS l y):IvS (k+l+1) (He4 x y):=⟨h.1.sub a.2,h.2.sub a.1⟩
theorem IvS.add {y:Iv}(h:IvS k x)(a:IvS l y):IvS (k+l+1) (Cb5 x y):=⟨h.1.add a.1,h.2.add a.2⟩
theorem IvS.mono (h:IvS k x)(a:k<=l):IvS l x:=⟨h.1.mono a,h.2.mono a⟩
theorem IvS.Em8 {a:Rat}{b:Rat}(h:Sz k a)(c:Sz k b):IvS k (Ag0 a b):=⟨Hp0 h c,Hp2 h c⟩
theorem IvS.scale {r:Rat}(h:IvS k x)(a:Sz l r):IvS (k+l) (De8 x r):=IvS.Em8 (h.1.mul a) (h.2.mul a)
theorem IvS.Fv1 {y:Iv}(h:IvS k x)(a:IvS k y):IvS k (Bu9 x y):=⟨Hp0 h.1 a.1,Hp2 h.2 a.2⟩
theorem IvS.mul {y:Iv}(h:IvS k x)(a:IvS l y):IvS (k+l) (Ay9 x y):=IvS.Fv1 (IvS.Em8 (h.1.mul a.1) (h.2.mul a.2)) (IvS.Em8 (h.1.mul a.2) (h.2.mul a.1))
theorem Mn7 (i k:Nat):Sz 1 (if i=k then(1:Rat) else 0):=by
 split
 ·exact⟨Bc6 (by decide +kernel),Bc6 (by decide +kernel)⟩
 ·exact Sz.zero (Nat.le_refl 1)
theorem KrB.at (h:KrB k m l f y bs){n:Nat}(a:n<f.length):BxB k m (fAt f n) bs:=by rw[Mq1 a];exact h.p _ (List.getElem_mem a)
theorem KrB.S (h:KrB k m l f y bs)(hi:i<f.length)(j:Nat): ∀n,n<=f.length->IvS (1+n*(460000+l+1)) (krS f y bs i j n)
 | 0,_=>⟨(Mn7 i j).mono (by omega),(Mn7 i j).mono (by omega)⟩
 | n+1,b=>by
  have a:IvS 460000 (Aq8 (Bm3 bs) (Hc3 (fAt f n) (j:Int))):=((h.at (by omega)).Hp1 (j:Int)).sz;refine IvS.mono (IvS.sub (h.S hi j n (by omega)) (IvS.scale a (h.y i n hi (by omega)))) ?_;rw[Nat.add_mul];omega
theorem KrB.S3 (h:KrB k m l f y bs)(hi:i<f.length)(j:Nat){n:Nat}(a:n<=f.length):IvS 302000000 (krS f y bs i j n):=by
 have b:=h.n;have c:=h.l1;refine IvS.mono (h.S hi j n a) ?_;have:=Nat.mul_le_mul (show n<=3 by omega) (show 460000+l+1<=100460001 by omega);omega
theorem KrB.mid (h:KrB k m l f y bs)(h1:1<=f.length)(i:Nat):Sz 404 ((Hb9 bs).get i):=Hc8 (h.at (n:=0) h1) i
theorem KrB.A (h:KrB k m l f y bs)(hi:i<f.length): ∀n,n<=f.length->Sz (404+n*(l+19000000+1)) (krA f y bs i n)
 | 0,_=>(h.mid (by omega) i).mono (by omega)
 | n+1,a=>by
  refine((h.A hi n (by omega)).sub ((h.y i n hi (by omega)).mul (h.at (n:=n) (by omega)).Hs2)).mono ?_;rw[Nat.add_mul];omega
theorem KrB.A3 (h:KrB k m l f y bs)(hi:i<f.length){n:Nat}(a:n<=f.length):Sz 358000000 (krA f y bs i n):=by
 have b:=h.n;have c:=h.l1;refine(h.A hi n a).mono ?_;have:=Nat.mul_le_mul (show n<=3 by omega) (show l+19000000+1<=119000001 by omega);omega
theorem KrB.Hr8 (h:KrB k m l f y bs)(h1:1<=f.length)(i:Nat):IvS 2000 (He4 (Bm3 bs i) (Eb6 ((Hb9 bs).get i))):=((h.at (n:=0) h1).Hr8 i i).sz
theorem KrB.R (h:KrB k m l f y bs)(hi:i<f.length): ∀n,n<=f.length->IvS (358000000+n*302002001) (krR f y bs i n)
 | 0,_=>⟨(h.A3 hi (Nat.le_refl _)).mono (by omega),(h.A3 hi (Nat.le_refl _)).mono (by omega)⟩
 | n+1,a=>by
  refine IvS.mono (IvS.add (h.R hi n (by omega)) (IvS.mul (h.S3 hi n (Nat.le_refl _)) (h.Hr8 (by omega) n))) ?_;rw[Nat.add_mul];omega
theorem KrB.R3 (h:KrB k m l f y bs)(hi:i<f.length){n:Nat}(a:n<=f.length):IvS 1300000000 (krR f y bs i n):=by
 have b:=h.n;refine IvS.mono (h.R hi n a) ?_;have:=Nat.mul_le_mul_right 302002001 (show n<=3 by omega);omega
end Go.Proofs.YtkgeopnakkcdoaaGreatDoor
namespace Go.Proofs.YtkgeopnakkcdoaaGreatDoor
open Go Go.SX
variable {bs:List Iv}{x:Iv}
def Mw1 (x:Rat):Rat:=if x<0 then -x else x
theorem Mv1 (x:Rat):0<=Mw1 x:=by unfold Mw1;split<;>grind
theorem Mu9 (x:Rat):x<=Mw1 x/\-x<=Mw1 x:=by unfold Mw1;split<;>grind
theorem Mw9 {x c:Rat}(h1:x<=c)(a: -x<=c):Mw1 x<=c:=by unfold Mw1;split<;>grind
theorem Na9 (x y:Rat):Mw1 (x*y)<=Mw1 x*Mw1 y:=by
 have h1:=Mu9 x;have g:=Mu9 y;have a:=Mv1 x;have b:=Mv1 y;unfold Mw1 at *
 by_cases c:x<0<;>by_cases d:y<0<;>by_cases e:x*y<0<;>simp only[c,d,e,if_true,if_false] at *<;>first | grind | (have:=Rat.mul_nonneg a b;grind)
def mg (x:Iv):Rat:=Au7 (-x.1) x.2
theorem Nf3 {s:Rat}(h:inI x s):Mw1 s<=mg x:=by
 have h1:=(Cl6 (-x.1) x.2);exact Mw9 (Rat.le_trans h.2 h1.2) (Rat.le_trans (by have:=h.1;grind) h1.1)
theorem Ne5 (h:x.1<=x.2){w:Rat}(hw:0<=w):(Ay9 x (-w,w)).1<=-(mg x*w)/\mg x*w<=(Ay9 x (-w,w)).2:=by
 have k1:inI (-w,w) (-w):=⟨Rat.le_refl,by show -w<=w;grind⟩;have a:inI (-w,w) w:=⟨by show -w<=w;grind,Rat.le_refl⟩;have b:=Gc0 (x:=x) (v:=x.1) ⟨Rat.le_refl,h⟩ k1;have a2:=Gc0 (x:=x) (v:=x.1) ⟨Rat.le_refl,h⟩ a;have b1:=Gc0 (x:=x) (v:=x.2) ⟨h,Rat.le_refl⟩ k1;have b2:=Gc0 (x:=x) (v:=x.2) ⟨h,Rat.le_refl⟩ a;unfold mg;rcases Dj7 (-x.1) x.2 with e | e<;>rw[e]
 ·exact⟨by have:=a2.1;grind,by have:=b.2;grind⟩
 ·exact⟨by have:=b1.1;grind,by have:=b2.2;grind⟩
def wid (bs:List Iv) (k:Nat):Rat:=((Bm3 bs k).2-(Bm3 bs k).1)/2
theorem Na6 (x:Iv):x.1-Ga6 x = -((x.2-x.1)/2)/\x.2-Ga6 x=(x.2-x.1)/2:=by
 unfold Ga6;rw[Rat.div_def,Rat.div_def];exact⟨by grind,by grind⟩
theorem Nc5 {k:Nat}(bs:List Iv)(hk:k<3):He4 (Bm3 bs k) (Eb6 ((Hb9 bs).get k))=(-(wid bs k),wid bs k):=by
 rw[Hd5 bs hk];obtain⟨h1,a⟩:=Na6 (Bm3 bs k);exact Prod.ext h1 a
theorem Na5 (h: ∀x∈bs,x.1<=x.2)(k:Nat):0<=wid bs k:=by
 have:=Ey5 h k;unfold wid;rw[Rat.div_def];exact Rat.mul_nonneg (by grind) (by decide +kernel)
theorem Na2 {f:List (List Tm)}{y:Nat->Nat->Rat}{bs:List Iv}(i k:Nat): ∀n,(krS f y bs i k n).1<=(krS f y bs i k n).2
 | 0=>Rat.le_refl
 | n+1=>by
  have h:=Na2 (f:=f) (y:=y) (bs:=bs) i k n;rw[krS];have a:(De8 (Aq8 (Bm3 bs) (Hc3 (fAt f n) (k:Int))) (y i n)).1<=(De8 (Aq8 (Bm3 bs) (Hc3 (fAt f n) (k:Int))) (y i n)).2:=by
   rw[<-Ez7];exact Ew6 _ _
  show _-_<=_-_;grind
def reach (f:List (List Tm)) (y:Nat->Nat->Rat) (bs:List Iv) (i:Nat) (n:Nat):Rat:=Mu5 (λ k=>mg (krS f y bs i k f.length)*wid bs k) n
theorem Mx1 {f:List (List Tm)}{y:Nat->Nat->Rat}{bs:List Iv}(a: ∀x∈bs,x.1<=x.2)(i:Nat): ∀n,n<=3->(krR f y bs i n).1<=krA f y bs i f.length-reach f y bs i n/\krA f y bs i f.length+reach f y bs i n<=(krR f y bs i n).2
 | 0,_=>by
  unfold reach Mu5;exact⟨by show krA f y bs i f.length<=_;grind,by show _<=krA f y bs i f.length;grind⟩
 | n+1,b=>by
  obtain⟨h1,c⟩:=Mx1 (f:=f) (y:=y) a i n (by omega);obtain⟨k1,d⟩:=Ne5 (Na2 (f:=f) (y:=y) (bs:=bs) i n f.length) (Na5 a n);rw[krR,Nc5 bs (by omega)];have e:reach f y bs i (n+1)=reach f y bs i n+mg (krS f y bs i n f.length)*wid bs n:=rfl;rw[e];exact⟨by show _+_<=_;grind,by show _<=_+_;grind⟩
theorem Na1 {f g:Nat->Rat}: ∀{n:Nat} (_: ∀j,j<n->f j<=g j),Mu5 f n<=Mu5 g n
 | 0,_=>Rat.le_refl
 | n+1,h=>by
  have:=Na1 (n:=n) λ j a=>h j (by omega);have:=h n (by omega);show Mu5 f n+f n<=Mu5 g n+g n;grind
theorem Na8 {g:Nat->Rat}{f:Nat->Rat}{n:Nat}(h: ∀j,j<n->Mw1 (f j)<=g j):Mw1 (Mu5 f n)<=Mu5 g n:=by
 refine Mw9 (Na1 λ j a=>Rat.le_trans (Mu9 _).1 (h j a)) ?_;have e: -(Mu5 f n)=Mu5 (λ j=>(-1)*f j) n:=by rw[Mu8];grind
 rw[e];refine Na1 λ j a=>?_;have:=(Mu9 (f j)).2;have:=h j a;grind
theorem Mv3 {f:List (List Tm)}{y:Nat->Nat->Rat}{s:Nat->Nat->Rat}{d:Nat->Rat}{rho:Rat}{i:Nat}(a:0<=rho)(b: ∀x∈bs,x.1<=x.2)(c: ∀k,k<bs.length->inI (krS f y bs i k f.length) (s i k))(g: ∀k,k<bs.length->Mw1 (d k)<=rho*wid bs k):Mw1 (Mu5 (λ k=>s i k*d k) bs.length)<=rho*reach f y bs i bs.length:=by
 have e:rho*reach f y bs i bs.length=Mu5 (λ k=>rho*(mg (krS f y bs i k f.length)*wid bs k)) bs.length:=by rw[Mu8];rfl
 rw[e];refine Na8 λ k hk=>?_;have h1:=Na9 (s i k) (d k);have h:=Nf3 (c k hk);have j:=g k hk;have n:=Rat.mul_le_mul_of_nonneg_left j (Mv1 (s i k));have o:=Rat.mul_le_mul_of_nonneg_right h (Rat.mul_nonneg a (Na5 b k));grind
end Go.Proofs.YtkgeopnakkcdoaaGreatDoor
namespace Go.Proofs.YtkgeopnakkcdoaaGreatDoor
open Go Go.SX
abbrev Ps (W:PW) (s:Sl) (a:List (List Tm)):Prop:=Gf4 257 169 W s a
def Kq0 (n:Nat) (l:List PL) (_:PW):Nat:=match l with
 | [.val (.int .i64 i)]=>n-i.toNat
 | _=>0
end Go.Proofs.YtkgeopnakkcdoaaGreatDoor
namespace Go.Proofs.YtkgeopnakkcdoaaGreatDoor
open Go Go.SX
variable {K:Value->PW->Prop}{M:Nat->Prop}{W W0:PW}{m:Nat->Nat->Rat}{n0 p q r:Nat}{s:Sl}
theorem Gy4 {t:TypeId}(W:PW)(c:Nat):Qs t W (List.replicate c [.slice none 0 0,.bool false,.slice none 0 0]) c (λ _=>0):=
 ⟨by simp,λ i hi=>⟨⟨none,0,0⟩,false,⟨none,0,0⟩,by simp[hi],Ar9 W⟩⟩
def Ha8 (n0:Nat) (W0:PW) (r c:Nat) (l:List PL) (W:PW):Prop:=
 match l with
 | [.val (.int .i64 i),.row l3]=>Ext W0 W/\∃(k:Nat) (a:List Sl),i=(k:Int)/\k<=r/\a.length=k/\l3=(a.map λ x=>[x.v]) ++ List.replicate (r-k) [.slice none 0 0]/\
   (∀i (h:i<a.length),∃xs,Go.SX.Own W 50 3 a[i] xs/\Qs 257 W xs c (λ _=>0)/\∀g,a[i].v.ownBlock=some g->n0<=g)/\
   ∀i j (hi:i<a.length) (b:j<a.length),i≠j->∀g,a[i].v.ownBlock=some g->a[j].v.ownBlock≠some g
 | _=>False
def Ha5 (r:Nat) (l:List PL) (W:PW):Nat:=
 match l with
 | [.val (.int .i64 i),_]=>r-i.toNat
 | _=>0
theorem Gt9 {c:Nat}(E:Gf6 n0 W0)(V:r<=1048576)(X:c<=1048576):
  Aa0 Tryz.prog 93 [.int .i64 (r:Int),.int .i64 (c:Int)] W0 M λ v W'=>∃(s':Sl),v=Sl.v s'/\Gl4 257 50 84 (n0<=·) W' s' r c (λ _ _=>0):=by
 apply Gn9;refine⟨⟨rfl,by omega,by omega⟩,Ha8 n0 W0 r c,Ha5 r,⟨Ext.refl _,0,[],rfl,Nat.zero_le _,rfl,by simp,λ i h=>by simp at h,λ i j h=>by simp at h⟩,?_⟩;rintro l3 i4 Y ⟨O,k,a,rfl,hk,n,rfl,w,F⟩;rw[List.length_replicate,show Int.toNat (r:Int)=r from rfl,show Int.toNat (c:Int)=c from rfl,show Int.toNat (k:Int)=k from rfl];have hlen:((a.map λ x=>[x.v]) ++ List.replicate (r-k) [Value.slice none 0 0]).length=r:=by simp;omega
 refine⟨λ Z=>⟨⟨rfl,by omega,by omega⟩,⟨by omega,by rw[hlen];omega⟩,λ G P z hO o=>⟨by rw[hlen];omega,by unfold I64;omega,⟨O.trans z,k+1,a ++ [G],by push_cast;rfl,by omega,by simp[n],?_,?_,?_⟩,?_⟩⟩,λ aa Q ab H hO o ac A=>⟨Q,rfl,?_⟩⟩
 ·rw[List.set_append_right _ _ (by simp[n])]
  simp only[List.length_map,n,Nat.sub_self,List.map_append,List.map_cons,List.map_nil];rw[show r-k=(r-(k+1))+1 by omega,List.replicate_succ,List.set_cons_zero];simp
 ·intro i h
  by_cases e:i<a.length
  ·obtain⟨xs,k1,t,u⟩:=w i e
   rw[List.getElem_append_left e];exact⟨xs,k1.ext z,t.ext z,u⟩
  ·have:i=a.length:=by simp at h;omega
   subst this;rw[List.getElem_concat_length rfl];refine⟨_,hO,Gy4 P c,λ g d=>?_⟩;exact Nat.le_trans E (o g d).1
 ·have key: ∀i (hi:i<a.length) g,G.v.ownBlock=some g->a[i].v.ownBlock≠some g:=by
   intro i hi g d b;obtain⟨xs,k1,t,u⟩:=w i hi
   by_cases I:xs = []
   ·have E:=k1.n
    subst I;have h6:=hO.n;rcases k1.1.2.2 with⟨B,_⟩ | ⟨g1,cap,cur,B,_,C,_⟩
    ·rw[B] at b
     simp[Value.ownBlock] at b
    ·have J:a[i].v.ownBlock=some g1:=by rw[B];rfl
     rw[b] at J;cases J;exact k1.2 g b ((o g d).2 (Array.getElem?_eq_some_iff.1 C).1)
   ·obtain⟨g1,cs,_,L,R,C,_⟩:=k1.at I
    rw[b] at L;cases L;exact R ((o g d).2 (Array.getElem?_eq_some_iff.1 C).1)
  intro i j hi S T g d b;simp only[List.length_append,List.length_cons,List.length_nil] at hi S
  by_cases D:i<a.length
  ·rw[List.getElem_append_left D] at d
   by_cases N:j<a.length
   ·rw[List.getElem_append_left N] at b
    exact F i j D N T g d b
   ·have:j=a.length:=by omega
    subst this;rw[List.getElem_concat_length rfl] at b;exact key i D g b d
  ·have:i=a.length:=by omega
   subst this;rw[List.getElem_concat_length rfl] at d;rw[List.getElem_append_left (by omega)] at b;exact key j (by omega) g d b
 ·show r-Int.toNat ((k:Int)+1)<r-Int.toNat (k:Int)
  omega
 ·have U:k=r:=by omega
  subst U;rw[Nat.sub_self,List.replicate_zero,List.append_nil] at hO;exact⟨a,n,(hO.ext A).row,λ i hi=>let⟨xs,k1,t,u⟩:=w i hi;⟨xs,(k1.ext H).ext A,(t.ext H).ext A,u⟩,F⟩
theorem Gp0 {c:Nat}(b:Gf6 n0 W)(d:r<=1048576)(e:c<=1048576)(g: ∀(s':Sl) (W':PW),Ext W W'->(Gl4 257 50 84 (n0<=·) W' s' r c (λ _ _=>0))->K (Sl.v s') W'):
  Aa1 Tryz.prog W0 M 93 [.int .i64 (r:Int),.int .i64 (c:Int)] W K:=
 Mi4 (λ _ a=>Gt9 (b.ext a) d e) fun | _,W',a,⟨s',rfl,h⟩=>g s' W' a h
def Gf8 (r:Nat) (c:Nat->Nat):Prop:=(∀i,i<r->c i=c 0)/\1<=r/\r<=12/\1<=c 0/\c 0<=12
theorem Gt0 {c:Nat->Nat}(h:Gf9 257 50 84 W0 s r c m)(z:r<=1099511627776):
  Aa0 Tryz.prog 137 [s.v] W0 M λ v W'=>∃(b:Bool),v = .bool b/\(b=true↔Gf8 r c):=by
 apply Gg2;have A:=h.n;refine⟨λ l W=>match l with | [.val (.int .i64 i)]=>Ext W0 W/\∃k:Nat,i=(k:Int)/\k<=r/\∀i,i<k->c i=c 0 | _=>False,λ l _=>match l with | [.val (.int .i64 i)]=>r-i.toNat | _=>0,⟨Ext.refl _,0,rfl,Nat.zero_le _,λ i h=>(by omega)⟩,?_⟩;rintro i3 B ⟨d,k,rfl,hk,g⟩;have a:=h.ext d;refine⟨λ C=>?_,λ D=>⟨λ h1=>⟨λ n=>?_,λ n=>λ E _=>⟨false,rfl,?_⟩⟩,λ h1=>λ F _=>⟨false,rfl,?_⟩⟩⟩
 ·obtain⟨x,o,t⟩:=a.at (i:=k) (by omega)
  obtain⟨y,f1,f2⟩:=a.at (i:=0) (by omega);have G:=t.n;have u:=f2.n;refine⟨a.inB (by omega) (by omega),x,o,a.inB (by omega) (by omega),y,f1,λ H I _=>⟨false,rfl,?_⟩,λ heq=>⟨by unfold I64;omega,⟨d,k+1,by push_cast;rfl,by omega,λ i hi=>?_⟩,?_⟩⟩
  ·refine⟨λ h=>(by cases h),λ h=>?_⟩
   have:=h.1 k (by omega);omega
  ·by_cases e:i=k
   ·subst e;omega
   ·exact g i (by omega)
  ·show r-Int.toNat ((k:Int)+1)<r-Int.toNat (k:Int)
   omega
 ·have J:k=r:=by omega
  obtain⟨y,f1,f2⟩:=a.at (i:=0) (by omega);have u:=f2.n;have j:=a.inB (i:=0) (by omega) (by omega);refine⟨j,y,f1,λ w=>⟨j,y,f1,λ L _=>⟨_,rfl,?_⟩⟩,λ w N _=>⟨false,rfl,?_⟩⟩
  ·rw[decide_eq_true_iff]
   exact⟨λ h=>⟨λ i hi=>g i (by omega),by omega,by omega,by omega,by omega⟩,λ h=>by have:=h.2.2.2.2;omega⟩
  ·refine⟨λ h=>(by cases h),λ h=>?_⟩
   have:=h.2.2.2.1;omega
 ·refine⟨λ h=>(by cases h),λ h=>?_⟩
  have:=h.2.2.1;omega
 ·refine⟨λ h=>(by cases h),λ h=>?_⟩
  have:=h.2.1;omega
theorem Go6 {c:Nat->Nat}(h:Gf9 257 50 84 W s r c m)(d:r<=1099511627776)(e: ∀(b:Bool) (W':PW),Ext W W'->((b=true↔Gf8 r c))->K (.bool b) W'):
  Aa1 Tryz.prog W0 M 137 [s.v] W K:=
 Mi4 (λ _ a=>Gt0 (h.ext a) d) fun | _,W',a,⟨b,rfl,h⟩=>e b W' a h
theorem Gr7 {c:Nat->Nat}(h:Gf9 257 50 84 W0 s r c m)(a:r<=1099511627776):
  Aa0 Tryz.prog 58 [s.v] W0 M λ v W'=>∃(b:Bool),v = .bool b/\(b=true↔Gf8 r c):=by
 apply Gm1;exact Go6 h a λ b e g d=>⟨b,rfl,λ j n=>⟨b,rfl,d⟩⟩
theorem Gn0 {c:Nat->Nat}(h:Gf9 257 50 84 W s r c m)(d:r<=1099511627776)(e: ∀(b:Bool) (W':PW),Ext W W'->((b=true↔Gf8 r c))->K (.bool b) W'):
  Aa1 Tryz.prog W0 M 58 [s.v] W K:=
 Mi4 (λ _ a=>Gr7 (h.ext a) d) fun | _,W',a,⟨b,rfl,h⟩=>e b W' a h
theorem Mo3 {c:Nat->Nat}(h:Gf9 257 50 84 W0 s r c m)(t:r<=1099511627776):
  Aa0 Tryz.prog 54 [s.v,.int .i64 (p:Int),.int .i64 (q:Int)] W0 M λ v W'=>∃(b:Bool),v = .bool b/\(b=true↔(∀i,i<r->c i=q)/\r=p):=by
 apply Mk4;have u:=h.n;refine⟨λ l W=>match l with | [.val (.int .i64 i)]=>Ext W0 W/\∃k:Nat,i=(k:Int)/\k<=r/\∀i,i<k->c i=q | _=>False,λ l _=>match l with | [.val (.int .i64 i)]=>r-i.toNat | _=>0,⟨Ext.refl _,0,rfl,Nat.zero_le _,λ i h=>(by omega)⟩,?_⟩;rintro i3 w ⟨a,k,rfl,hk,d⟩;have g:=h.ext a;refine⟨λ z=>?_,λ A j _=>⟨_,rfl,?_⟩⟩
 ·obtain⟨x,n,o⟩:=g.at (i:=k) (by omega)
  have B:=o.n;refine⟨g.inB (by omega) (by omega),x,n,λ C j _=>⟨false,rfl,?_⟩,λ heq=>⟨by unfold I64;omega,⟨a,k+1,by push_cast;rfl,by omega,λ i hi=>?_⟩,?_⟩⟩
  ·refine⟨λ h=>(by cases h),λ h=>?_⟩
   have:=h.1 k (by omega);omega
  ·by_cases e:i=k
   ·subst e;omega
   ·exact d i (by omega)
  ·show r-Int.toNat ((k:Int)+1)<r-Int.toNat (k:Int)
   omega
 ·rw[decide_eq_true_iff]
  exact⟨λ h=>⟨λ i hi=>d i (by omega),by omega⟩,λ h=>by have:=h.2;omega⟩
theorem Mm0 {c:Nat->Nat}(h:Gf9 257 50 84 W s r c m)(d:r<=1099511627776)(e: ∀(b:Bool) (W':PW),Ext W W'->((b=true↔(∀i,i<r->c i=q)/\r=p))->K (.bool b) W'):
  Aa1 Tryz.prog W0 M 54 [s.v,.int .i64 (p:Int),.int .i64 (q:Int)] W K:=
 Mi4 (λ _ a=>Mo3 (h.ext a) d) fun | _,W',a,⟨b,rfl,h⟩=>e b W' a h
def Ms0:Nat->Nat->Rat:=λ i j=>if i=j then 1 else 0
theorem Mq2 {n:Nat}(u:Gf6 n0 W0)(h1:1<=n)(L:n<=12):
  Aa0 Tryz.prog 56 [.int .i64 (n:Int)] W0 M λ v W'=>∃(s':Sl),v=Sl.v s'/\Gl4 257 50 84 (n0<=·) W' s' n n Ms0:=by
 apply Mo7;have w:mn (mx (n:Int) 1) 12=(n:Int):=by unfold mn mx;split<;>(try split)<;>omega
 rw[w];have A:Gf6 W0.w.heap.size W0:=Nat.le_refl _;refine Gp0 A (by omega) (by omega) λ s3 N O B=>⟨s3,rfl,?_⟩;refine⟨λ l W=>match l with | [.val (.int .i64 i)]=>∃k:Nat,i=(k:Int)/\k<=n/\Gl4 257 50 84 (W0.w.heap.size<=·) W s3 n n (λ a b=>if a=b/\a<k then 1 else 0) | _=>False,λ l _=>match l with | [.val (.int .i64 i)]=>n-i.toNat | _=>0,⟨0,rfl,Nat.zero_le _,B.congr λ i j _ _=>by simp⟩,?_⟩;rintro i6 P ⟨k,rfl,hk,c⟩;have Q:=c.mat.n;refine⟨λ R=>?_,λ S T C=>⟨s3,rfl,?_⟩⟩
 ·obtain⟨x,t,d⟩:=c.mat.at (i:=k) (by omega)
  refine⟨c.mat.inB (by omega) (by omega),x,t,Ay8 (z:=1) (by unfold I64;omega) λ D E F U h G=>⟨D,E,F,rfl,h,(d.ext h).inB (by omega) (by omega),?_⟩⟩;have H:=c.ext h;have I:=t.ext h;refine H.store (j:=k) I (by omega) (by omega) G (by decide) (by decide) (λ g o=>.inr o) λ V _ J=>⟨by unfold I64;omega,⟨k+1,by push_cast;rfl,by omega,J.congr λ a b X Y=>?_⟩,?_⟩
  ·unfold Ha2
   by_cases e:a=k/\b=k
   ·rw[if_pos e,if_pos (by omega)];rfl
   ·rw[if_neg e]
    dsimp only
    by_cases d:a=b/\a<k
    ·rw[if_pos d,if_pos (by omega)]
    ·rw[if_neg d,if_neg (by omega)]
  ·show n-Int.toNat ((k:Int)+1)<n-Int.toNat (k:Int)
   omega
 ·refine((c.ext C).mono λ g o=>Nat.le_trans u o).congr λ i j hi Z=>?_
  unfold Ms0
  by_cases e:i=j
  ·rw[if_pos e,if_pos ⟨e,by omega⟩]
  ·rw[if_neg e,if_neg (by omega)]
theorem Mj8 {n:Nat}(b:Gf6 n0 W)(h1:1<=n)(c:n<=12)(d: ∀(s':Sl) (W':PW),Ext W W'->(Gl4 257 50 84 (n0<=·) W' s' n n Ms0)->K (Sl.v s') W'):
  Aa1 Tryz.prog W0 M 56 [.int .i64 (n:Int)] W K:=
 Mi4 (λ _ a=>Mq2 (b.ext a) h1 c) fun | _,W',a,⟨s',rfl,h⟩=>d s' W' a h
end Go.Proofs.YtkgeopnakkcdoaaGreatDoor
