/- Values of sums, products and compositions. -/
import Derived.Test.YtokefihiadbkbaaGreatDoorW8
import Derived.Test.YtokefihiadbkbaaGreatDoorLib3
import Derived.Test.YtokefihiadbkbaaGreatDoorLib4
import Derived.Test.YtokefihiadbkbaaGreatDoorW3
import Derived.Test.YtokefihiadbkbaaGreatDoorLib5
import Derived.Test.YtokefihiadbkbaaGreatDoorR17
import Derived.Test.YtokefihiadbkbaaGreatDoorR13
import Derived.Test.YtokefihiadbkbaaGreatDoorW6
set_option linter.unusedVariables false
set_option linter.unusedSimpArgs false
namespace Go.Proofs.YtokefihiadbkbaaGreatDoor
open Go Go.SX
theorem POk.Ff3 {p q:List Tm} (h:Ct4 p q):POk (Ag2 (An8 p q)):=POk.norm fun t ht=>by
 obtain⟨a,ha,hm⟩:=List.mem_flatMap.1 ht
 obtain⟨b,hb,rfl⟩:=List.mem_map.1 hm
 exact h a ha b hb
theorem Lb5 (r:Rat):POk (cst r):=POk.norm fun t ht=>by simp at ht;subst ht;exact(by decide:(⟨0,0,0⟩:Mon).ok)
theorem Gk4.Ff3 {e f:Int} {p q:List Tm} (h:Gk4 e p) (k:Gk4 f q) (hM:Ct4 p q):Gk4 (e+f) (Ag2 (An8 p q)):=Gk4.norm fun t ht=>by
 obtain⟨a,ha,hm⟩:=List.mem_flatMap.1 ht
 obtain⟨b,hb,rfl⟩:=List.mem_map.1 hm
 have h1:=h a ha
 have h2:=k b hb
 refine⟨hM a ha b hb,?_⟩
 dsimp only[Mon.add]
 omega
theorem Kv1 {f:Int} (hf:0≤f): ∀{l:List (List Tm)} {c:List Tm} {e:Int} (_:Gk4 e c) (_: ∀q∈l,Gk4 f q) (_:e+f*(l.length:Int)≤255),∃d,Ks2 c l=some d
 | [],c,e,_,_,_=>⟨c,rfl⟩
 | q :: r,c,e,hc,hq,hb=>by
  have hq0:=hq q (by simp)
  rw[List.length_cons] at hb
  push_cast at hb
  rw[Int.mul_add,Int.mul_one] at hb
  have h0:0≤f*(r.length:Int):=Int.mul_nonneg hf (by omega)
  have hM:Ct4 c q:=Gx3 hc hq0 (by omega)
  obtain⟨d,hd⟩:=Kv1 hf (l:=r) (c:=Ag2 (An8 c q)) (e:=e+f) (hc.Ff3 hq0 hM) (fun x hx=>hq x (by simp[hx])) (by omega)
  refine⟨d,?_⟩
  have e:Ks2 c (q :: r)=r.foldl Kr9 (Kr9 (some c) q):=rfl
  rw[e,Kr9]
  rw[if_pos hM]
  exact hd
theorem Kx3 {b:Nat} : ∀{l:List (List Tm)} {c d:List Tm} {a:Nat} (_:Ks2 c l=some d) (_: ∀q∈l,q.length≤b) (_:c.length≤a),d.length≤a*b^l.length
 | [],c,d,a,h,_,h2=>by
  simp[Ks2] at h
  subst h
  simpa using h2
 | q :: r,c,d,a,h,hq,h2=>by
  have e:Ks2 c (q :: r)=r.foldl Kr9 (Kr9 (some c) q):=rfl
  rw[e] at h
  unfold Kr9 at h
  dsimp only at h
  split at h
  ·have hl:(Ag2 (An8 c q)).length≤a*b:=by
    have:=El2 (An8 c q)
    rw[Eb1] at this
    exact Nat.le_trans this (Nat.mul_le_mul h2 (hq q (by simp)))
   refine Nat.le_trans (Kx3 (l:=r) (c:=Ag2 (An8 c q)) h (fun x hx=>hq x (by simp[hx])) hl) ?_
   rw[List.length_cons,Nat.pow_succ,Nat.mul_assoc,Nat.mul_comm b]
   exact Nat.le_refl _
  ·have h:r.foldl Kr9 none=some d:=h
   rw[Ks0] at h
   cases h
end Go.Proofs.YtokefihiadbkbaaGreatDoor
/- cinctureref1.Compose of a polynomial of degree at most 18 with factors of two terms. -/
set_option maxRecDepth 100000
namespace Go.Proofs.YtokefihiadbkbaaGreatDoor
open Go Go.SX
structure Ky3 (k:Nat) (q:Nat→List Tm) (p:List Tm):Prop where
 fac: ∀i,i<3→Bd k (q i)∧(q i).length≤2
 sz: ∀t∈p,Sz k t.2
 deg: ∀t∈p,t.1.deg≤18
 ok:POk p
 len:p.length≤14
 k:k≤1000
theorem Kx6 {k:Nat} : ∀{l:List (List Tm)} {c d:List Tm} {b:Nat} (_:Ks2 c l=some d) (_: ∀q∈l,Bd k q) (_:Bd b c),Bd (b+l.length*k) d
 | [],c,d,b,h,_,h1=>by
  simp[Ks2] at h
  subst h
  simpa using h1
 | q :: r,c,d,b,h,hq,h1=>by
  have e:Ks2 c (q :: r)=r.foldl Kr9 (Kr9 (some c) q):=rfl
  rw[e] at h
  unfold Kr9 at h
  dsimp only at h
  split at h
  ·have:=Kx6 (l:=r) (c:=Ag2 (An8 c q)) h (fun x hx=>hq x (by simp[hx])) (h1.Ff3 (hq q (by simp))).norm
   refine this.mono ?_
   rw[List.length_cons,Nat.add_mul]
   omega
  ·have h:r.foldl Kr9 none=some d:=h
   rw[Ks0] at h
   cases h
theorem Lb2 {n:Nat} (h:n≤18):1*2^n≤262144:=by
 have:=Nat.pow_le_pow_right (show 0<2 by omega) h
 omega
theorem Ky3.part {k:Nat} {q:Nat→List Tm} {p:List Tm} (h:Ky3 k q p) {t:Tm} (ht:t∈p) {m n:Nat} (hm:m<3) (hn:n≤ege t m) {c:List Tm} (hc:Ks2 (cst t.2) (Ks6 q (ege t) m ++ List.replicate n (q m))=some c):Bd (19*k+3) c∧c.length≤262144:=by
 have h0:=Lb6 (h.sz t ht)
 have hl:=Ku5 q hm hn
 rw[Kv5 q (h.ok t ht)] at hl
 have hd:=h.deg t ht
 have h18:(Ks6 q (ege t) m ++ List.replicate n (q m)).length≤18:=by omega
 have hx: ∀x∈Ks6 q (ege t) m ++ List.replicate n (q m),Bd k x∧x.length≤2:=fun x hx=>by
  rcases List.mem_append.1 hx with hx | hx
  ·obtain⟨i,hi,rfl⟩:=Kx1 hx
   exact h.fac i (by omega)
  ·rw[List.eq_of_mem_replicate hx]
   exact h.fac m hm
 have a1:=Kx6 hc (fun x h=>(hx x h).1) h0.1
 have a2:=Kx3 (b:=2) (a:=1) hc (fun x h=>(hx x h).2) h0.2
 refine⟨a1.mono ?_,Nat.le_trans a2 (Lb2 h18)⟩
 have:=Nat.mul_le_mul_right k h18
 omega
theorem Ky3.all {k:Nat} {q:Nat→List Tm} {p:List Tm} (h:Ky3 k q p) {t:Tm} (ht:t∈p) {c:List Tm} (hc:Ks1 q t=some c):Bd (19*k+3) c∧c.length≤262144:=by
 have e:Ks6 q (ege t) 3=Ks6 q (ege t) 2 ++ List.replicate (ege t 2) (q 2):=rfl
 unfold Ks1 at hc
 rw[e] at hc
 exact h.part ht (by omega) (Nat.le_refl _) hc
theorem Ky3.take {k:Nat} {q:Nat→List Tm} {p:List Tm} (h:Ky3 k q p) (j:Nat):Ky3 k q (p.take j):=⟨h.fac,fun t ht=>h.sz t (List.mem_of_mem_take ht),fun t ht=>h.deg t (List.mem_of_mem_take ht),fun t ht=>h.ok t (List.mem_of_mem_take ht),by have:=h.len;rw[List.length_take];omega,h.k⟩
theorem Ky3.sum {k:Nat} {q:Nat→List Tm} : ∀{p:List Tm} (_:Ky3 k q p) {d:List Tm} (_:Kr8 q p=some d),Bd (p.length*(19*k+4)+1) d∧d.length≤p.length*262144
 | [],h,d,hd=>by
  simp only[Kr8,Option.some.injEq] at hd
  subst hd
  exact⟨⟨1,0,trivial,by decide,by rw[Ax0];omega,by rw[Ag9];omega⟩,by simp⟩
 | t :: r,h,d,hd=>by
  rw[Kr8] at hd
  split at hd
  ·rename_i c d' h1 h2
   simp only[Option.some.injEq] at hd
   subst hd
   have a:=h.all (List.mem_cons_self ..) h1
   have b:=Ky3.sum (p:=r) ⟨h.fac,fun u hu=>h.sz u (List.mem_cons_of_mem _ hu),fun u hu=>h.deg u (List.mem_cons_of_mem _ hu),fun u hu=>h.ok u (List.mem_cons_of_mem _ hu),by have:=h.len;simp at this;omega,h.k⟩ h2
   refine⟨(a.1.append b.1).mono ?_,?_⟩
   ·rw[List.length_cons,Nat.add_mul]
    omega
   ·rw[List.length_append,List.length_cons,Nat.add_mul]
    omega
  ·cases hd
theorem Kt9 {q:Nat→List Tm} (hq: ∀i,i<3→Gk4 1 (q i)): ∀{p:List Tm} (_:POk p) (_: ∀t∈p,t.1.deg≤18),∃d,Kr8 q p=some d
 | [],_,_=>⟨[],rfl⟩
 | t :: r,ho,hd=>by
  obtain⟨d,h2⟩:=Kt9 hq (p:=r) (fun u hu=>ho u (by simp[hu])) fun u hu=>hd u (by simp[hu])
  have h0:=ho t (by simp)
  have h5:=hd t (by simp)
  have hl:=Kv5 q h0
  have hc:Gk4 0 (cst t.2):=Gk4.norm fun x hx=>by simp at hx;subst hx;exact⟨(by decide:(⟨0,0,0⟩:Mon).ok),Int.le_refl 0,Int.le_refl 0,Int.le_refl 0⟩
  obtain⟨c,h1⟩: ∃c,Ks1 q t=some c:=Kv1 (f:=1) (by omega) hc (fun x hx=>let⟨i,hi,e⟩:=Kx1 hx;e ▸ hq i hi) (by omega)
  exact⟨c ++ d,by rw[Kr8,h1,h2]⟩
theorem Kt6 {W0:PW} {M:Nat→Prop} {s s0 s1 s2:Sl} {p q0 q1 q2:List Tm} {k:Nat} (h:Ag1 231 142 W0 s p) (g0:Ag1 231 142 W0 s0 q0) (g1:Ag1 231 142 W0 s1 q1) (g2:Ag1 231 142 W0 s2 q2) (hf:Ky3 k (Kt8 q0 q1 q2) p):
  Aa0 Tryz.prog 86 [s.v,.agg ⟨[s0.v,s1.v,s2.v]⟩] W0 M fun v W'=>∃(s':Sl),v = .tuple ⟨[Sl.v s',.bool (Kr8 (Kt8 q0 q1 q2) p).isSome]⟩∧Ag1 231 142 W' s' (Ag2 ((Kr8 (Kt8 q0 q1 q2) p).getD [])):=by
 apply Ks9
 have hn:=h.n
 have hk:=hf.k
 have hpl:=hf.len
 refine⟨crO W0 (Kt8 q0 q1 q2) p,cnL p.length,⟨0,[],rfl,Nat.zero_le _,Ext.refl _,rfl,Ag1.nil W0⟩,?_⟩
 rintro s3 i4 W5 ⟨j,acc,rfl,hj,hE5,hacc,hout⟩
 have hout:Ag1 231 142 W5 s3 (Ag2 acc):=hout
 have hsum:=(hf.take j).sum hacc
 rw[List.length_take] at hsum
 have hm1:min j p.length*(19*k+4)≤14*19004:=Nat.mul_le_mul (by omega) (by omega)
 have hm2:min j p.length*262144≤14*262144:=Nat.mul_le_mul_right _ (by omega)
 refine⟨fun hlt=>?_,fun hge W32 hE32=>⟨s3,?_,?_⟩⟩
 ·have hjl:j<p.length:=by omega
  have hpm:p[j]∈p:=List.getElem_mem hjl
  have hib:=(h.ext hE5).inB (i:=(j:Int)) (by omega) (by omega)
  obtain⟨h0,d1,c1,c2,_,_,e3,hr⟩:=(h.ext hE5).at (List.getElem?_eq_getElem hjl)
  refine⟨hib,d1,c1,c2,e3,Kf1 hr (hf.sz _ hpm) (by omega) fun s11 W10 hE10 h11=>⟨s11,rfl,?_⟩⟩
  refine⟨crI W10 (Kt8 q0 q1 q2) p[j],cnL 3,⟨0,cst p[j].2,rfl,by omega,Ext.refl _,rfl,h11⟩,?_⟩
  rintro s14 i15 W16 ⟨m,d,rfl,hm,hE16,hd,hP⟩
  have hP:Ag1 231 142 W16 s14 d:=hP
  refine⟨fun hlt3=>?_,fun hge3=>?_⟩
  ·have hm3:m<3:=by omega
   have hek:=Dg9 h0 m
   refine⟨crK W10 (Kt8 q0 q1 q2) p[j] m,cnL 256,⟨0,d,rfl,Nat.zero_le _,hE16,by simpa using hd,hP⟩,?_⟩
   rintro s19 i20 W21 ⟨n,d',rfl,hn',hE21,hd',hP'⟩
   have hP':Ag1 231 142 W21 s19 d':=hP'
   have hE0:=(hE5.trans hE10).trans hE21
   have hne:(ege p[j] m:Int)=An6 p[j].1 m:=by unfold ege;omega
   refine⟨(h.ext hE0).inB (by omega) (by omega),⟨by omega,by omega⟩,_,Kz6 (h.ext hE0) (List.getElem?_eq_getElem hjl) hm3,by unfold I64;omega,fun hlt'=>?_,fun hge'=>⟨by unfold I64;omega,⟨m+1,d',by push_cast;rfl,by omega,hE21,?_,hP'⟩,?_⟩⟩
   ·have hb:=hf.part hpm hm3 hn' hd'
    have hq:=hf.fac m hm3
    have hbq:=hq.1.mono (show k≤19*k+3 by omega)
    refine⟨⟨by omega,by omega⟩,_,Ky9 s0 s1 s2 hm3,?_⟩
    refine Ke0 hP' (Kw5 (g0.ext hE0) (g1.ext hE0) (g2.ext hE0) m) hb.1 hbq (by omega) (by omega) (by omega) (by have:=Nat.mul_le_mul hb.2 hq.2;omega) fun s26 W25 hE25 h25=>⟨s26,_,rfl,fun hno W28 _=>?_,fun hyes=>⟨by unfold I64;omega,⟨n+1,Ag2 (An8 d' (Kt8 q0 q1 q2 m)),by push_cast;rfl,by omega,hE21.trans hE25,?_,?_⟩,?_⟩⟩
    ·have hM:¬Ct4 d' (Kt8 q0 q1 q2 m):=by simpa using hno
     have ht:Ks1 (Kt8 q0 q1 q2) p[j]=none:=Ky8 hm3 (show n+1≤_ by omega) (by rw[Kx2,Kv9,hd',Kr9];rw[if_neg hM])
     rw[Ky6 hpm ht]
     exact⟨⟨none,0,0⟩,rfl,Ag1.nil W28⟩
    ·have hM:Ct4 d' (Kt8 q0 q1 q2 m):=by simpa using hyes
     rw[Kx2,Kv9,hd',Kr9]
     rw[if_pos hM]
    ·have hM:Ct4 d' (Kt8 q0 q1 q2 m):=by simpa using hyes
     rw[Gn4 hM] at h25
     exact h25
    ·show 256-Int.toNat ((n:Int)+1)<256-Int.toNat (n:Int)
     omega
   ·have:n=ege p[j] m:=by omega
    subst this
    exact hd'
   ·show 3-Int.toNat ((m:Int)+1)<3-Int.toNat (m:Int)
    omega
  ·have:m=3:=by omega
   subst this
   have ht:Ks1 (Kt8 q0 q1 q2) p[j]=some d:=hd
   have hb:=hf.all hpm ht
   have la:=El2 acc
   have e:Ag2 (Ag2 acc ++ d)=Ag2 (acc ++ d):=Bc1 fun x=>by rw[Au2,Au2,Bh2]
   refine Jv3 (hout.ext (hE10.trans hE16)) hP (Ce8 acc) (hsum.1.norm.mono (show _≤10000000 by omega)) (hb.1.mono (show _≤10000000 by omega)) (by omega) (by omega) (by omega) fun s31 W30 hE30 h30=>⟨s31,rfl,by unfold I64;omega,⟨j+1,acc ++ d,by push_cast;rfl,by omega,((hE5.trans hE10).trans hE16).trans hE30,?_,?_⟩,?_⟩
   ·rw[Ce0 hjl,Kx8,hacc,ht]
   ·rw[←e]
    exact h30
   ·show p.length-Int.toNat ((j:Int)+1)<p.length-Int.toNat (j:Int)
    omega
 ·have:j=p.length:=by omega
  subst this
  rw[List.take_length] at hacc
  rw[hacc]
  rfl
 ·have:j=p.length:=by omega
  subst this
  rw[List.take_length] at hacc
  rw[hacc]
  exact hout.ext hE32
theorem Ks7 {W0 W:PW} {M:Nat→Prop} {s s0 s1 s2:Sl} {p q0 q1 q2:List Tm} {k:Nat} {K:Value→PW→Prop} (h:Ag1 231 142 W s p) (g0:Ag1 231 142 W s0 q0) (g1:Ag1 231 142 W s1 q1) (g2:Ag1 231 142 W s2 q2) (hf:Ky3 k (Kt8 q0 q1 q2) p) (kont: ∀(s':Sl) (W':PW),Ext W W'→(Ag1 231 142 W' s' (Ag2 ((Kr8 (Kt8 q0 q1 q2) p).getD [])))→K (.tuple ⟨[Sl.v s',.bool (Kr8 (Kt8 q0 q1 q2) p).isSome]⟩) W'):
  Aa1 Tryz.prog W0 M 86 [s.v,.agg ⟨[s0.v,s1.v,s2.v]⟩] W K:=
 Aa2 (fun W' hE=>Kt6 (M:=fun _=>False) (h.ext hE) (g0.ext hE) (g1.ext hE) (g2.ext hE) hf) (fun W' v W'' hE hE' hP=>by
  obtain⟨s',rfl,h⟩:=hP
  exact kont s' W'' (hE.trans hE') h)
end Go.Proofs.YtokefihiadbkbaaGreatDoor
/- bern.between, and what is done to a line of coefficients for its halves. -/
namespace Go.Proofs.YtokefihiadbkbaaGreatDoor
open Go Go.SX
abbrev VQ (W:PW) (s:Sl) (n:Nat) (f:Nat→Rat):Prop:=OwV 231 42 W s n f
abbrev XQ (W:PW) (r:Option Addr) (m:Nat) (q:Nat→Rat):Prop:=In9 231 W r m q
abbrev Iz4 (r:Option Addr) (s:Sl):Prop:=∀g,(⟨r,1,1⟩:Sl).v.ownBlock=some g→¬s.v.ownBlock=some g
def Jf3 (s:Sl) (n:Nat) (u:Rat) (f q:Nat→Rat) (r:Option Addr) (L:List PL) (W:PW):Prop:=match L with
 | [.val (.int .i64 z)]=>∃k:Nat,z=(k:Int)∧k≤n∧VQ W s n (loS u f k (n-1))∧XQ W r 1 q
 | _=>False
def Iv2 (n:Nat) (L:List PL) (_:PW):Nat:=match L with
 | [.val (.int .i64 z)]=>n-z.toNat
 | _=>0
end Go.Proofs.YtokefihiadbkbaaGreatDoor
/- bern.count, bern.lines. -/
namespace Go.Proofs.YtokefihiadbkbaaGreatDoor
open Go Go.SX
def Id4 (W:PW) (s:Sl) (zs:List Int):Prop:=Bf9 W 1 s (zs.map fun z=>[.int .i64 z])
theorem Id4.ext {W W':PW} {s:Sl} {zs:List Int} (h:Id4 W s zs) (hE:Ext W W'):Id4 W' s zs:=Bf9.ext h hE
theorem Id4.n {W:PW} {s:Sl} {zs:List Int} (h:Id4 W s zs):s.n=zs.length:=by obtain⟨_,h⟩:=h;have:=h.1;rwa [List.length_map] at this
theorem Id4.inB {W:PW} {s:Sl} {zs:List Int} (h:Id4 W s zs) {i:Int} (h0:0≤i) (h1:i<(zs.length:Int)):SX.inB s i:=let⟨_,h⟩:=h;Row.inB h h0 (by rw[List.length_map];exact h1)
theorem Id4.at {W:PW} {s:Sl} {zs:List Int} (h:Id4 W s zs) {i:Nat} (hi:i<zs.length):Aa7 W s 1 i 0 [.int .i64 zs[i]]:=let⟨_,h⟩:=h;Row.elem h (x:=[.int .i64 zs[i]]) (by simp[hi]) fun j v hj=>by simpa using hj
theorem Id4.cut {W:PW} {s:Sl} {zs:List Int} (h:Id4 W s zs) {i:Nat} (hi:i≤zs.length):Id4 W (s.cut 1 0 i) (zs.take i):=by
 obtain⟨t,h⟩:=h
 have:=Row.cut h (lo:=0) (hi:=i) (Nat.zero_le _) (by rw[List.length_map];exact hi)
 unfold Id4
 rw[List.drop_zero,←List.map_take] at this
 exact⟨t,this⟩
theorem Id4.put {W W':PW} {s:Sl} {zs:List Int} {N:Nat→Prop} (h:Id4 W s zs) (hp:Put 42 N W W') (hN: ∀g,s.v.ownBlock=some g→¬N g):Id4 W' s zs:=by
 obtain⟨t,a1,a2,a3,a4,a5⟩:=h
 refine⟨t,a1,a2,a3,a4,?_⟩
 rcases a5 with e | ⟨b,o,cs,fz,hA,hS,hh,hc⟩
 ·exact .inl e
 ·obtain⟨g,h1,h2⟩:=hp
  have hk:=h2.Fi9.Ai1 b (Array.getElem?_eq_some_iff.1 hh).1 hS fun e=>by
   have e:b=g:=e
   subst e
   exact hN b (by rw[Sl.v,hA];rfl) h1
  exact .inr ⟨b,o,cs,fz,hA,hk.2,hk.1.trans hh,hc⟩
theorem Id4.pub {W:PW} {s:Sl} {zs:List Int} (h:Id4 W s zs) (hn:0<zs.length) {g:Nat} (hg:s.v.ownBlock=some g):g<W.w.heap.size∧¬W.S g:=by
 obtain⟨t,a1,a2,a3,a4,a5⟩:=h
 rcases a5 with e | ⟨b,o,cs,fz,hA,hS,hh,hc⟩
 ·have:=congrArg List.length e
  rw[List.length_map,List.length_nil] at this
  omega
 ·rw[Sl.v,hA] at hg
  obtain rfl:b=g:=by simpa[Value.ownBlock] using hg
  exact⟨(Array.getElem?_eq_some_iff.1 hh).1,hS⟩
def Ie1 (zs:List Int):Prop:=(∀z∈zs,0≤z∧z≤16)∧1≤zs.length∧zs.length≤3
instance (zs:List Int):Decidable (Ie1 zs):=by unfold Ie1;infer_instance
def tpN (zs:List Int) (i:Nat):Nat:=(zs.getD i 0).toNat+1
def stN (zs:List Int):Nat→Nat
 | 0=>1
 | k+1=>stN zs k*tpN zs k
theorem Ih5 {zs:List Int} {i:Nat} (hi:i<zs.length) (h:0≤zs[i]):(tpN zs i:Int)=zs[i]+1:=by
 unfold tpN
 rw[List.getD_eq_getElem?_getD,List.getElem?_eq_getElem hi]
 show((zs[i].toNat+1:Nat):Int)=_
 omega
theorem If0 {zs:List Int} (h: ∀z∈zs,0≤z∧z≤16) (i:Nat):tpN zs i≤17:=by
 unfold tpN
 rw[List.getD_eq_getElem?_getD]
 by_cases hi:i<zs.length
 ·rw[List.getElem?_eq_getElem hi]
  have:=h _ (List.getElem_mem hi)
  show zs[i].toNat+1≤17
  omega
 ·rw[List.getElem?_eq_none (by omega)]
  show(0:Int).toNat+1≤17
  decide
theorem Ie4 (zs:List Int) (i:Nat):0<tpN zs i:=Nat.succ_pos _
theorem Ie2 (zs:List Int): ∀k,0<stN zs k
 | 0=>Nat.one_pos
 | k+1=>Nat.mul_pos (Ie2 zs k) (Ie4 zs k)
theorem Ja0 {zs:List Int} (h: ∀z∈zs,0≤z∧z≤16): ∀k,stN zs k≤17^k
 | 0=>Nat.le_refl _
 | k+1=>by rw[stN,Nat.pow_succ];exact Nat.mul_le_mul (Ja0 h k) (If0 h k)
theorem Ig5 (zs:List Int) (i:Nat): ∀k,∃R,stN zs (i+1+k)=stN zs i*tpN zs i*R
 | 0=>⟨1,by rw[Nat.mul_one];rfl⟩
 | k+1=>by
  obtain⟨R,h⟩:=Ig5 zs i k
  exact⟨R*tpN zs (i+1+k),by rw[←Nat.mul_assoc,←h];rfl⟩
theorem Im9 {zs:List Int} (h: ∀z∈zs,0≤z∧z≤16) {k:Nat} (hk:k≤5):stN zs k≤1419857:=Nat.le_trans (Ja0 h k) (Nat.le_trans (Nat.pow_le_pow_right (by decide) hk) (by decide))
theorem Im3 {zs:List Int} {m:Nat} : ∀k,k≤m→stN (zs.take m) k=stN zs k
 | 0,_=>rfl
 | k+1,h=>by
  rw[stN,stN,Im3 k (by omega)]
  unfold tpN
  rw[List.getD_eq_getElem?_getD,List.getD_eq_getElem?_getD,List.getElem?_take,if_pos (by omega)]
def bcI (W0:PW) (zs:List Int) (L:List PL) (W:PW):Prop:=match L with
 | [.val (.int .i64 y),.val (.int .i64 z)]=>∃k:Nat,z=(k:Int)∧k≤zs.length∧Ext W0 W∧(∀x∈zs.take k,0≤x∧x≤16)∧y=(stN zs k:Int)
 | _=>False
def Jd7 (n:Nat) (L:List PL) (_:PW):Nat:=match L with
 | [_,.val (.int .i64 z)]=>n-z.toNat
 | _=>0
theorem Io7 {W0:PW} {M:Nat→Prop} {s:Sl} {zs:List Int} (h:Id4 W0 s zs) (hl:zs.length≤5):
  Aa0 Tryz.prog 65 [s.v] W0 M fun v W'=>∃(z:Int),v = .tuple ⟨[.int .i64 z,.bool (decide (Ie1 zs))]⟩∧(Ie1 zs→z=(stN zs zs.length:Int)):=by
 apply Ik8
 have hn:=h.n
 refine⟨bcI W0 zs,Jd7 zs.length,⟨0,rfl,Nat.zero_le _,Ext.refl _,by simp,rfl⟩,?_⟩
 rintro i3 i4 W5 ⟨k,rfl,hk,hE5,hall,rfl⟩
 have h5:=h.ext hE5
 refine⟨fun hlt=>?_,fun hge=>?_⟩
 ·have hkl:k<zs.length:=by omega
  have bad:¬(0≤zs[k]∧zs[k]≤16)→¬Ie1 zs:=fun e ok=>e (ok.1 _ (List.getElem_mem hkl))
  refine⟨h5.inB (by omega) (by omega),zs[k],h5.at hkl,fun hneg W7 hE7=>⟨0,by rw[decide_eq_false (bad (by omega))],fun ok=>absurd ok (bad (by omega))⟩,fun hnn=>⟨fun hbig W8 hE8=>⟨0,by rw[decide_eq_false (bad (by omega))],fun ok=>absurd ok (bad (by omega))⟩,fun hsm=>?_⟩⟩
  have hall': ∀x∈zs.take (k+1),0≤x∧x≤16:=fun x hx=>by
   rw[List.take_succ_eq_append_getElem hkl] at hx
   rcases List.mem_append.1 hx with hx | hx
   ·exact hall x hx
   ·rw[List.mem_singleton.1 hx];omega
  have e:(stN zs k:Int)*(zs[k]+1)=(stN zs (k+1):Int):=by rw[←Ih5 hkl (by omega),stN];push_cast;rfl
  have b1:stN zs (k+1)≤1419857:=by rw[←Im3 (m:=k+1) (k+1) (Nat.le_refl _)];exact Im9 hall' (by omega)
  rw[e]
  exact⟨by unfold I64;omega,by unfold I64;omega,by unfold I64;omega,⟨k+1,by push_cast;rfl,by omega,hE5,hall',rfl⟩,by show zs.length-Int.toNat ((k:Int)+1)<zs.length-Int.toNat (k:Int);omega⟩
 ·have:k=zs.length:=by omega
  subst this
  rw[List.take_length] at hall
  refine⟨fun h1 W9 hE9=>⟨_,?_,fun _=>rfl⟩,fun h1 W10 hE10=>⟨_,by rw[decide_eq_false (fun ok=>h1 (by have:=ok.2.1;omega))],fun _=>rfl⟩⟩
  congr 5
  rw[decide_eq_decide]
  exact⟨fun h3=>⟨hall,by omega,by omega⟩,fun ok=>by have:=ok.2.2;omega⟩
theorem Ie5 {W0 W:PW} {M:Nat→Prop} {s:Sl} {zs:List Int} {K:Value→PW→Prop} (h:Id4 W s zs) (hl:zs.length≤5) (kont: ∀(z:Int) (W':PW),Ext W W'→((Ie1 zs→z=(stN zs zs.length:Int)))→K (.tuple ⟨[.int .i64 z,.bool (decide (Ie1 zs))]⟩) W'):
  Aa1 Tryz.prog W0 M 65 [s.v] W K:=
 Aa2 (fun W' hE=>Io7 (M:=fun _=>False) (h.ext hE) hl) (fun W' v W'' hE hE' hP=>by
  obtain⟨z,rfl,h⟩:=hP
  exact kont z W'' (hE.trans hE') h)
def Je4 (g:FuncId) (r:Option Addr) (n m:Nat) (q:Nat→Rat) (D N:Nat) (T:(Nat→Rat)→Nat→Rat):Prop:=
 ∀(W:PW) (s:Sl) (f:Nat→Rat),VQ W s n f→XQ W r m q→Iz4 r s→Id9 n D N f→Aa0 Tryz.prog g [s.v,.pointer r] W (fun b=>s.v.ownBlock=some b) fun v W'=>v = .tuple ⟨[]⟩∧VQ W' s n (T f)
theorem XQ.pub {W:PW} {r:Option Addr} {m:Nat} {q:Nat→Rat} (h:XQ W r m q) {g:Nat} (hg:(⟨r,1,1⟩:Sl).v.ownBlock=some g):g<W.w.heap.size∧¬W.S g:=by
 obtain⟨xs,⟨b,o,cs,t,fz,hA,hS,hh,_⟩,_⟩:=h
 have hA:r=some ⟨b,o,none⟩:=hA
 subst hA
 obtain rfl:b=g:=by simpa[Value.ownBlock] using hg
 exact⟨(Array.getElem?_eq_some_iff.1 hh).1,hS⟩
theorem VQ.pub {W:PW} {s:Sl} {n:Nat} {f:Nat→Rat} (h:VQ W s n f) (hn:0<n) {g:Nat} (hg:s.v.ownBlock=some g):g<W.w.heap.size∧¬W.S g:=by
 obtain⟨xs,k1,k2⟩:=h
 obtain⟨b,cs,_,hb,hS,hh,_⟩:=k1.at fun e=>by have:=k2.1;rw[e] at this;simp at this;omega
 rw[hg] at hb
 cases hb
 exact⟨(Array.getElem?_eq_some_iff.1 hh).1,hS⟩
theorem zeroV {W:PW} {s:Sl} {n:Nat} (h:Go.SX.Own W 42 3 s (List.replicate n [.slice none 0 0,.bool false,.slice none 0 0])):VQ W s n fun _=>0:=
 ⟨_,h,by simp,fun j hj=>⟨⟨none,0,0⟩,false,⟨none,0,0⟩,by simp[List.getElem?_replicate,hj],Ar9 W⟩⟩
theorem Ih2 {t st n:Nat} (ht:t≤1419857):Int.tmod (IntKind.wrap .i64 (Int.tdiv (t:Int) (st:Int))) (n:Int)=((t/st%n:Nat):Int):=by
 have hdl:t/st≤t:=Nat.div_le_self _ _
 have e1:Int.tdiv (t:Int) (st:Int)=((t/st:Nat):Int):=(Int.ofNat_tdiv t st).symm
 rw[e1]
 generalize t/st=d at *
 rw[wrap_i64 (by unfold I64;omega)]
 exact(Int.ofNat_tmod d n).symm
def lnI (W0:PW) (zs:List Int) (i:Nat) (L:List PL) (W:PW):Prop:=match L with
 | [.val (.int .i64 y),.val (.int .i64 z)]=>∃k:Nat,z=(k:Int)∧k≤i∧Ext W0 W∧y=(stN zs k:Int)
 | _=>False
def lnO (s u:Sl) (r:Option Addr) (NN st n m:Nat) (q F:Nat→Rat) (T:(Nat→Rat)→Nat→Rat) (L:List PL) (W:PW):Prop:=match L with
 | [.val (.int .i64 z)]=>∃(t:Nat) (f:Nat→Rat),z=(t:Int)∧t≤NN∧VQ W s NN (Id7 st n T F t)∧VQ W u n f∧XQ W r m q
 | _=>False
def lnC (s u:Sl) (r:Option Addr) (NN st n m t:Nat) (q F:Nat→Rat) (T:(Nat→Rat)→Nat→Rat) (L:List PL) (W:PW):Prop:=match L with
 | [.val (.int .i64 z)]=>∃(j:Nat) (f:Nat→Rat),z=(j:Int)∧j≤n∧VQ W s NN (Id7 st n T F t)∧VQ W u n f∧(∀a,a<j→f a=F (t+a*st))∧XQ W r m q
 | _=>False
def lnW (s u:Sl) (r:Option Addr) (NN st n m t:Nat) (q F f:Nat→Rat) (T:(Nat→Rat)→Nat→Rat) (L:List PL) (W:PW):Prop:=match L with
 | [.val (.int .i64 z)]=>∃j:Nat,z=(j:Int)∧j≤n∧VQ W s NN (If8 st n T F t j)∧VQ W u n f∧XQ W r m q
 | _=>False
theorem If3 {W0:PW} {s a:Sl} {zs:List Int} {i:Nat} {g:FuncId} {r:Option Addr} {m D N:Nat} {q F:Nat→Rat} {T:(Nat→Rat)→Nat→Rat} (h:VQ W0 s (stN zs zs.length) F) (hz:Id4 W0 a zs) (hk:Ie1 zs) (hi:i<zs.length) (hb:XQ W0 r m q) (ha:Iz4 r s)
  (hf:Id9 (stN zs zs.length) D N F) (hT: ∀f g:Nat→Rat,(∀j,j<tpN zs i→f j=g j)→∀j,j<tpN zs i→T f j=T g j) (hdo:Je4 g r (tpN zs i) m q D N T):
  Aa0 Tryz.prog 67 [s.v,a.v,.int .i64 (i:Int),.func (.func g) #[] #[.pointer r]] W0 (fun b=>s.v.ownBlock=some b) fun v W'=>v = .tuple ⟨[]⟩∧VQ W' s (stN zs zs.length) (Id6 (stN zs i) (tpN zs i) T F):=by
 apply Ij7
 have hsn:=h.n
 have han:=hz.n
 have hcap:a.n≤a.c:=by obtain⟨_,h9⟩:=hz;exact h9.2.1
 obtain⟨h16,hl1,hl3⟩:=hk
 have hst:=Ie2 zs i
 have htp:=Ie4 zs i
 have htl:=If0 h16 i
 have hN:=Im9 h16 (k:=zs.length) (by omega)
 have hNp:=Ie2 zs zs.length
 have hst5:=Im9 h16 (k:=i) (by omega)
 obtain⟨R,hR⟩:=Ig5 zs i (zs.length-(i+1))
 rw[show i+1+(zs.length-(i+1))=zs.length by omega] at hR
 have htop:=Ih5 hi (h16 _ (List.getElem_mem hi)).1
 generalize hNN:stN zs zs.length=NN at *
 refine⟨⟨by decide,by omega,by omega⟩,lnI W0 zs i,Jd7 i,⟨0,rfl,Nat.zero_le _,Ext.refl _,rfl⟩,?_⟩
 rintro i3 i4 W5 ⟨k,rfl,hki,hE5,rfl⟩
 refine⟨fun hlt=>?_,fun hge=>?_⟩
 ·have hlt:k<i:=by
   have:(k:Int)<((Int.toNat (i:Int)-0:Nat):Int):=hlt
   omega
  have hc:=(hz.ext hE5).cut (i:=i) (by omega)
  have hkt:k<(zs.take i).length:=by rw[List.length_take];omega
  have hel:=hc.at hkt
  rw[List.getElem_take] at hel
  have hkl:k<zs.length:=by omega
  have b0:=h16 _ (List.getElem_mem hkl)
  have e:(stN zs k:Int)*(zs[k]+1)=(stN zs (k+1):Int):=by rw[←Ih5 hkl b0.1,stN];push_cast;rfl
  have b1:=Im9 h16 (k:=k+1) (by omega)
  refine⟨hc.inB (by omega) (by omega),zs[k],hel,?_⟩
  rw[e]
  exact⟨by unfold I64;omega,by unfold I64;omega,by unfold I64;omega,⟨k+1,by push_cast;rfl,by omega,hE5,rfl⟩,by show i-Int.toNat ((k:Int)+1)<i-Int.toNat (k:Int);omega⟩
 have:k=i:=by
  have:¬(k:Int)<((Int.toNat (i:Int)-0:Nat):Int):=hge
  omega
 subst this
 have b0:=h16 _ (List.getElem_mem hi)
 refine⟨(hz.ext hE5).inB (by omega) (by omega),zs[k],(hz.ext hE5).at hi,by unfold I64;omega,⟨rfl,by omega,by omega⟩,fun u W9 hE9 hO9 hF9=>?_⟩
 rw[show Int.toNat (zs[k]+1)=tpN zs k by omega] at hO9
 have E9:=hE5.trans hE9
 have hu:=zeroV hO9
 have un:=hu.n
 have hawu:Iz4 r u:=fun g1 h1 h2=>by
  obtain⟨k1,k2⟩:=XQ.pub (hb.ext hE5) h1
  exact k2 ((hF9 g1 h2).2 k1)
 have hsu: ∀g1,s.v.ownBlock=some g1→¬u.v.ownBlock=some g1:=fun g1 h1 h2=>by
  obtain⟨k1,k2⟩:=VQ.pub (h.ext hE5) hNp h1
  exact k2 ((hF9 g1 h2).2 k1)
 have hus: ∀g1,u.v.ownBlock=some g1→¬s.v.ownBlock=some g1:=fun g1 h1 h2=>hsu g1 h2 h1
 have hum: ∀g1,u.v.ownBlock=some g1→may W0 (fun b=>s.v.ownBlock=some b) g1:=fun g1 h1=>.inr (hF9 g1 h1).1
 generalize hnn:tpN zs k=n at *
 generalize hss:stN zs k=st at *
 refine⟨lnO s u r NN st n m q F T,Iv2 NN,⟨0,_,rfl,Nat.zero_le _,by rw[Ig0];exact h.ext E9,hu,hb.ext E9⟩,?_⟩
 rintro i12 W13 ⟨t,f0,rfl,ht,hS,hL,hB⟩
 refine⟨fun hlt=>?_,fun hge W32 hE32=>⟨rfl,(hS.ext hE32).congr fun j hj=>?_⟩⟩
 ·have htN:t<NN:=by omega
  have e3:Int.tmod (IntKind.wrap .i64 (Int.tdiv (t:Int) (st:Int))) (u.2:Int)=((t/st%n:Nat):Int):=by rw[show u.2=n from un];exact Ih2 (by omega)
  rw[e3]
  refine⟨by omega,by omega,fun hne=>⟨by unfold I64;omega,⟨t+1,f0,by push_cast;rfl,by omega,by rw[Ig1 hst htp (by omega)];exact hS,hL,hB⟩,by show NN-Int.toNat ((t:Int)+1)<NN-Int.toNat (t:Int);omega⟩,fun heq=>?_⟩
  have h0:t/st%n=0:=by omega
  have hlin: ∀{j:Nat},j<n→t+j*st<NN:=fun {j} hj=>by
   have:=(Ig2 (R:=R) hst htp (by rw[←hR];exact htN) h0 hj).1
   rw[←hR] at this
   exact this
  have cast: ∀j:Nat,(t:Int)+(j:Int)*(st:Int)=((t+j*st:Nat):Int):=fun j=>by push_cast;rfl
  have cast2: ∀j:Nat,(j:Int)*(st:Int)=((j*st:Nat):Int):=fun j=>by push_cast;rfl
  refine⟨lnC s u r NN st n m t q F T,Iv2 n,⟨0,f0,rfl,Nat.zero_le _,hS,hL,fun a h=>absurd h (Nat.not_lt_zero _),hB⟩,?_⟩
  rintro i16 W17 ⟨j,f,rfl,hj,hS7,hL7,hfa,hB7⟩
  refine⟨fun hlt2=>?_,fun hge2=>?_⟩
  ·have hjn:j<n:=by omega
   have hin:=hlin hjn
   obtain⟨s18,b19,s20,e18,g18⟩:=hS7.at hin
   rw[Iu6 (R:=R) hst htp (by rw[←hR];exact htN) h0 hjn] at g18
   rw[cast,cast2]
   refine⟨by unfold I64;omega,by unfold I64;omega,hS7.inB (by omega) (by omega),s18,b19,s20,e18,hL7.inB (by omega) (by omega),?_⟩
   refine hL7.store (j:=j) hjn g18 (by decide) hum fun W21 hp hL21=>⟨by unfold I64;omega,⟨j+1,_,by push_cast;rfl,by omega,hS7.put hp hsu (by decide),hL21,fun a ha'=>?_,hB7.put hp hawu (by decide)⟩,by show n-Int.toNat ((j:Int)+1)<n-Int.toNat (j:Int);omega⟩
   unfold Ij6
   by_cases e:a=j
   ·rw[if_pos e,e]
   ·rw[if_neg e];exact hfa a (by omega)
  have:j=n:=by omega
  subst this
  intro W' hE'
  have hFit:Id9 j D N f:=fun a ha'=>by rw[hfa a ha'];exact hf _ (hlin ha')
  refine⟨_,_,hdo W' u f (hL7.ext hE') (hB7.ext hE') hawu hFit,fun b hb'=>⟨(VQ.pub (hL7.ext hE') htp hb').2,hum b hb'⟩,fun v W23 hX hP=>⟨hP.1,?_⟩⟩
  have hL3:=hP.2
  have hput:=OwV.did hL7 htp hE' hX
  refine⟨lnW s u r NN st j m t q F (T f) T,Iv2 j,⟨0,rfl,Nat.zero_le _,by rw[Ij2];exact hS7.put hput hsu (by decide),hL3,hB7.put hput hawu (by decide)⟩,?_⟩
  rintro i26 W27 ⟨p,rfl,hp,hS8,hL8,hB8⟩
  refine⟨fun hlt3=>?_,fun hge3=>?_⟩
  ·have hpn:p<j:=by omega
   have hin:=hlin hpn
   obtain⟨s28,b29,s30,e28,g28⟩:=hL8.at hpn
   rw[cast,cast2]
   refine⟨by unfold I64;omega,by unfold I64;omega,hL8.inB (by omega) (by omega),s28,b29,s30,e28,hS8.inB (by omega) (by omega),?_⟩
   refine hS8.store (j:=t+p*st) hin g28 (by decide) (fun b hb'=>.inl hb') fun W31 hpu hS31=>⟨by unfold I64;omega,⟨p+1,by push_cast;rfl,by omega,hS31.congr fun x hx=>?_,hL8.put hpu hus (by decide),hB8.put hpu ha (by decide)⟩,by show j-Int.toNat ((p:Int)+1)<j-Int.toNat (p:Int);omega⟩
   rw[Ij0 (R:=R) hst htp (by rw[←hR];exact htN) h0 hpn]
   unfold Ij6
   dsimp only
   by_cases e:x=t+p*st
   ·rw[if_pos e,if_pos e];exact hT _ _ (fun a ha'=>hfa a ha') p hpn
   ·rw[if_neg e,if_neg e]
  ·have:p=j:=by omega
   subst this
   rw[Il6 hst htp] at hS8
   exact⟨by unfold I64;omega,⟨t+1,_,by push_cast;rfl,by omega,hS8,hL8,hB8⟩,by show NN-Int.toNat ((t:Int)+1)<NN-Int.toNat (t:Int);omega⟩
 ·have:t=NN:=by omega
  subst this
  exact Ig8 hst htp hj
end Go.Proofs.YtokefihiadbkbaaGreatDoor
/- The program's intervals. -/
namespace Go.Proofs.YtokefihiadbkbaaGreatDoor
open Go Go.SX
theorem De5 {W0:PW} {M:Nat→Prop} {s t s' t':Sl} {b b':Bool} {p q:Rat} {k:Nat} (h1:Ab3 231 W0 s b t p) (h2:Ab3 231 W0 s' b' t' q) (hp:Sz k p) (hq:Sz k q) (hk:k≤34359738368):
  Aa0 Tryz.prog 159 [.agg ⟨[s.v,.bool b,t.v]⟩,.agg ⟨[s'.v,.bool b',t'.v]⟩] W0 M fun v W'=>∃(r:Sl),∃(c:Bool),∃(u:Sl),v = .agg ⟨[Sl.v r,.bool c,Sl.v u]⟩∧Ab3 231 W' r c u (Az9 p q):=by
 apply Cg1
 refine Aj2 h2 h1 hq hp hk hk fun W2 hE2 _=>⟨_,rfl,fun h W4 hE4=>⟨s',b',t',rfl,?_⟩,fun h W5 hE5=>⟨s,b,t,rfl,?_⟩⟩
 ·rw[Az9,if_pos (At6.1 h)];exact h2.ext (hE2.trans hE4)
 ·rw[Az9,if_neg (fun e=>h (At6.2 e))];exact h1.ext (hE2.trans hE5)
theorem Be3 {W0 W:PW} {M:Nat→Prop} {s t s' t':Sl} {b b':Bool} {p q:Rat} {k:Nat} {K:Value→PW→Prop} (h1:Ab3 231 W s b t p) (h2:Ab3 231 W s' b' t' q) (hp:Sz k p) (hq:Sz k q) (hk:k≤34359738368) (kont: ∀(r:Sl) (c:Bool) (u:Sl) (W':PW),Ext W W'→(Ab3 231 W' r c u (Az9 p q))→K (.agg ⟨[Sl.v r,.bool c,Sl.v u]⟩) W'):
  Aa1 Tryz.prog W0 M 159 [.agg ⟨[s.v,.bool b,t.v]⟩,.agg ⟨[s'.v,.bool b',t'.v]⟩] W K:=
 Aa2 (fun W' hE=>De5 (M:=fun _=>False) (h1.ext hE) (h2.ext hE) hp hq hk) (fun W' v W'' hE hE' hP=>by
  obtain⟨r,c,u,rfl,h⟩:=hP
  exact kont r c u W'' (hE.trans hE') h)
theorem Dl7 {W0:PW} {M:Nat→Prop} {s t s' t':Sl} {b b':Bool} {p q:Rat} {k:Nat} (h1:Ab3 231 W0 s b t p) (h2:Ab3 231 W0 s' b' t' q) (hp:Sz k p) (hq:Sz k q) (hk:k≤34359738368):
  Aa0 Tryz.prog 160 [.agg ⟨[s.v,.bool b,t.v]⟩,.agg ⟨[s'.v,.bool b',t'.v]⟩] W0 M fun v W'=>∃(r:Sl),∃(c:Bool),∃(u:Sl),v = .agg ⟨[Sl.v r,.bool c,Sl.v u]⟩∧Ab3 231 W' r c u (Au7 p q):=by
 apply Ck9
 refine Aj2 h2 h1 hq hp hk hk fun W2 hE2 _=>⟨_,rfl,fun h W4 hE4=>⟨s',b',t',rfl,?_⟩,fun h W5 hE5=>⟨s,b,t,rfl,?_⟩⟩
 ·rw[Au7,if_pos (Al3.1 h)];exact h2.ext (hE2.trans hE4)
 ·rw[Au7,if_neg (fun e=>h (Al3.2 e))];exact h1.ext (hE2.trans hE5)
theorem Bd3 {W0 W:PW} {M:Nat→Prop} {s t s' t':Sl} {b b':Bool} {p q:Rat} {k:Nat} {K:Value→PW→Prop} (h1:Ab3 231 W s b t p) (h2:Ab3 231 W s' b' t' q) (hp:Sz k p) (hq:Sz k q) (hk:k≤34359738368) (kont: ∀(r:Sl) (c:Bool) (u:Sl) (W':PW),Ext W W'→(Ab3 231 W' r c u (Au7 p q))→K (.agg ⟨[Sl.v r,.bool c,Sl.v u]⟩) W'):
  Aa1 Tryz.prog W0 M 160 [.agg ⟨[s.v,.bool b,t.v]⟩,.agg ⟨[s'.v,.bool b',t'.v]⟩] W K:=
 Aa2 (fun W' hE=>Dl7 (M:=fun _=>False) (h1.ext hE) (h2.ext hE) hp hq hk) (fun W' v W'' hE hE' hP=>by
  obtain⟨r,c,u,rfl,h⟩:=hP
  exact kont r c u W'' (hE.trans hE') h)
theorem Dh8 {W0:PW} {M:Nat→Prop} {l1 l2:List Value} {x y:Iv} {k:Nat} (h1:SpV 231 W0 l1 x) (h2:SpV 231 W0 l2 y) (hx:IvS k x) (hy:IvS k y) (hk:k≤34359738368):
  Aa0 Tryz.prog 93 [.agg ⟨l1⟩,.agg ⟨l2⟩] W0 M fun v W'=>∃(l:List Value),v = .agg ⟨l⟩∧SpV 231 W' l (Bu9 x y):=by
 obtain⟨s0,b0,t0,s1,b1,t1,rfl,h1,h1'⟩:=h1
 obtain⟨s2,b2,t2,s3,b3,t3,rfl,h2,h2'⟩:=h2
 apply Ck6
 exact Be3 h1 h2 hx.1 hy.1 hk fun s3 b4 s5 W2 hE2 g1=>⟨s3,b4,s5,rfl,Bd3 (h1'.ext hE2) (h2'.ext hE2) hx.2 hy.2 hk fun s8 b9 s10 W7 hE7 g2=>⟨s8,b9,s10,rfl,fun W11 hE11=>⟨_,rfl,SpV.mk (x:=Bu9 x y) (g1.ext (hE7.trans hE11)) (g2.ext hE11)⟩⟩⟩
theorem Cn9 {W0 W:PW} {M:Nat→Prop} {l1 l2:List Value} {x y:Iv} {k:Nat} {K:Value→PW→Prop} (h1:SpV 231 W l1 x) (h2:SpV 231 W l2 y) (hx:IvS k x) (hy:IvS k y) (hk:k≤34359738368) (kont: ∀(l:List Value) (W':PW),Ext W W'→(SpV 231 W' l (Bu9 x y))→K (.agg ⟨l⟩) W'):
  Aa1 Tryz.prog W0 M 93 [.agg ⟨l1⟩,.agg ⟨l2⟩] W K:=
 Aa2 (fun W' hE=>Dh8 (M:=fun _=>False) (h1.ext hE) (h2.ext hE) hx hy hk) (fun W' v W'' hE hE' hP=>by
  obtain⟨l,rfl,h⟩:=hP
  exact kont l W'' (hE.trans hE') h)
theorem Ep4 {W0:PW} {M:Nat→Prop} {s t:Sl} {b:Bool} {r:Rat} (h:Ab3 231 W0 s b t r):
  Aa0 Tryz.prog 92 [.agg ⟨[s.v,.bool b,t.v]⟩] W0 M fun v W'=>∃(l:List Value),v = .agg ⟨l⟩∧SpV 231 W' l (Eb6 r):=by
 apply Dk8
 exact fun W1 hE=>⟨_,rfl,SpV.mk (x:=Eb6 r) (h.ext hE) (h.ext hE)⟩
theorem De4 {W0 W:PW} {M:Nat→Prop} {s t:Sl} {b:Bool} {r:Rat} {K:Value→PW→Prop} (h:Ab3 231 W s b t r) (kont: ∀(l:List Value) (W':PW),Ext W W'→(SpV 231 W' l (Eb6 r))→K (.agg ⟨l⟩) W'):
  Aa1 Tryz.prog W0 M 92 [.agg ⟨[s.v,.bool b,t.v]⟩] W K:=
 Aa2 (fun W' hE=>Ep4 (M:=fun _=>False) (h.ext hE)) (fun W' v W'' hE hE' hP=>by
  obtain⟨l,rfl,h⟩:=hP
  exact kont l W'' (hE.trans hE') h)
theorem Go7 {W0:PW} {M:Nat→Prop} {l1:List Value} {x:Iv} {k:Nat} (h1:SpV 231 W0 l1 x) (hx:IvS k x) (hk:k≤8589934592):
  Aa0 Tryz.prog 113 [.agg ⟨l1⟩] W0 M fun v W'=>∃(r:Sl),∃(c:Bool),∃(u:Sl),v = .agg ⟨[Sl.v r,.bool c,Sl.v u]⟩∧Ab3 231 W' r c u (x.2-x.1):=by
 obtain⟨s0,b0,t0,s1,b1,t1,rfl,h1,h1'⟩:=h1
 apply Gk0
 exact Gr0 h1' h1 hx.2 hx.1 hk hk fun s3 b4 s5 W2 hE2 g=>⟨s3,b4,s5,rfl,fun W6 hE6=>⟨_,_,_,rfl,g.ext hE6⟩⟩
theorem Gj9 {W0 W:PW} {M:Nat→Prop} {l1:List Value} {x:Iv} {k:Nat} {K:Value→PW→Prop} (h1:SpV 231 W l1 x) (hx:IvS k x) (hk:k≤8589934592) (kont: ∀(r:Sl) (c:Bool) (u:Sl) (W':PW),Ext W W'→(Ab3 231 W' r c u (x.2-x.1))→K (.agg ⟨[Sl.v r,.bool c,Sl.v u]⟩) W'):
  Aa1 Tryz.prog W0 M 113 [.agg ⟨l1⟩] W K:=
 Aa2 (fun W' hE=>Go7 (M:=fun _=>False) (h1.ext hE) hx hk) (fun W' v W'' hE hE' hP=>by
  obtain⟨r,c,u,rfl,h⟩:=hP
  exact kont r c u W'' (hE.trans hE') h)
theorem Dt4 {W0:PW} {M:Nat→Prop} {s t s' t':Sl} {b b':Bool} {p q:Rat} {k:Nat} (h1:Ab3 231 W0 s b t p) (h2:Ab3 231 W0 s' b' t' q) (hp:Sz k p) (hq:Sz k q) (hk:k≤34359738368):
  Aa0 Tryz.prog 196 [.agg ⟨[s.v,.bool b,t.v]⟩,.agg ⟨[s'.v,.bool b',t'.v]⟩] W0 M fun v W'=>∃(l:List Value),v = .tuple ⟨[.agg ⟨l⟩,.bool (decide (p≤q))]⟩∧SpV 231 W' l (if p≤q then(p,q) else(0,0)):=by
 apply Ct1
 refine Aj2 h1 h2 hp hq hk hk fun W2 hE2 _=>⟨_,rfl,fun h W4 hE4=>?_,fun h W5 hE5=>?_⟩
 ·have h:=Al3.1 h
  have h':¬p≤q:=Rat.not_le.2 h
  rw[if_neg h',decide_eq_false h']
  exact⟨_,rfl,SpV.zero W4⟩
 ·have h':p≤q:=Rat.not_lt.1 fun e=>h (Al3.2 e)
  rw[if_pos h',decide_eq_true h']
  exact⟨_,rfl,SpV.mk (x:=(p,q)) (h1.ext (hE2.trans hE5)) (h2.ext (hE2.trans hE5))⟩
theorem Cq7 {W0 W:PW} {M:Nat→Prop} {s t s' t':Sl} {b b':Bool} {p q:Rat} {k:Nat} {K:Value→PW→Prop} (h1:Ab3 231 W s b t p) (h2:Ab3 231 W s' b' t' q) (hp:Sz k p) (hq:Sz k q) (hk:k≤34359738368) (kont: ∀(l:List Value) (W':PW),Ext W W'→(SpV 231 W' l (if p≤q then(p,q) else(0,0)))→K (.tuple ⟨[.agg ⟨l⟩,.bool (decide (p≤q))]⟩) W'):
  Aa1 Tryz.prog W0 M 196 [.agg ⟨[s.v,.bool b,t.v]⟩,.agg ⟨[s'.v,.bool b',t'.v]⟩] W K:=
 Aa2 (fun W' hE=>Dt4 (M:=fun _=>False) (h1.ext hE) (h2.ext hE) hp hq hk) (fun W' v W'' hE hE' hP=>by
  obtain⟨l,rfl,h⟩:=hP
  exact kont l W'' (hE.trans hE') h)
end Go.Proofs.YtokefihiadbkbaaGreatDoor
/- The reference's intervals; cincturelaw5.Is, Of; span.Parse. -/
namespace Go.Proofs.YtokefihiadbkbaaGreatDoor
open Go Go.SX
def Cc4 (q:List Rat) (i:Nat):Rat:=q.getD i 0
def lsI (W0:PW) (q:List Rat) (L:List PL) (W:PW):Prop:=match L with
 | [.val (.int .i64 i),.cells l]=>∃j:Nat,i=(j:Int)∧1≤j∧j≤q.length∧Ext W0 W∧Ah6 231 W l (Af9 (q.take j))
 | _=>False
theorem Ci1 {f:Rat→Rat→Rat} (hf: ∀a b,f a b=a∨f a b=b): ∀(r:List Rat) (a:Rat),r.foldl f a=a∨r.foldl f a∈r
 | [],a=>.inl rfl
 | x :: r,a=>by
  rw[List.foldl_cons]
  rcases Ci1 hf r (f a x) with h | h
  ·rw[h]
   rcases hf a x with e | e
   ·exact .inl e
   ·exact .inr (by rw[e];simp)
  ·exact .inr (List.mem_cons_of_mem _ h)
theorem Ed9 {q:List Rat} (h:q≠[]):(Af9 q).1∈q∧(Af9 q).2∈q:=by
 cases q with
 | nil=>exact absurd rfl h
 | cons a r=>
  constructor
  ·rcases Ci1 Dj0 r a with e | e
   ·show r.foldl Az9 a∈_;rw[e];simp
   ·exact List.mem_cons_of_mem _ e
  ·rcases Ci1 Dj7 r a with e | e
   ·show r.foldl Au7 a∈_;rw[e];simp
   ·exact List.mem_cons_of_mem _ e
theorem Du9 {q:List Rat} {x:Rat} (h:q≠[]):Af9 (q ++ [x])=(Az9 (Af9 q).1 x,Au7 (Af9 q).2 x):=by
 cases q with
 | nil=>exact absurd rfl h
 | cons a r=>simp[Af9,List.foldl_append]
theorem Dc8 {W0:PW} {M:Nat→Prop} {s:Sl} {q:List Rat} {k:Nat} (h:Bf7 231 47 W0 s q.length (Cc4 q)) (hq: ∀x∈q,Sz k x) (h0:q≠[]) (hk:k≤500000000) (hl:q.length≤1048576):
  Aa0 Tryz.prog 28 [s.v] W0 M fun v W'=>∃(l:List Value),v = .agg ⟨l⟩∧Ah6 231 W' l (Af9 q):=by
 apply Cd4
 have hn:=h.n
 have hpos:0<q.length:=List.length_pos_iff.2 h0
 obtain⟨s1,b1,s2,e1,g1⟩:=h.at (i:=0) hpos
 refine⟨h.inB (by omega) (by omega),b1,s1,s2,e1,h.inB (by omega) (by omega),b1,s1,s2,e1,lsI W0 q,fun L _=>match L with | [.val (.int .i64 i),_]=>q.length-i.toNat | _=>0,⟨1,rfl,Nat.le_refl _,hpos,Ext.refl _,?_⟩,?_⟩
 ·have e:q.take 1 = [Cc4 q 0]:=by
   cases q with
   | nil=>exact absurd rfl h0
   | cons a r=>rfl
  rw[e]
  exact Ah6.mk (x:=(Cc4 q 0,Cc4 q 0)) g1 g1
 ·rintro b9 s10 s11 b12 s13 s14 i15 W16 ⟨j,rfl,hj1,hj,hE16,hS⟩
  obtain⟨_,_,_,_,_,_,e,k1,k2⟩:=hS
  simp only[List.cons.injEq,Value.bool.injEq,and_true] at e
  obtain⟨e1,e2,e3,e4,e5,e6⟩:=e
  have e2:=Sl.Ck0 e2
  have e3:=Sl.Ck0 e3
  have e5:=Sl.Ck0 e5
  have e6:=Sl.Ck0 e6
  subst e1 e2 e3 e4 e5 e6
  have hne:q.take j≠[]:=fun e=>by
   have:=congrArg List.length e
   rw[List.length_take,List.length_nil] at this
   omega
  have hm:=Ed9 hne
  have z1:=hq _ (List.mem_of_mem_take hm.1)
  have z2:=hq _ (List.mem_of_mem_take hm.2)
  refine⟨fun hlt=>?_,fun hge W44 hE44=>⟨_,rfl,?_⟩⟩
  ·have hjl:j<q.length:=by omega
   have hz:=hq _ (List.getElem_mem hjl)
   have hgq:Cc4 q j=q[j]:=by unfold Cc4;rw[List.getD_eq_getElem?_getD,List.getElem?_eq_getElem hjl];rfl
   have fin:Af9 (q.take (j+1))=(Az9 (Af9 (q.take j)).1 q[j],Au7 (Af9 (q.take j)).2 q[j]):=by rw[List.take_succ_eq_append_getElem hjl,Du9 hne]
   have at_: ∀{W},Ext W0 W→SX.inB s (j:Int)∧∃(b:Bool) (u v:Sl),Aa7 W s 3 j 0 [.bool b,u.v,v.v]∧Ab6 231 W b u v q[j]:=fun {W} hE=>by
    obtain⟨s1,b1,s2,e1,g1⟩:=(h.ext hE).at hjl
    exact⟨h.inB (by omega) (by omega),b1,s1,s2,e1,hgq ▸ g1⟩
   have hmu:q.length-Int.toNat ((j:Int)+1)<q.length-Int.toNat (j:Int):=by omega
   have stepOK: ∀{W} {b u v b' u' v'},Ext W0 W→Ab6 231 W b u v (Az9 (Af9 (q.take j)).1 q[j])→Ab6 231 W b' u' v' (Au7 (Af9 (q.take j)).2 q[j])→lsI W0 q [.val (.int .i64 ((j:Int)+1)),.cells [.bool b,Sl.v u,Sl.v v,.bool b',Sl.v u',Sl.v v']] W:=fun hE p1 p2=>⟨j+1,by push_cast;rfl,by omega,by omega,hE,by rw[fin];exact Ah6.mk p1 p2⟩
   obtain⟨i1,b17,s18,s19,a17,q17⟩:=at_ hE16
   refine⟨i1,b17,s18,s19,a17,Ar1 q17 k1 hz z1 hk hk fun W21 hE21 _=>⟨_,rfl,fun hlo=>?_,fun hlo=>?_⟩⟩
   ·have hlo:=At6.1 hlo
    have emin:Az9 (Af9 (q.take j)).1 q[j]=q[j]:=if_pos hlo
    obtain⟨_,b23,s24,s25,a23,q23⟩:=at_ (hE16.trans hE21)
    obtain⟨_,b26,s27,s28,a26,q26⟩:=at_ (hE16.trans hE21)
    refine⟨i1,b23,s24,s25,a23,i1,b26,s27,s28,a26,Ar1 q26 (k2.ext hE21) hz z2 hk hk fun W30 hE30 _=>⟨_,rfl,fun hhi=>?_,fun hhi=>⟨by unfold I64;omega,stepOK ((hE16.trans hE21).trans hE30) (emin.symm ▸ q23.ext hE30) ?_,hmu⟩⟩⟩
    ·have hhi:=Al3.1 hhi
     obtain⟨_,b32,s33,s34,a32,q32⟩:=at_ ((hE16.trans hE21).trans hE30)
     refine⟨i1,b32,s33,s34,a32,by unfold I64;omega,stepOK ((hE16.trans hE21).trans hE30) (emin.symm ▸ q23.ext hE30) ?_,hmu⟩
     rw[show Au7 (Af9 (q.take j)).2 q[j]=q[j] from if_pos hhi]
     exact q32
    ·rw[show Au7 (Af9 (q.take j)).2 q[j]=(Af9 (q.take j)).2 from if_neg fun e=>hhi (Al3.2 e)]
     exact k2.ext (hE21.trans hE30)
   ·have emin:Az9 (Af9 (q.take j)).1 q[j]=(Af9 (q.take j)).1:=if_neg fun e=>hlo (At6.2 e)
    obtain⟨_,b35,s36,s37,a35,q35⟩:=at_ (hE16.trans hE21)
    refine⟨i1,b35,s36,s37,a35,Ar1 q35 (k2.ext hE21) hz z2 hk hk fun W39 hE39 _=>⟨_,rfl,fun hhi=>?_,fun hhi=>⟨by unfold I64;omega,stepOK ((hE16.trans hE21).trans hE39) (emin.symm ▸ k1.ext (hE21.trans hE39)) ?_,hmu⟩⟩⟩
    ·have hhi:=Al3.1 hhi
     obtain⟨_,b41,s42,s43,a41,q41⟩:=at_ ((hE16.trans hE21).trans hE39)
     refine⟨i1,b41,s42,s43,a41,by unfold I64;omega,stepOK ((hE16.trans hE21).trans hE39) (emin.symm ▸ k1.ext (hE21.trans hE39)) ?_,hmu⟩
     rw[show Au7 (Af9 (q.take j)).2 q[j]=q[j] from if_pos hhi]
     exact q41
    ·rw[show Au7 (Af9 (q.take j)).2 q[j]=(Af9 (q.take j)).2 from if_neg fun e=>hhi (Al3.2 e)]
     exact k2.ext (hE21.trans hE39)
  ·have:j=q.length:=by omega
   subst this
   rw[List.take_length] at k1 k2
   exact Ah6.mk (k1.ext hE44) (k2.ext hE44)
theorem At0 {W0 W:PW} {M:Nat→Prop} {s:Sl} {q:List Rat} {k:Nat} {K:Value→PW→Prop} (h:Bf7 231 47 W s q.length (Cc4 q)) (hq: ∀x∈q,Sz k x) (h0:q≠[]) (hk:k≤500000000) (hl:q.length≤1048576) (kont: ∀(l:List Value) (W':PW),Ext W W'→(Ah6 231 W' l (Af9 q))→K (.agg ⟨l⟩) W'):
  Aa1 Tryz.prog W0 M 28 [s.v] W K:=
 Aa2 (fun W' hE=>Dc8 (M:=fun _=>False) (h.ext hE) hq h0 hk hl) (fun W' v W'' hE hE' hP=>by
  obtain⟨l,rfl,h⟩:=hP
  exact kont l W'' (hE.trans hE') h)
end Go.Proofs.YtokefihiadbkbaaGreatDoor
