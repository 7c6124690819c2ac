/- cinctureref1.PolyParse, poly.Parse, book.Terms, law8.Of. -/
import Derived.Test.YtokefihiadbkbaaGreatDoorW7
import Derived.Test.YtokefihiadbkbaaGreatDoorLib3
import Derived.Test.YtokefihiadbkbaaGreatDoorW3
import Derived.Test.YtokefihiadbkbaaGreatDoorLib5
import Derived.Test.YtokefihiadbkbaaGreatDoorR17
import Derived.Test.YtokefihiadbkbaaGreatDoorR8
import Derived.Test.YtokefihiadbkbaaGreatDoorLib2
import Derived.Test.YtokefihiadbkbaaGreatDoorLib4
import Derived.Test.YtokefihiadbkbaaGreatDoorR13
set_option linter.unusedVariables false
set_option linter.unusedSimpArgs false
set_option maxRecDepth 100000
namespace Go.Proofs.YtokefihiadbkbaaGreatDoor
open Go Go.SX
theorem Dd0 {W:PW} {t:TypeId} {sz:Nat} :Go.SX.Own W t sz ⟨none,0,0⟩ []:=⟨⟨by simp,by simp,.inl ⟨rfl,rfl⟩⟩,fun g hg=>by simp[Sl.v,Value.ownBlock] at hg⟩
end Go.Proofs.YtokefihiadbkbaaGreatDoor
/- bern.between, and what is done to a line of coefficients for its halves. -/
namespace Go.Proofs.YtokefihiadbkbaaGreatDoor
open Go Go.SX
abbrev VQ (W:PW) (s:Sl) (n:Nat) (f:Nat→Rat):Prop:=OwV 231 42 W s n f
abbrev XQ (W:PW) (r:Option Addr) (m:Nat) (q:Nat→Rat):Prop:=In9 231 W r m q
abbrev Iz4 (r:Option Addr) (s:Sl):Prop:=∀g,(⟨r,1,1⟩:Sl).v.ownBlock=some g→¬s.v.ownBlock=some g
def Jf3 (s:Sl) (n:Nat) (u:Rat) (f q:Nat→Rat) (r:Option Addr) (L:List PL) (W:PW):Prop:=match L with
 | [.val (.int .i64 z)]=>∃k:Nat,z=(k:Int)∧k≤n∧VQ W s n (loS u f k (n-1))∧XQ W r 1 q
 | _=>False
def Iv2 (n:Nat) (L:List PL) (_:PW):Nat:=match L with
 | [.val (.int .i64 z)]=>n-z.toNat
 | _=>0
end Go.Proofs.YtokefihiadbkbaaGreatDoor
/- bern.count, bern.lines. -/
namespace Go.Proofs.YtokefihiadbkbaaGreatDoor
open Go Go.SX
def Id4 (W:PW) (s:Sl) (zs:List Int):Prop:=Bf9 W 1 s (zs.map fun z=>[.int .i64 z])
theorem Id4.ext {W W':PW} {s:Sl} {zs:List Int} (h:Id4 W s zs) (hE:Ext W W'):Id4 W' s zs:=Bf9.ext h hE
theorem Id4.n {W:PW} {s:Sl} {zs:List Int} (h:Id4 W s zs):s.n=zs.length:=by obtain⟨_,h⟩:=h;have:=h.1;rwa [List.length_map] at this
theorem Id4.inB {W:PW} {s:Sl} {zs:List Int} (h:Id4 W s zs) {i:Int} (h0:0≤i) (h1:i<(zs.length:Int)):SX.inB s i:=let⟨_,h⟩:=h;Row.inB h h0 (by rw[List.length_map];exact h1)
theorem Id4.at {W:PW} {s:Sl} {zs:List Int} (h:Id4 W s zs) {i:Nat} (hi:i<zs.length):Aa7 W s 1 i 0 [.int .i64 zs[i]]:=let⟨_,h⟩:=h;Row.elem h (x:=[.int .i64 zs[i]]) (by simp[hi]) fun j v hj=>by simpa using hj
theorem Id4.cut {W:PW} {s:Sl} {zs:List Int} (h:Id4 W s zs) {i:Nat} (hi:i≤zs.length):Id4 W (s.cut 1 0 i) (zs.take i):=by
 obtain⟨t,h⟩:=h
 have:=Row.cut h (lo:=0) (hi:=i) (Nat.zero_le _) (by rw[List.length_map];exact hi)
 unfold Id4
 rw[List.drop_zero,←List.map_take] at this
 exact⟨t,this⟩
theorem Id4.put {W W':PW} {s:Sl} {zs:List Int} {N:Nat→Prop} (h:Id4 W s zs) (hp:Put 42 N W W') (hN: ∀g,s.v.ownBlock=some g→¬N g):Id4 W' s zs:=by
 obtain⟨t,a1,a2,a3,a4,a5⟩:=h
 refine⟨t,a1,a2,a3,a4,?_⟩
 rcases a5 with e | ⟨b,o,cs,fz,hA,hS,hh,hc⟩
 ·exact .inl e
 ·obtain⟨g,h1,h2⟩:=hp
  have hk:=h2.Fi9.Ai1 b (Array.getElem?_eq_some_iff.1 hh).1 hS fun e=>by
   have e:b=g:=e
   subst e
   exact hN b (by rw[Sl.v,hA];rfl) h1
  exact .inr ⟨b,o,cs,fz,hA,hk.2,hk.1.trans hh,hc⟩
theorem Id4.pub {W:PW} {s:Sl} {zs:List Int} (h:Id4 W s zs) (hn:0<zs.length) {g:Nat} (hg:s.v.ownBlock=some g):g<W.w.heap.size∧¬W.S g:=by
 obtain⟨t,a1,a2,a3,a4,a5⟩:=h
 rcases a5 with e | ⟨b,o,cs,fz,hA,hS,hh,hc⟩
 ·have:=congrArg List.length e
  rw[List.length_map,List.length_nil] at this
  omega
 ·rw[Sl.v,hA] at hg
  obtain rfl:b=g:=by simpa[Value.ownBlock] using hg
  exact⟨(Array.getElem?_eq_some_iff.1 hh).1,hS⟩
def Ie1 (zs:List Int):Prop:=(∀z∈zs,0≤z∧z≤16)∧1≤zs.length∧zs.length≤3
instance (zs:List Int):Decidable (Ie1 zs):=by unfold Ie1;infer_instance
def tpN (zs:List Int) (i:Nat):Nat:=(zs.getD i 0).toNat+1
def stN (zs:List Int):Nat→Nat
 | 0=>1
 | k+1=>stN zs k*tpN zs k
theorem Ih5 {zs:List Int} {i:Nat} (hi:i<zs.length) (h:0≤zs[i]):(tpN zs i:Int)=zs[i]+1:=by
 unfold tpN
 rw[List.getD_eq_getElem?_getD,List.getElem?_eq_getElem hi]
 show((zs[i].toNat+1:Nat):Int)=_
 omega
theorem If0 {zs:List Int} (h: ∀z∈zs,0≤z∧z≤16) (i:Nat):tpN zs i≤17:=by
 unfold tpN
 rw[List.getD_eq_getElem?_getD]
 by_cases hi:i<zs.length
 ·rw[List.getElem?_eq_getElem hi]
  have:=h _ (List.getElem_mem hi)
  show zs[i].toNat+1≤17
  omega
 ·rw[List.getElem?_eq_none (by omega)]
  show(0:Int).toNat+1≤17
  decide
theorem Ie4 (zs:List Int) (i:Nat):0<tpN zs i:=Nat.succ_pos _
theorem Ie2 (zs:List Int): ∀k,0<stN zs k
 | 0=>Nat.one_pos
 | k+1=>Nat.mul_pos (Ie2 zs k) (Ie4 zs k)
theorem Ja0 {zs:List Int} (h: ∀z∈zs,0≤z∧z≤16): ∀k,stN zs k≤17^k
 | 0=>Nat.le_refl _
 | k+1=>by rw[stN,Nat.pow_succ];exact Nat.mul_le_mul (Ja0 h k) (If0 h k)
theorem Ig5 (zs:List Int) (i:Nat): ∀k,∃R,stN zs (i+1+k)=stN zs i*tpN zs i*R
 | 0=>⟨1,by rw[Nat.mul_one];rfl⟩
 | k+1=>by
  obtain⟨R,h⟩:=Ig5 zs i k
  exact⟨R*tpN zs (i+1+k),by rw[←Nat.mul_assoc,←h];rfl⟩
theorem Im9 {zs:List Int} (h: ∀z∈zs,0≤z∧z≤16) {k:Nat} (hk:k≤5):stN zs k≤1419857:=Nat.le_trans (Ja0 h k) (Nat.le_trans (Nat.pow_le_pow_right (by decide) hk) (by decide))
theorem Im3 {zs:List Int} {m:Nat} : ∀k,k≤m→stN (zs.take m) k=stN zs k
 | 0,_=>rfl
 | k+1,h=>by
  rw[stN,stN,Im3 k (by omega)]
  unfold tpN
  rw[List.getD_eq_getElem?_getD,List.getD_eq_getElem?_getD,List.getElem?_take,if_pos (by omega)]
def bcI (W0:PW) (zs:List Int) (L:List PL) (W:PW):Prop:=match L with
 | [.val (.int .i64 y),.val (.int .i64 z)]=>∃k:Nat,z=(k:Int)∧k≤zs.length∧Ext W0 W∧(∀x∈zs.take k,0≤x∧x≤16)∧y=(stN zs k:Int)
 | _=>False
def Jd7 (n:Nat) (L:List PL) (_:PW):Nat:=match L with
 | [_,.val (.int .i64 z)]=>n-z.toNat
 | _=>0
theorem Io7 {W0:PW} {M:Nat→Prop} {s:Sl} {zs:List Int} (h:Id4 W0 s zs) (hl:zs.length≤5):
  Aa0 Tryz.prog 65 [s.v] W0 M fun v W'=>∃(z:Int),v = .tuple ⟨[.int .i64 z,.bool (decide (Ie1 zs))]⟩∧(Ie1 zs→z=(stN zs zs.length:Int)):=by
 apply Ik8
 have hn:=h.n
 refine⟨bcI W0 zs,Jd7 zs.length,⟨0,rfl,Nat.zero_le _,Ext.refl _,by simp,rfl⟩,?_⟩
 rintro i3 i4 W5 ⟨k,rfl,hk,hE5,hall,rfl⟩
 have h5:=h.ext hE5
 refine⟨fun hlt=>?_,fun hge=>?_⟩
 ·have hkl:k<zs.length:=by omega
  have bad:¬(0≤zs[k]∧zs[k]≤16)→¬Ie1 zs:=fun e ok=>e (ok.1 _ (List.getElem_mem hkl))
  refine⟨h5.inB (by omega) (by omega),zs[k],h5.at hkl,fun hneg W7 hE7=>⟨0,by rw[decide_eq_false (bad (by omega))],fun ok=>absurd ok (bad (by omega))⟩,fun hnn=>⟨fun hbig W8 hE8=>⟨0,by rw[decide_eq_false (bad (by omega))],fun ok=>absurd ok (bad (by omega))⟩,fun hsm=>?_⟩⟩
  have hall': ∀x∈zs.take (k+1),0≤x∧x≤16:=fun x hx=>by
   rw[List.take_succ_eq_append_getElem hkl] at hx
   rcases List.mem_append.1 hx with hx | hx
   ·exact hall x hx
   ·rw[List.mem_singleton.1 hx];omega
  have e:(stN zs k:Int)*(zs[k]+1)=(stN zs (k+1):Int):=by rw[←Ih5 hkl (by omega),stN];push_cast;rfl
  have b1:stN zs (k+1)≤1419857:=by rw[←Im3 (m:=k+1) (k+1) (Nat.le_refl _)];exact Im9 hall' (by omega)
  rw[e]
  exact⟨by unfold I64;omega,by unfold I64;omega,by unfold I64;omega,⟨k+1,by push_cast;rfl,by omega,hE5,hall',rfl⟩,by show zs.length-Int.toNat ((k:Int)+1)<zs.length-Int.toNat (k:Int);omega⟩
 ·have:k=zs.length:=by omega
  subst this
  rw[List.take_length] at hall
  refine⟨fun h1 W9 hE9=>⟨_,?_,fun _=>rfl⟩,fun h1 W10 hE10=>⟨_,by rw[decide_eq_false (fun ok=>h1 (by have:=ok.2.1;omega))],fun _=>rfl⟩⟩
  congr 5
  rw[decide_eq_decide]
  exact⟨fun h3=>⟨hall,by omega,by omega⟩,fun ok=>by have:=ok.2.2;omega⟩
theorem Ie5 {W0 W:PW} {M:Nat→Prop} {s:Sl} {zs:List Int} {K:Value→PW→Prop} (h:Id4 W s zs) (hl:zs.length≤5) (kont: ∀(z:Int) (W':PW),Ext W W'→((Ie1 zs→z=(stN zs zs.length:Int)))→K (.tuple ⟨[.int .i64 z,.bool (decide (Ie1 zs))]⟩) W'):
  Aa1 Tryz.prog W0 M 65 [s.v] W K:=
 Aa2 (fun W' hE=>Io7 (M:=fun _=>False) (h.ext hE) hl) (fun W' v W'' hE hE' hP=>by
  obtain⟨z,rfl,h⟩:=hP
  exact kont z W'' (hE.trans hE') h)
def Je4 (g:FuncId) (r:Option Addr) (n m:Nat) (q:Nat→Rat) (D N:Nat) (T:(Nat→Rat)→Nat→Rat):Prop:=
 ∀(W:PW) (s:Sl) (f:Nat→Rat),VQ W s n f→XQ W r m q→Iz4 r s→Id9 n D N f→Aa0 Tryz.prog g [s.v,.pointer r] W (fun b=>s.v.ownBlock=some b) fun v W'=>v = .tuple ⟨[]⟩∧VQ W' s n (T f)
theorem XQ.pub {W:PW} {r:Option Addr} {m:Nat} {q:Nat→Rat} (h:XQ W r m q) {g:Nat} (hg:(⟨r,1,1⟩:Sl).v.ownBlock=some g):g<W.w.heap.size∧¬W.S g:=by
 obtain⟨xs,⟨b,o,cs,t,fz,hA,hS,hh,_⟩,_⟩:=h
 have hA:r=some ⟨b,o,none⟩:=hA
 subst hA
 obtain rfl:b=g:=by simpa[Value.ownBlock] using hg
 exact⟨(Array.getElem?_eq_some_iff.1 hh).1,hS⟩
theorem VQ.pub {W:PW} {s:Sl} {n:Nat} {f:Nat→Rat} (h:VQ W s n f) (hn:0<n) {g:Nat} (hg:s.v.ownBlock=some g):g<W.w.heap.size∧¬W.S g:=by
 obtain⟨xs,k1,k2⟩:=h
 obtain⟨b,cs,_,hb,hS,hh,_⟩:=k1.at fun e=>by have:=k2.1;rw[e] at this;simp at this;omega
 rw[hg] at hb
 cases hb
 exact⟨(Array.getElem?_eq_some_iff.1 hh).1,hS⟩
theorem zeroV {W:PW} {s:Sl} {n:Nat} (h:Go.SX.Own W 42 3 s (List.replicate n [.slice none 0 0,.bool false,.slice none 0 0])):VQ W s n fun _=>0:=
 ⟨_,h,by simp,fun j hj=>⟨⟨none,0,0⟩,false,⟨none,0,0⟩,by simp[List.getElem?_replicate,hj],Ar9 W⟩⟩
theorem Ih2 {t st n:Nat} (ht:t≤1419857):Int.tmod (IntKind.wrap .i64 (Int.tdiv (t:Int) (st:Int))) (n:Int)=((t/st%n:Nat):Int):=by
 have hdl:t/st≤t:=Nat.div_le_self _ _
 have e1:Int.tdiv (t:Int) (st:Int)=((t/st:Nat):Int):=(Int.ofNat_tdiv t st).symm
 rw[e1]
 generalize t/st=d at *
 rw[wrap_i64 (by unfold I64;omega)]
 exact(Int.ofNat_tmod d n).symm
def lnI (W0:PW) (zs:List Int) (i:Nat) (L:List PL) (W:PW):Prop:=match L with
 | [.val (.int .i64 y),.val (.int .i64 z)]=>∃k:Nat,z=(k:Int)∧k≤i∧Ext W0 W∧y=(stN zs k:Int)
 | _=>False
def lnO (s u:Sl) (r:Option Addr) (NN st n m:Nat) (q F:Nat→Rat) (T:(Nat→Rat)→Nat→Rat) (L:List PL) (W:PW):Prop:=match L with
 | [.val (.int .i64 z)]=>∃(t:Nat) (f:Nat→Rat),z=(t:Int)∧t≤NN∧VQ W s NN (Id7 st n T F t)∧VQ W u n f∧XQ W r m q
 | _=>False
def lnC (s u:Sl) (r:Option Addr) (NN st n m t:Nat) (q F:Nat→Rat) (T:(Nat→Rat)→Nat→Rat) (L:List PL) (W:PW):Prop:=match L with
 | [.val (.int .i64 z)]=>∃(j:Nat) (f:Nat→Rat),z=(j:Int)∧j≤n∧VQ W s NN (Id7 st n T F t)∧VQ W u n f∧(∀a,a<j→f a=F (t+a*st))∧XQ W r m q
 | _=>False
def lnW (s u:Sl) (r:Option Addr) (NN st n m t:Nat) (q F f:Nat→Rat) (T:(Nat→Rat)→Nat→Rat) (L:List PL) (W:PW):Prop:=match L with
 | [.val (.int .i64 z)]=>∃j:Nat,z=(j:Int)∧j≤n∧VQ W s NN (If8 st n T F t j)∧VQ W u n f∧XQ W r m q
 | _=>False
theorem If3 {W0:PW} {s a:Sl} {zs:List Int} {i:Nat} {g:FuncId} {r:Option Addr} {m D N:Nat} {q F:Nat→Rat} {T:(Nat→Rat)→Nat→Rat} (h:VQ W0 s (stN zs zs.length) F) (hz:Id4 W0 a zs) (hk:Ie1 zs) (hi:i<zs.length) (hb:XQ W0 r m q) (ha:Iz4 r s)
  (hf:Id9 (stN zs zs.length) D N F) (hT: ∀f g:Nat→Rat,(∀j,j<tpN zs i→f j=g j)→∀j,j<tpN zs i→T f j=T g j) (hdo:Je4 g r (tpN zs i) m q D N T):
  Aa0 Tryz.prog 67 [s.v,a.v,.int .i64 (i:Int),.func (.func g) #[] #[.pointer r]] W0 (fun b=>s.v.ownBlock=some b) fun v W'=>v = .tuple ⟨[]⟩∧VQ W' s (stN zs zs.length) (Id6 (stN zs i) (tpN zs i) T F):=by
 apply Ij7
 have hsn:=h.n
 have han:=hz.n
 have hcap:a.n≤a.c:=by obtain⟨_,h9⟩:=hz;exact h9.2.1
 obtain⟨h16,hl1,hl3⟩:=hk
 have hst:=Ie2 zs i
 have htp:=Ie4 zs i
 have htl:=If0 h16 i
 have hN:=Im9 h16 (k:=zs.length) (by omega)
 have hNp:=Ie2 zs zs.length
 have hst5:=Im9 h16 (k:=i) (by omega)
 obtain⟨R,hR⟩:=Ig5 zs i (zs.length-(i+1))
 rw[show i+1+(zs.length-(i+1))=zs.length by omega] at hR
 have htop:=Ih5 hi (h16 _ (List.getElem_mem hi)).1
 generalize hNN:stN zs zs.length=NN at *
 refine⟨⟨by decide,by omega,by omega⟩,lnI W0 zs i,Jd7 i,⟨0,rfl,Nat.zero_le _,Ext.refl _,rfl⟩,?_⟩
 rintro i3 i4 W5 ⟨k,rfl,hki,hE5,rfl⟩
 refine⟨fun hlt=>?_,fun hge=>?_⟩
 ·have hlt:k<i:=by
   have:(k:Int)<((Int.toNat (i:Int)-0:Nat):Int):=hlt
   omega
  have hc:=(hz.ext hE5).cut (i:=i) (by omega)
  have hkt:k<(zs.take i).length:=by rw[List.length_take];omega
  have hel:=hc.at hkt
  rw[List.getElem_take] at hel
  have hkl:k<zs.length:=by omega
  have b0:=h16 _ (List.getElem_mem hkl)
  have e:(stN zs k:Int)*(zs[k]+1)=(stN zs (k+1):Int):=by rw[←Ih5 hkl b0.1,stN];push_cast;rfl
  have b1:=Im9 h16 (k:=k+1) (by omega)
  refine⟨hc.inB (by omega) (by omega),zs[k],hel,?_⟩
  rw[e]
  exact⟨by unfold I64;omega,by unfold I64;omega,by unfold I64;omega,⟨k+1,by push_cast;rfl,by omega,hE5,rfl⟩,by show i-Int.toNat ((k:Int)+1)<i-Int.toNat (k:Int);omega⟩
 have:k=i:=by
  have:¬(k:Int)<((Int.toNat (i:Int)-0:Nat):Int):=hge
  omega
 subst this
 have b0:=h16 _ (List.getElem_mem hi)
 refine⟨(hz.ext hE5).inB (by omega) (by omega),zs[k],(hz.ext hE5).at hi,by unfold I64;omega,⟨rfl,by omega,by omega⟩,fun u W9 hE9 hO9 hF9=>?_⟩
 rw[show Int.toNat (zs[k]+1)=tpN zs k by omega] at hO9
 have E9:=hE5.trans hE9
 have hu:=zeroV hO9
 have un:=hu.n
 have hawu:Iz4 r u:=fun g1 h1 h2=>by
  obtain⟨k1,k2⟩:=XQ.pub (hb.ext hE5) h1
  exact k2 ((hF9 g1 h2).2 k1)
 have hsu: ∀g1,s.v.ownBlock=some g1→¬u.v.ownBlock=some g1:=fun g1 h1 h2=>by
  obtain⟨k1,k2⟩:=VQ.pub (h.ext hE5) hNp h1
  exact k2 ((hF9 g1 h2).2 k1)
 have hus: ∀g1,u.v.ownBlock=some g1→¬s.v.ownBlock=some g1:=fun g1 h1 h2=>hsu g1 h2 h1
 have hum: ∀g1,u.v.ownBlock=some g1→may W0 (fun b=>s.v.ownBlock=some b) g1:=fun g1 h1=>.inr (hF9 g1 h1).1
 generalize hnn:tpN zs k=n at *
 generalize hss:stN zs k=st at *
 refine⟨lnO s u r NN st n m q F T,Iv2 NN,⟨0,_,rfl,Nat.zero_le _,by rw[Ig0];exact h.ext E9,hu,hb.ext E9⟩,?_⟩
 rintro i12 W13 ⟨t,f0,rfl,ht,hS,hL,hB⟩
 refine⟨fun hlt=>?_,fun hge W32 hE32=>⟨rfl,(hS.ext hE32).congr fun j hj=>?_⟩⟩
 ·have htN:t<NN:=by omega
  have e3:Int.tmod (IntKind.wrap .i64 (Int.tdiv (t:Int) (st:Int))) (u.2:Int)=((t/st%n:Nat):Int):=by rw[show u.2=n from un];exact Ih2 (by omega)
  rw[e3]
  refine⟨by omega,by omega,fun hne=>⟨by unfold I64;omega,⟨t+1,f0,by push_cast;rfl,by omega,by rw[Ig1 hst htp (by omega)];exact hS,hL,hB⟩,by show NN-Int.toNat ((t:Int)+1)<NN-Int.toNat (t:Int);omega⟩,fun heq=>?_⟩
  have h0:t/st%n=0:=by omega
  have hlin: ∀{j:Nat},j<n→t+j*st<NN:=fun {j} hj=>by
   have:=(Ig2 (R:=R) hst htp (by rw[←hR];exact htN) h0 hj).1
   rw[←hR] at this
   exact this
  have cast: ∀j:Nat,(t:Int)+(j:Int)*(st:Int)=((t+j*st:Nat):Int):=fun j=>by push_cast;rfl
  have cast2: ∀j:Nat,(j:Int)*(st:Int)=((j*st:Nat):Int):=fun j=>by push_cast;rfl
  refine⟨lnC s u r NN st n m t q F T,Iv2 n,⟨0,f0,rfl,Nat.zero_le _,hS,hL,fun a h=>absurd h (Nat.not_lt_zero _),hB⟩,?_⟩
  rintro i16 W17 ⟨j,f,rfl,hj,hS7,hL7,hfa,hB7⟩
  refine⟨fun hlt2=>?_,fun hge2=>?_⟩
  ·have hjn:j<n:=by omega
   have hin:=hlin hjn
   obtain⟨s18,b19,s20,e18,g18⟩:=hS7.at hin
   rw[Iu6 (R:=R) hst htp (by rw[←hR];exact htN) h0 hjn] at g18
   rw[cast,cast2]
   refine⟨by unfold I64;omega,by unfold I64;omega,hS7.inB (by omega) (by omega),s18,b19,s20,e18,hL7.inB (by omega) (by omega),?_⟩
   refine hL7.store (j:=j) hjn g18 (by decide) hum fun W21 hp hL21=>⟨by unfold I64;omega,⟨j+1,_,by push_cast;rfl,by omega,hS7.put hp hsu (by decide),hL21,fun a ha'=>?_,hB7.put hp hawu (by decide)⟩,by show n-Int.toNat ((j:Int)+1)<n-Int.toNat (j:Int);omega⟩
   unfold Ij6
   by_cases e:a=j
   ·rw[if_pos e,e]
   ·rw[if_neg e];exact hfa a (by omega)
  have:j=n:=by omega
  subst this
  intro W' hE'
  have hFit:Id9 j D N f:=fun a ha'=>by rw[hfa a ha'];exact hf _ (hlin ha')
  refine⟨_,_,hdo W' u f (hL7.ext hE') (hB7.ext hE') hawu hFit,fun b hb'=>⟨(VQ.pub (hL7.ext hE') htp hb').2,hum b hb'⟩,fun v W23 hX hP=>⟨hP.1,?_⟩⟩
  have hL3:=hP.2
  have hput:=OwV.did hL7 htp hE' hX
  refine⟨lnW s u r NN st j m t q F (T f) T,Iv2 j,⟨0,rfl,Nat.zero_le _,by rw[Ij2];exact hS7.put hput hsu (by decide),hL3,hB7.put hput hawu (by decide)⟩,?_⟩
  rintro i26 W27 ⟨p,rfl,hp,hS8,hL8,hB8⟩
  refine⟨fun hlt3=>?_,fun hge3=>?_⟩
  ·have hpn:p<j:=by omega
   have hin:=hlin hpn
   obtain⟨s28,b29,s30,e28,g28⟩:=hL8.at hpn
   rw[cast,cast2]
   refine⟨by unfold I64;omega,by unfold I64;omega,hL8.inB (by omega) (by omega),s28,b29,s30,e28,hS8.inB (by omega) (by omega),?_⟩
   refine hS8.store (j:=t+p*st) hin g28 (by decide) (fun b hb'=>.inl hb') fun W31 hpu hS31=>⟨by unfold I64;omega,⟨p+1,by push_cast;rfl,by omega,hS31.congr fun x hx=>?_,hL8.put hpu hus (by decide),hB8.put hpu ha (by decide)⟩,by show j-Int.toNat ((p:Int)+1)<j-Int.toNat (p:Int);omega⟩
   rw[Ij0 (R:=R) hst htp (by rw[←hR];exact htN) h0 hpn]
   unfold Ij6
   dsimp only
   by_cases e:x=t+p*st
   ·rw[if_pos e,if_pos e];exact hT _ _ (fun a ha'=>hfa a ha') p hpn
   ·rw[if_neg e,if_neg e]
  ·have:p=j:=by omega
   subst this
   rw[Il6 hst htp] at hS8
   exact⟨by unfold I64;omega,⟨t+1,_,by push_cast;rfl,by omega,hS8,hL8,hB8⟩,by show NN-Int.toNat ((t:Int)+1)<NN-Int.toNat (t:Int);omega⟩
 ·have:t=NN:=by omega
  subst this
  exact Ig8 hst htp hj
end Go.Proofs.YtokefihiadbkbaaGreatDoor
/- whole.Pow, rat.Pow; cinctureref1.times. -/
namespace Go.Proofs.YtokefihiadbkbaaGreatDoor
open Go Go.SX
theorem Fu3 {i:Nat} (h:i<256):bits .and .i64 (i:Int) 1=((i%2:Nat):Int):=by
 have key: ∀i:Nat,i<256→bits .and .i64 (i:Int) 1=((i%2:Nat):Int):=by decide +kernel
 exact key i h
theorem Fp4 (i:Nat):Ah0 (i:Int) 1=((i/2:Nat):Int):=by
 unfold Ah0
 rw[Int.fdiv_eq_ediv_of_nonneg _ (by decide)]
 omega
theorem Cf5 {z:Int} {k:Nat} (h:nl z.natAbs≤k) (e:Nat):nl (z^e).natAbs≤k*e+1:=by
 induction e with
 | zero=>simp[Ax0]
 | succ e ih=>
  rw[Int.pow_succ,Int.natAbs_mul]
  have:=Ae5 (z^e).natAbs z.natAbs
  rw[Nat.mul_add]
  omega
theorem Di0 {W0:PW} {M:Nat→Prop} {s:Sl} {b:Bool} {z:Int} {n k:Nat} (h:Ab5 231 W0 s b z) (hz:nl z.natAbs≤k) (hk:k≤1048576) (hn:n≤255):
  Aa0 Tryz.prog 162 [.agg ⟨[s.v,.bool b]⟩,.int .i64 (n:Int)] W0 M fun v W'=>∃(s':Sl),∃(b':Bool),v = .agg ⟨[Sl.v s',.bool b']⟩∧Ab5 231 W' s' b' (z^n):=by
 apply Cg5
 have en:mn (mx (n:Int) 0) 255=(n:Int):=by unfold mn mx;split<;>(try split)<;>omega
 unfold Cf2
 rw[en]
 refine Bk1 (z:=1) (by unfold I64;omega) fun s3 b4 W2 hE2 h2=>⟨s3,b4,rfl,?_⟩
 refine⟨fun l W=>match l with
  | [.val (.int .i64 i),.cells [.slice A m c,.bool x],.cells [.slice A' m' c',.bool y]]=>∃(j e f:Nat),i=(j:Int)∧Ext W0 W∧f+e*j=n∧e≤2*n+1∧j≤255∧Ab5 231 W ⟨A,m,c⟩ x (z^f)∧Ab5 231 W ⟨A',m',c'⟩ y (z^e)
  | _=>False,fun l _=>match l with | [.val (.int .i64 i),_,_]=>i.toNat | _=>0,⟨n,1,0,rfl,hE2,by omega,by omega,hn,by simpa using h2,by rw[show z^1=z by rw[Int.pow_succ,Int.pow_zero,Int.one_mul]];exact h.ext hE2⟩,?_⟩
 rintro s7 b8 s9 b10 i11 W12 ⟨j,e,f,rfl,hE,hfe,he,hj,hf1,hf2⟩
 have hf1:Ab5 231 W12 s7 b8 (z^f):=hf1
 have hf2:Ab5 231 W12 s9 b10 (z^e):=hf2
 have hjn:e*j≤n:=by omega
 refine⟨fun hpos=>?_,fun hz0 W25 hE25=>⟨s7,b8,rfl,?_⟩⟩
 ·have hj1:1≤j:=by omega
  have hen:e≤n:=Nat.le_trans (Nat.le_mul_of_pos_right e hj1) hjn
  have hsz: ∀x,x≤511→nl (z^x).natAbs≤68719476736:=fun x hx=>by
   have h1:=Cf5 hz x
   have h2:=Nat.mul_le_mul hk hx
   omega
  have hee:(e+e)*(j/2)=e*(2*(j/2)):=by rw[←Nat.two_mul,Nat.mul_comm 2 e,Nat.mul_assoc]
  have hi:Int.toNat (Ah0 (j:Int) 1)<Int.toNat (j:Int):=by rw[Fp4];omega
  refine⟨fun hodd=>?_,fun heven=>?_⟩
  ·have ho:j%2=1:=by rw[Fu3 (by omega)] at hodd;omega
   have hj2:j=2*(j/2)+1:=by omega
   have hej:e*j=e*(2*(j/2))+e:=by conv=>lhs;rw[hj2,Nat.mul_add,Nat.mul_one]
   refine Ak0 hf1 hf2 (hsz f (by omega)) (hsz e (by omega)) fun s15 b16 W14 hE14 h14=>⟨s15,b16,rfl,Ak0 (hf2.ext hE14) (hf2.ext hE14) (hsz e (by omega)) (hsz e (by omega)) fun s19 b20 W18 hE18 h18=>⟨s19,b20,rfl,⟨j/2,e+e,f+e,by rw[Fp4],hE.trans (hE14.trans hE18),by omega,by omega,by omega,?_,?_⟩,hi⟩⟩
   ·rw[Int.pow_add];exact h14.ext hE18
   ·rw[Int.pow_add];exact h18
  ·have ho:j%2=0:=by
    rw[Fu3 (by omega)] at heven
    omega
   have hj2:j=2*(j/2):=by omega
   have hej:e*j=e*(2*(j/2)):=by conv=>lhs;rw[hj2]
   refine Ak0 hf2 hf2 (hsz e (by omega)) (hsz e (by omega)) fun s23 b24 W22 hE22 h22=>⟨s23,b24,rfl,⟨j/2,e+e,f,by rw[Fp4],hE.trans hE22,by omega,by omega,by omega,hf1.ext hE22,?_⟩,hi⟩
   rw[Int.pow_add];exact h22
 ·have:j=0:=by omega
  subst this
  rw[Nat.mul_zero,Nat.add_zero] at hfe
  rw[←hfe]
  exact hf1.ext hE25
theorem Bd6 {W0 W:PW} {M:Nat→Prop} {s:Sl} {b:Bool} {z:Int} {n k:Nat} {K:Value→PW→Prop} (h:Ab5 231 W s b z) (hz:nl z.natAbs≤k) (hk:k≤1048576) (hn:n≤255) (kont: ∀(s':Sl) (b':Bool) (W':PW),Ext W W'→(Ab5 231 W' s' b' (z^n))→K (.agg ⟨[Sl.v s',.bool b']⟩) W'):
  Aa1 Tryz.prog W0 M 162 [.agg ⟨[s.v,.bool b]⟩,.int .i64 (n:Int)] W K:=
 Aa2 (fun W' hE=>Di0 (M:=fun _=>False) (h.ext hE) hz hk hn) (fun W' v W'' hE hE' hP=>by
  obtain⟨s',b',rfl,h⟩:=hP
  exact kont s' b' W'' (hE.trans hE') h)
theorem Eo3 (q:Rat) (n:Nat):dn (q^n)=if dn q=0∨n=0 then 0 else q.den^n:=by
 unfold dn
 rw[Rat.den_pow]
 by_cases h1:q.den=1
 ·simp[h1]
 ·by_cases h2:n=0
  ·subst h2;simp
  ·have:q.den^n≠1:=by
    have hd:=q.den_nz
    obtain⟨m,rfl⟩: ∃m,n=m+1:=⟨n-1,by omega⟩
    rw[Nat.pow_succ]
    have:1≤q.den^m:=Nat.pow_pos (by omega)
    have:=Nat.mul_le_mul this (show 2≤q.den by omega)
    omega
   have hz:q.den≠0:=q.den_nz
   simp[h1,h2,this,hz]
theorem Er1 {W0:PW} {M:Nat→Prop} {s t:Sl} {b:Bool} {q:Rat} {n k:Nat} (h:Ab3 231 W0 s b t q) (hz:Sz k q) (hk:k≤1048576) (hn:n≤255):
  Aa0 Tryz.prog 96 [.agg ⟨[s.v,.bool b,t.v]⟩,.int .i64 (n:Int)] W0 M fun v W'=>∃(s':Sl),∃(b':Bool),∃(t':Sl),v = .agg ⟨[Sl.v s',.bool b',Sl.v t']⟩∧Ab3 231 W' s' b' t' (q^n):=by
 apply Dk0
 have hd:=hz.dn
 refine Bd6 h.1 hz.1 hk hn fun s3 b4 W2 hE2 h2=>⟨s3,b4,rfl,Ac9 (h.2.ext hE2) (by omega) fun W6 hE6 _=>⟨_,rfl,fun hb=>⟨fun hn0=>?_,fun hn0 W20 hE20=>⟨s3,b4,⟨none,0,0⟩,rfl,(h2.ext hE6).ext hE20,?_⟩⟩,fun hb W21 hE21=>⟨s3,b4,⟨none,0,0⟩,rfl,(h2.ext hE6).ext hE21,?_⟩⟩⟩
 ·refine Bc0 (h.ext (hE2.trans hE6)) hz (by omega) fun s10 b11 W9 hE9 h9=>⟨s10,b11,rfl,Bd6 h9 (by rw[Int.natAbs_natCast];exact hz.2) hk hn fun s14 b15 W13 hE13 h13=>⟨s14,b15,rfl,Ag5 h13 fun s18 W17 hE17 h17=>⟨s18,rfl,fun W19 hE19=>⟨s3,b4,s18,rfl,(h2.ext (hE6.trans (hE9.trans (hE13.trans hE17)))).ext hE19,?_⟩⟩⟩⟩
  have hdq:dn q≠0:=fun e=>by
   rw[e] at hb
   simp[Aj9] at hb
  have e:dn (q^n)=q.den^n:=by rw[Eo3,if_neg (by omega)]
  rw[e]
  have e2:((q.den:Int)^n).natAbs=q.den^n:=by rw[Int.natAbs_pow,Int.natAbs_natCast]
  rw[e2] at h17
  exact h17.ext hE19
 ·have:n=0:=by omega
  rw[Eo3,if_pos (.inr this)]
  exact Ao9 W20
 ·have:dn q=0:=(Ag3 (x:=dn q)).1 (by omega)
  rw[Eo3,if_pos (.inl this)]
  exact Ao9 W21
theorem Bq4 {W0 W:PW} {M:Nat→Prop} {s t:Sl} {b:Bool} {q:Rat} {n k:Nat} {K:Value→PW→Prop} (h:Ab3 231 W s b t q) (hz:Sz k q) (hk:k≤1048576) (hn:n≤255) (kont: ∀(s':Sl) (b':Bool) (t':Sl) (W':PW),Ext W W'→(Ab3 231 W' s' b' t' (q^n))→K (.agg ⟨[Sl.v s',.bool b',Sl.v t']⟩) W'):
  Aa1 Tryz.prog W0 M 96 [.agg ⟨[s.v,.bool b,t.v]⟩,.int .i64 (n:Int)] W K:=
 Aa2 (fun W' hE=>Er1 (M:=fun _=>False) (h.ext hE) hz hk hn) (fun W' v W'' hE hE' hP=>by
  obtain⟨s',b',t',rfl,h⟩:=hP
  exact kont s' b' t' W'' (hE.trans hE') h)
end Go.Proofs.YtokefihiadbkbaaGreatDoor
/- The program's intervals. -/
namespace Go.Proofs.YtokefihiadbkbaaGreatDoor
open Go Go.SX
theorem De5 {W0:PW} {M:Nat→Prop} {s t s' t':Sl} {b b':Bool} {p q:Rat} {k:Nat} (h1:Ab3 231 W0 s b t p) (h2:Ab3 231 W0 s' b' t' q) (hp:Sz k p) (hq:Sz k q) (hk:k≤34359738368):
  Aa0 Tryz.prog 159 [.agg ⟨[s.v,.bool b,t.v]⟩,.agg ⟨[s'.v,.bool b',t'.v]⟩] W0 M fun v W'=>∃(r:Sl),∃(c:Bool),∃(u:Sl),v = .agg ⟨[Sl.v r,.bool c,Sl.v u]⟩∧Ab3 231 W' r c u (Az9 p q):=by
 apply Cg1
 refine Aj2 h2 h1 hq hp hk hk fun W2 hE2 _=>⟨_,rfl,fun h W4 hE4=>⟨s',b',t',rfl,?_⟩,fun h W5 hE5=>⟨s,b,t,rfl,?_⟩⟩
 ·rw[Az9,if_pos (At6.1 h)];exact h2.ext (hE2.trans hE4)
 ·rw[Az9,if_neg (fun e=>h (At6.2 e))];exact h1.ext (hE2.trans hE5)
theorem Be3 {W0 W:PW} {M:Nat→Prop} {s t s' t':Sl} {b b':Bool} {p q:Rat} {k:Nat} {K:Value→PW→Prop} (h1:Ab3 231 W s b t p) (h2:Ab3 231 W s' b' t' q) (hp:Sz k p) (hq:Sz k q) (hk:k≤34359738368) (kont: ∀(r:Sl) (c:Bool) (u:Sl) (W':PW),Ext W W'→(Ab3 231 W' r c u (Az9 p q))→K (.agg ⟨[Sl.v r,.bool c,Sl.v u]⟩) W'):
  Aa1 Tryz.prog W0 M 159 [.agg ⟨[s.v,.bool b,t.v]⟩,.agg ⟨[s'.v,.bool b',t'.v]⟩] W K:=
 Aa2 (fun W' hE=>De5 (M:=fun _=>False) (h1.ext hE) (h2.ext hE) hp hq hk) (fun W' v W'' hE hE' hP=>by
  obtain⟨r,c,u,rfl,h⟩:=hP
  exact kont r c u W'' (hE.trans hE') h)
theorem Dl7 {W0:PW} {M:Nat→Prop} {s t s' t':Sl} {b b':Bool} {p q:Rat} {k:Nat} (h1:Ab3 231 W0 s b t p) (h2:Ab3 231 W0 s' b' t' q) (hp:Sz k p) (hq:Sz k q) (hk:k≤34359738368):
  Aa0 Tryz.prog 160 [.agg ⟨[s.v,.bool b,t.v]⟩,.agg ⟨[s'.v,.bool b',t'.v]⟩] W0 M fun v W'=>∃(r:Sl),∃(c:Bool),∃(u:Sl),v = .agg ⟨[Sl.v r,.bool c,Sl.v u]⟩∧Ab3 231 W' r c u (Au7 p q):=by
 apply Ck9
 refine Aj2 h2 h1 hq hp hk hk fun W2 hE2 _=>⟨_,rfl,fun h W4 hE4=>⟨s',b',t',rfl,?_⟩,fun h W5 hE5=>⟨s,b,t,rfl,?_⟩⟩
 ·rw[Au7,if_pos (Al3.1 h)];exact h2.ext (hE2.trans hE4)
 ·rw[Au7,if_neg (fun e=>h (Al3.2 e))];exact h1.ext (hE2.trans hE5)
theorem Bd3 {W0 W:PW} {M:Nat→Prop} {s t s' t':Sl} {b b':Bool} {p q:Rat} {k:Nat} {K:Value→PW→Prop} (h1:Ab3 231 W s b t p) (h2:Ab3 231 W s' b' t' q) (hp:Sz k p) (hq:Sz k q) (hk:k≤34359738368) (kont: ∀(r:Sl) (c:Bool) (u:Sl) (W':PW),Ext W W'→(Ab3 231 W' r c u (Au7 p q))→K (.agg ⟨[Sl.v r,.bool c,Sl.v u]⟩) W'):
  Aa1 Tryz.prog W0 M 160 [.agg ⟨[s.v,.bool b,t.v]⟩,.agg ⟨[s'.v,.bool b',t'.v]⟩] W K:=
 Aa2 (fun W' hE=>Dl7 (M:=fun _=>False) (h1.ext hE) (h2.ext hE) hp hq hk) (fun W' v W'' hE hE' hP=>by
  obtain⟨r,c,u,rfl,h⟩:=hP
  exact kont r c u W'' (hE.trans hE') h)
theorem Cl8 {W0:PW} {M:Nat→Prop} {s t s' t':Sl} {b b':Bool} {p q:Rat} {k:Nat} (h1:Ab3 231 W0 s b t p) (h2:Ab3 231 W0 s' b' t' q) (hp:Sz k p) (hq:Sz k q) (hk:k≤34359738368):
  Aa0 Tryz.prog 205 [.agg ⟨[s.v,.bool b,t.v]⟩,.agg ⟨[s'.v,.bool b',t'.v]⟩] W0 M fun v W'=>∃(l:List Value),v = .agg ⟨l⟩∧SpV 231 W' l (Ag0 p q):=by
 apply Bv4
 exact Be3 h1 h2 hp hq hk fun s3 b4 s5 W2 hE2 g1=>⟨s3,b4,s5,rfl,Bd3 (h1.ext hE2) (h2.ext hE2) hp hq hk fun s8 b9 s10 W7 hE7 g2=>⟨s8,b9,s10,rfl,fun W11 hE11=>⟨_,rfl,SpV.mk (x:=Ag0 p q) (g1.ext (hE7.trans hE11)) (g2.ext hE11)⟩⟩⟩
theorem Ap8 {W0 W:PW} {M:Nat→Prop} {s t s' t':Sl} {b b':Bool} {p q:Rat} {k:Nat} {K:Value→PW→Prop} (h1:Ab3 231 W s b t p) (h2:Ab3 231 W s' b' t' q) (hp:Sz k p) (hq:Sz k q) (hk:k≤34359738368) (kont: ∀(l:List Value) (W':PW),Ext W W'→(SpV 231 W' l (Ag0 p q))→K (.agg ⟨l⟩) W'):
  Aa1 Tryz.prog W0 M 205 [.agg ⟨[s.v,.bool b,t.v]⟩,.agg ⟨[s'.v,.bool b',t'.v]⟩] W K:=
 Aa2 (fun W' hE=>Cl8 (M:=fun _=>False) (h1.ext hE) (h2.ext hE) hp hq hk) (fun W' v W'' hE hE' hP=>by
  obtain⟨l,rfl,h⟩:=hP
  exact kont l W'' (hE.trans hE') h)
theorem Dh8 {W0:PW} {M:Nat→Prop} {l1 l2:List Value} {x y:Iv} {k:Nat} (h1:SpV 231 W0 l1 x) (h2:SpV 231 W0 l2 y) (hx:IvS k x) (hy:IvS k y) (hk:k≤34359738368):
  Aa0 Tryz.prog 93 [.agg ⟨l1⟩,.agg ⟨l2⟩] W0 M fun v W'=>∃(l:List Value),v = .agg ⟨l⟩∧SpV 231 W' l (Bu9 x y):=by
 obtain⟨s0,b0,t0,s1,b1,t1,rfl,h1,h1'⟩:=h1
 obtain⟨s2,b2,t2,s3,b3,t3,rfl,h2,h2'⟩:=h2
 apply Ck6
 exact Be3 h1 h2 hx.1 hy.1 hk fun s3 b4 s5 W2 hE2 g1=>⟨s3,b4,s5,rfl,Bd3 (h1'.ext hE2) (h2'.ext hE2) hx.2 hy.2 hk fun s8 b9 s10 W7 hE7 g2=>⟨s8,b9,s10,rfl,fun W11 hE11=>⟨_,rfl,SpV.mk (x:=Bu9 x y) (g1.ext (hE7.trans hE11)) (g2.ext hE11)⟩⟩⟩
theorem Cn9 {W0 W:PW} {M:Nat→Prop} {l1 l2:List Value} {x y:Iv} {k:Nat} {K:Value→PW→Prop} (h1:SpV 231 W l1 x) (h2:SpV 231 W l2 y) (hx:IvS k x) (hy:IvS k y) (hk:k≤34359738368) (kont: ∀(l:List Value) (W':PW),Ext W W'→(SpV 231 W' l (Bu9 x y))→K (.agg ⟨l⟩) W'):
  Aa1 Tryz.prog W0 M 93 [.agg ⟨l1⟩,.agg ⟨l2⟩] W K:=
 Aa2 (fun W' hE=>Dh8 (M:=fun _=>False) (h1.ext hE) (h2.ext hE) hx hy hk) (fun W' v W'' hE hE' hP=>by
  obtain⟨l,rfl,h⟩:=hP
  exact kont l W'' (hE.trans hE') h)
theorem Dx1 {W0:PW} {M:Nat→Prop} {l1 l2:List Value} {x y:Iv} {k:Nat} (h1:SpV 231 W0 l1 x) (h2:SpV 231 W0 l2 y) (hx:IvS k x) (hy:IvS k y) (hk:k≤8589934592):
  Aa0 Tryz.prog 174 [.agg ⟨l1⟩,.agg ⟨l2⟩] W0 M fun v W'=>∃(l:List Value),v = .agg ⟨l⟩∧SpV 231 W' l (Cb5 x y):=by
 obtain⟨s0,b0,t0,s1,b1,t1,rfl,h1,h1'⟩:=h1
 obtain⟨s2,b2,t2,s3,b3,t3,rfl,h2,h2'⟩:=h2
 apply Cs4
 exact At2 h1 h2 hx.1 hy.1 hk hk fun s3 b4 s5 W2 hE2 g1=>⟨s3,b4,s5,rfl,At2 (h1'.ext hE2) (h2'.ext hE2) hx.2 hy.2 hk hk fun s8 b9 s10 W7 hE7 g2=>⟨s8,b9,s10,rfl,fun W11 hE11=>⟨_,rfl,SpV.mk (x:=Cb5 x y) (g1.ext (hE7.trans hE11)) (g2.ext hE11)⟩⟩⟩
theorem Cy0 {W0 W:PW} {M:Nat→Prop} {l1 l2:List Value} {x y:Iv} {k:Nat} {K:Value→PW→Prop} (h1:SpV 231 W l1 x) (h2:SpV 231 W l2 y) (hx:IvS k x) (hy:IvS k y) (hk:k≤8589934592) (kont: ∀(l:List Value) (W':PW),Ext W W'→(SpV 231 W' l (Cb5 x y))→K (.agg ⟨l⟩) W'):
  Aa1 Tryz.prog W0 M 174 [.agg ⟨l1⟩,.agg ⟨l2⟩] W K:=
 Aa2 (fun W' hE=>Dx1 (M:=fun _=>False) (h1.ext hE) (h2.ext hE) hx hy hk) (fun W' v W'' hE hE' hP=>by
  obtain⟨l,rfl,h⟩:=hP
  exact kont l W'' (hE.trans hE') h)
theorem Dy9 {W0:PW} {M:Nat→Prop} {l1 l2:List Value} {x y:Iv} {k:Nat} (h1:SpV 231 W0 l1 x) (h2:SpV 231 W0 l2 y) (hx:IvS k x) (hy:IvS k y) (hk:k≤8589934592):
  Aa0 Tryz.prog 172 [.agg ⟨l1⟩,.agg ⟨l2⟩] W0 M fun v W'=>∃(l:List Value),v = .agg ⟨l⟩∧SpV 231 W' l (Ay9 x y):=by
 obtain⟨s0,b0,t0,s1,b1,t1,rfl,h1,h1'⟩:=h1
 obtain⟨s2,b2,t2,s3,b3,t3,rfl,h2,h2'⟩:=h2
 apply Cy7
 have z1:=hx.1.mul hy.1
 have z2:=hx.2.mul hy.2
 have z3:=hx.1.mul hy.2
 have z4:=hx.2.mul hy.1
 have zm: ∀{a b:Rat},Sz (k+k) a→Sz (k+k) b→IvS (k+k) (Ag0 a b):=fun ha hb=>⟨by rcases Dj0 _ _ with e | e<;>rw[Ag0,e]<;>assumption,by rcases Dj7 _ _ with e | e<;>rw[Ag0,e]<;>assumption⟩
 refine Ak9 h1 h2 hx.1 hy.1 hk hk fun s3 b4 s5 W2 hE2 g1=>⟨s3,b4,s5,rfl,Ak9 (h1'.ext hE2) (h2'.ext hE2) hx.2 hy.2 hk hk fun s8 b9 s10 W7 hE7 g2=>⟨s8,b9,s10,rfl,Ap8 (g1.ext hE7) g2 z1 z2 (by omega) fun l W12 hE12 h12=>h12.out fun s13 b14 s15 s16 b17 s18 h12=>?_⟩⟩
 have hE:=(hE2.trans hE7).trans hE12
 refine Ak9 (h1.ext hE) (h2'.ext hE) hx.1 hy.2 hk hk fun s3 b4 s5 W20 hE20 g1=>⟨s3,b4,s5,rfl,Ak9 (h1'.ext (hE.trans hE20)) (h2.ext (hE.trans hE20)) hx.2 hy.1 hk hk fun s8 b9 s10 W25 hE25 g2=>⟨s8,b9,s10,rfl,Ap8 (g1.ext hE25) g2 z3 z4 (by omega) fun l W30 hE30 h30=>h30.out fun s31 b32 s33 s34 b35 s36 h30=>?_⟩⟩
 exact Cn9 (h12.ext ((hE20.trans hE25).trans hE30)) h30 (zm z1 z2) (zm z3 z4) (by omega) fun l W38 hE38 h38=>h38.out fun s39 b40 s41 s42 b43 s44 h38 W45 hE45=>⟨_,rfl,h38.ext hE45⟩
theorem Cx4 {W0 W:PW} {M:Nat→Prop} {l1 l2:List Value} {x y:Iv} {k:Nat} {K:Value→PW→Prop} (h1:SpV 231 W l1 x) (h2:SpV 231 W l2 y) (hx:IvS k x) (hy:IvS k y) (hk:k≤8589934592) (kont: ∀(l:List Value) (W':PW),Ext W W'→(SpV 231 W' l (Ay9 x y))→K (.agg ⟨l⟩) W'):
  Aa1 Tryz.prog W0 M 172 [.agg ⟨l1⟩,.agg ⟨l2⟩] W K:=
 Aa2 (fun W' hE=>Dy9 (M:=fun _=>False) (h1.ext hE) (h2.ext hE) hx hy hk) (fun W' v W'' hE hE' hP=>by
  obtain⟨l,rfl,h⟩:=hP
  exact kont l W'' (hE.trans hE') h)
theorem Ep4 {W0:PW} {M:Nat→Prop} {s t:Sl} {b:Bool} {r:Rat} (h:Ab3 231 W0 s b t r):
  Aa0 Tryz.prog 92 [.agg ⟨[s.v,.bool b,t.v]⟩] W0 M fun v W'=>∃(l:List Value),v = .agg ⟨l⟩∧SpV 231 W' l (Eb6 r):=by
 apply Dk8
 exact fun W1 hE=>⟨_,rfl,SpV.mk (x:=Eb6 r) (h.ext hE) (h.ext hE)⟩
theorem De4 {W0 W:PW} {M:Nat→Prop} {s t:Sl} {b:Bool} {r:Rat} {K:Value→PW→Prop} (h:Ab3 231 W s b t r) (kont: ∀(l:List Value) (W':PW),Ext W W'→(SpV 231 W' l (Eb6 r))→K (.agg ⟨l⟩) W'):
  Aa1 Tryz.prog W0 M 92 [.agg ⟨[s.v,.bool b,t.v]⟩] W K:=
 Aa2 (fun W' hE=>Ep4 (M:=fun _=>False) (h.ext hE)) (fun W' v W'' hE hE' hP=>by
  obtain⟨l,rfl,h⟩:=hP
  exact kont l W'' (hE.trans hE') h)
theorem Dt0 {W0:PW} {M:Nat→Prop} {l1:List Value} {s t:Sl} {b:Bool} {x:Iv} {r:Rat} {k:Nat} (h1:SpV 231 W0 l1 x) (h2:Ab3 231 W0 s b t r) (hx:IvS k x) (hr:Sz k r) (hk:k≤8589934592):
  Aa0 Tryz.prog 50 [.agg ⟨l1⟩,.agg ⟨[s.v,.bool b,t.v]⟩] W0 M fun v W'=>v = .bool (decide (x.1≤r∧r≤x.2))∧True:=by
 obtain⟨s0,b0,t0,s1,b1,t1,rfl,h1,h1'⟩:=h1
 apply Cu8
 refine Aj2 h1 h2 hx.1 hr (by omega) (by omega) fun W2 hE2 _=>⟨_,rfl,fun h=>Aj2 (h2.ext hE2) (h1'.ext hE2) hr hx.2 (by omega) (by omega) fun W5 hE5 _=>⟨_,rfl,fun W7 hE7=>⟨?_,trivial⟩⟩,fun h W8 hE8=>⟨?_,trivial⟩⟩
 ·have h:=Dn3.1 h
  congr 1
  rw[decide_eq_decide,Dn3]
  exact⟨fun e=>⟨h,e⟩,fun e=>e.2⟩
 ·rw[decide_eq_false fun e=>h (Dn3.2 e.1)]
theorem Cs8 {W0 W:PW} {M:Nat→Prop} {l1:List Value} {s t:Sl} {b:Bool} {x:Iv} {r:Rat} {k:Nat} {K:Value→PW→Prop} (h1:SpV 231 W l1 x) (h2:Ab3 231 W s b t r) (hx:IvS k x) (hr:Sz k r) (hk:k≤8589934592) (kont: ∀(W':PW),Ext W W'→(True)→K (.bool (decide (x.1≤r∧r≤x.2))) W'):
  Aa1 Tryz.prog W0 M 50 [.agg ⟨l1⟩,.agg ⟨[s.v,.bool b,t.v]⟩] W K:=
 Aa2 (fun W' hE=>Dt0 (M:=fun _=>False) (h1.ext hE) (h2.ext hE) hx hr hk) (fun W' v W'' hE hE' hP=>by
  obtain⟨rfl,h⟩:=hP
  exact kont W'' (hE.trans hE') h)
theorem Du0 {W0:PW} {M:Nat→Prop} {l1:List Value} {x:Iv} {n k:Nat} (h1:SpV 231 W0 l1 x) (hx:IvS k x) (hk:k≤1048576) (hn:n≤255):
  Aa0 Tryz.prog 173 [.agg ⟨l1⟩,.int .i64 (n:Int)] W0 M fun v W'=>∃(l:List Value),v = .agg ⟨l⟩∧SpV 231 W' l (Ai3 x n):=by
 obtain⟨s0,b0,t0,s1,b1,t1,rfl,h1,h1'⟩:=h1
 apply Cz8
 have hm:=Nat.mul_le_mul hk hn
 have hmn:mn (mx (n:Int) 0) 255=(n:Int):=by unfold mn mx;(repeat' split)<;>omega
 unfold Da1
 rw[hmn]
 refine Bq4 h1 hx.1 hk hn fun s3 b4 s5 W2 hE2 g1=>⟨s3,b4,s5,rfl,Bq4 (h1'.ext hE2) hx.2 hk hn fun s8 b9 s10 W7 hE7 g2=>⟨s8,b9,s10,rfl,Ap8 (g1.ext hE7) g2 (Sz.Fe7 hx.1 n) (Sz.Fe7 hx.2 n) (by omega) fun l W12 hE12 h12=>h12.out fun s13 b14 s15 s16 b17 s18 h12=>⟨fun hpos=>⟨by omega,fun hev=>?_,fun hod W24 hE24=>⟨_,rfl,?_⟩⟩,fun h0 W25 hE25=>⟨_,rfl,?_⟩⟩⟩⟩
 ·have hev':n%2=0:=by have:=Int.tmod_eq_emod_of_nonneg (a:=(n:Int)) (b:=2) (by omega);omega
  have hE:=(hE2.trans hE7).trans hE12
  refine Cs8 (s:=⟨none,0,0⟩) (b:=false) (t:=⟨none,0,0⟩) (k:=k+1) (SpV.mk (h1.ext hE) (h1'.ext hE)) (Ar9 W12) ⟨hx.1.mono (by omega),hx.2.mono (by omega)⟩ (Sz.zero (by omega)) (by omega) fun W20 hE20 _=>⟨_,rfl,fun hb W22 hE22=>⟨_,rfl,?_⟩,fun hb W23 hE23=>⟨_,rfl,?_⟩⟩
  ·have hb:=of_decide_eq_true hb
   rw[Ai3,if_pos ⟨by omega,hev',hb⟩]
   obtain⟨_,_,_,_,_,_,e,k1,k2⟩:=h12.ext (hE20.trans hE22)
   simp only[List.cons.injEq,Value.bool.injEq,and_true] at e
   obtain⟨e1,e2,e3,e4,e5,e6⟩:=e
   have e4:=Sl.Ck0 e4
   have e6:=Sl.Ck0 e6
   subst e4 e5 e6
   exact⟨⟨none,0,0⟩,false,⟨none,0,0⟩,_,_,_,rfl,Ar9 _,k2⟩
  ·have hb:=of_decide_eq_false hb
   rw[Ai3,if_neg fun e=>hb e.2.2]
   exact h12.ext (hE20.trans hE23)
 ·rw[Ai3,if_neg]
  ·exact h12.ext hE24
  ·intro e
   apply hod
   have:=Int.tmod_eq_emod_of_nonneg (a:=(n:Int)) (b:=2) (by omega)
   have:=e.2.1
   omega
 ·rw[Ai3,if_neg fun e=>h0 (by have:=e.1;omega)]
  exact h12.ext hE25
theorem Co8 {W0 W:PW} {M:Nat→Prop} {l1:List Value} {x:Iv} {n k:Nat} {K:Value→PW→Prop} (h1:SpV 231 W l1 x) (hx:IvS k x) (hk:k≤1048576) (hn:n≤255) (kont: ∀(l:List Value) (W':PW),Ext W W'→(SpV 231 W' l (Ai3 x n))→K (.agg ⟨l⟩) W'):
  Aa1 Tryz.prog W0 M 173 [.agg ⟨l1⟩,.int .i64 (n:Int)] W K:=
 Aa2 (fun W' hE=>Du0 (M:=fun _=>False) (h1.ext hE) hx hk hn) (fun W' v W'' hE hE' hP=>by
  obtain⟨l,rfl,h⟩:=hP
  exact kont l W'' (hE.trans hE') h)
theorem Go7 {W0:PW} {M:Nat→Prop} {l1:List Value} {x:Iv} {k:Nat} (h1:SpV 231 W0 l1 x) (hx:IvS k x) (hk:k≤8589934592):
  Aa0 Tryz.prog 113 [.agg ⟨l1⟩] W0 M fun v W'=>∃(r:Sl),∃(c:Bool),∃(u:Sl),v = .agg ⟨[Sl.v r,.bool c,Sl.v u]⟩∧Ab3 231 W' r c u (x.2-x.1):=by
 obtain⟨s0,b0,t0,s1,b1,t1,rfl,h1,h1'⟩:=h1
 apply Gk0
 exact Gr0 h1' h1 hx.2 hx.1 hk hk fun s3 b4 s5 W2 hE2 g=>⟨s3,b4,s5,rfl,fun W6 hE6=>⟨_,_,_,rfl,g.ext hE6⟩⟩
theorem Gj9 {W0 W:PW} {M:Nat→Prop} {l1:List Value} {x:Iv} {k:Nat} {K:Value→PW→Prop} (h1:SpV 231 W l1 x) (hx:IvS k x) (hk:k≤8589934592) (kont: ∀(r:Sl) (c:Bool) (u:Sl) (W':PW),Ext W W'→(Ab3 231 W' r c u (x.2-x.1))→K (.agg ⟨[Sl.v r,.bool c,Sl.v u]⟩) W'):
  Aa1 Tryz.prog W0 M 113 [.agg ⟨l1⟩] W K:=
 Aa2 (fun W' hE=>Go7 (M:=fun _=>False) (h1.ext hE) hx hk) (fun W' v W'' hE hE' hP=>by
  obtain⟨r,c,u,rfl,h⟩:=hP
  exact kont r c u W'' (hE.trans hE') h)
theorem Dt4 {W0:PW} {M:Nat→Prop} {s t s' t':Sl} {b b':Bool} {p q:Rat} {k:Nat} (h1:Ab3 231 W0 s b t p) (h2:Ab3 231 W0 s' b' t' q) (hp:Sz k p) (hq:Sz k q) (hk:k≤34359738368):
  Aa0 Tryz.prog 196 [.agg ⟨[s.v,.bool b,t.v]⟩,.agg ⟨[s'.v,.bool b',t'.v]⟩] W0 M fun v W'=>∃(l:List Value),v = .tuple ⟨[.agg ⟨l⟩,.bool (decide (p≤q))]⟩∧SpV 231 W' l (if p≤q then(p,q) else(0,0)):=by
 apply Ct1
 refine Aj2 h1 h2 hp hq hk hk fun W2 hE2 _=>⟨_,rfl,fun h W4 hE4=>?_,fun h W5 hE5=>?_⟩
 ·have h:=Al3.1 h
  have h':¬p≤q:=Rat.not_le.2 h
  rw[if_neg h',decide_eq_false h']
  exact⟨_,rfl,SpV.zero W4⟩
 ·have h':p≤q:=Rat.not_lt.1 fun e=>h (Al3.2 e)
  rw[if_pos h',decide_eq_true h']
  exact⟨_,rfl,SpV.mk (x:=(p,q)) (h1.ext (hE2.trans hE5)) (h2.ext (hE2.trans hE5))⟩
theorem Cq7 {W0 W:PW} {M:Nat→Prop} {s t s' t':Sl} {b b':Bool} {p q:Rat} {k:Nat} {K:Value→PW→Prop} (h1:Ab3 231 W s b t p) (h2:Ab3 231 W s' b' t' q) (hp:Sz k p) (hq:Sz k q) (hk:k≤34359738368) (kont: ∀(l:List Value) (W':PW),Ext W W'→(SpV 231 W' l (if p≤q then(p,q) else(0,0)))→K (.tuple ⟨[.agg ⟨l⟩,.bool (decide (p≤q))]⟩) W'):
  Aa1 Tryz.prog W0 M 196 [.agg ⟨[s.v,.bool b,t.v]⟩,.agg ⟨[s'.v,.bool b',t'.v]⟩] W K:=
 Aa2 (fun W' hE=>Dt4 (M:=fun _=>False) (h1.ext hE) (h2.ext hE) hp hq hk) (fun W' v W'' hE hE' hP=>by
  obtain⟨l,rfl,h⟩:=hP
  exact kont l W'' (hE.trans hE') h)
end Go.Proofs.YtokefihiadbkbaaGreatDoor
