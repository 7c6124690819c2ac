/- cinctureref1: MonoVars, PolyDegree, PolyVars, Top. -/
import Derived.Test.YtjkkidjbppphpaaGreatDoorW18
import Derived.Test.YtjkkidjbppphpaaGreatDoorW15
import Derived.Test.YtjkkidjbppphpaaGreatDoorW13
import Derived.Test.YtjkkidjbppphpaaGreatDoorW10
import Derived.Test.YtjkkidjbppphpaaGreatDoorW9
import Derived.Test.YtjkkidjbppphpaaGreatDoorR12
import Derived.Test.YtjkkidjbppphpaaGreatDoorW19
import Derived.Shelf.Spec.TrailingZeros
import Derived.Shelf.SlGeneric
import Derived.Test.YtjkkidjbppphpaaGreatDoorProg
set_option linter.unusedVariables false
set_option linter.unusedSimpArgs false
set_option maxRecDepth 100000
namespace Go.Proofs.YtjkkidjbppphpaaGreatDoor
open Go Go.SX
def mvI (m:Mon) (L:List PL):Prop:=match L with
 | [.val (.int .i64 a),.val (.int .i64 i)]=>∃k:Nat,i=(k:Int)∧k≤3∧a=(if 2<k∧0<m.z then 3 else if 1<k∧0<m.y then 2 else if 0<k∧0<m.x then 1 else 0)
 | _=>False
theorem Gk7 {W0:PW} {M:Nat→Prop} {m:Mon} (hm:m.ok):
  Aa0 Tryz.prog 106 [.agg ⟨[.int .u8 m.x,.int .u8 m.y,.int .u8 m.z]⟩] W0 M fun v W'=>v = .int .i64 (Cx8 m)∧True:=by
 apply Gh2
 refine⟨fun L _=>mvI m L,fun L _=>match L with | [_,.val (.int .i64 i)]=>3-i.toNat | _=>0,⟨0,rfl,by omega,rfl⟩,?_⟩
 rintro i3 i4 W5 ⟨k,rfl,hk,rfl⟩
 refine⟨fun hlt=>?_,fun hge W7 _=>⟨?_,trivial⟩⟩
 ·have hk3:k<3:=by omega
  have hmu:3-Int.toNat ((k:Int)+1)<3-Int.toNat (k:Int):=by omega
  refine⟨⟨by omega,by omega⟩,_,Aw0 m hk3 _ _ _ rfl rfl rfl,fun hp=>⟨by unfold I64;omega,by unfold I64;omega,⟨k+1,by push_cast;rfl,by omega,?_⟩,hmu⟩,fun hp=>⟨by unfold I64;omega,⟨k+1,by push_cast;rfl,by omega,?_⟩,hmu⟩⟩
  all_goals
   rcases(by omega:k=0∨k=1∨k=2) with rfl | rfl | rfl<;>simp[An6] at hp⊢<;>(try simp[hp])<;>(repeat' split)<;>first | rfl | omega
 ·have:k=3:=by omega
  subst this
  congr 1
  unfold Cx8
  (repeat' split)<;>first | rfl | omega
theorem Gh7 {W0 W:PW} {M:Nat→Prop} {m:Mon} {K:Value→PW→Prop} (hm:m.ok) (kont: ∀(W':PW),Ext W W'→(True)→K (.int .i64 (Cx8 m)) W'):
  Aa1 Tryz.prog W0 M 106 [.agg ⟨[.int .u8 m.x,.int .u8 m.y,.int .u8 m.z]⟩] W K:=
 Aa2 (fun W' hE=>Gk7 (M:=fun _=>False) hm) (fun W' v W'' hE hE' hP=>by
  obtain⟨rfl,h⟩:=hP
  exact kont W'' (hE.trans hE') h)
def rdI (w:Mon→Int) (n:Int) (W0:PW) (p:List Tm) (L:List PL) (W:PW):Prop:=match L with
 | [.val (.int .i64 a),.val (.int .i64 k)]=>∃j:Nat,k=(j:Int)∧j≤p.length∧Ext W0 W∧a=Fd0 w n (p.take j)
 | _=>False
theorem Gk8 {W0:PW} {M:Nat→Prop} {s:Sl} {p:List Tm} (h:Ag1 284 170 W0 s p) (hl:p.length≤1099511627776):
  Aa0 Tryz.prog 36 [s.v] W0 M fun v W'=>v = .int .i64 (Fd0 Cx8 0 p)∧True:=by
 apply Gh3
 have hn:=h.n
 refine⟨rdI Cx8 0 W0 p,Fv5 p,⟨0,rfl,by omega,Ext.refl _,rfl⟩,?_⟩
 rintro i3 i4 W5 ⟨j,rfl,hj,hE,rfl⟩
 refine⟨fun hlt=>?_,fun hge W13 _=>⟨?_,trivial⟩⟩
 ·have hjl:j<p.length:=by omega
  have hP:=h.ext hE
  obtain⟨k0,c1,d1,c2,_,e1,_,hr⟩:=hP.at (List.getElem?_eq_getElem hjl)
  have hmu:p.length-Int.toNat ((j:Int)+1)<p.length-Int.toNat (j:Int):=by omega
  exact⟨hP.inB (by omega) (by omega),_,_,_,e1,Gh7 k0 fun W13 hE13 _=>⟨_,rfl,by unfold I64;omega,⟨j+1,by push_cast;rfl,by omega,hE.trans hE13,by rw[Ce0 hjl,Em4]⟩,hmu⟩⟩
 ·have:j=p.length:=by omega
  subst this
  rw[List.take_length]
theorem Gi0 {W0 W:PW} {M:Nat→Prop} {s:Sl} {p:List Tm} {K:Value→PW→Prop} (h:Ag1 284 170 W s p) (hl:p.length≤1099511627776) (kont: ∀(W':PW),Ext W W'→(True)→K (.int .i64 (Fd0 Cx8 0 p)) W'):
  Aa1 Tryz.prog W0 M 36 [s.v] W K:=
 Aa2 (fun W' hE=>Gk8 (M:=fun _=>False) (h.ext hE) hl) (fun W' v W'' hE hE' hP=>by
  obtain⟨rfl,h⟩:=hP
  exact kont W'' (hE.trans hE') h)
end Go.Proofs.YtjkkidjbppphpaaGreatDoor
/- span.Parse, cinctureref1.SpanParse; cincturelaw5.Is, Of. -/
namespace Go.Proofs.YtjkkidjbppphpaaGreatDoor
open Go Go.SX
def spP (a b:ByteArray):Option Iv:=match Ab7 a,Ab7 b with
 | some p,some q=>if p≤q then some (p,q) else none
 | _,_=>none
theorem Dp3 {a b:ByteArray} {x:Iv} (h:spP a b=some x):Ab7 a=some x.1∧Ab7 b=some x.2∧x.1≤x.2:=by
 unfold spP at h
 cases ha:Ab7 a with
 | none=>rw[ha] at h;cases h
 | some p=>
  cases hb:Ab7 b with
  | none=>rw[ha,hb] at h;cases h
  | some q=>
   rw[ha,hb] at h
   dsimp only at h
   split at h
   ·cases h;exact⟨rfl,rfl,by assumption⟩
   ·cases h
theorem Bg2 {α:Type} {o:Option α} :er o=0↔o.isSome=true:=by
 unfold er
 cases o<;>simp
theorem At4 {a:ByteArray} :Sz 4000 ((Ab7 a).getD 0):=by
 cases h:Ab7 a with
 | none=>exact Sz.zero (by omega)
 | some q=>exact(Aw6 h).1
theorem Cq2 {W0:PW} {M:Nat→Prop} {a b:ByteArray} (ha:a.size≤1099511627776) (hb:b.size≤1099511627776):
  Aa0 Tryz.prog 82 [.agg ⟨[.string a,.string b]⟩] W0 M fun v W'=>∃(l:List Value),∃(e:Int),v = .tuple ⟨[.agg ⟨l⟩,.int .i64 e]⟩∧SpV 284 W' l ((spP a b).getD (0,0))∧(e=0↔(spP a b).isSome=true):=by
 apply Bz8
 refine As8 ha fun s3 b4 s5 W2 hE2 h2=>⟨s3,b4,s5,_,rfl,fun hne W7 hE7=>?_,fun heq=>?_⟩
 ·have hn:Ab7 a=none:=by
   cases h:Ab7 a with
   | none=>rfl
   | some q=>exact absurd (Bg2.2 (by rw[h];rfl)) hne
  have hs:spP a b=none:=by unfold spP;rw[hn]
  refine⟨_,_,rfl,by rw[hs];exact SpV.zero W7,?_⟩
  rw[hs,Bg2,hn];simp
 ·have h1:=Bg2.1 (Decidable.not_not.1 heq)
  obtain⟨p,hp⟩:=Option.isSome_iff_exists.1 h1
  refine As8 hb fun s10 b11 s12 W9 hE9 h9=>⟨s10,b11,s12,_,rfl,fun hne W14 hE14=>?_,fun heq2=>?_⟩
  ·have hn:Ab7 b=none:=by
    cases h:Ab7 b with
    | none=>rfl
    | some q=>exact absurd (Bg2.2 (by rw[h];rfl)) hne
   have hs:spP a b=none:=by unfold spP;rw[hp,hn]
   refine⟨_,_,rfl,by rw[hs];exact SpV.zero W14,?_⟩
   rw[hs,Bg2,hn];simp
  ·have h3:=Bg2.1 (Decidable.not_not.1 heq2)
   obtain⟨q,hq⟩:=Option.isSome_iff_exists.1 h3
   have z1:=At4 (a:=a)
   have z2:=At4 (a:=b)
   refine Cq7 (h2.ext hE9) h9 z1 z2 (by omega) fun l W16 hE16 h16=>?_
   rw[hp,hq] at h16⊢
   simp only[Option.getD_some] at h16⊢
   have hs:spP a b=if p≤q then some (p,q) else none:=by unfold spP;rw[hp,hq]
   obtain⟨s17,b18,s19,s20,b21,s22,rfl,k1,k2⟩:=h16
   refine⟨s17,b18,s19,s20,b21,s22,_,rfl,fun hno W24 hE24=>?_,fun hyes W25 hE25=>?_⟩
   ·have hno:¬p≤q:=by simpa using hno
    rw[hs,if_neg hno]
    exact⟨_,_,rfl,SpV.zero W24,by decide⟩
   ·have hyes:p≤q:=by simpa using hyes
    rw[if_pos hyes] at k1 k2
    rw[hs,if_pos hyes]
    exact⟨_,_,rfl,SpV.mk (x:=(p,q)) (k1.ext hE25) (k2.ext hE25),by simp⟩
theorem Az3 {W0 W:PW} {M:Nat→Prop} {a b:ByteArray} {K:Value→PW→Prop} (ha:a.size≤1099511627776) (hb:b.size≤1099511627776) (kont: ∀(l:List Value) (e:Int) (W':PW),Ext W W'→(SpV 284 W' l ((spP a b).getD (0,0))∧(e=0↔(spP a b).isSome=true))→K (.tuple ⟨[.agg ⟨l⟩,.int .i64 e]⟩) W'):
  Aa1 Tryz.prog W0 M 82 [.agg ⟨[.string a,.string b]⟩] W K:=
 Aa2 (fun W' hE=>Cq2 (M:=fun _=>False) ha hb) (fun W' v W'' hE hE' hP=>by
  obtain⟨l,e,rfl,h⟩:=hP
  exact kont l e W'' (hE.trans hE') h)
theorem Bp7 {W0:PW} {M:Nat→Prop} {a b:ByteArray} (ha:a.size≤1099511627776) (hb:b.size≤1099511627776):
  Aa0 Tryz.prog 81 [.agg ⟨[.string a,.string b]⟩] W0 M fun v W'=>∃(l:List Value),∃(e:Int),v = .tuple ⟨[.agg ⟨l⟩,.int .i64 e]⟩∧Ah6 284 W' l ((spP a b).getD (0,0))∧(e=0↔(spP a b).isSome=true):=by
 apply Be5
 refine An7 ha fun b3 s4 s5 W2 hE2 h2=>⟨b3,s4,s5,_,rfl,An7 hb fun b9 s10 s11 W8 hE8 h8=>⟨b9,s10,s11,_,rfl,fun hno W13 hE13=>?_,fun hyes=>⟨fun hno W14 hE14=>?_,fun hyes2=>?_⟩⟩⟩
 ·have hn:Ab7 a=none:=by simpa using hno
  have hs:spP a b=none:=by unfold spP;rw[hn]
  rw[hs]
  exact⟨_,_,rfl,Ah6.zero W13,by decide⟩
 ·have hn:Ab7 b=none:=by simpa using hno
  have hs:spP a b=none:=by unfold spP;cases Ab7 a<;>rw[hn]
  rw[hs]
  exact⟨_,_,rfl,Ah6.zero W14,by decide⟩
 ·obtain⟨p,hp⟩:=Option.isSome_iff_exists.1 (show(Ab7 a).isSome=true by simpa using hyes)
  obtain⟨q,hq⟩:=Option.isSome_iff_exists.1 (show(Ab7 b).isSome=true by simpa using hyes2)
  have z1:=At4 (a:=a)
  have z2:=At4 (a:=b)
  have hs:spP a b=if p≤q then some (p,q) else none:=by unfold spP;rw[hp,hq]
  rw[hp] at h2 z1
  rw[hq] at h8 z2
  simp only[Option.getD_some] at h2 h8 z1 z2
  refine Ar1 (h2.ext hE8) h8 z1 z2 (by omega) (by omega) fun W16 hE16 _=>⟨_,rfl,fun hgt W18 hE18=>?_,fun hle W19 hE19=>?_⟩
  ·have h:¬p≤q:=Rat.not_le.2 (Al3.1 hgt)
   rw[hs,if_neg h]
   exact⟨_,_,rfl,Ah6.zero W18,by decide⟩
  ·have h:p≤q:=Rat.not_lt.1 fun e=>hle (Al3.2 e)
   rw[hs,if_pos h]
   exact⟨_,_,rfl,Ah6.mk (x:=(p,q)) (h2.ext (hE8.trans (hE16.trans hE19))) (h8.ext (hE16.trans hE19)),by simp⟩
theorem Bh8 {W0 W:PW} {M:Nat→Prop} {a b:ByteArray} {K:Value→PW→Prop} (ha:a.size≤1099511627776) (hb:b.size≤1099511627776) (kont: ∀(l:List Value) (e:Int) (W':PW),Ext W W'→(Ah6 284 W' l ((spP a b).getD (0,0))∧(e=0↔(spP a b).isSome=true))→K (.tuple ⟨[.agg ⟨l⟩,.int .i64 e]⟩) W'):
  Aa1 Tryz.prog W0 M 81 [.agg ⟨[.string a,.string b]⟩] W K:=
 Aa2 (fun W' hE=>Bp7 (M:=fun _=>False) ha hb) (fun W' v W'' hE hE' hP=>by
  obtain⟨l,e,rfl,h⟩:=hP
  exact kont l e W'' (hE.trans hE') h)
theorem En6 {W0:PW} {M:Nat→Prop} {l l':List Value} {x:Iv} {k:Nat} (h1:SpV 284 W0 l x) (h2:Ah6 284 W0 l' x) (hx:IvS k x) (hk:k≤100000000):
  Aa0 Tryz.prog 18 [.agg ⟨l⟩,.agg ⟨l'⟩] W0 M fun v W'=>v = .bool true∧True:=by
 obtain⟨s0,b0,t0,s1,b1,t1,rfl,h1,h1'⟩:=h1
 obtain⟨s2,b2,t2,s3,b3,t3,rfl,h2,h2'⟩:=h2
 apply Df9
 exact Bv1 h1 h2 hx.1 hx.1 hk fun W2 hE2 _=>⟨_,rfl,fun _=>Bv1 (h1'.ext hE2) (h2'.ext hE2) hx.2 hx.2 hk fun W5 hE5 _=>⟨_,rfl,fun W7 _=>⟨by rw[decide_eq_true rfl],trivial⟩⟩,fun e=>absurd e (by simp)⟩
theorem Bt3 {W0 W:PW} {M:Nat→Prop} {l l':List Value} {x:Iv} {k:Nat} {K:Value→PW→Prop} (h1:SpV 284 W l x) (h2:Ah6 284 W l' x) (hx:IvS k x) (hk:k≤100000000) (kont: ∀(W':PW),Ext W W'→(True)→K (.bool true) W'):
  Aa1 Tryz.prog W0 M 18 [.agg ⟨l⟩,.agg ⟨l'⟩] W K:=
 Aa2 (fun W' hE=>En6 (M:=fun _=>False) (h1.ext hE) (h2.ext hE) hx hk) (fun W' v W'' hE hE' hP=>by
  obtain⟨rfl,h⟩:=hP
  exact kont W'' (hE.trans hE') h)
theorem Es4 {W0:PW} {M:Nat→Prop} {a b:ByteArray} (ha:a.size≤1099511627776) (hb:b.size≤1099511627776):
  Aa0 Tryz.prog 17 [.agg ⟨[.string a,.string b]⟩] W0 M fun v W'=>∃(l:List Value),∃(l':List Value),∃(ok:Bool),∃(x:Iv),v = .tuple ⟨[.agg ⟨l⟩,.agg ⟨l'⟩,.bool ok]⟩∧SpV 284 W' l x∧Ah6 284 W' l' x∧(ok=true→spP a b=some x∧a.size≤60∧b.size≤60)∧(ok=false→x=(0,0)∧¬((spP a b).isSome=true∧a.size≤60∧b.size≤60)):=by
 apply Dh3
 have bad: ∀(W':PW),¬((spP a b).isSome=true∧a.size≤60∧b.size≤60)→∃(l:List Value) (l':List Value) (ok:Bool) (x:Iv),Value.tuple ⟨[.agg ⟨[.slice none 0 0,.bool false,.slice none 0 0,.slice none 0 0,.bool false,.slice none 0 0]⟩,.agg ⟨[.bool false,.slice none 0 0,.slice none 0 0,.bool false,.slice none 0 0,.slice none 0 0]⟩,.bool false]⟩ = .tuple ⟨[.agg ⟨l⟩,.agg ⟨l'⟩,.bool ok]⟩∧
   SpV 284 W' l x∧Ah6 284 W' l' x∧(ok=true→spP a b=some x∧a.size≤60∧b.size≤60)∧(ok=false→x=(0,0)∧¬((spP a b).isSome=true∧a.size≤60∧b.size≤60)):=
  fun W' hn=>⟨_,_,_,(0,0),rfl,SpV.zero W',Ah6.zero W',fun e=>(by cases e),fun _=>⟨rfl,hn⟩⟩
 refine Bh8 ha hb fun l e W2 hE2 ⟨h2,he⟩=>?_
 obtain⟨b3,s4,s5,b6,s7,s8,rfl,k1,k2⟩:=h2
 refine⟨b3,s4,s5,b6,s7,s8,e,rfl,fun hne W10 _=>bad W10 fun h=>hne (he.2 h.1),fun heq=>⟨fun h60 W11 _=>bad W11 fun h=>by omega,fun h60=>⟨fun h61 W12 _=>bad W12 fun h=>by omega,fun h61=>?_⟩⟩⟩
 obtain⟨x,hx⟩:=Option.isSome_iff_exists.1 (he.1 (Decidable.not_not.1 heq))
 rw[hx] at k1 k2
 refine Az3 ha hb fun l e' W14 hE14 ⟨h14,_⟩=>?_
 rw[hx] at h14
 obtain⟨s15,b16,s17,s18,b19,s20,rfl,q1,q2⟩:=h14
 refine⟨s15,b16,s17,s18,b19,s20,e',rfl,fun W22 hE22=>⟨_,_,_,x,rfl,SpV.mk (q1.ext hE22) (q2.ext hE22),Ah6.mk (k1.ext (hE14.trans hE22)) (k2.ext (hE14.trans hE22)),fun _=>⟨hx,by omega,by omega⟩,fun e=>(by cases e)⟩⟩
theorem Dd8 {W0 W:PW} {M:Nat→Prop} {a b:ByteArray} {K:Value→PW→Prop} (ha:a.size≤1099511627776) (hb:b.size≤1099511627776) (kont: ∀(l:List Value) (l':List Value) (ok:Bool) (x:Iv) (W':PW),Ext W W'→(SpV 284 W' l x∧Ah6 284 W' l' x∧(ok=true→spP a b=some x∧a.size≤60∧b.size≤60)∧(ok=false→x=(0,0)∧¬((spP a b).isSome=true∧a.size≤60∧b.size≤60)))→K (.tuple ⟨[.agg ⟨l⟩,.agg ⟨l'⟩,.bool ok]⟩) W'):
  Aa1 Tryz.prog W0 M 17 [.agg ⟨[.string a,.string b]⟩] W K:=
 Aa2 (fun W' hE=>Es4 (M:=fun _=>False) ha hb) (fun W' v W'' hE hE' hP=>by
  obtain⟨l,l',ok,x,rfl,h⟩:=hP
  exact kont l l' ok x W'' (hE.trans hE') h)
end Go.Proofs.YtjkkidjbppphpaaGreatDoor
/- cinctureref1.Half. -/
namespace Go.Proofs.YtjkkidjbppphpaaGreatDoor
open Go Go.SX
theorem Hr1:Sz 1 ((1:Rat)/2):=by
 have:(1:Rat)/2=mkRat 1 2:=by decide +kernel
 rw[this]
 exact Sz.mk (Nat.le_of_eq Ax0) (Bc6 (by decide)) (by decide)
theorem Hq0 (q:Rat):q*(1/2)=q/2:=by grind
theorem Hm4 {W0:PW} {M:Nat→Prop} {s t:Sl} {b:Bool} {q:Rat} {k:Nat} (h:Ab6 284 W0 b s t q) (hq:Sz k q) (hk:k≤500000000):
  Aa0 Tryz.prog 155 [.agg ⟨[.bool b,s.v,t.v]⟩] W0 M fun v W'=>∃(c:Bool),∃(r:Sl),∃(u:Sl),v = .agg ⟨[.bool c,Sl.v r,Sl.v u]⟩∧Ab6 284 W' c r u (q/2):=by
 apply Hh7
 refine Cj2 (z:=1) (by unfold I64;omega) fun b3 s4 W2 hE2 h2=>⟨b3,s4,rfl,Ae0 (x:=2) (by decide) fun s7 W6 hE6 h6=>⟨s7,rfl,?_⟩⟩
 have hd:((1:Rat)/2).num=1∧((1:Rat)/2).den=2:=by decide +kernel
 have hh:Ab6 284 W6 b3 s4 s7 ((1:Rat)/2):=⟨by rw[hd.1];exact h2.ext hE6,.inl (by rw[hd.2];exact h6)⟩
 exact Am6 (h.ext (hE2.trans hE6)) hh hq Hr1 (by omega) (by omega) fun b10 s11 s12 W9 hE9 h9=>⟨b10,s11,s12,rfl,fun W13 hE13=>⟨_,_,_,rfl,by rw[←Hq0];exact h9.ext hE13⟩⟩
theorem Hi8 {W0 W:PW} {M:Nat→Prop} {s t:Sl} {b:Bool} {q:Rat} {k:Nat} {K:Value→PW→Prop} (h:Ab6 284 W b s t q) (hq:Sz k q) (hk:k≤500000000) (kont: ∀(c:Bool) (r:Sl) (u:Sl) (W':PW),Ext W W'→(Ab6 284 W' c r u (q/2))→K (.agg ⟨[.bool c,Sl.v r,Sl.v u]⟩) W'):
  Aa1 Tryz.prog W0 M 155 [.agg ⟨[.bool b,s.v,t.v]⟩] W K:=
 Aa2 (fun W' hE=>Hm4 (M:=fun _=>False) (h.ext hE) hq hk) (fun W' v W'' hE hE' hP=>by
  obtain⟨c,r,u,rfl,h⟩:=hP
  exact kont c r u W'' (hE.trans hE') h)
end Go.Proofs.YtjkkidjbppphpaaGreatDoor
/- The reference's Mid, SpanSub, Meet, Three, Sides, Natural, Mean; cincturelaw9.told. -/
namespace Go.Proofs.YtjkkidjbppphpaaGreatDoor
open Go Go.SX
theorem Hh3 {W0:PW} {M:Nat→Prop} {l1 l2:List Value} {x y:Iv} {k:Nat} (h1:Ah6 284 W0 l1 x) (h2:Ah6 284 W0 l2 y) (hx:IvS k x) (hy:IvS k y) (hk:k≤500000000):
  Aa0 Tryz.prog 146 [.agg ⟨l1⟩,.agg ⟨l2⟩] W0 M fun v W'=>∃(l:List Value),v = .agg ⟨l⟩∧Ah6 284 W' l (He4 x y):=by
 obtain⟨s0,b0,t0,s1,b1,t1,rfl,h1,h1'⟩:=h1
 obtain⟨s2,b2,t2,s3,b3,t3,rfl,h2,h2'⟩:=h2
 apply Hd9
 exact Hd7 h1 h2' hx.1 hy.2 hk hk fun s3 b4 s5 W2 hE2 g1=>⟨s3,b4,s5,rfl,Hd7 (h1'.ext hE2) (h2.ext hE2) hx.2 hy.1 hk hk fun s8 b9 s10 W7 hE7 g2=>⟨s8,b9,s10,rfl,fun W11 hE11=>⟨_,rfl,Ah6.mk (x:=He4 x y) (g1.ext (hE7.trans hE11)) (g2.ext hE11)⟩⟩⟩
theorem He3 {W0 W:PW} {M:Nat→Prop} {l1 l2:List Value} {x y:Iv} {k:Nat} {K:Value→PW→Prop} (h1:Ah6 284 W l1 x) (h2:Ah6 284 W l2 y) (hx:IvS k x) (hy:IvS k y) (hk:k≤500000000) (kont: ∀(l:List Value) (W':PW),Ext W W'→(Ah6 284 W' l (He4 x y))→K (.agg ⟨l⟩) W'):
  Aa1 Tryz.prog W0 M 146 [.agg ⟨l1⟩,.agg ⟨l2⟩] W K:=
 Aa2 (fun W' hE=>Hh3 (M:=fun _=>False) (h1.ext hE) (h2.ext hE) hx hy hk) (fun W' v W'' hE hE' hP=>by
  obtain⟨l,rfl,h⟩:=hP
  exact kont l W'' (hE.trans hE') h)
theorem Ho9 {W0:PW} {M:Nat→Prop} {l1:List Value} {x:Iv} {k:Nat} (h1:Ah6 284 W0 l1 x) (hx:IvS k x) (hk:k≤1000000):
  Aa0 Tryz.prog 143 [.agg ⟨l1⟩] W0 M fun v W'=>∃(c:Bool),∃(r:Sl),∃(u:Sl),v = .agg ⟨[.bool c,Sl.v r,Sl.v u]⟩∧Ab6 284 W' c r u (Ga6 x):=by
 obtain⟨s0,b0,t0,s1,b1,t1,rfl,h1,h1'⟩:=h1
 apply Hi6
 exact Bj7 h1 h1' hx.1 hx.2 (by omega) (by omega) fun s3 b4 s5 W2 hE2 h2=>⟨s3,b4,s5,rfl,Hi8 h2 (hx.1.add hx.2) (by omega) fun s8 b9 s10 W7 hE7 h7=>⟨s8,b9,s10,rfl,fun W12 hE12=>⟨s8,b9,s10,rfl,h7.ext hE12⟩⟩⟩
theorem Hl6 {W0 W:PW} {M:Nat→Prop} {l1:List Value} {x:Iv} {k:Nat} {K:Value→PW→Prop} (h1:Ah6 284 W l1 x) (hx:IvS k x) (hk:k≤1000000) (kont: ∀(c:Bool) (r:Sl) (u:Sl) (W':PW),Ext W W'→(Ab6 284 W' c r u (Ga6 x))→K (.agg ⟨[.bool c,Sl.v r,Sl.v u]⟩) W'):
  Aa1 Tryz.prog W0 M 143 [.agg ⟨l1⟩] W K:=
 Aa2 (fun W' hE=>Ho9 (M:=fun _=>False) (h1.ext hE) hx hk) (fun W' v W'' hE hE' hP=>by
  obtain⟨c,r,u,rfl,h⟩:=hP
  exact kont c r u W'' (hE.trans hE') h)
theorem Hm0 {W0:PW} {M:Nat→Prop} {l1 l2:List Value} {x y:Iv} {k:Nat} (h1:Ah6 284 W0 l1 x) (h2:Ah6 284 W0 l2 y) (hx:IvS k x) (hy:IvS k y) (hk:k≤500000000):
  Aa0 Tryz.prog 61 [.agg ⟨l1⟩,.agg ⟨l2⟩] W0 M fun v W'=>∃(l:List Value),v = .tuple ⟨[.agg ⟨l⟩,.bool (decide (Au7 x.1 y.1≤Az9 x.2 y.2))]⟩∧Ah6 284 W' l (Au7 x.1 y.1,Az9 x.2 y.2):=by
 obtain⟨s0,b0,t0,s1,b1,t1,rfl,h1,h1'⟩:=h1
 obtain⟨s2,b2,t2,s3,b3,t3,rfl,h2,h2'⟩:=h2
 apply Hg4
 have fin: ∀{p q:Rat} {W W':PW} {c c':Bool} {r u r' u':Sl},p=Au7 x.1 y.1→q=Az9 x.2 y.2→Ab6 284 W c r u p→Ab6 284 W c' r' u' q→Ext W W'→∃l:List Value,(Value.tuple ⟨[.agg ⟨[.bool c,Sl.v r,Sl.v u,.bool c',Sl.v r',Sl.v u']⟩,.bool (decide (Co4 p q≤0))]⟩) = .tuple ⟨[.agg ⟨l⟩,.bool (decide (Au7 x.1 y.1≤Az9 x.2 y.2))]⟩∧Ah6 284 W' l (Au7 x.1 y.1,Az9 x.2 y.2):=fun {p q W W' c c' r u r' u'} e1 e2 g1 g2 hE=>by
  subst e1 e2
  refine⟨_,?_,Ah6.mk (x:=(Au7 x.1 y.1,Az9 x.2 y.2)) (g1.ext hE) (g2.ext hE)⟩
  rw[decide_eq_decide.2 Dn3]
 have mx1:x.1<y.1→Au7 x.1 y.1=y.1:=fun h=>if_pos h
 have mx2:¬x.1<y.1→Au7 x.1 y.1=x.1:=fun h=>if_neg h
 have mn1:y.2<x.2→Az9 x.2 y.2=y.2:=fun h=>if_pos h
 have mn2:¬y.2<x.2→Az9 x.2 y.2=x.2:=fun h=>if_neg h
 refine Ar1 h2 h1 hy.1 hx.1 hk hk fun W2 hE2 _=>⟨_,rfl,fun ha=>?_,fun ha=>?_⟩
 ·have ha:=mx1 (Al3.1 ha)
  refine Ar1 (h2'.ext hE2) (h1'.ext hE2) hy.2 hx.2 hk hk fun W5 hE5 _=>⟨_,rfl,fun hc=>?_,fun hc=>?_⟩
  ·exact Ar1 (h2.ext (hE2.trans hE5)) (h2'.ext (hE2.trans hE5)) hy.1 hy.2 hk hk fun W8 hE8 _=>⟨_,rfl,fun W10 hE10=>fin ha.symm (mn1 (At6.1 hc)).symm (h2.ext (hE2.trans (hE5.trans hE8))) (h2'.ext (hE2.trans (hE5.trans hE8))) hE10⟩
  ·exact Ar1 (h2.ext (hE2.trans hE5)) (h1'.ext (hE2.trans hE5)) hy.1 hx.2 hk hk fun W8 hE8 _=>⟨_,rfl,fun W10 hE10=>fin ha.symm (mn2 fun e=>hc (At6.2 e)).symm (h2.ext (hE2.trans (hE5.trans hE8))) (h1'.ext (hE2.trans (hE5.trans hE8))) hE10⟩
 ·have ha:=mx2 fun e=>ha (Al3.2 e)
  refine Ar1 (h2'.ext hE2) (h1'.ext hE2) hy.2 hx.2 hk hk fun W5 hE5 _=>⟨_,rfl,fun hc=>?_,fun hc=>?_⟩
  ·exact Ar1 (h1.ext (hE2.trans hE5)) (h2'.ext (hE2.trans hE5)) hx.1 hy.2 hk hk fun W8 hE8 _=>⟨_,rfl,fun W10 hE10=>fin ha.symm (mn1 (At6.1 hc)).symm (h1.ext (hE2.trans (hE5.trans hE8))) (h2'.ext (hE2.trans (hE5.trans hE8))) hE10⟩
  ·exact Ar1 (h1.ext (hE2.trans hE5)) (h1'.ext (hE2.trans hE5)) hx.1 hx.2 hk hk fun W8 hE8 _=>⟨_,rfl,fun W10 hE10=>fin ha.symm (mn2 fun e=>hc (At6.2 e)).symm (h1.ext (hE2.trans (hE5.trans hE8))) (h1'.ext (hE2.trans (hE5.trans hE8))) hE10⟩
theorem Hj0 {W0 W:PW} {M:Nat→Prop} {l1 l2:List Value} {x y:Iv} {k:Nat} {K:Value→PW→Prop} (h1:Ah6 284 W l1 x) (h2:Ah6 284 W l2 y) (hx:IvS k x) (hy:IvS k y) (hk:k≤500000000) (kont: ∀(l:List Value) (W':PW),Ext W W'→(Ah6 284 W' l (Au7 x.1 y.1,Az9 x.2 y.2))→K (.tuple ⟨[.agg ⟨l⟩,.bool (decide (Au7 x.1 y.1≤Az9 x.2 y.2))]⟩) W'):
  Aa1 Tryz.prog W0 M 61 [.agg ⟨l1⟩,.agg ⟨l2⟩] W K:=
 Aa2 (fun W' hE=>Hm0 (M:=fun _=>False) (h1.ext hE) (h2.ext hE) hx hy hk) (fun W' v W'' hE hE' hP=>by
  obtain⟨l,rfl,h⟩:=hP
  exact kont l W'' (hE.trans hE') h)
def Hs8 (W0:PW) (bs:List Iv) (L:List PL) (W:PW):Prop:=match L with
 | [.val (.int .i64 i),.cells l]=>∃j:Nat,i=(j:Int)∧j≤bs.length∧j≤3∧Ext W0 W∧Cf1 284 W l (Bm3 (bs.take j))
 | _=>False
theorem Hk2 {W0:PW} {M:Nat→Prop} {sb:Sl} {bs:List Iv} (hb:Fx4 284 W0 sb bs) (hl:bs.length≤1048576):
  Aa0 Tryz.prog 142 [sb.v] W0 M fun v W'=>∃(l:List Value),v = .agg ⟨l⟩∧Cf1 284 W' l (Bm3 bs):=by
 apply Hf3
 have hn:=hb.n
 refine Ak1 (z:=0) (by unfold I64;omega) fun b3 s4 s5 W2 hE2 h2=>⟨b3,s4,s5,rfl,Bd0 h2 fun r W7 hE7 h7=>h7.out fun b8 s9 s10 b11 s12 s13 h7=>?_⟩
 refine Ak1 (z:=0) (by unfold I64;omega) fun b16 s17 s18 W15 hE15 h15=>⟨b16,s17,s18,rfl,Bd0 h15 fun r W20 hE20 h20=>h20.out fun b21 s22 s23 b24 s25 s26 h20=>?_⟩
 refine Ak1 (z:=0) (by unfold I64;omega) fun b29 s30 s31 W28 hE28 h28=>⟨b29,s30,s31,rfl,Bd0 h28 fun r W33 hE33 h33=>h33.out fun b34 s35 s36 b37 s38 s39 h33=>?_⟩
 have E20:=hE28.trans hE33
 have E7:=hE15.trans (hE20.trans E20)
 refine⟨Hs8 W33 bs,cn1 bs.length,⟨0,rfl,Nat.zero_le _,Nat.zero_le _,Ext.refl _,Cf1.mk (h7.ext E7) (h20.ext E20) h33⟩,?_⟩
 rintro b42 s43 s44 b45 s46 s47 b48 s49 s50 b51 s52 s53 b54 s55 s56 b57 s58 s59 i60 W61 ⟨j,rfl,hj,hj3,hE61,hD⟩
 obtain⟨d0,d1,d2⟩:=hD.three
 have E61:=hE2.trans (hE7.trans (E7.trans hE61))
 refine⟨fun hlt=>⟨fun h3=>?_,fun h3 W68 hE68=>⟨_,rfl,(hD.congr (Hl8 (.inr (by omega)))).ext hE68⟩⟩,fun hge W69 hE69=>⟨_,rfl,(hD.congr (Hl8 (.inl (by omega)))).ext hE69⟩⟩
 have hjl:j<bs.length:=by omega
 have hB:=hb.ext E61
 obtain⟨x,⟨b62,s63,s64,b65,s66,s67,rfl,q1,q2⟩,hel⟩:=hB.at hjl
 have hx:=Ah6.mk q1 q2
 have hmu:bs.length-Int.toNat ((j:Int)+1)<bs.length-Int.toNat (j:Int):=by omega
 have hbt:=Hk0 hjl
 refine⟨hB.inB (by omega) (by omega),b62,s63,s64,b65,s66,s67,hel 0 rfl,⟨by omega,by omega⟩,by omega,⟨⟨trivial,fun e=>?_⟩,fun e=>?_⟩,fun e=>?_⟩
 ·have:j=0:=by omega
  subst this
  exact⟨by unfold I64;omega,⟨1,rfl,by omega,by omega,hE61,Cf1.mk (by rw[hbt,if_pos rfl];exact hx) (by rw[hbt,if_neg (by omega)];exact d1) (by rw[hbt,if_neg (by omega)];exact d2)⟩,hmu⟩
 ·have:j=1:=by omega
  subst this
  exact⟨by unfold I64;omega,⟨2,rfl,by omega,by omega,hE61,Cf1.mk (by rw[hbt,if_neg (by omega)];exact d0) (by rw[hbt,if_pos rfl];exact hx) (by rw[hbt,if_neg (by omega)];exact d2)⟩,hmu⟩
 ·have:j=2:=by omega
  subst this
  exact⟨by unfold I64;omega,⟨3,rfl,by omega,by omega,hE61,Cf1.mk (by rw[hbt,if_neg (by omega)];exact d0) (by rw[hbt,if_neg (by omega)];exact d1) (by rw[hbt,if_pos rfl];exact hx)⟩,hmu⟩
theorem Hd2 {W0 W:PW} {M:Nat→Prop} {sb:Sl} {bs:List Iv} {K:Value→PW→Prop} (hb:Fx4 284 W sb bs) (hl:bs.length≤1048576) (kont: ∀(l:List Value) (W':PW),Ext W W'→(Cf1 284 W' l (Bm3 bs))→K (.agg ⟨l⟩) W'):
  Aa1 Tryz.prog W0 M 142 [sb.v] W K:=
 Aa2 (fun W' hE=>Hk2 (M:=fun _=>False) (hb.ext hE) hl) (fun W' v W'' hE hE' hP=>by
  obtain⟨l,rfl,h⟩:=hP
  exact kont l W'' (hE.trans hE') h)
theorem Hl7 {W0:PW} {M:Nat→Prop} {s sb:Sl} {p:List Tm} {bs:List Iv} {k:Nat} (h:Ag1 284 170 W0 s p) (hb:Fx4 284 W0 sb bs) (hk: ∀x∈bs,IvS k x) (hk2:k≤1048576) (hl:bs.length≤1048576) (hp:p.length≤1099511627776):
  Aa0 Tryz.prog 63 [s.v,sb.v] W0 M fun v W'=>v = .bool (decide (An3 p bs))∧True:=by
 apply Hf4
 have hn:=hb.n
 refine He1 hb hk hk2 hl fun W2 hE2 _=>⟨_,rfl,fun hr=>Gi0 (h.ext hE2) hp fun W5 hE5 _=>⟨_,rfl,fun W7 _=>⟨?_,trivial⟩⟩,fun hr W8 _=>⟨?_,trivial⟩⟩
 ·have hr:=of_decide_eq_true hr
  congr 1
  rw[decide_eq_decide,hn]
  exact⟨fun e=>⟨hr,e⟩,fun e=>e.2⟩
 ·have hr:=of_decide_eq_false hr
  rw[decide_eq_false (p:=An3 p bs) fun e=>hr e.1]
theorem Hc7 {W0 W:PW} {M:Nat→Prop} {s sb:Sl} {p:List Tm} {bs:List Iv} {k:Nat} {K:Value→PW→Prop} (h:Ag1 284 170 W s p) (hb:Fx4 284 W sb bs) (hk: ∀x∈bs,IvS k x) (hk2:k≤1048576) (hl:bs.length≤1048576) (hp:p.length≤1099511627776) (kont: ∀(W':PW),Ext W W'→(True)→K (.bool (decide (An3 p bs))) W'):
  Aa1 Tryz.prog W0 M 63 [s.v,sb.v] W K:=
 Aa2 (fun W' hE=>Hl7 (M:=fun _=>False) (h.ext hE) (hb.ext hE) hk hk2 hl hp) (fun W' v W'' hE hE' hP=>by
  obtain⟨rfl,h⟩:=hP
  exact kont W'' (hE.trans hE') h)
theorem Hh8 {W0:PW} {M:Nat→Prop} {s sb:Sl} {p:List Tm} {bs:List Iv} {k m:Nat} (h:Ag1 284 170 W0 s p) (hb:Fx4 284 W0 sb bs) (hz:BxN k m p bs):
  Aa0 Tryz.prog 58 [s.v,sb.v] W0 M fun v W'=>∃(l:List Value),v = .tuple ⟨[.agg ⟨l⟩,.bool (decide (An3 p bs))]⟩∧Ah6 284 W' l (if An3 p bs then Aq8 (Bm3 bs) p else(0,0)):=by
 apply He2
 have z1:=hz.m1
 have z2:=hz.len
 have z3:=hz.k1
 have z4:=hz.bl
 refine Hc7 h hb hz.sd (by omega) (by omega) (by omega) fun W2 hE2 _=>⟨_,rfl,fun hno W4 hE4=>?_,fun hyes=>?_⟩
 ·have hno:¬An3 p bs:=by simpa using hno
  rw[if_neg hno,decide_eq_false hno]
  exact⟨_,rfl,Ah6.zero W4⟩
 ·have hyes:An3 p bs:=by simpa using hyes
  rw[if_pos hyes,decide_eq_true hyes]
  refine Hd2 (hb.ext hE2) (by omega) fun l W6 hE6 hd=>?_
  obtain⟨s7,b8,s9,s10,b11,s12,s13,b14,s15,s16,b17,s18,s19,b20,s21,s22,b23,s24,rfl,hd'⟩:=id hd
  refine⟨s7,b8,s9,s10,b11,s12,s13,b14,s15,s16,b17,s18,s19,b20,s21,s22,b23,s24,rfl,?_⟩
  exact Cs3 (h.ext (hE2.trans hE6)) hd hz.bd hz.side (Ey5 fun x hx=>Rat.le_of_lt (hyes.1.2 x hx)) (Cl1 hz.ok) (Nat.le_refl 255) (by omega) (by omega) (by omega) fun r W26 hE26 h26=>h26.out fun s27 b28 s29 s30 b31 s32 h26 W33 hE33=>⟨_,rfl,h26.ext hE33⟩
theorem He5 {W0 W:PW} {M:Nat→Prop} {s sb:Sl} {p:List Tm} {bs:List Iv} {k m:Nat} {K:Value→PW→Prop} (h:Ag1 284 170 W s p) (hb:Fx4 284 W sb bs) (hz:BxN k m p bs) (kont: ∀(l:List Value) (W':PW),Ext W W'→(Ah6 284 W' l (if An3 p bs then Aq8 (Bm3 bs) p else(0,0)))→K (.tuple ⟨[.agg ⟨l⟩,.bool (decide (An3 p bs))]⟩) W'):
  Aa1 Tryz.prog W0 M 58 [s.v,sb.v] W K:=
 Aa2 (fun W' hE=>Hh8 (M:=fun _=>False) (h.ext hE) (hb.ext hE) hz) (fun W' v W'' hE hE' hP=>by
  obtain⟨l,rfl,h⟩:=hP
  exact kont l W'' (hE.trans hE') h)
def Hs9 (W0:PW) (bs:List Iv) (L:List PL) (W:PW):Prop:=match L with
 | [.val (.int .i64 i),.cells l]=>∃j:Nat,i=(j:Int)∧j≤bs.length∧Ext W0 W∧Ho6 284 W l (fun k=>Ga6 (Bm3 (bs.take j) k))
 | _=>False
def Ht0 (W0:PW) (p:List Tm) (bs:List Iv) (L:List PL) (W:PW):Prop:=match L with
 | [.val (.int .i64 i),.cells l]=>∃j:Nat,i=(j:Int)∧j≤bs.length∧Ext W0 W∧Ah6 284 W l (Hc0 p bs j)
 | _=>False
theorem Hm1 {W0:PW} {M:Nat→Prop} {s sb:Sl} {p:List Tm} {bs:List Iv} {k m:Nat} (h:Ag1 284 170 W0 s p) (hb:Fx4 284 W0 sb bs) (hz:BxB k m p bs):
  Aa0 Tryz.prog 59 [s.v,sb.v] W0 M fun v W'=>∃(l:List Value),v = .tuple ⟨[.agg ⟨l⟩,.bool (decide (An3 p bs))]⟩∧Ah6 284 W' l (if An3 p bs then Hc0 p bs bs.length else(0,0)):=by
 apply Hg9
 have z1:=hz.n.m1
 have z2:=hz.len
 have z3:=hz.k1
 have z4:=hz.bl
 have hn:=hb.n
 refine Hc7 h hb hz.n.sd (by omega) (by omega) (by omega) fun W2 hE2 _=>⟨_,rfl,fun hno W4 hE4=>?_,fun hyes=>?_⟩
 ·have hno:¬An3 p bs:=by simpa using hno
  rw[if_neg hno,decide_eq_false hno]
  exact⟨_,rfl,Ah6.zero W4⟩
 have hyes:An3 p bs:=by simpa using hyes
 rw[if_pos hyes,decide_eq_true hyes]
 have hb3:=hyes.1.1.2
 have hord:=Ey5 fun x hx=>Rat.le_of_lt (hyes.1.2 x hx)
 have zero:Ga6 (0,0)=((0:Int):Rat):=by decide +kernel
 refine Ak1 (z:=0) (by unfold I64;omega) fun b7 s8 s9 W6 hE6 h6=>⟨b7,s8,s9,rfl,?_⟩
 refine Ak1 (z:=0) (by unfold I64;omega) fun b12 s13 s14 W11 hE11 h11=>⟨b12,s13,s14,rfl,?_⟩
 refine Ak1 (z:=0) (by unfold I64;omega) fun b17 s18 s19 W16 hE16 h16=>⟨b17,s18,s19,rfl,?_⟩
 have E16:=hE2.trans (hE6.trans (hE11.trans hE16))
 refine⟨Hs9 W16 bs,cn1 bs.length,⟨0,rfl,Nat.zero_le _,Ext.refl _,Ho6.mk (by show Ab6 _ _ _ _ _ (Ga6 (0,0));rw[zero];exact h6.ext (hE11.trans hE16)) (by show Ab6 _ _ _ _ _ (Ga6 (0,0));rw[zero];exact h11.ext hE16) (by show Ab6 _ _ _ _ _ (Ga6 (0,0));rw[zero];exact h16)⟩,?_⟩
 rintro b22 s23 s24 b25 s26 s27 b28 s29 s30 i31 W32 ⟨j,rfl,hj,hE32,hN⟩
 obtain⟨n0,n1,n2⟩:=hN.three
 have E32:=E16.trans hE32
 refine⟨fun hlt=>?_,fun hge=>?_⟩
 ·have hjl:j<bs.length:=by omega
  have hB:=hb.ext E32
  obtain⟨x,⟨b33,s34,s35,b36,s37,s38,rfl,q1,q2⟩,hel⟩:=hB.at hjl
  have hmu:bs.length-Int.toNat ((j:Int)+1)<bs.length-Int.toNat (j:Int):=by omega
  have hbt:=Hk0 hjl
  refine⟨hB.inB (by omega) (by omega),b33,s34,s35,b36,s37,s38,hel 0 rfl,?_⟩
  refine Hl6 (Ah6.mk q1 q2) (hz.n.sd _ (List.getElem_mem hjl)) (by omega) fun b41 s42 s43 W40 hE40 h40=>⟨b41,s42,s43,rfl,⟨by omega,by omega⟩,by omega,⟨⟨trivial,fun e=>?_⟩,fun e=>?_⟩,fun e=>?_⟩
  ·have:j=0:=by omega
   subst this
   exact⟨by unfold I64;omega,⟨1,rfl,by omega,hE32.trans hE40,Ho6.mk (by rw[hbt,if_pos rfl];exact h40) (by rw[hbt,if_neg (by omega)];exact n1.ext hE40) (by rw[hbt,if_neg (by omega)];exact n2.ext hE40)⟩,hmu⟩
  ·have:j=1:=by omega
   subst this
   exact⟨by unfold I64;omega,⟨2,rfl,by omega,hE32.trans hE40,Ho6.mk (by rw[hbt,if_neg (by omega)];exact n0.ext hE40) (by rw[hbt,if_pos rfl];exact h40) (by rw[hbt,if_neg (by omega)];exact n2.ext hE40)⟩,hmu⟩
  ·have:j=2:=by omega
   subst this
   exact⟨by unfold I64;omega,⟨3,rfl,by omega,hE32.trans hE40,Ho6.mk (by rw[hbt,if_neg (by omega)];exact n0.ext hE40) (by rw[hbt,if_neg (by omega)];exact n1.ext hE40) (by rw[hbt,if_pos rfl];exact h40)⟩,hmu⟩
 have:j=bs.length:=by omega
 subst this
 rw[List.take_length] at hN n0 n1 n2
 refine Hn7 (u:=Hb9 bs) (l:=404) (h.ext E32) n0 n1 n2 hz.n.bd.sz (Hc8 hz) (by omega) (Nat.le_trans (Hh1 z2 z3) (by omega)) (by omega) fun b46 s47 s48 W45 hE45 h45=>⟨b46,s47,s48,rfl,?_⟩
 refine Bd0 h45 fun r W50 hE50 h50=>h50.out fun b51 s52 s53 b54 s55 s56 h50=>?_
 refine⟨Ht0 W50 p bs,cn1 bs.length,⟨0,rfl,Nat.zero_le _,Ext.refl _,h50⟩,?_⟩
 rintro b59 s60 s61 b62 s63 s64 i65 W66 ⟨j,rfl,hj,hE66,hS⟩
 refine⟨fun hlt=>?_,fun hge W113 hE113=>⟨_,rfl,?_⟩⟩
 ·have hjl:j<bs.length:=by omega
  have E66:=E32.trans (hE45.trans (hE50.trans hE66))
  have hB:=hb.ext E66
  obtain⟨x,⟨s41,b42,s43,s44,b45,s46,rfl,q1,q2⟩,hel⟩:=hB.at hjl
  obtain⟨s78,b79,s80,hbx,hq⟩:=hN.box (j:=j) (by omega)
  refine⟨hB.inB (by omega) (by omega),s41,b42,s43,s44,b45,s46,hel 0 rfl,⟨by omega,by omega⟩,s78,b79,s80,hbx,?_⟩
  refine Hj4 (i:=(j:Int)) (h.ext E66) hz.n.bd (by omega) (by omega) fun s49 W48 hE48 h48=>⟨s49,rfl,hE48,?_⟩
  refine Hd2 (hb.ext (E66.trans hE48)) (by omega) fun l W51 hE51 hd=>?_
  obtain⟨s52,b53,s54,s55,b56,s57,s58,b59,s60,s61,b62,s63,s64,b65,s66,s67,b68,s69,rfl,hd'⟩:=id hd
  refine⟨s52,b53,s54,s55,b56,s57,s58,b59,s60,s61,b62,s63,s64,b65,s66,s67,b68,s69,rfl,hE51,?_⟩
  have hdl:=Hj1 p (j:Int)
  refine Cs3 (h48.ext hE51) hd (Hg1 hz.n.bd hz.n.ok j) hz.n.side hord (Cl1 (Hh5 hz.n.ok j)) (Nat.le_refl 255) (by omega) (by omega) (by omega) fun r W71 hE71 h71=>h71.out fun s72 b73 s74 s75 b76 s77 h71=>⟨hE71,?_⟩
  have E71:=hE48.trans (hE51.trans hE71)
  have zm:=Hc8 hz j
  rw[Hd5 bs (by omega)] at zm
  refine Bd0 (hq.ext (hE45.trans (hE50.trans (hE66.trans E71)))) fun l W82 hE82 h82=>h82.out fun s83 b84 s85 s86 b87 s88 h82=>⟨hE82,?_⟩
  have zs:=(hz.n.side j).sz
  have hbj:=Fi1 hjl
  refine He3 (x:=Bm3 bs j) (k:=404) (hbj ▸ Ah6.mk (q1.ext (E71.trans hE82)) (q2.ext (E71.trans hE82))) h82 ⟨zs.1.mono (by omega),zs.2.mono (by omega)⟩ ⟨zm,zm⟩ (by omega) fun l W90 hE90 h90=>h90.out fun s91 b92 s93 s94 b95 s96 h90=>?_
  rw[←Hd5 bs (i:=j) (by omega)] at h90
  have zo:=(hz.Hp1 (j:Int)).sz
  have zd:=((hz.Hr8 j j).mono (show 2000≤460000 by omega)).sz
  refine Bt1 (h71.ext (hE82.trans hE90)) h90 zo zd (by omega) fun l W98 hE98 h98=>h98.out fun s99 b100 s101 s102 b103 s104 h98=>?_
  have ze:=((hz.Hp1 (j:Int)).mul (hz.Hr8 j j)).sz
  have zn:=((hz.Hs1 j).mono (show _≤67000000 by omega)).sz
  refine Bp3 (k:=67000000) (hS.ext (E71.trans (hE82.trans (hE90.trans hE98)))) h98 zn ⟨ze.1.mono (by omega),ze.2.mono (by omega)⟩ (by omega) fun l W106 hE106 h106=>h106.out fun s107 b108 s109 s110 b111 s112 h106=>⟨by unfold I64;omega,⟨j+1,by push_cast;rfl,by omega,hE66.trans (E71.trans (hE82.trans (hE90.trans (hE98.trans hE106)))),?_⟩,?_⟩
  ·exact h106
  ·show bs.length-Int.toNat ((j:Int)+1)<bs.length-Int.toNat (j:Int)
   omega
 ·have:j=bs.length:=by omega
  subst this
  exact hS.ext hE113
theorem Hi7 {W0 W:PW} {M:Nat→Prop} {s sb:Sl} {p:List Tm} {bs:List Iv} {k m:Nat} {K:Value→PW→Prop} (h:Ag1 284 170 W s p) (hb:Fx4 284 W sb bs) (hz:BxB k m p bs) (kont: ∀(l:List Value) (W':PW),Ext W W'→(Ah6 284 W' l (if An3 p bs then Hc0 p bs bs.length else(0,0)))→K (.tuple ⟨[.agg ⟨l⟩,.bool (decide (An3 p bs))]⟩) W'):
  Aa1 Tryz.prog W0 M 59 [s.v,sb.v] W K:=
 Aa2 (fun W' hE=>Hm1 (M:=fun _=>False) (h.ext hE) (hb.ext hE) hz) (fun W' v W'' hE hE' hP=>by
  obtain⟨l,rfl,h⟩:=hP
  exact kont l W'' (hE.trans hE') h)
theorem Hk5 {W0:PW} {M:Nat→Prop} {l l':List Value} {x:Iv} {ok:Bool} {k:Nat} (h1:SpV 284 W0 l x) (h2:Ah6 284 W0 l' x) (hx:IvS k x) (hk:k≤100000000) (h0:ok=false→x=(0,0)):
  Aa0 Tryz.prog 64 [.agg ⟨l⟩,.bool ok,.agg ⟨l'⟩,.bool ok] W0 M fun v W'=>v = .bool true∧True:=by
 obtain⟨s0,b0,t0,s1,b1,t1,rfl,h1,h1'⟩:=h1
 obtain⟨c0,u0,v0,c1,u1,v1,rfl,h2,h2'⟩:=h2
 apply Hg8
 refine⟨fun _=>⟨fun hy=>Bt3 (SpV.mk h1 h1') (Ah6.mk h2 h2') hx hk fun W2 hE2 _=>⟨true,rfl,fun _ W4 _=>⟨rfl,trivial⟩,fun e=>by cases e⟩,fun hn=>⟨fun _=>?_,fun e=>by rw[hn] at e;cases e⟩⟩,fun e=>absurd rfl e⟩
 have e:=h0 hn
 subst e
 exact Bt3 (SpV.mk h1 h1') (Ah6.zero W0) hx hk fun W2 hE2 _=>⟨true,rfl,fun W4 _=>⟨rfl,trivial⟩⟩
theorem Hc5 {W0 W:PW} {M:Nat→Prop} {l l':List Value} {x:Iv} {ok:Bool} {k:Nat} {K:Value→PW→Prop} (h1:SpV 284 W l x) (h2:Ah6 284 W l' x) (hx:IvS k x) (hk:k≤100000000) (h0:ok=false→x=(0,0)) (kont: ∀(W':PW),Ext W W'→(True)→K (.bool true) W'):
  Aa1 Tryz.prog W0 M 64 [.agg ⟨l⟩,.bool ok,.agg ⟨l'⟩,.bool ok] W K:=
 Aa2 (fun W' hE=>Hk5 (M:=fun _=>False) (h1.ext hE) (h2.ext hE) hx hk h0) (fun W' v W'' hE hE' hP=>by
  obtain⟨rfl,h⟩:=hP
  exact kont W'' (hE.trans hE') h)
end Go.Proofs.YtjkkidjbppphpaaGreatDoor
/- Layings of the library's generic functions, as the kit's command says them. -/
namespace Go.Proofs.YtjkkidjbppphpaaGreatDoor
open Go Go.Shelf Go.Proofs
def Dm9:Go.Shelf.Ren:=⟨fun | 28=>260 | n=>n,fun | 27=>284 | 3=>3 | 4=>4 | 25=>121 | 53=>347 | 0=>0 | 5=>5 | n=>n,fun | 0=>1 | n=>n⟩
theorem Ff9:Go.Proofs.Lays7.n28 Tryz.prog Dm9 where
 mixed:=by kernel_rfl
 f28:=Tryz.func260.trans (congrArg some (by kernel_rfl))
 t0:=Tryz.underlying0
 a0:=Tryz.isAgg0
 z0:=Tryz.sizeOf0
 v0:=Tryz.zeroValue0
 i0:=by kernel_rfl
 t3:=Tryz.underlying3
 a3:=Tryz.isAgg3
 z3:=Tryz.sizeOf3
 v3:=Tryz.zeroValue3
 i3:=by kernel_rfl
 t4:=Tryz.underlying4
 a4:=Tryz.isAgg4
 z4:=Tryz.sizeOf4
 v4:=Tryz.zeroValue4
 i4:=by kernel_rfl
 t5:=Tryz.underlying5
 a5:=Tryz.isAgg5
 z5:=Tryz.sizeOf5
 v5:=Tryz.zeroValue5
 i5:=by kernel_rfl
 t25:=Tryz.underlying121
 a25:=Tryz.isAgg121
 z25:=Tryz.sizeOf121
 v25:=Tryz.zeroValue121
 i25:=by kernel_rfl
 t27:=Tryz.underlying284
 a27:=Tryz.isAgg284
 z27:=Tryz.sizeOf284
 v27:=Tryz.zeroValue284
 i27:=by kernel_rfl
 t53:=Tryz.underlying347
 a53:=Tryz.isAgg347
 z53:=Tryz.sizeOf347
 v53:=Tryz.zeroValue347
 i53:=by kernel_rfl
 g0:=by kernel_rfl
end Go.Proofs.YtjkkidjbppphpaaGreatDoor
