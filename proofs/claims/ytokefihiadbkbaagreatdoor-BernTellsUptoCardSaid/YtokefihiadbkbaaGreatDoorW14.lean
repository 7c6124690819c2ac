/- box.Parse; the reference's; cincturelaw6.Of. -/
import Derived.Test.YtokefihiadbkbaaGreatDoorW13
import Derived.Test.YtokefihiadbkbaaGreatDoorLib4
import Derived.Test.YtokefihiadbkbaaGreatDoorW10
import Derived.Test.YtokefihiadbkbaaGreatDoorW8
import Derived.Test.YtokefihiadbkbaaGreatDoorW7
import Derived.Test.YtokefihiadbkbaaGreatDoorW11
import Derived.Test.YtokefihiadbkbaaGreatDoorW6
import Derived.Test.YtokefihiadbkbaaGreatDoorR20
import Derived.Test.YtokefihiadbkbaaGreatDoorW12
set_option linter.unusedVariables false
set_option linter.unusedSimpArgs false
set_option maxRecDepth 100000
namespace Go.Proofs.YtokefihiadbkbaaGreatDoor
open Go Go.SX
theorem Fi3 {a b:ByteArray} :IvS 4000 ((spP a b).getD (0,0)):=by
 cases e:spP a b with
 | none=>exact⟨Sz.zero (by omega),Sz.zero (by omega)⟩
 | some x=>
  obtain⟨p1,p2,p3⟩:=Dp3 e
  exact⟨(Aw6 p1).1,(Aw6 p2).1⟩
theorem Eb3 {W0:PW} {M:Nat→Prop} {a b:ByteArray} (hT:Ac6 W0) (ha:a.size≤1099511627776) (hb:b.size≤1099511627776):
  Aa0 Tryz.prog 122 [.agg ⟨[.string a,.string b]⟩] W0 M fun v W'=>∃(l:List Value),∃(i:Int),∃(x:Iv),v = .tuple ⟨[.agg ⟨l⟩,.int .i64 i]⟩∧SpV 231 W' l x∧(i=0→spP a b=some x∧x.1<x.2)∧(∀y,spP a b=some y→y.1<y.2→y.1.den=1→y.2.den=1→i=0):=by
 apply Cq0
 refine Az3 ha hb fun l e W2 hE2 ⟨h2,he⟩=>?_
 obtain⟨s3,b4,s5,s6,b7,s8,rfl,q1,q2⟩:=h2
 have hz:=@Fi3 a b
 refine⟨s3,b4,s5,s6,b7,s8,e,rfl,?_⟩
 refine Bx3 (hT.ext hE2) q1 hz.1 fun s12 b13 i14 b15 W11 hE11 ok1=>⟨s12,b13,i14,b15,rfl,?_⟩
 refine Bx3 (hT.ext (hE2.trans hE11)) (q2.ext hE11) hz.2 fun s18 b19 i20 b21 W17 hE17 ok2=>⟨s18,b19,i20,b21,rfl,fun hne W22 _=>⟨_,e,(0,0),rfl,SpV.zero W22,fun h=>absurd h hne,fun y hy _ _ _=>absurd (he.2 (by rw[hy];rfl)) hne⟩,fun h0=>?_⟩
 have E:=hE11.trans hE17
 refine Aj2 (q1.ext E) (q2.ext E) hz.1 hz.2 (by omega) (by omega) fun W24 hE24 _=>⟨_,rfl,fun hc W26 _=>⟨_,1,(0,0),rfl,SpV.zero W26,fun h=>by omega,fun y hy hlt _ _=>by rw[hy] at hc;exact absurd (El9.1 hc) (Rat.not_le.2 hlt)⟩,fun hc=>⟨fun h1 W27 _=>⟨_,2,(0,0),rfl,SpV.zero W27,fun h=>by omega,fun y hy _ d1 _=>by rw[hy] at ok1;rw[ok1 d1] at h1;exact absurd h1 (by decide)⟩,fun _=>⟨fun h2 W28 _=>⟨_,2,(0,0),rfl,SpV.zero W28,fun h=>by omega,fun y hy _ _ d2=>by rw[hy] at ok2;rw[ok2 d2] at h2;exact absurd h2 (by decide)⟩,fun _ W29 hE29=>?_⟩⟩⟩
 obtain⟨x,hx⟩:=Option.isSome_iff_exists.1 (he.1 (Decidable.not_not.1 h0))
 rw[hx] at q1 q2 hc
 have hc:¬0≤Co4 x.1 x.2:=hc
 have E2:=E.trans (hE24.trans hE29)
 exact⟨_,0,x,rfl,⟨s3,b4,s5,s6,b7,s8,rfl,q1.ext E2,q2.ext E2⟩,fun _=>⟨hx,At6.1 (by omega)⟩,fun _ _ _ _ _=>rfl⟩
theorem Cq6 {W0 W:PW} {M:Nat→Prop} {a b:ByteArray} {K:Value→PW→Prop} (hT:Ac6 W) (ha:a.size≤1099511627776) (hb:b.size≤1099511627776) (kont: ∀(l:List Value) (i:Int) (x:Iv) (W':PW),Ext W W'→(SpV 231 W' l x∧(i=0→spP a b=some x∧x.1<x.2)∧(∀y,spP a b=some y→y.1<y.2→y.1.den=1→y.2.den=1→i=0))→K (.tuple ⟨[.agg ⟨l⟩,.int .i64 i]⟩) W'):
  Aa1 Tryz.prog W0 M 122 [.agg ⟨[.string a,.string b]⟩] W K:=
 Aa2 (fun W' hE=>Eb3 (M:=fun _=>False) (hT.ext hE) ha hb) (fun W' v W'' hE hE' hP=>by
  obtain⟨l,i,x,rfl,h⟩:=hP
  exact kont l i x W'' (hE.trans hE') h)
def bxI (W0:PW) (Lt:List (ByteArray×ByteArray)) (L:List PL) (W:PW):Prop:=match L with
 | [.row l,.val (.int .i64 z)]=>∃(j:Nat) (m:List Iv),z=(j:Int)∧j≤Lt.length∧Ext W0 W∧m.length=j∧An5 (SpV 231 W) l m∧(∀i (hi:i<m.length) (hi':i<Lt.length),spP Lt[i].1 Lt[i].2=some m[i])∧∀x∈m,x.1<x.2
 | _=>False
def cnD (n:Nat) (L:List PL) (_:PW):Nat:=match L with
 | [_,.val (.int .i64 z)]=>n-z.toNat
 | _=>0
theorem Bs7.ext {W W':PW} {s:Sl} {L:List (ByteArray×ByteArray)} (h:Bs7 W s L) (hE:Ext W W'):Bs7 W' s L:=let⟨ty,h⟩:=h;⟨ty,h.ext hE⟩
theorem Bs7.n {W:PW} {s:Sl} {L:List (ByteArray×ByteArray)} (h:Bs7 W s L):s.n=L.length:=let⟨ty,h⟩:=h;by have:=h.1;rwa [List.length_map] at this
theorem Bs7.inB {W:PW} {s:Sl} {L:List (ByteArray×ByteArray)} (h:Bs7 W s L) {i:Int} (h0:0≤i) (h1:i<(L.length:Int)):SX.inB s i:=let⟨ty,h⟩:=h;Row.inB h h0 (by rw[List.length_map];exact h1)
theorem Bs7.part {W:PW} {s:Sl} {L:List (ByteArray×ByteArray)} (h:Bs7 W s L) {i:Nat} (hi:i<L.length) (off:Nat) {m:List Value} (hm:((prc L[i]).drop off).take m.length=m):Aa7 W s 2 i off m:=let⟨ty,h⟩:=h;Row.part h (x:=prc L[i]) (by rw[List.getElem?_map,List.getElem?_eq_getElem hi];rfl) off hm
theorem Fc1 {m:List Iv} {x:Iv} {Lt:List (ByteArray×ByteArray)} (h: ∀i (hi:i<m.length) (hi':i<Lt.length),spP Lt[i].1 Lt[i].2=some m[i]) (hl:m.length<Lt.length) (hx:spP Lt[m.length].1 Lt[m.length].2=some x): ∀i (hi:i<(m ++ [x]).length) (hi':i<Lt.length),spP Lt[i].1 Lt[i].2=some (m ++ [x])[i]:=fun i hi hi'=>by
 by_cases e:i<m.length
 ·rw[List.getElem_append_left e]
  exact h i e hi'
 ·have:i=m.length:=by simp at hi;omega
  subst this
  rw[List.getElem_concat_length rfl]
  exact hx
def Br9 (Lt:List (ByteArray×ByteArray)):Prop:=1≤Lt.length∧Lt.length≤3∧∀t∈Lt,∃y,spP t.1 t.2=some y∧y.1<y.2∧y.1.den=1∧y.2.den=1
theorem Dd2 {W0:PW} {M:Nat→Prop} {s:Sl} {Lt:List (ByteArray×ByteArray)} (hT:Ac6 W0) (h:Bs7 W0 s Lt) (hl:Lt.length≤1099511627776) (hz: ∀t∈Lt,t.1.size≤1099511627776∧t.2.size≤1099511627776):
  Aa0 Tryz.prog 55 [s.v] W0 M fun v W'=>∃(s':Sl),∃(i:Int),∃(bs:List Iv),v = .tuple ⟨[Sl.v s',.int .i64 i]⟩∧Bc3 231 W' s' bs∧(i=0→Cn7 bs∧bs.length=Lt.length∧∀i (hi:i<bs.length) (hi':i<Lt.length),spP Lt[i].1 Lt[i].2=some bs[i])∧(i≠0→bs = [])∧(Br9 Lt→i=0):=by
 apply Ci3
 have hn:=h.n
 have bad: ∀(c:Int),c≠0→¬Br9 Lt→∀W':PW,∃(s':Sl) (i:Int) (bs:List Iv),(Value.tuple ⟨[.slice none 0 0,.int .i64 c]⟩) = .tuple ⟨[Sl.v s',.int .i64 i]⟩∧Bc3 231 W' s' bs∧(i=0→Cn7 bs∧bs.length=Lt.length∧∀i (hi:i<bs.length) (hi':i<Lt.length),spP Lt[i].1 Lt[i].2=some bs[i])∧(i≠0→bs = [])∧(Br9 Lt→i=0):=
  fun c hc hg W'=>⟨⟨none,0,0⟩,c,[],rfl,Dr1.nil W',fun e=>absurd e hc,fun _=>rfl,fun g=>absurd g hg⟩
 refine⟨fun h W1 _=>bad 1 (by omega) (fun g=>by have:=g.1;omega) W1,fun h1=>⟨fun h W2 _=>bad 1 (by omega) (fun g=>by have:=g.2.1;omega) W2,fun h3=>?_⟩⟩
 refine⟨bxI W0 Lt,cnD Lt.length,⟨0,[],rfl,Nat.zero_le _,Ext.refl _,rfl,trivial,fun i hi=>by simp at hi,fun x hx=>(by cases hx)⟩,?_⟩
 rintro l5 i6 W7 ⟨j,m,rfl,hj,hE7,hml,ha,hp,hlt⟩
 have hal:=ha.len
 refine⟨fun hlt'=>?_,fun hge s20 W21 hE21 hO21 _ W22 hE22=>⟨s20,0,m,rfl,⟨l5,⟨_,hO21.row.ext hE22⟩,ha.mono fun _ _ h=>h.ext (hE21.trans hE22)⟩,fun _=>⟨⟨by omega,hlt⟩,by omega,hp⟩,fun e=>absurd rfl e,fun _=>rfl⟩⟩
 have hjl:j<Lt.length:=by omega
 have h7:=h.ext hE7
 obtain⟨z1,z2⟩:=hz _ (List.getElem_mem hjl)
 refine⟨h7.inB (by omega) (by omega),Lt[j].1,Lt[j].2,h7.part hjl 0 rfl,?_⟩
 refine Cq6 (hT.ext hE7) z1 z2 fun l e x W11 hE11 ⟨hx,he,hgo⟩=>?_
 obtain⟨s12,b13,s14,s15,b16,s17,rfl,q1,q2⟩:=hx
 refine⟨s12,b13,s14,s15,b16,s17,e,rfl,fun hne W19 _=>bad e hne (fun g=>by obtain⟨y,y1,y2,y3,y4⟩:=g.2.2 _ (List.getElem_mem hjl);exact hne (hgo y y1 y2 y3 y4)) W19,fun h0=>?_⟩
 obtain⟨k1,k2⟩:=he (Decidable.not_not.1 h0)
 subst hml
 refine⟨by simp only[List.length_cons,List.length_nil];omega,by unfold I64;omega,⟨m.length+1,m ++ [x],by push_cast;rfl,by omega,hE7.trans hE11,by simp,(ha.mono fun _ _ h=>h.ext hE11).append ⟨⟨s12,b13,s14,s15,b16,s17,rfl,q1,q2⟩,trivial⟩,Fc1 hp hjl k1,fun y hy=>?_⟩,?_⟩
 ·rcases List.mem_append.1 hy with hy | hy
  ·exact hlt y hy
  ·rw[List.mem_singleton.1 hy];exact k2
 ·show Lt.length-Int.toNat ((m.length:Int)+1)<Lt.length-Int.toNat (m.length:Int)
  omega
theorem Cg0 {W0 W:PW} {M:Nat→Prop} {s:Sl} {Lt:List (ByteArray×ByteArray)} {K:Value→PW→Prop} (hT:Ac6 W) (h:Bs7 W s Lt) (hl:Lt.length≤1099511627776) (hz: ∀t∈Lt,t.1.size≤1099511627776∧t.2.size≤1099511627776) (kont: ∀(s':Sl) (i:Int) (bs:List Iv) (W':PW),Ext W W'→(Bc3 231 W' s' bs∧(i=0→Cn7 bs∧bs.length=Lt.length∧∀i (hi:i<bs.length) (hi':i<Lt.length),spP Lt[i].1 Lt[i].2=some bs[i])∧(i≠0→bs = [])∧(Br9 Lt→i=0))→K (.tuple ⟨[Sl.v s',.int .i64 i]⟩) W'):
  Aa1 Tryz.prog W0 M 55 [s.v] W K:=
 Aa2 (fun W' hE=>Dd2 (M:=fun _=>False) (hT.ext hE) (h.ext hE) hl hz) (fun W' v W'' hE hE' hP=>by
  obtain⟨s',i,bs,rfl,h⟩:=hP
  exact kont s' i bs W'' (hE.trans hE') h)
theorem Ga5 {W0:PW} {M:Nat→Prop} {s:Sl} {Lt:List (ByteArray×ByteArray)} {n:Int} (h:Bs7 W0 s Lt) (hl:Lt.length≤1099511627776):
  Aa0 Tryz.prog 22 [s.v,.int .i64 n] W0 M fun v W'=>∃(b:Bool),v = .bool b∧(b=true→∀t∈Lt,t.1.size≤30∧t.2.size≤30):=by
 apply Fy6
 have hn:=h.n
 have bad: ∀W':PW,∃b:Bool,(Value.bool false) = .bool b∧(b=true→∀t∈Lt,t.1.size≤30∧t.2.size≤30):=fun W'=>⟨false,rfl,fun e=>by cases e⟩
 refine⟨fun _ W1 _=>bad W1,fun _=>⟨fun L W=>match L with | [.val (.int .i64 z)]=>∃j:Nat,z=(j:Int)∧j≤Lt.length∧Ext W0 W∧∀t∈Lt.take j,t.1.size≤30∧t.2.size≤30 | _=>False,(fun L _=>match L with | [.val (.int .i64 z)]=>Lt.length-z.toNat | _=>0),⟨0,rfl,Nat.zero_le _,Ext.refl _,fun t ht=>by simp at ht⟩,?_⟩⟩
 rintro i4 W5 ⟨j,rfl,hj,hE5,hall⟩
 have h5:=h.ext hE5
 refine⟨fun hlt=>?_,fun hge W10 _=>⟨true,rfl,fun _=>?_⟩⟩
 ·have hjl:j<Lt.length:=by omega
  have hib:=h5.inB (i:=(j:Int)) (by omega) (by omega)
  refine⟨hib,Lt[j].1,h5.part hjl 0 rfl,fun _ W7 _=>bad W7,fun h1=>⟨hib,Lt[j].2,h5.part hjl 1 rfl,fun _ W9 _=>bad W9,fun h2=>⟨by unfold I64;omega,⟨j+1,by push_cast;rfl,by omega,hE5,fun t ht=>?_⟩,?_⟩⟩⟩
  ·rw[List.take_succ_eq_append_getElem hjl] at ht
   rcases List.mem_append.1 ht with ht | ht
   ·exact hall t ht
   ·rw[List.mem_singleton.1 ht];omega
  ·show Lt.length-Int.toNat ((j:Int)+1)<Lt.length-Int.toNat (j:Int)
   omega
 ·have:j=Lt.length:=by omega
  subst this
  rwa [List.take_length] at hall
theorem Fy8 {W0 W:PW} {M:Nat→Prop} {s:Sl} {Lt:List (ByteArray×ByteArray)} {n:Int} {K:Value→PW→Prop} (h:Bs7 W s Lt) (hl:Lt.length≤1099511627776) (kont: ∀(b:Bool) (W':PW),Ext W W'→((b=true→∀t∈Lt,t.1.size≤30∧t.2.size≤30))→K (.bool b) W'):
  Aa1 Tryz.prog W0 M 22 [s.v,.int .i64 n] W K:=
 Aa2 (fun W' hE=>Ga5 (M:=fun _=>False) (h.ext hE) hl) (fun W' v W'' hE hE' hP=>by
  obtain⟨b,rfl,h⟩:=hP
  exact kont b W'' (hE.trans hE') h)
theorem Eu1 {bs bs':List Iv} {Lt:List (ByteArray×ByteArray)} (h:bs.length=Lt.length) (h':bs'.length=Lt.length) (k: ∀i (hi:i<bs.length) (hi':i<Lt.length),spP Lt[i].1 Lt[i].2=some bs[i]) (k': ∀i (hi:i<bs'.length) (hi':i<Lt.length),spP Lt[i].1 Lt[i].2=some bs'[i]):bs=bs':=by
 refine List.ext_getElem (by omega) fun i h1 h2=>?_
 have a:=k i h1 (by omega)
 rw[k' i h2 (by omega)] at a
 exact(Option.some.inj a).symm
end Go.Proofs.YtokefihiadbkbaaGreatDoor
/- cincturelaw8.PolyLeibniz. -/
namespace Go.Proofs.YtokefihiadbkbaaGreatDoor
open Go Go.SX
end Go.Proofs.YtokefihiadbkbaaGreatDoor
/- cincturelaw9.alive, Inside. -/
namespace Go.Proofs.YtokefihiadbkbaaGreatDoor
open Go Go.SX
def b9a:ByteArray:=⟨⟨[48]⟩⟩
def b9b:ByteArray:=⟨⟨[49]⟩⟩
theorem Er6:Ab7 b9a=some 0:=by
 have h1:Ak5 b9a=none:=by decide
 have h2:Ac3 b9a=some 0:=by decide
 unfold Ab7
 rw[h1,h2];rfl
theorem Ed8:Ab7 b9b=some 1:=by
 have h1:Ak5 b9b=none:=by decide
 have h2:Ac3 b9b=some 1:=by decide
 unfold Ab7
 rw[h1,h2];rfl
theorem Fn4:spP b9a b9b=some (0,1):=by
 unfold spP
 rw[Er6,Ed8]
 rfl
def pr9:List (ByteArray×ByteArray):=[(b9a,b9b)]
theorem Ev3:Br9 pr9:=⟨by decide,by decide,fun t ht=>by
 rw[List.mem_singleton.1 ht]
 exact⟨(0,1),Fn4,by decide +kernel,by decide +kernel,by decide +kernel⟩⟩
def al9:List Tm:=[(⟨1,0,0⟩,-1),(⟨2,0,0⟩,1)]
theorem Fj2:Ct4 (Dc6 0) (Dc6 0):=by decide +kernel
theorem Fj1:Ag2 ([(⟨2,0,0⟩,1)] ++ pmap (Dc6 0) (-1))=al9:=by decide +kernel
theorem Da2:An3 al9 [(0,1)]:=by decide +kernel
theorem Fm7:Bd 7 al9:=by
 refine(Bd.Co7 (k:=1) ?_).mono (by decide)
 intro t ht
 simp only[al9,List.mem_cons,List.not_mem_nil,or_false] at ht
 rcases ht with rfl | rfl
 ·exact Fn8
 ·exact Fl0
theorem Fh8:Fm8 (Dc6 0) (Dc6 0) = [(⟨2,0,0⟩,1)]:=by decide +kernel
theorem Fg2:Bd 7 [(⟨2,0,0⟩,1)]:=(Cq4 (m:=⟨2,0,0⟩) Fl0).mono (by decide)
theorem Fj8:BxN 7 1 al9 [(0,1)] where
 bd:=Fm7
 sd x hx:=by rw[List.mem_singleton.1 hx];exact⟨Sz.zero (Nat.le_refl 1),Fl0⟩
 ok t ht:=by
  simp only[al9,List.mem_cons,List.not_mem_nil,or_false] at ht
  rcases ht with rfl | rfl<;>decide
 len:=by decide
 k1:=by decide
 m1:=by decide
 bl:=by decide
end Go.Proofs.YtokefihiadbkbaaGreatDoor
/- law10: alive, tops. -/
namespace Go.Proofs.YtokefihiadbkbaaGreatDoor
open Go Go.SX
theorem Ip3:Ie8 al9 [((0:Rat),(1:Rat))].length = [2]:=by decide +kernel
theorem Ix3:Ii7 al9 [((0:Rat),(1:Rat))]:=⟨Da2,by rw[Ip3];decide +kernel⟩
def Iz2:Nat→Rat:=Iw7 [2] [((0:Rat),(1:Rat))] (ten [2] al9 2) 1
theorem Jc2:Iz2 0=0:=by decide +kernel
theorem Jc1:Iz2 1 = -1/2:=by decide +kernel
theorem Jc8:Iz2 2=0:=by decide +kernel
theorem Jd9:Ed0 (-1/2)=⟨#[45,49,47,50]⟩:=by decide +kernel
theorem Jd6:Sz 1 (-1/2:Rat):=⟨by decide +kernel,by decide +kernel⟩
theorem Im1 {W0:PW} {M:Nat→Prop} (hT:Ac6 W0):
  Aa0 Tryz.prog 13 [] W0 M fun v W'=>v = .bool true∧True:=by
 apply Ii2
 intro s1 W2 hE2 hO1 _
 refine Cg0 (Lt:=pr9) (hT.ext hE2) ⟨_,hO1.row⟩ (by decide) (by decide) fun s5 i6 bs W4 hE4 ⟨q1,q2,_,q4⟩=>⟨s5,i6,rfl,?_⟩
 have hi:=q4 Ev3
 obtain⟨k1,k2,k3⟩:=q2 hi
 have hbs:bs = [(0,1)]:=by
  refine Eu1 k2 rfl k3 fun i h1 h2=>?_
  have:i=0:=by have:i<1:=h1;omega
  subst this
  exact Fn4
 subst hbs
 refine Cr4 (i:=0) fun s9 W8 hE8 h8=>⟨s9,rfl,?_⟩
 refine Ct0 h8 h8 En2 En2 (by omega) (by decide) (by decide) (by decide) fun s12 W11 hE11 h11=>⟨s12,_,rfl,?_⟩
 rw[Fh8] at h11
 refine Db2 h11 (h8.ext hE11) Fg2 En2 (by omega) (by decide) (by decide) fun s16 W15 hE15 h15=>⟨s16,rfl,?_⟩
 rw[Fj1] at h15
 refine Ik5 h15 (q1.ext (hE8.trans (hE11.trans hE15))) Fj8 (by omega) fun s19 W18 hE18 h18=>⟨s19,_,rfl,?_⟩
 rw[if_pos Ix3,Ip3] at h18
 have h18:Gv6 231 42 W18 s19 3 Iz2:=h18
 have hn:=h18.n
 refine⟨fun _=>⟨fun _=>⟨fun _=>⟨fun h3=>?_,fun h3=>absurd (show((s19.n:Nat):Int)=3 by omega) h3⟩,fun e=>absurd e (by rw[decide_eq_true Ix3];decide)⟩,fun e=>absurd e (by rw[decide_eq_true Fj2];decide)⟩,fun e=>absurd hi e⟩
 obtain⟨s21,b22,s23,e0,g0⟩:=h18.at (i:=0) (by omega)
 rw[Jc2] at g0
 refine⟨h18.inB (by omega) (by omega),s21,b22,s23,e0,Bk6 g0 (Sz.zero (Nat.le_refl 1)) (by omega) fun W25 hE25 _=>⟨_,rfl,fun _=>?_,fun e=>absurd (Hv6.2 rfl) e⟩⟩
 obtain⟨s27,b28,s29,e1,g1⟩:=(h18.ext hE25).at (i:=1) (by omega)
 rw[Jc1] at g1
 refine⟨h18.inB (by omega) (by omega),s27,b28,s29,e1,Dc4 g1 Jd6 (by omega) fun W31 hE31 _=>⟨_,rfl,fun _=>?_,fun e=>absurd Jd9 e⟩⟩
 obtain⟨s33,b34,s35,e2,g2⟩:=(h18.ext (hE25.trans hE31)).at (i:=2) (by omega)
 rw[Jc8] at g2
 exact⟨h18.inB (by omega) (by omega),s33,b34,s35,e2,Bk6 g2 (Sz.zero (Nat.le_refl 1)) (by omega) fun W37 hE37 _=>⟨_,rfl,fun W39 _=>⟨congrArg Value.bool (decide_eq_true (Hv6.2 rfl)),trivial⟩⟩⟩
theorem Ii9 {W0 W:PW} {M:Nat→Prop} {K:Value→PW→Prop} (hT:Ac6 W) (kont: ∀(W':PW),Ext W W'→(True)→K (.bool true) W'):
  Aa1 Tryz.prog W0 M 13 [] W K:=
 Aa2 (fun W' hE=>Im1 (M:=fun _=>False) (hT.ext hE)) (fun W' v W'' hE hE' hP=>by
  obtain⟨rfl,h⟩:=hP
  exact kont W'' (hE.trans hE') h)
end Go.Proofs.YtokefihiadbkbaaGreatDoor
/- cincturebook.Within, cincturelaw9.Inside: what they come to. -/
namespace Go.Proofs.YtokefihiadbkbaaGreatDoor
open Go Go.SX
end Go.Proofs.YtokefihiadbkbaaGreatDoor
/- What the rows of chapter 10 share. -/
namespace Go.Proofs.YtokefihiadbkbaaGreatDoor
open Go Go.SX
theorem Jo4 {e:Int} {p:List Tm} (h:Gk4 e p) (he:0≤e) {t:Tm} (ht:t∈p) (i:Int):Fv8 i t.1≤e:=by
 obtain⟨_,h1,h2,h3⟩:=h t ht
 unfold Fv8 An6
 (repeat' split)<;>omega
theorem Jn5 {e:Int} {p:List Tm} (h:Gk4 e p) (he:0≤e) (i:Int):0≤Fd0 (Fv8 i) 0 p∧Fd0 (Fv8 i) 0 p≤e:=⟨(Hv3 (w:=Fv8 i) (n:=0) (p:=p)).1,Hx0 he fun t ht=>Jo4 h he ht i⟩
theorem Jn1 {a b c:Int} (ha:0≤a∧a≤18) (hb:0≤b∧b≤18) (hc:0≤c∧c≤18):I64 ((a+1)*(b+1))∧I64 ((a+1)*(b+1)*(c+1)):=by
 obtain⟨x,rfl⟩:=Int.eq_ofNat_of_zero_le ha.1
 obtain⟨y,rfl⟩:=Int.eq_ofNat_of_zero_le hb.1
 obtain⟨z,rfl⟩:=Int.eq_ofNat_of_zero_le hc.1
 have h1:(x+1)*(y+1)≤19*19:=Nat.mul_le_mul (by omega) (by omega)
 have h2:(x+1)*(y+1)*(z+1)≤19*19*19:=Nat.mul_le_mul h1 (by omega)
 have e1:((x:Int)+1)*((y:Int)+1)=(((x+1)*(y+1):Nat):Int):=by push_cast;rfl
 have e2:((x:Int)+1)*((y:Int)+1)*((z:Int)+1)=(((x+1)*(y+1)*(z+1):Nat):Int):=by push_cast;rfl
 rw[e2,e1]
 exact⟨by unfold I64;omega,by unfold I64;omega⟩
theorem Jr1 {L:List (Mon×ByteArray)} {e:Int} {p:List Tm} {bs:List Iv} (h:Ff1 L e p) (ho:POk p) (hk: ∀x∈bs,IvS 4 x) (hl:bs.length≤5):BxN 56029 4 p bs:=⟨h.bd,hk,ho,by have:=h.len;omega,by omega,by omega,by omega⟩
end Go.Proofs.YtokefihiadbkbaaGreatDoor
/- ref Tops, Width, Coefs. -/
namespace Go.Proofs.YtokefihiadbkbaaGreatDoor
open Go Go.SX
theorem Kw2 {W0:PW} {M:Nat→Prop} {l1:List Value} {x:Iv} {k:Nat} (h1:Ah6 231 W0 l1 x) (hx:IvS k x) (hk:k≤1000000):
  Aa0 Tryz.prog 85 [.agg ⟨l1⟩] W0 M fun v W'=>∃(b:Bool),∃(r:Sl),∃(u:Sl),v = .agg ⟨[.bool b,Sl.v r,Sl.v u]⟩∧Ab6 231 W' b r u (x.2-x.1):=by
 obtain⟨b0,s0,t0,b1,s1,t1,rfl,h1,h1'⟩:=h1
 apply Kt5
 exact Hd7 h1' h1 hx.2 hx.1 (by omega) (by omega) fun b3 s4 s5 W2 hE2 h2=>⟨b3,s4,s5,rfl,fun W6 hE6=>⟨b3,s4,s5,rfl,h2.ext hE6⟩⟩
theorem Ku3 {W0 W:PW} {M:Nat→Prop} {l1:List Value} {x:Iv} {k:Nat} {K:Value→PW→Prop} (h1:Ah6 231 W l1 x) (hx:IvS k x) (hk:k≤1000000) (kont: ∀(b:Bool) (r:Sl) (u:Sl) (W':PW),Ext W W'→(Ab6 231 W' b r u (x.2-x.1))→K (.agg ⟨[.bool b,Sl.v r,Sl.v u]⟩) W'):
  Aa1 Tryz.prog W0 M 85 [.agg ⟨l1⟩] W K:=
 Aa2 (fun W' hE=>Kw2 (M:=fun _=>False) (h1.ext hE) hx hk) (fun W' v W'' hE hE' hP=>by
  obtain⟨b,r,u,rfl,h⟩:=hP
  exact kont b r u W'' (hE.trans hE') h)
theorem Ky2 {W0:PW} {M:Nat→Prop} {s:Sl} {p:List Tm} {n:Nat} (h:Ag1 231 142 W0 s p) (hp:p.length≤1099511627776) (hl:n≤1000000):
  Aa0 Tryz.prog 81 [s.v,.int .i64 (n:Int)] W0 M fun v W'=>∃(s1:Sl),v=Sl.v s1∧Id4 W' s1 (Ie8 p n):=by
 apply Ku2
 have htl:=Io1 p n
 generalize hzs:Ie8 p n=zs at *
 refine⟨tpI W0 zs,Je2 zs.length,⟨0,rfl,Nat.zero_le _,Ext.refl _,rfl⟩,?_⟩
 rintro l3 i4 W5 ⟨i,rfl,hi,hE5,rfl⟩
 refine⟨fun hlt=>?_,fun hge s9 W10 hE10 hO10 _ W11 hE11=>⟨s9,rfl,?_⟩⟩
 ·have hil:i<zs.length:=by omega
  refine Jg6 (h.ext hE5) hp fun W7 hE7 _=>⟨_,rfl,by simp only[List.length_map,List.length_take,List.length_cons,List.length_nil];omega,by unfold I64;omega,⟨i+1,by push_cast;rfl,by omega,hE5.trans hE7,?_⟩,by show zs.length-Int.toNat ((i:Int)+1)<zs.length-Int.toNat (i:Int);omega⟩
  rw[List.take_succ_eq_append_getElem hil,List.map_append]
  have:zs[i]=Fd0 (Fv8 (i:Int)) 0 p:=by subst hzs;exact Is2 hil
  rw[this]
  rfl
 ·have:i=zs.length:=by omega
  subst this
  rw[List.take_length] at hO10
  exact Id4.ext ⟨_,hO10.row⟩ hE11
theorem Kv7 {W0 W:PW} {M:Nat→Prop} {s:Sl} {p:List Tm} {n:Nat} {K:Value→PW→Prop} (h:Ag1 231 142 W s p) (hp:p.length≤1099511627776) (hl:n≤1000000) (kont: ∀(s1:Sl) (W':PW),Ext W W'→(Id4 W' s1 (Ie8 p n))→K (Sl.v s1) W'):
  Aa1 Tryz.prog W0 M 81 [s.v,.int .i64 (n:Int)] W K:=
 Aa2 (fun W' hE=>Ky2 (M:=fun _=>False) (h.ext hE) hp hl) (fun W' v W'' hE hE' hP=>by
  obtain⟨s1,rfl,h⟩:=hP
  exact kont s1 W'' (hE.trans hE') h)
/-! ### How great the numbers are. -/
theorem Kz5 {D E M : Nat} {φ : Mon → Rat} : ∀ {N : Nat} {q : List Tm} (_ : Fit D N q) (_ : ∀ t ∈ q, Ak3 E M (φ t.1)), Ak3 (D * E) (N * M) (lin φ q)
  | _, [], _, _ => Ak3.zero
  | N, t :: r, h, hφ => by
    obtain ⟨n, k, h1, h2, h3⟩ := h
    have := (h2.mul (hφ t (by simp))).add (Kz5 h3 fun u hu => hφ u (by simp [hu]))
    refine this.mono ?_
    rw [← Nat.add_mul]
    exact Nat.mul_le_mul_right _ h1
theorem Lb7 {a b e:Nat} (ha:a≤b) (hb:b≤16):Ak3 chK (65536*chK) ((ch a e:Rat)/(ch b e:Rat)):=by
 by_cases he:e≤b
 ·have h1:=(Ak3.int ((ch a e:Nat):Int)).mono (N':=65536) (by simpa using Iq6 (by omega:a≤16) e)
  have:=Iw5 h1 (Ja2 b (by omega) e (by omega) he)
  rw[Nat.one_mul] at this
  exact this
 ·rw[Ir8 a e (by omega)]
  have:((0:Nat):Rat)/(ch b e:Rat)=0:=by
   rw[show((0:Nat):Rat)=0 from rfl,Rat.div_def,Rat.zero_mul]
  rw[this]
  exact Ak3.zero
theorem Kw3 {zs:List Int} (h16: ∀z∈zs,0≤z∧z≤16) (k:Nat) (m:Mon): ∀n,Ak3 (chK^n) ((65536*chK)^n) (rfQ zs k m n)
 | 0=>by
  show Ak3 (chK^0) ((65536*chK)^0) 1
  rw[Nat.pow_zero,Nat.pow_zero]
  exact(Ak3.int 1).mono (by decide)
 | n+1=>by
  have h1:=If0 h16 n
  have h2:=Jq8 zs n k
  rw[Nat.pow_succ,Nat.pow_succ]
  exact(Kw3 h16 k m n).mul (Lb7 (by omega) (by omega))
theorem La7:nl (chK^3)≤4∧nl ((65536*chK)^3)≤6:=by decide +kernel
theorem La6 {n:Nat} (hn:n≤3):chK^n≤chK^3∧(65536*chK)^n≤(65536*chK)^3:=⟨Nat.pow_le_pow_right (by decide) hn,Nat.pow_le_pow_right (by decide) hn⟩
theorem La5 {zs:List Int} (h16: ∀z∈zs,0≤z∧z≤16) (k:Nat) (m:Mon) {n:Nat} (hn:n≤3):Sz 6 (rfQ zs k m n):=by
 obtain⟨a,b⟩:=La6 hn
 obtain⟨c,d⟩:=La7
 exact(Kw3 h16 k m n).sz (Ch9 (by decide) n) (Nat.le_trans (Ad1 a) (by omega)) (Nat.le_trans (Ad1 b) (by omega))
theorem Kz3 {zs:List Int} (h16: ∀z∈zs,0≤z∧z≤16) (k:Nat) {n K:Nat} (hn:n≤3) {q:List Tm} (hq:Bd K q) (t:Nat):Sz (K+6) (lin (fun m=>rfQ zs k m n) (q.take t)):=by
 obtain⟨D,N,f,hD,k1,k2⟩:=hq.take t
 have h:=Kz5 (φ:=fun m=>rfQ zs k m n) f fun u _=>Kw3 h16 k u.1 n
 obtain⟨a,b⟩:=La6 hn
 obtain⟨c,d⟩:=La7
 have e1:=Ae5 D (chK^n)
 have e2:=Ae5 N ((65536*chK)^n)
 have e3:=Ad1 a
 have e4:=Ad1 b
 exact h.sz (Nat.mul_ne_zero hD (Ch9 (by decide) n)) (by omega) (by omega)
theorem Kx4 {zs:List Int} {k:Nat} {m:Mon} : ∀{n i:Nat},i<n→dig zs i k<eg m i→rfQ zs k m n=0
 | 0,i,h,_=>absurd h (Nat.not_lt_zero _)
 | n+1,i,h,hd=>by
  show rfQ zs k m n*((ch (dig zs n k) (eg m n):Rat)/(ch (tpN zs n-1) (eg m n):Rat))=0
  by_cases e:i=n
  ·subst e
   rw[Ir8 _ _ hd]
   have:((0:Nat):Rat)/(ch (tpN zs i-1) (eg m i):Rat)=0:=by
    rw[show((0:Nat):Rat)=0 from rfl,Rat.div_def,Rat.zero_mul]
   rw[this,Rat.mul_zero]
  ·rw[Kx4 (i:=i) (by omega) hd,Rat.zero_mul]
theorem Lb1 {x:Iv} (h:IvS 4 x) (i:Nat):Bd 60 (lnQ x.1 (x.2-x.1) i)∧(lnQ x.1 (x.2-x.1) i).length≤2:=by
 have hv:Bd 4 (Dc6 (i:Int)):=by
  unfold Dc6
  split
  ·exact Cq4 (Sz.one (Nat.le_refl 1))
  ·exact⟨1,0,trivial,by decide,by rw[Ax0];omega,by rw[Ag9];omega⟩
 have hw:Sz 9 (x.2-x.1):=(h.2.sub h.1).mono (by omega)
 have e:(Dc6 (i:Int)).length≤1:=by unfold Dc6;split<;>simp
 have l1:=El2 [((⟨0,0,0⟩:Mon),x.1)]
 have l2:=El2 (pmap (Dc6 (i:Int)) (x.2-x.1))
 have l3:=El2 (Ag2 [((⟨0,0,0⟩:Mon),x.1)] ++ Ag2 (pmap (Dc6 (i:Int)) (x.2-x.1)))
 rw[Ew2] at l2
 rw[List.length_append] at l3
 have l1:(Ag2 [((⟨0,0,0⟩:Mon),x.1)]).length≤1:=l1
 exact⟨(((Cq4 h.1).norm.append (Bd.pmap hv hw).norm).norm).mono (by omega),by unfold lnQ;omega⟩
theorem La8 (lo w:Rat) (i:Nat):Gk4 1 (lnQ lo w i):=Gk4.norm (Gk4.append (Gk4.norm fun t ht=>by rw[List.mem_singleton.1 ht];exact(by decide:(⟨0,0,0⟩:Mon).ok∧(0:Int)≤1∧(0:Int)≤1∧(0:Int)≤1)) (Gk4.norm fun t ht=>by
 obtain⟨u,hu,rfl⟩:=List.mem_map.1 ht
 unfold Dc6 at hu
 split at hu
 ·rw[List.mem_singleton.1 hu]
  have key: ∀i:Nat,(Da3 i).ok∧(Da3 i).x≤1∧(Da3 i).y≤1∧(Da3 i).z≤1:=fun i=>by
   unfold Da3
   (repeat' split)<;>decide
  exact key _
 ·cases hu))
theorem Kz8 {bs:List Iv} (hk: ∀x∈bs,IvS 4 x) (n i:Nat):Bd 60 (Kr7 bs n i)∧(Kr7 bs n i).length≤2:=by
 have hb:IvS 4 (Bm3 bs i):=by
  unfold Bm3
  rw[List.getD_eq_getElem?_getD]
  cases e:bs[i]? with
  | none=>exact⟨Sz.zero (by omega),Sz.zero (by omega)⟩
  | some x=>exact hk x (List.mem_of_getElem? e)
 unfold Kr7
 split
 ·exact Lb1 hb i
 ·exact⟨⟨1,0,trivial,by decide,by rw[Ax0];omega,by rw[Ag9];omega⟩,by simp⟩
theorem Ky5 (bs:List Iv) (n i:Nat):Gk4 1 (Kr7 bs n i):=by
 unfold Kr7
 split
 ·exact La8 _ _ _
 ·exact fun t ht=>by cases ht
theorem Lc2: ∀a,a<17→∀b,b<17→∀c,c<17→(a+1)*(b+1)*(c+1)≤60→a+b+c≤18:=by decide +kernel
theorem Kt3 (bs:List Iv) (n:Nat): ∀i,i<3→Kt8 (Kr7 bs n 0) (Kr7 bs n 1) (Kr7 bs n 2) i=Kr7 bs n i:=fun i hi=>by
 rcases(by omega:i=0∨i=1∨i=2) with rfl | rfl | rfl<;>rfl
def plc (zs:List Int) (k i j:Nat):Int:=if j<i then((dig zs j k:Nat):Int) else 0
theorem La3 {zs:List Int} {k i j:Nat} :plc zs k (i+1) j=if j=i then((dig zs i k:Nat):Int) else plc zs k i j:=by
 unfold plc
 by_cases e:j=i
 ·subst e;rw[if_pos (by omega),if_pos rfl]
 ·rw[if_neg e]
  by_cases h:j<i
  ·rw[if_pos h,if_pos (by omega)]
  ·rw[if_neg h,if_neg (by omega)]
theorem Kz0 {zs:List Int} {k n i:Nat} (hi:i<3) (hn:i<n):As9 [.int .i64 (plc zs k n 0),.int .i64 (plc zs k n 1),.int .i64 (plc zs k n 2)] (0+Int.toNat (i:Int)*1+0) [.int .i64 ((dig zs i k:Nat):Int)]:=by
 have e:((dig zs i k:Nat):Int)=plc zs k n i:=by unfold plc;rw[if_pos hn]
 rw[e]
 rcases(by omega:i=0∨i=1∨i=2) with rfl | rfl | rfl<;>exact⟨by simp,rfl⟩
def rcA (W0:PW) (zs:List Int) (bs:List Iv) (L:List PL) (W:PW):Prop:=match L with
 | [.val (.int .i64 y),.val (.int .i64 z),.cells l]=>∃(j:Nat) (a b c:Sl),z=(j:Int)∧j≤bs.length∧Ext W0 W∧y=(stN zs j:Int)∧(∀x∈zs.take j,0≤x∧x≤16)∧l = [a.v,b.v,c.v]∧Ag1 231 142 W a (Kr7 bs j 0)∧Ag1 231 142 W b (Kr7 bs j 1)∧Ag1 231 142 W c (Kr7 bs j 2)
 | _=>False
def cnA (n:Nat) (L:List PL) (_:PW):Nat:=match L with
 | [_,.val (.int .i64 z),_]=>n-z.toNat
 | _=>0
def rcK (W0:PW) (N:Nat) (F:Nat→Rat) (L:List PL) (W:PW):Prop:=match L with
 | [.val (.int .i64 z),.row l]=>∃k:Nat,z=(k:Int)∧k≤N∧Ext W0 W∧RQs 231 W l N fun a=>if a<k then F a else 0
 | _=>False
def rcP (W0:PW) (zs:List Int) (n k:Nat) (L:List PL) (W:PW):Prop:=match L with
 | [.val (.int .i64 y),.val (.int .i64 z),.cells l]=>∃i:Nat,z=(i:Int)∧i≤n∧Ext W0 W∧y=((k/stN zs i:Nat):Int)∧l = [.int .i64 (plc zs k i 0),.int .i64 (plc zs k i 1),.int .i64 (plc zs k i 2)]
 | _=>False
def rcT (W0:PW) (N k:Nat) (F:Nat→Rat) (φ:Mon→Rat) (q:List Tm) (L:List PL) (W:PW):Prop:=match L with
 | [.val (.int .i64 z),.row l]=>∃t:Nat,z=(t:Int)∧t≤q.length∧Ext W0 W∧RQs 231 W l N fun a=>if a=k then lin φ (q.take t) else if a<k then F a else 0
 | _=>False
def rcV (W0:PW) (zs:List Int) (n k:Nat) (t:Tm) (L:List PL) (W:PW):Prop:=match L with
 | [.val (.bool b),.val (.int .i64 z),.cells l]=>∃(i:Nat) (d:Bool) (s u:Sl),z=(i:Int)∧l = [.bool d,s.v,u.v]∧i≤n∧Ext W0 W∧(b=true→(∀j,j<i→eg t.1 j≤dig zs j k)∧Ab6 231 W d s u (t.2*rfQ zs k t.1 i))∧(b=false→∃j,j<n∧dig zs j k<eg t.1 j)
 | _=>False
end Go.Proofs.YtokefihiadbkbaaGreatDoor
