/- span.Parse, cinctureref1.SpanParse; cincturelaw5.Is, Of. -/
import Derived.Test.YthpmkcidkcmlgaaGreatW17
import Derived.Test.YthpmkcidkcmlgaaGreatW14
import Derived.Test.YthpmkcidkcmlgaaGreatW15
import Derived.Test.YthpmkcidkcmlgaaGreatW16
import Derived.Test.YthpmkcidkcmlgaaGreatW8
import Derived.Test.YthpmkcidkcmlgaaGreatR14
import Derived.Test.YthpmkcidkcmlgaaGreatLib4
set_option linter.unusedVariables false
set_option linter.unusedSimpArgs false
set_option maxRecDepth 100000
set_option linter.unusedVariables false
set_option linter.unusedSimpArgs false
namespace Go.Proofs.YthpmkcidkcmlgaaGreat
open Go Go.SX
def spP (a b:ByteArray):Option Iv:=match parseQ a,parseQ b with
 | some p,some q=>if p≤q then some (p,q) else none
 | _,_=>none
theorem spP_some {a b:ByteArray} {x:Iv} (h:spP a b=some x):parseQ a=some x.1∧parseQ b=some x.2∧x.1≤x.2:=by
 unfold spP at h
 cases ha:parseQ a with
 | none=>rw[ha] at h;cases h
 | some p=>
  cases hb:parseQ b with
  | none=>rw[ha,hb] at h;cases h
  | some q=>
   rw[ha,hb] at h
   dsimp only at h
   split at h
   ·cases h;exact⟨rfl,rfl,by assumption⟩
   ·cases h
theorem er_zero {α:Type} {o:Option α} :er o=0↔o.isSome=true:=by
 unfold er
 cases o<;>simp
theorem parseQ_4000 {a:ByteArray} :Sz 4000 ((parseQ a).getD 0):=by
 cases h:parseQ a with
 | none=>exact Sz.zero (by omega)
 | some q=>exact(parseQ_sz h).1
theorem spanParse_ok {W0:PW} {M:Nat→Prop} {a b:ByteArray} (ha:a.size≤1099511627776) (hb:b.size≤1099511627776):
  PCallsM Go.Proofs.Tryz.prog 178 [.agg ⟨[.string a,.string b]⟩] W0 M fun v W'=>∃(l:List Value),∃(e:Int),v = .tuple ⟨[.agg ⟨l⟩,.int .i64 e]⟩∧SpV 317 W' l ((spP a b).getD (0,0))∧(e=0↔(spP a b).isSome=true):=by
 apply callspan_Parse
 refine ratParse_call ha fun s3 b4 s5 W2 hE2 h2=>⟨s3,b4,s5,_,rfl,fun hne W7 hE7=>?_,fun heq=>?_⟩
 ·have hn:parseQ a=none:=by
   cases h:parseQ a with
   | none=>rfl
   | some q=>exact absurd (er_zero.2 (by rw[h];rfl)) hne
  have hs:spP a b=none:=by unfold spP;rw[hn]
  refine⟨_,_,rfl,by rw[hs];exact SpV.zero W7,?_⟩
  rw[hs,er_zero,hn];simp
 ·have h1:=er_zero.1 (Decidable.not_not.1 heq)
  obtain⟨p,hp⟩:=Option.isSome_iff_exists.1 h1
  refine ratParse_call hb fun s10 b11 s12 W9 hE9 h9=>⟨s10,b11,s12,_,rfl,fun hne W14 hE14=>?_,fun heq2=>?_⟩
  ·have hn:parseQ b=none:=by
    cases h:parseQ b with
    | none=>rfl
    | some q=>exact absurd (er_zero.2 (by rw[h];rfl)) hne
   have hs:spP a b=none:=by unfold spP;rw[hp,hn]
   refine⟨_,_,rfl,by rw[hs];exact SpV.zero W14,?_⟩
   rw[hs,er_zero,hn];simp
  ·have h3:=er_zero.1 (Decidable.not_not.1 heq2)
   obtain⟨q,hq⟩:=Option.isSome_iff_exists.1 h3
   have z1:=parseQ_4000 (a:=a)
   have z2:=parseQ_4000 (a:=b)
   refine spanNew_call (h2.ext hE9) h9 z1 z2 (by omega) fun l W16 hE16 h16=>?_
   rw[hp,hq] at h16⊢
   simp only[Option.getD_some] at h16⊢
   have hs:spP a b=if p≤q then some (p,q) else none:=by unfold spP;rw[hp,hq]
   obtain⟨s17,b18,s19,s20,b21,s22,rfl,k1,k2⟩:=h16
   refine⟨s17,b18,s19,s20,b21,s22,_,rfl,fun hno W24 hE24=>?_,fun hyes W25 hE25=>?_⟩
   ·have hno:¬p≤q:=by simpa using hno
    rw[hs,if_neg hno]
    exact⟨_,_,rfl,SpV.zero W24,by decide⟩
   ·have hyes:p≤q:=by simpa using hyes
    rw[if_pos hyes] at k1 k2
    rw[hs,if_pos hyes]
    exact⟨_,_,rfl,SpV.mk (x:=(p,q)) (k1.ext hE25) (k2.ext hE25),by simp⟩
theorem spanParse_call {W0 W:PW} {M:Nat→Prop} {a b:ByteArray} {K:Value→PW→Prop} (ha:a.size≤1099511627776) (hb:b.size≤1099511627776) (kont: ∀(l:List Value) (e:Int) (W':PW),Ext W W'→(SpV 317 W' l ((spP a b).getD (0,0))∧(e=0↔(spP a b).isSome=true))→K (.tuple ⟨[.agg ⟨l⟩,.int .i64 e]⟩) W'):
  callN Go.Proofs.Tryz.prog W0 M 178 [.agg ⟨[.string a,.string b]⟩] W K:=
 callN_of (fun W' hE=>spanParse_ok (M:=fun _=>False) ha hb) (fun W' v W'' hE hE' hP=>by
  obtain⟨l,e,rfl,h⟩:=hP
  exact kont l e W'' (hE.trans hE') h)
theorem refSpanParse_ok {W0:PW} {M:Nat→Prop} {a b:ByteArray} (ha:a.size≤1099511627776) (hb:b.size≤1099511627776):
  PCallsM Go.Proofs.Tryz.prog 177 [.agg ⟨[.string a,.string b]⟩] W0 M fun v W'=>∃(l:List Value),∃(e:Int),v = .tuple ⟨[.agg ⟨l⟩,.int .i64 e]⟩∧RSpV 317 W' l ((spP a b).getD (0,0))∧(e=0↔(spP a b).isSome=true):=by
 apply callref1_SpanParse
 refine refRatParse_call ha fun b3 s4 s5 W2 hE2 h2=>⟨b3,s4,s5,_,rfl,refRatParse_call hb fun b9 s10 s11 W8 hE8 h8=>⟨b9,s10,s11,_,rfl,fun hno W13 hE13=>?_,fun hyes=>⟨fun hno W14 hE14=>?_,fun hyes2=>?_⟩⟩⟩
 ·have hn:parseQ a=none:=by simpa using hno
  have hs:spP a b=none:=by unfold spP;rw[hn]
  rw[hs]
  exact⟨_,_,rfl,RSpV.zero W13,by decide⟩
 ·have hn:parseQ b=none:=by simpa using hno
  have hs:spP a b=none:=by unfold spP;cases parseQ a<;>rw[hn]
  rw[hs]
  exact⟨_,_,rfl,RSpV.zero W14,by decide⟩
 ·obtain⟨p,hp⟩:=Option.isSome_iff_exists.1 (show(parseQ a).isSome=true by simpa using hyes)
  obtain⟨q,hq⟩:=Option.isSome_iff_exists.1 (show(parseQ b).isSome=true by simpa using hyes2)
  have z1:=parseQ_4000 (a:=a)
  have z2:=parseQ_4000 (a:=b)
  have hs:spP a b=if p≤q then some (p,q) else none:=by unfold spP;rw[hp,hq]
  rw[hp] at h2 z1
  rw[hq] at h8 z2
  simp only[Option.getD_some] at h2 h8 z1 z2
  refine refQCmp_call (h2.ext hE8) h8 z1 z2 (by omega) (by omega) fun W16 hE16 _=>⟨_,rfl,fun hgt W18 hE18=>?_,fun hle W19 hE19=>?_⟩
  ·have h:¬p≤q:=Rat.not_le.2 (cmpQ_gt.1 hgt)
   rw[hs,if_neg h]
   exact⟨_,_,rfl,RSpV.zero W18,by decide⟩
  ·have h:p≤q:=Rat.not_lt.1 fun e=>hle (cmpQ_gt.2 e)
   rw[hs,if_pos h]
   exact⟨_,_,rfl,RSpV.mk (x:=(p,q)) (h2.ext (hE8.trans (hE16.trans hE19))) (h8.ext (hE16.trans hE19)),by simp⟩
theorem refSpanParse_call {W0 W:PW} {M:Nat→Prop} {a b:ByteArray} {K:Value→PW→Prop} (ha:a.size≤1099511627776) (hb:b.size≤1099511627776) (kont: ∀(l:List Value) (e:Int) (W':PW),Ext W W'→(RSpV 317 W' l ((spP a b).getD (0,0))∧(e=0↔(spP a b).isSome=true))→K (.tuple ⟨[.agg ⟨l⟩,.int .i64 e]⟩) W'):
  callN Go.Proofs.Tryz.prog W0 M 177 [.agg ⟨[.string a,.string b]⟩] W K:=
 callN_of (fun W' hE=>refSpanParse_ok (M:=fun _=>False) ha hb) (fun W' v W'' hE hE' hP=>by
  obtain⟨l,e,rfl,h⟩:=hP
  exact kont l e W'' (hE.trans hE') h)
theorem law5Of_ok {W0:PW} {M:Nat→Prop} {a b:ByteArray} (ha:a.size≤1099511627776) (hb:b.size≤1099511627776):
  PCallsM Go.Proofs.Tryz.prog 106 [.agg ⟨[.string a,.string b]⟩] W0 M fun v W'=>∃(l:List Value),∃(l':List Value),∃(ok:Bool),∃(x:Iv),v = .tuple ⟨[.agg ⟨l⟩,.agg ⟨l'⟩,.bool ok]⟩∧SpV 317 W' l x∧RSpV 317 W' l' x∧(ok=true→spP a b=some x∧a.size≤60∧b.size≤60)∧(ok=false→x=(0,0)∧¬((spP a b).isSome=true∧a.size≤60∧b.size≤60)):=by
 apply calllaw5_Of
 have bad: ∀(W':PW),¬((spP a b).isSome=true∧a.size≤60∧b.size≤60)→∃(l:List Value) (l':List Value) (ok:Bool) (x:Iv),Value.tuple ⟨[.agg ⟨[.slice none 0 0,.bool false,.slice none 0 0,.slice none 0 0,.bool false,.slice none 0 0]⟩,.agg ⟨[.bool false,.slice none 0 0,.slice none 0 0,.bool false,.slice none 0 0,.slice none 0 0]⟩,.bool false]⟩ = .tuple ⟨[.agg ⟨l⟩,.agg ⟨l'⟩,.bool ok]⟩∧
   SpV 317 W' l x∧RSpV 317 W' l' x∧(ok=true→spP a b=some x∧a.size≤60∧b.size≤60)∧(ok=false→x=(0,0)∧¬((spP a b).isSome=true∧a.size≤60∧b.size≤60)):=
  fun W' hn=>⟨_,_,_,(0,0),rfl,SpV.zero W',RSpV.zero W',fun e=>(by cases e),fun _=>⟨rfl,hn⟩⟩
 refine refSpanParse_call ha hb fun l e W2 hE2 ⟨h2,he⟩=>?_
 obtain⟨b3,s4,s5,b6,s7,s8,rfl,k1,k2⟩:=h2
 refine⟨b3,s4,s5,b6,s7,s8,e,rfl,fun hne W10 _=>bad W10 fun h=>hne (he.2 h.1),fun heq=>⟨fun h60 W11 _=>bad W11 fun h=>by omega,fun h60=>⟨fun h61 W12 _=>bad W12 fun h=>by omega,fun h61=>?_⟩⟩⟩
 obtain⟨x,hx⟩:=Option.isSome_iff_exists.1 (he.1 (Decidable.not_not.1 heq))
 rw[hx] at k1 k2
 refine spanParse_call ha hb fun l e' W14 hE14 ⟨h14,_⟩=>?_
 rw[hx] at h14
 obtain⟨s15,b16,s17,s18,b19,s20,rfl,q1,q2⟩:=h14
 refine⟨s15,b16,s17,s18,b19,s20,e',rfl,fun W22 hE22=>⟨_,_,_,x,rfl,SpV.mk (q1.ext hE22) (q2.ext hE22),RSpV.mk (k1.ext (hE14.trans hE22)) (k2.ext (hE14.trans hE22)),fun _=>⟨hx,by omega,by omega⟩,fun e=>(by cases e)⟩⟩
theorem law5Of_call {W0 W:PW} {M:Nat→Prop} {a b:ByteArray} {K:Value→PW→Prop} (ha:a.size≤1099511627776) (hb:b.size≤1099511627776) (kont: ∀(l:List Value) (l':List Value) (ok:Bool) (x:Iv) (W':PW),Ext W W'→(SpV 317 W' l x∧RSpV 317 W' l' x∧(ok=true→spP a b=some x∧a.size≤60∧b.size≤60)∧(ok=false→x=(0,0)∧¬((spP a b).isSome=true∧a.size≤60∧b.size≤60)))→K (.tuple ⟨[.agg ⟨l⟩,.agg ⟨l'⟩,.bool ok]⟩) W'):
  callN Go.Proofs.Tryz.prog W0 M 106 [.agg ⟨[.string a,.string b]⟩] W K:=
 callN_of (fun W' hE=>law5Of_ok (M:=fun _=>False) ha hb) (fun W' v W'' hE hE' hP=>by
  obtain⟨l,l',ok,x,rfl,h⟩:=hP
  exact kont l l' ok x W'' (hE.trans hE') h)
end Go.Proofs.YthpmkcidkcmlgaaGreat

/- law6.Raw and law13.Squares. -/
set_option maxRecDepth 100000
set_option linter.unusedVariables false
set_option linter.unusedSimpArgs false
namespace Go.Proofs.YthpmkcidkcmlgaaGreat
open Go Go.SX
theorem sq_num {a:ByteArray} {q:Rat} (h:numQ a=some q):Sz 4000 q:=by
 unfold numQ at h
 split at h
 ·exact(parseQ_sz h).1
 ·cases h
def SmallIv (x:Iv):Prop:=IvS 4000 x∧x.1≤x.2
def r6I (W0:PW) (n:Nat) (L:List PL) (W:PW):Prop:=match L with
 | [.row l3,.row l4,.val (.int .i64 i)]=>∃(j:Nat) (m:List Iv),i=(j:Int)∧j≤n∧j≤5∧Ext W0 W∧All2 (SpV 317 W) l3 m∧All2 (RSpV 317 W) l4 m∧m.length≤j∧∀x∈m,SmallIv x
 | _=>False
def cn3 (n:Nat) (L:List PL) (_:PW):Nat:=match L with
 | [_,_,.val (.int .i64 i)]=>n-i.toNat
 | _=>0
theorem law6Raw_ok {W0:PW} {M:Nat→Prop} {s:Sl} {L:List (ByteArray×ByteArray)} (h:IsPrs W0 s L) (hl:L.length≤1099511627776) (hz: ∀t∈L,t.1.size≤1099511627776∧t.2.size≤1099511627776):
  PCallsM Go.Proofs.Tryz.prog 25 [s.v] W0 M fun v W'=>∃(s1:Sl),∃(s2:Sl),∃(bs:List Iv),v = .tuple ⟨[Sl.v s1,Sl.v s2]⟩∧IsBox 317 W' s1 bs∧RIsBox 317 W' s2 bs∧(bs.length≤5∧∀x∈bs,SmallIv x):=by
 apply calllaw6_Raw
 obtain⟨ty,h⟩:=h
 have hn:s.n=L.length:=by have:=h.1;rw[List.length_map] at this;exact this
 refine⟨r6I W0 L.length,cn3 L.length,⟨0,[],rfl,Nat.zero_le _,Nat.zero_le _,Ext.refl _,trivial,trivial,Nat.zero_le _,fun x hx=>(by cases hx)⟩,?_⟩
 rintro l3 l4 i5 W6 ⟨j,m,rfl,hj,hj5,hE6,a3,a4,hm,hs⟩
 have n3:=a3.len
 have n4:=a4.len
 have fin: ∀{y1 y2:TypeId} (s24:Sl) (W25:PW),Ext W6 W25→SX.Own W25 y1 6 s24 l3→Fr W0 W6 s24→∀(s26:Sl) (W27:PW),Ext W25 W27→SX.Own W27 y2 6 s26 l4→Fr W0 W25 s26→∀(W28:PW),Ext W27 W28→∃(s1 s2:Sl) (bs:List Iv),Value.tuple ⟨[Sl.v s24,Sl.v s26]⟩ = .tuple ⟨[Sl.v s1,Sl.v s2]⟩∧IsBox 317 W28 s1 bs∧RIsBox 317 W28 s2 bs∧bs.length≤5∧∀x∈bs,SmallIv x:=
  fun {y1 y2} s24 W25 hE25 hO25 _ s26 W27 hE27 hO27 _ W28 hE28=>⟨s24,s26,m,rfl,⟨l3,⟨_,hO25.row.ext (hE27.trans hE28)⟩,a3.mono fun _ _ h=>h.ext (hE25.trans (hE27.trans hE28))⟩,⟨l4,⟨_,hO27.row.ext hE28⟩,a4.mono fun _ _ h=>h.ext (hE25.trans (hE27.trans hE28))⟩,by omega,hs⟩
 refine⟨fun hlt=>⟨fun h5=>?_,fun _=>fin⟩,fun _=>fin⟩
 have hjl:j<L.length:=by omega
 have hL:=h.ext hE6
 obtain⟨za,zb⟩:=hz _ (List.getElem_mem hjl)
 have hmu:L.length-Int.toNat ((j:Int)+1)<L.length-Int.toNat (j:Int):=by omega
 refine⟨hL.inB (by omega) (by rw[List.length_map];omega),L[j].1,L[j].2,hL.part (x:=prc L[j]) (by rw[Int.toNat_natCast,List.getElem?_map,List.getElem?_eq_getElem hjl];rfl) 0 rfl,?_⟩
 refine law5Of_call za zb fun l l' ok x W10 hE10 ⟨k1,k2,k3,k4⟩=>?_
 have hE:=hE6.trans hE10
 obtain⟨s11,b12,s13,s14,b15,s16,rfl,q1,q2⟩:=k1
 obtain⟨b17,s18,s19,b20,s21,s22,rfl,r1,r2⟩:=k2
 refine⟨s11,b12,s13,s14,b15,s16,b17,s18,s19,b20,s21,s22,ok,rfl,fun hok=>?_,fun hno=>⟨by unfold I64;omega,⟨j+1,m,by push_cast;rfl,by omega,by omega,hE,a3.mono fun _ _ h=>h.ext hE10,a4.mono fun _ _ h=>h.ext hE10,by omega,hs⟩,hmu⟩⟩
 obtain⟨e1,e2,e3⟩:=k3 hok
 obtain⟨p1,p2,p3⟩:=spP_some e1
 have hx:SmallIv x:=⟨⟨(parseQ_sz p1).1,(parseQ_sz p2).1⟩,p3⟩
 refine(fun h=>⟨dup_of h _,h⟩) ⟨by simp only[List.length_cons,List.length_nil];omega,by simp only[List.length_cons,List.length_nil];omega,by unfold I64;omega,⟨j+1,m ++ [x],by push_cast;rfl,by omega,by omega,hE,(a3.mono fun _ _ h=>h.ext hE10).append ⟨⟨s11,b12,s13,s14,b15,s16,rfl,q1,q2⟩,trivial⟩,(a4.mono fun _ _ h=>h.ext hE10).append ⟨⟨b17,s18,s19,b20,s21,s22,rfl,r1,r2⟩,trivial⟩,by simp only[List.length_append,List.length_cons,List.length_nil];omega,fun y hy=>?_⟩,hmu⟩
 rcases List.mem_append.1 hy with hy | hy
 ·exact hs y hy
 ·rw[List.mem_singleton.1 hy];exact hx
theorem law6Raw_call {W0 W:PW} {M:Nat→Prop} {s:Sl} {L:List (ByteArray×ByteArray)} {K:Value→PW→Prop} (h:IsPrs W s L) (hl:L.length≤1099511627776) (hz: ∀t∈L,t.1.size≤1099511627776∧t.2.size≤1099511627776) (kont: ∀(s1:Sl) (s2:Sl) (bs:List Iv) (W':PW),Ext W W'→(IsBox 317 W' s1 bs∧RIsBox 317 W' s2 bs∧(bs.length≤5∧∀x∈bs,SmallIv x))→K (.tuple ⟨[Sl.v s1,Sl.v s2]⟩) W'):
  callN Go.Proofs.Tryz.prog W0 M 25 [s.v] W K:=
 callN_of (fun W' hE=>law6Raw_ok (M:=fun _=>False) (h.ext hE) hl hz) (fun W' v W'' hE hE' hP=>by
  obtain⟨s1,s2,bs,rfl,h⟩:=hP
  exact kont s1 s2 bs W'' (hE.trans hE') h)
theorem IsSqs.ext {W W':PW} {s:Sl} {L:List SqT} (h:IsSqs W s L) (hE:Ext W W'):IsSqs W' s L:=let⟨xs,⟨t,h1⟩,h2⟩:=h;⟨xs,⟨t,h1.ext hE⟩,h2.mono fun _ _ ⟨s,e,h⟩=>⟨s,e,h.ext hE⟩⟩
def SqGood (e:Int) (s:SqP):Prop:=Sz 4000 s.w∧∃L,OfOK L e s.q
def sqsI (W0:PW) (n:Nat) (e:Int) (L:List PL) (W:PW):Prop:=match L with
 | [.row l3,.row l4,.val (.int .i64 i)]=>∃(j:Nat) (m:List SqP),i=(j:Int)∧j≤n∧j≤6∧Ext W0 W∧All2 (SqX 317 188 W) l3 m∧All2 (RSqX 317 195 W) l4 m∧m.length≤j∧∀x∈m,SqGood e x
 | _=>False
theorem law13Squares_ok {W0:PW} {M:Nat→Prop} {s:Sl} {L:List SqT} {exp:Int} (h:Go.Proofs.YthpmkcidkcmlgaaGreat.IsSqs W0 s L) (hl:L.length≤1099511627776) (hz: ∀t∈L,t.1.size≤1099511627776∧t.2.2.length≤1099511627776∧∀u∈t.2.2,u.2.size≤1099511627776):
  PCallsM Go.Proofs.Tryz.prog 24 [s.v,.int .i64 exp] W0 M fun v W'=>∃(s1:Sl),∃(s2:Sl),∃(l:List SqP),v = .tuple ⟨[Sl.v s1,Sl.v s2]⟩∧SX.IsSqs 317 188 W' s1 l∧SX.RIsSqs 317 195 W' s2 l∧(l.length≤6∧∀x∈l,SqGood exp x):=by
 apply calllaw13_Squares
 obtain⟨xs,⟨ty,hr⟩,ha⟩:=h
 have hn:s.n=L.length:=hr.1.trans ha.len
 have hxl:=ha.len
 refine⟨sqsI W0 L.length exp,cn3 L.length,⟨0,[],rfl,Nat.zero_le _,Nat.zero_le _,Ext.refl _,trivial,trivial,Nat.zero_le _,fun x hx=>(by cases hx)⟩,?_⟩
 rintro l3 l4 i5 W6 ⟨j,m,rfl,hj,hj6,hE6,a3,a4,hm,hs⟩
 have n3:=a3.len
 have n4:=a4.len
 have fin: ∀{y1 y2:TypeId} (s24:Sl) (W25:PW),Ext W6 W25→SX.Own W25 y1 5 s24 l3→Fr W0 W6 s24→∀(s26:Sl) (W27:PW),Ext W25 W27→SX.Own W27 y2 5 s26 l4→Fr W0 W25 s26→∀(W28:PW),Ext W27 W28→∃(s1 s2:Sl) (l:List SqP),Value.tuple ⟨[Sl.v s24,Sl.v s26]⟩ = .tuple ⟨[Sl.v s1,Sl.v s2]⟩∧SX.IsSqs 317 188 W28 s1 l∧SX.RIsSqs 317 195 W28 s2 l∧l.length≤6∧∀x∈l,SqGood exp x:=
  fun {y1 y2} s24 W25 hE25 hO25 _ s26 W27 hE27 hO27 _ W28 hE28=>⟨s24,s26,m,rfl,⟨l3,⟨_,hO25.row.ext (hE27.trans hE28)⟩,a3.mono fun _ _ h=>h.ext (hE25.trans (hE27.trans hE28))⟩,⟨l4,⟨_,hO27.row.ext hE28⟩,a4.mono fun _ _ h=>h.ext (hE25.trans (hE27.trans hE28))⟩,by omega,hs⟩
 refine⟨fun hlt=>⟨fun h6=>?_,fun _=>fin⟩,fun _=>fin⟩
 have hjl:j<L.length:=by omega
 obtain⟨z1,z2,z3⟩:=hz _ (List.getElem_mem hjl)
 obtain⟨x,hx,hX⟩:=ha.get (List.getElem?_eq_getElem hjl)
 obtain⟨sq,rfl,hP⟩:=hX
 have hmu:L.length-Int.toNat ((j:Int)+1)<L.length-Int.toNat (j:Int):=by omega
 have hib:SX.inB s (j:Int):=hr.inB (by omega) (by omega)
 have el: ∀{W:PW},Ext W0 W→∀(off:Nat) {m:List Value},(([.string L[j].1,.int .i64 L[j].2.1,sq.v]:List Value).drop off).take m.length=m→ElemAt W s 3 j off m:=fun hE off m hm=>(hr.ext hE).part hx off hm
 refine⟨hib,L[j].1,el hE6 0 rfl,?_⟩
 refine law3Num_call z1 fun s10 b11 s12 b13 s14 s15 W9 hE9 ⟨n1,n2⟩=>⟨s10,b11,s12,b13,s14,s15,_,rfl,hib,sq,el (hE6.trans hE9) 2 rfl,?_⟩
 refine law8Of_call (hP.ext (hE6.trans hE9)) z2 z3 fun s20 s21 b22 W19 hE19 g=>?_
 have hE:=hE6.trans (hE9.trans hE19)
 have hE2:=hE9.trans hE19
 have skip:I64 ((j:Int)+1)∧stp (sqsI W0 L.length exp) (cn3 L.length) [.row l3,.row l4,.val (.int .i64 ((j:Int)+1))] W19 [.row l3,.row l4,.val (.int .i64 (j:Int))] W6:=⟨by unfold I64;omega,⟨j+1,m,by push_cast;rfl,by omega,by omega,hE,a3.mono fun _ _ h=>h.ext hE2,a4.mono fun _ _ h=>h.ext hE2,by omega,hs⟩,hmu⟩
 refine⟨s20,s21,b22,rfl,fun hq=>⟨fun hb=>⟨hib,sq,el hE 2 rfl,fun hle=>⟨hib,_,el hE 1 rfl,hib,_,el hE 1 rfl,?_⟩,fun _=>skip⟩,fun _=>skip⟩,fun _=>skip⟩
 obtain⟨q,hq2⟩:=Option.isSome_iff_exists.1 hq
 rw[hq2] at n1 n2
 obtain⟨p,op,p1,p2⟩:=g hb
 have r:=Ext.refl W19
 have A:(l3.length+([[]]:List (List Value)).length)*88≤140737488355328:=by simp only[List.length_cons,List.length_nil];omega
 have B:(l4.length+([[]]:List (List Value)).length)*88≤140737488355328:=by simp only[List.length_cons,List.length_nil];omega
 have st:I64 ((j:Int)+1)∧stp (sqsI W0 L.length exp) (cn3 L.length) [.row (l3 ++ [[s10.v,.bool b11,s12.v,.int .i64 L[j].2.1,s20.v]]),.row (l4 ++ [[.bool b13,s14.v,s15.v,.int .i64 L[j].2.1,s21.v]]),.val (.int .i64 ((j:Int)+1))] W19 [.row l3,.row l4,.val (.int .i64 (j:Int))] W6:=by
  refine⟨by unfold I64;omega,⟨j+1,m ++ [⟨q,L[j].2.1,p⟩],by push_cast;rfl,by omega,by omega,hE,(a3.mono fun _ _ h=>h.ext hE2).append ⟨⟨s10,b11,s12,s20,rfl,n1.ext hE19,p1⟩,trivial⟩,(a4.mono fun _ _ h=>h.ext hE2).append ⟨⟨b13,s14,s15,s21,rfl,n2.ext hE19,p2⟩,trivial⟩,by simp only[List.length_append,List.length_cons,List.length_nil];omega,fun y hy=>?_⟩,hmu⟩
  rcases List.mem_append.1 hy with hy | hy
  ·exact hs y hy
  ·rw[List.mem_singleton.1 hy];exact⟨sq_num hq2,_,op⟩
 exact⟨⟨r,⟨A,r,r,B,r,r,st⟩,r,A,r,B,r,r,st⟩,r,r,A,r,B,r,r,st⟩
theorem law13Squares_call {W0 W:PW} {M:Nat→Prop} {s:Sl} {L:List SqT} {exp:Int} {K:Value→PW→Prop} (h:Go.Proofs.YthpmkcidkcmlgaaGreat.IsSqs W s L) (hl:L.length≤1099511627776) (hz: ∀t∈L,t.1.size≤1099511627776∧t.2.2.length≤1099511627776∧∀u∈t.2.2,u.2.size≤1099511627776) (kont: ∀(s1:Sl) (s2:Sl) (l:List SqP) (W':PW),Ext W W'→(SX.IsSqs 317 188 W' s1 l∧SX.RIsSqs 317 195 W' s2 l∧(l.length≤6∧∀x∈l,SqGood exp x))→K (.tuple ⟨[Sl.v s1,Sl.v s2]⟩) W'):
  callN Go.Proofs.Tryz.prog W0 M 24 [s.v,.int .i64 exp] W K:=
 callN_of (fun W' hE=>law13Squares_ok (M:=fun _=>False) (h.ext hE) hl hz) (fun W' v W'' hE hE' hP=>by
  obtain⟨s1,s2,l,rfl,h⟩:=hP
  exact kont s1 s2 l W'' (hE.trans hE') h)
end Go.Proofs.YthpmkcidkcmlgaaGreat

/- The reference's Sum. -/
set_option maxRecDepth 100000
set_option linter.unusedVariables false
set_option linter.unusedSimpArgs false
namespace Go.Proofs.YthpmkcidkcmlgaaGreat
open Go Go.SX
def rsS (W0:PW) (l:List SqP) (bs:List Iv) (L:List PL) (W:PW):Prop:=match L with
 | [.val (.slice A m c),.val (.int .i64 i)]=>∃(j:Nat) (a:List Tm),i=(j:Int)∧j≤l.length∧Ext W0 W∧(l.take j).foldl (sqStep bs) (some [])=some a∧IsRPoly 317 195 W ⟨A,m,c⟩ a
 | _=>False
def cnV2 (n:Nat) (L:List PL) (_:PW):Nat:=match L with
 | [_,.val (.int .i64 i)]=>n-i.toNat
 | _=>0
theorem refSum_ok {W0:PW} {M:Nat→Prop} {s sb:Sl} {l:List SqP} {bs:List Iv} {kb w:Nat} (h:SX.RIsSqs 317 195 W0 s l) (hb:RIsBox 317 W0 sb bs) (hl:SqOK kb w l) (hk: ∀x∈bs,IvS 4000 x) (hbl:bs.length≤1048576):
  PCallsM Go.Proofs.Tryz.prog 27 [s.v,sb.v] W0 M fun v W'=>∃(s':Sl),v = .tuple ⟨[Sl.v s',.bool (sumP l bs).isSome]⟩∧IsRPoly 317 195 W' s' ((sumP l bs).getD []):=by
 apply callref1_Sum
 have hn:=h.n
 have hbn:=hb.n
 have hll:=hl.len
 have hK:=hl.K1
 have hw:=hl.w1
 have bad:sumP l bs=none→∀W':PW,∃s':Sl,(Value.tuple ⟨[.slice none 0 0,.bool false]⟩) = .tuple ⟨[Sl.v s',.bool (sumP l bs).isSome]⟩∧IsRPoly 317 195 W' s' ((sumP l bs).getD []):=fun hb W'=>by rw[hb];exact⟨⟨none,0,0⟩,rfl,IsRPoly.nil W'⟩
 refine refBoxRight_call hb hk (by omega) hbl fun W2 hE2 _=>⟨_,rfl,fun hno W4 _=>bad (sumP_bad fun e=>?_) W4,fun hyes=>?_⟩
 ·have:¬BoxOK bs:=by simpa using hno
  exact this e.1
 have hBox:BoxOK bs:=by simpa using hyes
 refine⟨suG W2 l bs.length,cn1 l.length,⟨0,rfl,Nat.zero_le _,Ext.refl _,fun x hx=>(by cases hx)⟩,?_⟩
 rintro i8 W9 ⟨j,rfl,hj,hE9,hall⟩
 have h9:=RIsSqs.ext h (hE2.trans hE9)
 refine⟨fun hlt=>?_,fun hge=>?_⟩
 ·have hjl:j<l.length:=by omega
  have hmem:=List.getElem_mem hjl
  obtain⟨x,⟨b11,s10,s12,s14,rfl,_,_⟩,hel⟩:=h9.at hjl
  have hib:=h9.inB (i:=(j:Int)) (by omega) (by omega)
  refine⟨hib,_,hel 3 rfl,fun hneg W15 _=>bad (sumP_bad fun e=>by have:=(e.2 _ hmem).1;omega) W15,fun hnn=>⟨hib,_,hel 3 rfl,fun hgt W16 _=>bad (sumP_bad fun e=>by have:=(e.2 _ hmem).2;omega) W16,fun hle=>⟨by unfold I64;omega,⟨j+1,by push_cast;rfl,by omega,hE9,g_snoc hjl hall ⟨by omega,by omega⟩⟩,?_⟩⟩⟩
  show l.length-Int.toNat ((j:Int)+1)<l.length-Int.toNat (j:Int)
  omega
 have:j=l.length:=by omega
 subst this
 rw[List.take_length] at hall
 have hOK:SumOK l bs:=⟨hBox,hall⟩
 have hsum:sumP l bs=l.foldl (sqStep bs) (some []):=if_pos hOK
 refine⟨rsS W9 l bs,cnV2 l.length,⟨0,[],rfl,Nat.zero_le _,Ext.refl _,rfl,IsRPoly.nil W9⟩,?_⟩
 rintro s20 i21 W22 ⟨j,a,rfl,hj,hE22,ha,hA⟩
 have hA:IsRPoly 317 195 W22 s20 a:=hA
 have E22:=(hE2.trans hE9).trans hE22
 have h22:=RIsSqs.ext h E22
 refine⟨fun hlt=>?_,fun hge W60 hE60=>⟨s20,?_,?_⟩⟩
 ·have hjl:j<l.length:=by omega
  have hmem:=List.getElem_mem hjl
  obtain⟨x,⟨b24,s23,s25,s27,rfl,qw,qp⟩,hel⟩:=h22.at hjl
  have hib:=h22.inB (i:=(j:Int)) (by omega) (by omega)
  obtain⟨q1,q2,q3,q4⟩:=hl.bd _ hmem
  have qz:=hl.ws _ hmem
  have hm:=Nat.mul_le_mul q2 q2
  obtain⟨a1,a2,a3⟩:=sumS_b hl hk hj ha
  have haL:=a2.len a3
  have hj6:=Nat.mul_le_mul (show j≤6 by omega) (show 2*kb+w+8019≤4508019 by omega)
  have hmu:l.length-Int.toNat ((j:Int)+1)<l.length-Int.toNat (j:Int):=by omega
  have fin: ∀{p:List Tm} {sp:Sl} {W:PW},sqMul bs l[j]=some p→Ext W22 W→IsRPoly 317 195 W sp p→SX.inB s (j:Int)∧∃(b24:Bool) (s23 s25:Sl),ElemAt W s 5 (Int.toNat (j:Int)) 0 [.bool b24,s23.v,s25.v]∧callN Go.Proofs.Tryz.prog W0 M 65 [sp.v,.agg ⟨[.bool b24,s23.v,s25.v]⟩] W fun v40 W41=>∃s42:Sl,v40=s42.v∧callN Go.Proofs.Tryz.prog W0 M 114 [s20.v,s42.v] W41 fun v43 W44=>∃s45:Sl,v43=s45.v∧I64 ((j:Int)+1)∧stp (rsS W9 l bs) (cnV2 l.length) [.val s45.v,.val (.int .i64 ((j:Int)+1))] W44 [.val s20.v,.val (.int .i64 (j:Int))] W22:=fun {p sp W} hp hE hP=>by
   obtain⟨p1,p2,p3⟩:=sqMul_b hl hk hmem hp
   have hpb:=Bd.pmap p1 qz
   have hpl:=pmap_len p l[j].w
   have hpl2:=pnorm_len (pmap p l[j].w)
   refine⟨hib,b24,s23,s25,(hel 0 rfl).ext hE,?_⟩
   refine refPolyScale_call hP (qw.ext hE) p1 qz (by omega) (by omega) (by omega) fun s42 W41 hE41 h41=>⟨s42,rfl,?_⟩
   refine refPolyAdd_call (k:=30000000) (hA.ext (hE.trans hE41)) h41 a2 (a1.mono (by omega)) (hpb.norm.mono (by omega)) (by omega) (by omega) (by omega) fun s45 W44 hE44 h44=>⟨s45,rfl,by unfold I64;omega,⟨j+1,_,by push_cast;rfl,by omega,hE22.trans (hE.trans (hE41.trans hE44)),sq_step hjl ha hp,h44⟩,hmu⟩
  refine⟨hib,s27,hel 4 rfl,hib,s27,hel 4 rfl,refPolyMul_call qp qp q1 q1 (by omega) (by omega) (by omega) (by omega) fun s30 W29 hE29 h29=>⟨s30,_,rfl,fun hM=>?_,fun hM=>⟨fun _ W53 _=>bad (sumP_stop hjl ?_) W53,fun e=>absurd e (by rw[hM];decide)⟩⟩⟩
  ·have hM:MulOK l[j].q l[j].q:=of_decide_eq_true hM
   rw[mulP_of hM] at h29
   have hpb:=(q1.pairs q1).norm
   have hpl:=pnorm_len (ppairs l[j].q l[j].q)
   rw[ppairs_len] at hpl
   have hgg:=(hel 3 (m:=[.int .i64 l[j].g]) rfl).ext hE29
   refine⟨hib,_,hgg,fun hg=>⟨hib,_,hgg,by unfold I64;have:=(hall _ hmem).2;omega,?_⟩,fun hg=>⟨fun e=>absurd e (by simp[hM]),fun _=>fin (by unfold sqMul;rw[if_pos hM,if_neg hg]) hE29 h29⟩⟩
   have hgl:=(hall _ hmem).2
   obtain⟨i,hi⟩:=Int.eq_ofNat_of_zero_le (show 0≤l[j].g-1 by omega)
   have hil:i<bs.length:=by omega
   have hg':bs.getD i (0,0)=bs[i]:=by rw[List.getD_eq_getElem?_getD,List.getElem?_eq_getElem hil];rfl
   rw[hi]
   have hz:=hk _ (List.getElem_mem hil)
   have hsb:=side_b hz (i:Int)
   have hm2:=Nat.mul_le_mul (show(pnorm (ppairs l[j].q l[j].q)).length≤4096 by omega) hsb.2
   have hB:=RIsBox.ext hb (E22.trans hE29)
   obtain⟨xb,⟨b26,s4,s28,b29,s7,s9,rfl,r1,r2⟩,helb⟩:=hB.at hil
   refine⟨hB.inB (by omega) (by omega),b26,s4,s28,b29,s7,s9,helb 0 rfl,hib,_,hgg,by unfold I64;omega,?_⟩
   rw[hi]
   refine refVar_call fun s35 W34 hE34 h34=>⟨s35,rfl,?_⟩
   refine refConst_call (r1.ext hE34) hz.1 (by omega) fun s38 W37 hE37 h37=>⟨s38,rfl,?_⟩
   refine refPolySub_call (k:=5000) (h34.ext hE37) h37 (var_good _) ((var_bd _).mono (by omega)) ((cst_bd4 hz.1).mono (by omega)) (by omega) (by have:=var_len1 (i:Int);omega) (by have:=cst_len1 bs[i].1;unfold cst at this;omega) fun s41 W40 hE40 h40=>⟨s41,rfl,?_⟩
   refine refConst_call (r2.ext (hE34.trans (hE37.trans hE40))) hz.2 (by omega) fun s44 W43 hE43 h43=>⟨s44,rfl,?_⟩
   refine refPolySub_call (k:=5000) h43 (h34.ext (hE37.trans (hE40.trans hE43))) (pnorm_good _) ((cst_bd4 hz.2).mono (by omega)) ((var_bd _).mono (by omega)) (by omega) (by have:=cst_len1 bs[i].2;unfold cst at this;omega) (by have:=var_len1 (i:Int);omega) fun s47 W46 hE46 h46=>⟨s47,rfl,?_⟩
   obtain⟨x1,x2,x3⟩:=sideA_b hz (i:Int)
   obtain⟨y1,y2,y3⟩:=sideB_b hz (i:Int)
   have hm3:=Nat.mul_le_mul x3 y3
   have h40:IsRPoly 317 195 W40 s41 (sideA bs[i] i):=h40
   have h46:IsRPoly 317 195 W46 s47 (sideB bs[i] i):=h46
   refine refPolyMul_call (h40.ext (hE43.trans hE46)) h46 x1 y1 (by omega) (by omega) (by omega) (by omega) fun s50 W49 hE49 h49=>⟨s50,_,rfl,?_⟩
   rw[mulP_of (side_ok hz i)] at h49
   have h49:IsRPoly 317 195 W49 s50 (sideP bs[i] i):=h49
   have hE:=hE34.trans (hE37.trans (hE40.trans (hE43.trans (hE46.trans hE49))))
   refine refPolyMul_call (k:=5000000) (h29.ext hE) h49 (hpb.mono (by omega)) (hsb.1.mono (by omega)) (by omega) (by omega) (by omega) (by omega) fun s37 W36 hE36 h36=>⟨s37,_,rfl,fun hno W39 _=>bad (sumP_stop hjl ?_) W39,fun hyes=>?_⟩
   ·have hno:¬MulOK (pnorm (ppairs l[j].q l[j].q)) (sideP bs[i] i):=by simpa using hno
    unfold sqMul
    rw[if_pos hM,if_pos hg,hi,Int.toNat_natCast,hg',if_neg hno]
   ·have hyes:MulOK (pnorm (ppairs l[j].q l[j].q)) (sideP bs[i] i):=by simpa using hyes
    rw[mulP_of hyes] at h36
    exact fin (by unfold sqMul;rw[if_pos hM,if_pos hg,hi,Int.toNat_natCast,hg',if_pos hyes]) (hE29.trans (hE.trans hE36)) h36
  ·have hM:¬MulOK l[j].q l[j].q:=of_decide_eq_false hM
   unfold sqMul
   rw[if_neg hM]
 ·have:j=l.length:=by omega
  subst this
  rw[List.take_length] at ha
  rw[hsum,ha]
  rfl
 ·have:j=l.length:=by omega
  subst this
  rw[List.take_length] at ha
  rw[hsum,ha]
  exact hA.ext hE60
theorem refSum_call {W0 W:PW} {M:Nat→Prop} {s sb:Sl} {l:List SqP} {bs:List Iv} {kb w:Nat} {K:Value→PW→Prop} (h:SX.RIsSqs 317 195 W s l) (hb:RIsBox 317 W sb bs) (hl:SqOK kb w l) (hk: ∀x∈bs,IvS 4000 x) (hbl:bs.length≤1048576) (kont: ∀(s':Sl) (W':PW),Ext W W'→(IsRPoly 317 195 W' s' ((sumP l bs).getD []))→K (.tuple ⟨[Sl.v s',.bool (sumP l bs).isSome]⟩) W'):
  callN Go.Proofs.Tryz.prog W0 M 27 [s.v,sb.v] W K:=
 callN_of (fun W' hE=>refSum_ok (M:=fun _=>False) (h.ext hE) (hb.ext hE) hl hk hbl) (fun W' v W'' hE hE' hP=>by
  obtain⟨s',rfl,h⟩:=hP
  exact kont s' W'' (hE.trans hE') h)
end Go.Proofs.YthpmkcidkcmlgaaGreat

/- cincturelaw12.System: polynomials of texts. -/
set_option maxRecDepth 100000
set_option linter.unusedVariables false
set_option linter.unusedSimpArgs false
namespace Go.Proofs.YthpmkcidkcmlgaaGreat
open Go Go.SX
abbrev Ps (W:PW) (s:Sl) (ps:List (List Tm)):Prop:=IsPolys 317 188 W s ps
end Go.Proofs.YthpmkcidkcmlgaaGreat
