import Derived.Test.YtkgeopnakkcdoaaGreatDoorW9
import Derived.Test.YtkgeopnakkcdoaaGreatDoorW7
import Derived.Test.YtkgeopnakkcdoaaGreatDoorLib3
import Derived.Test.YtkgeopnakkcdoaaGreatDoorRows
import Derived.WalkKit
import Derived.ProofKit
import Derived.OpenShut
import Derived.JoinedCond
import Derived.Carry
import Derived.Deep.Strs
import Derived.Deep.Slices
import Derived.Test.YtkgeopnakkcdoaaGreatDoorW13
import Derived.Test.YtkgeopnakkcdoaaGreatDoorW3
import Derived.Test.YtkgeopnakkcdoaaGreatDoorW5
import Derived.Test.YtkgeopnakkcdoaaGreatDoorLib5
import Derived.Test.YtkgeopnakkcdoaaGreatDoorR9
import Derived.Test.YtkgeopnakkcdoaaGreatDoorLib4
import Derived.Test.YtkgeopnakkcdoaaGreatDoorW11
import Derived.Test.YtkgeopnakkcdoaaGreatDoorW6
import Derived.Test.YtkgeopnakkcdoaaGreatDoorR4
import Derived.Test.YtkgeopnakkcdoaaGreatDoorLib2
import Derived.Test.YtkgeopnakkcdoaaGreatDoorR5
import Derived.Test.YtkgeopnakkcdoaaGreatDoorW10
import Derived.Test.YtkgeopnakkcdoaaGreatDoorW8
import Derived.Test.YtkgeopnakkcdoaaGreatDoorR7
set_option linter.unusedVariables false
set_option linter.unusedSimpArgs false
set_option maxRecDepth 100000
namespace Go.Proofs.YtkgeopnakkcdoaaGreatDoor
open Go Go.SX
variable {K:Value->PW->Prop}{M:Nat->Prop}{W W0:PW}{a b:ByteArray}
def spP (a b:ByteArray):Option Iv:=match Ab7 a,Ab7 b with
 | some p,some q=>if p<=q then some (p,q) else none
 | _,_=>none
theorem Dp3 {x:Iv}(h:spP a b=some x):Ab7 a=some x.1/\Ab7 b=some x.2/\x.1<=x.2:=by
 unfold spP at h
 cases c:Ab7 a with
 | none=>rw[c] at h;cases h
 | some p=>
  cases d:Ab7 b with
  | none=>rw[c,d] at h;cases h
  | some q=>
   rw[c,d] at h;dsimp only at h;split at h
   ·cases h;exact⟨rfl,rfl,by assumption⟩
   ·cases h
theorem Bg2 {α:Type}{o:Option α}:er o=0↔o.isSome=true:=by
 unfold er;cases o<;>simp
theorem At4:Sz 4000 ((Ab7 a).getD 0):=by
 cases h:Ab7 a with
 | none=>exact Sz.zero (by omega)
 | some q=>exact(Aw6 h).1
theorem Cq2 (u:a.size<=1099511627776)(w:b.size<=1099511627776):
  Aa0 Tryz.prog 181 [.agg ⟨[.string a,.string b]⟩] W0 M λ v W'=>∃(l:List Value),∃(e:Int),v = .tuple ⟨[.agg ⟨l⟩,.int .i64 e]⟩/\SpV 257 W' l ((spP a b).getD (0,0))/\(e=0↔(spP a b).isSome=true):=by
 apply Bz8;refine As8 u λ s3 y A Z aa B=>⟨s3,y,A,_,rfl,λ g C ab=>?_,λ heq=>?_⟩
 ·have d:Ab7 a=none:=by
   cases h:Ab7 a with
   | none=>rfl
   | some q=>exact absurd (Bg2.2 (by rw[h];rfl)) g
  have c:spP a b=none:=by unfold spP;rw[d]
  refine⟨_,_,rfl,by rw[c];exact SpV.zero C,?_⟩;rw[c,Bg2,d];simp
 ·have h1:=Bg2.1 (Decidable.not_not.1 heq)
  obtain⟨p,j⟩:=Option.isSome_iff_exists.1 h1;refine As8 w λ D E F W9 G I=>⟨D,E,F,_,rfl,λ g J ad=>?_,λ N=>?_⟩
  ·have d:Ab7 b=none:=by
    cases h:Ab7 b with
    | none=>rfl
    | some q=>exact absurd (Bg2.2 (by rw[h];rfl)) g
   have c:spP a b=none:=by unfold spP;rw[j,d]
   refine⟨_,_,rfl,by rw[c];exact SpV.zero J,?_⟩;rw[c,Bg2,d];simp
  ·have O:=Bg2.1 (Decidable.not_not.1 N)
   obtain⟨q,n⟩:=Option.isSome_iff_exists.1 O;have P:=At4 (a:=a);have z2:=At4 (a:=b);refine Cq7 (B.ext G) I P z2 (by omega) λ l ae af k=>?_;rw[j,n] at k⊢;simp only[Option.getD_some] at k⊢;have c:spP a b=if p<=q then some (p,q) else none:=by unfold spP;rw[j,n]
   obtain⟨Q,R,S,U,V,X,rfl,k1,o⟩:=k;refine⟨Q,R,S,U,V,X,_,rfl,λ m Y ag=>?_,λ f ah r=>?_⟩
   ·have m:¬p<=q:=by simpa using m
    rw[c,if_neg m];exact⟨_,_,rfl,SpV.zero Y,by decide⟩
   ·have f:p<=q:=by simpa using f
    rw[if_pos f] at k1 o;rw[c,if_pos f];exact⟨_,_,rfl,SpV.mk (x:=(p,q)) (k1.ext r) (o.ext r),by simp⟩
theorem Az3 (d:a.size<=1099511627776)(f:b.size<=1099511627776)(g: ∀(l:List Value) (e:Int) (W':PW),Ext W W'->(SpV 257 W' l ((spP a b).getD (0,0))/\(e=0↔(spP a b).isSome=true))->K (.tuple ⟨[.agg ⟨l⟩,.int .i64 e]⟩) W'):
  Aa1 Tryz.prog W0 M 181 [.agg ⟨[.string a,.string b]⟩] W K:=
 Mi4 (λ _ c=>Cq2 d f) fun | _,W',c,⟨l,e,rfl,h⟩=>g l e W' c h
theorem Bp7 (w:a.size<=1099511627776)(y:b.size<=1099511627776):
  Aa0 Tryz.prog 130 [.agg ⟨[.string a,.string b]⟩] W0 M λ v W'=>∃(l:List Value),∃(e:Int),v = .tuple ⟨[.agg ⟨l⟩,.int .i64 e]⟩/\Ah6 257 W' l ((spP a b).getD (0,0))/\(e=0↔(spP a b).isSome=true):=by
 apply Be5;refine An7 w λ A s4 B P Q d=>⟨A,s4,B,_,rfl,An7 y λ C D E R m f=>⟨C,D,E,_,rfl,λ g F S=>?_,λ G=>⟨λ g I U=>?_,λ J=>?_⟩⟩⟩
 ·have j:Ab7 a=none:=by simpa using g
  have c:spP a b=none:=by unfold spP;rw[j]
  rw[c];exact⟨_,_,rfl,Ah6.zero F,by decide⟩
 ·have j:Ab7 b=none:=by simpa using g
  have c:spP a b=none:=by unfold spP;cases Ab7 a<;>rw[j]
  rw[c];exact⟨_,_,rfl,Ah6.zero I,by decide⟩
 ·obtain⟨p,n⟩:=Option.isSome_iff_exists.1 (show(Ab7 a).isSome=true by simpa using G)
  obtain⟨q,o⟩:=Option.isSome_iff_exists.1 (show(Ab7 b).isSome=true by simpa using J);have k:=At4 (a:=a);have z2:=At4 (a:=b);have c:spP a b=if p<=q then some (p,q) else none:=by unfold spP;rw[n,o]
  rw[n] at d k;rw[o] at f z2;simp only[Option.getD_some] at d f k z2;refine Ar1 (d.ext m) f k z2 (by omega) (by omega) λ V r _=>⟨_,rfl,λ N O X=>?_,λ hle Y u=>?_⟩
  ·have h:¬p<=q:=Rat.not_le.2 (Al3.1 N)
   rw[c,if_neg h];exact⟨_,_,rfl,Ah6.zero O,by decide⟩
  ·have h:p<=q:=Rat.not_lt.1 λ e=>hle (Al3.2 e)
   rw[c,if_pos h];exact⟨_,_,rfl,Ah6.mk (x:=(p,q)) (d.ext (m.trans (r.trans u))) (f.ext (r.trans u)),by simp⟩
theorem Bh8 (d:a.size<=1099511627776)(f:b.size<=1099511627776)(g: ∀(l:List Value) (e:Int) (W':PW),Ext W W'->(Ah6 257 W' l ((spP a b).getD (0,0))/\(e=0↔(spP a b).isSome=true))->K (.tuple ⟨[.agg ⟨l⟩,.int .i64 e]⟩) W'):
  Aa1 Tryz.prog W0 M 130 [.agg ⟨[.string a,.string b]⟩] W K:=
 Mi4 (λ _ c=>Bp7 d f) fun | _,W',c,⟨l,e,rfl,h⟩=>g l e W' c h
end Go.Proofs.YtkgeopnakkcdoaaGreatDoor
namespace Go.Proofs.YtkgeopnakkcdoaaGreatDoor
open Go Go.SX Go.ChangeShapes Go.WideShapes Go.ChangeAt Go.RowKit Go.Deep
variable {H:Type}{W:World}{a:Addr}
theorem Cp9:ownKnob Tryz.prog.godebug=none:=by kernel_rfl
theorem laidOut:laidOutB Tryz.prog=true:=by kernel_rfl
theorem Ct5:Tryz.prog.cellsOf 9=1:=by kernel_rfl
theorem Cf4 {b:Nat}{o:Nat}{v:Value}(h:W.cell? ⟨b,o,none⟩=some v): ∃cs t c,W.heap[b]?=some (.cells cs t c)/\cs[o]?=some v:=by
 unfold World.cell? at h
 cases e:W.heap[b]? with
 | none=>simp[e] at h
 | some d=>
  cases d with
  | cells cs t c=>exact⟨cs,t,c,rfl,by simpa[e] using h⟩
  | _=>simp[e] at h
theorem Ev9 (d:DataW H):1<=Rows.uptoBulk d:=by
 cases d with
 | lit l=>cases l<;>simp[Rows.uptoBulk]
 | nil=>simp[Rows.uptoBulk]
 | ptr d=>simp[Rows.uptoBulk]
 | slice elems spare=>simp[Rows.uptoBulk]
 | agg parts=>simp[Rows.uptoBulk]
 | iface t d=>simp[Rows.uptoBulk]
 | map entries=>simp[Rows.uptoBulk]
 | held h=>simp[Rows.uptoBulk]
theorem Eo6 {d:DataW H}{l:List (DataW H)}(h:d∈l):Rows.uptoBulk d<=Rows.uptoBulkAll l:=by
 induction l with
 | nil=>cases h
 | cons x r ih=>
  simp only[Rows.uptoBulkAll]
  cases List.mem_cons.1 h with
  | inl e=>subst e;omega
  | inr e=>have:=ih e;omega
theorem Dj1 (l:List (DataW H)):l.length<=Rows.uptoBulkAll l:=by
 induction l with
 | nil=>simp[Rows.uptoBulkAll]
 | cons x r ih=>have:=Ev9 x;simp only[Rows.uptoBulkAll,List.length_cons];omega
theorem Bz7 {V:Nat->List Value}{n c sz:Nat}(h: ∀j,j<n->∀i v,(V j)[i]?=some v->W.cell? (a.add (j*sz+i))=some v)(k: ∀j,j<n->(V j).length=sz)(m:0<sz)(B:n<=c)(o:c<=maxLen)(h1: ∀j,j<n->∀u∈V j,u.oneCell'=true):
  Bf9 ⟨W,λ _=>False⟩ sz ⟨some a,n,c⟩ ((List.range n).map V):=by
 have g: ∀x∈(List.range n).map V,x.length=sz/\∀u∈x,u.oneCell'=true:=by
  intro x d;obtain⟨j,f,rfl⟩:=List.mem_map.1 d;exact⟨k j (List.mem_range.1 f),h1 j (List.mem_range.1 f)⟩
 by_cases C:n=0
 ·subst C
  exact⟨0,rfl,Nat.zero_le _,o,g,.inl rfl⟩
 ·obtain⟨b,off,sp⟩:=a
  have I:=k 0 (by omega);obtain⟨v0,D⟩: ∃v,(V 0)[0]?=some v:=⟨_,List.getElem?_eq_getElem (by omega)⟩;have p:=h 0 (by omega) 0 v0 D;have E:sp=none:=by simpa[Addr.add] using World.cell?_spot p
  subst E;obtain⟨cs,t,F,r,_⟩:=Cf4 (by rw[<-add_plain];exact p);refine⟨t,by simp,B,o,g,.inr ⟨b,off,cs,F,rfl,id,r,λ j v f=>?_⟩⟩;have l:=(List.getElem?_eq_some_iff.1 f).1;rw[Ac0 (sz:=sz) (λ x d=>(g x d).1)] at l;simp only[List.length_map,List.length_range] at l;have hi:j/sz<n:=(Nat.div_lt_iff_lt_mul m).2 l;have hm:j%sz<sz:=Nat.mod_lt _ m;have e:j/sz*sz+j%sz=j:=by rw[Nat.mul_comm];exact Nat.div_add_mod j sz
  have d:((List.range n).map V)[j/sz]?=some (V (j/sz)):=by simp[hi]
  have J:=k _ hi;have w:=Ao8 (sz:=sz) (λ x d=>(g x d).1) d (j:=j%sz) (v:=(V (j/sz))[j%sz]'(by omega)) (List.getElem?_eq_getElem (by omega));rw[e,f] at w;have y:=h _ hi (j%sz) v (by rw[w];exact List.getElem?_eq_getElem (by omega));rw[e,add_plain] at y;obtain⟨N,O,P,A,G⟩:=Cf4 y;rw[r] at A;cases A;exact G
theorem Ig6 {n c:Nat}{V:Nat->Value}(h: ∀j,j<n->W.cell? (a.add j)=some (V j))(w:n<=c)(f:c<=maxLen)(h1: ∀j,j<n->(V j).oneCell'=true):Bf9 ⟨W,λ _=>False⟩ 1 ⟨some a,n,c⟩ ((List.range n).map λ j=>[V j]):=by
 have g: ∀x∈(List.range n).map (λ j=>[V j]),x.length=1/\∀u∈x,u.oneCell'=true:=by
  intro x A;obtain⟨j,d,rfl⟩:=List.mem_map.1 A;exact⟨rfl,λ u hu=>by rw[List.mem_singleton.1 hu];exact h1 j (List.mem_range.1 d)⟩
 by_cases B:n=0
 ·subst B
  exact⟨0,rfl,Nat.zero_le _,f,g,.inl rfl⟩
 ·obtain⟨b,off,sp⟩:=a
  have C:sp=none:=by simpa[Addr.add] using World.cell?_spot (h 0 (by omega))
  subst C;have k: ∀j,j<n->W.cell? ⟨b,off+j,none⟩=some (V j):=λ j d=>by rw[<-add_plain];exact h j d
  obtain⟨cs,t,D,m,_⟩:=Cf4 (k 0 (by omega));refine⟨t,by simp,w,f,g,.inr ⟨b,off,cs,D,rfl,id,m,λ j v d=>?_⟩⟩;have e:((List.range n).map λ j=>[V j]).flatten=(List.range n).map V:=by
   rw[<-List.flatMap_def];generalize List.range n=l
   induction l with
   | nil=>rfl
   | cons y r ih=>simp[List.flatMap_cons,ih]
  rw[e] at d;have o:j<n:=by
   have:=(List.getElem?_eq_some_iff.1 d).1
   simpa using this
  obtain⟨F,G,I,p,E⟩:=Cf4 (k j o);rw[m] at p;cases p;simp[o] at d;rw[<-d];exact E
end Go.Proofs.YtkgeopnakkcdoaaGreatDoor
namespace Go.Proofs.YtkgeopnakkcdoaaGreatDoor
open Go Go.SX Go.ChangeShapes Go.WideShapes Go.ChangeAt Go.RowKit Go.Deep
variable {H:Type}{W:World}{fuel:Nat}
theorem Cf7:Tryz.prog.cellsOf 132=2:=by kernel_rfl
theorem open_pair {cs:List Value}{enc:TypeId×Value->H}{x:DataW H×List MemPlace}(h:DataW.trod enc Tryz.prog W 0 (λ _=>true) true fuel 132 cs=some x):
  ∃a b:ByteArray,cs = [.string a,.string b]/\a.size<=Rows.uptoBulk x.1/\b.size<=Rows.uptoBulk x.1:=by
 obtain⟨xs,k,rfl,rfl,c,f,d⟩:=DataW.trod_struct Tryz.underlying132 h;rw[Cf7] at c;have g0:DataW.trod enc Tryz.prog W 0 (λ _=>true) true k 9 ((cs.drop 0).take (Tryz.prog.cellsOf 9))=xs[0]?:=d 0 _ rfl;have g1:DataW.trod enc Tryz.prog W 0 (λ _=>true) true k 9 ((cs.drop 1).take (Tryz.prog.cellsOf 9))=xs[1]?:=d 1 _ rfl;rw[Ct5] at g0 g1
 match cs,c,xs,f with
 | [v0,v1],_,[g,j],_=>
  have g0:DataW.trod enc Tryz.prog W 0 (λ _=>true) true k 9 [v0]=some g:=g0;have g1:DataW.trod enc Tryz.prog W 0 (λ _=>true) true k 9 [v1]=some j:=g1;obtain⟨s0,l,rfl,_⟩:=DataW.trod_string Tryz.underlying9 g0;obtain⟨s1,h1,rfl,_⟩:=DataW.trod_string Tryz.underlying9 g1;have m:v0=Value.string s0:=(List.cons.inj (show[v0] = [Value.string s0] from l)).1;have k1:v1=Value.string s1:=(List.cons.inj (show[v1] = [Value.string s1] from h1)).1;subst m k1;refine⟨s0,s1,rfl,?_⟩;have n:s0.data.toList.length=s0.size:=by rw[Array.length_toList];rfl
  have o:s1.data.toList.length=s1.size:=by rw[Array.length_toList];rfl
  simp only[List.map_cons,List.map_nil,Rows.uptoBulk,Rows.uptoBulkAll];omega
def prc (t:ByteArray×ByteArray):List Value:=[.string t.1,.string t.2]
def Bs7 (W:PW) (s:Sl) (L:List (ByteArray×ByteArray)):Prop:=Bf9 W 2 s (L.map prc)
theorem Gc9 {p:List MemPlace}{enc:TypeId×Value->H}{v:Value}{d:DataW H}(h:DataW.trod enc Tryz.prog W 0 (λ _=>true) true fuel 24 [v]=some (d,p)):
  ∃(s:Sl) (L:List (ByteArray×ByteArray)),v=s.v/\Bs7 ⟨W,λ _=>False⟩ s L/\L.length<=Rows.uptoBulk d/\∀t∈L,t.1.size<=Rows.uptoBulk d/\t.2.size<=Rows.uptoBulk d:=by
 rcases open_slice Tryz.underlying24 h with⟨k,o⟩ | ⟨a,len,cap,m,n,D,P,k,_,C,hm,r,o,w⟩
 ·have f:v = .slice none 0 0:=by simpa using k
  subst f;exact⟨⟨none,0,0⟩,[],rfl,⟨0,rfl,Nat.le_refl _,Nat.zero_le _,λ x h=>by simp at h,.inl rfl⟩,Nat.zero_le _,λ l h=>by simp at h⟩
 ·have f:v = .slice (some a) len cap:=by simpa using k
  subst f;simp only[if_true] at r;subst r;simp only[Prod.mk.injEq] at o;obtain⟨rfl,_⟩:=o;rw[Cf7] at w;obtain⟨q,A⟩: ∃q:Nat->ByteArray×ByteArray,∀i,i<m->W.cells? 0 (a.add (i*2)) 2=some (prc (q i))/\(q i).1.size<=Rows.uptoBulk (D i)/\(q i).2.size<=Rows.uptoBulk (D i):=by
   have:Inhabited (ByteArray×ByteArray):=⟨(⟨#[]⟩,⟨#[]⟩)⟩;refine choose_lt (α:=ByteArray×ByteArray) (p:=λ i q=>W.cells? 0 (a.add (i*2)) 2=some (prc q)/\q.1.size<=Rows.uptoBulk (D i)/\q.2.size<=Rows.uptoBulk (D i)) λ i hi=>?_;obtain⟨Q,h1,B⟩:=w i hi;obtain⟨x,y,rfl,E,F⟩:=open_pair B;exact⟨(x,y),h1,E,F⟩
  have G:=Bz7 (W:=W) (a:=a) (n:=len) (c:=m) (sz:=2) (V:=λ i=>prc (q i)) (λ j g i v f=>by
   obtain⟨_,hlen,I⟩:=World.cells?_some (A j (by omega)).1;have hi:i<2:=by have:=(List.getElem?_eq_some_iff.1 f).1;omega
   have:=I i hi;rw[add_add] at this;rw[this];exact f) (λ j g=>rfl) (by omega) C hm (λ j g u hu=>by
   simp only[prc,List.mem_cons,List.not_mem_nil,or_false] at hu;rcases hu with rfl | rfl<;>rfl)
  have J: ∀i,i<len->Rows.uptoBulk (D i)<=Rows.uptoBulkAll ((List.range len).map D):=λ i hi=>Eo6 (List.mem_map.2 ⟨i,List.mem_range.2 hi,rfl⟩);have hlen:=Dj1 ((List.range len).map D);simp only[List.length_map,List.length_range] at hlen;refine⟨⟨some a,len,m⟩,(List.range len).map q,rfl,?_,?_,λ t N=>?_⟩
  ·unfold Bs7
   rw[List.map_map];exact G
  ·simp only[List.length_map,List.length_range,Rows.uptoBulk]
   omega
  ·obtain⟨j,g,rfl⟩:=List.mem_map.1 N
   have O:=List.mem_range.1 g;have h1:=J j O;have B:=(A j (by omega)).2;simp only[Rows.uptoBulk];omega
end Go.Proofs.YtkgeopnakkcdoaaGreatDoor
namespace Go.Proofs.YtkgeopnakkcdoaaGreatDoor
open Go Go.SX
variable {K:Value->PW->Prop}{M:Nat->Prop}{W W0:PW}{b:Bool}{e z:Int}{q:Rat}{s t:Sl}{x:Nat}
theorem Fl1 (h:0<(dg 1).length):(dg 1)[0]=1:=by
 have e:dg 1 = [1]:=by rw[Bk2 (by decide),show 1/B=0 by decide,Ae8];rfl
 simp[e]
theorem Dk9 (r:Ac6 W0)(h:Aa6 257 W0 s x)(u:nl x<=30000):
  Aa0 Tryz.prog 244 [.agg ⟨[s.v]⟩] W0 M λ v W'=>∃(i:Int),v = .int .i64 i/\(0<=i/\i<=960032)/\(x=1->i=0):=by
 apply Bi6;have w:=h.n;refine⟨λ L W=>match L with | [.val (.int .i64 z)]=>∃j:Nat,z=(j:Int)/\j<=nl x/\Ext W0 W/\(x=1->j=0) | _=>False,(λ L _=>match L with | [.val (.int .i64 z)]=>nl x-z.toNat | _=>0),⟨0,rfl,Nat.zero_le _,Ext.refl _,λ _=>rfl⟩,?_⟩;rintro i3 y ⟨j,rfl,A,d,f⟩;refine⟨λ B=>?_,λ C D _=>⟨0,rfl,⟨by omega,by omega⟩,λ _=>rfl⟩⟩;have g:j<nl x:=by omega
 have k:=h.ext d;have E:(dg x).length=nl x:=rfl;have m:(dg x)[j]<4294967296:=Ad8 x _ (List.getElem_mem (l:=dg x) (n:=j) g);have o:x=1->(dg x)[j]=1:=λ e=>by
  have:=f e;subst this;subst e;exact Fl1 _
 refine⟨Ad4.inB k (by omega) (by omega),_,Ad4.at k g,λ F=>⟨by unfold I64;omega,?_⟩,λ heq=>⟨by unfold I64;omega,⟨j+1,by push_cast;rfl,by omega,d,λ e=>by have:=o e;omega⟩,?_⟩⟩
 ·refine El3 (r.ext d) m λ G I _=>⟨_,rfl,?_⟩
  have J:Go.Lib.ctz 32 (dg x)[j]<=32:=by
   by_cases p:(dg x)[j]=0
   ·unfold Go.Lib.ctz;rw[if_pos p];exact Nat.le_refl _
   ·exact Nat.le_of_lt (Go.Lib.lowest_bit 32 _ p m).2
  refine⟨by unfold I64;omega,λ N O=>⟨_,rfl,⟨by omega,by omega⟩,λ e=>?_⟩⟩;have c:Go.Lib.ctz 32 (dg x)[j]=0:=by rw[o e];decide
  have:=f e;omega
 ·show nl x-Int.toNat ((j:Int)+1)<nl x-Int.toNat (j:Int)
  omega
theorem At1 (d:Ac6 W)(h:Aa6 257 W s x)(f:nl x<=30000)(g: ∀(i:Int) (W':PW),Ext W W'->((0<=i/\i<=960032)/\(x=1->i=0))->K (.int .i64 i) W'):
  Aa1 Tryz.prog W0 M 244 [.agg ⟨[s.v]⟩] W K:=
 Mi4 (λ _ c=>Dk9 (d.ext c) (h.ext c) f) fun | _,W',c,⟨i,rfl,h⟩=>g i W' c h
theorem En5 (h:Ab3 257 W0 s b t q):
  Aa0 Tryz.prog 246 [.agg ⟨[s.v,.bool b,t.v]⟩] W0 M λ v W'=>v = .agg ⟨[Sl.v s,.bool b]⟩/\True:=by
 apply Bs9;exact λ c _=>⟨rfl,trivial⟩
theorem De2 (h:Ab3 257 W s b t q)(d: ∀(W':PW),Ext W W'->(True)->K (.agg ⟨[Sl.v s,.bool b]⟩) W'):
  Aa1 Tryz.prog W0 M 246 [.agg ⟨[s.v,.bool b,t.v]⟩] W K:=
 Mi4 (λ _ c=>En5 (h.ext c)) fun | _,W',c,⟨rfl,h⟩=>d W' c h
theorem Eb2 (m:Ac6 W0)(h:Ab5 257 W0 s b z)(d:nl z.natAbs<=30000)(he: -10000000<=e/\e<=10000000):
  Aa0 Tryz.prog 245 [.agg ⟨[s.v,.bool b]⟩,.int .i64 e] W0 M λ v W'=>∃(s':Sl),∃(b':Bool),∃(i:Int),v = .agg ⟨[Sl.v s',.bool b',.int .i64 i]⟩/\True:=by
 apply Da4;refine Ai5 h (by omega) λ B c _=>⟨_,rfl,λ _ C _=>⟨⟨none,0,0⟩,false,0,rfl,trivial⟩,λ _=>?_⟩;refine Ag5 (h.ext c) λ n D f o=>⟨n,rfl,?_⟩;refine At1 (m.ext (c.trans f)) o d λ i10 E p ⟨hi,_⟩=>⟨i10,rfl,by unfold I64;omega,?_⟩;have g:=c.trans (f.trans p);refine Ai5 (h.ext g) (by omega) λ F r _=>⟨_,rfl,?_⟩;refine Ag5 (h.ext (g.trans r)) λ u G I w=>⟨u,rfl,?_⟩;obtain⟨k,rfl⟩:=Int.eq_ofNat_of_zero_le hi.1;refine Br2 w (by omega) (by omega) λ y J N A=>⟨y,rfl,?_⟩;have O:nl (z.natAbs/2^k)<=30000:=Nat.le_trans (Ad1 (Nat.div_le_self _ _)) d;refine Ad6 A (by omega) λ j l P Q R=>⟨j,l,rfl,λ S _=>⟨j,l,_,rfl,trivial⟩⟩
theorem Cu2 (d:Ac6 W)(h:Ab5 257 W s b z)(f:nl z.natAbs<=30000)(he: -10000000<=e/\e<=10000000)(g: ∀(s':Sl) (b':Bool) (i:Int) (W':PW),Ext W W'->(True)->K (.agg ⟨[Sl.v s',.bool b',.int .i64 i]⟩) W'):
  Aa1 Tryz.prog W0 M 245 [.agg ⟨[s.v,.bool b]⟩,.int .i64 e] W K:=
 Mi4 (λ _ c=>Eb2 (d.ext c) (h.ext c) f he) fun | _,W',c,⟨s',b',i,rfl,h⟩=>g s' b' i W' c h
theorem Ej8 (g:Ac6 W0)(h:Ab3 257 W0 s b t q)(j:Sz 4000 q):
  Aa0 Tryz.prog 197 [.agg ⟨[s.v,.bool b,t.v]⟩] W0 M λ v W'=>∃(s':Sl),∃(b':Bool),∃(i:Int),∃(ok:Bool),v = .tuple ⟨[.agg ⟨[Sl.v s',.bool b',.int .i64 i]⟩,.bool ok]⟩/\(q.den=1->ok=true):=by
 apply Dg7;have D:nl q.den<=4000:=j.2;refine Bc0 h j (by omega) λ s3 r E u w=>⟨s3,r,rfl,?_⟩;refine Ag5 w λ y F A c=>⟨y,rfl,?_⟩;rw[Int.natAbs_natCast] at c;have l:=u.trans A;refine At1 (g.ext l) c (by omega) λ i10 G k ⟨hi,B⟩=>⟨i10,rfl,?_⟩;refine Ac9 (c.ext k) (by omega) λ I m _=>⟨_,rfl,?_⟩;have J:=Dm3 q.den;refine⟨by unfold I64;omega,λ C N _=>⟨⟨none,0,0⟩,false,0,false,rfl,λ e=>absurd (by rw[B e,e];decide) C⟩,λ _=>?_⟩;have d:=l.trans (k.trans m);refine De2 (h.ext d) λ O f _=>⟨s,b,rfl,?_⟩;refine At1 (g.ext (d.trans f)) (c.ext (k.trans (m.trans f))) (by omega) λ i21 P n ⟨Q,_⟩=>⟨i21,rfl,by unfold I64;omega,?_⟩;refine Cu2 (g.ext (d.trans (f.trans n))) (h.ext (d.trans (f.trans n))).1 (by have:=j.1;omega) (by omega) λ o p i26 R S _=>⟨o,p,i26,rfl,λ U _=>⟨o,p,i26,true,rfl,λ _=>rfl⟩⟩
theorem Bx3 (d:Ac6 W)(h:Ab3 257 W s b t q)(f:Sz 4000 q)(g: ∀(s':Sl) (b':Bool) (i:Int) (ok:Bool) (W':PW),Ext W W'->((q.den=1->ok=true))->K (.tuple ⟨[.agg ⟨[Sl.v s',.bool b',.int .i64 i]⟩,.bool ok]⟩) W'):
  Aa1 Tryz.prog W0 M 197 [.agg ⟨[s.v,.bool b,t.v]⟩] W K:=
 Mi4 (λ _ c=>Ej8 (d.ext c) (h.ext c) f) fun | _,W',c,⟨s',b',i,ok,rfl,h⟩=>g s' b' i ok W' c h
end Go.Proofs.YtkgeopnakkcdoaaGreatDoor
namespace Go.Proofs.YtkgeopnakkcdoaaGreatDoor
open Go Go.SX
variable {K:Value->PW->Prop}{L Lt:List (ByteArray×ByteArray)}{M:Nat->Prop}{W W0:PW}{a b:ByteArray}{bs:List Iv}{q:Rat}{s t:Sl}{x:Nat}
theorem Fi3 {a b:ByteArray}:IvS 4000 ((spP a b).getD (0,0)):=by
 cases e:spP a b with
 | none=>exact⟨Sz.zero (by omega),Sz.zero (by omega)⟩
 | some x=>
  obtain⟨c,d,f⟩:=Dp3 e;exact⟨(Aw6 c).1,(Aw6 d).1⟩
theorem Eb3 (m:Ac6 W0)(G:a.size<=1099511627776)(I:b.size<=1099511627776):
  Aa0 Tryz.prog 133 [.agg ⟨[.string a,.string b]⟩] W0 M λ v W'=>∃(l:List Value),∃(i:Int),∃(x:Iv),v = .tuple ⟨[.agg ⟨l⟩,.int .i64 i]⟩/\SpV 257 W' l x/\(i=0->spP a b=some x/\x.1<x.2)/\(∀y,spP a b=some y->y.1<y.2->y.1.den=1->y.2.den=1->i=0):=by
 apply Cq0;refine Az3 G I λ l e W2 n ⟨f,he⟩=>?_;obtain⟨s3,o,p,r,u,w,rfl,q1,g⟩:=f;have j:=@Fi3 a b;refine⟨s3,o,p,r,u,w,e,rfl,?_⟩;refine Bx3 (m.ext n) q1 j.1 λ J N i14 O ae k A=>⟨J,N,i14,O,rfl,?_⟩;refine Bx3 (m.ext (n.trans k)) (g.ext k) j.2 λ P Q i20 R af S B=>⟨P,Q,i20,R,rfl,λ C U _=>⟨_,e,(0,0),rfl,SpV.zero U,λ h=>absurd h C,λ y c _ _ _=>absurd (he.2 (by rw[c];rfl)) C⟩,λ V=>?_⟩;have E:=k.trans S;refine Aj2 (q1.ext E) (g.ext E) j.1 j.2 (by omega) (by omega) λ ag X _=>⟨_,rfl,λ d Y _=>⟨_,1,(0,0),rfl,SpV.zero Y,λ h=>by omega,λ y c Z _ _=>by rw[c] at d;exact absurd (El9.1 d) (Rat.not_le.2 Z)⟩,λ d=>⟨λ h1 aa _=>⟨_,2,(0,0),rfl,SpV.zero aa,λ h=>by omega,λ y c _ d1 _=>by rw[c] at A;rw[A d1] at h1;exact absurd h1 (by decide)⟩,λ _=>⟨λ f ab _=>⟨_,2,(0,0),rfl,SpV.zero ab,λ h=>by omega,λ y c _ _ d2=>by rw[c] at B;rw[B d2] at f;exact absurd f (by decide)⟩,λ _ ah ac=>?_⟩⟩⟩;obtain⟨x,D⟩:=Option.isSome_iff_exists.1 (he.1 (Decidable.not_not.1 V));rw[D] at q1 g d;have d:¬0<=Co4 x.1 x.2:=d;have F:=E.trans (X.trans ac);exact⟨_,0,x,rfl,⟨s3,o,p,r,u,w,rfl,q1.ext F,g.ext F⟩,λ _=>⟨D,At6.1 (by omega)⟩,λ _ _ _ _ _=>rfl⟩
theorem Cq6 (d:Ac6 W)(f:a.size<=1099511627776)(g:b.size<=1099511627776)(j: ∀(l:List Value) (i:Int) (x:Iv) (W':PW),Ext W W'->(SpV 257 W' l x/\(i=0->spP a b=some x/\x.1<x.2)/\(∀y,spP a b=some y->y.1<y.2->y.1.den=1->y.2.den=1->i=0))->K (.tuple ⟨[.agg ⟨l⟩,.int .i64 i]⟩) W'):
  Aa1 Tryz.prog W0 M 133 [.agg ⟨[.string a,.string b]⟩] W K:=
 Mi4 (λ _ c=>Eb3 (d.ext c) f g) fun | _,W',c,⟨l,i,x,rfl,h⟩=>j l i x W' c h
def bxI (W0:PW) (Lt:List (ByteArray×ByteArray)) (L:List PL) (W:PW):Prop:=match L with
 | [.row l,.val (.int .i64 z)]=>∃(j:Nat) (m:List Iv),z=(j:Int)/\j<=Lt.length/\Ext W0 W/\m.length=j/\An5 (SpV 257 W) l m/\(∀i (hi:i<m.length) (c:i<Lt.length),spP Lt[i].1 Lt[i].2=some m[i])/\∀x∈m,x.1<x.2
 | _=>False
def Gf1 (W0:PW) (Lt:List (ByteArray×ByteArray)) (L:List PL) (W:PW):Prop:=match L with
 | [.row l,.val (.int .i64 z)]=>∃(j:Nat) (m:List Iv),z=(j:Int)/\j<=Lt.length/\Ext W0 W/\m.length=j/\An5 (Ah6 257 W) l m/\(∀i (hi:i<m.length) (c:i<Lt.length),spP Lt[i].1 Lt[i].2=some m[i])
 | _=>False
def cnD (n:Nat) (L:List PL) (_:PW):Nat:=match L with
 | [_,.val (.int .i64 z)]=>n-z.toNat
 | _=>0
theorem Bs7.ext {W':PW}(h:Bs7 W s L)(c:Ext W W'):Bs7 W' s L:=let⟨ty,h⟩:=h;⟨ty,h.ext c⟩
theorem Bs7.n (h:Bs7 W s L):s.n=L.length:=let⟨ty,h⟩:=h;by have:=h.1;rwa [List.length_map] at this
theorem Bs7.inB {i:Int}(h:Bs7 W s L)(c:0<=i)(h1:i<(L.length:Int)):SX.inB s i:=let⟨ty,h⟩:=h;Row.inB h c (by rw[List.length_map];exact h1)
theorem Bs7.part {m:List Value}(h:Bs7 W s L){i:Nat}(hi:i<L.length)(off:Nat)(hm:((prc L[i]).drop off).take m.length=m):Aa7 W s 2 i off m:=let⟨ty,h⟩:=h;Row.part h (x:=prc L[i]) (by rw[List.getElem?_map,List.getElem?_eq_getElem hi];rfl) off hm
theorem Fc1 {m:List Iv}{x:Iv}(h: ∀i (hi:i<m.length) (c:i<Lt.length),spP Lt[i].1 Lt[i].2=some m[i])(f:m.length<Lt.length)(d:spP Lt[m.length].1 Lt[m.length].2=some x): ∀i (hi:i<(m ++ [x]).length) (c:i<Lt.length),spP Lt[i].1 Lt[i].2=some (m ++ [x])[i]:=λ i hi c=>by
 by_cases e:i<m.length
 ·rw[List.getElem_append_left e]
  exact h i e c
 ·have:i=m.length:=by simp at hi;omega
  subst this;rw[List.getElem_concat_length rfl];exact d
def Br9 (Lt:List (ByteArray×ByteArray)):Prop:=1<=Lt.length/\Lt.length<=3/\∀t∈Lt,∃y,spP t.1 t.2=some y/\y.1<y.2/\y.1.den=1/\y.2.den=1
theorem Dd2 (J:Ac6 W0)(h:Bs7 W0 s Lt)(hl:Lt.length<=1099511627776)(N: ∀t∈Lt,t.1.size<=1099511627776/\t.2.size<=1099511627776):
  Aa0 Tryz.prog 50 [s.v] W0 M λ v W'=>∃(s':Sl),∃(i:Int),∃(bs:List Iv),v = .tuple ⟨[Sl.v s',.int .i64 i]⟩/\Bc3 257 W' s' bs/\(i=0->Cn7 bs/\bs.length=Lt.length/\∀i (hi:i<bs.length) (O:i<Lt.length),spP Lt[i].1 Lt[i].2=some bs[i])/\(i≠0->bs = [])/\(Br9 Lt->i=0):=by
 apply Ci3;have hn:=h.n;have bad: ∀(c:Int),c≠0->¬Br9 Lt->∀W':PW,∃(s':Sl) (i:Int) (bs:List Iv),(Value.tuple ⟨[.slice none 0 0,.int .i64 c]⟩) = .tuple ⟨[Sl.v s',.int .i64 i]⟩/\Bc3 257 W' s' bs/\(i=0->Cn7 bs/\bs.length=Lt.length/\∀i (hi:i<bs.length) (O:i<Lt.length),spP Lt[i].1 Lt[i].2=some bs[i])/\(i≠0->bs = [])/\(Br9 Lt->i=0):=
  λ c P Q W'=>⟨⟨none,0,0⟩,c,[],rfl,Dr1.nil W',λ e=>absurd e P,λ _=>rfl,λ g=>absurd g Q⟩
 refine⟨λ h R _=>bad 1 (by omega) (λ g=>by have:=g.1;omega) R,λ h1=>⟨λ h S _=>bad 1 (by omega) (λ g=>by have:=g.2.1;omega) S,λ h3=>?_⟩⟩;refine⟨bxI W0 Lt,cnD Lt.length,⟨0,[],rfl,Nat.zero_le _,Ext.refl _,rfl,trivial,λ i hi=>by simp at hi,λ x k=>(by cases k)⟩,?_⟩;rintro U i6 W7 ⟨j,m,rfl,hj,n,V,o,p,r⟩;have ap:=o.len;refine⟨λ aq=>?_,λ ar X au Y Z _ av u=>⟨X,0,m,rfl,⟨U,⟨_,Z.row.ext u⟩,o.mono λ _ _ h=>h.ext (Y.trans u)⟩,λ _=>⟨⟨by omega,r⟩,by omega,p⟩,λ e=>absurd rfl e,λ _=>rfl⟩⟩;have f:j<Lt.length:=by omega
 have w:=h.ext n;obtain⟨z1,z2⟩:=N _ (List.getElem_mem f);refine⟨w.inB (by omega) (by omega),Lt[j].1,Lt[j].2,w.part f 0 rfl,?_⟩;refine Cq6 (J.ext n) z1 z2 λ l e x aw A ⟨k,he,ab⟩=>?_;obtain⟨B,C,D,E,F,G,rfl,q1,q2⟩:=k;refine⟨B,C,D,E,F,G,e,rfl,λ I ad _=>bad e I (λ g=>by obtain⟨y,y1,y2,y3,y4⟩:=g.2.2 _ (List.getElem_mem f);exact I (ab y y1 y2 y3 y4)) ad,λ h0=>?_⟩;obtain⟨k1,k2⟩:=he (Decidable.not_not.1 h0);subst V;refine⟨by simp only[List.length_cons,List.length_nil];omega,by unfold I64;omega,⟨m.length+1,m ++ [x],by push_cast;rfl,by omega,n.trans A,by simp,(o.mono λ _ _ h=>h.ext A).append ⟨⟨B,C,D,E,F,G,rfl,q1,q2⟩,trivial⟩,Fc1 p f k1,λ y d=>?_⟩,?_⟩
 ·rcases List.mem_append.1 d with d | d
  ·exact r y d
  ·rw[List.mem_singleton.1 d];exact k2
 ·show Lt.length-Int.toNat ((m.length:Int)+1)<Lt.length-Int.toNat (m.length:Int)
  omega
theorem Cg0 (d:Ac6 W)(h:Bs7 W s Lt)(f:Lt.length<=1099511627776)(g: ∀t∈Lt,t.1.size<=1099511627776/\t.2.size<=1099511627776)(j: ∀(s':Sl) (i:Int) (bs:List Iv) (W':PW),Ext W W'->(Bc3 257 W' s' bs/\(i=0->Cn7 bs/\bs.length=Lt.length/\∀i (hi:i<bs.length) (k:i<Lt.length),spP Lt[i].1 Lt[i].2=some bs[i])/\(i≠0->bs = [])/\(Br9 Lt->i=0))->K (.tuple ⟨[Sl.v s',.int .i64 i]⟩) W'):
  Aa1 Tryz.prog W0 M 50 [s.v] W K:=
 Mi4 (λ _ c=>Dd2 (d.ext c) (h.ext c) f g) fun | _,W',c,⟨s',i,bs,rfl,h⟩=>j s' i bs W' c h
theorem Gd2 {n:Nat}(h:Aa6 257 W0 s x)(k:n<=1000000):
  Aa0 Tryz.prog 243 [s.v,.int .i64 (n:Int)] W0 M λ v W'=>∃(i:Int),v = .int .u32 i/\True:=by
 apply Ga8;have l:=h.n;have c:Int.tdiv (n:Int) 32=((n/32:Nat):Int):=rfl;have d:Int.tmod (n:Int) 32=((n%32:Nat):Int):=rfl;have f:IntKind.wrap .i64 (Int.tdiv (n:Int) 32)=((n/32:Nat):Int):=by rw[c];exact wrap_i64 (by unfold I64;omega)
 have g:IntKind.wrap .u64 (Int.tmod (n:Int) 32)=((n%32:Nat):Int):=by rw[d];exact wrap64 (by omega) (by omega)
 rw[f,g];refine⟨λ m=>by omega,λ _=>⟨by decide,λ _ o _=>⟨_,rfl,trivial⟩,λ p=>?_⟩⟩;have r:(dg x).length=nl x:=rfl;have j:n/32<(dg x).length:=by omega
 refine⟨by decide,Ad4.inB h (by omega) (by omega),_,Ad4.at h j,by decide,⟨by omega,?_⟩,λ u _=>⟨_,rfl,trivial⟩⟩;show((n%32:Nat):Int)<=32;omega
theorem Gb2 {n:Nat}(h:Aa6 257 W s x)(d:n<=1000000)(f: ∀(i:Int) (W':PW),Ext W W'->(True)->K (.int .u32 i) W'):
  Aa1 Tryz.prog W0 M 243 [s.v,.int .i64 (n:Int)] W K:=
 Mi4 (λ _ c=>Gd2 (h.ext c) d) fun | _,W',c,⟨i,rfl,h⟩=>f i W' c h
theorem Ga9 (h:Aa6 257 W0 s x)(f:nl x<=30000):
  Aa0 Tryz.prog 195 [s.v] W0 M λ v W'=>∃(i:Int),v = .int .i64 i/\(0<=i/\i<=960000):=by
 apply Fy7;have g:=h.n;refine⟨λ L W=>match L with | [.val (.int .i64 z)]=>∃j:Nat,z=(j:Int)/\j<=32*nl x/\Ext W0 W | _=>False,(λ L _=>match L with | [.val (.int .i64 z)]=>32*nl x-z.toNat | _=>0),⟨0,rfl,Nat.zero_le _,Ext.refl _⟩,?_⟩;rintro i3 k ⟨j,rfl,l,c⟩;refine⟨by unfold I64;omega,λ m=>?_,λ _ n _=>⟨_,rfl,by omega,by omega⟩⟩;refine Gb2 (h.ext c) (by omega) λ i7 o d _=>⟨i7,rfl,λ _=>⟨by unfold I64;omega,⟨j+1,by push_cast;rfl,by omega,c.trans d⟩,?_⟩,λ _ p _=>⟨_,rfl,by omega,by omega⟩⟩;show 32*nl x-Int.toNat ((j:Int)+1)<32*nl x-Int.toNat (j:Int);omega
theorem Fz6 (h:Aa6 257 W s x)(d:nl x<=30000)(f: ∀(i:Int) (W':PW),Ext W W'->((0<=i/\i<=960000))->K (.int .i64 i) W'):
  Aa1 Tryz.prog W0 M 195 [s.v] W K:=
 Mi4 (λ _ c=>Ga9 (h.ext c) d) fun | _,W',c,⟨i,rfl,h⟩=>f i W' c h
theorem Fz9 {b:Bool}(h:Ab6 257 W0 b s t q)(c:Sz 4000 q):
  Aa0 Tryz.prog 132 [.agg ⟨[.bool b,s.v,t.v]⟩] W0 M λ v W'=>∃(ok:Bool),v = .bool ok/\True:=by
 apply Fy0;have l:nl q.den<=4000:=c.2;have m:=Dm3 q.den;refine Ag4 h λ s3 n d f=>⟨s3,rfl,Fz6 f (by omega) λ i6 o g hi=>⟨i6,rfl,Ag4 (h.ext (d.trans g)) λ j p r k=>⟨j,rfl,Bj8 k (by omega) λ u w _=>⟨_,rfl,by unfold I64;omega,λ y _=>⟨_,rfl,trivial⟩⟩⟩⟩⟩
theorem Fx3 {b:Bool}(h:Ab6 257 W b s t q)(d:Sz 4000 q)(f: ∀(ok:Bool) (W':PW),Ext W W'->(True)->K (.bool ok) W'):
  Aa1 Tryz.prog W0 M 132 [.agg ⟨[.bool b,s.v,t.v]⟩] W K:=
 Mi4 (λ _ c=>Fz9 (h.ext c) d) fun | _,W',c,⟨ok,rfl,h⟩=>f ok W' c h
theorem Fy9 (h:Bs7 W0 s Lt)(hl:Lt.length<=1099511627776)(J: ∀t∈Lt,t.1.size<=1099511627776/\t.2.size<=1099511627776):
  Aa0 Tryz.prog 49 [s.v] W0 M λ v W'=>∃(s':Sl),∃(i:Int),∃(bs:List Iv),v = .tuple ⟨[Sl.v s',.int .i64 i]⟩/\Fx4 257 W' s' bs/\(i=0->bs.length=Lt.length/\1<=bs.length/\∀i (hi:i<bs.length) (N:i<Lt.length),spP Lt[i].1 Lt[i].2=some bs[i]):=by
 apply Fx6;have hn:=h.n;have bad: ∀(c:Int),c≠0->∀W':PW,∃(s':Sl) (i:Int) (bs:List Iv),(Value.tuple ⟨[.slice none 0 0,.int .i64 c]⟩) = .tuple ⟨[Sl.v s',.int .i64 i]⟩/\Fx4 257 W' s' bs/\(i=0->bs.length=Lt.length/\1<=bs.length/\∀i (hi:i<bs.length) (N:i<Lt.length),spP Lt[i].1 Lt[i].2=some bs[i]):=
  λ c O W'=>⟨⟨none,0,0⟩,c,[],rfl,Dr1.nil W',λ e=>absurd e O⟩
 refine⟨λ _ P _=>bad 1 (by omega) P,λ h1=>⟨λ _ Q _=>bad 1 (by omega) Q,λ h3=>?_⟩⟩;refine⟨Gf1 W0 Lt,cnD Lt.length,⟨0,[],rfl,Nat.zero_le _,Ext.refl _,rfl,trivial,λ i hi=>by simp at hi⟩,?_⟩;rintro R i6 W7 ⟨j,m,rfl,hj,p,S,n,r⟩;have an:=n.len;refine⟨λ ao=>?_,λ ap U V d X _ aq u=>⟨U,0,m,rfl,⟨R,⟨_,X.row.ext u⟩,n.mono λ _ _ h=>h.ext (d.trans u)⟩,λ _=>⟨by omega,by omega,r⟩⟩⟩;have o:j<Lt.length:=by omega
 have w:=h.ext p;obtain⟨Y,z2⟩:=J _ (List.getElem_mem o);refine⟨w.inB (by omega) (by omega),Lt[j].1,Lt[j].2,w.part o 0 rfl,?_⟩;refine Bh8 Y z2 λ l e ar y ⟨f,he⟩=>?_;obtain⟨A,B,C,D,F,G,rfl,q1,g⟩:=f;have k:=@Fi3 Lt[j].1 Lt[j].2;refine⟨A,B,C,D,F,G,e,rfl,λ Z aa _=>bad e Z aa,λ h0=>?_⟩;obtain⟨x,f⟩:=Option.isSome_iff_exists.1 (he.1 (Decidable.not_not.1 h0));refine Ar1 q1 g k.1 k.2 (by omega) (by omega) λ V d _=>⟨_,rfl,λ _ ac _=>bad 1 (by omega) ac,λ _=>?_⟩;refine Fx3 (q1.ext d) k.1 λ ad au I _=>⟨ad,rfl,λ _ ae _=>bad 2 (by omega) ae,λ _=>?_⟩;refine Fx3 (g.ext (d.trans I)) k.2 λ af av ag _=>⟨af,rfl,λ _ ah _=>bad 2 (by omega) ah,λ _=>?_⟩;rw[f] at q1 g;have E:=d.trans (I.trans ag);subst S;refine⟨by simp only[List.length_cons,List.length_nil];omega,by unfold I64;omega,⟨m.length+1,m ++ [x],by push_cast;rfl,by omega,p.trans (y.trans E),by simp,(n.mono λ _ _ h=>h.ext (y.trans E)).append ⟨⟨A,B,C,D,F,G,rfl,q1.ext E,g.ext E⟩,trivial⟩,Fc1 r o f⟩,?_⟩;show Lt.length-Int.toNat ((m.length:Int)+1)<Lt.length-Int.toNat (m.length:Int);omega
theorem Fx9 (h:Bs7 W s Lt)(d:Lt.length<=1099511627776)(f: ∀t∈Lt,t.1.size<=1099511627776/\t.2.size<=1099511627776)(g: ∀(s':Sl) (i:Int) (bs:List Iv) (W':PW),Ext W W'->(Fx4 257 W' s' bs/\(i=0->bs.length=Lt.length/\1<=bs.length/\∀i (hi:i<bs.length) (j:i<Lt.length),spP Lt[i].1 Lt[i].2=some bs[i]))->K (.tuple ⟨[Sl.v s',.int .i64 i]⟩) W'):
  Aa1 Tryz.prog W0 M 49 [s.v] W K:=
 Mi4 (λ _ c=>Fy9 (h.ext c) d f) fun | _,W',c,⟨s',i,bs,rfl,h⟩=>g s' i bs W' c h
theorem Ga5 {n:Int}(h:Bs7 W0 s Lt)(r:Lt.length<=1099511627776):
  Aa0 Tryz.prog 41 [s.v,.int .i64 n] W0 M λ v W'=>∃(b:Bool),v = .bool b/\(b=true->∀t∈Lt,t.1.size<=30/\t.2.size<=30):=by
 apply Fy6;have u:=h.n;have bad: ∀W':PW,∃b:Bool,(Value.bool false) = .bool b/\(b=true->∀t∈Lt,t.1.size<=30/\t.2.size<=30):=λ W'=>⟨false,rfl,λ e=>by cases e⟩;refine⟨λ _ m _=>bad m,λ _=>⟨λ L W=>match L with | [.val (.int .i64 z)]=>∃j:Nat,z=(j:Int)/\j<=Lt.length/\Ext W0 W/\∀t∈Lt.take j,t.1.size<=30/\t.2.size<=30 | _=>False,(λ L _=>match L with | [.val (.int .i64 z)]=>Lt.length-z.toNat | _=>0),⟨0,rfl,Nat.zero_le _,Ext.refl _,λ t c=>by simp at c⟩,?_⟩⟩;rintro i4 w ⟨j,rfl,y,g,k⟩;have d:=h.ext g;refine⟨λ A=>?_,λ B C _=>⟨true,rfl,λ _=>?_⟩⟩
 ·have f:j<Lt.length:=by omega
  have l:=d.inB (i:=(j:Int)) (by omega) (by omega);refine⟨l,Lt[j].1,d.part f 0 rfl,λ _ o _=>bad o,λ h1=>⟨l,Lt[j].2,d.part f 1 rfl,λ _ p _=>bad p,λ D=>⟨by unfold I64;omega,⟨j+1,by push_cast;rfl,by omega,g,λ t c=>?_⟩,?_⟩⟩⟩
  ·rw[List.take_succ_eq_append_getElem f] at c
   rcases List.mem_append.1 c with c | c
   ·exact k t c
   ·rw[List.mem_singleton.1 c];omega
  ·show Lt.length-Int.toNat ((j:Int)+1)<Lt.length-Int.toNat (j:Int)
   omega
 ·have:j=Lt.length:=by omega
  subst this
  rwa [List.take_length] at k
theorem Fy8 {n:Int}(h:Bs7 W s Lt)(d:Lt.length<=1099511627776)(f: ∀(b:Bool) (W':PW),Ext W W'->((b=true->∀t∈Lt,t.1.size<=30/\t.2.size<=30))->K (.bool b) W'):
  Aa1 Tryz.prog W0 M 41 [s.v,.int .i64 n] W K:=
 Mi4 (λ _ c=>Ga5 (h.ext c) d) fun | _,W',c,⟨b,rfl,h⟩=>f b W' c h
theorem Eu1 {c:List Iv}(h:bs.length=Lt.length)(g:c.length=Lt.length)(k: ∀i (hi:i<bs.length) (d:i<Lt.length),spP Lt[i].1 Lt[i].2=some bs[i])(k': ∀i (hi:i<c.length) (d:i<Lt.length),spP Lt[i].1 Lt[i].2=some c[i]):bs=c:=by
 refine List.ext_getElem (by omega) λ i h1 f=>?_;have a:=k i h1 (by omega);rw[k' i f (by omega)] at a;exact(Option.some.inj a).symm
theorem Gd5 (h:bs.length=Lt.length)(k: ∀i (hi:i<bs.length) (j:i<Lt.length),spP Lt[i].1 Lt[i].2=some bs[i])(c: ∀t∈Lt,t.1.size<=30/\t.2.size<=30): ∀x∈bs,IvS 4 x:=λ x d=>by
 obtain⟨i,hi,rfl⟩:=List.getElem_of_mem d;obtain⟨f,g,_⟩:=Dp3 (k i hi (by omega));have:=c _ (List.getElem_mem (l:=Lt) (n:=i) (by omega));exact⟨Ct3 f this.1,Ct3 g this.2⟩
theorem Gd4 (l:Ac6 W0)(h:Bs7 W0 s Lt)(c:Lt.length<=1099511627776)(g: ∀t∈Lt,t.1.size<=1099511627776/\t.2.size<=1099511627776):
  Aa0 Tryz.prog 10 [s.v] W0 M λ v W'=>∃(s1:Sl),∃(s2:Sl),∃(ok:Bool),v = .tuple ⟨[Sl.v s1,Sl.v s2,.bool ok]⟩/\(ok=true->∃bs:List Iv,Bc3 257 W' s1 bs/\Fx4 257 W' s2 bs/\Cn7 bs/\∀x∈bs,IvS 4 x):=by
 apply Gb5;have bad: ∀W':PW,∃(s1 s2:Sl) (ok:Bool),(Value.tuple ⟨[.slice none 0 0,.slice none 0 0,.bool false]⟩) = .tuple ⟨[Sl.v s1,Sl.v s2,.bool ok]⟩/\(ok=true->∃bs:List Iv,Bc3 257 W' s1 bs/\Fx4 257 W' s2 bs/\Cn7 bs/\∀x∈bs,IvS 4 x):=λ W'=>⟨⟨none,0,0⟩,⟨none,0,0⟩,false,rfl,λ e=>by cases e⟩;refine Fy8 h c λ m I j n=>⟨m,rfl,λ _ o _=>bad o,λ p=>?_⟩;refine Fx9 (h.ext j) c g λ d i8 J N r ⟨r1,u⟩=>⟨d,i8,rfl,λ _ w _=>bad w,λ y=>?_⟩;have E:=j.trans r;refine Cg0 (l.ext E) (h.ext E) c g λ f i13 bs O A ⟨q1,B,C,_⟩=>⟨f,i13,rfl,λ P k=>⟨f,d,_,rfl,λ D=>?_⟩⟩;obtain⟨k1,Q,F⟩:=u (Decidable.not_not.1 y);have G:=q1.n;have R:=r1.n;have hlen:f.n=d.n:=by have:=of_decide_eq_true D;omega
 by_cases hi:i13=0
 ·obtain⟨m1,m2,m3⟩:=B hi
  have e:=Eu1 m2 k1 m3 F;subst e;exact⟨bs,q1.ext k,r1.ext (A.trans k),m1,Gd5 m2 m3 (n (by simpa using p))⟩
 ·have:=C hi
  subst this;simp at G;omega
theorem Gb4 (d:Ac6 W)(h:Bs7 W s Lt)(f:Lt.length<=1099511627776)(g: ∀t∈Lt,t.1.size<=1099511627776/\t.2.size<=1099511627776)(j: ∀(s1:Sl) (s2:Sl) (ok:Bool) (W':PW),Ext W W'->((ok=true->∃bs:List Iv,Bc3 257 W' s1 bs/\Fx4 257 W' s2 bs/\Cn7 bs/\∀x∈bs,IvS 4 x))->K (.tuple ⟨[Sl.v s1,Sl.v s2,.bool ok]⟩) W'):
  Aa1 Tryz.prog W0 M 10 [s.v] W K:=
 Mi4 (λ _ c=>Gd4 (d.ext c) (h.ext c) f g) fun | _,W',c,⟨s1,s2,ok,rfl,h⟩=>j s1 s2 ok W' c h
end Go.Proofs.YtkgeopnakkcdoaaGreatDoor
namespace Go.Proofs.YtkgeopnakkcdoaaGreatDoor
open Go Go.SX
variable {K:Value->PW->Prop}{M:Nat->Prop}{T:List (List ByteArray)}{W W0:PW}{i n0:Nat}{s:Sl}
def tw (T:List (List ByteArray)) (i:Nat):Nat:=(T[i]?.getD []).length
theorem Gt2 (h:i<T.length):tw T i=T[i].length:=by
 unfold tw;rw[List.getElem?_eq_getElem h];rfl
def txt (T:List (List ByteArray)) (i j:Nat):ByteArray:=(T[i]?.getD [])[j]?.getD ⟨⟨[]⟩⟩
theorem Gz2 {j:Nat}(h:i<T.length)(c:j<T[i].length):txt T i j=T[i][j]:=by
 unfold txt;rw[List.getElem?_eq_getElem h];simp[c]
theorem Gw2 (h:Go3 W0 s T)(r:T.length<=1099511627776):
  Aa0 Tryz.prog 135 [s.v] W0 M λ v W'=>∃(b:Bool),v = .bool b/\(b=true↔Gf8 T.length (tw T)):=by
 apply Gg3;have u:=h.n;refine⟨λ l W=>match l with | [.val (.int .i64 i)]=>Ext W0 W/\∃k:Nat,i=(k:Int)/\k<=T.length/\∀i,i<k->tw T i=tw T 0 | _=>False,λ l _=>match l with | [.val (.int .i64 i)]=>T.length-i.toNat | _=>0,⟨Ext.refl _,0,rfl,Nat.zero_le _,λ i h=>(by omega)⟩,?_⟩;rintro i3 w ⟨d,k,rfl,hk,f⟩;have c:=h.ext d;refine⟨λ A=>?_,λ B=>⟨λ h1=>⟨λ j=>?_,λ j=>λ C _=>⟨false,rfl,?_⟩⟩,λ h1=>λ D _=>⟨false,rfl,?_⟩⟩⟩
 ·obtain⟨x,m,n⟩:=c.at (i:=k) (by omega)
  obtain⟨y,f1,f2⟩:=c.at (i:=0) (by omega);have E:=n.nt.trans (Gt2 (by omega)).symm;have o:=f2.nt.trans (Gt2 (by omega)).symm;refine⟨c.inB (by omega) (by omega),x,m,c.inB (by omega) (by omega),y,f1,λ F G _=>⟨false,rfl,?_⟩,λ heq=>⟨by unfold I64;omega,⟨d,k+1,by push_cast;rfl,by omega,λ i hi=>?_⟩,?_⟩⟩
  ·refine⟨λ h=>(by cases h),λ h=>?_⟩
   have:=h.1 k (by omega);omega
  ·by_cases e:i=k
   ·subst e;omega
   ·exact f i (by omega)
  ·show T.length-Int.toNat ((k:Int)+1)<T.length-Int.toNat (k:Int)
   omega
 ·have I:k=T.length:=by omega
  obtain⟨y,f1,f2⟩:=c.at (i:=0) (by omega);have o:=f2.nt.trans (Gt2 (by omega)).symm;have g:=c.inB (i:=0) (by omega) (by omega);refine⟨g,y,f1,λ p=>⟨g,y,f1,λ J _=>⟨_,rfl,?_⟩⟩,λ p N _=>⟨false,rfl,?_⟩⟩
  ·rw[decide_eq_true_iff]
   exact⟨λ h=>⟨λ i hi=>f i (by omega),by omega,by omega,by omega,by omega⟩,λ h=>by have:=h.2.2.2.2;omega⟩
  ·refine⟨λ h=>(by cases h),λ h=>?_⟩
   have:=h.2.2.2.1;omega
 ·refine⟨λ h=>(by cases h),λ h=>?_⟩
  have:=h.2.2.1;omega
 ·refine⟨λ h=>(by cases h),λ h=>?_⟩
  have:=h.2.1;omega
theorem Gr8 (h:Go3 W s T)(d:T.length<=1099511627776)(f: ∀(b:Bool) (W':PW),Ext W W'->((b=true↔Gf8 T.length (tw T)))->K (.bool b) W'):
  Aa1 Tryz.prog W0 M 135 [s.v] W K:=
 Mi4 (λ _ c=>Gw2 (h.ext c) d) fun | _,W',c,⟨b,rfl,h⟩=>f b W' c h
theorem Gq8 (R:Gf6 n0 W0)(h:Go3 W0 s T)(S:T.length<=1099511627776)(U: ∀i j,(txt T i j).size<=1099511627776):
  Aa0 Tryz.prog 53 [s.v] W0 M λ v W'=>∃(s':Sl),∃(e:Int),v = .tuple #[Sl.v s',.int .i64 e]/\(e=0->Gf8 T.length (tw T)/\Gl4 257 50 84 (n0<=·) W' s' T.length (tw T 0) (λ i j=>(Ab7 (txt T i j)).getD 0))/\(e≠0->¬(Gf8 T.length (tw T)/\∀i j,i<T.length->j<tw T i->(Ab7 (txt T i j)).isSome=true)):=by
 apply Gn6;have V:=h.n;refine Gr8 h S λ b f u m=>⟨b,rfl,λ C W4 _=>⟨⟨none,0,0⟩,1,rfl,λ h=>(by cases h),λ _ h=>?_⟩,λ X=>?_⟩
 ·rw[m.2 h.1] at C;cases C
 have Y:b=true:=by simpa using X
 have D:=m.1 Y;have Z:=D;obtain⟨hc,au,av,aw,ax⟩:=Z;have p:=h.ext u;obtain⟨y,f1,f2⟩:=p.at (i:=0) (by omega);have ny:=f2.nt.trans (Gt2 (by omega)).symm;refine⟨p.inB (by omega) (by omega),y,f1,?_⟩
 try dsimp only
 rw[ny,V];obtain⟨c,ay⟩: ∃c,f.w.heap.size=c:=⟨_,rfl⟩;have hle:f.w.heap.size<=c:=by omega
 have ac:Gf6 c f:=by unfold Gf6;omega
 have ad:W0.w.heap.size<=c:=Nat.le_trans u.size hle;refine Gp0 ac (by omega) (by omega) λ r W7 ae h8=>⟨r,rfl,?_⟩;refine⟨λ l W=>match l with | [.val (.int .i64 i)]=>∃k:Nat,i=(k:Int)/\k<=T.length/\Eo1 c f W/\Gl4 257 50 84 (c<=·) W r T.length (tw T 0) (λ a b=>if a<k then(Ab7 (txt T a b)).getD 0 else 0) | _=>False,λ l _=>match l with | [.val (.int .i64 i)]=>T.length-i.toNat | _=>0,⟨0,rfl,Nat.zero_le _,ae.toM _,h8.congr λ i j _ _=>by simp⟩,?_⟩;rintro i11 aA ⟨k,rfl,hk,w,E⟩;refine⟨λ aB=>?_,λ aC aD ag=>⟨r,0,rfl,λ _=>⟨D,?_⟩,λ h=>absurd rfl h⟩⟩
 ·have d:k<T.length:=by omega
  obtain⟨x,e1,F⟩:=p.at (i:=k) d;have nx:=F.nt.trans (Gt2 d).symm;have aE:=hc k d;have aF:=Gt2 d;refine⟨(p.new w hle).inB (by omega) (by omega),x,e1.new w hle,?_⟩;refine⟨λ l W=>match l with | [.val (.int .i64 i)]=>∃l:Nat,i=(l:Int)/\l<=tw T 0/\Eo1 c f W/\Gl4 257 50 84 (c<=·) W r T.length (tw T 0) (λ a b=>if a<k\/(a=k/\b<l) then(Ab7 (txt T a b)).getD 0 else 0) | _=>False,λ l _=>match l with | [.val (.int .i64 i)]=>tw T 0-i.toNat | _=>0,⟨0,rfl,Nat.zero_le _,w,E.congr λ i j _ _=>by simp⟩,?_⟩;rintro i16 aG ⟨l,rfl,hl,A,G⟩;refine⟨λ aI=>?_,λ aJ=>⟨by unfold I64;omega,⟨k+1,by push_cast;rfl,by omega,A,G.congr λ a b I m=>?_⟩,?_⟩⟩
  ·have ai:l<tw T 0:=by omega
   have J:=F.new A hle;have N:l<T[k].length:=by omega
   have aj:=Gz2 d N;refine⟨J.Hb8 (by omega) (by omega),_,J.text N,?_⟩;rw[<-aj];refine As8 (U k l) λ ak al am aK O an=>⟨ak,al,am,_,rfl,λ P aL _=>⟨⟨none,0,0⟩,_,rfl,λ h=>absurd h P,λ _ ao=>?_⟩,λ heq=>?_⟩
   ·have:=ao.2 k l d (by omega)
    rw[Ey7 P] at this;cases this
   ·have B:=G.ext O
    obtain⟨z,Q,z2⟩:=B.mat.at (i:=k) d;refine⟨B.mat.inB (by omega) (by omega),z,Q,z2.inB (by omega) (by omega),?_⟩;refine B.store (j:=l) Q d ai an (by decide) (by decide) (λ g n=>.inr (Nat.le_trans ad n)) λ aM hp aq=>⟨by unfold I64;omega,⟨l+1,by push_cast;rfl,by omega,(A.trans (O.toM _)).trans (hp.Fi8 λ g n=>n),aq.congr λ a b I m=>?_⟩,?_⟩
    ·unfold Ha2
     by_cases e:a=k/\b=l
     ·rw[if_pos e,if_pos (by omega),e.1,e.2]
     ·rw[if_neg e]
      dsimp only
      by_cases o:a<k\/(a=k/\b<l)
      ·rw[if_pos o,if_pos (by omega)]
      ·rw[if_neg o,if_neg (by omega)]
    ·show tw T 0-Int.toNat ((l:Int)+1)<tw T 0-Int.toNat (l:Int)
     omega
  ·by_cases o:a<k\/(a=k/\b<l)
   ·rw[if_pos o,if_pos (by omega)]
   ·rw[if_neg o,if_neg (by omega)]
  ·show T.length-Int.toNat ((k:Int)+1)<T.length-Int.toNat (k:Int)
   omega
 ·refine((E.ext ag).mono λ g n=>Nat.le_trans (R.ext u) (Nat.le_trans hle n)).congr λ a b I m=>?_
  rw[if_pos (by omega)]
theorem Gl7 (d:Gf6 n0 W)(h:Go3 W s T)(f:T.length<=1099511627776)(g: ∀i j,(txt T i j).size<=1099511627776)(k: ∀(s':Sl) (e:Int) (W':PW),Ext W W'->((e=0->Gf8 T.length (tw T)/\Gl4 257 50 84 (n0<=·) W' s' T.length (tw T 0) (λ i j=>(Ab7 (txt T i j)).getD 0))/\(e≠0->¬(Gf8 T.length (tw T)/\∀i j,i<T.length->j<tw T i->(Ab7 (txt T i j)).isSome=true)))->K (.tuple #[Sl.v s',.int .i64 e]) W'):
  Aa1 Tryz.prog W0 M 53 [s.v] W K:=
 Mi4 (λ _ c=>Gq8 (d.ext c) (h.ext c) f g) fun | _,W',c,⟨s',e,rfl,h⟩=>k s' e W' c h
end Go.Proofs.YtkgeopnakkcdoaaGreatDoor
namespace Go.Proofs.YtkgeopnakkcdoaaGreatDoor
open Go Go.SX
end Go.Proofs.YtkgeopnakkcdoaaGreatDoor
namespace Go.Proofs.YtkgeopnakkcdoaaGreatDoor
open Go Go.SX
end Go.Proofs.YtkgeopnakkcdoaaGreatDoor
namespace Go.Proofs.YtkgeopnakkcdoaaGreatDoor
open Go Go.SX
end Go.Proofs.YtkgeopnakkcdoaaGreatDoor
