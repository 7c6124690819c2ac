import Derived.Test.YtkgeopnakkcdoaaGreatDoorW12
import Derived.Test.YtkgeopnakkcdoaaGreatDoorW3
import Derived.Test.YtkgeopnakkcdoaaGreatDoorW5
import Derived.Test.YtkgeopnakkcdoaaGreatDoorLib5
import Derived.Test.YtkgeopnakkcdoaaGreatDoorR9
import Derived.Test.YtkgeopnakkcdoaaGreatDoorLib4
import Derived.Test.YtkgeopnakkcdoaaGreatDoorW10
import Derived.Test.YtkgeopnakkcdoaaGreatDoorW6
import Derived.Test.YtkgeopnakkcdoaaGreatDoorR4
import Derived.Test.YtkgeopnakkcdoaaGreatDoorLib3
import Derived.Test.YtkgeopnakkcdoaaGreatDoorLib2
import Derived.Test.YtkgeopnakkcdoaaGreatDoorR5
import Derived.Test.YtkgeopnakkcdoaaGreatDoorW9
import Derived.Test.YtkgeopnakkcdoaaGreatDoorW7
import Derived.Test.YtkgeopnakkcdoaaGreatDoorR7
import Derived.Test.YtkgeopnakkcdoaaGreatDoorW8
set_option linter.unusedVariables false
set_option linter.unusedSimpArgs false
set_option maxRecDepth 100000
namespace Go.Proofs.YtkgeopnakkcdoaaGreatDoor
open Go Go.SX Go.ChangeShapes Go.WideShapes Go.ChangeAt Go.RowKit Go.Deep
variable {H:Type}{W:World}{fuel:Nat}
theorem Cf7:Tryz.prog.cellsOf 132=2:=by kernel_rfl
theorem open_pair {cs:List Value}{enc:TypeId×Value->H}{x:DataW H×List MemPlace}(h:DataW.trod enc Tryz.prog W 0 (λ _=>true) true fuel 132 cs=some x):
  ∃a b:ByteArray,cs = [.string a,.string b]/\a.size<=Rows.uptoBulk x.1/\b.size<=Rows.uptoBulk x.1:=by
 obtain⟨xs,k,rfl,rfl,c,f,d⟩:=DataW.trod_struct Tryz.underlying132 h;rw[Cf7] at c;have g0:DataW.trod enc Tryz.prog W 0 (λ _=>true) true k 9 ((cs.drop 0).take (Tryz.prog.cellsOf 9))=xs[0]?:=d 0 _ rfl;have g1:DataW.trod enc Tryz.prog W 0 (λ _=>true) true k 9 ((cs.drop 1).take (Tryz.prog.cellsOf 9))=xs[1]?:=d 1 _ rfl;rw[Ct5] at g0 g1
 match cs,c,xs,f with
 | [v0,v1],_,[g,i],_=>
  have g0:DataW.trod enc Tryz.prog W 0 (λ _=>true) true k 9 [v0]=some g:=g0;have g1:DataW.trod enc Tryz.prog W 0 (λ _=>true) true k 9 [v1]=some i:=g1;obtain⟨s0,j,rfl,_⟩:=DataW.trod_string Tryz.underlying9 g0;obtain⟨s1,h1,rfl,_⟩:=DataW.trod_string Tryz.underlying9 g1;have k0:v0=Value.string s0:=(List.cons.inj (show[v0] = [Value.string s0] from j)).1;have k1:v1=Value.string s1:=(List.cons.inj (show[v1] = [Value.string s1] from h1)).1;subst k0 k1;refine⟨s0,s1,rfl,?_⟩;have l:s0.data.toList.length=s0.size:=by rw[Array.length_toList];rfl
  have m:s1.data.toList.length=s1.size:=by rw[Array.length_toList];rfl
  simp only[List.map_cons,List.map_nil,Rows.uptoBulk,Rows.uptoBulkAll];omega
def prc (t:ByteArray×ByteArray):List Value:=[.string t.1,.string t.2]
def Bs7 (W:PW) (s:Sl) (L:List (ByteArray×ByteArray)):Prop:=Bf9 W 2 s (L.map prc)
theorem Gc9 {p:List MemPlace}{enc:TypeId×Value->H}{v:Value}{d:DataW H}(h:DataW.trod enc Tryz.prog W 0 (λ _=>true) true fuel 24 [v]=some (d,p)):
  ∃(s:Sl) (L:List (ByteArray×ByteArray)),v=s.v/\Bs7 ⟨W,λ _=>False⟩ s L/\L.length<=Rows.uptoBulk d/\∀t∈L,t.1.size<=Rows.uptoBulk d/\t.2.size<=Rows.uptoBulk d:=by
 rcases open_slice Tryz.underlying24 h with⟨k,o⟩ | ⟨a,len,cap,m,n,D,P,k,_,C,hm,r,o,w⟩
 ·have f:v = .slice none 0 0:=by simpa using k
  subst f;exact⟨⟨none,0,0⟩,[],rfl,⟨0,rfl,Nat.le_refl _,Nat.zero_le _,λ x h=>by simp at h,.inl rfl⟩,Nat.zero_le _,λ l h=>by simp at h⟩
 ·have f:v = .slice (some a) len cap:=by simpa using k
  subst f;simp only[if_true] at r;subst r;simp only[Prod.mk.injEq] at o;obtain⟨rfl,_⟩:=o;rw[Cf7] at w;obtain⟨q,A⟩: ∃q:Nat->ByteArray×ByteArray,∀i,i<m->W.cells? 0 (a.add (i*2)) 2=some (prc (q i))/\(q i).1.size<=Rows.uptoBulk (D i)/\(q i).2.size<=Rows.uptoBulk (D i):=by
   have:Inhabited (ByteArray×ByteArray):=⟨(⟨#[]⟩,⟨#[]⟩)⟩;refine choose_lt (α:=ByteArray×ByteArray) (p:=λ i q=>W.cells? 0 (a.add (i*2)) 2=some (prc q)/\q.1.size<=Rows.uptoBulk (D i)/\q.2.size<=Rows.uptoBulk (D i)) λ i hi=>?_;obtain⟨Q,h1,B⟩:=w i hi;obtain⟨x,y,rfl,E,F⟩:=open_pair B;exact⟨(x,y),h1,E,F⟩
  have G:=Bz7 (W:=W) (a:=a) (n:=len) (c:=m) (sz:=2) (V:=λ i=>prc (q i)) (λ j g i v f=>by
   obtain⟨_,hlen,I⟩:=World.cells?_some (A j (by omega)).1;have hi:i<2:=by have:=(List.getElem?_eq_some_iff.1 f).1;omega
   have:=I i hi;rw[add_add] at this;rw[this];exact f) (λ j g=>rfl) (by omega) C hm (λ j g u hu=>by
   simp only[prc,List.mem_cons,List.not_mem_nil,or_false] at hu;rcases hu with rfl | rfl<;>rfl)
  have J: ∀i,i<len->Rows.uptoBulk (D i)<=Rows.uptoBulkAll ((List.range len).map D):=λ i hi=>Eo6 (List.mem_map.2 ⟨i,List.mem_range.2 hi,rfl⟩);have hlen:=Dj1 ((List.range len).map D);simp only[List.length_map,List.length_range] at hlen;refine⟨⟨some a,len,m⟩,(List.range len).map q,rfl,?_,?_,λ t N=>?_⟩
  ·unfold Bs7
   rw[List.map_map];exact G
  ·simp only[List.length_map,List.length_range,Rows.uptoBulk]
   omega
  ·obtain⟨j,g,rfl⟩:=List.mem_map.1 N
   have O:=List.mem_range.1 g;have h1:=J j O;have B:=(A j (by omega)).2;simp only[Rows.uptoBulk];omega
end Go.Proofs.YtkgeopnakkcdoaaGreatDoor
namespace Go.Proofs.YtkgeopnakkcdoaaGreatDoor
open Go Go.SX
variable {K:Value->PW->Prop}{M:Nat->Prop}{W W0:PW}{b:Bool}{e z:Int}{q:Rat}{s t:Sl}{x:Nat}
theorem Fl1 (h:0<(dg 1).length):(dg 1)[0]=1:=by
 have e:dg 1 = [1]:=by rw[Bk2 (by decide),show 1/B=0 by decide,Ae8];rfl
 simp[e]
theorem Dk9 (r:Ac6 W0)(h:Aa6 257 W0 s x)(u:nl x<=30000):
  Aa0 Tryz.prog 244 [.agg ⟨[s.v]⟩] W0 M λ v W'=>∃(i:Int),v = .int .i64 i/\(0<=i/\i<=960032)/\(x=1->i=0):=by
 apply Bi6;have w:=h.n;refine⟨λ L W=>match L with | [.val (.int .i64 z)]=>∃j:Nat,z=(j:Int)/\j<=nl x/\Ext W0 W/\(x=1->j=0) | _=>False,(λ L _=>match L with | [.val (.int .i64 z)]=>nl x-z.toNat | _=>0),⟨0,rfl,Nat.zero_le _,Ext.refl _,λ _=>rfl⟩,?_⟩;rintro i3 y ⟨j,rfl,A,d,f⟩;refine⟨λ B=>?_,λ C D _=>⟨0,rfl,⟨by omega,by omega⟩,λ _=>rfl⟩⟩;have g:j<nl x:=by omega
 have k:=h.ext d;have E:(dg x).length=nl x:=rfl;have m:(dg x)[j]<4294967296:=Ad8 x _ (List.getElem_mem (l:=dg x) (n:=j) g);have o:x=1->(dg x)[j]=1:=λ e=>by
  have:=f e;subst this;subst e;exact Fl1 _
 refine⟨Ad4.inB k (by omega) (by omega),_,Ad4.at k g,λ F=>⟨by unfold I64;omega,?_⟩,λ heq=>⟨by unfold I64;omega,⟨j+1,by push_cast;rfl,by omega,d,λ e=>by have:=o e;omega⟩,?_⟩⟩
 ·refine El3 (r.ext d) m λ G I _=>⟨_,rfl,?_⟩
  have J:Go.Lib.ctz 32 (dg x)[j]<=32:=by
   by_cases p:(dg x)[j]=0
   ·unfold Go.Lib.ctz;rw[if_pos p];exact Nat.le_refl _
   ·exact Nat.le_of_lt (Go.Lib.lowest_bit 32 _ p m).2
  refine⟨by unfold I64;omega,λ N O=>⟨_,rfl,⟨by omega,by omega⟩,λ e=>?_⟩⟩;have c:Go.Lib.ctz 32 (dg x)[j]=0:=by rw[o e];decide
  have:=f e;omega
 ·show nl x-Int.toNat ((j:Int)+1)<nl x-Int.toNat (j:Int)
  omega
theorem At1 (d:Ac6 W)(h:Aa6 257 W s x)(f:nl x<=30000)(g: ∀(i:Int) (W':PW),Ext W W'->((0<=i/\i<=960032)/\(x=1->i=0))->K (.int .i64 i) W'):
  Aa1 Tryz.prog W0 M 244 [.agg ⟨[s.v]⟩] W K:=
 Mi4 (λ _ c=>Dk9 (d.ext c) (h.ext c) f) fun | _,W',c,⟨i,rfl,h⟩=>g i W' c h
theorem En5 (h:Ab3 257 W0 s b t q):
  Aa0 Tryz.prog 246 [.agg ⟨[s.v,.bool b,t.v]⟩] W0 M λ v W'=>v = .agg ⟨[Sl.v s,.bool b]⟩/\True:=by
 apply Bs9;exact λ c _=>⟨rfl,trivial⟩
theorem De2 (h:Ab3 257 W s b t q)(d: ∀(W':PW),Ext W W'->(True)->K (.agg ⟨[Sl.v s,.bool b]⟩) W'):
  Aa1 Tryz.prog W0 M 246 [.agg ⟨[s.v,.bool b,t.v]⟩] W K:=
 Mi4 (λ _ c=>En5 (h.ext c)) fun | _,W',c,⟨rfl,h⟩=>d W' c h
theorem Eb2 (m:Ac6 W0)(h:Ab5 257 W0 s b z)(d:nl z.natAbs<=30000)(he: -10000000<=e/\e<=10000000):
  Aa0 Tryz.prog 245 [.agg ⟨[s.v,.bool b]⟩,.int .i64 e] W0 M λ v W'=>∃(s':Sl),∃(b':Bool),∃(i:Int),v = .agg ⟨[Sl.v s',.bool b',.int .i64 i]⟩/\True:=by
 apply Da4;refine Ai5 h (by omega) λ B c _=>⟨_,rfl,λ _ C _=>⟨⟨none,0,0⟩,false,0,rfl,trivial⟩,λ _=>?_⟩;refine Ag5 (h.ext c) λ n D f o=>⟨n,rfl,?_⟩;refine At1 (m.ext (c.trans f)) o d λ i10 E p ⟨hi,_⟩=>⟨i10,rfl,by unfold I64;omega,?_⟩;have g:=c.trans (f.trans p);refine Ai5 (h.ext g) (by omega) λ F r _=>⟨_,rfl,?_⟩;refine Ag5 (h.ext (g.trans r)) λ u G I w=>⟨u,rfl,?_⟩;obtain⟨k,rfl⟩:=Int.eq_ofNat_of_zero_le hi.1;refine Br2 w (by omega) (by omega) λ y J N A=>⟨y,rfl,?_⟩;have O:nl (z.natAbs/2^k)<=30000:=Nat.le_trans (Ad1 (Nat.div_le_self _ _)) d;refine Ad6 A (by omega) λ j l P Q R=>⟨j,l,rfl,λ S _=>⟨j,l,_,rfl,trivial⟩⟩
theorem Cu2 (d:Ac6 W)(h:Ab5 257 W s b z)(f:nl z.natAbs<=30000)(he: -10000000<=e/\e<=10000000)(g: ∀(s':Sl) (b':Bool) (i:Int) (W':PW),Ext W W'->(True)->K (.agg ⟨[Sl.v s',.bool b',.int .i64 i]⟩) W'):
  Aa1 Tryz.prog W0 M 245 [.agg ⟨[s.v,.bool b]⟩,.int .i64 e] W K:=
 Mi4 (λ _ c=>Eb2 (d.ext c) (h.ext c) f he) fun | _,W',c,⟨s',b',i,rfl,h⟩=>g s' b' i W' c h
theorem Ej8 (g:Ac6 W0)(h:Ab3 257 W0 s b t q)(j:Sz 4000 q):
  Aa0 Tryz.prog 197 [.agg ⟨[s.v,.bool b,t.v]⟩] W0 M λ v W'=>∃(s':Sl),∃(b':Bool),∃(i:Int),∃(ok:Bool),v = .tuple ⟨[.agg ⟨[Sl.v s',.bool b',.int .i64 i]⟩,.bool ok]⟩/\(q.den=1->ok=true):=by
 apply Dg7;have D:nl q.den<=4000:=j.2;refine Bc0 h j (by omega) λ s3 r E u w=>⟨s3,r,rfl,?_⟩;refine Ag5 w λ y F A c=>⟨y,rfl,?_⟩;rw[Int.natAbs_natCast] at c;have l:=u.trans A;refine At1 (g.ext l) c (by omega) λ i10 G k ⟨hi,B⟩=>⟨i10,rfl,?_⟩;refine Ac9 (c.ext k) (by omega) λ I m _=>⟨_,rfl,?_⟩;have J:=Dm3 q.den;refine⟨by unfold I64;omega,λ C N _=>⟨⟨none,0,0⟩,false,0,false,rfl,λ e=>absurd (by rw[B e,e];decide) C⟩,λ _=>?_⟩;have d:=l.trans (k.trans m);refine De2 (h.ext d) λ O f _=>⟨s,b,rfl,?_⟩;refine At1 (g.ext (d.trans f)) (c.ext (k.trans (m.trans f))) (by omega) λ i21 P n ⟨Q,_⟩=>⟨i21,rfl,by unfold I64;omega,?_⟩;refine Cu2 (g.ext (d.trans (f.trans n))) (h.ext (d.trans (f.trans n))).1 (by have:=j.1;omega) (by omega) λ o p i26 R S _=>⟨o,p,i26,rfl,λ T _=>⟨o,p,i26,true,rfl,λ _=>rfl⟩⟩
theorem Bx3 (d:Ac6 W)(h:Ab3 257 W s b t q)(f:Sz 4000 q)(g: ∀(s':Sl) (b':Bool) (i:Int) (ok:Bool) (W':PW),Ext W W'->((q.den=1->ok=true))->K (.tuple ⟨[.agg ⟨[Sl.v s',.bool b',.int .i64 i]⟩,.bool ok]⟩) W'):
  Aa1 Tryz.prog W0 M 197 [.agg ⟨[s.v,.bool b,t.v]⟩] W K:=
 Mi4 (λ _ c=>Ej8 (d.ext c) (h.ext c) f) fun | _,W',c,⟨s',b',i,ok,rfl,h⟩=>g s' b' i ok W' c h
end Go.Proofs.YtkgeopnakkcdoaaGreatDoor
namespace Go.Proofs.YtkgeopnakkcdoaaGreatDoor
open Go Go.SX
variable {K:Value->PW->Prop}{L Lt:List (ByteArray×ByteArray)}{M:Nat->Prop}{W W0:PW}{a b:ByteArray}{bs:List Iv}{q:Rat}{s t:Sl}{x:Nat}
theorem Fi3 {a b:ByteArray}:IvS 4000 ((spP a b).getD (0,0)):=by
 cases e:spP a b with
 | none=>exact⟨Sz.zero (by omega),Sz.zero (by omega)⟩
 | some x=>
  obtain⟨c,d,f⟩:=Dp3 e;exact⟨(Aw6 c).1,(Aw6 d).1⟩
theorem Eb3 (m:Ac6 W0)(G:a.size<=1099511627776)(I:b.size<=1099511627776):
  Aa0 Tryz.prog 133 [.agg ⟨[.string a,.string b]⟩] W0 M λ v W'=>∃(l:List Value),∃(i:Int),∃(x:Iv),v = .tuple ⟨[.agg ⟨l⟩,.int .i64 i]⟩/\SpV 257 W' l x/\(i=0->spP a b=some x/\x.1<x.2)/\(∀y,spP a b=some y->y.1<y.2->y.1.den=1->y.2.den=1->i=0):=by
 apply Cq0;refine Az3 G I λ l e W2 n ⟨f,he⟩=>?_;obtain⟨s3,o,p,r,u,w,rfl,q1,g⟩:=f;have j:=@Fi3 a b;refine⟨s3,o,p,r,u,w,e,rfl,?_⟩;refine Bx3 (m.ext n) q1 j.1 λ J N i14 O ad k A=>⟨J,N,i14,O,rfl,?_⟩;refine Bx3 (m.ext (n.trans k)) (g.ext k) j.2 λ P Q i20 R ae S B=>⟨P,Q,i20,R,rfl,λ C T _=>⟨_,e,(0,0),rfl,SpV.zero T,λ h=>absurd h C,λ y c _ _ _=>absurd (he.2 (by rw[c];rfl)) C⟩,λ U=>?_⟩;have E:=k.trans S;refine Aj2 (q1.ext E) (g.ext E) j.1 j.2 (by omega) (by omega) λ af V _=>⟨_,rfl,λ d X _=>⟨_,1,(0,0),rfl,SpV.zero X,λ h=>by omega,λ y c Y _ _=>by rw[c] at d;exact absurd (El9.1 d) (Rat.not_le.2 Y)⟩,λ d=>⟨λ h1 Z _=>⟨_,2,(0,0),rfl,SpV.zero Z,λ h=>by omega,λ y c _ d1 _=>by rw[c] at A;rw[A d1] at h1;exact absurd h1 (by decide)⟩,λ _=>⟨λ f aa _=>⟨_,2,(0,0),rfl,SpV.zero aa,λ h=>by omega,λ y c _ _ d2=>by rw[c] at B;rw[B d2] at f;exact absurd f (by decide)⟩,λ _ ag ab=>?_⟩⟩⟩;obtain⟨x,D⟩:=Option.isSome_iff_exists.1 (he.1 (Decidable.not_not.1 U));rw[D] at q1 g d;have d:¬0<=Co4 x.1 x.2:=d;have F:=E.trans (V.trans ab);exact⟨_,0,x,rfl,⟨s3,o,p,r,u,w,rfl,q1.ext F,g.ext F⟩,λ _=>⟨D,At6.1 (by omega)⟩,λ _ _ _ _ _=>rfl⟩
theorem Cq6 (d:Ac6 W)(f:a.size<=1099511627776)(g:b.size<=1099511627776)(j: ∀(l:List Value) (i:Int) (x:Iv) (W':PW),Ext W W'->(SpV 257 W' l x/\(i=0->spP a b=some x/\x.1<x.2)/\(∀y,spP a b=some y->y.1<y.2->y.1.den=1->y.2.den=1->i=0))->K (.tuple ⟨[.agg ⟨l⟩,.int .i64 i]⟩) W'):
  Aa1 Tryz.prog W0 M 133 [.agg ⟨[.string a,.string b]⟩] W K:=
 Mi4 (λ _ c=>Eb3 (d.ext c) f g) fun | _,W',c,⟨l,i,x,rfl,h⟩=>j l i x W' c h
def bxI (W0:PW) (Lt:List (ByteArray×ByteArray)) (L:List PL) (W:PW):Prop:=match L with
 | [.row l,.val (.int .i64 z)]=>∃(j:Nat) (m:List Iv),z=(j:Int)/\j<=Lt.length/\Ext W0 W/\m.length=j/\An5 (SpV 257 W) l m/\(∀i (hi:i<m.length) (c:i<Lt.length),spP Lt[i].1 Lt[i].2=some m[i])/\∀x∈m,x.1<x.2
 | _=>False
def Gf1 (W0:PW) (Lt:List (ByteArray×ByteArray)) (L:List PL) (W:PW):Prop:=match L with
 | [.row l,.val (.int .i64 z)]=>∃(j:Nat) (m:List Iv),z=(j:Int)/\j<=Lt.length/\Ext W0 W/\m.length=j/\An5 (Ah6 257 W) l m/\(∀i (hi:i<m.length) (c:i<Lt.length),spP Lt[i].1 Lt[i].2=some m[i])
 | _=>False
def cnD (n:Nat) (L:List PL) (_:PW):Nat:=match L with
 | [_,.val (.int .i64 z)]=>n-z.toNat
 | _=>0
theorem Bs7.ext {W':PW}(h:Bs7 W s L)(c:Ext W W'):Bs7 W' s L:=let⟨ty,h⟩:=h;⟨ty,h.ext c⟩
theorem Bs7.n (h:Bs7 W s L):s.n=L.length:=let⟨ty,h⟩:=h;by have:=h.1;rwa [List.length_map] at this
theorem Bs7.inB {i:Int}(h:Bs7 W s L)(c:0<=i)(h1:i<(L.length:Int)):SX.inB s i:=let⟨ty,h⟩:=h;Row.inB h c (by rw[List.length_map];exact h1)
theorem Bs7.part {m:List Value}(h:Bs7 W s L){i:Nat}(hi:i<L.length)(off:Nat)(hm:((prc L[i]).drop off).take m.length=m):Aa7 W s 2 i off m:=let⟨ty,h⟩:=h;Row.part h (x:=prc L[i]) (by rw[List.getElem?_map,List.getElem?_eq_getElem hi];rfl) off hm
theorem Fc1 {m:List Iv}{x:Iv}(h: ∀i (hi:i<m.length) (c:i<Lt.length),spP Lt[i].1 Lt[i].2=some m[i])(f:m.length<Lt.length)(d:spP Lt[m.length].1 Lt[m.length].2=some x): ∀i (hi:i<(m ++ [x]).length) (c:i<Lt.length),spP Lt[i].1 Lt[i].2=some (m ++ [x])[i]:=λ i hi c=>by
 by_cases e:i<m.length
 ·rw[List.getElem_append_left e]
  exact h i e c
 ·have:i=m.length:=by simp at hi;omega
  subst this;rw[List.getElem_concat_length rfl];exact d
def Br9 (Lt:List (ByteArray×ByteArray)):Prop:=1<=Lt.length/\Lt.length<=3/\∀t∈Lt,∃y,spP t.1 t.2=some y/\y.1<y.2/\y.1.den=1/\y.2.den=1
theorem Dd2 (J:Ac6 W0)(h:Bs7 W0 s Lt)(hl:Lt.length<=1099511627776)(N: ∀t∈Lt,t.1.size<=1099511627776/\t.2.size<=1099511627776):
  Aa0 Tryz.prog 50 [s.v] W0 M λ v W'=>∃(s':Sl),∃(i:Int),∃(bs:List Iv),v = .tuple ⟨[Sl.v s',.int .i64 i]⟩/\Bc3 257 W' s' bs/\(i=0->Cn7 bs/\bs.length=Lt.length/\∀i (hi:i<bs.length) (O:i<Lt.length),spP Lt[i].1 Lt[i].2=some bs[i])/\(i≠0->bs = [])/\(Br9 Lt->i=0):=by
 apply Ci3;have hn:=h.n;have bad: ∀(c:Int),c≠0->¬Br9 Lt->∀W':PW,∃(s':Sl) (i:Int) (bs:List Iv),(Value.tuple ⟨[.slice none 0 0,.int .i64 c]⟩) = .tuple ⟨[Sl.v s',.int .i64 i]⟩/\Bc3 257 W' s' bs/\(i=0->Cn7 bs/\bs.length=Lt.length/\∀i (hi:i<bs.length) (O:i<Lt.length),spP Lt[i].1 Lt[i].2=some bs[i])/\(i≠0->bs = [])/\(Br9 Lt->i=0):=
  λ c P Q W'=>⟨⟨none,0,0⟩,c,[],rfl,Dr1.nil W',λ e=>absurd e P,λ _=>rfl,λ g=>absurd g Q⟩
 refine⟨λ h R _=>bad 1 (by omega) (λ g=>by have:=g.1;omega) R,λ h1=>⟨λ h S _=>bad 1 (by omega) (λ g=>by have:=g.2.1;omega) S,λ h3=>?_⟩⟩;refine⟨bxI W0 Lt,cnD Lt.length,⟨0,[],rfl,Nat.zero_le _,Ext.refl _,rfl,trivial,λ i hi=>by simp at hi,λ x k=>(by cases k)⟩,?_⟩;rintro T i6 W7 ⟨j,m,rfl,hj,n,U,o,p,r⟩;have an:=o.len;refine⟨λ ao=>?_,λ ap V aq X Y _ ar u=>⟨V,0,m,rfl,⟨T,⟨_,Y.row.ext u⟩,o.mono λ _ _ h=>h.ext (X.trans u)⟩,λ _=>⟨⟨by omega,r⟩,by omega,p⟩,λ e=>absurd rfl e,λ _=>rfl⟩⟩;have f:j<Lt.length:=by omega
 have w:=h.ext n;obtain⟨Z,z2⟩:=N _ (List.getElem_mem f);refine⟨w.inB (by omega) (by omega),Lt[j].1,Lt[j].2,w.part f 0 rfl,?_⟩;refine Cq6 (J.ext n) Z z2 λ l e x au A ⟨k,he,aa⟩=>?_;obtain⟨B,C,D,E,F,G,rfl,q1,q2⟩:=k;refine⟨B,C,D,E,F,G,e,rfl,λ I ac _=>bad e I (λ g=>by obtain⟨y,y1,y2,y3,y4⟩:=g.2.2 _ (List.getElem_mem f);exact I (aa y y1 y2 y3 y4)) ac,λ h0=>?_⟩;obtain⟨k1,k2⟩:=he (Decidable.not_not.1 h0);subst U;refine⟨by simp only[List.length_cons,List.length_nil];omega,by unfold I64;omega,⟨m.length+1,m ++ [x],by push_cast;rfl,by omega,n.trans A,by simp,(o.mono λ _ _ h=>h.ext A).append ⟨⟨B,C,D,E,F,G,rfl,q1,q2⟩,trivial⟩,Fc1 p f k1,λ y d=>?_⟩,?_⟩
 ·rcases List.mem_append.1 d with d | d
  ·exact r y d
  ·rw[List.mem_singleton.1 d];exact k2
 ·show Lt.length-Int.toNat ((m.length:Int)+1)<Lt.length-Int.toNat (m.length:Int)
  omega
theorem Cg0 (d:Ac6 W)(h:Bs7 W s Lt)(f:Lt.length<=1099511627776)(g: ∀t∈Lt,t.1.size<=1099511627776/\t.2.size<=1099511627776)(j: ∀(s':Sl) (i:Int) (bs:List Iv) (W':PW),Ext W W'->(Bc3 257 W' s' bs/\(i=0->Cn7 bs/\bs.length=Lt.length/\∀i (hi:i<bs.length) (k:i<Lt.length),spP Lt[i].1 Lt[i].2=some bs[i])/\(i≠0->bs = [])/\(Br9 Lt->i=0))->K (.tuple ⟨[Sl.v s',.int .i64 i]⟩) W'):
  Aa1 Tryz.prog W0 M 50 [s.v] W K:=
 Mi4 (λ _ c=>Dd2 (d.ext c) (h.ext c) f g) fun | _,W',c,⟨s',i,bs,rfl,h⟩=>j s' i bs W' c h
theorem Gd2 {n:Nat}(h:Aa6 257 W0 s x)(k:n<=1000000):
  Aa0 Tryz.prog 243 [s.v,.int .i64 (n:Int)] W0 M λ v W'=>∃(i:Int),v = .int .u32 i/\True:=by
 apply Ga8;have l:=h.n;have c:Int.tdiv (n:Int) 32=((n/32:Nat):Int):=rfl;have d:Int.tmod (n:Int) 32=((n%32:Nat):Int):=rfl;have f:IntKind.wrap .i64 (Int.tdiv (n:Int) 32)=((n/32:Nat):Int):=by rw[c];exact wrap_i64 (by unfold I64;omega)
 have g:IntKind.wrap .u64 (Int.tmod (n:Int) 32)=((n%32:Nat):Int):=by rw[d];exact wrap64 (by omega) (by omega)
 rw[f,g];refine⟨λ m=>by omega,λ _=>⟨by decide,λ _ o _=>⟨_,rfl,trivial⟩,λ p=>?_⟩⟩;have r:(dg x).length=nl x:=rfl;have j:n/32<(dg x).length:=by omega
 refine⟨by decide,Ad4.inB h (by omega) (by omega),_,Ad4.at h j,by decide,⟨by omega,?_⟩,λ u _=>⟨_,rfl,trivial⟩⟩;show((n%32:Nat):Int)<=32;omega
theorem Gb2 {n:Nat}(h:Aa6 257 W s x)(d:n<=1000000)(f: ∀(i:Int) (W':PW),Ext W W'->(True)->K (.int .u32 i) W'):
  Aa1 Tryz.prog W0 M 243 [s.v,.int .i64 (n:Int)] W K:=
 Mi4 (λ _ c=>Gd2 (h.ext c) d) fun | _,W',c,⟨i,rfl,h⟩=>f i W' c h
theorem Ga9 (h:Aa6 257 W0 s x)(f:nl x<=30000):
  Aa0 Tryz.prog 195 [s.v] W0 M λ v W'=>∃(i:Int),v = .int .i64 i/\(0<=i/\i<=960000):=by
 apply Fy7;have g:=h.n;refine⟨λ L W=>match L with | [.val (.int .i64 z)]=>∃j:Nat,z=(j:Int)/\j<=32*nl x/\Ext W0 W | _=>False,(λ L _=>match L with | [.val (.int .i64 z)]=>32*nl x-z.toNat | _=>0),⟨0,rfl,Nat.zero_le _,Ext.refl _⟩,?_⟩;rintro i3 k ⟨j,rfl,l,c⟩;refine⟨by unfold I64;omega,λ m=>?_,λ _ n _=>⟨_,rfl,by omega,by omega⟩⟩;refine Gb2 (h.ext c) (by omega) λ i7 o d _=>⟨i7,rfl,λ _=>⟨by unfold I64;omega,⟨j+1,by push_cast;rfl,by omega,c.trans d⟩,?_⟩,λ _ p _=>⟨_,rfl,by omega,by omega⟩⟩;show 32*nl x-Int.toNat ((j:Int)+1)<32*nl x-Int.toNat (j:Int);omega
theorem Fz6 (h:Aa6 257 W s x)(d:nl x<=30000)(f: ∀(i:Int) (W':PW),Ext W W'->((0<=i/\i<=960000))->K (.int .i64 i) W'):
  Aa1 Tryz.prog W0 M 195 [s.v] W K:=
 Mi4 (λ _ c=>Ga9 (h.ext c) d) fun | _,W',c,⟨i,rfl,h⟩=>f i W' c h
theorem Fz9 {b:Bool}(h:Ab6 257 W0 b s t q)(c:Sz 4000 q):
  Aa0 Tryz.prog 132 [.agg ⟨[.bool b,s.v,t.v]⟩] W0 M λ v W'=>∃(ok:Bool),v = .bool ok/\True:=by
 apply Fy0;have k:nl q.den<=4000:=c.2;have l:=Dm3 q.den;refine Ag4 h λ s3 m d f=>⟨s3,rfl,Fz6 f (by omega) λ i6 n g hi=>⟨i6,rfl,Ag4 (h.ext (d.trans g)) λ i o p j=>⟨i,rfl,Bj8 j (by omega) λ r u _=>⟨_,rfl,by unfold I64;omega,λ w _=>⟨_,rfl,trivial⟩⟩⟩⟩⟩
theorem Fx3 {b:Bool}(h:Ab6 257 W b s t q)(d:Sz 4000 q)(f: ∀(ok:Bool) (W':PW),Ext W W'->(True)->K (.bool ok) W'):
  Aa1 Tryz.prog W0 M 132 [.agg ⟨[.bool b,s.v,t.v]⟩] W K:=
 Mi4 (λ _ c=>Fz9 (h.ext c) d) fun | _,W',c,⟨ok,rfl,h⟩=>f ok W' c h
theorem Fy9 (h:Bs7 W0 s Lt)(hl:Lt.length<=1099511627776)(J: ∀t∈Lt,t.1.size<=1099511627776/\t.2.size<=1099511627776):
  Aa0 Tryz.prog 49 [s.v] W0 M λ v W'=>∃(s':Sl),∃(i:Int),∃(bs:List Iv),v = .tuple ⟨[Sl.v s',.int .i64 i]⟩/\Fx4 257 W' s' bs/\(i=0->bs.length=Lt.length/\1<=bs.length/\∀i (hi:i<bs.length) (N:i<Lt.length),spP Lt[i].1 Lt[i].2=some bs[i]):=by
 apply Fx6;have hn:=h.n;have bad: ∀(c:Int),c≠0->∀W':PW,∃(s':Sl) (i:Int) (bs:List Iv),(Value.tuple ⟨[.slice none 0 0,.int .i64 c]⟩) = .tuple ⟨[Sl.v s',.int .i64 i]⟩/\Fx4 257 W' s' bs/\(i=0->bs.length=Lt.length/\1<=bs.length/\∀i (hi:i<bs.length) (N:i<Lt.length),spP Lt[i].1 Lt[i].2=some bs[i]):=
  λ c O W'=>⟨⟨none,0,0⟩,c,[],rfl,Dr1.nil W',λ e=>absurd e O⟩
 refine⟨λ _ P _=>bad 1 (by omega) P,λ h1=>⟨λ _ Q _=>bad 1 (by omega) Q,λ h3=>?_⟩⟩;refine⟨Gf1 W0 Lt,cnD Lt.length,⟨0,[],rfl,Nat.zero_le _,Ext.refl _,rfl,trivial,λ i hi=>by simp at hi⟩,?_⟩;rintro R i6 W7 ⟨j,m,rfl,hj,p,S,n,r⟩;have am:=n.len;refine⟨λ an=>?_,λ ao T U d V _ ap u=>⟨T,0,m,rfl,⟨R,⟨_,V.row.ext u⟩,n.mono λ _ _ h=>h.ext (d.trans u)⟩,λ _=>⟨by omega,by omega,r⟩⟩⟩;have o:j<Lt.length:=by omega
 have w:=h.ext p;obtain⟨X,z2⟩:=J _ (List.getElem_mem o);refine⟨w.inB (by omega) (by omega),Lt[j].1,Lt[j].2,w.part o 0 rfl,?_⟩;refine Bh8 X z2 λ l e aq y ⟨f,he⟩=>?_;obtain⟨A,B,C,D,F,G,rfl,q1,g⟩:=f;have k:=@Fi3 Lt[j].1 Lt[j].2;refine⟨A,B,C,D,F,G,e,rfl,λ Y Z _=>bad e Y Z,λ h0=>?_⟩;obtain⟨x,f⟩:=Option.isSome_iff_exists.1 (he.1 (Decidable.not_not.1 h0));refine Ar1 q1 g k.1 k.2 (by omega) (by omega) λ U d _=>⟨_,rfl,λ _ ab _=>bad 1 (by omega) ab,λ _=>?_⟩;refine Fx3 (q1.ext d) k.1 λ ac ar I _=>⟨ac,rfl,λ _ ad _=>bad 2 (by omega) ad,λ _=>?_⟩;refine Fx3 (g.ext (d.trans I)) k.2 λ ae au af _=>⟨ae,rfl,λ _ ag _=>bad 2 (by omega) ag,λ _=>?_⟩;rw[f] at q1 g;have E:=d.trans (I.trans af);subst S;refine⟨by simp only[List.length_cons,List.length_nil];omega,by unfold I64;omega,⟨m.length+1,m ++ [x],by push_cast;rfl,by omega,p.trans (y.trans E),by simp,(n.mono λ _ _ h=>h.ext (y.trans E)).append ⟨⟨A,B,C,D,F,G,rfl,q1.ext E,g.ext E⟩,trivial⟩,Fc1 r o f⟩,?_⟩;show Lt.length-Int.toNat ((m.length:Int)+1)<Lt.length-Int.toNat (m.length:Int);omega
theorem Fx9 (h:Bs7 W s Lt)(d:Lt.length<=1099511627776)(f: ∀t∈Lt,t.1.size<=1099511627776/\t.2.size<=1099511627776)(g: ∀(s':Sl) (i:Int) (bs:List Iv) (W':PW),Ext W W'->(Fx4 257 W' s' bs/\(i=0->bs.length=Lt.length/\1<=bs.length/\∀i (hi:i<bs.length) (j:i<Lt.length),spP Lt[i].1 Lt[i].2=some bs[i]))->K (.tuple ⟨[Sl.v s',.int .i64 i]⟩) W'):
  Aa1 Tryz.prog W0 M 49 [s.v] W K:=
 Mi4 (λ _ c=>Fy9 (h.ext c) d f) fun | _,W',c,⟨s',i,bs,rfl,h⟩=>g s' i bs W' c h
theorem Ga5 {n:Int}(h:Bs7 W0 s Lt)(r:Lt.length<=1099511627776):
  Aa0 Tryz.prog 41 [s.v,.int .i64 n] W0 M λ v W'=>∃(b:Bool),v = .bool b/\(b=true->∀t∈Lt,t.1.size<=30/\t.2.size<=30):=by
 apply Fy6;have u:=h.n;have bad: ∀W':PW,∃b:Bool,(Value.bool false) = .bool b/\(b=true->∀t∈Lt,t.1.size<=30/\t.2.size<=30):=λ W'=>⟨false,rfl,λ e=>by cases e⟩;refine⟨λ _ m _=>bad m,λ _=>⟨λ L W=>match L with | [.val (.int .i64 z)]=>∃j:Nat,z=(j:Int)/\j<=Lt.length/\Ext W0 W/\∀t∈Lt.take j,t.1.size<=30/\t.2.size<=30 | _=>False,(λ L _=>match L with | [.val (.int .i64 z)]=>Lt.length-z.toNat | _=>0),⟨0,rfl,Nat.zero_le _,Ext.refl _,λ t c=>by simp at c⟩,?_⟩⟩;rintro i4 w ⟨j,rfl,y,g,k⟩;have d:=h.ext g;refine⟨λ A=>?_,λ B C _=>⟨true,rfl,λ _=>?_⟩⟩
 ·have f:j<Lt.length:=by omega
  have l:=d.inB (i:=(j:Int)) (by omega) (by omega);refine⟨l,Lt[j].1,d.part f 0 rfl,λ _ o _=>bad o,λ h1=>⟨l,Lt[j].2,d.part f 1 rfl,λ _ p _=>bad p,λ D=>⟨by unfold I64;omega,⟨j+1,by push_cast;rfl,by omega,g,λ t c=>?_⟩,?_⟩⟩⟩
  ·rw[List.take_succ_eq_append_getElem f] at c
   rcases List.mem_append.1 c with c | c
   ·exact k t c
   ·rw[List.mem_singleton.1 c];omega
  ·show Lt.length-Int.toNat ((j:Int)+1)<Lt.length-Int.toNat (j:Int)
   omega
 ·have:j=Lt.length:=by omega
  subst this
  rwa [List.take_length] at k
theorem Fy8 {n:Int}(h:Bs7 W s Lt)(d:Lt.length<=1099511627776)(f: ∀(b:Bool) (W':PW),Ext W W'->((b=true->∀t∈Lt,t.1.size<=30/\t.2.size<=30))->K (.bool b) W'):
  Aa1 Tryz.prog W0 M 41 [s.v,.int .i64 n] W K:=
 Mi4 (λ _ c=>Ga5 (h.ext c) d) fun | _,W',c,⟨b,rfl,h⟩=>f b W' c h
theorem Eu1 {c:List Iv}(h:bs.length=Lt.length)(g:c.length=Lt.length)(k: ∀i (hi:i<bs.length) (d:i<Lt.length),spP Lt[i].1 Lt[i].2=some bs[i])(k': ∀i (hi:i<c.length) (d:i<Lt.length),spP Lt[i].1 Lt[i].2=some c[i]):bs=c:=by
 refine List.ext_getElem (by omega) λ i h1 f=>?_;have a:=k i h1 (by omega);rw[k' i f (by omega)] at a;exact(Option.some.inj a).symm
theorem Gd5 (h:bs.length=Lt.length)(k: ∀i (hi:i<bs.length) (j:i<Lt.length),spP Lt[i].1 Lt[i].2=some bs[i])(c: ∀t∈Lt,t.1.size<=30/\t.2.size<=30): ∀x∈bs,IvS 4 x:=λ x d=>by
 obtain⟨i,hi,rfl⟩:=List.getElem_of_mem d;obtain⟨f,g,_⟩:=Dp3 (k i hi (by omega));have:=c _ (List.getElem_mem (l:=Lt) (n:=i) (by omega));exact⟨Ct3 f this.1,Ct3 g this.2⟩
theorem Gd4 (k:Ac6 W0)(h:Bs7 W0 s Lt)(c:Lt.length<=1099511627776)(g: ∀t∈Lt,t.1.size<=1099511627776/\t.2.size<=1099511627776):
  Aa0 Tryz.prog 10 [s.v] W0 M λ v W'=>∃(s1:Sl),∃(s2:Sl),∃(ok:Bool),v = .tuple ⟨[Sl.v s1,Sl.v s2,.bool ok]⟩/\(ok=true->∃bs:List Iv,Bc3 257 W' s1 bs/\Fx4 257 W' s2 bs/\Cn7 bs/\∀x∈bs,IvS 4 x):=by
 apply Gb5;have bad: ∀W':PW,∃(s1 s2:Sl) (ok:Bool),(Value.tuple ⟨[.slice none 0 0,.slice none 0 0,.bool false]⟩) = .tuple ⟨[Sl.v s1,Sl.v s2,.bool ok]⟩/\(ok=true->∃bs:List Iv,Bc3 257 W' s1 bs/\Fx4 257 W' s2 bs/\Cn7 bs/\∀x∈bs,IvS 4 x):=λ W'=>⟨⟨none,0,0⟩,⟨none,0,0⟩,false,rfl,λ e=>by cases e⟩;refine Fy8 h c λ l G i m=>⟨l,rfl,λ _ n _=>bad n,λ o=>?_⟩;refine Fx9 (h.ext i) c g λ d i8 I J p ⟨r1,r⟩=>⟨d,i8,rfl,λ _ u _=>bad u,λ w=>?_⟩;have E:=i.trans p;refine Cg0 (k.ext E) (h.ext E) c g λ f i13 bs N y ⟨q1,A,B,_⟩=>⟨f,i13,rfl,λ O j=>⟨f,d,_,rfl,λ C=>?_⟩⟩;obtain⟨k1,k2,D⟩:=r (Decidable.not_not.1 w);have F:=q1.n;have P:=r1.n;have hlen:f.n=d.n:=by have:=of_decide_eq_true C;omega
 by_cases hi:i13=0
 ·obtain⟨m1,m2,m3⟩:=A hi
  have e:=Eu1 m2 k1 m3 D;subst e;exact⟨bs,q1.ext j,r1.ext (y.trans j),m1,Gd5 m2 m3 (m (by simpa using o))⟩
 ·have:=B hi
  subst this;simp at F;omega
theorem Gb4 (d:Ac6 W)(h:Bs7 W s Lt)(f:Lt.length<=1099511627776)(g: ∀t∈Lt,t.1.size<=1099511627776/\t.2.size<=1099511627776)(i: ∀(s1:Sl) (s2:Sl) (ok:Bool) (W':PW),Ext W W'->((ok=true->∃bs:List Iv,Bc3 257 W' s1 bs/\Fx4 257 W' s2 bs/\Cn7 bs/\∀x∈bs,IvS 4 x))->K (.tuple ⟨[Sl.v s1,Sl.v s2,.bool ok]⟩) W'):
  Aa1 Tryz.prog W0 M 10 [s.v] W K:=
 Mi4 (λ _ c=>Gd4 (d.ext c) (h.ext c) f g) fun | _,W',c,⟨s1,s2,ok,rfl,h⟩=>i s1 s2 ok W' c h
end Go.Proofs.YtkgeopnakkcdoaaGreatDoor
namespace Go.Proofs.YtkgeopnakkcdoaaGreatDoor
open Go Go.SX
end Go.Proofs.YtkgeopnakkcdoaaGreatDoor
namespace Go.Proofs.YtkgeopnakkcdoaaGreatDoor
open Go Go.SX
end Go.Proofs.YtkgeopnakkcdoaaGreatDoor
namespace Go.Proofs.YtkgeopnakkcdoaaGreatDoor
open Go Go.SX
end Go.Proofs.YtkgeopnakkcdoaaGreatDoor
namespace Go.Proofs.YtkgeopnakkcdoaaGreatDoor
open Go Go.SX
end Go.Proofs.YtkgeopnakkcdoaaGreatDoor
namespace Go.Proofs.YtkgeopnakkcdoaaGreatDoor
open Go Go.SX
end Go.Proofs.YtkgeopnakkcdoaaGreatDoor
namespace Go.Proofs.YtkgeopnakkcdoaaGreatDoor
open Go Go.SX
end Go.Proofs.YtkgeopnakkcdoaaGreatDoor
