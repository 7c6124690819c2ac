import Derived.Test.YtkgeopnakkcdoaaGreatW12
import Derived.Test.YtkgeopnakkcdoaaGreatR11
import Derived.Test.YtkgeopnakkcdoaaGreatW11
import Derived.Test.YtkgeopnakkcdoaaGreatR9
import Derived.Test.YtkgeopnakkcdoaaGreatW8
import Derived.Test.YtkgeopnakkcdoaaGreatW10
import Derived.Test.YtkgeopnakkcdoaaGreatW7
import Derived.Test.YtkgeopnakkcdoaaGreatW5
set_option linter.unusedVariables false
set_option linter.unusedSimpArgs false
set_option maxRecDepth 100000
namespace Go.Proofs.YtkgeopnakkcdoaaGreat
open Go Go.SX Go.ChangeShapes Go.WideShapes Go.ChangeAt Go.RowKit Go.Deep
variable {H:Type}{W:World}{fuel:Nat}
instance:Inhabited (Mon×ByteArray):=⟨(⟨0,0,0⟩,⟨#[]⟩)⟩
theorem Cd6:Tryz.prog.cellsOf 211=4:=by kernel_rfl
theorem Dv1:Tryz.prog.cellsOf 117=3:=by kernel_rfl
theorem Ew8:Tryz.prog.cellsOf 5=1:=by kernel_rfl
theorem Fg4 {n:Int}(h:(Lit.int .u8 n).wf=true):0<=n/\n<=255:=by
 simp[Lit.wf,IntKind.min,IntKind.max,IntKind.bits,IntKind.signed] at h;omega
theorem Er8 {cs:List Value}{enc:TypeId×Value->H}{x:DataW H×List MemPlace}(h:DataW.trod enc Tryz.prog W 0 (λ _=>true) true fuel 211 cs=some x):
  ∃t:Mon×ByteArray,AT cs t/\t.2.size<=Rows.uptoBulk x.1:=by
 obtain⟨xs,k,rfl,rfl,p,w,q⟩:=DataW.trod_struct Tryz.underlying211 h;rw[Cd6] at p;have g0:DataW.trod enc Tryz.prog W 0 (λ _=>true) true k 117 ((cs.drop 0).take (Tryz.prog.cellsOf 117))=xs[0]?:=q 0 _ rfl;have g1:DataW.trod enc Tryz.prog W 0 (λ _=>true) true k 9 ((cs.drop 3).take (Tryz.prog.cellsOf 9))=xs[1]?:=q 1 _ rfl;rw[Dv1] at g0;rw[Ct5] at g1
 match cs,p,xs,w with
 | [v0,v1,v2,v3],_,[z,A],_=>
  have g0:DataW.trod enc Tryz.prog W 0 (λ _=>true) true k 117 [v0,v1,v2]=some z:=g0;have g1:DataW.trod enc Tryz.prog W 0 (λ _=>true) true k 9 [v3]=some A:=g1;obtain⟨zs,m,rfl,rfl,_,B,o⟩:=DataW.trod_array Tryz.underlying117 g0;obtain⟨s,a,rfl,F⟩:=DataW.trod_string Tryz.underlying9 g1;have c:=o 0 (by omega);have d:=o 1 (by omega);have g:=o 2 (by omega);rw[Ew8] at c d g
  match zs,B with
  | [w0,w1,w2],_=>
   have c:DataW.trod enc Tryz.prog W 0 (λ _=>true) true m 5 [v0]=some w0:=c;have d:DataW.trod enc Tryz.prog W 0 (λ _=>true) true m 5 [v1]=some w1:=d;have g:DataW.trod enc Tryz.prog W 0 (λ _=>true) true m 5 [v2]=some w2:=g;obtain⟨r,j,_,C⟩:=DataW.trod_int Tryz.underlying5 c;obtain⟨u,h1,_,D⟩:=DataW.trod_int Tryz.underlying5 d;obtain⟨v,n,_,E⟩:=DataW.trod_int Tryz.underlying5 g;have a: [v3] = [Value.string s]:=a;have j: [v0] = [Value.int .u8 r]:=j;have h1: [v1] = [Value.int .u8 u]:=h1;have n: [v2] = [Value.int .u8 v]:=n;simp only[List.cons.injEq,and_true] at a j h1 n;subst a j h1 n;refine⟨(⟨r,u,v⟩,s),⟨⟨Fg4 C,Fg4 D,Fg4 E⟩,rfl⟩,?_⟩;have e:s.data.toList.length=s.size:=by rw[Array.length_toList];rfl
   simp only[List.map_cons,List.map_nil,Rows.uptoBulk,Rows.uptoBulkAll];omega
theorem Et3 {V:Nat->List Value}{y:Nat->Mon×ByteArray}{n:Nat}(h: ∀i,i<n->AT (V i) (y i)):An5 AT ((List.range n).map V) ((List.range n).map y):=by
 induction n with
 | zero=>trivial
 | succ n ih=>
  rw[List.range_succ,List.map_append,List.map_append];exact(ih λ i hi=>h i (by omega)).append ⟨h n (by omega),trivial⟩
theorem Dt5 {p:List MemPlace}{enc:TypeId×Value->H}{v:Value}{d:DataW H}(h:DataW.trod enc Tryz.prog W 0 (λ _=>true) true fuel 49 [v]=some (d,p)):
  ∃(s:Sl) (L:List (Mon×ByteArray)),v=s.v/\Af3 ⟨W,λ _=>False⟩ s L/\L.length<=Rows.uptoBulk d/\∀t∈L,t.2.size<=Rows.uptoBulk d:=by
 rcases open_slice Tryz.underlying49 h with⟨r,w⟩ | ⟨a,len,cap,m,n,D,Q,r,_,C,hm,z,w,A⟩
 ·have e:v = .slice none 0 0:=by simpa using r
  subst e;exact⟨⟨none,0,0⟩,[],rfl,⟨[],⟨0,rfl,Nat.le_refl _,Nat.zero_le _,λ x h=>by simp at h,.inl rfl⟩,trivial⟩,Nat.zero_le _,λ l h=>by simp at h⟩
 ·have e:v = .slice (some a) len cap:=by simpa using r
  subst e;simp only[if_true] at z;subst z;simp only[Prod.mk.injEq] at w;obtain⟨rfl,_⟩:=w;rw[Cd6] at A;obtain⟨q,g⟩: ∃q:Nat->List Value×(Mon×ByteArray),∀i,i<m->W.cells? 0 (a.add (i*4)) 4=some (q i).1/\AT (q i).1 (q i).2/\(q i).2.2.size<=Rows.uptoBulk (D i):=choose_lt (α:=List Value×(Mon×ByteArray)) (p:=λ i q=>W.cells? 0 (a.add (i*4)) 4=some q.1/\AT q.1 q.2/\q.2.2.size<=Rows.uptoBulk (D i)) λ i hi=>by
   obtain⟨E,h1,B⟩:=A i hi;obtain⟨t,F,G⟩:=Er8 B;exact⟨(E,t),h1,F,G⟩
  have I:=Bz7 (W:=W) (a:=a) (n:=len) (c:=m) (sz:=4) (V:=λ i=>(q i).1) (λ j o i v e=>by
   obtain⟨_,hlen,J⟩:=World.cells?_some (g j (by omega)).1;have hi:i<4:=by have:=(List.getElem?_eq_some_iff.1 e).1;omega
   have:=J i hi;rw[add_add] at this;rw[this];exact e) (λ j o=>(World.cells?_some (g j (by omega)).1).2.1) (by omega) C hm (λ j o u hu=>by
   rw[(g j (by omega)).2.1.2] at hu;simp only[List.mem_cons,List.not_mem_nil,or_false] at hu;rcases hu with rfl | rfl | rfl | rfl<;>rfl)
  have N: ∀i,i<len->Rows.uptoBulk (D i)<=Rows.uptoBulkAll ((List.range len).map D):=λ i hi=>Eo6 (List.mem_map.2 ⟨i,List.mem_range.2 hi,rfl⟩);have hlen:=Dj1 ((List.range len).map D);simp only[List.length_map,List.length_range] at hlen;refine⟨⟨some a,len,m⟩,(List.range len).map λ i=>(q i).2,rfl,⟨_,I,Et3 λ i hi=>(g i (by omega)).2.1⟩,?_,λ t O=>?_⟩
  ·simp only[List.length_map,List.length_range,Rows.uptoBulk]
   omega
  ·obtain⟨j,o,rfl⟩:=List.mem_map.1 O
   have P:=List.mem_range.1 o;have h1:=N j P;have B:=(g j (by omega)).2.2;simp only[Rows.uptoBulk];omega
end Go.Proofs.YtkgeopnakkcdoaaGreat
namespace Go.Proofs.YtkgeopnakkcdoaaGreat
open Go Go.SX Go.ChangeShapes Go.WideShapes Go.ChangeAt Go.RowKit Go.Deep
theorem Lx7:Tryz.prog.cellsOf 49=1:=by kernel_rfl
theorem Mc3 {H:Type}{W:World}{fuel:Nat}{l:List Value}{p:List MemPlace}{enc:TypeId×Value->H}{d:DataW H}(h:DataW.trod enc Tryz.prog W 0 (λ _=>true) true fuel 105 l=some (d,p))(m:l.length=3):
  ∃(s:Sl) (L:List (Mon×ByteArray)) (a b:ByteArray),l = [s.v,.string a,.string b]/\Af3 ⟨W,λ _=>False⟩ s L/\(L.length<=Rows.uptoBulk d/\∀t∈L,t.2.size<=Rows.uptoBulk d)/\a.size<=Rows.uptoBulk d/\b.size<=Rows.uptoBulk d:=by
 obtain⟨xs,k,rfl,e,_,n,g⟩:=DataW.trod_struct Tryz.underlying105 h;have g0:DataW.trod enc Tryz.prog W 0 (λ _=>true) true k 49 ((l.drop 0).take (Tryz.prog.cellsOf 49))=xs[0]?:=g 0 _ rfl;have g1:DataW.trod enc Tryz.prog W 0 (λ _=>true) true k 103 ((l.drop 1).take (Tryz.prog.cellsOf 103))=xs[1]?:=g 1 _ rfl;rw[Lx7] at g0;rw[Cf7] at g1
 match l,m,xs,n with
 | [v0,v1,v2],_,[j,o],_=>
  have g0:DataW.trod enc Tryz.prog W 0 (λ _=>true) true k 49 [v0]=some (j.1,j.2):=g0;have g1:DataW.trod enc Tryz.prog W 0 (λ _=>true) true k 103 [v1,v2]=some o:=g1;obtain⟨s,L,rfl,h1,w,q⟩:=Dt5 g0;obtain⟨a,b,r,z,A⟩:=open_pair g1;obtain⟨u,c⟩:=List.cons.inj (show[v1,v2] = [Value.string a,Value.string b] from r);obtain⟨c,_⟩:=List.cons.inj c;subst u c;simp only[Prod.mk.injEq] at e;obtain⟨rfl,_⟩:=e;refine⟨s,L,a,b,rfl,h1,⟨?_,λ t v=>?_⟩,?_⟩
  ·simp only[List.map_cons,List.map_nil,Rows.uptoBulk,Rows.uptoBulkAll]
   omega
  ·have:=q t v
   simp only[List.map_cons,List.map_nil,Rows.uptoBulk,Rows.uptoBulkAll];omega
  ·simp only[List.map_cons,List.map_nil,Rows.uptoBulk,Rows.uptoBulkAll]
   omega
end Go.Proofs.YtkgeopnakkcdoaaGreat
namespace Go.Proofs.YtkgeopnakkcdoaaGreat
open Go Go.SX Go.ChangeShapes Go.WideShapes Go.ChangeAt Go.RowKit Go.Deep
variable {H:Type}{W:World}{W':PW}{cs:List Value}{fuel:Nat}
theorem Lq4:Tryz.prog.cellsOf 105=3:=by kernel_rfl
abbrev MoT:=List (Mon×ByteArray)×ByteArray×ByteArray
def MoA (W:PW) (cs:List Value) (t:MoT):Prop:=∃s:Sl,cs = [s.v,.string t.2.1,.string t.2.2]/\Af3 W s t.1
def Lv7 (W:PW) (s:Sl) (L:List MoT):Prop:=∃xs,Bf9 W 3 s xs/\An5 (MoA W) xs L
theorem MoA.ext {t:MoT}{W:PW}(h:MoA W cs t)(a:Ext W W'):MoA W' cs t:=let⟨s,e,h⟩:=h;⟨s,e,h.ext a⟩
theorem Lv7.ext {s:Sl}{L:List MoT}{W:PW}(h:Lv7 W s L)(a:Ext W W'):Lv7 W' s L:=let⟨xs,h1,c⟩:=h;⟨xs,h1.ext a,c.mono λ _ _ h=>h.ext a⟩
theorem Ma9 {enc:TypeId×Value->H}{x:DataW H×List MemPlace}(h:DataW.trod enc Tryz.prog W 0 (λ _=>true) true fuel 105 cs=some x):
  ∃t:MoT,MoA ⟨W,λ _=>False⟩ cs t/\(t.1.length<=Rows.uptoBulk x.1/\∀u∈t.1,u.2.size<=Rows.uptoBulk x.1)/\t.2.1.size<=Rows.uptoBulk x.1/\t.2.2.size<=Rows.uptoBulk x.1:=by
 have c:cs.length=3:=by
  obtain⟨xs,k,_,_,c,_,_⟩:=DataW.trod_struct Tryz.underlying105 h
  rwa [Lq4] at c
 obtain⟨s,L,a,b,e,h1,g,j,m⟩:=Mc3 (d:=x.1) (p:=x.2) h c;exact⟨(L,a,b),⟨s,e,h1⟩,g,j,m⟩
theorem Mb6 {V:Nat->List Value}{y:Nat->MoT}{W:PW}{n:Nat}(h: ∀i,i<n->MoA W (V i) (y i)):An5 (MoA W) ((List.range n).map V) ((List.range n).map y):=by
 induction n with
 | zero=>trivial
 | succ n ih=>
  rw[List.range_succ,List.map_append,List.map_append];exact(ih λ i hi=>h i (by omega)).append ⟨h n (by omega),trivial⟩
theorem Lz7 {p:List MemPlace}{enc:TypeId×Value->H}{v:Value}{d:DataW H}(h:DataW.trod enc Tryz.prog W 0 (λ _=>true) true fuel 24 [v]=some (d,p)):
  ∃(s:Sl) (L:List MoT),v=s.v/\Lv7 ⟨W,λ _=>False⟩ s L/\L.length<=Rows.uptoBulk d/\∀t∈L,(t.1.length<=Rows.uptoBulk d/\∀u∈t.1,u.2.size<=Rows.uptoBulk d)/\t.2.1.size<=Rows.uptoBulk d/\t.2.2.size<=Rows.uptoBulk d:=by
 rcases open_slice Tryz.underlying24 h with⟨w,z⟩ | ⟨a,len,cap,m,n,D,R,w,_,G,hm,B,z,C⟩
 ·have g:v = .slice none 0 0:=by simpa using w
  subst g;exact⟨⟨none,0,0⟩,[],rfl,⟨[],⟨0,rfl,Nat.le_refl _,Nat.zero_le _,λ x h=>by simp at h,.inl rfl⟩,trivial⟩,Nat.zero_le _,λ l h=>by simp at h⟩
 ·have g:v = .slice (some a) len cap:=by simpa using w
  subst g;simp only[if_true] at B;subst B;simp only[Prod.mk.injEq] at z;obtain⟨rfl,_⟩:=z;rw[Lq4] at C;have:Inhabited (List Value×MoT):=⟨([],([],⟨#[]⟩,⟨#[]⟩))⟩;obtain⟨q,o⟩: ∃q:Nat->List Value×MoT,∀i,i<m->W.cells? 0 (a.add (i*3)) 3=some (q i).1/\MoA ⟨W,λ _=>False⟩ (q i).1 (q i).2/\((q i).2.1.length<=Rows.uptoBulk (D i)/\∀u∈(q i).2.1,u.2.size<=Rows.uptoBulk (D i))/\(q i).2.2.1.size<=Rows.uptoBulk (D i)/\(q i).2.2.2.size<=Rows.uptoBulk (D i):=choose_lt (α:=List Value×MoT) (p:=λ i q=>W.cells? 0 (a.add (i*3)) 3=some q.1/\MoA ⟨W,λ _=>False⟩ q.1 q.2/\(q.2.1.length<=Rows.uptoBulk (D i)/\∀u∈q.2.1,u.2.size<=Rows.uptoBulk (D i))/\q.2.2.1.size<=Rows.uptoBulk (D i)/\q.2.2.2.size<=Rows.uptoBulk (D i)) λ i hi=>by
   obtain⟨I,h1,E⟩:=C i hi;obtain⟨t,A,F⟩:=Ma9 E;exact⟨(I,t),h1,A,F⟩
  have J:=Bz7 (W:=W) (a:=a) (n:=len) (c:=m) (sz:=3) (V:=λ i=>(q i).1) (λ j r i v g=>by
   obtain⟨_,hlen,N⟩:=World.cells?_some (o j (by omega)).1;have hi:i<3:=by have:=(List.getElem?_eq_some_iff.1 g).1;omega
   have:=N i hi;rw[add_add] at this;rw[this];exact g) (λ j r=>(World.cells?_some (o j (by omega)).1).2.1) (by omega) G hm (λ j r u hu=>by
   obtain⟨s,e,_⟩:=(o j (by omega)).2.1;rw[e] at hu;simp only[List.mem_cons,List.not_mem_nil,or_false] at hu;rcases hu with rfl | rfl | rfl<;>rfl)
  have O: ∀i,i<len->Rows.uptoBulk (D i)<=Rows.uptoBulkAll ((List.range len).map D):=λ i hi=>Eo6 (List.mem_map.2 ⟨i,List.mem_range.2 hi,rfl⟩);have hlen:=Dj1 ((List.range len).map D);simp only[List.length_map,List.length_range] at hlen;refine⟨⟨some a,len,m⟩,(List.range len).map λ i=>(q i).2,rfl,⟨_,J,Mb6 λ i hi=>(o i (by omega)).2.1⟩,?_,λ t P=>?_⟩
  ·simp only[List.length_map,List.length_range,Rows.uptoBulk]
   omega
  ·obtain⟨j,r,rfl⟩:=List.mem_map.1 P
   have Q:=List.mem_range.1 r;have h1:=O j Q;obtain⟨_,_,⟨E,A⟩,F,S⟩:=o j (by omega);simp only[Rows.uptoBulk];refine⟨⟨by omega,λ u hu=>?_⟩,by omega,by omega⟩;have:=A u hu;omega
end Go.Proofs.YtkgeopnakkcdoaaGreat
namespace Go.Proofs.YtkgeopnakkcdoaaGreat
open Go Go.SX
variable {K:Value->PW->Prop}{L:List MoT}{M:Nat->Prop}{W W0:PW}{b:Nat->Iv}{l:List Value}{ms:List Mdl}{s sm:Sl}
theorem Lv7.n (h:Lv7 W s L):s.n=L.length:=let⟨xs,⟨_,h1⟩,a⟩:=h;h1.1.trans a.len
def lmI (W0:PW) (n:Nat) (L:List PL) (W:PW):Prop:=match L with
 | [.row l,.row a,.val (.int .i64 i)]=>∃(j:Nat) (ms:List Mdl),i=(j:Int)/\j<=n/\ms.length=j/\Ext W0 W/\An5 (MdV 214 180 W) l ms/\An5 (Ll6 214 119 W) a ms/\∀x∈ms,MOK 4 x
 | _=>False
def Mh7 (n:Nat) (L:List PL) (_:PW):Nat:=match L with
 | [_,_,.val (.int .i64 i)]=>n-i.toNat
 | _=>0
theorem Lt8 (h:Lv7 W0 s L)(V: ∀t∈L,(t.1.length<=1099511627776/\∀u∈t.1,u.2.size<=1099511627776)/\t.2.1.size<=1099511627776/\t.2.2.size<=1099511627776):
  Aa0 Tryz.prog 6 [s.v] W0 M λ v W'=>∃(s1:Sl),∃(s2:Sl),∃(ok:Bool),v = .tuple ⟨[Sl.v s1,Sl.v s2,.bool ok]⟩/\(ok=true->∃ms:List Mdl,Lm9 W' s1 ms/\Lm1 W' s2 ms/\(∀x∈ms,MOK 4 x)/\ms.length<=3):=by
 apply Lq8;have hn:=h.n;have bad: ∀W':PW,∃(s1 s2:Sl) (ok:Bool),(Value.tuple ⟨[.slice none 0 0,.slice none 0 0,.bool false]⟩) = .tuple ⟨[Sl.v s1,Sl.v s2,.bool ok]⟩/\(ok=true->∃ms:List Mdl,Lm9 W' s1 ms/\Lm1 W' s2 ms/\(∀x∈ms,MOK 4 x)/\ms.length<=3):=λ W'=>⟨⟨none,0,0⟩,⟨none,0,0⟩,false,rfl,λ e=>(by cases e)⟩;refine⟨λ _ X _=>bad X,λ h3=>⟨lmI W0 L.length,Mh7 L.length,⟨0,[],rfl,Nat.zero_le _,rfl,Ext.refl _,trivial,trivial,λ x a=>(by cases a)⟩,?_⟩⟩;rintro l4 c i6 Y ⟨j,ms,rfl,hj,Z,J,g,m,N⟩;have h7:=h.ext J;have ar:=g.len;have au:=m.len;refine⟨λ av=>?_,λ aw ab ax O ac _ ad ay P ae _ az Q=>⟨ab,ad,true,rfl,λ _=>⟨ms,Lm9.ext ⟨l4,⟨_,ac.row⟩,g.mono λ _ _ h=>h.ext O⟩ (P.trans Q),Lm1.ext ⟨c,⟨_,ae.row⟩,m.mono λ _ _ h=>h.ext (O.trans P)⟩ Q,N,by omega⟩⟩⟩;have R:j<L.length:=by omega
 obtain⟨xs,⟨ty,n⟩,S⟩:=h7;obtain⟨x,a,T,rfl,hp⟩:=S.get (List.getElem?_eq_getElem R);obtain⟨⟨z1,z2⟩,z3,z4⟩:=V _ (List.getElem_mem R);have U:SX.inB s (j:Int):=Row.inB n (by omega) (by rw[S.len];omega);refine⟨U,T,L[j].2.1,L[j].2.2,Row.part n a 0 rfl,?_⟩;refine Lz2 (e:=4) hp z1 z2 z3 z4 λ l l' ok y ah d ⟨g1,g2,g3⟩=>?_;obtain⟨o,_,rfl,g4,p,q,r,w,z,A,rfl,g5,g6⟩:=g1;obtain⟨B,_,rfl,k4,C,D,E,F,G,I,rfl,k5,k6⟩:=g2;refine⟨o,p,q,r,w,z,A,B,C,D,E,F,G,I,ok,rfl,λ _ al _=>bad al,λ am=>⟨U,T,Row.part (n.ext d) a 0 rfl,λ _ an _=>bad an,λ h4=>?_⟩⟩;have hO:MOK 4 y:=g3 (by simpa using am);have step:(List.length l4+List.length [[Sl.v o,Sl.v p,.bool q,Sl.v r,Sl.v w,.bool z,Sl.v A]])*136<=140737488355328/\(List.length c+List.length [[Sl.v B,.bool C,Sl.v D,Sl.v E,.bool F,Sl.v G,Sl.v I]])*136<=140737488355328/\I64 ((j:Int)+1)/\stp (lmI W0 L.length) (Mh7 L.length) [PL.row (l4 ++ [[Sl.v o,Sl.v p,.bool q,Sl.v r,Sl.v w,.bool z,Sl.v A]]),PL.row (c ++ [[Sl.v B,.bool C,Sl.v D,Sl.v E,.bool F,Sl.v G,Sl.v I]]),PL.val (.int IntKind.i64 ((j:Int)+1))] ah [PL.row l4,PL.row c,PL.val (.int IntKind.i64 (j:Int))] Y:=by
  refine⟨by simp only[List.length_cons,List.length_nil];omega,by simp only[List.length_cons,List.length_nil];omega,by unfold I64;omega,⟨j+1,ms ++ [y],by push_cast;rfl,by omega,by rw[List.length_append,Z];rfl,J.trans d,(g.mono λ _ _ h=>h.ext d).append ⟨MdV.mk g4 (SpV.mk g5 g6),trivial⟩,(m.mono λ _ _ h=>h.ext d).append ⟨Ll6.mk k4 (Ah6.mk k5 k6),trivial⟩,λ x a=>?_⟩,?_⟩
  ·rcases List.mem_append.1 a with h | h
   ·exact N x h
   ·rw[List.mem_singleton.1 h];exact hO
  ·show L.length-Int.toNat ((j:Int)+1)<L.length-Int.toNat (j:Int)
   omega
 exact⟨Fc8 step 1,step⟩
theorem Lr2 (h:Lv7 W s L)(c: ∀t∈L,(t.1.length<=1099511627776/\∀u∈t.1,u.2.size<=1099511627776)/\t.2.1.size<=1099511627776/\t.2.2.size<=1099511627776)(d: ∀(s1:Sl) (s2:Sl) (ok:Bool) (W':PW),Ext W W'->((ok=true->∃ms:List Mdl,Lm9 W' s1 ms/\Lm1 W' s2 ms/\(∀x∈ms,MOK 4 x)/\ms.length<=3))->K (.tuple ⟨[Sl.v s1,Sl.v s2,.bool ok]⟩) W'):
  Aa1 Tryz.prog W0 M 6 [s.v] W K:=
 Mi4 (λ _ a=>Lt8 (h.ext a) c) fun | _,W',a,⟨s1,s2,ok,rfl,h⟩=>d s1 s2 ok W' a h
def Lu2 (b:Nat->Iv) (k:Nat):Iv:=if k=2 then((b 2).2,(b 2).2) else b k
def Lp0 (b:Nat->Iv) (x:Mdl):Iv:=Cb5 (Aq8 (Lu2 b) x.1) x.2
def Lm0 (b:Nat->Iv) (n:Int) (ms:List Mdl):Prop:=Fc6 b n/\1<=ms.length/\ms.length<=2
instance (b:Nat->Iv) (n:Int) (ms:List Mdl):Decidable (Lm0 b n ms):=by unfold Lm0;infer_instance
theorem Lx3 (h:Ln7 b):Ln7 (Lu2 b):=⟨λ k=>by
 unfold Lu2;split
 ·obtain⟨D,N,⟨h1,a⟩,c⟩:=h.bd 2
  exact⟨D,N,⟨a,a⟩,c⟩
 ·exact h.bd k,λ k=>by
 unfold Lu2;split
 ·exact Rat.le_refl
 ·exact h.ord k⟩
theorem Mb0 {n:Int}(h:Fc6 b n):Fc6 (Lu2 b) n:=⟨h.1,h.2.1,Rat.le_refl,h.2.2.2⟩
def laI (W0:PW) (b:Nat->Iv) (ms:List Mdl) (L:List PL) (W:PW):Prop:=match L with
 | [.row l,.val (.int .i64 i)]=>∃j:Nat,i=(j:Int)/\j<=ms.length/\Ext W0 W/\An5 (SpV 214 W) l ((ms.take j).map (Lp0 b))
 | _=>False
def Mi3 (W0:PW) (b:Nat->Iv) (ms:List Mdl) (L:List PL) (W:PW):Prop:=match L with
 | [.row l,.val (.int .i64 i)]=>∃j:Nat,i=(j:Int)/\j<=ms.length/\Ext W0 W/\An5 (Ah6 214 W) l ((ms.take j).map (Lp0 b))
 | _=>False
theorem Lp2 {j:Nat}(a:j<ms.length):(ms.take (j+1)).map (Lp0 b)=(ms.take j).map (Lp0 b) ++ [Lp0 b ms[j]]:=by
 rw[List.take_succ_eq_append_getElem a,List.map_append];rfl
theorem Me5 {x:Mdl}(a:MOK 4 x)(c:Ln7 b):BdI 30136 (Aq8 (Lu2 b) x.1)/\IvS 40000 (Lp0 b x):=by
 have h1:=Ln0 a.b.bd (Lx3 c).bd (Nat.le_refl 7) a.b.ok (by omega);exact⟨h1,((h1.add a.b.rest).mono (by omega)).sz⟩
theorem Ma2 {n:Int}(o:Lm6 214 W0 l b n)(hm:Lm9 W0 sm ms)(D: ∀x∈ms,MOK 4 x)(t:Ln7 b):
  Aa0 Tryz.prog 17 [.agg ⟨l⟩,sm.v] W0 M λ v W'=>∃(s1:Sl),v = .tuple ⟨[Sl.v s1,.bool (decide (Lm0 b n ms))]⟩/\Bc3 214 W' s1 (if Lm0 b n ms then ms.map (Lp0 b) else[]):=by
 obtain⟨l',rfl,s0,b0,t0,s1,b1,t1,s2,b2,t2,s3,d,t3,s4,p,t4,a,c,t5,rfl,d1,d2,d3⟩:=o;apply Lu9;have nm:=hm.n;have o:Lm6 214 W0 [s0.v,.bool b0,t0.v,s1.v,.bool b1,t1.v,s2.v,.bool b2,t2.v,s3.v,.bool d,t3.v,s4.v,.bool p,t4.v,a.v,.bool c,t5.v,.int .i64 n] b n:=Lm6.mk (l:=[s0.v,.bool b0,t0.v,s1.v,.bool b1,t1.v,s2.v,.bool b2,t2.v,s3.v,.bool d,t3.v,s4.v,.bool p,t4.v,a.v,.bool c,t5.v]) ⟨s0,b0,t0,s1,b1,t1,s2,b2,t2,s3,d,t3,s4,p,t4,a,c,t5,rfl,d1,d2,d3⟩;have bad:¬Lm0 b n ms->∀W':PW,∃s1:Sl,(Value.tuple ⟨[.slice none 0 0,.bool false]⟩) = .tuple ⟨[Sl.v s1,.bool (decide (Lm0 b n ms))]⟩/\Bc3 214 W' s1 (if Lm0 b n ms then ms.map (Lp0 b) else[]):=λ u W'=>⟨⟨none,0,0⟩,by rw[decide_eq_false u],by rw[if_neg u];exact Dr1.nil W'⟩;refine Ll8 o (λ i=>(t.bd i).sz) (by omega) λ E F _=>⟨_,rfl,λ h G _=>bad (λ ok=>by simp[ok.1] at h) G,λ I=>⟨λ h1 J _=>bad (λ ok=>by have:=ok.2.1;omega) J,λ h1=>⟨λ N O _=>bad (λ ok=>by have:=ok.2.2;omega) O,λ N=>⟨⟨by omega,by omega⟩,⟨by omega,by omega⟩,?_⟩⟩⟩⟩;have w:Fc6 b n:=by simpa using I
 have P:=Mb0 w;have Q:=Lx3 t;have ok:Lm0 b n ms:=⟨w,by omega,by omega⟩;refine⟨laI E b ms,Mg8 ms.length,⟨0,rfl,Nat.zero_le _,Ext.refl _,trivial⟩,?_⟩;rintro l9 i10 R ⟨j,rfl,hj,z,e⟩;have g:=F.trans z;have S:=e.len;rw[List.length_map,List.length_take] at S;refine⟨λ aj=>?_,λ ak T al U V _ am X=>⟨T,by rw[decide_eq_true ok],?_⟩⟩
 ·have q:j<ms.length:=by omega
  have A:=hm.ext g;obtain⟨y,⟨Y,_,rfl,g4,Z,aa,ab,ac,ad,ae,rfl,g5,g6⟩,el⟩:=A.at q;have hO:=D _ (List.getElem_mem q);have B:=d3.two;have af:Lm6 214 R [s0.v,.bool b0,t0.v,s1.v,.bool b1,t1.v,s2.v,.bool b2,t2.v,s3.v,.bool d,t3.v,a.v,.bool c,t5.v,a.v,.bool c,t5.v,.int .i64 n] (Lu2 b) n:=Lm6.mk (l:=[s0.v,.bool b0,t0.v,s1.v,.bool b1,t1.v,s2.v,.bool b2,t2.v,s3.v,.bool d,t3.v,a.v,.bool c,t5.v,a.v,.bool c,t5.v]) ⟨s0,b0,t0,s1,b1,t1,s2,b2,t2,s3,d,t3,a,c,t5,a,c,t5,rfl,d1.ext g,d2.ext g,(SpV.mk (x:=Lu2 b 2) B.2 B.2).ext g⟩;refine⟨A.inB (by omega) (by omega),Y,Z,aa,ab,ac,ad,ae,el 0 rfl,?_⟩;refine Ls5 af (MdV.mk g4 (SpV.mk g5 g6)) hO.b Q.bd (Nat.le_refl 7) (by omega) (by omega) (by omega) (by have:=hO.len;omega) λ r an C m=>m.Ge9 λ ao ap aq ar au av m=>⟨by simp only[List.length_cons,List.length_nil];omega,by unfold I64;omega,⟨j+1,by push_cast;rfl,by omega,z.trans C,?_⟩,?_⟩
  ·rw[if_pos P] at m
   rw[Lp2 q];exact(e.mono λ _ _ h=>h.ext C).append ⟨m,trivial⟩
  ·show ms.length-Int.toNat ((j:Int)+1)<ms.length-Int.toNat (j:Int)
   omega
 ·have:j=ms.length:=by omega
  subst this;rw[List.take_length] at e;rw[if_pos ok];exact Bc3.ext ⟨l9,⟨_,V.row⟩,e.mono λ _ _ h=>h.ext U⟩ X
theorem Lw6 {n:Int}(c:Lm6 214 W l b n)(hm:Lm9 W sm ms)(d: ∀x∈ms,MOK 4 x)(e:Ln7 b)(g: ∀(s1:Sl) (W':PW),Ext W W'->(Bc3 214 W' s1 (if Lm0 b n ms then ms.map (Lp0 b) else[]))->K (.tuple ⟨[Sl.v s1,.bool (decide (Lm0 b n ms))]⟩) W'):
  Aa1 Tryz.prog W0 M 17 [.agg ⟨l⟩,sm.v] W K:=
 Mi4 (λ _ a=>Ma2 (c.ext a) (hm.ext a) d e) fun | _,W',a,⟨s1,rfl,h⟩=>g s1 W' a h
end Go.Proofs.YtkgeopnakkcdoaaGreat
namespace Go.Proofs.YtkgeopnakkcdoaaGreat
open Go Go.SX
variable {K:Value->PW->Prop}{M:Nat->Prop}{W W0:PW}{a0 a1 a2 b0 b1 b2:Bool}{b:Nat->Iv}{f:List (List Tm)}{l:List Value}{ms:List Mdl}{p0 p1 p2 s s0 s1 s2 sm t0 t1 t2 u0 u1 u2 w0 w1 w2:Sl}{tu:TypeId}{y:Nat->Mdl}
theorem Lq0 {n:Int}(h:Ll5 tu W l b n): ∃(b0:Bool) (s0 t0:Sl) (b1:Bool) (s1 t1:Sl) (b2:Bool) (s2 t2:Sl) (a:Bool) (s3 t3:Sl) (c:Bool) (s4 t4:Sl) (d:Bool) (e t5:Sl),l = [.bool b0,s0.v,t0.v,.bool b1,s1.v,t1.v,.bool b2,s2.v,t2.v,.bool a,s3.v,t3.v,.bool c,s4.v,t4.v,.bool d,e.v,t5.v,.int .i64 n]:=by
 obtain⟨g,rfl,b0,s0,t0,b1,s1,t1,b2,s2,t2,a,s3,t3,c,s4,t4,d,e,t5,rfl,_⟩:=h;exact⟨b0,s0,t0,b1,s1,t1,b2,s2,t2,a,s3,t3,c,s4,t4,d,e,t5,rfl⟩
theorem Mc1 {n:Int}(o:Ll5 214 W0 l b n)(hm:Lm1 W0 sm ms)(I: ∀x∈ms,MOK 4 x)(p:Ln7 b):
  Aa0 Tryz.prog 18 [.agg ⟨l⟩,sm.v] W0 M λ v W'=>∃(s1:Sl),v = .tuple ⟨[Sl.v s1,.bool (decide (Lm0 b n ms))]⟩/\Fx4 214 W' s1 (if Lm0 b n ms then ms.map (Lp0 b) else[]):=by
 obtain⟨l',rfl,b0,s0,t0,b1,s1,t1,b2,s2,t2,d,s3,t3,q,s4,t4,a,c,t5,rfl,d1,d2,d3⟩:=o;apply Lv4;have nm:=hm.n;have o:Ll5 214 W0 [.bool b0,s0.v,t0.v,.bool b1,s1.v,t1.v,.bool b2,s2.v,t2.v,.bool d,s3.v,t3.v,.bool q,s4.v,t4.v,.bool a,c.v,t5.v,.int .i64 n] b n:=Ll5.mk (l:=[.bool b0,s0.v,t0.v,.bool b1,s1.v,t1.v,.bool b2,s2.v,t2.v,.bool d,s3.v,t3.v,.bool q,s4.v,t4.v,.bool a,c.v,t5.v]) ⟨b0,s0,t0,b1,s1,t1,b2,s2,t2,d,s3,t3,q,s4,t4,a,c,t5,rfl,d1,d2,d3⟩;have bad:¬Lm0 b n ms->∀W':PW,∃s1:Sl,(Value.tuple ⟨[.slice none 0 0,.bool false]⟩) = .tuple ⟨[Sl.v s1,.bool (decide (Lm0 b n ms))]⟩/\Fx4 214 W' s1 (if Lm0 b n ms then ms.map (Lp0 b) else[]):=λ A W'=>⟨⟨none,0,0⟩,by rw[decide_eq_false A],by rw[if_neg A];exact Dr1.nil W'⟩;refine Ll2 o (λ i=>(p.bd i).sz) (by omega) λ J N _=>⟨_,rfl,λ h O _=>bad (λ ok=>by simp[ok.1] at h) O,λ P=>⟨λ h1 Q _=>bad (λ ok=>by have:=ok.2.1;omega) Q,λ h1=>⟨λ R S _=>bad (λ ok=>by have:=ok.2.2;omega) S,λ R=>⟨⟨by omega,by omega⟩,⟨by omega,by omega⟩,?_⟩⟩⟩⟩;have T:Fc6 b n:=by simpa using P
 have B:=Lx3 p;have ok:Lm0 b n ms:=⟨T,by omega,by omega⟩;refine⟨Mi3 J b ms,Mg8 ms.length,⟨0,rfl,Nat.zero_le _,Ext.refl _,trivial⟩,?_⟩;rintro l9 i10 U ⟨j,rfl,hj,C,e⟩;have g:=N.trans C;have V:=e.len;rw[List.length_map,List.length_take] at V;refine⟨λ ao=>?_,λ ap X aq Y Z _ ar aa=>⟨X,by rw[decide_eq_true ok],?_⟩⟩
 ·have u:j<ms.length:=by omega
  have D:=hm.ext g;obtain⟨y,⟨ab,_,rfl,g4,ac,ad,ae,af,ag,ah,rfl,g5,g6⟩,el⟩:=D.at u;have hO:=I _ (List.getElem_mem u);have E:=d3.two;have F:=D.inB (i:=(j:Int)) (by omega) (by omega);obtain⟨z1,z2⟩:=Me5 hO p;have aj:Cf1 214 U [.bool b0,s0.v,t0.v,.bool b1,s1.v,t1.v,.bool b2,s2.v,t2.v,.bool d,s3.v,t3.v,.bool a,c.v,t5.v,.bool a,c.v,t5.v] (Lu2 b):=⟨b0,s0,t0,b1,s1,t1,b2,s2,t2,d,s3,t3,a,c,t5,a,c,t5,rfl,d1.ext g,d2.ext g,(Ah6.mk (x:=Lu2 b 2) E.2 E.2).ext g⟩;refine⟨F,ab,el 0 rfl,F,ac,ad,ae,af,ag,ah,el 1 rfl,?_⟩;refine Cs3 g4 aj hO.b.bd B.bd B.ord (λ t ht i=>Nat.le_trans (Mf6 (hO.b.ok t ht) i) (by decide)) (Nat.le_refl 255) (by omega) (by omega) (by have:=hO.len;omega) λ r au m w=>w.out λ av aw ax ay az aA w=>⟨m,?_⟩;refine Bp3 w ((Ah6.mk g5 g6).ext m) (z1.mono (show _<=40000 by omega)).sz (hO.b.rest.mono (show 7<=40000 by omega)).sz (by omega) λ r aB G z=>z.out λ aC aD aE aF aG aH z=>⟨by simp only[List.length_cons,List.length_nil];omega,by unfold I64;omega,⟨j+1,by push_cast;rfl,by omega,C.trans (m.trans G),?_⟩,?_⟩
  ·rw[Lp2 u]
   exact(e.mono λ _ _ h=>h.ext (m.trans G)).append ⟨z,trivial⟩
  ·show ms.length-Int.toNat ((j:Int)+1)<ms.length-Int.toNat (j:Int)
   omega
 ·have:j=ms.length:=by omega
  subst this;rw[List.take_length] at e;rw[if_pos ok];exact Fx4.ext ⟨l9,⟨_,Z.row⟩,e.mono λ _ _ h=>h.ext Y⟩ aa
theorem Lz6 {n:Int}(c:Ll5 214 W l b n)(hm:Lm1 W sm ms)(d: ∀x∈ms,MOK 4 x)(e:Ln7 b)(g: ∀(s1:Sl) (W':PW),Ext W W'->(Fx4 214 W' s1 (if Lm0 b n ms then ms.map (Lp0 b) else[]))->K (.tuple ⟨[Sl.v s1,.bool (decide (Lm0 b n ms))]⟩) W'):
  Aa1 Tryz.prog W0 M 18 [.agg ⟨l⟩,sm.v] W K:=
 Mi4 (λ _ a=>Mc1 (c.ext a) (hm.ext a) d e) fun | _,W',a,⟨s1,rfl,h⟩=>g s1 W' a h
theorem Me4 {j:Nat}(a:j<ms.length)(k:Nat):Lv9 (ms.take (j+1)) k=if k=j then ms[j] else Lv9 (ms.take j) k:=by
 unfold Lv9;rw[List.getD_eq_getElem?_getD,List.getD_eq_getElem?_getD,List.getElem?_take,List.getElem?_take]
 by_cases e:k=j
 ·subst e
  rw[if_pos (by omega),if_pos rfl,List.getElem?_eq_getElem a];rfl
 ·rw[if_neg e]
  by_cases h:k<j
  ·rw[if_pos h,if_pos (by omega)]
  ·rw[if_neg h,if_neg (by omega)]
theorem Me1 {tt:TypeId}(h:Me8 tu tt W [p0.v,.bool a0,s0.v,t0.v,.bool b0,u0.v,w0.v,p1.v,.bool a1,s1.v,t1.v,.bool b1,u1.v,w1.v,p2.v,.bool a2,s2.v,t2.v,.bool b2,u2.v,w2.v] y):
  Ll6 tu tt W [p0.v,.bool a0,s0.v,t0.v,.bool b0,u0.v,w0.v] (y 0)/\Ll6 tu tt W [p1.v,.bool a1,s1.v,t1.v,.bool b1,u1.v,w1.v] (y 1)/\Ll6 tu tt W [p2.v,.bool a2,s2.v,t2.v,.bool b2,u2.v,w2.v] (y 2):=by
 obtain⟨_,_,_,_,_,_,_,_,_,_,_,_,_,_,_,_,_,_,_,_,_,e,k⟩:=h;simp only[List.cons.injEq,Value.bool.injEq,and_true] at e;obtain⟨a,c,d,g,j,m,n,o,p,q,r,t,u,v,w,z,A,B,C,D,E⟩:=e;rw[Sl.Ck0 a,c,Sl.Ck0 d,Sl.Ck0 g,j,Sl.Ck0 m,Sl.Ck0 n,Sl.Ck0 o,p,Sl.Ck0 q,Sl.Ck0 r,t,Sl.Ck0 u,Sl.Ck0 v,Sl.Ck0 w,z,Sl.Ck0 A,Sl.Ck0 B,C,Sl.Ck0 D,Sl.Ck0 E];exact k
theorem Md8 {tt:TypeId}(a:Ll6 tu tt W [p0.v,.bool a0,s0.v,t0.v,.bool b0,u0.v,w0.v] (y 0))(h1:Ll6 tu tt W [p1.v,.bool a1,s1.v,t1.v,.bool b1,u1.v,w1.v] (y 1))(c:Ll6 tu tt W [p2.v,.bool a2,s2.v,t2.v,.bool b2,u2.v,w2.v] (y 2)):
  Me8 tu tt W [p0.v,.bool a0,s0.v,t0.v,.bool b0,u0.v,w0.v,p1.v,.bool a1,s1.v,t1.v,.bool b1,u1.v,w1.v,p2.v,.bool a2,s2.v,t2.v,.bool b2,u2.v,w2.v] y:=⟨_,_,_,_,_,_,_,_,_,_,_,_,_,_,_,_,_,_,_,_,_,rfl,a,h1,c⟩
def Mi1 (W0:PW) (ms:List Mdl) (L:List PL) (W:PW):Prop:=match L with
 | [.val (.int .i64 i),.cells l]=>∃j:Nat,i=(j:Int)/\j<=ms.length/\Ext W0 W/\Me8 214 119 W l (Lv9 (ms.take j))
 | _=>False
def Mi0 (W0:PW) (b:Nat->Iv) (n:Int) (f:List (List Tm)) (ms:List Mdl) (L:List PL) (W:PW):Prop:=match L with
 | [.row l,.val (.int .i64 i)]=>∃j:Nat,i=(j:Int)/\j<=f.length/\Ext W0 W/\An5 (Ll6 214 119 W) l (Lw9 b n f ms j)/\(0<j->Ll9 b n)
 | _=>False
theorem Ly9 {n:Int}(g:Ll5 214 W0 l b n)(m:RPs W0 s f)(hm:Lm1 W0 sm ms)(hl:f.length<=4)(hF:Mc6 f)(T: ∀x∈ms,MOK 4 x)(a:Ln7 b):
  Aa0 Tryz.prog 15 [.agg ⟨l⟩,s.v,sm.v] W0 M λ v W'=>∃(s1:Sl),v = .tuple ⟨[Sl.v s1,.bool (decide (Lm3 b n f ms))]⟩/\Lm1 W' s1 (if Lm3 b n f ms then Lw9 b n f ms f.length else[]):=by
 obtain⟨c0,a0,a1,c1,a2,a3,c2,a4,a5,c3,a6,a7,c4,a8,a9,c5,bc,bd,rfl⟩:=Lq0 g;apply Lr7;have n0:=m.n;have nm:=hm.n;have bad:¬Lm3 b n f ms->∀W':PW,∃s1:Sl,(Value.tuple ⟨[.slice none 0 0,.bool false]⟩) = .tuple ⟨[Sl.v s1,.bool (decide (Lm3 b n f ms))]⟩/\Lm1 W' s1 (if Lm3 b n f ms then Lw9 b n f ms f.length else[]):=λ U W'=>⟨⟨none,0,0⟩,by rw[decide_eq_false U],by rw[if_neg U];exact Dr1.nil W'⟩;refine Ll2 g (λ i=>(a.bd i).sz) (by omega) λ W2 V _=>⟨_,rfl,λ h W4 _=>bad (λ ok=>by simp[ok.2.2.1] at h) W4,λ B=>?_⟩;have o:Fc6 b n:=by simpa using B
 refine Jz4 (m.ext V) (by omega) (λ p hp=>by have:=(hF p hp).1;omega) λ W6 ah _=>⟨_,rfl,λ b1 W8 _=>bad (λ ok=>by simp[ok.1] at b1) W8,λ b1=>⟨λ aj W9 _=>bad (λ ok=>aj (by have:=ok.2.1;omega)) W9,λ heq=>?_⟩⟩;have C:Jz8 f:=by simpa using b1
 have hlen:ms.length=f.length:=by omega
 have bi:=C.2.2;refine Lm8 λ r bj al D=>D.Mf4 λ bk bl bm bn bo bp bq D _ _=>?_;refine Lm8 λ r br X E=>E.Mf4 λ bt bu bv bw bz bA bB E _ _=>?_;refine Lm8 λ r am F G=>G.Mf4 λ bC bD bE bF bG bH bI G _ _=>?_;have an:=V.trans (ah.trans (al.trans (X.trans F)));refine⟨Mi1 am ms,λ L _=>match L with | [.val (.int .i64 i),_]=>ms.length-i.toNat | _=>0,⟨0,rfl,Nat.zero_le _,Ext.refl _,Md8 (D.ext (X.trans F)) (E.ext F) G⟩,?_⟩;rintro bJ bK bL bM bN bO bP bQ bR bS bT bU bV bW bX bY bZ b3 b4 b5 b6 i60 ao ⟨j,rfl,hj,I,J⟩;obtain⟨m0,m1,m2⟩:=Me1 J;have Y:=an.trans I;refine⟨λ aq=>?_,λ ar=>?_⟩
 ·have c:j<ms.length:=by omega
  have Z:=hm.ext Y;obtain⟨y,⟨au,_,rfl,g4,av,aw,ax,ay,az,aA,rfl,g5,g6⟩,el⟩:=Z.at c;have hy:=Ll6.mk g4 (Ah6.mk g5 g6);have ab:ms.length-Int.toNat ((j:Int)+1)<ms.length-Int.toNat (j:Int):=by omega
  have d:=Me4 c;refine⟨Z.inB (by omega) (by omega),au,av,aw,ax,ay,az,aA,el 0 rfl,⟨by omega,by omega⟩,by omega,⟨⟨trivial,λ e=>?_⟩,λ e=>?_⟩,λ e=>?_⟩
  ·have:j=0:=by omega
   subst this;exact⟨by unfold I64;omega,⟨1,rfl,by omega,I,Md8 (by rw[d,if_pos rfl];exact hy) (by rw[d,if_neg (by omega)];exact m1) (by rw[d,if_neg (by omega)];exact m2)⟩,ab⟩
  ·have:j=1:=by omega
   subst this;exact⟨by unfold I64;omega,⟨2,rfl,by omega,I,Md8 (by rw[d,if_neg (by omega)];exact m0) (by rw[d,if_pos rfl];exact hy) (by rw[d,if_neg (by omega)];exact m2)⟩,ab⟩
  ·exact absurd e (by omega)
 have aB:j=ms.length:=by omega
 subst aB;rw[List.take_length] at J;refine⟨Mi0 ao b n f ms,Mg8 f.length,⟨0,rfl,Nat.zero_le _,Ext.refl _,trivial,λ h=>absurd h (Nat.lt_irrefl _)⟩,?_⟩;rintro aC i72 b7 ⟨j,rfl,hj,N,O,hT⟩;have aE:=O.len;rw[Ln8] at aE;have q:=Y.trans N;refine⟨λ aq=>?_,λ ar aF b8 aG aH _ b9 aI=>?_⟩
 rotate_left
 ·have:j=f.length:=by omega
  subst this;have ok:Lm3 b n f ms:=⟨C,hlen,hT (by have:=C.2.1;omega)⟩;refine⟨aF,by rw[decide_eq_true ok],?_⟩;rw[if_pos ok];exact Lm1.ext ⟨aC,⟨_,aH.row⟩,O.mono λ _ _ h=>h.ext aG⟩ aI
 have c:j<f.length:=by omega
 obtain⟨aJ,aK,hq⟩:=(m.ext q).at c;obtain⟨ca,aM⟩:=hF _ (List.getElem_mem c);refine⟨(m.ext q).inB (by omega) (by omega),aJ,aK,?_⟩;refine Ln9 (g.ext q) hq (J.ext N) aM (by omega) (Lw2 T) a λ r cb P t=>t.out λ cc cd ce cf cg ch ci t _ _=>⟨λ h=>absurd h (by rw[decide_eq_true o];decide),λ _=>?_⟩;rw[if_pos o] at t;have ac:=q.trans P;have u:=Lw1 hF T a o c;obtain⟨p1,p2,p3,p4⟩:=Lw7 (n:=n) u.1 u.2 a;refine Lv2 (g.ext ac) t u.1 a.bd a.ord (Nat.le_refl 7) (by omega) p1 (by omega) (by omega) (by omega) (by have:=u.2;omega) λ r ck Q w=>w.out λ cl cm cn co cp cq cr w _ _=>⟨λ B aO _=>bad (λ ok=>by simp[ok.2.2] at B) aO,λ aP=>?_⟩;have ad:Ll9 b n:=by simpa using aP
 rw[if_pos ad] at w;have aQ:=ac.trans Q;refine Kj4 (i:=(j:Int)) λ aR ct z aS=>⟨aR,rfl,?_⟩;refine Ln1 (g.ext (aQ.trans z)) aS (Gs7 _) a.bd a.ord (Nat.le_refl 7) (Gv8 _) (by omega) (by omega) (by have:=Me6 (j:Int);omega) λ r cu R A=>A.out λ cv cw cx cy cz cA cB A _ _=>?_;rw[if_pos o] at A;obtain⟨k1,k2,k3,k4⟩:=Ma4 (n:=n) a j;refine Ln2 (k:=300171) (r:=6000000) A (w.ext (z.trans R)) k4 k1 p2 k2.sz p3.sz (by omega) (by omega) (by omega) (by omega) λ r cD ae S=>S.Mf4 λ cE cF cG cH cI cJ cK S _ _=>⟨by simp only[List.length_cons,List.length_nil];omega,by unfold I64;omega,⟨j+1,by push_cast;rfl,by omega,N.trans (P.trans (Q.trans (z.trans (R.trans ae)))),?_,λ _=>ad⟩,?_⟩
 ·rw[Lz3]
  refine(O.mono λ _ _ h=>h.ext (P.trans (Q.trans (z.trans (R.trans ae))))).append ⟨?_,trivial⟩;unfold Lz9;rw[Jy8 c];exact S
 ·show f.length-Int.toNat ((j:Int)+1)<f.length-Int.toNat (j:Int)
  omega
theorem Lo1 {n:Int}(c:Ll5 214 W l b n)(d:RPs W s f)(hm:Lm1 W sm ms)(e:f.length<=4)(hF:Mc6 f)(g: ∀x∈ms,MOK 4 x)(j:Ln7 b)(m: ∀(s1:Sl) (W':PW),Ext W W'->(Lm1 W' s1 (if Lm3 b n f ms then Lw9 b n f ms f.length else[]))->K (.tuple ⟨[Sl.v s1,.bool (decide (Lm3 b n f ms))]⟩) W'):
  Aa1 Tryz.prog W0 M 15 [.agg ⟨l⟩,s.v,sm.v] W K:=
 Mi4 (λ _ a=>Ly9 (c.ext a) (d.ext a) (hm.ext a) e hF g j) fun | _,W',a,⟨s1,rfl,h⟩=>m s1 W' a h
end Go.Proofs.YtkgeopnakkcdoaaGreat
namespace Go.Proofs.YtkgeopnakkcdoaaGreat
open Go Go.SX
variable {M:Nat->Prop}{W0:PW}{k:Nat}{l2:List Value}{x y:Iv}
theorem Kc2 {l1:List Value}(h1:Ah6 214 W0 l1 x)(a:Ah6 214 W0 l2 y)(c:IvS k x)(d:IvS k y)(hk:k<=500000000):
  Aa0 Tryz.prog 63 [.agg ⟨l1⟩,.agg ⟨l2⟩] W0 M λ v W'=>v = .bool (decide (Ft1 x y))/\True:=by
 obtain⟨s0,b0,t0,s1,b1,t1,rfl,h1,j⟩:=h1;obtain⟨s2,b2,t2,s3,n,t3,rfl,a,m⟩:=a;apply Ka3;refine Ar1 a h1 d.1 c.1 hk hk λ o g _=>⟨_,rfl,λ h=>Ar1 (j.ext g) (m.ext g) c.2 d.2 hk hk λ p q _=>⟨_,rfl,λ r t=>⟨?_,trivial⟩⟩,λ h u w=>⟨?_,trivial⟩⟩
 ·have h:=Dn3.1 h
  congr 1;rw[decide_eq_decide,Dn3];exact⟨λ e=>⟨h,e⟩,λ e=>e.2⟩
 ·rw[decide_eq_false λ e=>h (Dn3.2 e.1)]
theorem Ka6 {W:PW}{K:Value->PW->Prop}{l1:List Value}(h1:Ah6 214 W l1 x)(c:Ah6 214 W l2 y)(d:IvS k x)(e:IvS k y)(hk:k<=500000000)(g: ∀(W':PW),Ext W W'->(True)->K (.bool (decide (Ft1 x y))) W'):
  Aa1 Tryz.prog W0 M 63 [.agg ⟨l1⟩,.agg ⟨l2⟩] W K:=
 Mi4 (λ _ a=>Kc2 (h1.ext a) (c.ext a) d e hk) fun | _,W',a,⟨rfl,h⟩=>g W' a h
end Go.Proofs.YtkgeopnakkcdoaaGreat
namespace Go.Proofs.YtkgeopnakkcdoaaGreat
open Go Go.SX
variable {K:Value->PW->Prop}{M:Nat->Prop}{W W0:PW}{b:Nat->Iv}{f:List (List Tm)}{i:Nat}{l:List Value}{ms:List Mdl}{s sm:Sl}
def inI (b:Nat->Iv) (n:Int) (f:List (List Tm)) (ms:List Mdl) (i:Nat):Prop:=(Lz9 b n f ms i).1=(Lv9 ms i).1/\Ft1 (Lz9 b n f ms i).2 (Lv9 ms i).2
instance (b:Nat->Iv) (n:Int) (f:List (List Tm)) (ms:List Mdl) (i:Nat):Decidable (inI b n f ms i):=by unfold inI;infer_instance
def Lr6 (b:Nat->Iv) (n:Int) (f:List (List Tm)) (ms:List Mdl):Prop:=Lm3 b n f ms/\∀i,i<f.length->inI b n f ms i
instance (b:Nat->Iv) (n:Int) (f:List (List Tm)) (ms:List Mdl):Decidable (Lr6 b n f ms):=by unfold Lr6;infer_instance
def Lp8 (b:Nat->Iv) (n:Int) (f:List (List Tm)) (ms:List Mdl):List Mdl:=if Lm3 b n f ms then Lw9 b n f ms f.length else[]
theorem Mb1 {n:Int}(h:i<(Lp8 b n f ms).length):Lm3 b n f ms/\i<f.length/\(Lp8 b n f ms)[i]=Lz9 b n f ms i:=by
 by_cases ok:Lm3 b n f ms
 ·have e:Lp8 b n f ms=Lw9 b n f ms f.length:=if_pos ok
  have hi:i<f.length:=by rw[e,Ln8] at h;exact h
  refine⟨ok,hi,?_⟩;have a:(Lp8 b n f ms)[i]?=some (Lz9 b n f ms i):=by
   rw[e];unfold Lw9;rw[List.getElem?_map,List.getElem?_range hi];rfl
  rw[List.getElem?_eq_getElem h] at a;exact Option.some.inj a
 ·have e:Lp8 b n f ms = []:=if_neg ok
  rw[e] at h;exact absurd h (Nat.not_lt_zero _)
def hoI (W0:PW) (b:Nat->Iv) (n:Int) (f:List (List Tm)) (ms:List Mdl) (L:List PL) (W:PW):Prop:=match L with
 | [.val (.int .i64 i)]=>∃j:Nat,i=(j:Int)/\j<=(Lp8 b n f ms).length/\Ext W0 W/\∀y,y<j->inI b n f ms y
 | _=>False
theorem Mg9 {n:Int}(hF:Mc6 f)(c: ∀x∈ms,MOK 4 x)(d:Ln7 b)(ok:Lm3 b n f ms)(hi:i<f.length):(∀t∈(Lz9 b n f ms i).1,Sz 13000000 t.2)/\IvS 13000000 (Lz9 b n f ms i).2/\(Lz9 b n f ms i).1.length<=3889/\(∀t∈(Lv9 ms i).1,Sz 13000000 t.2)/\IvS 13000000 (Lv9 ms i).2:=by
 obtain⟨h1,e,g⟩:=Mh3 hF c d ok.2.2.1 hi;have hO:=Lw2 c i;exact⟨λ t a=>(h1 t a).mono (by omega),e,g,λ t a=>(hO.b.bd.sz t a).mono (by omega),(hO.b.rest.mono (show 7<=13000000 by omega)).sz⟩
theorem Lz0 {n:Int}(p:Lm6 214 W0 l b n)(N:Ps W0 s f)(hm:Lm9 W0 sm ms)(O:f.length<=4)(hF:Mc6 f)(q: ∀x∈ms,MOK 4 x)(r:Ln7 b):
  Aa0 Tryz.prog 19 [.agg ⟨l⟩,s.v,sm.v] W0 M λ v W'=>v = .bool (decide (Lr6 b n f ms))/\True:=by
 obtain⟨a0,c0,a1,a2,c1,a3,a4,c2,a5,a6,c3,a7,a8,c4,a9,am,c5,an,rfl⟩:=Ls3 p;apply Lt2;have nm:=hm.n;refine Ln5 p N hm O hF q r λ s3 t P a=>⟨s3,_,rfl,?_⟩;have a:Lm9 t s3 (Lp8 b n f ms):=a;have n3:=a.n;refine⟨hoI t b n f ms,Kq0 (Lp8 b n f ms).length,⟨0,rfl,Nat.zero_le _,Ext.refl _,λ y u=>absurd u (Nat.not_lt_zero _)⟩,?_⟩;rintro i7 W8 ⟨j,rfl,hj,g,w⟩;refine⟨λ au=>?_,λ av aw _=>⟨?_,trivial⟩⟩
 rotate_left
 ·congr 1
  rw[decide_eq_decide];refine⟨λ ok=>⟨ok,λ i hi=>w i ?_⟩,λ h=>h.1⟩;have:(Lp8 b n f ms).length=f.length:=by
   show(if Lm3 b n f ms then Lw9 b n f ms f.length else[]).length=f.length;rw[if_pos ok,Ln8]
  omega
 have z:j<(Lp8 b n f ms).length:=by omega
 obtain⟨ok,A,Q⟩:=Mb1 z;have c:j<ms.length:=by have:=ok.2.1;omega
 obtain⟨q1,R,q3,S,T⟩:=Mg9 hF q r ok A;have a:=a.ext g;have hm:=hm.ext (P.trans g);obtain⟨y,⟨U,_,rfl,g4,V,X,Y,Z,aa,ab,rfl,g5,g6⟩,el⟩:=a.at z;obtain⟨y',⟨ac,_,rfl,B,C,D,E,F,G,I,rfl,d,e⟩,m⟩:=hm.at c;rw[Q] at g4 g5 g6;rw[<-Ls0 c] at B d e;have J:=hm.inB (i:=(j:Int)) (by omega) (by omega);refine⟨a.inB (by omega) (by omega),U,V,X,Y,Z,aa,ab,el 0 rfl,J,ac,m 0 rfl,?_⟩;have no:¬inI b n f ms j->Value.bool false = .bool (decide (Lr6 b n f ms))/\True:=λ ad=>⟨by rw[decide_eq_false λ h=>ad (h.2 j A)],trivial⟩;refine Lw0 g4 B q1 S (by omega) (by omega) λ az o _=>⟨_,rfl,λ b1 aA _=>no λ h=>by simp[h.1] at b1,λ b1=>?_⟩;have ae:=hm.ext o;obtain⟨aB,⟨aC,_,rfl,aD,C,D,E,F,G,I,rfl,d,e⟩,m⟩:=ae.at c;rw[<-Ls0 c] at d e;refine⟨J,C,D,E,F,G,I,m 1 rfl,?_⟩;refine Fx1 ((SpV.mk g5 g6).ext o) (SpV.mk d e) R T (by omega) λ aE af _=>⟨_,rfl,λ b2 aF _=>no λ h=>by simp[h.2] at b2,λ b2=>⟨by unfold I64;omega,⟨j+1,by push_cast;rfl,by omega,g.trans (o.trans af),λ y u=>?_⟩,?_⟩⟩
 ·by_cases e1:y=j
  ·rw[e1]
   exact⟨by simpa using b1,by simpa using b2⟩
  ·exact w y (by omega)
 ·show(Lp8 b n f ms).length-Int.toNat ((j:Int)+1)<(Lp8 b n f ms).length-Int.toNat (j:Int)
  omega
theorem Ls8 {n:Int}(c:Lm6 214 W l b n)(d:Ps W s f)(hm:Lm9 W sm ms)(e:f.length<=4)(hF:Mc6 f)(g: ∀x∈ms,MOK 4 x)(j:Ln7 b)(m: ∀(W':PW),Ext W W'->(True)->K (.bool (decide (Lr6 b n f ms))) W'):
  Aa1 Tryz.prog W0 M 19 [.agg ⟨l⟩,s.v,sm.v] W K:=
 Mi4 (λ _ a=>Lz0 (c.ext a) (d.ext a) (hm.ext a) e hF g j) fun | _,W',a,⟨rfl,h⟩=>m W' a h
def Mh9 (W0:PW) (b:Nat->Iv) (n:Int) (f:List (List Tm)) (ms:List Mdl) (L:List PL) (W:PW):Prop:=match L with
 | [.val (.bool c),.val (.int .i64 i)]=>∃j:Nat,i=(j:Int)/\j<=(Lp8 b n f ms).length/\Ext W0 W/\c=decide (Lm3 b n f ms/\∀y,y<j->inI b n f ms y)
 | _=>False
theorem Ma5 {n:Int}(z:Ll5 214 W0 l b n)(N:RPs W0 s f)(hm:Lm1 W0 sm ms)(O:f.length<=4)(hF:Mc6 f)(A: ∀x∈ms,MOK 4 x)(B:Ln7 b):
  Aa0 Tryz.prog 20 [.agg ⟨l⟩,s.v,sm.v] W0 M λ v W'=>v = .bool (decide (Lr6 b n f ms))/\True:=by
 obtain⟨c0,a0,a1,c1,a2,a3,c2,a4,a5,c3,a6,a7,c4,a8,a9,c5,ay,az,rfl⟩:=Lq0 z;apply Lt9;have nm:=hm.n;refine Lo1 z N hm O hF A B λ s3 C P a=>⟨s3,_,rfl,?_⟩;have a:Lm1 C s3 (Lp8 b n f ms):=a;have n3:=a.n;refine⟨Mh9 C b n f ms,Mg8 (Lp8 b n f ms).length,⟨0,rfl,Nat.zero_le _,Ext.refl _,?_⟩,?_⟩
 ·rw[decide_eq_decide]
  exact⟨λ ok=>⟨ok,λ y d=>absurd d (Nat.not_lt_zero _)⟩,λ h=>h.1⟩
 rintro b7 i8 W9 ⟨j,rfl,hj,g,p⟩;refine⟨λ aF=>⟨λ D=>?_,λ q aG _=>⟨?_,trivial⟩⟩,λ aH aI _=>⟨?_,trivial⟩⟩
 rotate_left
 ·rw[p] at q⊢
  have Q:=of_decide_eq_false q;rw[q,decide_eq_false];intro h;refine Q ⟨h.1,λ y d=>h.2 y ?_⟩;have:(Lp8 b n f ms).length=f.length:=by
   show(if Lm3 b n f ms then Lw9 b n f ms f.length else[]).length=f.length;rw[if_pos h.1,Ln8]
  omega
 ·congr 1
  rw[p,decide_eq_decide];refine⟨λ h=>⟨h.1,λ i hi=>h.2 i ?_⟩,λ h=>⟨h.1,λ y d=>h.2 y ?_⟩⟩
  all_goals
   have:(Lp8 b n f ms).length=f.length:=by
    show(if Lm3 b n f ms then Lw9 b n f ms f.length else[]).length=f.length;rw[if_pos h.1,Ln8]
   omega
 rw[p] at D;obtain⟨_,R⟩:=of_decide_eq_true D;have r:j<(Lp8 b n f ms).length:=by omega
 obtain⟨ok,S,E⟩:=Mb1 r;have m:j<ms.length:=by have:=ok.2.1;omega
 obtain⟨q1,T,q3,U,V⟩:=Mg9 hF A B ok S;have a:=a.ext g;have hm:=hm.ext (P.trans g);have F:(Lp8 b n f ms).length-Int.toNat ((j:Int)+1)<(Lp8 b n f ms).length-Int.toNat (j:Int):=by omega
 have G:=hm.inB (i:=(j:Int)) (by omega) (by omega);have I:=a.inB (i:=(j:Int)) (by omega) (by omega);obtain⟨y,⟨X,_,rfl,g4,b0,s0,t0,b1,s1,t1,rfl,g5,g6⟩,el⟩:=a.at r;obtain⟨Y,⟨Z,_,rfl,J,d0,u0,v0,d1,u1,v1,rfl,t,u⟩,w⟩:=hm.at m;rw[E] at g4;rw[<-Ls0 m] at J;refine⟨I,X,el 0 rfl,G,Z,w 0 rfl,?_⟩;have upd: ∀{c:Bool},(c=true↔inI b n f ms j)->c=decide (Lm3 b n f ms/\∀y,y<j+1->inI b n f ms y):=fun {c} hc=>by
  rw[Bool.eq_iff_iff,hc,decide_eq_true_iff];refine⟨λ h=>⟨ok,λ y d=>?_⟩,λ h=>h.2 j (Nat.lt_succ_self _)⟩
  by_cases e1:y=j
  ·rw[e1];exact h
  ·exact R y (by omega)
 refine Lq9 g4 J q1 U (by omega) (by omega) λ aK o _=>⟨_,rfl,λ ac=>?_,λ ad=>⟨by unfold I64;omega,⟨j+1,by push_cast;rfl,by omega,g.trans o,upd ⟨λ e=>(by cases e),λ h=>absurd h.1 (of_decide_eq_false ad)⟩⟩,F⟩⟩;obtain⟨y,⟨_,_,rfl,_,ae,af,ag,ah,ai,aj,rfl,g5,g6⟩,el⟩:=(a.ext o).at r;obtain⟨Y,⟨_,_,rfl,_,ak,al,am,an,ao,ap,rfl,t,u⟩,w⟩:=(hm.ext o).at m;rw[E] at g5 g6;rw[<-Ls0 m] at t u;refine⟨I,ae,af,ag,ah,ai,aj,el 1 rfl,G,ak,al,am,an,ao,ap,w 1 rfl,?_⟩;refine Ka6 (Ah6.mk g5 g6) (Ah6.mk t u) T V (by omega) λ aL aq _=>⟨_,rfl,by unfold I64;omega,⟨j+1,by push_cast;rfl,by omega,g.trans (o.trans aq),upd ⟨λ e=>⟨of_decide_eq_true ac,of_decide_eq_true e⟩,λ h=>decide_eq_true h.2⟩⟩,F⟩
theorem Lv5 {n:Int}(c:Ll5 214 W l b n)(d:RPs W s f)(hm:Lm1 W sm ms)(e:f.length<=4)(hF:Mc6 f)(g: ∀x∈ms,MOK 4 x)(j:Ln7 b)(m: ∀(W':PW),Ext W W'->(True)->K (.bool (decide (Lr6 b n f ms))) W'):
  Aa1 Tryz.prog W0 M 20 [.agg ⟨l⟩,s.v,sm.v] W K:=
 Mi4 (λ _ a=>Ma5 (c.ext a) (d.ext a) (hm.ext a) e hF g j) fun | _,W',a,⟨rfl,h⟩=>m W' a h
end Go.Proofs.YtkgeopnakkcdoaaGreat
namespace Go.Proofs.YtkgeopnakkcdoaaGreat
open Go Go.SX
variable {M:Nat->Prop}{W0:PW}
theorem Kq5:Ag2 [((⟨0,0,0⟩:Mon),((1:Int):Rat))] = [(⟨0,0,0⟩,1)]:=by decide +kernel
theorem Kp1:Ke7 [[((⟨0,0,0⟩:Mon),(1:Rat))]] 1=some [[(⟨0,0,0⟩,1)]]:=by
 have h1:Jz7 [[((⟨0,0,0⟩:Mon),(1:Rat))]] 0 1=some [(⟨0,0,0⟩,1)]:=by decide +kernel
 have hF:Jz8 [[((⟨0,0,0⟩:Mon),(1:Rat))]]:=by decide +kernel
 have a:Jz6 [[((⟨0,0,0⟩:Mon),(1:Rat))]] 1:=⟨hF,by decide,λ i hi=>by
  have:i=0:=by simp at hi;exact hi
  subst this;show(Jz7 _ 0 1).isSome=true;rw[h1];rfl⟩
 rw[Jz3 a];show some [(Jz7 _ 0 1).getD []]=_;rw[h1];rfl
theorem Kr3:Bd 56029 [((⟨0,0,0⟩:Mon),(1:Rat))]:=(Cq4 (Sz.one (Nat.le_refl 1))).mono (by decide)
theorem Kf3:
  Aa0 Tryz.prog 7 [] W0 M λ v W'=>v = .bool true/\True:=by
 apply Kd6;refine Ay8 (z:=1) (by unfold I64;omega) λ s3 w A Z aa B=>⟨s3,w,A,rfl,?_⟩;refine Gf5 B (Sz.one (show 1<=1 by omega)) (by omega) λ d W7 ac g=>⟨d,rfl,λ C D E hO _=>?_⟩;rw[Kq5] at g;have F:Ps D C [[((⟨0,0,0⟩:Mon),(1:Rat))]]:=⟨_,⟨_,hO.row⟩,⟨d,rfl,g.ext E⟩,trivial⟩;refine Kb9 F (by simp) (λ q h=>by simp at h;subst h;exact⟨Kr3,by simp⟩) λ j G ad a=>⟨j,_,rfl,?_⟩;rw[Kp1] at a⊢;have a:Ps G j [[((⟨0,0,0⟩:Mon),(1:Rat))]]:=a;have I:=a.n;refine⟨λ _=>⟨λ _=>?_,λ e=>absurd (by rw[I];rfl) e⟩,λ e=>(by cases e)⟩;obtain⟨x,J,c⟩:=a.at (i:=0) (by simp);refine⟨a.inB (by omega) (by simp),x,J,?_⟩;refine Ak1 (z:=1) (by unfold I64;omega) λ N O P ae m Q=>⟨N,O,P,rfl,m,?_⟩;refine Kf1 Q (Sz.one (show 1<=1 by omega)) (by omega) λ R af n o=>⟨R,rfl,n,?_⟩;rw[Kq5] at o;refine Ki6 (c.ext (m.trans n)) o (k:=1) (λ t r=>by simp at r;subst r;exact Sz.one (Nat.le_refl 1)) (by omega) (by simp) λ ag ah _=>⟨true,rfl,λ _=>?_,λ e=>(by cases e)⟩;refine Cr4 λ u ai aj S=>⟨u,rfl,λ T U V X _=>?_⟩;have Y:Ps U T [Dc6 0]:=⟨_,⟨_,X.row⟩,⟨u,rfl,S.ext V⟩,trivial⟩;have hF:Jz8 [Dc6 0]:=by decide +kernel
 exact Jz5 Y (by simp) (λ p c=>by simp at c;subst c;exact Nat.le_trans (show(Dc6 0).length<=1 by unfold Dc6;split<;>simp) (by omega)) λ ak al _=>⟨_,rfl,λ am _=>⟨by rw[decide_eq_true hF],trivial⟩⟩
theorem Ka0 {W:PW}{K:Value->PW->Prop}(c: ∀(W':PW),Ext W W'->(True)->K (.bool true) W'):
  Aa1 Tryz.prog W0 M 7 [] W K:=
 Mi4 (λ _ a=>Kf3 ) fun | _,W',a,⟨rfl,h⟩=>c W' a h
def flI (W0:PW) (n:Nat) (L:List PL) (W:PW):Prop:=match L with
 | [.val (.int .i64 i)]=>∃j:Nat,i=(j:Int)/\j<=n/\Ext W0 W
 | _=>False
end Go.Proofs.YtkgeopnakkcdoaaGreat
namespace Go.Proofs.YtkgeopnakkcdoaaGreat
open Go Go.SX
variable {L:List (ByteArray×ByteArray)}{M:Nat->Prop}{W0:PW}{s:Sl}
def Gy6 (x:Iv):Prop:=IvS 4000 x/\x.1<=x.2
def r6I (W0:PW) (Lt:List (ByteArray×ByteArray)) (n:Nat) (L:List PL) (W:PW):Prop:=match L with
 | [.row a,.row l4,.val (.int .i64 i)]=>∃(j:Nat) (m:List Iv),i=(j:Int)/\j<=n/\j<=5/\Ext W0 W/\An5 (SpV 214 W) a m/\An5 (Ah6 214 W) l4 m/\m.length<=j/\(∀x∈m,Gy6 x)/\∀x∈m,∃t∈Lt,spP t.1 t.2=some x
 | _=>False
def cn3 (n:Nat) (L:List PL) (_:PW):Nat:=match L with
 | [_,_,.val (.int .i64 i)]=>n-i.toNat
 | _=>0
theorem Hm2 (h:Bs7 W0 s L)(hl:L.length<=1099511627776)(hz: ∀t∈L,t.1.size<=1099511627776/\t.2.size<=1099511627776):
  Aa0 Tryz.prog 10 [s.v] W0 M λ v W'=>∃(s1:Sl),∃(s2:Sl),∃(bs:List Iv),v = .tuple ⟨[Sl.v s1,Sl.v s2]⟩/\Bc3 214 W' s1 bs/\Fx4 214 W' s2 bs/\(bs.length<=5/\(∀x∈bs,Gy6 x)/\∀x∈bs,∃t∈L,spP t.1 t.2=some x):=by
 apply Hj7;obtain⟨ty,h⟩:=h;have hn:s.n=L.length:=by have:=h.1;rw[List.length_map] at this;exact this
 refine⟨r6I W0 L L.length,cn3 L.length,⟨0,[],rfl,Nat.zero_le _,Nat.zero_le _,Ext.refl _,trivial,trivial,Nat.zero_le _,λ x c=>(by cases c),λ x c=>(by cases c)⟩,?_⟩;rintro A l4 i5 B ⟨j,m,rfl,hj,ar,C,a3,a4,hm,r,u⟩;have n3:=a3.len;have n4:=a4.len;have fin: ∀{D E:TypeId} (d:Sl) (e:PW),Ext B e->SX.Own e D 6 d A->Fr W0 B d->∀(g:Sl) (o:PW),Ext e o->SX.Own o E 6 g l4->Fr W0 e g->∀(p:PW),Ext o p->∃(s1 s2:Sl) (bs:List Iv),Value.tuple ⟨[Sl.v d,Sl.v g]⟩ = .tuple ⟨[Sl.v s1,Sl.v s2]⟩/\Bc3 214 p s1 bs/\Fx4 214 p s2 bs/\bs.length<=5/\(∀x∈bs,Gy6 x)/\∀x∈bs,∃t∈L,spP t.1 t.2=some x:=
  fun {D E} d e F ac _ g o w ad _ p q=>⟨d,g,m,rfl,⟨A,⟨_,ac.row.ext (w.trans q)⟩,a3.mono λ _ _ h=>h.ext (F.trans (w.trans q))⟩,⟨l4,⟨_,ad.row.ext q⟩,a4.mono λ _ _ h=>h.ext (F.trans (w.trans q))⟩,by omega,r,u⟩
 refine⟨λ av=>⟨λ h5=>?_,λ _=>fin⟩,λ _=>fin⟩;have z:j<L.length:=by omega
 have G:=h.ext C;obtain⟨za,zb⟩:=hz _ (List.getElem_mem z);have I:L.length-Int.toNat ((j:Int)+1)<L.length-Int.toNat (j:Int):=by omega
 refine⟨G.inB (by omega) (by rw[List.length_map];omega),L[j].1,L[j].2,G.part (x:=prc L[j]) (by rw[Int.toNat_natCast,List.getElem?_map,List.getElem?_eq_getElem z];rfl) 0 rfl,?_⟩;refine Dd8 za zb λ l l' ok x ay n ⟨k1,k2,k3,k4⟩=>?_;have J:=C.trans n;obtain⟨N,O,P,Q,R,S,rfl,q1,q2⟩:=k1;obtain⟨T,U,V,X,Y,Z,rfl,r1,r2⟩:=k2;refine⟨N,O,P,Q,R,S,T,U,V,X,Y,Z,ok,rfl,λ am=>?_,λ aA=>⟨by unfold I64;omega,⟨j+1,m,by push_cast;rfl,by omega,by omega,J,a3.mono λ _ _ h=>h.ext n,a4.mono λ _ _ h=>h.ext n,by omega,r,u⟩,I⟩⟩;obtain⟨e1,e2,e3⟩:=k3 am;obtain⟨p1,p2,p3⟩:=Dp3 e1;have c:Gy6 x:=⟨⟨(Aw6 p1).1,(Aw6 p2).1⟩,p3⟩;refine(λ h=>⟨Fc8 h _,h⟩) ⟨by simp only[List.length_cons,List.length_nil];omega,by simp only[List.length_cons,List.length_nil];omega,by unfold I64;omega,⟨j+1,m ++ [x],by push_cast;rfl,by omega,by omega,J,(a3.mono λ _ _ h=>h.ext n).append ⟨⟨N,O,P,Q,R,S,rfl,q1,q2⟩,trivial⟩,(a4.mono λ _ _ h=>h.ext n).append ⟨⟨T,U,V,X,Y,Z,rfl,r1,r2⟩,trivial⟩,by simp only[List.length_append,List.length_cons,List.length_nil];omega,λ y a=>?_,λ y a=>?_⟩,I⟩
 ·rcases List.mem_append.1 a with a | a
  ·exact r y a
  ·rw[List.mem_singleton.1 a];exact c
 ·rcases List.mem_append.1 a with a | a
  ·exact u y a
  ·rw[List.mem_singleton.1 a];exact⟨_,List.getElem_mem z,e1⟩
theorem Hi0 {W:PW}{K:Value->PW->Prop}(h:Bs7 W s L)(c:L.length<=1099511627776)(d: ∀t∈L,t.1.size<=1099511627776/\t.2.size<=1099511627776)(e: ∀(s1:Sl) (s2:Sl) (bs:List Iv) (W':PW),Ext W W'->(Bc3 214 W' s1 bs/\Fx4 214 W' s2 bs/\(bs.length<=5/\(∀x∈bs,Gy6 x)/\∀x∈bs,∃t∈L,spP t.1 t.2=some x))->K (.tuple ⟨[Sl.v s1,Sl.v s2]⟩) W'):
  Aa1 Tryz.prog W0 M 10 [s.v] W K:=
 Mi4 (λ _ a=>Hm2 (h.ext a) c d) fun | _,W',a,⟨s1,s2,bs,rfl,h⟩=>e s1 s2 bs W' a h
end Go.Proofs.YtkgeopnakkcdoaaGreat
namespace Go.Proofs.YtkgeopnakkcdoaaGreat
open Go Go.SX
variable {M:Nat->Prop}{W0:PW}{bs:List Iv}{k:Nat}{s1 s2:Sl}
theorem Kn2 (h1:Bc3 214 W0 s1 bs)(c:Fx4 214 W0 s2 bs)(g: ∀x∈bs,IvS k x)(hk:k<=100000000)(G:bs.length<=1048576):
  Aa0 Tryz.prog 21 [s1.v,s2.v] W0 M λ v W'=>v = .bool true/\True:=by
 apply Kj8;have h:=h1.n;have m:=c.n;refine⟨λ e=>absurd (by rw[h,m]) e,λ _=>?_⟩;refine⟨flI W0 bs.length,Kq0 bs.length,⟨0,rfl,Nat.zero_le _,Ext.refl _⟩,?_⟩;rintro i4 I ⟨j,rfl,J,a⟩;refine⟨λ N=>?_,λ O P _=>⟨rfl,trivial⟩⟩;have d:j<bs.length:=by omega
 obtain⟨y,⟨n,o,p,q,r,t,rfl,v1,v2⟩,u⟩:=(h1.ext a).at d;obtain⟨Q,⟨w,z,A,B,C,D,rfl,v3,v4⟩,E⟩:=(c.ext a).at d;refine⟨(h1.ext a).inB (by omega) (by omega),n,o,p,q,r,t,u 0 rfl,(c.ext a).inB (by omega) (by omega),w,z,A,B,C,D,E 0 rfl,?_⟩;refine Bt3 (SpV.mk v1 v2) (Ah6.mk v3 v4) (g _ (List.getElem_mem d)) hk λ R F _=>⟨true,rfl,λ e=>(by cases e),λ _=>⟨by unfold I64;omega,⟨j+1,by push_cast;rfl,by omega,a.trans F⟩,?_⟩⟩;show bs.length-Int.toNat ((j:Int)+1)<bs.length-Int.toNat (j:Int);omega
theorem Ki7 {W:PW}{K:Value->PW->Prop}(h1:Bc3 214 W s1 bs)(c:Fx4 214 W s2 bs)(d: ∀x∈bs,IvS k x)(hk:k<=100000000)(e:bs.length<=1048576)(g: ∀(W':PW),Ext W W'->(True)->K (.bool true) W'):
  Aa1 Tryz.prog W0 M 21 [s1.v,s2.v] W K:=
 Mi4 (λ _ a=>Kn2 (h1.ext a) (c.ext a) d hk e) fun | _,W',a,⟨rfl,h⟩=>g W' a h
theorem Kp9 {a:ByteArray}{q:Rat}(h:Gp3 a=some q)(c:a.size<=12):Sz 4 q:=by
 unfold Gp3 at h;split at h
 ·exact Ct3 h (by omega)
 ·cases h
end Go.Proofs.YtkgeopnakkcdoaaGreat
namespace Go.Proofs.YtkgeopnakkcdoaaGreat
open Go Go.SX
variable {L Lt:List (ByteArray×ByteArray)}{M:Nat->Prop}{W W0:PW}{s:Sl}
theorem Bs7.ext {W':PW}(h:Bs7 W s L)(a:Ext W W'):Bs7 W' s L:=let⟨ty,h⟩:=h;⟨ty,h.ext a⟩
theorem Bs7.n (h:Bs7 W s L):s.n=L.length:=let⟨ty,h⟩:=h;by have:=h.1;rwa [List.length_map] at this
theorem Bs7.inB {i:Int}(h:Bs7 W s L)(a:0<=i)(h1:i<(L.length:Int)):SX.inB s i:=let⟨ty,h⟩:=h;Row.inB h a (by rw[List.length_map];exact h1)
theorem Bs7.part {m:List Value}(h:Bs7 W s L){i:Nat}(hi:i<L.length)(off:Nat)(hm:((prc L[i]).drop off).take m.length=m):Aa7 W s 2 i off m:=let⟨ty,h⟩:=h;Row.part h (x:=prc L[i]) (by rw[List.getElem?_map,List.getElem?_eq_getElem hi];rfl) off hm
theorem Ga5 {n:Int}(h:Bs7 W0 s Lt)(u:Lt.length<=1099511627776):
  Aa0 Tryz.prog 8 [s.v,.int .i64 n] W0 M λ v W'=>∃(b:Bool),v = .bool b/\(b=true->∀t∈Lt,t.1.size<=30/\t.2.size<=30):=by
 apply Fy6;have w:=h.n;have bad: ∀W':PW,∃b:Bool,(Value.bool false) = .bool b/\(b=true->∀t∈Lt,t.1.size<=30/\t.2.size<=30):=λ W'=>⟨false,rfl,λ e=>by cases e⟩;refine⟨λ _ p _=>bad p,λ _=>⟨λ L W=>match L with | [.val (.int .i64 z)]=>∃j:Nat,z=(j:Int)/\j<=Lt.length/\Ext W0 W/\∀t∈Lt.take j,t.1.size<=30/\t.2.size<=30 | _=>False,(λ L _=>match L with | [.val (.int .i64 z)]=>Lt.length-z.toNat | _=>0),⟨0,rfl,Nat.zero_le _,Ext.refl _,λ t a=>by simp at a⟩,?_⟩⟩;rintro i4 A ⟨j,rfl,B,g,m⟩;have c:=h.ext g;refine⟨λ C=>?_,λ D E _=>⟨true,rfl,λ _=>?_⟩⟩
 ·have d:j<Lt.length:=by omega
  have o:=c.inB (i:=(j:Int)) (by omega) (by omega);refine⟨o,Lt[j].1,c.part d 0 rfl,λ _ q _=>bad q,λ h1=>⟨o,Lt[j].2,c.part d 1 rfl,λ _ r _=>bad r,λ F=>⟨by unfold I64;omega,⟨j+1,by push_cast;rfl,by omega,g,λ t a=>?_⟩,?_⟩⟩⟩
  ·rw[List.take_succ_eq_append_getElem d] at a
   rcases List.mem_append.1 a with a | a
   ·exact m t a
   ·rw[List.mem_singleton.1 a];omega
  ·show Lt.length-Int.toNat ((j:Int)+1)<Lt.length-Int.toNat (j:Int)
   omega
 ·have:j=Lt.length:=by omega
  subst this
  rwa [List.take_length] at m
theorem Fy8 {K:Value->PW->Prop}{n:Int}(h:Bs7 W s Lt)(c:Lt.length<=1099511627776)(d: ∀(b:Bool) (W':PW),Ext W W'->((b=true->∀t∈Lt,t.1.size<=30/\t.2.size<=30))->K (.bool b) W'):
  Aa1 Tryz.prog W0 M 8 [s.v,.int .i64 n] W K:=
 Mi4 (λ _ a=>Ga5 (h.ext a) c) fun | _,W',a,⟨b,rfl,h⟩=>d b W' a h
end Go.Proofs.YtkgeopnakkcdoaaGreat
