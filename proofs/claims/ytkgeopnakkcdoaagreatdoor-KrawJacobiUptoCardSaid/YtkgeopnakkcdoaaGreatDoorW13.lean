import Derived.Test.YtkgeopnakkcdoaaGreatDoorW11
import Derived.Test.YtkgeopnakkcdoaaGreatDoorW12
import Derived.Test.YtkgeopnakkcdoaaGreatDoorR10
import Derived.Test.YtkgeopnakkcdoaaGreatDoorW10
import Derived.Test.YtkgeopnakkcdoaaGreatDoorW9
import Derived.Test.YtkgeopnakkcdoaaGreatDoorLib4
import Derived.Test.YtkgeopnakkcdoaaGreatDoorLib2
import Derived.Test.YtkgeopnakkcdoaaGreatDoorW7
set_option linter.unusedVariables false
set_option linter.unusedSimpArgs false
set_option maxRecDepth 100000
namespace Go.Proofs.YtkgeopnakkcdoaaGreatDoor
open Go Go.SX
variable {M:Nat->Prop}{W W0:PW}{p:List Tm}
def bK:ByteArray:=⟨⟨[49,47,51]⟩⟩
theorem Mq9:Ab7 bK=some (1/3):=by decide +kernel
def cK:List Tm:=[(⟨0,0,0⟩,1/3)]
def aK:List Tm:=[(⟨0,0,0⟩,-1/3),(⟨1,0,0⟩,1)]
theorem Ms3:Ag2 [((⟨0,0,0⟩:Mon),(1/3:Rat))]=cK:=by decide +kernel
theorem Mt5:Ag2 (Dc6 0 ++ pmap cK (-1))=aK:=by decide +kernel
theorem kOK (p:List Tm)(h:An3 p [(0,1)]):Mn5 [p] 1 (λ _=>1) [(0,1)]:=⟨⟨λ q a=>by rw[List.mem_singleton.1 a];exact h,rfl,h.1⟩,⟨λ _ _=>rfl,by decide,by decide,by decide,by decide⟩,rfl,rfl⟩
theorem Ms8:Mn5 [aK] 1 (λ _=>1) [(0,1)]/\Mq8 [aK] Ms0 [(0,1)]:=⟨kOK _ (by decide +kernel),by decide +kernel⟩
theorem Ms1:¬Mq8 [cK] Ms0 [(0,1)]:=by decide +kernel
theorem Mn3:Sz 1 (1/3):=⟨Bc6 (by decide +kernel),Bc6 (by decide +kernel)⟩
theorem Mq3:Sz 1 (-1/3):=⟨Bc6 (by decide +kernel),Bc6 (by decide +kernel)⟩
theorem Ms4:Bd 7 cK:=(Cq4 Mn3).mono (by decide)
theorem Mt2:Bd 7 aK:=by
 refine(Bd.Co7 (k:=1) ?_).mono (by decide);intro t a;simp only[aK,List.mem_cons,List.not_mem_nil,or_false] at a;rcases a with rfl | rfl
 ·exact Mq3
 ·exact Fl0
theorem Mt1:POk cK:=λ t a=>by
 rw[List.mem_singleton.1 a];decide
theorem Mt4:POk aK:=λ t a=>by
 simp only[aK,List.mem_cons,List.not_mem_nil,or_false] at a;rcases a with rfl | rfl<;>decide
theorem Mq4 (a:Bd 7 p)(c:p.length<=30)(d:POk p):KrN 7 1 1 [p] 1 (λ _=>1) Ms0 [(0,1)] where
 p q e:=by rw[List.mem_singleton.1 e];exact⟨a,c,d⟩
 n:=by show 1<=1000;decide
 k1:=by decide
 s x f:=by rw[List.mem_singleton.1 f];exact⟨Sz.zero (Nat.le_refl 1),Fl0⟩
 m1:=by decide
 b:=by decide
 y i j _ _:=Mn7 i j
 l1:=by decide
 r1:=by decide
theorem Mr3 {s:Sl}{a:Sl}{t:TypeId}(hO:Go.SX.Own W t 1 s [[a.v]])(h:Ab0 257 169 W a p):Ps W s [p]:=⟨[[a.v]],⟨_,hO.row⟩,⟨a,rfl,h⟩,trivial⟩
theorem Mm6 (z:Ac6 W0):
  Aa0 Tryz.prog 12 [] W0 M λ v W'=>v = .bool true/\True:=by
 apply Mk7;intro s1 Z A B _;refine Cg0 (Lt:=pr9) (z.ext A) ⟨_,B.row⟩ (by decide) (by decide) λ C i6 bs W4 ab ⟨q1,D,_,E⟩=>⟨C,i6,rfl,?_⟩;have hi:=E Ev3;obtain⟨k1,F,G⟩:=D hi;have I:bs = [(0,1)]:=by
  refine Eu1 F rfl G λ i h1 h2=>?_;have:i=0:=by have:i<1:=h1;omega
  subst this;exact Fn4
 subst I;refine As8 (a:=bK) (by decide) λ j k l J K b=>⟨j,k,l,_,rfl,?_⟩;rw[Mq9] at b⊢;have b:Ab3 257 J j k l (1/3):=b;refine Cr4 (i:=0) λ L ad d N=>⟨L,rfl,?_⟩;refine Gf5 (b.ext d) Mn3 (by omega) λ O ae f m=>⟨O,rfl,?_⟩;rw[Ms3] at m;refine Db2 (N.ext f) m En2 Ms4 (by omega) (by decide) (by decide) λ P o q r=>⟨P,rfl,?_⟩;rw[Mt5] at r;refine⟨λ _=>⟨λ _=>Fc8 ?_ 1,λ e=>absurd rfl e⟩,λ e=>absurd hi e⟩;refine Mj8 (n:=1) (Nat.le_refl _:Gf6 o.w.heap.size o) (by decide) (by decide) λ Q af g R=>⟨Q,rfl,λ ag ah c S _=>?_⟩;have t:=q1.ext (K.trans (d.trans (f.trans (q.trans (g.trans c)))));refine Mj3 (Mr3 S (r.ext (g.trans c))) (R.mat.ext c) t (Mq4 Mt2 (by decide) Mt4) λ ai u _=>⟨_,rfl,λ _=>?_,λ e=>absurd Ms8 (of_decide_eq_false e)⟩;refine Gf5 (b.ext (d.trans (f.trans (q.trans (g.trans (c.trans u)))))) Mn3 (by omega) λ T w U x=>⟨T,rfl,Fc8 ?_ 1⟩;rw[Ms3] at x;refine Mj8 (n:=1) (Nat.le_refl _:Gf6 w.w.heap.size w) (by decide) (by decide) λ V aj y X=>⟨V,rfl,λ ak al h Y _=>?_⟩;refine Mj3 (Mr3 Y (x.ext (y.trans h))) (X.mat.ext h) (t.ext (u.trans (U.trans (y.trans h)))) (Mq4 Ms4 (by decide) Mt1) λ am an _=>⟨_,rfl,λ W _=>⟨?_,trivial⟩⟩;rw[decide_eq_false λ e=>Ms1 e.2];rfl
theorem Mj4 {K:Value->PW->Prop}(b:Ac6 W)(c: ∀(W':PW),Ext W W'->(True)->K (.bool true) W'):
  Aa1 Tryz.prog W0 M 12 [] W K:=
 Mi4 (λ _ a=>Mm6 (b.ext a)) fun | _,W',a,⟨rfl,h⟩=>c W' a h
end Go.Proofs.YtkgeopnakkcdoaaGreatDoor
namespace Go.Proofs.YtkgeopnakkcdoaaGreatDoor
open Go Go.SX
end Go.Proofs.YtkgeopnakkcdoaaGreatDoor
namespace Go.Proofs.YtkgeopnakkcdoaaGreatDoor
open Go Go.SX
end Go.Proofs.YtkgeopnakkcdoaaGreatDoor
namespace Go.Proofs.YtkgeopnakkcdoaaGreatDoor
open Go Go.SX
end Go.Proofs.YtkgeopnakkcdoaaGreatDoor
namespace Go.Proofs.YtkgeopnakkcdoaaGreatDoor
open Go Go.SX
def g0:ByteArray:=⟨⟨[48]⟩⟩
def g1:ByteArray:=⟨⟨[49]⟩⟩
end Go.Proofs.YtkgeopnakkcdoaaGreatDoor
namespace Go.Proofs.YtkgeopnakkcdoaaGreatDoor
open Go Go.SX
variable {s:Sl}
theorem Ms9 {W:PW}{f:List (List Tm)}(h:Ps W s f): ∀q∈f,POk q:=λ q a=>by
 obtain⟨i,hi,rfl⟩:=List.mem_iff_getElem.1 a;obtain⟨x,_,b⟩:=h.at hi;exact Ab0.pok b
def ztI (a:PW) (r:Nat) (c:Nat->Nat) (q:Nat->Nat->Rat) (L:List PL) (W:PW):Prop:=match L with
 | [.val (.bool b),.val (.int .i64 i)]=>∃k:Nat,i=(k:Int)/\k<=r/\Ext a W/\(b=true->∀i j,i<k->j<c i->q i j=0)
 | _=>False
theorem Mu4 {W0:PW}{M:Nat->Prop}{T:List (List (Mon×ByteArray))}(z:Ac6 W0)(h1:Jz1 W0 s T)(P: ∀l∈T,l.length<=1099511627776/\∀t∈l,t.2.size<=1099511627776):
  Aa0 Tryz.prog 4 [s.v] W0 M λ v W'=>v = .bool true/\True:=by
 apply Mu3;have Q: ∀{W:PW},Ext W0 W->Aa1 Tryz.prog W0 M 12 [] W λ v W'=>∃b:Bool,v = .bool b/\∀A:PW,Ext W' A->Value.bool b = .bool true/\True:=λ R=>Mj4 (z.ext R) λ W' am _=>⟨true,rfl,λ A _=>⟨rfl,trivial⟩⟩;refine Ke6 h1 P λ s3 s4 S W2 B g5=>⟨s3,s4,S,rfl,λ _=>Q B,λ U=>?_⟩;refine Mj4 (z.ext B) λ ao C _=>⟨true,rfl,λ e=>(by cases e),λ _=>?_⟩;obtain⟨f,D,h4,c,g⟩:=g5 (by simpa using U);have aq:f.length<=4:=by have:=An5.len D;omega
 have o: ∀q∈f,Bd 56029 q/\q.length<=14:=λ q m=>by
  obtain⟨l,h⟩:=D.mem m;exact⟨h.bd,h.len⟩
 have c:=c.ext C;have g:=g.ext C;have V:=Ms9 c;have n3:=c.n;have n4:=g.n;refine Mk9 (k:=56029) c (by omega) (λ q m=>⟨(o q m).1,by have:=(o q m).2;omega⟩) (by omega) λ E F X a=>⟨E,rfl,λ Y W _=>?_,λ Y=>?_⟩
 ·rw[if_neg (by omega)] at a
  have Z:=a.n;refine⟨?_,trivial⟩;rw[decide_eq_true];have:E.n=0:=Z;omega
 rw[if_pos (by omega)] at a;have nJ:=Mt3 a;refine⟨λ r W _=>absurd (by omega) r,λ _=>?_⟩;refine⟨λ L W=>match L with | [.val (.int .i64 i)]=>∃j:Nat,i=(j:Int)/\j<=f.length/\Ext F W | _=>False,Kq0 f.length,⟨0,rfl,Nat.zero_le _,Ext.refl _⟩,?_⟩;rintro i24 av ⟨j,rfl,hj,u⟩;refine⟨λ ax=>?_,λ ay W _=>⟨rfl,trivial⟩⟩;have d:j<f.length:=by omega
 obtain⟨aa,ab,ac⟩:=Ms2 (a.ext u) d;have n26:=ac.n;rw[Mm4] at n26;refine⟨Mr8 (a.ext u) (by omega) (by omega),aa,ab,λ r W _=>absurd (by omega) r,λ _=>?_⟩;refine⟨λ L W=>match L with | [.val (.int .i64 i)]=>∃k:Nat,i=(k:Int)/\k<=f.length/\Ext F W | _=>False,Kq0 f.length,⟨0,rfl,Nat.zero_le _,u⟩,?_⟩;rintro i30 az ⟨k,rfl,hk,n⟩;have w:=a.ext n;obtain⟨G,I,x⟩:=Ms2 w d;have n32:=x.n;rw[Mm4] at n32;refine⟨Mr8 w (by omega) (by omega),G,I,λ aA=>?_,λ aB=>⟨by unfold I64;omega,⟨j+1,by push_cast;rfl,by omega,n⟩,?_⟩⟩
 ·have ad:k<f.length:=by omega
  obtain⟨ae,af,J⟩:=x.at (i:=k) (by rw[Mm4];exact ad);rw[Mr5] at J;have K:=g.ext (X.trans n);obtain⟨ag,ah,ai⟩:=K.at d;obtain⟨N,hl⟩:=o _ (List.getElem_mem d);have aj:=V _ (List.getElem_mem d);have aD:=Hj1 f[j] (k:Int);refine⟨Mr8 w (by omega) (by omega),G,I,x.inB (by omega) (by rw[Mm4];omega),ae,af,K.inB (by omega) (by omega),ag,ah,?_⟩;refine Hj4 (i:=(k:Int)) ai N (by omega) (by omega) λ ak aE y al=>⟨ak,rfl,y,?_⟩;refine Ki6 (J.ext y) al (Hg1 N aj _).sz (by omega) (by omega) λ aF O _=>⟨true,rfl,O,λ e=>(by cases e),λ _=>⟨by unfold I64;omega,⟨k+1,by push_cast;rfl,by omega,n.trans (y.trans O)⟩,?_⟩⟩;show f.length-Int.toNat ((k:Int)+1)<f.length-Int.toNat (k:Int);omega
 ·show f.length-Int.toNat ((j:Int)+1)<f.length-Int.toNat (j:Int)
  omega
end Go.Proofs.YtkgeopnakkcdoaaGreatDoor
namespace Go.Proofs.YtkgeopnakkcdoaaGreatDoor
open Go Go.SX Go.ChangeShapes Go.WideShapes Go.ChangeAt Go.RowKit Go.Deep
variable {H:Type}{W:World}{fuel:Nat}
instance:Inhabited (Mon×ByteArray):=⟨(⟨0,0,0⟩,⟨#[]⟩)⟩
theorem Cd6:Tryz.prog.cellsOf 233=4:=by kernel_rfl
theorem Dv1:Tryz.prog.cellsOf 146=3:=by kernel_rfl
theorem Ew8:Tryz.prog.cellsOf 5=1:=by kernel_rfl
theorem Fg4 {n:Int}(h:(Lit.int .u8 n).wf=true):0<=n/\n<=255:=by
 simp[Lit.wf,IntKind.min,IntKind.max,IntKind.bits,IntKind.signed] at h;omega
theorem Er8 {cs:List Value}{enc:TypeId×Value->H}{x:DataW H×List MemPlace}(h:DataW.trod enc Tryz.prog W 0 (λ _=>true) true fuel 233 cs=some x):
  ∃t:Mon×ByteArray,AT cs t/\t.2.size<=Rows.uptoBulk x.1:=by
 obtain⟨xs,k,rfl,rfl,j,r,l⟩:=DataW.trod_struct Tryz.underlying233 h;rw[Cd6] at j;have g0:DataW.trod enc Tryz.prog W 0 (λ _=>true) true k 146 ((cs.drop 0).take (Tryz.prog.cellsOf 146))=xs[0]?:=l 0 _ rfl;have g1:DataW.trod enc Tryz.prog W 0 (λ _=>true) true k 9 ((cs.drop 3).take (Tryz.prog.cellsOf 9))=xs[1]?:=l 1 _ rfl;rw[Dv1] at g0;rw[Ct5] at g1
 match cs,j,xs,r with
 | [v0,v1,v2,v3],_,[u,v],_=>
  have g0:DataW.trod enc Tryz.prog W 0 (λ _=>true) true k 146 [v0,v1,v2]=some u:=g0;have g1:DataW.trod enc Tryz.prog W 0 (λ _=>true) true k 9 [v3]=some v:=g1;obtain⟨zs,m,rfl,rfl,_,w,i⟩:=DataW.trod_array Tryz.underlying146 g0;obtain⟨s,a,rfl,D⟩:=DataW.trod_string Tryz.underlying9 g1;have b:=i 0 (by omega);have c:=i 1 (by omega);have d:=i 2 (by omega);rw[Ew8] at b c d
  match zs,w with
  | [y,z,A],_=>
   have b:DataW.trod enc Tryz.prog W 0 (λ _=>true) true m 5 [v0]=some y:=b;have c:DataW.trod enc Tryz.prog W 0 (λ _=>true) true m 5 [v1]=some z:=c;have d:DataW.trod enc Tryz.prog W 0 (λ _=>true) true m 5 [v2]=some A:=d;obtain⟨n,f,_,B⟩:=DataW.trod_int Tryz.underlying5 b;obtain⟨o,h1,_,k1⟩:=DataW.trod_int Tryz.underlying5 c;obtain⟨q,g,_,C⟩:=DataW.trod_int Tryz.underlying5 d;have a: [v3] = [Value.string s]:=a;have f: [v0] = [Value.int .u8 n]:=f;have h1: [v1] = [Value.int .u8 o]:=h1;have g: [v2] = [Value.int .u8 q]:=g;simp only[List.cons.injEq,and_true] at a f h1 g;subst a f h1 g;refine⟨(⟨n,o,q⟩,s),⟨⟨Fg4 B,Fg4 k1,Fg4 C⟩,rfl⟩,?_⟩;have e:s.data.toList.length=s.size:=by rw[Array.length_toList];rfl
   simp only[List.map_cons,List.map_nil,Rows.uptoBulk,Rows.uptoBulkAll];omega
theorem Et3 {V:Nat->List Value}{y:Nat->Mon×ByteArray}{n:Nat}(h: ∀i,i<n->AT (V i) (y i)):An5 AT ((List.range n).map V) ((List.range n).map y):=by
 induction n with
 | zero=>trivial
 | succ n ih=>
  rw[List.range_succ,List.map_append,List.map_append];exact(ih λ i hi=>h i (by omega)).append ⟨h n (by omega),trivial⟩
theorem Dt5 {p:List MemPlace}{enc:TypeId×Value->H}{v:Value}{d:DataW H}(h:DataW.trod enc Tryz.prog W 0 (λ _=>true) true fuel 72 [v]=some (d,p)):
  ∃(s:Sl) (L:List (Mon×ByteArray)),v=s.v/\Af3 ⟨W,λ _=>False⟩ s L/\L.length<=Rows.uptoBulk d/\∀t∈L,t.2.size<=Rows.uptoBulk d:=by
 rcases open_slice Tryz.underlying72 h with⟨g,k⟩ | ⟨a,len,cap,m,n,D,J,g,_,y,hm,o,k,r⟩
 ·have b:v = .slice none 0 0:=by simpa using g
  subst b;exact⟨⟨none,0,0⟩,[],rfl,⟨[],⟨0,rfl,Nat.le_refl _,Nat.zero_le _,λ x h=>by simp at h,.inl rfl⟩,trivial⟩,Nat.zero_le _,λ l h=>by simp at h⟩
 ·have b:v = .slice (some a) len cap:=by simpa using g
  subst b;simp only[if_true] at o;subst o;simp only[Prod.mk.injEq] at k;obtain⟨rfl,_⟩:=k;rw[Cd6] at r;obtain⟨q,e⟩: ∃q:Nat->List Value×(Mon×ByteArray),∀i,i<m->W.cells? 0 (a.add (i*4)) 4=some (q i).1/\AT (q i).1 (q i).2/\(q i).2.2.size<=Rows.uptoBulk (D i):=choose_lt (α:=List Value×(Mon×ByteArray)) (p:=λ i q=>W.cells? 0 (a.add (i*4)) 4=some q.1/\AT q.1 q.2/\q.2.2.size<=Rows.uptoBulk (D i)) λ i hi=>by
   obtain⟨z,h1,w⟩:=r i hi;obtain⟨t,A,B⟩:=Er8 w;exact⟨(z,t),h1,A,B⟩
  have C:=Bz7 (W:=W) (a:=a) (n:=len) (c:=m) (sz:=4) (V:=λ i=>(q i).1) (λ j f i v b=>by
   obtain⟨_,hlen,E⟩:=World.cells?_some (e j (by omega)).1;have hi:i<4:=by have:=(List.getElem?_eq_some_iff.1 b).1;omega
   have:=E i hi;rw[add_add] at this;rw[this];exact b) (λ j f=>(World.cells?_some (e j (by omega)).1).2.1) (by omega) y hm (λ j f u hu=>by
   rw[(e j (by omega)).2.1.2] at hu;simp only[List.mem_cons,List.not_mem_nil,or_false] at hu;rcases hu with rfl | rfl | rfl | rfl<;>rfl)
  have F: ∀i,i<len->Rows.uptoBulk (D i)<=Rows.uptoBulkAll ((List.range len).map D):=λ i hi=>Eo6 (List.mem_map.2 ⟨i,List.mem_range.2 hi,rfl⟩);have hlen:=Dj1 ((List.range len).map D);simp only[List.length_map,List.length_range] at hlen;refine⟨⟨some a,len,m⟩,(List.range len).map λ i=>(q i).2,rfl,⟨_,C,Et3 λ i hi=>(e i (by omega)).2.1⟩,?_,λ t G=>?_⟩
  ·simp only[List.length_map,List.length_range,Rows.uptoBulk]
   omega
  ·obtain⟨j,f,rfl⟩:=List.mem_map.1 G
   have I:=List.mem_range.1 f;have h1:=F j I;have w:=(e j (by omega)).2.2;simp only[Rows.uptoBulk];omega
end Go.Proofs.YtkgeopnakkcdoaaGreatDoor
namespace Go.Proofs.YtkgeopnakkcdoaaGreatDoor
open Go Go.SX Go.ChangeShapes Go.WideShapes Go.ChangeAt Go.RowKit Go.Deep
instance:Inhabited (Sl×List (Mon×ByteArray)):=⟨(⟨none,0,0⟩,[])⟩
theorem Ki8:Tryz.prog.cellsOf 72=1:=by kernel_rfl
theorem Kk2 {H:Type}{W:World}{fuel:Nat}{p:List MemPlace}{enc:TypeId×Value->H}{v:Value}{d:DataW H}(h:DataW.trod enc Tryz.prog W 0 (λ _=>true) true fuel 22 [v]=some (d,p)):
  ∃(s:Sl) (T:List (List (Mon×ByteArray))),v=s.v/\Jz1 ⟨W,λ _=>False⟩ s T/\T.length<=Rows.uptoBulk d/\∀l∈T,l.length<=Rows.uptoBulk d/\∀t∈l,t.2.size<=Rows.uptoBulk d:=by
 rcases open_slice1 Tryz.underlying22 Ki8 h with⟨f,g⟩ | ⟨a,len,cap,m,n,V,D,F,f,_,k,hm,r,g,u⟩
 ·have o:v = .slice none 0 0:=by simpa using f
  subst o;exact⟨⟨none,0,0⟩,[],rfl,⟨[],⟨0,rfl,Nat.le_refl _,Nat.zero_le _,λ x h=>by simp at h,.inl rfl⟩,rfl,λ i h=>by simp at h⟩,Nat.zero_le _,λ l h=>by simp at h⟩
 ·have o:v = .slice (some a) len cap:=by simpa using f
  subst o;simp only[if_true] at r;subst r;simp only[Prod.mk.injEq] at g;obtain⟨rfl,_⟩:=g;obtain⟨y,c⟩:=choose_lt (α:=Sl×List (Mon×ByteArray)) (p:=λ i y=>V i=y.1.v/\Af3 ⟨W,λ _=>False⟩ y.1 y.2/\y.2.length<=Rows.uptoBulk (D i)/\∀t∈y.2,t.2.size<=Rows.uptoBulk (D i)) λ i hi=>by
   obtain⟨s,L,h1,w,q,z⟩:=Dt5 (u i hi).2;exact⟨(s,L),h1,w,q,z⟩
  have A:=Ig6 (V:=V) (λ j b=>(u j (by omega)).1) k hm (λ j b=>by rw[(c j (by omega)).1];rfl);have B: ∀i,i<len->Rows.uptoBulk (D i)<=Rows.uptoBulkAll ((List.range len).map D):=λ i hi=>Eo6 (List.mem_map.2 ⟨i,List.mem_range.2 hi,rfl⟩);have hlen:=Dj1 ((List.range len).map D);simp only[List.length_map,List.length_range] at hlen;refine⟨⟨some a,len,m⟩,(List.range len).map λ i=>(y i).2,rfl,⟨(List.range len).map λ i=>(y i).1,?_,by simp,λ i hi G=>?_⟩,?_,λ l k=>?_⟩
  ·have e:(((List.range len).map λ i=>(y i).1).map λ x=>[x.v])=(List.range len).map λ j=>[V j]:=by
    rw[List.map_map];apply List.map_congr_left;intro j b;have:=(c j (by have:=List.mem_range.1 b;omega)).1;simp[this]
   rw[e];exact A
  ·have I:i<len:=by simpa using hi
   simp only[List.getElem_map,List.getElem_range];exact(c i (by omega)).2.1
  ·simp only[List.length_map,List.length_range,Rows.uptoBulk]
   omega
  ·obtain⟨j,b,rfl⟩:=List.mem_map.1 k
   have C:=List.mem_range.1 b;have h1:=B j C;obtain⟨_,_,w,q⟩:=c j (by omega);simp only[Rows.uptoBulk];refine⟨by omega,λ t E=>?_⟩;have:=q t E;omega
end Go.Proofs.YtkgeopnakkcdoaaGreatDoor
