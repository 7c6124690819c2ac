import Derived.Test.YtkgeopnakkcdoaaGreatW7
import Derived.Test.YtkgeopnakkcdoaaGreatR6
import Derived.Test.YtkgeopnakkcdoaaGreatLib3
import Derived.Test.YtkgeopnakkcdoaaGreatLib4
import Derived.Test.YtkgeopnakkcdoaaGreatR7
set_option linter.unusedVariables false
set_option linter.unusedSimpArgs false
set_option maxRecDepth 100000
namespace Go.Proofs.YtkgeopnakkcdoaaGreat
open Go Go.SX
variable {K:Value->PW->Prop}{M:Nat->Prop}{W W0:PW}{a b:Mon}{b1 b2:Bool}{k:Nat}{p q:List Tm}{r:Rat}{s s1 s2 s3 s4 t:Sl}
theorem Md9 {q:Rat}(h1:Ab3 214 W0 s1 b1 s2 q)(c:Ab3 214 W0 s3 b2 s4 r)(d:Sz k q)(f:Sz k r)(hk:k<=34359738368):
  Aa0 Tryz.prog 114 [.agg ⟨[.int .u8 a.x,.int .u8 a.y,.int .u8 a.z,s1.v,.bool b1,s2.v]⟩,.agg ⟨[.int .u8 b.x,.int .u8 b.y,.int .u8 b.z,s3.v,.bool b2,s4.v]⟩] W0 M λ v W'=>v = .bool (decide (a=b/\q=r))/\True:=by
 apply Ls1;refine⟨λ he=>Aj2 h1 c d f hk hk λ j l _=>⟨_,rfl,λ n _=>⟨?_,trivial⟩⟩,λ g o _=>⟨?_,trivial⟩⟩
 ·have he:=Hi3.1 he
  congr 1;rw[decide_eq_decide,Be6];exact⟨λ h=>⟨he,h⟩,λ h=>h.2⟩
 ·rw[decide_eq_false λ h=>g (Hi3.2 h.1)]
theorem Ma6 {q:Rat}(h1:Ab3 214 W s1 b1 s2 q)(d:Ab3 214 W s3 b2 s4 r)(f:Sz k q)(g:Sz k r)(hk:k<=34359738368)(j: ∀(W':PW),Ext W W'->(True)->K (.bool (decide (a=b/\q=r))) W'):
  Aa1 Tryz.prog W0 M 114 [.agg ⟨[.int .u8 a.x,.int .u8 a.y,.int .u8 a.z,s1.v,.bool b1,s2.v]⟩,.agg ⟨[.int .u8 b.x,.int .u8 b.y,.int .u8 b.z,s3.v,.bool b2,s4.v]⟩] W K:=
 Mi4 (λ _ c=>Md9 (h1.ext c) (d.ext c) f g hk) fun | _,W',c,⟨rfl,h⟩=>j W' c h
theorem Mf2 (h1:Ab0 214 180 W0 s p)(h:Ab0 214 180 W0 t q)(u: ∀t∈p,Sz k t.2)(w: ∀t∈q,Sz k t.2)(hk:k<=34359738368)(H:p.length<=1099511627776):
  Aa0 Tryz.prog 113 [s.v,t.v,.func (.func 114) #[] #[]] W0 M λ v W'=>v = .bool (decide (p=q))/\True:=by
 apply Ll3;have I:=h1.n;have J:=h.n;refine⟨λ N O _=>⟨?_,trivial⟩,λ heq=>?_⟩
 ·rw[decide_eq_false]
  rintro rfl;omega
 have hlen:p.length=q.length:=by omega
 refine⟨λ L W=>match L with | [.val (.int .i64 i)]=>Ext W0 W/\∃j:Nat,i=(j:Int)/\j<=p.length/\p.take j=q.take j | _=>False,λ l _=>match l with | [.val (.int .i64 i)]=>p.length-i.toNat | _=>0,⟨Ext.refl _,0,rfl,by omega,rfl⟩,?_⟩;rintro i4 P ⟨c,j,rfl,Q,d⟩;refine⟨λ R=>?_,λ S T _=>⟨?_,trivial⟩⟩
 ·have f:j<p.length:=by omega
  have g:j<q.length:=by omega
  have n:=h1.ext c;have o:=h.ext c;obtain⟨U,z,b1,c1,A,_,_,B⟩:=n.at (List.getElem?_eq_getElem f);obtain⟨V,a2,b2,c2,C,_,_,D⟩:=o.at (List.getElem?_eq_getElem g);refine⟨n.inB (by omega) (by omega),_,_,_,z,b1,c1,A,o.inB (by omega) (by omega),_,_,_,a2,b2,c2,C,Ma6 B D (u _ (List.getElem_mem f)) (w _ (List.getElem_mem g)) hk λ X E _=>⟨_,rfl,λ F Y _=>⟨?_,trivial⟩,λ G=>⟨by unfold I64;omega,⟨c.trans E,j+1,by push_cast;rfl,by omega,?_⟩,?_⟩⟩⟩
  ·rw[decide_eq_false]
   rintro rfl;simp at F
  ·rw[Ce0 f,Ce0 g,d]
   have he:p[j].1=q[j].1/\p[j].2=q[j].2:=by simpa using G
   rw[show p[j]=q[j] from Prod.ext he.1 he.2]
  ·show p.length-Int.toNat ((j:Int)+1)<p.length-Int.toNat (j:Int)
   omega
 ·have:j=p.length:=by omega
  subst this;rw[List.take_length,hlen,List.take_length] at d;rw[decide_eq_true d]
theorem Mc8 (h1:Ab0 214 180 W s p)(d:Ab0 214 180 W t q)(f: ∀t∈p,Sz k t.2)(g: ∀t∈q,Sz k t.2)(hk:k<=34359738368)(j:p.length<=1099511627776)(l: ∀(W':PW),Ext W W'->(True)->K (.bool (decide (p=q))) W'):
  Aa1 Tryz.prog W0 M 113 [s.v,t.v,.func (.func 114) #[] #[]] W K:=
 Mi4 (λ _ c=>Mf2 (h1.ext c) (d.ext c) f g hk j) fun | _,W',c,⟨rfl,h⟩=>l W' c h
theorem Ma7 (h1:Ab0 214 180 W0 s p)(c:Ab0 214 180 W0 t q)(d: ∀t∈p,Sz k t.2)(f: ∀t∈q,Sz k t.2)(hk:k<=34359738368)(g:p.length<=1099511627776):
  Aa0 Tryz.prog 60 [.agg ⟨[s.v]⟩,.agg ⟨[t.v]⟩] W0 M λ v W'=>v = .bool (decide (p=q))/\True:=by
 apply Lv1;exact Mc8 h1 c d f hk g λ h _ _=>⟨_,rfl,λ j _=>⟨rfl,trivial⟩⟩
theorem Lw0 (h1:Ab0 214 180 W s p)(d:Ab0 214 180 W t q)(f: ∀t∈p,Sz k t.2)(g: ∀t∈q,Sz k t.2)(hk:k<=34359738368)(j:p.length<=1099511627776)(l: ∀(W':PW),Ext W W'->(True)->K (.bool (decide (p=q))) W'):
  Aa1 Tryz.prog W0 M 60 [.agg ⟨[s.v]⟩,.agg ⟨[t.v]⟩] W K:=
 Mi4 (λ _ c=>Ma7 (h1.ext c) (d.ext c) f g hk j) fun | _,W',c,⟨rfl,h⟩=>l W' c h
end Go.Proofs.YtkgeopnakkcdoaaGreat
namespace Go.Proofs.YtkgeopnakkcdoaaGreat
open Go Go.SX
variable {K:Value->PW->Prop}{M:Nat->Prop}{W W0:PW}{b:Bool}{i:Int}{k:Nat}{p q:List Tm}{s sp sq t:Sl}
theorem Jv6 (h1:Ag1 214 119 W0 sp p)(f:Ag1 214 119 W0 sq q)(g1:Av6 p)(b1:Bd k p)(b2:Bd k q)(hk:k<=40000000)(D:p.length<=536870912)(E:q.length<=536870912):
  Aa0 Tryz.prog 110 [sp.v,sq.v] W0 M λ v W'=>∃(s':Sl),v=Sl.v s'/\Ag1 214 119 W' s' (Ag2 (p ++ q)):=by
 apply Jv1;have F:=f.n
 refine⟨λ L W=>match L with
  | [.val (.slice A n c),.val (.int .i64 i)]=>∃j:Nat,i=(j:Int)/\j<=q.length/\Ext W0 W/\Ag1 214 119 W ⟨A,n,c⟩ (Ag2 (p ++ q.take j))
  | _=>False,cnL q.length,⟨0,rfl,by omega,Ext.refl _,by rw[List.take_zero,List.append_nil,Jw8 g1];exact h1⟩,?_⟩
 rintro s3 i4 l ⟨j,rfl,G,g,d⟩;have d:Ag1 214 119 l s3 (Ag2 (p ++ q.take j)):=d;refine⟨λ H=>?_,λ I J o=>⟨s3,rfl,?_⟩⟩
 ·have h:j<q.length:=by omega
  obtain⟨u,c1,s1,s2,w,_,_,z⟩:=(f.ext g).at (List.getElem?_eq_getElem h);have hlen:=El2 (p ++ q.take j);rw[List.length_append,List.length_take] at hlen;refine⟨(f.ext g).inB (by omega) (by omega),_,_,_,c1,s1,s2,w,Hd1 (m:=q[j].1) d z u ((b1.append (b2.take j)).norm.sz) ((b2.sz _ (List.getElem_mem h)).mono (by omega)) (by omega) (by omega) λ s' N B C=>⟨s',rfl,by unfold I64;omega,⟨j+1,by push_cast;rfl,by omega,g.trans B,?_⟩,?_⟩⟩
  ·rw[Ce0 h,<-List.append_assoc,Hn2]
   exact C
  ·show q.length-Int.toNat ((j:Int)+1)<q.length-Int.toNat (j:Int)
   omega
 ·have:j=q.length:=by omega
  subst this;rw[List.take_length] at d;exact d.ext o
theorem Jv3 (h1:Ag1 214 119 W sp p)(d:Ag1 214 119 W sq q)(g1:Av6 p)(b1:Bd k p)(b2:Bd k q)(hk:k<=40000000)(f:p.length<=536870912)(g:q.length<=536870912)(j: ∀(s':Sl) (W':PW),Ext W W'->(Ag1 214 119 W' s' (Ag2 (p ++ q)))->K (Sl.v s') W'):
  Aa1 Tryz.prog W0 M 110 [sp.v,sq.v] W K:=
 Mi4 (λ _ c=>Jv6 (h1.ext c) (d.ext c) g1 b1 b2 hk f g) fun | _,W',c,⟨s',rfl,h⟩=>j s' W' c h
theorem Km6:
  Aa0 Tryz.prog 54 [.int .i64 i] W0 M λ v W'=>∃(s':Sl),v=Sl.v s'/\Ag1 214 119 W' s' (Dc6 i):=by
 apply Kh5;refine⟨λ h C D=>⟨⟨none,0,0⟩,rfl,?_⟩,λ h=>⟨λ E F D=>⟨⟨none,0,0⟩,rfl,?_⟩,λ E=>⟨⟨by omega,by omega⟩,by omega,⟨⟨trivial,λ e=>?_⟩,λ e=>?_⟩,λ e=>?_⟩⟩⟩
 ·unfold Dc6;rw[if_neg (by omega)];exact Ag1.nil C
 ·unfold Dc6;rw[if_neg (by omega)];exact Ag1.nil F
 ·have j:Dc6 i = [(Da3 0,((1:Int):Rat))]:=by unfold Dc6;rw[if_pos (by omega),e];rfl
  rw[j];exact Ak1 (z:=1) (by unfold I64;omega) λ c d f u w l=>⟨c,d,f,rfl,λ n A o hO _ B g=>⟨n,rfl,_,(hO.ext g).row,⟨(by decide:(Da3 0).ok),c,d,f,rfl,l.ext (o.trans g)⟩,trivial⟩⟩
 ·have j:Dc6 i = [(Da3 1,((1:Int):Rat))]:=by unfold Dc6;rw[if_pos (by omega),e];rfl
  rw[j];exact Ak1 (z:=1) (by unfold I64;omega) λ c d f u w l=>⟨c,d,f,rfl,λ n A o hO _ B g=>⟨n,rfl,_,(hO.ext g).row,⟨(by decide:(Da3 1).ok),c,d,f,rfl,l.ext (o.trans g)⟩,trivial⟩⟩
 ·have j:Dc6 i = [(Da3 2,((1:Int):Rat))]:=by unfold Dc6;rw[if_pos (by omega),e];rfl
  rw[j];exact Ak1 (z:=1) (by unfold I64;omega) λ c d f u w l=>⟨c,d,f,rfl,λ n A o hO _ B g=>⟨n,rfl,_,(hO.ext g).row,⟨(by decide:(Da3 2).ok),c,d,f,rfl,l.ext (o.trans g)⟩,trivial⟩⟩
theorem Kj4 (d: ∀(s':Sl) (W':PW),Ext W W'->(Ag1 214 119 W' s' (Dc6 i))->K (Sl.v s') W'):
  Aa1 Tryz.prog W0 M 54 [.int .i64 i] W K:=
 Mi4 (λ _ c=>Km6 ) fun | _,W',c,⟨s',rfl,h⟩=>d s' W' c h
theorem Kj7 {q:Rat}(h:Ab6 214 W0 b s t q)(c:Sz k q)(hk:k<=100000000):
  Aa0 Tryz.prog 30 [.agg ⟨[.bool b,s.v,t.v]⟩] W0 M λ v W'=>∃(s':Sl),v=Sl.v s'/\Ag1 214 119 W' s' (Ag2 [(⟨0,0,0⟩,q)]):=by
 apply Ke4;exact Hd1 (sp:=⟨none,0,0⟩) (m:=⟨0,0,0⟩) (Ag1.nil W0) h (by decide) (λ t d=>by simp at d) c hk (by simp) λ s' j l f=>⟨s',rfl,λ n g=>⟨s',rfl,f.ext g⟩⟩
theorem Kf1 {q:Rat}(h:Ab6 214 W b s t q)(d:Sz k q)(hk:k<=100000000)(f: ∀(s':Sl) (W':PW),Ext W W'->(Ag1 214 119 W' s' (Ag2 [(⟨0,0,0⟩,q)]))->K (Sl.v s') W'):
  Aa1 Tryz.prog W0 M 30 [.agg ⟨[.bool b,s.v,t.v]⟩] W K:=
 Mi4 (λ _ c=>Kj7 (h.ext c) d hk) fun | _,W',c,⟨s',rfl,h⟩=>f s' W' c h
theorem Ls7 (h1:Ag1 214 119 W0 s p)(n:Ag1 214 119 W0 t q)(A: ∀t∈p,Sz k t.2)(B: ∀t∈q,Sz k t.2)(hk:k<=500000000)(N:p.length<=1099511627776):
  Aa0 Tryz.prog 62 [s.v,t.v] W0 M λ v W'=>v = .bool (decide (p=q))/\True:=by
 apply Lq2;have O:=h1.n;have P:=n.n;refine⟨λ o Q _=>⟨?_,trivial⟩,λ heq=>?_⟩
 ·rw[decide_eq_false]
  rintro rfl;omega
 have hlen:p.length=q.length:=by omega
 refine⟨λ L W=>match L with | [.val (.int .i64 i)]=>Ext W0 W/\∃j:Nat,i=(j:Int)/\j<=p.length/\p.take j=q.take j | _=>False,λ l _=>match l with | [.val (.int .i64 i)]=>p.length-i.toNat | _=>0,⟨Ext.refl _,0,rfl,by omega,rfl⟩,?_⟩;rintro i4 R ⟨c,j,rfl,S,d⟩;refine⟨λ T=>?_,λ U V _=>⟨?_,trivial⟩⟩
 ·have f:j<p.length:=by omega
  have g:j<q.length:=by omega
  have u:=h1.ext c;have w:=n.ext c;obtain⟨X,C,b1,c1,_,D,f1,E⟩:=u.at (List.getElem?_eq_getElem f);obtain⟨Y,a2,b2,c2,_,F,f2,G⟩:=w.at (List.getElem?_eq_getElem g);have i1:=u.inB (i:=(j:Int)) (by omega) (by omega);have i2:=w.inB (i:=(j:Int)) (by omega) (by omega);have no:p[j]≠q[j]->decide (p=q)=false:=λ h=>decide_eq_false λ e=>by subst e;exact h rfl
  refine⟨i1,_,_,_,D,i2,_,_,_,F,λ o=>⟨Ext.refl _,λ Z _=>⟨?_,trivial⟩⟩,λ he=>⟨i1,C,b1,c1,f1,i2,a2,b2,c2,f2,Ar1 E G (A _ (List.getElem_mem f)) (B _ (List.getElem_mem g)) (by omega) (by omega) λ aa z _=>⟨_,rfl,z,λ H ab _=>⟨?_,trivial⟩,λ I=>⟨by unfold I64;omega,⟨c.trans z,j+1,by push_cast;rfl,by omega,?_⟩,?_⟩⟩⟩⟩
  ·rw[no λ e=>o (by rw[e])]
  ·rw[no λ e=>H (by rw[e];exact(Be6 _ _).2 rfl)]
  ·have he:=Hi3.1 (Classical.not_not.1 he)
   have J:=(Be6 _ _).1 (Classical.not_not.1 I);rw[Ce0 f,Ce0 g,d,show p[j]=q[j] from Prod.ext he J]
  ·show p.length-Int.toNat ((j:Int)+1)<p.length-Int.toNat (j:Int)
   omega
 ·have:j=p.length:=by omega
  subst this;rw[List.take_length,hlen,List.take_length] at d;rw[decide_eq_true d]
theorem Lq9 (h1:Ag1 214 119 W s p)(d:Ag1 214 119 W t q)(f: ∀t∈p,Sz k t.2)(g: ∀t∈q,Sz k t.2)(hk:k<=500000000)(j:p.length<=1099511627776)(l: ∀(W':PW),Ext W W'->(True)->K (.bool (decide (p=q))) W'):
  Aa1 Tryz.prog W0 M 62 [s.v,t.v] W K:=
 Mi4 (λ _ c=>Ls7 (h1.ext c) (d.ext c) f g hk j) fun | _,W',c,⟨rfl,h⟩=>l W' c h
end Go.Proofs.YtkgeopnakkcdoaaGreat
namespace Go.Proofs.YtkgeopnakkcdoaaGreat
open Go Go.SX
variable {M:Nat->Prop}{W0:PW}{k:Nat}{p q:List Tm}{sp sq:Sl}
theorem Kb8 {j:Nat}(c:j<p.length):An8 p q=An8 (p.take j) q ++ (Ev4 p[j] q ++ An8 (p.drop (j+1)) q):=by
 have e:p=p.take j ++ p[j]::p.drop (j+1):=by rw[<-List.drop_eq_getElem_cons c,List.take_append_drop]
 have d: ∀a b:List Tm,An8 (a ++ b) q=An8 a q ++ An8 b q:=λ a b=>by simp[An8]
 conv=>lhs;rw[e]
 rw[d];rfl
theorem Kl5 (a:Tm)(q:List Tm)(k:Nat):Ev4 a q=Ev4 a (q.take k) ++ Ev4 a (q.drop k):=by
 rw[Ev4,Ev4,Ev4,<-List.map_append,List.take_append_drop]
theorem Kh2 {a:Tm}(hk:k<q.length):Ev4 a (q.take (k+1))=Ev4 a (q.take k) ++ [(a.1.add q[k].1,a.2*q[k].2)]:=by
 rw[Ce0 hk];exact List.map_append
def rmO (W0:PW) (p q:List Tm) (l:List PL) (W:PW):Prop:=match l with
 | [.val (.slice A n c),.val (.int .i64 i)]=>∃j:Nat,i=(j:Int)/\j<=p.length/\Ext W0 W/\Ct4 (p.take j) q/\Ag1 214 119 W ⟨A,n,c⟩ (Ag2 (An8 (p.take j) q))
 | _=>False
def rmI (W0:PW) (p q:List Tm) (j:Nat) (t:Tm) (l:List PL) (W:PW):Prop:=match l with
 | [.val (.slice A n c),.val (.int .i64 i)]=>∃k:Nat,i=(k:Int)/\k<=q.length/\Ext W0 W/\(∀b∈q.take k,(t.1.add b.1).ok)/\Ag1 214 119 W ⟨A,n,c⟩ (Ag2 (An8 (p.take j) q ++ Ev4 t (q.take k)))
 | _=>False
theorem Kg0 (h1:Ag1 214 119 W0 sp p)(E:Ag1 214 119 W0 sq q)(b1:Bd k p)(b2:Bd k q)(hk:k<=50000000)(hp:p.length<=1073741824)(hq:q.length<=1073741824)(aj:p.length*q.length<=1073741824):
  Aa0 Tryz.prog 151 [sp.v,sq.v] W0 M λ v W'=>∃(s':Sl),v = .tuple ⟨[Sl.v s',.bool (decide (Ct4 p q))]⟩/\Ag1 214 119 W' s' (Fm8 p q):=by
 apply Kd2;have n1:=h1.n;have n2:=E.n;have J:=b1.Ff3 b2;refine⟨rmO W0 p q,cnL p.length,⟨0,rfl,by omega,Ext.refl _,λ a d=>by simp at d,Ag1.nil W0⟩,?_⟩;rintro s3 i4 L ⟨j,rfl,hj,N,l,n⟩;have n:Ag1 214 119 L s3 (Ag2 (An8 (p.take j) q)):=n;refine⟨λ an=>?_,λ ao ap O=>⟨s3,?_,?_⟩⟩
 ·have f:j<p.length:=by omega
  refine⟨rmI W0 p q j p[j],cnL q.length,⟨0,rfl,by omega,N,λ b c=>by simp at c,by simpa[Ev4] using n⟩,?_⟩;rintro P i9 Q ⟨k',rfl,aq,w,A,o⟩;have o:Ag1 214 119 Q P (Ag2 (An8 (p.take j) q ++ Ev4 p[j] (q.take k'))):=o;refine⟨λ ar=>?_,λ au=>⟨by unfold I64;omega,⟨j+1,by push_cast;rfl,by omega,w,?_,?_⟩,?_⟩⟩
  ·have g:k'<q.length:=by omega
   have B:=h1.ext w;have C:=E.ext w;have i1:=B.inB (i:=(j:Int)) (by omega) (by omega);have i2:=C.inB (i:=(k':Int)) (by omega) (by omega);obtain⟨R,_,_,_,_,S,_,_⟩:=B.at (List.getElem?_eq_getElem f);obtain⟨T,_,_,_,_,U,_,_⟩:=C.at (List.getElem?_eq_getElem g);refine⟨i1,_,_,_,S,i2,_,_,_,U,?_⟩;refine Ke2 R T λ av z _=>⟨_,_,_,_,rfl,λ D V aw=>?_,λ u=>?_⟩
   ·have D:¬(p[j].1.add q[k'].1).ok:=by simpa using D
    have F:¬Ct4 p q:=λ h=>D (h _ (List.getElem_mem f) _ (List.getElem_mem g));refine⟨⟨none,0,0⟩,?_,?_⟩
    ·rw[decide_eq_false F]
    ·unfold Fm8
     rw[if_neg F];exact Ag1.nil V
   ·have u:(p[j].1.add q[k'].1).ok:=by simpa using u
    have X:mulMon p[j].1 q[k'].1=p[j].1.add q[k'].1:=by unfold mulMon;rw[if_pos u]
    rw[X];obtain⟨_,c1,t1,Y,_,_,f1,Z⟩:=(B.ext z).at (List.getElem?_eq_getElem f);obtain⟨_,c2,t2,u2,_,_,f2,r2⟩:=(C.ext z).at (List.getElem?_eq_getElem g);have G:Bd (k+k) (An8 (p.take j) q ++ Ev4 p[j] (q.take k') ++ [(p[j].1.add q[k'].1,p[j].2*q[k'].2)]):=by
     have H:=J;rw[Kb8 f,<-List.append_assoc] at H;have:=H.left;rw[Kl5 p[j] q (k'+1),Kh2 g] at this;rw[<-List.append_assoc,<-List.append_assoc] at this;exact this.left
    have hlen:=El2 (An8 (p.take j) q ++ Ev4 p[j] (q.take k'));have ax:(An8 (p.take j) q ++ Ev4 p[j] (q.take k')).length<=p.length*q.length:=by
     have:=congrArg List.length (Kb8 (q:=q) f);rw[Eb1] at this;simp only[List.length_append] at this⊢;have e:(Ev4 p[j] (q.take k')).length<=(Ev4 p[j] q).length:=by simp[Ev4];omega
     omega
    refine⟨i1,c1,t1,Y,f1,i2,c2,t2,u2,f2,Am6 Z r2 (b1.sz _ (List.getElem_mem f)) (b2.sz _ (List.getElem_mem g)) (by omega) (by omega) λ c3 t3 u3 ay I ad=>⟨c3,t3,u3,rfl,?_⟩⟩;refine Hd1 (m:=p[j].1.add q[k'].1) (o.ext (z.trans I)) ad u G.left.norm.sz (G.right.sz (p[j].1.add q[k'].1,p[j].2*q[k'].2) (by simp)) (by omega) (by omega) λ ae az af ag=>⟨ae,rfl,by unfold I64;omega,⟨k'+1,by push_cast;rfl,by omega,w.trans ((z.trans I).trans af),?_,?_⟩,?_⟩
    ·intro b c
     rw[Ce0 g] at c;rcases List.mem_append.1 c with c | c
     ·exact A b c
     ·simp at c;subst c;exact u
    ·rw[Kh2 g,<-List.append_assoc,Hn2]
     exact ag
    ·show q.length-Int.toNat ((k':Int)+1)<q.length-Int.toNat (k':Int)
     omega
  ·intro a d b c
   rw[Ce0 f] at d;rcases List.mem_append.1 d with d | d
   ·exact l a d b c
   ·simp at d;subst d
    have:k'=q.length:=by omega
    subst this;rw[List.take_length] at A;exact A b c
  ·have:k'=q.length:=by omega
   subst this;rw[List.take_length] at o;rw[Ce0 f,Dl0];exact o
  ·show p.length-Int.toNat ((j:Int)+1)<p.length-Int.toNat (j:Int)
   omega
 ·have:j=p.length:=by omega
  subst this;rw[List.take_length] at l;rw[decide_eq_true l]
 ·have:j=p.length:=by omega
  subst this;rw[List.take_length] at l n;unfold Fm8;rw[if_pos l];exact n.ext O
theorem Ke0 {W:PW}{K:Value->PW->Prop}(h1:Ag1 214 119 W sp p)(d:Ag1 214 119 W sq q)(b1:Bd k p)(b2:Bd k q)(hk:k<=50000000)(f:p.length<=1073741824)(g:q.length<=1073741824)(j:p.length*q.length<=1073741824)(l: ∀(s':Sl) (W':PW),Ext W W'->(Ag1 214 119 W' s' (Fm8 p q))->K (.tuple ⟨[Sl.v s',.bool (decide (Ct4 p q))]⟩) W'):
  Aa1 Tryz.prog W0 M 151 [sp.v,sq.v] W K:=
 Mi4 (λ _ c=>Kg0 (h1.ext c) (d.ext c) b1 b2 hk f g j) fun | _,W',c,⟨s',rfl,h⟩=>l s' W' c h
end Go.Proofs.YtkgeopnakkcdoaaGreat
namespace Go.Proofs.YtkgeopnakkcdoaaGreat
open Go Go.SX
def cst (r:Rat):List Tm:=Ag2 [(⟨0,0,0⟩,r)]
end Go.Proofs.YtkgeopnakkcdoaaGreat
namespace Go.Proofs.YtkgeopnakkcdoaaGreat
open Go Go.SX
theorem Gk4.Ff3 {e:Int}{f:Int}{p:List Tm}{q:List Tm}(h:Gk4 e p)(k:Gk4 f q)(g:Ct4 p q):Gk4 (e+f) (Ag2 (An8 p q)):=Gk4.norm λ t j=>by
 obtain⟨a,c,hm⟩:=List.mem_flatMap.1 j;obtain⟨b,d,rfl⟩:=List.mem_map.1 hm;have h1:=h a c;have l:=k b d;refine⟨g a c b d,?_⟩;dsimp only[Mon.add];omega
end Go.Proofs.YtkgeopnakkcdoaaGreat
namespace Go.Proofs.YtkgeopnakkcdoaaGreat
open Go Go.SX
variable {b:Nat->Iv}{e:Int}{k kx ky m rx ry:Nat}{p:List Tm}{x y:Mdl}
def Lt0 (b:Nat->Iv) (n:Int) (x y:Mdl):Mdl:=
 ((Lx4 b n (Ag2 (An8 x.1 y.1))).1,Cb5 (Cb5 (Cb5 (Lx4 b n (Ag2 (An8 x.1 y.1))).2 (Ay9 (Aq8 b x.1) y.2)) (Ay9 (Aq8 b y.1) x.2)) (Ay9 x.2 y.2))
def Lu4 (x y:Mdl):Mdl:=(Ag2 (x.1 ++ y.1),Cb5 x.2 y.2)
theorem Gk4.filter (h:Gk4 e p)(f:Tm->Bool):Gk4 e (p.filter f):=λ t c=>h t (List.mem_filter.1 c).1
theorem Gk4.mex (h:Gk4 e p): ∀t∈p,∀i,mex t.1 i<=e.toNat:=λ t c i=>Mf6 (h t c) i
theorem Lo4 (n:Int)(p:List Tm):(Mb5 n p).length<=p.length:=List.length_filter_le _ _
theorem Lo8 (n:Int)(p:List Tm):(Lr1 n p).length<=p.length:=List.length_filter_le _ _
theorem Mg3 {n:Int}(h:POk p)(g:n<=8):Gk4 8 (Mb5 n p):=λ t f=>by
 obtain⟨h1,c⟩:=List.mem_filter.1 f;have c:t.1.deg<=n:=of_decide_eq_true c;have d:=h t h1;refine⟨d,?_⟩;unfold Mon.ok at d;unfold Mon.deg at c;omega
theorem Ln0 (c:Bd k p)(hm: ∀i,BdI m (b i))(d:m<=7)(he:Gk4 e p)(f:e<=255):BdI (k+6123) (Aq8 b p):=by
 have h:=Cv6 c hm he.mex;have:=Nat.mul_le_mul (show m+1<=8 by omega) (show e.toNat<=255 by omega);exact h.mono (by omega)
theorem MdB.cut {n:Int}(c:Bd k p)(d:Av6 p)(hm: ∀i,BdI m (b i))(f:m<=7)(he:Gk4 e p)(g:e<=255):MdB k (k+6123) e (Lx4 b n p):=
 ⟨c.filter _,Ln0 (c.filter _) hm f (he.filter _) g,d.filter _,he.filter _⟩
theorem Lo5 {f:Int}{q:List Tm}(h:Gk4 e p)(k:Gk4 f q)(c:e+f<=255):Gk4 (e+f) (Ag2 (An8 p q)):=Gk4.Ff3 h k (Gx3 h k c)
theorem MdB.mul {ex:Int}{f:Int}{n:Int}(c:MdB kx rx ex x)(d:MdB ky ry f y)(hm: ∀i,BdI m (b i))(h:m<=7)(he:ex+f<=255)(j:ex<=255)(l:f<=255):
  MdB (kx+ky) (2*(kx+ky)+2*(rx+ry)+18372) (ex+f) (Lt0 b n x y):=by
 have g:=MdB.cut (n:=n) (c.bd.Ff3 d.bd).norm (Ce8 _) hm h (Lo5 c.ok d.ok he) he;have h1:=(Ln0 c.bd hm h c.ok j).mul d.rest;have o:=(Ln0 d.bd hm h d.ok l).mul c.rest;have u:=c.rest.mul d.rest;exact⟨g.bd,(((g.rest.add h1).add o).add u).mono (by omega),g.Aq3,g.ok⟩
theorem MdB.add (c:MdB kx rx e x)(d:MdB ky ry e y):MdB (kx+ky+1) (rx+ry+1) e (Lu4 x y):=
 ⟨(c.bd.append d.bd).norm,c.rest.add d.rest,Ce8 _,Gk4.norm (Gk4.append c.ok d.ok)⟩
end Go.Proofs.YtkgeopnakkcdoaaGreat
namespace Go.Proofs.YtkgeopnakkcdoaaGreat
open Go Go.SX
variable {K:Value->PW->Prop}{M:Nat->Prop}{W W0:PW}{b b':Bool}{k:Nat}{l2:List Value}{p q r:Rat}{s s' t t':Sl}{x y:Iv}
theorem De5 (h1:Ab3 214 W0 s b t p)(d:Ab3 214 W0 s' b' t' q)(g:Sz k p)(j:Sz k q)(hk:k<=34359738368):
  Aa0 Tryz.prog 186 [.agg ⟨[s.v,.bool b,t.v]⟩,.agg ⟨[s'.v,.bool b',t'.v]⟩] W0 M λ v W'=>∃(r:Sl),∃(c:Bool),∃(u:Sl),v = .agg ⟨[Sl.v r,.bool c,Sl.v u]⟩/\Ab3 214 W' r c u (Az9 p q):=by
 apply Cg1;refine Aj2 d h1 j g hk hk λ o f _=>⟨_,rfl,λ h w l=>⟨s',b',t',rfl,?_⟩,λ h z n=>⟨s,b,t,rfl,?_⟩⟩
 ·rw[Az9,if_pos (At6.1 h)];exact d.ext (f.trans l)
 ·rw[Az9,if_neg (λ e=>h (At6.2 e))];exact h1.ext (f.trans n)
theorem Be3 (h1:Ab3 214 W s b t p)(f:Ab3 214 W s' b' t' q)(g:Sz k p)(j:Sz k q)(hk:k<=34359738368)(l: ∀(r:Sl) (c:Bool) (u:Sl) (W':PW),Ext W W'->(Ab3 214 W' r c u (Az9 p q))->K (.agg ⟨[Sl.v r,.bool c,Sl.v u]⟩) W'):
  Aa1 Tryz.prog W0 M 186 [.agg ⟨[s.v,.bool b,t.v]⟩,.agg ⟨[s'.v,.bool b',t'.v]⟩] W K:=
 Mi4 (λ _ d=>De5 (h1.ext d) (f.ext d) g j hk) fun | _,W',d,⟨r,c,u,rfl,h⟩=>l r c u W' d h
theorem Dl7 (h1:Ab3 214 W0 s b t p)(d:Ab3 214 W0 s' b' t' q)(g:Sz k p)(j:Sz k q)(hk:k<=34359738368):
  Aa0 Tryz.prog 187 [.agg ⟨[s.v,.bool b,t.v]⟩,.agg ⟨[s'.v,.bool b',t'.v]⟩] W0 M λ v W'=>∃(r:Sl),∃(c:Bool),∃(u:Sl),v = .agg ⟨[Sl.v r,.bool c,Sl.v u]⟩/\Ab3 214 W' r c u (Au7 p q):=by
 apply Ck9;refine Aj2 d h1 j g hk hk λ o f _=>⟨_,rfl,λ h w l=>⟨s',b',t',rfl,?_⟩,λ h z n=>⟨s,b,t,rfl,?_⟩⟩
 ·rw[Au7,if_pos (Al3.1 h)];exact d.ext (f.trans l)
 ·rw[Au7,if_neg (λ e=>h (Al3.2 e))];exact h1.ext (f.trans n)
theorem Bd3 (h1:Ab3 214 W s b t p)(f:Ab3 214 W s' b' t' q)(g:Sz k p)(j:Sz k q)(hk:k<=34359738368)(l: ∀(r:Sl) (c:Bool) (u:Sl) (W':PW),Ext W W'->(Ab3 214 W' r c u (Au7 p q))->K (.agg ⟨[Sl.v r,.bool c,Sl.v u]⟩) W'):
  Aa1 Tryz.prog W0 M 187 [.agg ⟨[s.v,.bool b,t.v]⟩,.agg ⟨[s'.v,.bool b',t'.v]⟩] W K:=
 Mi4 (λ _ d=>Dl7 (h1.ext d) (f.ext d) g j hk) fun | _,W',d,⟨r,c,u,rfl,h⟩=>l r c u W' d h
theorem Cl8 (h1:Ab3 214 W0 s b t p)(c:Ab3 214 W0 s' b' t' q)(d:Sz k p)(f:Sz k q)(hk:k<=34359738368):
  Aa0 Tryz.prog 147 [.agg ⟨[s.v,.bool b,t.v]⟩,.agg ⟨[s'.v,.bool b',t'.v]⟩] W0 M λ v W'=>∃(l:List Value),v = .agg ⟨l⟩/\SpV 214 W' l (Ag0 p q):=by
 apply Bv4;exact Be3 h1 c d f hk λ s3 j n A g g1=>⟨s3,j,n,rfl,Bd3 (h1.ext g) (c.ext g) d f hk λ o u w B z g2=>⟨o,u,w,rfl,λ C h=>⟨_,rfl,SpV.mk (x:=Ag0 p q) (g1.ext (z.trans h)) (g2.ext h)⟩⟩⟩
theorem Ap8 (h1:Ab3 214 W s b t p)(d:Ab3 214 W s' b' t' q)(f:Sz k p)(g:Sz k q)(hk:k<=34359738368)(j: ∀(l:List Value) (W':PW),Ext W W'->(SpV 214 W' l (Ag0 p q))->K (.agg ⟨l⟩) W'):
  Aa1 Tryz.prog W0 M 147 [.agg ⟨[s.v,.bool b,t.v]⟩,.agg ⟨[s'.v,.bool b',t'.v]⟩] W K:=
 Mi4 (λ _ c=>Cl8 (h1.ext c) (d.ext c) f g hk) fun | _,W',c,⟨l,rfl,h⟩=>j l W' c h
theorem Dh8 {l1:List Value}(h1:SpV 214 W0 l1 x)(c:SpV 214 W0 l2 y)(d:IvS k x)(f:IvS k y)(hk:k<=34359738368):
  Aa0 Tryz.prog 146 [.agg ⟨l1⟩,.agg ⟨l2⟩] W0 M λ v W'=>∃(l:List Value),v = .agg ⟨l⟩/\SpV 214 W' l (Bu9 x y):=by
 obtain⟨s0,b0,t0,s1,b1,t1,rfl,h1,j⟩:=h1;obtain⟨s2,b2,t2,s3,C,t3,rfl,c,n⟩:=c;apply Ck6;exact Be3 h1 c d.1 f.1 hk λ s3 o u D g g1=>⟨s3,o,u,rfl,Bd3 (j.ext g) (n.ext g) d.2 f.2 hk λ w z A E B g2=>⟨w,z,A,rfl,λ F h=>⟨_,rfl,SpV.mk (x:=Bu9 x y) (g1.ext (B.trans h)) (g2.ext h)⟩⟩⟩
theorem Cn9 {l1:List Value}(h1:SpV 214 W l1 x)(d:SpV 214 W l2 y)(f:IvS k x)(g:IvS k y)(hk:k<=34359738368)(j: ∀(l:List Value) (W':PW),Ext W W'->(SpV 214 W' l (Bu9 x y))->K (.agg ⟨l⟩) W'):
  Aa1 Tryz.prog W0 M 146 [.agg ⟨l1⟩,.agg ⟨l2⟩] W K:=
 Mi4 (λ _ c=>Dh8 (h1.ext c) (d.ext c) f g hk) fun | _,W',c,⟨l,rfl,h⟩=>j l W' c h
theorem Dx1 {l1:List Value}(h1:SpV 214 W0 l1 x)(c:SpV 214 W0 l2 y)(d:IvS k x)(f:IvS k y)(hk:k<=8589934592):
  Aa0 Tryz.prog 103 [.agg ⟨l1⟩,.agg ⟨l2⟩] W0 M λ v W'=>∃(l:List Value),v = .agg ⟨l⟩/\SpV 214 W' l (Cb5 x y):=by
 obtain⟨s0,b0,t0,s1,b1,t1,rfl,h1,j⟩:=h1;obtain⟨s2,b2,t2,s3,C,t3,rfl,c,n⟩:=c;apply Cs4;exact At2 h1 c d.1 f.1 hk hk λ s3 o u D g g1=>⟨s3,o,u,rfl,At2 (j.ext g) (n.ext g) d.2 f.2 hk hk λ w z A E B g2=>⟨w,z,A,rfl,λ F h=>⟨_,rfl,SpV.mk (x:=Cb5 x y) (g1.ext (B.trans h)) (g2.ext h)⟩⟩⟩
theorem Cy0 {l1:List Value}(h1:SpV 214 W l1 x)(d:SpV 214 W l2 y)(f:IvS k x)(g:IvS k y)(hk:k<=8589934592)(j: ∀(l:List Value) (W':PW),Ext W W'->(SpV 214 W' l (Cb5 x y))->K (.agg ⟨l⟩) W'):
  Aa1 Tryz.prog W0 M 103 [.agg ⟨l1⟩,.agg ⟨l2⟩] W K:=
 Mi4 (λ _ c=>Dx1 (h1.ext c) (d.ext c) f g hk) fun | _,W',c,⟨l,rfl,h⟩=>j l W' c h
theorem Dy9 {l1:List Value}(h1:SpV 214 W0 l1 x)(f:SpV 214 W0 l2 y)(c:IvS k x)(d:IvS k y)(hk:k<=8589934592):
  Aa0 Tryz.prog 104 [.agg ⟨l1⟩,.agg ⟨l2⟩] W0 M λ v W'=>∃(l:List Value),v = .agg ⟨l⟩/\SpV 214 W' l (Ay9 x y):=by
 obtain⟨s0,b0,t0,s1,b1,t1,rfl,h1,D⟩:=h1;obtain⟨s2,b2,t2,s3,O,t3,rfl,f,E⟩:=f;apply Cy7;have F:=c.1.mul d.1;have z2:=c.2.mul d.2;have z3:=c.1.mul d.2;have z4:=c.2.mul d.1;have G: ∀{a b:Rat},Sz (k+k) a->Sz (k+k) b->IvS (k+k) (Ag0 a b):=λ P Q=>⟨by rcases Dj0 _ _ with e | e<;>rw[Ag0,e]<;>assumption,by rcases Dj7 _ _ with e | e<;>rw[Ag0,e]<;>assumption⟩;refine Ak9 h1 f c.1 d.1 hk hk λ s3 h j R n g1=>⟨s3,h,j,rfl,Ak9 (D.ext n) (E.ext n) c.2 d.2 hk hk λ o u w S H g2=>⟨o,u,w,rfl,Ap8 (g1.ext H) g2 F z2 (by omega) λ l T J z=>z.out λ U V X Y Z aa z=>?_⟩⟩;have g:=(n.trans H).trans J;refine Ak9 (h1.ext g) (E.ext g) c.1 d.2 hk hk λ s3 h j ab A g1=>⟨s3,h,j,rfl,Ak9 (D.ext (g.trans A)) (f.ext (g.trans A)) c.2 d.1 hk hk λ o u w ac I g2=>⟨o,u,w,rfl,Ap8 (g1.ext I) g2 z3 z4 (by omega) λ l ad L B=>B.out λ ae af ag ah ai aj B=>?_⟩⟩;exact Cn9 (z.ext ((A.trans I).trans L)) B (G F z2) (G z3 z4) (by omega) λ l ak al C=>C.out λ am an ao ap aq ar C au N=>⟨_,rfl,C.ext N⟩
theorem Cx4 {l1:List Value}(h1:SpV 214 W l1 x)(d:SpV 214 W l2 y)(f:IvS k x)(g:IvS k y)(hk:k<=8589934592)(j: ∀(l:List Value) (W':PW),Ext W W'->(SpV 214 W' l (Ay9 x y))->K (.agg ⟨l⟩) W'):
  Aa1 Tryz.prog W0 M 104 [.agg ⟨l1⟩,.agg ⟨l2⟩] W K:=
 Mi4 (λ _ c=>Dy9 (h1.ext c) (d.ext c) f g hk) fun | _,W',c,⟨l,rfl,h⟩=>j l W' c h
theorem Ep4 (h:Ab3 214 W0 s b t r):
  Aa0 Tryz.prog 142 [.agg ⟨[s.v,.bool b,t.v]⟩] W0 M λ v W'=>∃(l:List Value),v = .agg ⟨l⟩/\SpV 214 W' l (Eb6 r):=by
 apply Dk8;exact λ d c=>⟨_,rfl,SpV.mk (x:=Eb6 r) (h.ext c) (h.ext c)⟩
theorem De4 (h:Ab3 214 W s b t r)(d: ∀(l:List Value) (W':PW),Ext W W'->(SpV 214 W' l (Eb6 r))->K (.agg ⟨l⟩) W'):
  Aa1 Tryz.prog W0 M 142 [.agg ⟨[s.v,.bool b,t.v]⟩] W K:=
 Mi4 (λ _ c=>Ep4 (h.ext c)) fun | _,W',c,⟨l,rfl,h⟩=>d l W' c h
theorem Dt0 {l1:List Value}(h1:SpV 214 W0 l1 x)(c:Ab3 214 W0 s b t r)(d:IvS k x)(f:Sz k r)(hk:k<=8589934592):
  Aa0 Tryz.prog 181 [.agg ⟨l1⟩,.agg ⟨[s.v,.bool b,t.v]⟩] W0 M λ v W'=>v = .bool (decide (x.1<=r/\r<=x.2))/\True:=by
 obtain⟨s0,b0,t0,s1,b1,t1,rfl,h1,j⟩:=h1;apply Cu8;refine Aj2 h1 c d.1 f (by omega) (by omega) λ l g _=>⟨_,rfl,λ h=>Aj2 (c.ext g) (j.ext g) f d.2 (by omega) (by omega) λ n o _=>⟨_,rfl,λ u w=>⟨?_,trivial⟩⟩,λ h z A=>⟨?_,trivial⟩⟩
 ·have h:=Dn3.1 h
  congr 1;rw[decide_eq_decide,Dn3];exact⟨λ e=>⟨h,e⟩,λ e=>e.2⟩
 ·rw[decide_eq_false λ e=>h (Dn3.2 e.1)]
theorem Cs8 {l1:List Value}(h1:SpV 214 W l1 x)(d:Ab3 214 W s b t r)(f:IvS k x)(g:Sz k r)(hk:k<=8589934592)(j: ∀(W':PW),Ext W W'->(True)->K (.bool (decide (x.1<=r/\r<=x.2))) W'):
  Aa1 Tryz.prog W0 M 181 [.agg ⟨l1⟩,.agg ⟨[s.v,.bool b,t.v]⟩] W K:=
 Mi4 (λ _ c=>Dt0 (h1.ext c) (d.ext c) f g hk) fun | _,W',c,⟨rfl,h⟩=>j W' c h
theorem Du0 {l1:List Value}{n:Nat}(h1:SpV 214 W0 l1 x)(d:IvS k x)(hk:k<=1048576)(g:n<=255):
  Aa0 Tryz.prog 143 [.agg ⟨l1⟩,.int .i64 (n:Int)] W0 M λ v W'=>∃(l:List Value),v = .agg ⟨l⟩/\SpV 214 W' l (Ai3 x n):=by
 obtain⟨s0,b0,t0,s1,b1,t1,rfl,h1,o⟩:=h1;apply Cz8;have hm:=Nat.mul_le_mul hk g;have B:mn (mx (n:Int) 0) 255=(n:Int):=by unfold mn mx;(repeat' split)<;>omega
 rw[B];refine Bq4 h1 d.1 hk g λ s3 C D U u g1=>⟨s3,C,D,rfl,Bq4 (o.ext u) d.2 hk g λ E F G V w g2=>⟨E,F,G,rfl,Ap8 (g1.ext w) g2 (Sz.Fe7 d.1 n) (Sz.Fe7 d.2 n) (by omega) λ l H I f=>f.out λ X Y Z aa ab ac f=>⟨λ ad=>⟨by omega,λ ae=>?_,λ J af L=>⟨_,rfl,?_⟩⟩,λ N ag O=>⟨_,rfl,?_⟩⟩⟩⟩
 ·have P:n%2=0:=by have:=Int.tmod_eq_emod_of_nonneg (a:=(n:Int)) (b:=2) (by omega);omega
  have z:=(u.trans w).trans I;refine Cs8 (s:=⟨none,0,0⟩) (b:=false) (t:=⟨none,0,0⟩) (k:=k+1) (SpV.mk (h1.ext z) (o.ext z)) (Ar9 H) ⟨d.1.mono (by omega),d.2.mono (by omega)⟩ (Sz.zero (by omega)) (by omega) λ ah A _=>⟨_,rfl,λ c ai Q=>⟨_,rfl,?_⟩,λ c aj R=>⟨_,rfl,?_⟩⟩
  ·have c:=of_decide_eq_true c
   rw[Ai3,if_pos ⟨by omega,P,c⟩];obtain⟨_,_,_,_,_,_,e,k1,S⟩:=f.ext (A.trans Q);simp only[List.cons.injEq,Value.bool.injEq,and_true] at e;obtain⟨e1,e2,e3,h,T,j⟩:=e;have h:=Sl.Ck0 h;have j:=Sl.Ck0 j;subst h T j;exact⟨⟨none,0,0⟩,false,⟨none,0,0⟩,_,_,_,rfl,Ar9 _,S⟩
  ·have c:=of_decide_eq_false c
   rw[Ai3,if_neg λ e=>c e.2.2];exact f.ext (A.trans R)
 ·rw[Ai3,if_neg]
  ·exact f.ext L
  ·intro e
   apply J;have:=Int.tmod_eq_emod_of_nonneg (a:=(n:Int)) (b:=2) (by omega);have:=e.2.1;omega
 ·rw[Ai3,if_neg λ e=>N (by have:=e.1;omega)]
  exact f.ext O
theorem Co8 {l1:List Value}{n:Nat}(h1:SpV 214 W l1 x)(d:IvS k x)(hk:k<=1048576)(f:n<=255)(g: ∀(l:List Value) (W':PW),Ext W W'->(SpV 214 W' l (Ai3 x n))->K (.agg ⟨l⟩) W'):
  Aa1 Tryz.prog W0 M 143 [.agg ⟨l1⟩,.int .i64 (n:Int)] W K:=
 Mi4 (λ _ c=>Du0 (h1.ext c) d hk f) fun | _,W',c,⟨l,rfl,h⟩=>g l W' c h
theorem Dt4 (h1:Ab3 214 W0 s b t p)(d:Ab3 214 W0 s' b' t' q)(j:Sz k p)(n:Sz k q)(hk:k<=34359738368):
  Aa0 Tryz.prog 131 [.agg ⟨[s.v,.bool b,t.v]⟩,.agg ⟨[s'.v,.bool b',t'.v]⟩] W0 M λ v W'=>∃(l:List Value),v = .tuple ⟨[.agg ⟨l⟩,.bool (decide (p<=q))]⟩/\SpV 214 W' l (if p<=q then(p,q) else(0,0)):=by
 apply Ct1;refine Aj2 h1 d j n hk hk λ u f _=>⟨_,rfl,λ h o w=>?_,λ h z g=>?_⟩
 ·have h:=Al3.1 h
  have c:¬p<=q:=Rat.not_le.2 h;rw[if_neg c,decide_eq_false c];exact⟨_,rfl,SpV.zero o⟩
 ·have c:p<=q:=Rat.not_lt.1 λ e=>h (Al3.2 e)
  rw[if_pos c,decide_eq_true c];exact⟨_,rfl,SpV.mk (x:=(p,q)) (h1.ext (f.trans g)) (d.ext (f.trans g))⟩
theorem Cq7 (h1:Ab3 214 W s b t p)(d:Ab3 214 W s' b' t' q)(f:Sz k p)(g:Sz k q)(hk:k<=34359738368)(j: ∀(l:List Value) (W':PW),Ext W W'->(SpV 214 W' l (if p<=q then(p,q) else(0,0)))->K (.tuple ⟨[.agg ⟨l⟩,.bool (decide (p<=q))]⟩) W'):
  Aa1 Tryz.prog W0 M 131 [.agg ⟨[s.v,.bool b,t.v]⟩,.agg ⟨[s'.v,.bool b',t'.v]⟩] W K:=
 Mi4 (λ _ c=>Dt4 (h1.ext c) (d.ext c) f g hk) fun | _,W',c,⟨l,rfl,h⟩=>j l W' c h
end Go.Proofs.YtkgeopnakkcdoaaGreat
