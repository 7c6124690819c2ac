import Derived.Test.YtkgeopnakkcdoaaGreatW6
import Derived.Test.YtkgeopnakkcdoaaGreatW5
import Derived.Test.YtkgeopnakkcdoaaGreatR5
import Derived.Test.YtkgeopnakkcdoaaGreatLib3
import Derived.Test.YtkgeopnakkcdoaaGreatW3
import Derived.Test.YtkgeopnakkcdoaaGreatLib2
import Derived.Test.YtkgeopnakkcdoaaGreatLib4
import Derived.Test.YtkgeopnakkcdoaaGreatLib5
set_option linter.unusedVariables false
set_option linter.unusedSimpArgs false
set_option maxRecDepth 100000
namespace Go.Proofs.YtkgeopnakkcdoaaGreat
open Go Go.SX
variable {K:Value->PW->Prop}{M:Nat->Prop}{W W0:PW}{k:Nat}{p q:List Tm}{s sp sq:Sl}{ts:TypeId}
theorem Ep0 {t:TypeId}(h:Row W t 1 s [[sp.v],[sq.v]])(hk:k<2):Aa7 W s 1 k 0 [(if k=0 then sp else sq).v]:=by
 rcases(by omega:k=0\/k=1) with rfl | rfl
 ·exact h.part (x:=[sp.v]) rfl 0 rfl
 ·exact h.part (x:=[sq.v]) rfl 0 rfl
def Fw4 (d:Nat) (W0:PW) (p q:List Tm) (l:List PL) (W:PW):Prop:=match l with
 | [.val (.slice A n c),.val (.int .i64 i)]=>∃(k:Nat) (xs:List (List Value)),i=(k:Int)/\k<=2/\Eo1 d W0 W/\Go.SX.Own W 180 6 ⟨A,n,c⟩ xs/\(∀g,(Value.slice A n c).ownBlock=some g->d<=g)/\An5 (PT 214 W) xs (if k=0 then[] else if k=1 then p else p ++ q)
 | _=>False
theorem Dh9 (u:Row W0 ts 1 s [[sp.v],[sq.v]])(h1:Ab0 214 180 W0 sp p)(D:Ab0 214 180 W0 sq q)(hp:p.length<=1073741824)(hq:q.length<=1073741824):
  Aa0 Tryz.prog 149 [s.v] W0 M λ v W'=>∃(s':Sl),v=Sl.v s'/\Ab0 214 180 W' s' (p ++ q):=by
 apply Ai2;have hn:s.n=2:=u.1;have n1:=h1.n;have n2:=D.n
 refine⟨λ l W=>match l with
  | [.val (.int .i64 a),.val (.int .i64 i)]=>W=W0/\∃k:Nat,i=(k:Int)/\k<=2/\a=(((if 0<k then p.length else 0)+(if 1<k then q.length else 0):Nat):Int)
  | _=>False,λ l _=>match l with | [_,.val (.int .i64 i)]=>2-i.toNat | _=>0,⟨rfl,0,rfl,by omega,by simp⟩,?_⟩
 rintro i3 i4 x ⟨rfl,k,rfl,hk,rfl⟩;refine⟨λ O=>?_,λ P=>?_⟩
 ·have c:k<2:=by omega
  have E:(if k=0 then sp else sq).n=if k=0 then p.length else q.length:=by split<;>assumption
  refine⟨u.inB (by omega) (by simp;omega),_,Ep0 u c,?_,λ h=>?_,λ h=>⟨by unfold I64;omega,⟨rfl,k+1,by push_cast;rfl,by omega,?_⟩,?_⟩⟩
  ·show I64 (_+(((if k=0 then sp else sq).n:Nat):Int))
   rw[E];unfold I64
   repeat' split
   all_goals omega
  ·have h:(_:Int)+(((if k=0 then sp else sq).n:Nat):Int)<0:=h
   omega
  ·show _+(((if k=0 then sp else sq).n:Nat):Int)=_
   rw[E];rcases(by omega:k=0\/k=1) with rfl | rfl<;>simp
  ·show 2-Int.toNat ((k:Int)+1)<2-Int.toNat (k:Int)
   omega
 have c:k=2:=by omega
 subst c;have Q:(if 0<2 then p.length else 0)+(if 1<2 then q.length else 0)=p.length+q.length:=by simp
 rw[Q];refine Aa2 (λ W' y=>Es1 (M:=λ _=>False) (by omega)) λ W' v W8 y R S=>?_;obtain⟨T,rfl,U,hO⟩:=S;have V:=y.trans R;refine⟨T,rfl,Fw4 x.w.heap.size x p q,λ l _=>match l with | [_,.val (.int .i64 i)]=>2-i.toNat | _=>0,⟨0,[],rfl,by omega,V.toM _,hO,λ g d=>Nat.le_trans y.size (U g d),trivial⟩,?_⟩;rintro A i13 w ⟨k,xs,rfl,hk,o,n,r,B⟩;have n:Go.SX.Own w 180 6 A xs:=n;have r: ∀g,A.v.ownBlock=some g->x.w.heap.size<=g:=r;refine⟨λ O=>?_,λ P ah F=>⟨A,rfl,?_⟩⟩
 ·have c:k<2:=by omega
  have G:=u.new o (Nat.le_refl _);obtain⟨H,r1,a1⟩:=h1.new o (Nat.le_refl _);obtain⟨I,r2,a2⟩:=D.new o (Nat.le_refl _);have X:Row w 180 6 (if k=0 then sp else sq) (if k=0 then H else I):=by split<;>assumption
  have J:An5 (PT 214 w) (if k=0 then H else I) (if k=0 then p else q):=by split<;>assumption
  have l1:=B.len;have Y:=J.len;refine⟨G.inB (by omega) (by simp;omega),_,Ep0 G c,_,⟨_,X⟩,λ W' f=>⟨xs,n.ext f,λ g d=>.inr (r g d),?_,λ s' al C Z aa=>⟨by unfold I64;omega,⟨k+1,_,by push_cast;rfl,by omega,(o.trans (f.toM _)).trans (C.mono λ g d=>r g d),Z,λ g d=>?_,?_⟩,?_⟩⟩⟩
  ·rw[l1,Y]
   rcases(by omega:k=0\/k=1) with rfl | rfl
   ·simp;omega
   ·simp;omega
  ·rcases aa g d with h | h
   ·exact r g h
   ·exact Nat.le_trans (Nat.le_trans o.size f.size) h
  ·have b1:=B.mono λ _ _ h=>PT.own (n.ext f) C (by decide:214≠180) (h.ext f)
   have b2:=J.mono λ _ _ h=>PT.own (n.ext f) C (by decide:214≠180) (h.ext f);have N:=b1.append b2;rcases(by omega:k=0\/k=1) with rfl | rfl
   ·simpa using N
   ·simpa using N
  ·show 2-Int.toNat ((k:Int)+1)<2-Int.toNat (k:Int)
   omega
 ·have c:k=2:=by omega
  subst c;exact⟨xs,(n.ext F).row,(by simpa using B:An5 (PT 214 w) xs (p ++ q)).mono λ _ _ h=>h.ext F⟩
theorem Cn3 (d:Row W ts 1 s [[sp.v],[sq.v]])(h1:Ab0 214 180 W sp p)(f:Ab0 214 180 W sq q)(g:p.length<=1073741824)(i:q.length<=1073741824)(l: ∀(s':Sl) (W':PW),Ext W W'->(Ab0 214 180 W' s' (p ++ q))->K (Sl.v s') W'):
  Aa1 Tryz.prog W0 M 149 [s.v] W K:=
 Mi4 (λ _ c=>Dh9 (d.ext c) (h1.ext c) (f.ext c) g i) fun | _,W',c,⟨s',rfl,h⟩=>l s' W' c h
theorem Dz0 (h1:Ab0 214 180 W0 sp p)(f:Ab0 214 180 W0 sq q)(b1:Bd k p)(b2:Bd k q)(hk:k<=134217728)(c:p.length<=536870912)(l:q.length<=536870912):
  Aa0 Tryz.prog 105 [.agg ⟨[sp.v]⟩,.agg ⟨[sq.v]⟩] W0 M λ v W'=>∃(s':Sl),v = .agg ⟨[Sl.v s']⟩/\Ab0 214 180 W' s' (Ag2 (p ++ q)):=by
 apply Cw7;intro s1 n d hO _;refine Cn3 hO.row (h1.ext d) (f.ext d) (by omega) (by omega) λ g o r h=>⟨g,rfl,?_⟩;exact An2 h (b1.append b2) (by omega) (by simp;omega) λ s' u w c=>⟨s',rfl,λ x i=>⟨s',rfl,c.ext i⟩⟩
theorem Cw8 (h1:Ab0 214 180 W sp p)(d:Ab0 214 180 W sq q)(b1:Bd k p)(b2:Bd k q)(hk:k<=134217728)(f:p.length<=536870912)(g:q.length<=536870912)(i: ∀(s':Sl) (W':PW),Ext W W'->(Ab0 214 180 W' s' (Ag2 (p ++ q)))->K (.agg ⟨[Sl.v s']⟩) W'):
  Aa1 Tryz.prog W0 M 105 [.agg ⟨[sp.v]⟩,.agg ⟨[sq.v]⟩] W K:=
 Mi4 (λ _ c=>Dz0 (h1.ext c) (d.ext c) b1 b2 hk f g) fun | _,W',c,⟨s',rfl,h⟩=>i s' W' c h
end Go.Proofs.YtkgeopnakkcdoaaGreat
namespace Go.Proofs.YtkgeopnakkcdoaaGreat
open Go Go.SX
variable {M:Nat->Prop}{W0:PW}{k:Nat}{p q:List Tm}{sp sq:Sl}
def Ct4 (p q:List Tm):Prop:=∀a∈p,∀b∈q,(a.1.add b.1).ok
instance (p q:List Tm):Decidable (Ct4 p q):=by unfold Ct4;infer_instance
def Fm8 (p q:List Tm):List Tm:=if Ct4 p q then Ag2 (An8 p q) else[]
def Ev4 (a:Tm) (q:List Tm):List Tm:=q.map λ b=>(a.1.add b.1,a.2*b.2)
theorem Dl0 (p:List Tm)(a:Tm)(q:List Tm):An8 (p ++ [a]) q=An8 p q ++ Ev4 a q:=by simp[An8,Ev4]
theorem Df7 (p:List Tm)(a:Tm)(q:List Tm):An8 (a::p) q=Ev4 a q ++ An8 p q:=rfl
theorem Bg4 {D:Nat}{a:Nat}{l:List Tm}{c:List Tm}{E:List Tm}(h:Dp6 D l a E)(e:l=c):Dp6 D c a E:=e ▸ h
def Fo9 (g:Nat) (sp sq:Sl) (p q:List Tm) (D N:Nat) (l:List PL) (W:PW):Prop:=match l with
 | [.val (.int .i64 i),_]=>∃j:Nat,i=(j:Int)/\j<=p.length/\Ab0 214 180 W sp p/\Ab0 214 180 W sq q/\Ct4 (p.take j) q/\∃es c E a b,Ai4 214 W g es c E/\Dp6 D (An8 (p.take j) q) a E/\Fit D b (An8 (p.drop j) q)/\a+b<=N
 | _=>False
def Fp5 (g j:Nat) (sp sq:Sl) (p q:List Tm) (t:Tm) (D N:Nat) (l:List PL) (W:PW):Prop:=match l with
 | [.val (.int .i64 i),_]=>∃k:Nat,i=(k:Int)/\k<=q.length/\Ab0 214 180 W sp p/\Ab0 214 180 W sq q/\(∀b∈q.take k,(t.1.add b.1).ok)/\(∃s1 b1 s2,Ab3 214 W s1 b1 s2 t.2)/\∃es c E a b,Ai4 214 W g es c E/\Dp6 D (An8 (p.take j) q ++ Ev4 t (q.take k)) a E/\Fit D b (Ev4 t (q.drop k) ++ An8 (p.drop (j+1)) q)/\a+b<=N
 | _=>False
def cn1 (n:Nat) (l:List PL) (W:PW):Nat:=match l with
 | .val (.int .i64 i) :: _=>n-i.toNat
 | _=>0
theorem Dx5 (h1:Ab0 214 180 W0 sp p)(h2:Ab0 214 180 W0 sq q)(b1:Bd k p)(b2:Bd k q)(hk:k<=134217728)(hp:p.length<=1073741824)(hq:q.length<=1073741824)(aK:p.length*q.length<=1073741824):
  Aa0 Tryz.prog 126 [.agg ⟨[sp.v]⟩,.agg ⟨[sq.v]⟩] W0 M λ v W'=>∃(s':Sl),v = .tuple ⟨[.agg ⟨[Sl.v s']⟩,.bool (decide (Ct4 p q))]⟩/\Ab0 214 180 W' s' (Fm8 p q):=by
 apply Dc0;intro g W2 U _ hg hS hh;obtain⟨D,N,hF,A,B,I⟩:=b1.Ff3 b2;have ah:1<=k+k:=Nat.le_trans (Fc3 A) B;refine⟨Fo9 g sp sq p q D N,cn1 p.length,⟨0,rfl,by omega,h1.ext U,h2.ext U,λ a f=>by simp at f,#[],0,[],0,N,Ai4.new hS hh,Dp6.nil D,hF,by omega⟩,?_⟩;rintro s5 i6 W7 ⟨j,rfl,hj,C,hQ,F,es,c,E,a,b,V,r,X,aj⟩;have np:=C.n;refine⟨λ aQ=>?_,λ aR=>?_⟩
 ·have i:j<p.length:=by omega
  obtain⟨h0,s1,d1,s2,he,_,_,Y⟩:=C.at (List.getElem?_eq_getElem i);rw[List.drop_eq_getElem_cons i,Df7] at X;refine⟨C.inB (by omega) (by omega),_,_,_,s1,d1,s2,he,λ l W=>Fp5 g j sp sq p q p[j] D N l W/\Ab3 214 W s1 d1 s2 p[j].2,cn1 q.length,⟨⟨0,rfl,by omega,C,hQ,λ b d=>by simp at d,⟨s1,d1,s2,Y⟩,es,c,E,a,b,V,Bg4 r (by simp[Ev4]),X,aj⟩,Y⟩,?_⟩;rintro aS i17 al ⟨⟨k',rfl,aT,Z,u,J,_,am,c',E',a',b',aa,O,P,ao⟩,Q⟩;have nq:=u.n;refine⟨λ aU=>?_,λ aV=>⟨by unfold I64;omega,⟨j+1,by push_cast;rfl,by omega,Z,u,?_,am,c',E',a',b',aa,?_,?_,ao⟩,?_⟩⟩
  ·have o:k'<q.length:=by omega
   obtain⟨ap,s3,d3,s4,aq,_,_,ar⟩:=u.at (List.getElem?_eq_getElem o);refine⟨u.inB (by omega) (by omega),_,_,_,s3,d3,s4,aq,Cs6 h0 ap λ aW R _=>⟨_,_,_,_,rfl,λ S au aX=>?_,λ w=>?_⟩⟩
   ·have S:¬(p[j].1.add q[k'].1).ok:=by simpa using S
    have hM:¬Ct4 p q:=λ h=>S (h _ (List.getElem_mem i) _ (List.getElem_mem o));refine⟨⟨none,0,0⟩,?_,?_⟩
    ·rw[decide_eq_false hM]
    ·unfold Fm8
     rw[if_neg hM];exact Ab0.nil au
   ·have w:(p[j].1.add q[k'].1).ok:=by simpa using w
    have av:mulMon p[j].1 q[k'].1=p[j].1.add q[k'].1:=by unfold mulMon;rw[if_pos w]
    rw[av];rw[List.drop_eq_getElem_cons o] at P;obtain⟨n,m,aY,ac,aw⟩:=P;refine Ak9 (Q.ext R) (ar.ext R) (b1.sz _ (List.getElem_mem i)) (b2.sz _ (List.getElem_mem o)) (by omega) (by omega) λ ax d35 ay aZ az aA=>⟨ax,d35,ay,rfl,?_⟩;have x:=R.trans az;refine Bj5 (k:=k+k) (m:=p[j].1.add q[k'].1) (aa.ext x) w aA (λ t T=>((O.fit.mem T).mono (by omega:a'<=N)).sz A B I) ((ac.mono (by omega:n<=N)).sz A B I) (by omega) ah (.inr hg) λ W' a0 aB c2 E2 y G H aD hA=>⟨rfl,by unfold I64;omega,⟨⟨k'+1,by push_cast;rfl,by omega,(Z.ext (x.trans y)).map G H.heap,(u.ext (x.trans y)).map G H.heap,?_,⟨s1,d1,s2,(Q.ext (x.trans y)).map G H.heap⟩,aB,c2,E2,a'+n,m,aD,?_,aw,by omega⟩,(Q.ext (x.trans y)).map G H.heap⟩,?_⟩
    ·intro b d
     rw[As0 o] at d;rcases List.mem_append.1 d with d | d
     ·exact J b d
     ·simp at d;subst d;exact w
    ·refine Bg4 (O.add hA ac) ?_
     rw[As0 o,show Ev4 p[j] (q.take k' ++ [q[k']])=Ev4 p[j] (q.take k') ++ [(p[j].1.add q[k'].1,p[j].2*q[k'].2)] from List.map_append,List.append_assoc]
    ·show q.length-Int.toNat ((k':Int)+1)<q.length-Int.toNat (k':Int)
     omega
  ·intro a f b d
   rw[As0 i] at f;rcases List.mem_append.1 f with f | f
   ·exact F a f b d
   ·simp at f;subst f
    have:k'=q.length:=by omega
    subst this;rw[List.take_length] at J;exact J b d
  ·have:k'=q.length:=by omega
   subst this;refine Bg4 O ?_;rw[List.take_length,As0 i,Dl0]
  ·have:k'=q.length:=by omega
   subst this
   simpa[Ev4] using P
  ·show p.length-Int.toNat ((j:Int)+1)<p.length-Int.toNat (j:Int)
   omega
 ·have aF:j=p.length:=by omega
  subst aF;rw[List.take_length] at r F;have hlen:=r.len;rw[Eb1] at hlen;refine Ch8 (k:=k+k) V (λ t T=>((r.fit.mem T).mono (by omega:a<=N)).sz A B I) (by omega) (by omega) λ s' W' y aG=>⟨s',rfl,λ al aH=>⟨s',?_,?_⟩⟩
  ·rw[decide_eq_true F]
  ·unfold Fm8
   rw[if_pos F,<-r.norm];exact aG.ext aH
theorem Ct0 {W:PW}{K:Value->PW->Prop}(h1:Ab0 214 180 W sp p)(d:Ab0 214 180 W sq q)(b1:Bd k p)(b2:Bd k q)(hk:k<=134217728)(f:p.length<=1073741824)(g:q.length<=1073741824)(i:p.length*q.length<=1073741824)(l: ∀(s':Sl) (W':PW),Ext W W'->(Ab0 214 180 W' s' (Fm8 p q))->K (.tuple ⟨[.agg ⟨[Sl.v s']⟩,.bool (decide (Ct4 p q))]⟩) W'):
  Aa1 Tryz.prog W0 M 126 [.agg ⟨[sp.v]⟩,.agg ⟨[sq.v]⟩] W K:=
 Mi4 (λ _ c=>Dx5 (h1.ext c) (d.ext c) b1 b2 hk f g i) fun | _,W',c,⟨s',rfl,h⟩=>l s' W' c h
end Go.Proofs.YtkgeopnakkcdoaaGreat
namespace Go.Proofs.YtkgeopnakkcdoaaGreat
open Go Go.SX
variable {K:Value->PW->Prop}{M:Nat->Prop}{W W0:PW}{a b m:Mon}
theorem Da6 (hm:m.ok):
  Aa0 Tryz.prog 34 [.agg ⟨[.int .u8 m.x,.int .u8 m.y,.int .u8 m.z]⟩] W0 M λ v W'=>v = .int .i64 m.deg/\True:=by
 apply Bs4;unfold Mon.ok at hm;exact⟨⟨by omega,by omega⟩,by unfold I64;omega,⟨by omega,by omega⟩,by unfold I64;omega,by unfold I64;omega,⟨by omega,by omega⟩,by unfold I64;omega,by unfold I64;omega,λ c _=>⟨rfl,trivial⟩⟩
theorem Al9 (hm:m.ok)(d: ∀(W':PW),Ext W W'->(True)->K (.int .i64 m.deg) W'):
  Aa1 Tryz.prog W0 M 34 [.agg ⟨[.int .u8 m.x,.int .u8 m.y,.int .u8 m.z]⟩] W K:=
 Mi4 (λ _ c=>Da6 hm) fun | _,W',c,⟨rfl,h⟩=>d W' c h
theorem Ck7 (g:a.ok)(n:b.ok):
  Aa0 Tryz.prog 115 [.agg ⟨[.int .u8 a.x,.int .u8 a.y,.int .u8 a.z]⟩,.agg ⟨[.int .u8 b.x,.int .u8 b.y,.int .u8 b.z]⟩] W0 M λ v W'=>v = .int .i64 (a.cmp b)/\True:=by
 apply Bn9;refine Al9 g λ A _ _=>⟨_,rfl,Al9 n λ B C _=>⟨_,rfl,λ u=>?_,λ heq=>?_⟩⟩
 ·refine Al9 g λ D _ _=>⟨_,rfl,Al9 n λ E _ _=>⟨_,rfl,λ h F _=>⟨?_,trivial⟩,λ h G _=>⟨?_,trivial⟩⟩⟩
  ·rw[Ch0];unfold As4;rw[if_pos h];simp
  ·rw[Ch0];unfold As4;rw[if_neg h,if_neg u];simp
 ·have w:a.deg=b.deg:=by omega
  have x:a.cmp b=Ey8 a b:=by rw[Ch0];unfold As4;simp[w]
  rw[x];refine⟨λ l W=>match l with | [.val (.int .i64 i)]=>∃k:Nat,i=(k:Int)/\k<=3/\∀j,j<k->An6 a j=An6 b j | _=>False,λ l _=>match l with | [.val (.int .i64 i)]=>3-i.toNat | _=>0,⟨0,rfl,by omega,λ j c=>by omega⟩,?_⟩;rintro i17 H ⟨k,rfl,hk,c⟩;refine⟨λ I=>?_,λ J N _=>⟨?_,trivial⟩⟩
  ·have d:k<3:=by omega
   have f:(0:Int)<=(k:Int)/\(k:Int)<3:=⟨by omega,by omega⟩;have o:=Aw0 a d _ _ _ rfl rfl rfl;have r:=Aw0 b d _ _ _ rfl rfl rfl;refine⟨f,_,o,f,_,r,λ h O _=>⟨?_,trivial⟩,λ h=>⟨f,_,o,f,_,r,λ y P _=>⟨?_,trivial⟩,λ y=>⟨by unfold I64;omega,⟨k+1,by push_cast;rfl,by omega,λ j Q=>?_⟩,?_⟩⟩⟩
   ·rw[Dh1 d c (by omega)];unfold As4;rw[if_pos h]
   ·rw[Dh1 d c (by omega)];unfold As4;rw[if_neg h,if_neg (by omega)]
   ·by_cases e:j=k
    ·subst e;omega
    ·exact c j (by omega)
   ·show 3-Int.toNat ((k:Int)+1)<3-Int.toNat (k:Int)
    omega
  ·have:k=3:=by omega
   subst this;rw[Eq5 c]
theorem Bx0 (d:a.ok)(f:b.ok)(g: ∀(W':PW),Ext W W'->(True)->K (.int .i64 (a.cmp b)) W'):
  Aa1 Tryz.prog W0 M 115 [.agg ⟨[.int .u8 a.x,.int .u8 a.y,.int .u8 a.z]⟩,.agg ⟨[.int .u8 b.x,.int .u8 b.y,.int .u8 b.z]⟩] W K:=
 Mi4 (λ _ c=>Ck7 d f) fun | _,W',c,⟨rfl,h⟩=>g W' c h
def Kp5 (a b:Mon) (l:List PL):Prop:=match l with
 | [.val (.int .i64 i),_,.cells [.int .u8 x,.int .u8 y,.int .u8 z]]=>∃k:Nat,i=(k:Int)/\k<=3/\x=(if 0<k then a.x+b.x else 0)/\y=(if 1<k then a.y+b.y else 0)/\z=(if 2<k then a.z+b.z else 0)/\∀j,j<k->An6 a j+An6 b j<=255
 | _=>False
theorem Kg3 (u:a.ok)(w:b.ok):
  Aa0 Tryz.prog 189 [.agg ⟨[.int .u8 a.x,.int .u8 a.y,.int .u8 a.z]⟩,.agg ⟨[.int .u8 b.x,.int .u8 b.y,.int .u8 b.z]⟩] W0 M λ v W'=>v = .tuple ⟨[.agg ⟨[.int .u8 (mulMon a b).x,.int .u8 (mulMon a b).y,.int .u8 (mulMon a b).z]⟩,.bool (decide (a.add b).ok)]⟩/\True:=by
 apply Kc9;refine⟨λ l W=>Kp5 a b l,λ l _=>match l with | [.val (.int .i64 i),_,_]=>3-i.toNat | _=>0,⟨0,rfl,by omega,rfl,rfl,rfl,λ j c=>by omega⟩,?_⟩;rintro i3 i4 i5 i6 i7 i8 i9 E ⟨k,rfl,hk,f,g,n,c⟩;refine⟨λ F=>?_,λ G H _=>⟨?_,trivial⟩⟩
 ·have x:k<3:=by omega
  have I:=Dg9 u k;have J:=Dg9 w k;have y:=Aw0 a x _ _ _ rfl rfl rfl;have A:=Aw0 b x _ _ _ rfl rfl rfl;have d:(0:Int)<=(k:Int)/\(k:Int)<3:=⟨by omega,by omega⟩;refine⟨d,_,y,by unfold I64;omega,d,_,A,by unfold I64;omega,by unfold I64;omega,λ C N _=>⟨?_,trivial⟩,λ hle=>⟨d,_,y,d,_,A,d,by omega,⟨⟨trivial,λ o=>?_⟩,λ h1=>?_⟩,λ r=>?_⟩⟩
  ·have:=Dv9 C
   rw[decide_eq_false this];unfold mulMon;rw[if_neg this]
  all_goals
   have hw:IntKind.wrap .u8 (An6 a k+An6 b k)=An6 a k+An6 b k:=Du1 (by omega) (by omega);rw[hw];have D:Int.toNat (k:Int)=k:=by omega
   rw[D] at *
  ·subst o
   refine⟨by unfold I64;omega,⟨1,rfl,by omega,by simp[An6],by simpa using g,by simpa using n,λ j h=>?_⟩,by show 3-Int.toNat (((0:Nat):Int)+1)<3-Int.toNat ((0:Nat):Int);omega⟩;have:j=0:=by omega
   subst this;omega
  ·subst h1
   refine⟨by unfold I64;omega,⟨2,rfl,by omega,by simpa using f,by simp[An6],by simpa using n,λ j h=>?_⟩,by show 3-Int.toNat (((1:Nat):Int)+1)<3-Int.toNat ((1:Nat):Int);omega⟩;rcases(by omega:j=0\/j=1) with rfl | rfl
   ·exact c 0 (by omega)
   ·omega
  ·subst r
   refine⟨by unfold I64;omega,⟨3,rfl,by omega,by simpa using f,by simpa using g,by simp[An6],λ j h=>?_⟩,by show 3-Int.toNat (((2:Nat):Int)+1)<3-Int.toNat ((2:Nat):Int);omega⟩;rcases(by omega:j<2\/j=2) with h | rfl
   ·exact c j h
   ·omega
 ·have:k=3:=by omega
  subst this;have o:=c 0 (by omega);have h1:=c 1 (by omega);have r:=c 2 (by omega);simp[An6] at o h1 r f g n;have B:(a.add b).ok:=by
   unfold Mon.ok at u w;unfold Mon.ok Mon.add;dsimp only;omega
  rw[decide_eq_true B];unfold mulMon;rw[if_pos B,f,g,n];rfl
theorem Ke2 (d:a.ok)(f:b.ok)(g: ∀(W':PW),Ext W W'->(True)->K (.tuple ⟨[.agg ⟨[.int .u8 (mulMon a b).x,.int .u8 (mulMon a b).y,.int .u8 (mulMon a b).z]⟩,.bool (decide (a.add b).ok)]⟩) W'):
  Aa1 Tryz.prog W0 M 189 [.agg ⟨[.int .u8 a.x,.int .u8 a.y,.int .u8 a.z]⟩,.agg ⟨[.int .u8 b.x,.int .u8 b.y,.int .u8 b.z]⟩] W K:=
 Mi4 (λ _ c=>Kg3 d f) fun | _,W',c,⟨rfl,h⟩=>g W' c h
end Go.Proofs.YtkgeopnakkcdoaaGreat
namespace Go.Proofs.YtkgeopnakkcdoaaGreat
open Go Go.SX
variable {M:Nat->Prop}{W W0:PW}{b:Bool}{j k:Nat}{m:Mon}{p:List Tm}{q:Rat}{s s' sp:Sl}
theorem Ce0 {α:Type}{l:List α}(h:j<l.length):l.take (j+1)=l.take j ++ [l[j]]:=by
 rw[List.take_add_one,List.getElem?_eq_getElem h];rfl
theorem Hi3 {a:Mon}{b:Mon}:([Value.int .u8 a.x,.int .u8 a.y,.int .u8 a.z] = [.int .u8 b.x,.int .u8 b.y,.int .u8 b.z])↔a=b:=by
 constructor
 ·intro h
  simp only[List.cons.injEq,Value.int.injEq,true_and,and_true] at h;exact Mon.Fp2 h.1 h.2.1 h.2.2
 ·rintro rfl;rfl
theorem Ds0 {z:Int}:By8 z=0↔z=0:=by
 unfold By8;split
 ·constructor<;>intro h<;>omega
 ·split
  ·simp_all
  ·constructor<;>intro h<;>omega
theorem Ds5:q.num=0↔q=0:=Rat.num_eq_zero
theorem Hr4 {t:TypeId}{xs:List (List Value)}{sz:Nat}(h:Row W t sz s xs):(s.n:Int)<=(s.c:Int):=by
 have:=h.2.1;omega
def Hs3 (W0:PW) (p:List Tm) (m:Mon) (l:List PL) (W:PW):Prop:=match l with
 | [.val (.int .i64 i)]=>∃j:Nat,i=(j:Int)/\j<=p.length/\Ext W0 W/\∀t∈p.take j,t.1.lt m
 | _=>False
def Hs4 (W0:PW) (p:List Tm) (m:Mon) (l:List PL) (W:PW):Prop:=match l with
 | [.val (.int .i64 i)]=>∃j:Nat,i=(j:Int)/\j<=p.length/\Ext W0 W/\(∀t∈p.take j,t.1.lt m)/\∀t∈(p.drop j).head?,¬t.1.lt m
 | _=>False
theorem Hd3 {t:Tm}(g:j<=p.length)(h: ∀x∈p.take j,x.1.lt t.1)(d: ∀x∈(p.drop j).head?,¬x.1.lt t.1)(f: ∀x∈(p.drop j).head?,x.1≠t.1):Bg6 p t=if t.2=0 then p else p.take j ++ t::p.drop j:=by
 rw[Hp3 g h]
 cases c:p.drop j with
 | nil=>
  rw[Bg6];split
  ·have:=List.take_append_drop j p
   rw[c] at this;exact this
  ·rfl
 | cons e r=>
  rw[c] at d f;rw[Bg6,if_neg (d e (by simp)),if_neg (f e (by simp))];split
  ·rw[<-c,List.take_append_drop]
  ·rfl
theorem Ho3 (f:Ag1 214 119 W0 sp p)(E:Ab6 214 W0 b s s' q)(hm:m.ok)(hs: ∀t∈p,Sz k t.2)(hz:Sz k q)(hk:k<=100000000)(hl:p.length<=1073741824):
  Aa0 Tryz.prog 84 [sp.v,.agg ⟨[.int .u8 m.x,.int .u8 m.y,.int .u8 m.z,.bool b,s.v,s'.v]⟩] W0 M λ v W'=>∃(s2:Sl),v=Sl.v s2/\Ag1 214 119 W' s2 (Bg6 p (m,q)):=by
 apply Hi1;have hn:=f.n;have hc:(sp.n:Int)<=(sp.c:Int):=let⟨_,h,_⟩:=f;Hr4 h
 refine⟨Hs4 W0 p m,⟨Hs3 W0 p m,λ l _=>match l with | [.val (.int .i64 i)]=>p.length-i.toNat | _=>0,⟨0,rfl,by omega,Ext.refl _,λ t c=>by simp at c⟩,?_⟩,?_⟩
 ·rintro i4 W5 ⟨j,rfl,y,F,r⟩
  refine⟨λ U=>?_,λ D=>⟨j,rfl,y,F,r,λ t c=>?_⟩⟩
  ·have g:j<p.length:=by omega
   obtain⟨n,b1,s1,s2,_,O,_,_⟩:=(f.ext F).at (List.getElem?_eq_getElem g);refine⟨(f.ext F).inB (by omega) (by omega),_,_,_,O,Bx0 n hm λ aH V _=>⟨_,rfl,λ ai=>⟨by unfold I64;omega,⟨j+1,by push_cast;rfl,by omega,F.trans V,λ t c=>?_⟩,?_⟩,λ aj=>⟨j,rfl,y,F.trans V,r,λ t c=>?_⟩⟩⟩
   ·rw[Ce0 g] at c
    rcases List.mem_append.1 c with c | c
    ·exact r t c
    ·simp at c;subst c;exact Mon.Dm2.1 ai
   ·show p.length-Int.toNat ((j:Int)+1)<p.length-Int.toNat (j:Int)
    omega
   ·rw[List.drop_eq_getElem_cons g] at c
    have c:some p[j]=some t:=c;have c:=Option.some.inj c;subst c;exact λ h=>aj (Mon.Dm2.2 h)
  ·rw[List.drop_eq_nil_of_le (by omega)] at c
   simp at c
 rintro i12 aI ⟨j,rfl,y,d,r,D⟩;refine⟨λ U=>?_,λ U=>?_⟩
 ·have g:j<p.length:=by omega
  have X:=(f.ext d).inB (i:=(j:Int)) (by omega) (by omega);obtain⟨n,b1,s1,s2,_,O,e3,hr⟩:=(f.ext d).at (List.getElem?_eq_getElem g);refine⟨X,_,_,_,O,λ heq=>⟨X,b1,s1,s2,e3,?_⟩,λ am=>?_⟩
  ·have P:p[j].1=m:=Hi3.1 heq
   have Y:Bg6 p (m,q)=p.take j ++ (if p[j].2+q=0 then p.drop (j+1) else(p[j].1,p[j].2+q)::p.drop (j+1)):=by
    rw[Hp3 y r,List.drop_eq_getElem_cons g,Bg6,if_neg (D _ (by rw[List.drop_eq_getElem_cons g];rfl)),if_pos P]
   refine Bj7 hr (E.ext d) (hs _ (List.getElem_mem g)) hz (by omega) (by omega) λ Z aa ab aJ an ac=>⟨Z,aa,ab,rfl,?_⟩;obtain⟨ys,A,u⟩:=f.ext (d.trans an);have ad:=u.len;refine⟨ys,⟨_,A⟩,by omega,Aq7 ac.1 λ aK N _=>⟨_,rfl,λ ao=>?_,λ ap=>?_⟩⟩
   ·have o:p[j].2+q=0:=Ds5.1 (Ds0.1 ao)
    have G:=(A.ext N).cut (lo:=j+1) (hi:=sp.n) (by omega) (by omega);refine⟨by unfold I64;omega,⟨by omega,by omega,by omega⟩,⟨by omega,by omega⟩,_,⟨_,G⟩,by simp;omega,λ aq aL ar hO _ aM ae=>⟨aq,rfl,?_⟩⟩;rw[Y,if_pos o];refine⟨_,(hO.ext ae).row,?_⟩;have a2:=u.mono λ _ _ h=>h.ext (N.trans (ar.trans ae));have H:ys.take sp.n=ys:=List.take_of_length_le (by omega);rw[H];exact(a2.take j).append (a2.drop (j+1))
   ·have o:¬p[j].2+q=0:=λ e=>ap (Ds0.2 (Ds5.2 e))
    refine⟨⟨by omega,by omega⟩,by show j<_;omega,λ au aN af hO _ aO Q=>⟨au,rfl,?_⟩⟩;rw[Y,if_neg o];have av:p.take j ++ (p[j].1,p[j].2+q)::p.drop (j+1)=p.set j (p[j].1,p[j].2+q):=by
     rw[List.set_eq_take_append_cons_drop,if_pos g]
    rw[av];refine⟨_,(hO.ext Q).row,?_⟩;have a2:=u.mono λ _ _ h=>h.ext (N.trans (af.trans Q));obtain⟨x,w,aP,b',sx,sy,rfl,aQ⟩:=a2.get (List.getElem?_eq_getElem g);have ay:ys.getD j [] = [.int .u8 p[j].1.x,.int .u8 p[j].1.y,.int .u8 p[j].1.z,.bool b',sx.v,sy.v]:=by
     rw[List.getD_eq_getElem?_getD,w];rfl
    show An5 _ (ys.set j (patch (ys.getD j []) 3 _)) _;rw[ay];exact a2.set j ⟨n,Z,aa,ab,rfl,ac.ext (N.trans (af.trans Q))⟩
  ·have P:¬p[j].1=m:=λ e=>am (Hi3.2 e)
   have I: ∀x∈(p.drop j).head?,x.1≠m:=by
    rw[List.drop_eq_getElem_cons g];intro x w;have w:some p[j]=some x:=w;have w:=Option.some.inj w;subst w;exact P
   refine Aq7 (E.ext d).1 λ az B _=>⟨_,rfl,λ n aA R=>⟨sp,rfl,?_⟩,λ n=>⟨⟨by omega,by omega,by omega⟩,⟨by omega,by omega,by omega⟩,?_⟩⟩
   ·have o:q=0:=Ds5.1 (Ds0.1 n)
    rw[Hd3 y r D I,if_pos o];exact f.ext (d.trans (B.trans R))
   ·have o:¬q=0:=λ e=>n (Ds0.2 (Ds5.2 e))
    obtain⟨ys,A,u⟩:=f.ext (d.trans B);have ad:=u.len;have S:=A.cut (lo:=0) (hi:=j) (Nat.zero_le _) (by omega);have G:=A.cut (lo:=j) (hi:=sp.n) (by omega) (by omega);refine Fc8 ?_ 1;refine⟨_,⟨_,S⟩,by simp;omega,by simp;omega,_,⟨_,G⟩,by simp;omega,λ T aB J hO _ aC C=>⟨T,rfl,?_⟩⟩;rw[Hd3 y r D I,if_neg o];refine⟨_,(hO.ext C).row,?_⟩;have a2:=u.mono λ _ _ h=>h.ext (J.trans C);have H:ys.take sp.n=ys:=List.take_of_length_le (by omega);rw[List.drop_zero,H,List.append_assoc];exact(a2.take j).append ⟨⟨hm,b,s,s',rfl,E.ext (d.trans (B.trans (J.trans C)))⟩,a2.drop j⟩
 ·have I: ∀x∈(p.drop j).head?,x.1≠m:=by
   rw[List.drop_eq_nil_of_le (by omega)];intro x w;simp at w
  refine Aq7 (E.ext d).1 λ az B _=>⟨_,rfl,λ n aA R=>⟨sp,rfl,?_⟩,λ n=>⟨⟨by omega,by omega,by omega⟩,⟨by omega,by omega,by omega⟩,?_⟩⟩
  ·have o:q=0:=Ds5.1 (Ds0.1 n)
   rw[Hd3 y r D I,if_pos o];exact f.ext (d.trans (B.trans R))
  ·have o:¬q=0:=λ e=>n (Ds0.2 (Ds5.2 e))
   obtain⟨ys,A,u⟩:=f.ext (d.trans B);have ad:=u.len;have S:=A.cut (lo:=0) (hi:=j) (Nat.zero_le _) (by omega);have G:=A.cut (lo:=j) (hi:=sp.n) (by omega) (by omega);refine Fc8 ?_ 1;refine⟨_,⟨_,S⟩,by simp;omega,by simp;omega,_,⟨_,G⟩,by simp;omega,λ T aB J hO _ aC C=>⟨T,rfl,?_⟩⟩;rw[Hd3 y r D I,if_neg o];refine⟨_,(hO.ext C).row,?_⟩;have a2:=u.mono λ _ _ h=>h.ext (J.trans C);have H:ys.take sp.n=ys:=List.take_of_length_le (by omega);rw[List.drop_zero,H,List.append_assoc];exact(a2.take j).append ⟨⟨hm,b,s,s',rfl,E.ext (d.trans (B.trans (J.trans C)))⟩,a2.drop j⟩
theorem Hd1 {K:Value->PW->Prop}(d:Ag1 214 119 W sp p)(f:Ab6 214 W b s s' q)(hm:m.ok)(g: ∀t∈p,Sz k t.2)(i:Sz k q)(hk:k<=100000000)(l:p.length<=1073741824)(n: ∀(s2:Sl) (W':PW),Ext W W'->(Ag1 214 119 W' s2 (Bg6 p (m,q)))->K (Sl.v s2) W'):
  Aa1 Tryz.prog W0 M 84 [sp.v,.agg ⟨[.int .u8 m.x,.int .u8 m.y,.int .u8 m.z,.bool b,s.v,s'.v]⟩] W K:=
 Mi4 (λ _ c=>Ho3 (d.ext c) (f.ext c) hm g i hk l) fun | _,W',c,⟨s2,rfl,h⟩=>n s2 W' c h
end Go.Proofs.YtkgeopnakkcdoaaGreat
namespace Go.Proofs.YtkgeopnakkcdoaaGreat
open Go Go.SX
variable {K:Value->PW->Prop}{M:Nat->Prop}{W W0:PW}{k:Nat}{p:List Tm}{s t:Sl}
def cnL (n:Nat) (l:List PL) (W:PW):Nat:=match l with
 | [_,.val (.int .i64 i)]=>n-i.toNat
 | _=>0
def Gw3 (p:List Tm):List (Mon×ByteArray):=p.map λ t=>(t.1,Ed0 t.2)
theorem Gx1 (p:List Tm):(Gw3 p).length=p.length:=by simp[Gw3]
theorem Gv2 {j:Nat}(h:j<p.length):Gw3 (p.take (j+1))=Gw3 (p.take j) ++ [(p[j].1,Ed0 p[j].2)]:=by
 rw[Ce0 h];exact List.map_append
def plI (W0:PW) (p:List Tm) (L:List PL) (W:PW):Prop:=match L with
 | [.row xs,.val (.int .i64 i)]=>∃j:Nat,i=(j:Int)/\j<=p.length/\Ext W0 W/\An5 AT xs (Gw3 (p.take j))
 | _=>False
theorem Kd7 (h:Ag1 214 119 W0 s p)(o: ∀t∈p,Sz k t.2)(hk:k<=100000000)(C:p.length<=1073741824):
  Aa0 Tryz.prog 83 [s.v] W0 M λ v W'=>∃(s':Sl),v=Sl.v s'/\Af3 W' s' (Gw3 p):=by
 apply Ka9;have D:=h.n;refine⟨plI W0 p,cnL p.length,⟨0,rfl,by omega,Ext.refl _,trivial⟩,?_⟩;rintro E i4 F ⟨j,rfl,G,f,c⟩;have r:=c.len;rw[Gx1,List.length_take] at r;refine⟨λ H=>?_,λ I u J N hO _ O w=>⟨u,rfl,?_⟩⟩
 ·have d:j<p.length:=by omega
  have g:=h.ext f;have l:=g.inB (i:=(j:Int)) (by omega) (by omega);obtain⟨x,b1,s1,s2,_,y,A,B⟩:=g.at (List.getElem?_eq_getElem d);refine⟨l,_,_,_,y,l,b1,s1,s2,A,Cl5 B (o _ (List.getElem_mem d)) hk λ P n _=>⟨_,rfl,n,Ext.refl _,by simp;omega,Ext.refl _,by unfold I64;omega,⟨j+1,by push_cast;rfl,by omega,f.trans n,?_⟩,?_⟩⟩
  ·rw[Gv2 d]
   exact c.snoc ⟨x,rfl⟩
  ·show p.length-Int.toNat ((j:Int)+1)<p.length-Int.toNat (j:Int)
   omega
 ·have:j=p.length:=by omega
  subst this;rw[List.take_length] at c;exact⟨_,⟨_,(hO.ext w).row⟩,c⟩
theorem Kb3 (h:Ag1 214 119 W s p)(d: ∀t∈p,Sz k t.2)(hk:k<=100000000)(f:p.length<=1073741824)(g: ∀(s':Sl) (W':PW),Ext W W'->(Af3 W' s' (Gw3 p))->K (Sl.v s') W'):
  Aa1 Tryz.prog W0 M 83 [s.v] W K:=
 Mi4 (λ _ c=>Kd7 (h.ext c) d hk f) fun | _,W',c,⟨s',rfl,h⟩=>g s' W' c h
theorem Gn3 (h:Ab0 214 180 W0 s p)(n: ∀t∈p,Sz k t.2)(hk:k<=100000000)(E:p.length<=1073741824):
  Aa0 Tryz.prog 82 [.agg ⟨[s.v]⟩] W0 M λ v W'=>∃(s':Sl),v=Sl.v s'/\Aq4 W0 s'/\Gv0 211 W' s' (Gw3 p):=by
 apply Gl0;have F:=h.n;refine⟨plI W0 p,cnL p.length,⟨0,rfl,by omega,Ext.refl _,trivial⟩,?_⟩;rintro G i4 H ⟨j,rfl,I,f,c⟩;have o:=c.len;rw[Gx1,List.length_take] at o;refine⟨λ J=>?_,λ N r O P hO u Q w=>⟨r,rfl,λ g x=>(u g x).1,?_⟩⟩
 ·have d:j<p.length:=by omega
  have l:=h.ext f;have y:=l.inB (i:=(j:Int)) (by omega) (by omega);obtain⟨A,s1,b1,s2,B,_,_,C⟩:=l.at (List.getElem?_eq_getElem d);refine⟨y,_,_,_,s1,b1,s2,B,Dc4 C (n _ (List.getElem_mem d)) hk λ R D _=>⟨_,rfl,by simp;omega,by unfold I64;omega,⟨j+1,by push_cast;rfl,by omega,f.trans D,?_⟩,?_⟩⟩
  ·rw[Gv2 d]
   exact c.snoc ⟨A,rfl⟩
  ·show p.length-Int.toNat ((j:Int)+1)<p.length-Int.toNat (j:Int)
   omega
 ·have:j=p.length:=by omega
  subst this;rw[List.take_length] at c;exact⟨_,hO.ext w,c⟩
theorem Go4 (h:Ab0 214 180 W0 s p)(c: ∀t∈p,Sz k t.2)(hk:k<=100000000)(d:p.length<=1073741824):
  Aa0 Tryz.prog 82 [.agg ⟨[s.v]⟩] W0 M λ v W'=>∃(s':Sl),v=Sl.v s'/\Af3 W' s' (Gw3 p):=by
 exact(Gn3 h c hk d).mono (λ _ h=>h) λ v W' _ ⟨s',f,_,g⟩=>⟨s',f,g.Ft4⟩
theorem Gk2 (h:Ab0 214 180 W s p)(d: ∀t∈p,Sz k t.2)(hk:k<=100000000)(f:p.length<=1073741824)(g: ∀(s':Sl) (W':PW),Ext W W'->(Af3 W' s' (Gw3 p))->K (Sl.v s') W'):
  Aa1 Tryz.prog W0 M 82 [.agg ⟨[s.v]⟩] W K:=
 Mi4 (λ _ c=>Go4 (h.ext c) d hk f) fun | _,W',c,⟨s',rfl,h⟩=>g s' W' c h
theorem Gp6 {p:List (Mon×ByteArray)}(h1:Af3 W0 s p)(d:Af3 W0 t p)(n:p.length<=1099511627776):
  Aa0 Tryz.prog 81 [s.v,t.v] W0 M λ v W'=>v = .bool true/\True:=by
 apply Gg8;have o:=h1.n;have r:=d.n;refine⟨λ h=>absurd (by omega) h,λ _=>⟨λ L W=>match L with | [.val (.int .i64 i)]=>Ext W0 W/\∃j:Nat,i=(j:Int)/\j<=p.length | _=>False,λ L _=>match L with | [.val (.int .i64 i)]=>p.length-i.toNat | _=>0,⟨Ext.refl _,0,rfl,by omega⟩,?_⟩⟩;rintro i4 u ⟨c,j,rfl,w⟩;refine⟨λ x=>?_,λ y A _=>⟨rfl,trivial⟩⟩;have f:j<p.length:=by omega
 obtain⟨_,g,_,_⟩:=(h1.ext c).at (List.getElem?_eq_getElem f);obtain⟨_,l,_,_⟩:=(d.ext c).at (List.getElem?_eq_getElem f);refine⟨(h1.ext c).inB (by omega) (by omega),_,_,_,_,g,(d.ext c).inB (by omega) (by omega),_,_,_,_,l,λ h=>absurd rfl h,λ _=>⟨by unfold I64;omega,⟨c,j+1,by push_cast;rfl,by omega⟩,?_⟩⟩;show p.length-Int.toNat ((j:Int)+1)<p.length-Int.toNat (j:Int);omega
theorem Gk1 {p:List (Mon×ByteArray)}(h1:Af3 W s p)(d:Af3 W t p)(f:p.length<=1099511627776)(g: ∀(W':PW),Ext W W'->(True)->K (.bool true) W'):
  Aa1 Tryz.prog W0 M 81 [s.v,t.v] W K:=
 Mi4 (λ _ c=>Gp6 (h1.ext c) (d.ext c) f) fun | _,W',c,⟨rfl,h⟩=>g W' c h
theorem Ko0 (h1:Ab0 214 180 W0 s p)(f:Ag1 214 119 W0 t p)(c: ∀t∈p,Sz k t.2)(hk:k<=100000000)(d:p.length<=1073741824):
  Aa0 Tryz.prog 29 [.agg ⟨[s.v]⟩,t.v] W0 M λ v W'=>v = .bool true/\True:=by
 apply Kj5;exact Gk2 h1 c hk d λ s3 o g h=>⟨s3,rfl,Kb3 (f.ext g) c hk d λ i r l n=>⟨i,rfl,Gk1 (h.ext l) n (by rw[Gx1];omega) λ u _ _=>⟨true,rfl,λ w _=>⟨rfl,trivial⟩⟩⟩⟩
theorem Ki6 (h1:Ab0 214 180 W s p)(d:Ag1 214 119 W t p)(f: ∀t∈p,Sz k t.2)(hk:k<=100000000)(g:p.length<=1073741824)(i: ∀(W':PW),Ext W W'->(True)->K (.bool true) W'):
  Aa1 Tryz.prog W0 M 29 [.agg ⟨[s.v]⟩,t.v] W K:=
 Mi4 (λ _ c=>Ko0 (h1.ext c) (d.ext c) f hk g) fun | _,W',c,⟨rfl,h⟩=>i W' c h
end Go.Proofs.YtkgeopnakkcdoaaGreat
namespace Go.Proofs.YtkgeopnakkcdoaaGreat
open Go Go.SX
end Go.Proofs.YtkgeopnakkcdoaaGreat
namespace Go.Proofs.YtkgeopnakkcdoaaGreat
open Go Go.SX
variable {K:Value->PW->Prop}{L:List (Mon×ByteArray)}{M:Nat->Prop}{W W0:PW}{a b:Mon}{most:Int}{s:Sl}
def ppI (C:PW->List Value->Tm->Prop) (W0:PW) (L:List (Mon×ByteArray)) (l:List PL) (W:PW):Prop:=match l with
 | [.row xs,.val (.int .i64 i)]=>∃(j:Nat) (p:List Tm),i=(j:Int)/\j<=L.length/\Ext W0 W/\An5 (C W) xs p/\Af1 (L.take j) p
 | _=>False
theorem Fd6 (h:0<=a.cmp b):¬a.lt b:=λ c=>by
 have:=Mon.Dm2.2 c;omega
theorem Em9 (h:¬0<=a.cmp b):a.lt b:=Mon.Dm2.1 (by omega)
theorem Bx6 (h:Af3 W0 s L)(hl:L.length<=1099511627776)(Q: ∀t∈L,t.2.size<=1099511627776):
  Aa0 Tryz.prog 64 [s.v] W0 M λ v W'=>∃(s':Sl),v = .tuple ⟨[Sl.v s',.bool (Ai8 L).isSome]⟩/\Ag1 214 119 W' s' ((Ai8 L).getD []):=by
 apply Bf0;have hn:=h.n;have bad:Ai8 L=none->∀W':PW,∃s':Sl,(Value.tuple ⟨[.slice none 0 0,.bool false]⟩) = .tuple ⟨[Sl.v s',.bool (Ai8 L).isSome]⟩/\Ag1 214 119 W' s' ((Ai8 L).getD []):=λ h W'=>by
  rw[h];exact⟨⟨none,0,0⟩,rfl,Ag1.nil W'⟩
 refine⟨ppI (RT 214) W0 L,cnL L.length,⟨0,[],rfl,by omega,Ext.refl _,trivial,Af1.nil⟩,?_⟩;rintro l3 i4 W5 ⟨j,p,rfl,hj,A,n,g⟩;have ak:=n.len;have R:=g.len;rw[List.length_take] at R;refine⟨λ F=>?_,λ G S al T hO _ am H=>⟨S,?_,?_⟩⟩
 ·have c:j<L.length:=by omega
  have o:=h.ext A;have r:=o.inB (i:=(j:Int)) (by omega) (by omega);obtain⟨B,_,_,U⟩:=o.at (List.getElem?_eq_getElem c);refine⟨r,_,U,An7 (Q _ (List.getElem_mem c)) λ u w x V X d=>⟨u,w,x,_,rfl,λ I an _=>bad (Af1.bad c λ q f _=>by rw[f] at I;cases I) _,λ Y=>?_⟩⟩;obtain⟨q,f⟩: ∃q,Ab7 L[j].2=some q:=Option.isSome_iff_exists.1 (by simpa using Y);rw[f] at d;have d:Ab6 214 V u w x q:=d;refine Aq7 d.1 λ ao C _=>⟨_,rfl,λ Z ap _=>bad (Af1.bad c λ q' J D=>by rw[f] at J;cases J;exact absurd (Ds5.1 (Ds0.1 Z)) D) _,λ D=>?_⟩;have N:q≠0:=λ e=>D (Ds0.2 (Ds5.2 e));have l:=X.trans C;have O:L.length-Int.toNat ((j:Int)+1)<L.length-Int.toNat (j:Int):=by omega
  have E:=o.ext l;obtain⟨_,_,P,_⟩:=E.at (List.getElem?_eq_getElem c);refine⟨λ aa=>?_,λ aa=>⟨r,_,_,_,P,Ext.refl _,by simp;omega,Ext.refl _,by unfold I64;omega,⟨j+1,_,by push_cast;rfl,by omega,A.trans l,(n.mono λ _ _ h=>h.ext l).snoc ⟨B,u,w,x,rfl,d.ext C⟩,g.snoc c f N λ k hk=>absurd hk (by omega)⟩,O⟩⟩;have ab:(((j:Int)-1).toNat)=j-1:=by omega
  have ac:j-1<L.length:=by omega
  obtain⟨ad,_,em,_⟩:=E.at (List.getElem?_eq_getElem ac);refine⟨by unfold I64;omega,o.inB (by omega) (by omega),_,_,_,by rw[ab];exact em,r,_,_,_,P,Bx0 ad B λ aq y _=>⟨_,rfl,λ G ar _=>bad (Af1.bad c λ _ _ _=>⟨j-1,by omega,Fd6 G⟩) _,λ F=>?_⟩⟩;obtain⟨_,_,ae,_⟩:=(E.ext y).at (List.getElem?_eq_getElem c);refine⟨r,_,_,_,ae,Ext.refl _,by simp;omega,Ext.refl _,by unfold I64;omega,⟨j+1,_,by push_cast;rfl,by omega,A.trans (l.trans y),(n.mono λ _ _ h=>h.ext (l.trans y)).snoc ⟨B,u,w,x,rfl,d.ext (C.trans y)⟩,g.snoc c f N λ k hk=>?_⟩,O⟩;have:k=j-1:=by omega
  subst this;exact Em9 F
 ·have:j=L.length:=by omega
  subst this;rw[g.all];rfl
 ·have:j=L.length:=by omega
  subst this;rw[g.all];exact⟨_,(hO.ext H).row,n.mono λ _ _ h=>h.ext (T.trans H)⟩
theorem Bg5 (h:Af3 W s L)(d:L.length<=1099511627776)(f: ∀t∈L,t.2.size<=1099511627776)(g: ∀(s':Sl) (W':PW),Ext W W'->(Ag1 214 119 W' s' ((Ai8 L).getD []))->K (.tuple ⟨[Sl.v s',.bool (Ai8 L).isSome]⟩) W'):
  Aa1 Tryz.prog W0 M 64 [s.v] W K:=
 Mi4 (λ _ c=>Bx6 (h.ext c) d f) fun | _,W',c,⟨s',rfl,h⟩=>g s' W' c h
noncomputable def erP (L:List (Mon×ByteArray)):Int:=if(Ai8 L).isSome then 0 else 2
def paI (d:Nat) (W0:PW) (L:List (Mon×ByteArray)) (l:List PL) (W:PW):Prop:=match l with
 | [.val (.int .i64 i),_,.cells [.slice A n c]]=>∃(j:Nat) (xs:List (List Value)) (p:List Tm),i=(j:Int)/\j<=L.length/\Eo1 d W0 W/\Go.SX.Own W 180 6 ⟨A,n,c⟩ xs/\(∀g,(Value.slice A n c).ownBlock=some g->d<=g)/\An5 (PT 214 W) xs p/\Af1 (L.take j) p
 | _=>False
theorem Dd0 {t:TypeId}{sz:Nat}:Go.SX.Own W t sz ⟨none,0,0⟩ []:=⟨⟨by simp,by simp,.inl ⟨rfl,rfl⟩⟩,λ g c=>by simp[Sl.v,Value.ownBlock] at c⟩
theorem Cy1 (h:Af3 W0 s L)(hl:L.length<=1099511627776)(V: ∀t∈L,t.2.size<=1099511627776):
  Aa0 Tryz.prog 66 [s.v] W0 M λ v W'=>∃(s':Sl),v = .tuple ⟨[.agg ⟨[Sl.v s']⟩,.int .i64 (erP L)]⟩/\Ab0 214 180 W' s' ((Ai8 L).getD []):=by
 apply Ca9;have hn:=h.n;have bad:Ai8 L=none->∀W':PW,∃s':Sl,(Value.tuple ⟨[.agg ⟨[.slice none 0 0]⟩,.int .i64 2]⟩) = .tuple ⟨[.agg ⟨[Sl.v s']⟩,.int .i64 (erP L)]⟩/\Ab0 214 180 W' s' ((Ai8 L).getD []):=λ h W'=>by
  unfold erP;rw[h];exact⟨⟨none,0,0⟩,rfl,Ab0.nil W'⟩
 refine⟨paI W0.w.heap.size W0 L,λ l _=>match l with | [.val (.int .i64 i),_,_]=>L.length-i.toNat | _=>0,⟨0,[],[],rfl,by omega,Au9.refl _ _,Dd0,λ g d=>by simp[Value.ownBlock] at d,trivial,Af1.nil⟩,?_⟩;rintro s3 s4 i5 X ⟨j,xs,p,rfl,hj,C,hO,n,D,r⟩;have hO:Go.SX.Own X 180 6 s4 xs:=hO;have n: ∀g,s4.v.ownBlock=some g->W0.w.heap.size<=g:=n;have aw:=D.len;have Y:=r.len;rw[List.length_take] at Y;refine⟨λ u=>?_,λ H ax I=>⟨s4,?_,?_⟩⟩
 ·have f:j<L.length:=by omega
  have w:=h.new C (Nat.le_refl _);have Z:=w.inB (i:=(j:Int)) (by omega) (by omega);obtain⟨J,e1,_,_⟩:=w.at (List.getElem?_eq_getElem f);refine⟨Z,_,_,_,_,e1,As8 (V _ (List.getElem_mem f)) λ x y A ab ac o=>⟨x,y,A,_,rfl,λ N ay _=>bad (Af1.bad f λ q c _=>by rw[c] at N;exact absurd rfl N) _,λ O=>?_⟩⟩;obtain⟨q,c⟩: ∃q,Ab7 L[j].2=some q:=by
   cases c:Ab7 L[j].2 with
   | none=>rw[c] at O;exact absurd (by decide) O
   | some q=>exact⟨q,rfl⟩
  rw[c] at o;have o:Ab3 214 ab x y A q:=o;refine Bk6 o (Aw6 c).1 (by omega) λ P Q _=>⟨_,rfl,λ ad az _=>bad (Af1.bad f λ q' R E=>by rw[c] at R;cases R;exact absurd ((Be6 _ _).1 ad) E) _,λ E=>?_⟩;have ae:q≠0:=λ e=>E ((Be6 _ _).2 e);have S:=ac.trans Q;have af:L.length-Int.toNat ((j:Int)+1)<L.length-Int.toNat (j:Int):=by omega
  have ag:=w.ext S;have fin: ∀W,Ext P W->(∀k (hk:k+1=j),(L[k]'(by omega)).1.lt L[j].1)->Es7 W0 M 180 6 64 s4 [[.int .u8 L[j].1.x,.int .u8 L[j].1.y,.int .u8 L[j].1.z,x.v,.bool y,A.v]] W λ ah ai=>I64 ((j:Int)+1)/\paI W0.w.heap.size W0 L [.val (.int .i64 ((j:Int)+1)),.cells [s3.v],.cells [ah.v]] ai/\L.length-Int.toNat ((j:Int)+1)<L.length-Int.toNat (j:Int):=by
   intro W T u W' U;have B:=(S.trans T).trans U;have F:=hO.ext B;refine⟨xs,F,λ g d=>.inr (n g d),by simp;omega,λ s' aA G aj ak=>⟨by unfold I64;omega,⟨j+1,_,p ++ [(L[j].1,q)],by push_cast;rfl,by omega,(C.trans (B.toM _)).trans (G.mono λ g d=>n g d),aj,λ g d=>?_,?_,r.snoc f c ae u⟩,af⟩⟩
   ·rcases ak g d with h | h
    ·exact n g h
    ·exact Nat.le_trans (Nat.le_trans C.size B.size) h
   ·exact((D.mono λ _ _ h=>PT.own F G (by decide:214≠180) (h.ext B))).snoc ⟨J,x,y,A,rfl,Ab3.own F G (by decide:214≠180) (o.ext ((Q.trans T).trans U))⟩
  refine⟨λ al=>?_,λ al=>fin P (Ext.refl _) λ k hk=>absurd hk (by omega)⟩;have am:(((j:Int)-1).toNat)=j-1:=by omega
  have an:j-1<L.length:=by omega
  obtain⟨ao,_,em,_⟩:=ag.at (List.getElem?_eq_getElem an);refine⟨by unfold I64;omega,w.inB (by omega) (by omega),_,_,_,by rw[am];exact em,Bk9 ao J λ ap aq _=>⟨_,rfl,λ H aB _=>bad (Af1.bad f λ _ _ _=>⟨j-1,by omega,Fd6 H⟩) _,λ u=>fin ap aq λ k hk=>?_⟩⟩;have:k=j-1:=by omega
  subst this;exact Em9 u
 ·have:j=L.length:=by omega
  subst this;unfold erP;rw[r.all];rfl
 ·have:j=L.length:=by omega
  subst this;rw[r.all];exact⟨_,(hO.ext I).row,D.mono λ _ _ h=>h.ext I⟩
theorem Cc0 (h:Af3 W s L)(d:L.length<=1099511627776)(f: ∀t∈L,t.2.size<=1099511627776)(g: ∀(s':Sl) (W':PW),Ext W W'->(Ab0 214 180 W' s' ((Ai8 L).getD []))->K (.tuple ⟨[.agg ⟨[Sl.v s']⟩,.int .i64 (erP L)]⟩) W'):
  Aa1 Tryz.prog W0 M 66 [s.v] W K:=
 Mi4 (λ _ c=>Cy1 (h.ext c) d f) fun | _,W',c,⟨s',rfl,h⟩=>g s' W' c h
def Bp6 (L:List (Mon×ByteArray)) (most exp:Int):Prop:=(L.length:Int)<=most/\∀t∈L,t.2.size<=30/\t.1.x<=exp/\t.1.y<=exp/\t.1.z<=exp
theorem Db1 {exp:Int}(h:Af3 W0 s L)(E:L.length<=1099511627776):
  Aa0 Tryz.prog 65 [s.v,.int .i64 most,.int .i64 exp] W0 M λ v W'=>∃(b:Bool),v = .bool b/\(b=true↔Bp6 L most exp):=by
 apply Bz5;have F:=h.n;have bad:¬Bp6 L most exp->∃b:Bool,(Value.bool false) = .bool b/\(b=true↔Bp6 L most exp):=λ h=>⟨false,rfl,λ e=>(by cases e),λ c=>absurd c h⟩;refine⟨λ G H _=>bad λ c=>by have:=c.1;omega,λ hle=>⟨λ l W=>match l with | [.val (.int .i64 i)]=>Ext W0 W/\∃j:Nat,i=(j:Int)/\j<=L.length/\∀t∈L.take j,t.2.size<=30/\t.1.x<=exp/\t.1.y<=exp/\t.1.z<=exp | _=>False,λ l _=>match l with | [.val (.int .i64 i)]=>L.length-i.toNat | _=>0,⟨Ext.refl _,0,rfl,by omega,λ t d=>by simp at d⟩,?_⟩⟩;rintro i4 I ⟨u,j,rfl,J,o⟩;refine⟨λ N=>?_,λ O P _=>⟨true,rfl,λ _=>⟨by omega,λ t d=>?_⟩,λ _=>rfl⟩⟩
 ·have r:j<L.length:=by omega
  have w:=h.ext u;have f:=w.inB (i:=(j:Int)) (by omega) (by omega);have hm:=List.getElem_mem r;obtain⟨xs,⟨_,g⟩,y⟩:=w;obtain⟨x,n,A,rfl⟩:=y.get (List.getElem?_eq_getElem r);unfold Mon.ok at A;refine⟨f,_,g.part n 3 rfl,λ B Q _=>bad λ c=>by have:=c.2 _ hm;omega,λ B=>⟨f,⟨by omega,by omega⟩,_,g.part n 0 rfl,by unfold I64;omega,λ C R _=>bad λ c=>by have:=c.2 _ hm;omega,λ C=>⟨f,⟨by omega,by omega⟩,_,g.part n 1 rfl,by unfold I64;omega,λ D S _=>bad λ c=>by have:=c.2 _ hm;omega,λ D=>⟨f,⟨by omega,by omega⟩,_,g.part n 2 rfl,by unfold I64;omega,λ he T _=>bad λ c=>by have:=c.2 _ hm;omega,λ he=>⟨by unfold I64;omega,⟨u,j+1,by push_cast;rfl,by omega,λ t d=>?_⟩,?_⟩⟩⟩⟩⟩
  ·rw[Ce0 r] at d
   rcases List.mem_append.1 d with d | d
   ·exact o t d
   ·simp at d
    subst d;exact⟨by omega,by omega,by omega,by omega⟩
  ·show L.length-Int.toNat ((j:Int)+1)<L.length-Int.toNat (j:Int)
   omega
 ·have:j=L.length:=by omega
  subst this;rw[List.take_length] at o;exact o t d
theorem Cb1 {exp:Int}(h:Af3 W s L)(d:L.length<=1099511627776)(f: ∀(b:Bool) (W':PW),Ext W W'->((b=true↔Bp6 L most exp))->K (.bool b) W'):
  Aa1 Tryz.prog W0 M 65 [s.v,.int .i64 most,.int .i64 exp] W K:=
 Mi4 (λ _ c=>Db1 (h.ext c) d) fun | _,W',c,⟨b,rfl,h⟩=>f b W' c h
def Ff1 (L:List (Mon×ByteArray)) (exp:Int) (p:List Tm):Prop:=Af1 L p/\Bp6 L 14 exp
theorem Ee7 {exp:Int}(h:Af3 W0 s L)(c:L.length<=1099511627776)(d: ∀t∈L,t.2.size<=1099511627776):
  Aa0 Tryz.prog 22 [s.v,.int .i64 exp] W0 M λ v W'=>∃(s1:Sl),∃(s2:Sl),∃(b:Bool),v = .tuple ⟨[.agg ⟨[Sl.v s1]⟩,Sl.v s2,.bool b]⟩/\(b=true->∃p,Ff1 L exp p/\Ab0 214 180 W' s1 p/\Ag1 214 119 W' s2 p):=by
 apply Dg8;have bad: ∀W':PW,∃(s1 s2:Sl) (b:Bool),(Value.tuple ⟨[.agg ⟨[.slice none 0 0]⟩,.slice none 0 0,.bool false]⟩) = .tuple ⟨[.agg ⟨[Sl.v s1]⟩,Sl.v s2,.bool b]⟩/\(b=true->∃p,Ff1 L exp p/\Ab0 214 180 W' s1 p/\Ag1 214 119 W' s2 p):=λ W'=>⟨⟨none,0,0⟩,⟨none,0,0⟩,false,rfl,λ e=>by cases e⟩;refine Bg5 h c d λ s3 D f g=>⟨s3,_,rfl,λ _ u _=>bad u,λ w=>Cb1 (h.ext f) c λ x E i y=>⟨x,rfl,λ _ A _=>bad A,λ B=>Cc0 (h.ext (f.trans i)) c d λ l F C n=>⟨l,_,rfl,λ G o=>⟨l,s3,true,rfl,λ _=>?_⟩⟩⟩⟩;obtain⟨p,r⟩: ∃p,Ai8 L=some p:=Option.isSome_iff_exists.1 (by simpa using w);rw[r] at g n;exact⟨p,⟨Eg3 r,y.1 (by simpa using B)⟩,n.ext o,g.ext ((i.trans C).trans o)⟩
theorem Dn6 {exp:Int}(h:Af3 W s L)(d:L.length<=1099511627776)(f: ∀t∈L,t.2.size<=1099511627776)(g: ∀(s1:Sl) (s2:Sl) (b:Bool) (W':PW),Ext W W'->((b=true->∃p,Ff1 L exp p/\Ab0 214 180 W' s1 p/\Ag1 214 119 W' s2 p))->K (.tuple ⟨[.agg ⟨[Sl.v s1]⟩,Sl.v s2,.bool b]⟩) W'):
  Aa1 Tryz.prog W0 M 22 [s.v,.int .i64 exp] W K:=
 Mi4 (λ _ c=>Ee7 (h.ext c) d f) fun | _,W',c,⟨s1,s2,b,rfl,h⟩=>g s1 s2 b W' c h
theorem Ff1.len {p:List Tm}{exp:Int}(h:Ff1 L exp p):p.length<=14:=by
 have h1:=h.1.len;have c:=h.2.1;omega
end Go.Proofs.YtkgeopnakkcdoaaGreat
namespace Go.Proofs.YtkgeopnakkcdoaaGreat
open Go Go.SX
variable {K:Value->PW->Prop}{M:Nat->Prop}{W W0:PW}{b:Bool}{k:Nat}{q:Rat}{s t:Sl}{z:Int}
theorem Fu3 {i:Nat}(h:i<256):bits .and .i64 (i:Int) 1=((i%2:Nat):Int):=by
 have key: ∀i:Nat,i<256->bits .and .i64 (i:Int) 1=((i%2:Nat):Int):=by decide +kernel
 exact key i h
theorem Fp4 (i:Nat):Ah0 (i:Int) 1=((i/2:Nat):Int):=by
 unfold Ah0;rw[Int.fdiv_eq_ediv_of_nonneg _ (by decide)];omega
theorem Cf5 (h:nl z.natAbs<=k)(e:Nat):nl (z^e).natAbs<=k*e+1:=by
 induction e with
 | zero=>simp[Ax0]
 | succ e ih=>
  rw[Int.pow_succ,Int.natAbs_mul];have:=Ae5 (z^e).natAbs z.natAbs;rw[Nat.mul_add];omega
theorem Di0 {n:Nat}(h:Ab5 214 W0 s b z)(J:nl z.natAbs<=k)(hk:k<=1048576)(N:n<=255):
  Aa0 Tryz.prog 203 [.agg ⟨[s.v,.bool b]⟩,.int .i64 (n:Int)] W0 M λ v W'=>∃(s':Sl),∃(b':Bool),v = .agg ⟨[Sl.v s',.bool b']⟩/\Ab5 214 W' s' b' (z^n):=by
 apply Cg5;have O:mn (mx (n:Int) 0) 255=(n:Int):=by unfold mn mx;split<;>(try split)<;>omega
 rw[O];refine Bk1 (z:=1) (by unfold I64;omega) λ s3 P W2 w B=>⟨s3,P,rfl,?_⟩
 refine⟨λ l W=>match l with
  | [.val (.int .i64 i),.cells [.slice A m c,.bool x],.cells [.slice Q R S,.bool y]]=>∃(j e f:Nat),i=(j:Int)/\Ext W0 W/\f+e*j=n/\e<=2*n+1/\j<=255/\Ab5 214 W ⟨A,m,c⟩ x (z^f)/\Ab5 214 W ⟨Q,R,S⟩ y (z^e)
  | _=>False,λ l _=>match l with | [.val (.int .i64 i),_,_]=>i.toNat | _=>0,⟨n,1,0,rfl,w,by omega,by omega,N,by simpa using B,by rw[show z^1=z by rw[Int.pow_succ,Int.pow_zero,Int.one_mul]];exact h.ext w⟩,?_⟩
 rintro C D T U i11 E ⟨j,e,f,rfl,F,G,he,hj,o,d⟩;have o:Ab5 214 E C D (z^f):=o;have d:Ab5 214 E T U (z^e):=d;have V:e*j<=n:=by omega
 refine⟨λ ap=>?_,λ aq ar X=>⟨C,D,rfl,?_⟩⟩
 ·have Y:1<=j:=by omega
  have au:e<=n:=Nat.le_trans (Nat.le_mul_of_pos_right e Y) V;have g: ∀x,x<=511->nl (z^x).natAbs<=68719476736:=λ x Z=>by
   have h1:=Cf5 J x;have B:=Nat.mul_le_mul hk Z;omega
  have av:(e+e)*(j/2)=e*(2*(j/2)):=by rw[<-Nat.two_mul,Nat.mul_comm 2 e,Nat.mul_assoc]
  have hi:Int.toNat (Ah0 (j:Int) 1)<Int.toNat (j:Int):=by rw[Fp4];omega
  refine⟨λ aa=>?_,λ ab=>?_⟩
  ·have ho:j%2=1:=by rw[Fu3 (by omega)] at aa;omega
   have r:j=2*(j/2)+1:=by omega
   have ad:e*j=e*(2*(j/2))+e:=by conv=>lhs;rw[r,Nat.mul_add,Nat.mul_one]
   refine Ak0 o d (g f (by omega)) (g e (by omega)) λ ae af aw u ag=>⟨ae,af,rfl,Ak0 (d.ext u) (d.ext u) (g e (by omega)) (g e (by omega)) λ ah ai ax H aj=>⟨ah,ai,rfl,⟨j/2,e+e,f+e,by rw[Fp4],F.trans (u.trans H),by omega,by omega,by omega,?_,?_⟩,hi⟩⟩
   ·rw[Int.pow_add];exact ag.ext H
   ·rw[Int.pow_add];exact aj
  ·have ho:j%2=0:=by
    rw[Fu3 (by omega)] at ab;omega
   have r:j=2*(j/2):=by omega
   have ad:e*j=e*(2*(j/2)):=by conv=>lhs;rw[r]
   refine Ak0 d d (g e (by omega)) (g e (by omega)) λ ak al ay I am=>⟨ak,al,rfl,⟨j/2,e+e,f,by rw[Fp4],F.trans I,by omega,by omega,by omega,o.ext I,?_⟩,hi⟩;rw[Int.pow_add];exact am
 ·have:j=0:=by omega
  subst this;rw[Nat.mul_zero,Nat.add_zero] at G;rw[<-G];exact o.ext X
theorem Bd6 {n:Nat}(h:Ab5 214 W s b z)(d:nl z.natAbs<=k)(hk:k<=1048576)(f:n<=255)(g: ∀(s':Sl) (b':Bool) (W':PW),Ext W W'->(Ab5 214 W' s' b' (z^n))->K (.agg ⟨[Sl.v s',.bool b']⟩) W'):
  Aa1 Tryz.prog W0 M 203 [.agg ⟨[s.v,.bool b]⟩,.int .i64 (n:Int)] W K:=
 Mi4 (λ _ c=>Di0 (h.ext c) d hk f) fun | _,W',c,⟨s',b',rfl,h⟩=>g s' b' W' c h
theorem Eo3 (q:Rat)(n:Nat):dn (q^n)=if dn q=0\/n=0 then 0 else q.den^n:=by
 unfold dn;rw[Rat.den_pow]
 by_cases h1:q.den=1
 ·simp[h1]
 ·by_cases c:n=0
  ·subst c;simp
  ·have:q.den^n≠1:=by
    have f:=q.den_nz;obtain⟨m,rfl⟩: ∃m,n=m+1:=⟨n-1,by omega⟩;rw[Nat.pow_succ];have:1<=q.den^m:=Nat.pow_pos (by omega);have:=Nat.mul_le_mul this (show 2<=q.den by omega);omega
   have d:q.den≠0:=q.den_nz;simp[h1,c,this,d]
theorem Er1 {n:Nat}(h:Ab3 214 W0 s b t q)(c:Sz k q)(hk:k<=1048576)(l:n<=255):
  Aa0 Tryz.prog 180 [.agg ⟨[s.v,.bool b,t.v]⟩,.int .i64 (n:Int)] W0 M λ v W'=>∃(s':Sl),∃(b':Bool),∃(o:Sl),v = .agg ⟨[Sl.v s',.bool b',Sl.v o]⟩/\Ab3 214 W' s' b' o (q^n):=by
 apply Dk0;have S:=c.dn;refine Bd6 h.1 c.1 hk l λ s3 d T r g=>⟨s3,d,rfl,Ac9 (h.2.ext r) (by omega) λ U f _=>⟨_,rfl,λ i=>⟨λ A=>?_,λ A B C=>⟨s3,d,⟨none,0,0⟩,rfl,(g.ext f).ext C,?_⟩⟩,λ i D E=>⟨s3,d,⟨none,0,0⟩,rfl,(g.ext f).ext E,?_⟩⟩⟩
 ·refine Bc0 (h.ext (r.trans f)) c (by omega) λ F G V H I=>⟨F,G,rfl,Bd6 I (by rw[Int.natAbs_natCast];exact c.2) hk l λ J N X O P=>⟨J,N,rfl,Ag5 P λ u Y Q w=>⟨u,rfl,λ Z y=>⟨s3,d,u,rfl,(g.ext (f.trans (H.trans (O.trans Q)))).ext y,?_⟩⟩⟩⟩
  have aa:dn q≠0:=λ e=>by
   rw[e] at i;simp[Aj9] at i
  have e:dn (q^n)=q.den^n:=by rw[Eo3,if_neg (by omega)]
  rw[e];have R:((q.den:Int)^n).natAbs=q.den^n:=by rw[Int.natAbs_pow,Int.natAbs_natCast]
  rw[R] at w;exact w.ext y
 ·have:n=0:=by omega
  rw[Eo3,if_pos (.inr this)];exact Ao9 B
 ·have:dn q=0:=(Ag3 (x:=dn q)).1 (by omega)
  rw[Eo3,if_pos (.inl this)];exact Ao9 D
theorem Bq4 {n:Nat}(h:Ab3 214 W s b t q)(f:Sz k q)(hk:k<=1048576)(g:n<=255)(i: ∀(s':Sl) (b':Bool) (c:Sl) (W':PW),Ext W W'->(Ab3 214 W' s' b' c (q^n))->K (.agg ⟨[Sl.v s',.bool b',Sl.v c]⟩) W'):
  Aa1 Tryz.prog W0 M 180 [.agg ⟨[s.v,.bool b,t.v]⟩,.int .i64 (n:Int)] W K:=
 Mi4 (λ _ d=>Er1 (h.ext d) f hk g) fun | _,W',d,⟨s',b',c,rfl,h⟩=>i s' b' c W' d h
end Go.Proofs.YtkgeopnakkcdoaaGreat
namespace Go.Proofs.YtkgeopnakkcdoaaGreat
open Go Go.SX
theorem Gq6 {m:Mon}(h:m.ok)(i:Nat):(An6 m i).toNat<=255:=by
 have:=Dg9 h i;omega
end Go.Proofs.YtkgeopnakkcdoaaGreat
namespace Go.Proofs.YtkgeopnakkcdoaaGreat
open Go Go.SX
theorem Gs8 {z:Int}(c:0<=z)(h:z<=255):Sz 1 (z:Rat):=
 (Ak3.int z).sz (by decide) (by rw[Ax0];omega) (Bc6 (Nat.lt_of_le_of_lt (show _<=255 by omega) (by decide:255<B^1)))
end Go.Proofs.YtkgeopnakkcdoaaGreat
namespace Go.Proofs.YtkgeopnakkcdoaaGreat
open Go Go.SX
variable {L:List (Mon×ByteArray)}{e:Int}{p q:List Tm}
theorem Bp6.exp {most:Int}(h:Bp6 L most e)(c:Af1 L p): ∀t∈p,t.1.x<=e/\t.1.y<=e/\t.1.z<=e:=λ t d=>by
 obtain⟨u,hu,h1,_⟩:=Fa5 c.1 d;have:=(h.2 u hu).2;rw[h1];exact this
def Gk4 (e:Int) (p:List Tm):Prop:=∀t∈p,t.1.ok/\t.1.x<=e/\t.1.y<=e/\t.1.z<=e
theorem Ff1.exp (h:Ff1 L e p)(d:POk p):Gk4 e p:=λ t c=>⟨d t c,h.2.exp h.1 t c⟩
theorem Gk4.norm (h:Gk4 e p):Gk4 e (Ag2 p):=λ t c=>by
 obtain⟨u,hu,h1⟩:=Gu2 c;rw[h1];exact h u hu
theorem Gk4.append (h:Gk4 e p)(k:Gk4 e q):Gk4 e (p ++ q):=λ t c=>by
 rcases List.mem_append.1 c with c | c
 ·exact h t c
 ·exact k t c
theorem Gx3 {f:Int}(h:Gk4 e p)(k:Gk4 f q)(g:e+f<=255):Ct4 p q:=λ a c b d=>by
 have h1:=h a c;have i:=k b d;unfold Mon.ok at *;unfold Mon.add;dsimp only;omega
theorem Gn4 (h:Ct4 p q):Fm8 p q=Ag2 (An8 p q):=by unfold Fm8;rw[if_pos h]
end Go.Proofs.YtkgeopnakkcdoaaGreat
