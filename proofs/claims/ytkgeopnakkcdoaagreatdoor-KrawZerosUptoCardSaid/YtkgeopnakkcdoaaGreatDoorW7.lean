import Derived.Test.YtkgeopnakkcdoaaGreatDoorW6
import Derived.Test.YtkgeopnakkcdoaaGreatDoorR6
import Derived.Shelf.Spec.SlicesGrow
import Derived.Shelf.SlGeneric
import Derived.Test.YtkgeopnakkcdoaaGreatDoorProg
import Derived.Test.YtkgeopnakkcdoaaGreatDoorLib4
set_option linter.unusedVariables false
set_option linter.unusedSimpArgs false
set_option maxRecDepth 100000
namespace Go.Proofs.YtkgeopnakkcdoaaGreatDoor
open Go Go.SX
variable {K:Value->PW->Prop}{M:Nat->Prop}{W W0:PW}{b:Bool}{i:Int}{k:Nat}{l:List Tm}{q:Rat}{s t:Sl}{xs:List (List Value)}
theorem Fc3 {x:Nat}(h:x≠0):1<=nl x:=by
 have:nl x≠0:=λ e=>h (Ad0.1 e);omega
theorem As0 {α:Type}{j:Nat}{l:List α}(h:j<l.length):l.take (j+1)=l.take j ++ [l[j]]:=by
 rw[List.take_add_one,List.getElem?_eq_getElem h];rfl
theorem Dd5 (h:Ab0 257 169 W0 s l)(I:Bd k l)(hk:k<=536870912)(hl:l.length<=1073741824):
  Aa0 Tryz.prog 100 [s.v] W0 M λ v W'=>∃(s':Sl),v = .agg ⟨[Sl.v s']⟩/\Aq4 W0 s'/\Ch2 257 169 W' s' (Ag2 l):=by
 apply Da9;intro g W2 A _ J O P;obtain⟨D,N,hF,e,f,u⟩:=I;have Q:1<=k:=Nat.le_trans (Fc3 e) f
 refine⟨λ L W=>match L with
  | [.val (.int .i64 i)]=>∃j:Nat,i=(j:Int)/\j<=l.length/\W0.w.heap.size<=W.w.heap.size/\Ab0 257 169 W s l/\∃es c E a b,Ai4 257 W g es c E/\Dp6 D (l.take j) a E/\Fit D b (l.drop j)/\a+b<=N
  | _=>False,λ L _=>match L with | [.val (.int .i64 i)]=>l.length-i.toNat | _=>0,⟨0,rfl,by omega,A.size,h.ext A,#[],0,[],0,N,Ai4.new O P,Dp6.nil D,hF,by omega⟩,?_⟩
 rintro i5 W6 ⟨j,rfl,hj,B,o,es,c,E,a,b,C,d,F,ai⟩;have hn:=o.n;refine⟨λ ak=>?_,λ al=>?_⟩
 ·have w:j<l.length:=by omega
  obtain⟨R,s1,b1,s2,he,_,_,S⟩:=o.at (List.getElem?_eq_getElem w);rw[List.drop_eq_getElem_cons w] at F;obtain⟨n,k',am,G,x⟩:=F;refine⟨o.inB (by omega) (by omega),_,_,_,s1,b1,s2,he,Bj5 (k:=k) C R S (λ t y=>((d.fit.mem y).mono (by omega:a<=N)).sz e f u) ((G.mono (by omega:n<=N)).sz e f u) (by omega) Q (.inr J) λ W' an T U E' z H V X Y=>⟨rfl,by unfold I64;omega,⟨j+1,by push_cast;rfl,by omega,Nat.le_trans B (Nat.le_trans z.size H.size),(o.ext z).map H V.heap,T,U,E',a+n,k',X,?_,x,by omega⟩,?_⟩⟩
  ·rw[As0 w]
   exact d.add Y G
  ·show l.length-Int.toNat ((j:Int)+1)<l.length-Int.toNat (j:Int)
   omega
 ·have Z:j=l.length:=by omega
  subst Z;rw[List.take_length] at d;have hlen:=d.len;exact Ba0 (k:=k) C (λ t y=>((d.fit.mem y).mono (by omega:a<=N)).sz e f u) (by omega) (by omega) λ s' W' z x aa=>⟨s',rfl,λ ao ab=>⟨s',rfl,λ g' ad=>Nat.le_trans B (x g' ad),by rw[<-d.norm];exact aa.ext ab⟩⟩
theorem Dt6 (h:Ab0 257 169 W0 s l)(c:Bd k l)(hk:k<=536870912)(d:l.length<=1073741824):
  Aa0 Tryz.prog 100 [s.v] W0 M λ v W'=>∃(s':Sl),v = .agg ⟨[Sl.v s']⟩/\Ab0 257 169 W' s' (Ag2 l):=by
 exact(Dd5 h c hk d).mono (λ _ h=>h) λ v W' _ ⟨s',e,_,f⟩=>⟨s',e,f.Ft4⟩
theorem An2 (h:Ab0 257 169 W s l)(d:Bd k l)(hk:k<=536870912)(e:l.length<=1073741824)(f: ∀(s':Sl) (W':PW),Ext W W'->(Ab0 257 169 W' s' (Ag2 l))->K (.agg ⟨[Sl.v s']⟩) W'):
  Aa1 Tryz.prog W0 M 100 [s.v] W K:=
 Mi4 (λ _ c=>Dt6 (h.ext c) d hk e) fun | _,W',c,⟨s',rfl,h⟩=>f s' W' c h
theorem Bf5 {p:List Tm}(h:Row W 169 6 s xs)(c:An5 (PT 257 W) xs p):Ab0 257 169 W s p:=⟨xs,h,c⟩
theorem Dz6 (h:Row W0 169 6 s xs)(n:xs.length<=1099511627776):
  Aa0 Tryz.prog 180 [s.v] W0 M λ v W'=>∃(s':Sl),v=Sl.v s'/\Aq4 W0 s'/\Go.SX.Own W' 169 6 s' xs:=by
 apply Ai9;refine⟨λ d o u=>?_,λ d=>⟨xs,⟨_,h⟩,by omega,λ s3 w x hO e y f=>⟨s3,rfl,λ g c=>(e g c).1,by rw[List.nil_append] at hO;exact hO.ext f⟩⟩⟩;have:xs = []:=Classical.byContradiction λ j=>by
  have:=h.some j;rw[d] at this;cases this
 subst this;exact⟨⟨none,0,0⟩,rfl,λ g c=>by simp[Sl.v,Value.ownBlock] at c,⟨by simp,rfl,.inl ⟨rfl,rfl⟩⟩,λ g c=>by simp[Sl.v,Value.ownBlock] at c⟩
theorem Cv0 (h:Row W 169 6 s xs)(d:xs.length<=1099511627776)(e: ∀(s':Sl) (W':PW),Ext W W'->(Aq4 W s'/\Go.SX.Own W' 169 6 s' xs)->K (Sl.v s') W'):
  Aa1 Tryz.prog W0 M 180 [s.v] W K:=
 Aa2 (λ W' c=>Dz6 (h.ext c) d) fun | W',_,f,c,g,⟨s',rfl,j,h⟩=>e s' f (c.trans g) ⟨j.back c,h⟩
theorem Cv7 (h:Row W0 169 6 s xs)(c:xs.length<=1099511627776):
  Aa0 Tryz.prog 103 [.agg ⟨[s.v]⟩] W0 M λ v W'=>∃(s':Sl),v=Sl.v s'/\Aq4 W0 s'/\Go.SX.Own W' 169 6 s' xs:=by
 apply Bc4;exact Cv0 h c λ s' f g ⟨d,hO⟩=>⟨s',rfl,λ j e=>⟨s',rfl,d,hO.ext e⟩⟩
theorem Ba1 (h:Row W 169 6 s xs)(d:xs.length<=1099511627776)(e: ∀(s':Sl) (W':PW),Ext W W'->(Aq4 W s'/\Go.SX.Own W' 169 6 s' xs)->K (Sl.v s') W'):
  Aa1 Tryz.prog W0 M 103 [.agg ⟨[s.v]⟩] W K:=
 Aa2 (λ W' c=>Cv7 (h.ext c) d) fun | W',_,f,c,g,⟨s',rfl,j,h⟩=>e s' f (c.trans g) ⟨j.back c,h⟩
theorem Cq4 {m:Mon}(h:Sz k q):Bd (k+3) [(m,q)]:=by
 have:=Bd.Co7 (k:=k) (l:=[(m,q)]) (by intro t c;simp at c;subst c;exact h);exact this.mono (by simp)
theorem Go5 (h:Ab3 257 W0 s b t q)(c:Sz k q)(hk:k<=268435456):
  Aa0 Tryz.prog 33 [.agg ⟨[s.v,.bool b,t.v]⟩] W0 M λ v W'=>∃(s':Sl),v = .agg ⟨[Sl.v s']⟩/\Ab0 257 169 W' s' (Ag2 [(⟨0,0,0⟩,q)]):=by
 apply Gk3;intro s1 g d hO _;exact An2 (Bf5 (p:=[(⟨0,0,0⟩,q)]) hO.row ⟨⟨(by decide:(⟨0,0,0⟩:Mon).ok),s,b,t,rfl,h.ext d⟩,trivial⟩) (Cq4 c) (by omega) (by simp) λ s' j n e=>⟨s',rfl,λ o f=>⟨s',rfl,e.ext f⟩⟩
theorem Gf5 (h:Ab3 257 W s b t q)(d:Sz k q)(hk:k<=268435456)(e: ∀(s':Sl) (W':PW),Ext W W'->(Ab0 257 169 W' s' (Ag2 [(⟨0,0,0⟩,q)]))->K (.agg ⟨[Sl.v s']⟩) W'):
  Aa1 Tryz.prog W0 M 33 [.agg ⟨[s.v,.bool b,t.v]⟩] W K:=
 Mi4 (λ _ c=>Go5 (h.ext c) d hk) fun | _,W',c,⟨s',rfl,h⟩=>e s' W' c h
def Da3 (i:Nat):Mon:=if i=0 then⟨1,0,0⟩ else if i=1 then⟨0,1,0⟩ else⟨0,0,1⟩
def Dc6 (i:Int):List Tm:=if 0<=i/\i<3 then[(Da3 i.toNat,1)] else[]
theorem Br8 (m:Mon):Ag2 [(m,(1:Rat))] = [(m,1)]:=by
 have:(1:Rat)≠0:=by decide
 simp[Ag2,Bg6,this]
theorem Dy3:
  Aa0 Tryz.prog 37 [.int .i64 i] W0 M λ v W'=>∃(s':Sl),v = .agg ⟨[Sl.v s']⟩/\Ab0 257 169 W' s' (Dc6 i):=by
 apply Ct2;refine⟨λ h E F=>⟨⟨none,0,0⟩,rfl,?_⟩,λ h=>⟨λ G H F=>⟨⟨none,0,0⟩,rfl,?_⟩,λ G=>⟨⟨by omega,by omega⟩,by omega,⟨⟨trivial,λ e=>?_⟩,λ e=>?_⟩,λ e=>?_⟩⟩⟩
 ·unfold Dc6;rw[if_neg (by omega)];exact Ab0.nil E
 ·unfold Dc6;rw[if_neg (by omega)];exact Ab0.nil H
 ·have g:Dc6 i=Ag2 [(Da3 0,1)]:=by unfold Dc6;rw[if_pos (by omega),Br8,e]
  rw[g];refine Ay8 (z:=1) (by unfold I64;omega) λ c d f w x j=>⟨c,d,f,rfl,λ y A n hO _=>?_⟩;exact An2 (Bf5 (p:=[(Da3 0,1)]) hO.row ⟨⟨by decide,c,d,f,rfl,j.ext n⟩,trivial⟩) (Cq4 (Sz.one (Nat.le_refl 1))) (by omega) (by simp) λ s' B C o=>⟨s',rfl,λ D u=>⟨s',rfl,o.ext u⟩⟩
 ·have g:Dc6 i=Ag2 [(Da3 1,1)]:=by unfold Dc6;rw[if_pos (by omega),Br8,e]
  rw[g];refine Ay8 (z:=1) (by unfold I64;omega) λ c d f w x j=>⟨c,d,f,rfl,λ y A n hO _=>?_⟩;exact An2 (Bf5 (p:=[(Da3 1,1)]) hO.row ⟨⟨by decide,c,d,f,rfl,j.ext n⟩,trivial⟩) (Cq4 (Sz.one (Nat.le_refl 1))) (by omega) (by simp) λ s' B C o=>⟨s',rfl,λ D u=>⟨s',rfl,o.ext u⟩⟩
 ·have g:Dc6 i=Ag2 [(Da3 2,1)]:=by unfold Dc6;rw[if_pos (by omega),Br8,e]
  rw[g];refine Ay8 (z:=1) (by unfold I64;omega) λ c d f w x j=>⟨c,d,f,rfl,λ y A n hO _=>?_⟩;exact An2 (Bf5 (p:=[(Da3 2,1)]) hO.row ⟨⟨by decide,c,d,f,rfl,j.ext n⟩,trivial⟩) (Cq4 (Sz.one (Nat.le_refl 1))) (by omega) (by simp) λ s' B C o=>⟨s',rfl,λ D u=>⟨s',rfl,o.ext u⟩⟩
theorem Cr4 (d: ∀(s':Sl) (W':PW),Ext W W'->(Ab0 257 169 W' s' (Dc6 i))->K (.agg ⟨[Sl.v s']⟩) W'):
  Aa1 Tryz.prog W0 M 37 [.int .i64 i] W K:=
 Mi4 (λ _ c=>Dy3 ) fun | _,W',c,⟨s',rfl,h⟩=>d s' W' c h
end Go.Proofs.YtkgeopnakkcdoaaGreatDoor
namespace Go.Proofs.YtkgeopnakkcdoaaGreatDoor
open Go Go.Shelf Go.Proofs
def Ay0:Go.Shelf.Ren:=⟨fun | 4=>179 | n=>n,fun | 22=>65 | 25=>169 | 3=>3 | 4=>4 | 9=>9 | 20=>20 | 0=>0 | n=>n,fun | n=>n⟩
theorem Fd7:Go.Proofs.Lays8.n4 Tryz.prog Ay0 where
 mixed:=by kernel_rfl
 f4:=⟨ "slices.Grow[[]cincture/poly.Term,cincture/poly.Term]",by decide,Tryz.func179.trans (congrArg some (by kernel_rfl))⟩
 t0:=Tryz.underlying0
 a0:=Tryz.isAgg0
 z0:=Tryz.sizeOf0
 v0:=Tryz.zeroValue0
 t3:=Tryz.underlying3
 a3:=Tryz.isAgg3
 z3:=Tryz.sizeOf3
 v3:=Tryz.zeroValue3
 t4:=Tryz.underlying4
 a4:=Tryz.isAgg4
 z4:=Tryz.sizeOf4
 v4:=Tryz.zeroValue4
 t9:=Tryz.underlying9
 a9:=Tryz.isAgg9
 z9:=Tryz.sizeOf9
 v9:=Tryz.zeroValue9
 t20:=Tryz.underlying20
 a20:=Tryz.isAgg20
 z20:=Tryz.sizeOf20
 v20:=Tryz.zeroValue20
 t22:=Tryz.underlying65
 a22:=Tryz.isAgg65
 z22:=Tryz.sizeOf65
 v22:=Tryz.zeroValue65
end Go.Proofs.YtkgeopnakkcdoaaGreatDoor
namespace Go.Proofs.YtkgeopnakkcdoaaGreatDoor
open Go Go.SX
theorem Es1 {W0:PW}{M:Nat->Prop}{n:Nat}(E:n<=1099511627776):
  Aa0 Tryz.prog 179 [.slice none 0 0,.int .i64 (n:Int)] W0 M λ v W'=>∃s:Sl,v=s.v/\Aq4 W0 s/\Go.SX.Own W' 169 6 s []:=by
 refine⟨⟨_,Tryz.func179,by kernel_rfl,by kernel_rfl⟩,λ f=>?_⟩
 by_cases j:n=0
 ·subst j
  have h:=Proofs.Any8.slices_Grow_room Fd7 none 0 0 0 W0.w (Nat.le_refl _) (by omega) (by omega) (by omega)
  change Calls Tryz.prog 179 _ _ _ at h
  refine Calls.mono h ?_;rintro e w' ⟨rfl,rfl⟩;exact⟨_,rfl,Am7.refl _ _,⟨none,0,0⟩,rfl,λ g c=>by simp[Sl.v,Value.ownBlock] at c,⟨by simp,rfl,.inl ⟨rfl,rfl⟩⟩,λ g c=>by simp[Sl.v,Value.ownBlock] at c⟩
 ·obtain⟨⟨inf,o,u,w,x⟩,_,_,F,_⟩:=Mm3
  have H:inf.size=6:=u;have y:inf.bytes=64:=w;have h:=Proofs.Any8.slices_Grow_grow Fd7 inf Mr0.zv o x (by omega) none 0 0 n [] W0.w (Nat.le_refl _) (by omega) (by rw[y];omega) (by omega) (by simp) (λ _=>rfl) (λ a z=>by cases z);have A:=grownCap_ge W0.w (0+n) 0 (Ay0.t 25);have d:=grownCap_le_maxLen W0.w (0+n) 0 (Ay0.t 25) (by simp only[maxLen];omega);obtain⟨G,B⟩: ∃G,G=grownCap W0.w (0+n) 0 (Ay0.t 25):=⟨_,rfl⟩;rw[<-B] at h A d
  change Calls Tryz.prog 179 _ _ _ at h
  refine Calls.mono h ?_;rintro e w' ⟨rfl,rfl⟩;refine⟨_,rfl,(Am7.alloc M W0.w.drew _).Fr9,⟨some ⟨W0.w.heap.size,0,none⟩,0,G⟩,rfl,λ g c=>?_,⟨by simp,rfl,.inr ⟨W0.w.heap.size,G,_,rfl,Nat.zero_le _,heap_alloc_new W0.w.drew _,Nat.zero_le _,d,?_,?_⟩⟩,λ g c C=>?_⟩
  ·simp[Sl.v,Value.ownBlock] at c
   omega
  ·have D:Mr0.zv.cells.size=6:=rfl
   simp only[Array.size_append,size_zeroCells,D];simp;omega
  ·simp
  ·simp[Sl.v,Value.ownBlock] at c
   have:=f g C;omega
end Go.Proofs.YtkgeopnakkcdoaaGreatDoor
namespace Go.Proofs.YtkgeopnakkcdoaaGreatDoor
open Go Go.SX
variable {K:Value->PW->Prop}{M:Nat->Prop}{W W0:PW}{b:Bool}{k l:Nat}{p q:List Tm}{r:Rat}{s sp sq:Sl}{ts:TypeId}
theorem Ep0 {t:TypeId}(h:Row W t 1 s [[sp.v],[sq.v]])(hk:k<2):Aa7 W s 1 k 0 [(if k=0 then sp else sq).v]:=by
 rcases(by omega:k=0\/k=1) with rfl | rfl
 ·exact h.part (x:=[sp.v]) rfl 0 rfl
 ·exact h.part (x:=[sq.v]) rfl 0 rfl
def Fw4 (n0:Nat) (W0:PW) (p q:List Tm) (l:List PL) (W:PW):Prop:=match l with
 | [.val (.slice A n c),.val (.int .i64 i)]=>∃(k:Nat) (xs:List (List Value)),i=(k:Int)/\k<=2/\Eo1 n0 W0 W/\Go.SX.Own W 169 6 ⟨A,n,c⟩ xs/\(∀g,(Value.slice A n c).ownBlock=some g->n0<=g)/\An5 (PT 257 W) xs (if k=0 then[] else if k=1 then p else p ++ q)
 | _=>False
theorem Dh9 (o:Row W0 ts 1 s [[sp.v],[sq.v]])(h1:Ab0 257 169 W0 sp p)(B:Ab0 257 169 W0 sq q)(Z:p.length<=1073741824)(hq:q.length<=1073741824):
  Aa0 Tryz.prog 102 [s.v] W0 M λ v W'=>∃(s':Sl),v=Sl.v s'/\Ab0 257 169 W' s' (p ++ q):=by
 apply Ai2;have hn:s.n=2:=o.1;have n1:=h1.n;have n2:=B.n
 refine⟨λ l W=>match l with
  | [.val (.int .i64 a),.val (.int .i64 i)]=>W=W0/\∃k:Nat,i=(k:Int)/\k<=2/\a=(((if 0<k then p.length else 0)+(if 1<k then q.length else 0):Nat):Int)
  | _=>False,λ l _=>match l with | [_,.val (.int .i64 i)]=>2-i.toNat | _=>0,⟨rfl,0,rfl,by omega,by simp⟩,?_⟩
 rintro i3 i4 w ⟨rfl,k,rfl,hk,rfl⟩;refine⟨λ J=>?_,λ N=>?_⟩
 ·have c:k<2:=by omega
  have C:(if k=0 then sp else sq).n=if k=0 then p.length else q.length:=by split<;>assumption
  refine⟨o.inB (by omega) (by simp;omega),_,Ep0 o c,?_,λ h=>?_,λ h=>⟨by unfold I64;omega,⟨rfl,k+1,by push_cast;rfl,by omega,?_⟩,?_⟩⟩
  ·show I64 (_+(((if k=0 then sp else sq).n:Nat):Int))
   rw[C];unfold I64
   repeat' split
   all_goals omega
  ·have h:(_:Int)+(((if k=0 then sp else sq).n:Nat):Int)<0:=h
   omega
  ·show _+(((if k=0 then sp else sq).n:Nat):Int)=_
   rw[C];rcases(by omega:k=0\/k=1) with rfl | rfl<;>simp
  ·show 2-Int.toNat ((k:Int)+1)<2-Int.toNat (k:Int)
   omega
 have c:k=2:=by omega
 subst c;have O:(if 0<2 then p.length else 0)+(if 1<2 then q.length else 0)=p.length+q.length:=by simp
 rw[O];refine Aa2 (λ W' x=>Es1 (M:=λ _=>False) (by omega)) λ W' v W8 x P Q=>?_;obtain⟨R,rfl,S,hO⟩:=Q;have T:=x.trans P;refine⟨R,rfl,Fw4 w.w.heap.size w p q,λ l _=>match l with | [_,.val (.int .i64 i)]=>2-i.toNat | _=>0,⟨0,[],rfl,by omega,T.toM _,hO,λ g d=>Nat.le_trans x.size (S g d),trivial⟩,?_⟩;rintro y i13 u ⟨k,xs,rfl,hk,j,f,n,z⟩;have f:Go.SX.Own u 169 6 y xs:=f;have n: ∀g,y.v.ownBlock=some g->w.w.heap.size<=g:=n;refine⟨λ J=>?_,λ N af D=>⟨y,rfl,?_⟩⟩
 ·have c:k<2:=by omega
  have E:=o.new j (Nat.le_refl _);obtain⟨F,r1,a1⟩:=h1.new j (Nat.le_refl _);obtain⟨G,r2,a2⟩:=B.new j (Nat.le_refl _);have U:Row u 169 6 (if k=0 then sp else sq) (if k=0 then F else G):=by split<;>assumption
  have H:An5 (PT 257 u) (if k=0 then F else G) (if k=0 then p else q):=by split<;>assumption
  have l1:=z.len;have V:=H.len;refine⟨E.inB (by omega) (by simp;omega),_,Ep0 E c,_,⟨_,U⟩,λ W' e=>⟨xs,f.ext e,λ g d=>.inr (n g d),?_,λ s' ai A X Y=>⟨by unfold I64;omega,⟨k+1,_,by push_cast;rfl,by omega,(j.trans (e.toM _)).trans (A.mono λ g d=>n g d),X,λ g d=>?_,?_⟩,?_⟩⟩⟩
  ·rw[l1,V]
   rcases(by omega:k=0\/k=1) with rfl | rfl
   ·simp;omega
   ·simp;omega
  ·rcases Y g d with h | h
   ·exact n g h
   ·exact Nat.le_trans (Nat.le_trans j.size e.size) h
  ·have b1:=z.mono λ _ _ h=>PT.own (f.ext e) A (by decide:257≠169) (h.ext e)
   have b2:=H.mono λ _ _ h=>PT.own (f.ext e) A (by decide:257≠169) (h.ext e);have I:=b1.append b2;rcases(by omega:k=0\/k=1) with rfl | rfl
   ·simpa using I
   ·simpa using I
  ·show 2-Int.toNat ((k:Int)+1)<2-Int.toNat (k:Int)
   omega
 ·have c:k=2:=by omega
  subst c;exact⟨xs,(f.ext D).row,(by simpa using z:An5 (PT 257 u) xs (p ++ q)).mono λ _ _ h=>h.ext D⟩
theorem Cn3 (d:Row W ts 1 s [[sp.v],[sq.v]])(h1:Ab0 257 169 W sp p)(e:Ab0 257 169 W sq q)(f:p.length<=1073741824)(g:q.length<=1073741824)(j: ∀(s':Sl) (W':PW),Ext W W'->(Ab0 257 169 W' s' (p ++ q))->K (Sl.v s') W'):
  Aa1 Tryz.prog W0 M 102 [s.v] W K:=
 Mi4 (λ _ c=>Dh9 (d.ext c) (h1.ext c) (e.ext c) f g) fun | _,W',c,⟨s',rfl,h⟩=>j s' W' c h
theorem Dz0 (h1:Ab0 257 169 W0 sp p)(e:Ab0 257 169 W0 sq q)(b1:Bd k p)(b2:Bd k q)(hk:k<=134217728)(c:p.length<=536870912)(j:q.length<=536870912):
  Aa0 Tryz.prog 35 [.agg ⟨[sp.v]⟩,.agg ⟨[sq.v]⟩] W0 M λ v W'=>∃(s':Sl),v = .agg ⟨[Sl.v s']⟩/\Ab0 257 169 W' s' (Ag2 (p ++ q)):=by
 apply Cw7;intro s1 n d hO _;refine Cn3 hO.row (h1.ext d) (e.ext d) (by omega) (by omega) λ f o u g=>⟨f,rfl,?_⟩;exact An2 g (b1.append b2) (by omega) (by simp;omega) λ s' w x c=>⟨s',rfl,λ y h=>⟨s',rfl,c.ext h⟩⟩
theorem Cw8 (h1:Ab0 257 169 W sp p)(d:Ab0 257 169 W sq q)(b1:Bd k p)(b2:Bd k q)(hk:k<=134217728)(e:p.length<=536870912)(f:q.length<=536870912)(g: ∀(s':Sl) (W':PW),Ext W W'->(Ab0 257 169 W' s' (Ag2 (p ++ q)))->K (.agg ⟨[Sl.v s']⟩) W'):
  Aa1 Tryz.prog W0 M 35 [.agg ⟨[sp.v]⟩,.agg ⟨[sq.v]⟩] W K:=
 Mi4 (λ _ c=>Dz0 (h1.ext c) (d.ext c) b1 b2 hk e f) fun | _,W',c,⟨s',rfl,h⟩=>g s' W' c h
def pmap (p:List Tm) (r:Rat):List Tm:=p.map λ t=>(t.1,t.2*r)
theorem Fit.pmap {D:Nat}{E:Nat}{N:Nat}{n:Nat}(h:Fit D N p)(c:Ak3 E n r):Fit (D*E) (N*n) (pmap p r):=by
 induction p generalizing N with
 | nil=>trivial
 | cons t p ih=>
  obtain⟨a,b,h1,d,e⟩:=h;exact⟨a*n,b*n,by rw[<-Nat.add_mul];exact Nat.mul_le_mul_right _ h1,d.mul c,ih e⟩
theorem Bd.pmap (h:Bd k p)(c:Sz l r):Bd (k+l) (pmap p r):=by
 obtain⟨D,N,h1,d,e,f⟩:=h;have g:=Ae5 D r.den;have j:=Ae5 N r.num.natAbs;have n:=c.1;have o:=c.2;exact⟨D*r.den,N*r.num.natAbs,Fit.pmap h1 (Ak3.den r),Nat.mul_ne_zero d r.den_nz,by omega,by omega⟩
theorem Cs2 {t:Sl}(h1:Ab0 257 169 W0 sp p)(I:Ab3 257 W0 s b t r)(b1:Bd k p)(b2:Sz l r)(hk:k<=134217728)(w:l<=134217728)(y:p.length<=1073741824):
  Aa0 Tryz.prog 36 [.agg ⟨[sp.v]⟩,.agg ⟨[s.v,.bool b,t.v]⟩] W0 M λ v W'=>∃(s':Sl),v = .agg ⟨[Sl.v s']⟩/\Ab0 257 169 W' s' (Ag2 (pmap p r)):=by
 apply Cb6;have J:=h1;obtain⟨xs,N,z⟩:=J;have hlen:=z.len;refine Ba1 N (by omega) λ s3 W2 A ⟨B,hO⟩=>⟨s3,rfl,?_⟩
 refine⟨λ l W=>match l with
  | [.val (.int .i64 i)]=>∃(j:Nat) (f:List (List Value)),i=(j:Int)/\j<=p.length/\Eo1 W0.w.heap.size W0 W/\Go.SX.Own W 169 6 s3 f/\An5 (PT 257 W) f (pmap (p.take j) r ++ p.drop j)
  | _=>False,λ l _=>match l with | [.val (.int .i64 i)]=>p.length-i.toNat | _=>0,⟨0,xs,rfl,by omega,A.toM _,hO,by simpa[pmap] using z.mono λ _ _ h=>h.ext A⟩,?_⟩
 rintro i6 W7 ⟨j,f,rfl,hj,C,d,c⟩;have ad:s3.n=p.length:=by rw[d.row.1,c.len];simp[pmap];omega
 refine⟨λ ae=>?_,λ af=>?_⟩
 ·have e:j<p.length:=by omega
  have D:inB s3 (j:Int):=d.row.inB (by omega) (by rw[c.len];simp[pmap];omega);have n:(pmap (p.take j) r ++ p.drop j)[j]?=some p[j]:=by
   rw[List.getElem?_append_right (by simp[pmap];omega),List.getElem?_drop];simp[pmap,Nat.min_eq_left (Nat.le_of_lt e),e]
  obtain⟨x,E,O,P,Q,R,rfl,S⟩:=c.get n;refine⟨D,P,Q,R,d.row.part E 3 rfl,Ak9 S (I.new C (Nat.le_refl _)) (b1.sz _ (List.getElem_mem e)) b2 (by omega) (by omega) λ F G H ag o T=>⟨F,G,H,rfl,D,?_⟩⟩;refine Dm0 (j:=j) (d.ext o) E (by simp) (λ u hu=>?_) (λ g n=>.inr (B g n)) λ ah g U hw V=>⟨by unfold I64;omega,⟨j+1,_,by push_cast;rfl,by omega,(C.trans (o.toM _)).trans (hw.Fi8 (B g U)),V,?_⟩,?_⟩
  ·simp only[List.mem_cons,List.not_mem_nil,or_false] at hu
   rcases hu with rfl | rfl | rfl<;>rfl
  ·have X:pmap (p.take (j+1)) r ++ p.drop (j+1)=(pmap (p.take j) r ++ p.drop j).set j (p[j].1,p[j].2*r):=by
    rw[As0 e,List.drop_eq_getElem_cons e];have w:(pmap (p.take j) r).length=j:=by simp[pmap];omega
    rw[List.set_append_right _ _ (by omega),w,Nat.sub_self,List.set_cons_zero,show pmap (p.take j ++ [p[j]]) r=pmap (p.take j) r ++ [(p[j].1,p[j].2*r)] from List.map_append,List.append_assoc];rfl
   rw[X];exact(c.mono λ _ _ h=>(h.ext o).wr hw (by decide)).set j ⟨O,F,G,H,rfl,hw.rat T (by decide)⟩
  ·show p.length-Int.toNat ((j:Int)+1)<p.length-Int.toNat (j:Int)
   omega
 ·have Y:j=p.length:=by omega
  subst Y;rw[List.take_length,List.drop_length,List.append_nil] at c;exact An2 (Bf5 d.row c) (Bd.pmap b1 b2) (by omega) (by simp[pmap];omega) λ s' ai aj y=>⟨s',rfl,λ ak Z=>⟨s',rfl,y.ext Z⟩⟩
theorem Cb0 {t:Sl}(h1:Ab0 257 169 W sp p)(d:Ab3 257 W s b t r)(b1:Bd k p)(b2:Sz l r)(hk:k<=134217728)(e:l<=134217728)(f:p.length<=1073741824)(g: ∀(s':Sl) (W':PW),Ext W W'->(Ab0 257 169 W' s' (Ag2 (pmap p r)))->K (.agg ⟨[Sl.v s']⟩) W'):
  Aa1 Tryz.prog W0 M 36 [.agg ⟨[sp.v]⟩,.agg ⟨[s.v,.bool b,t.v]⟩] W K:=
 Mi4 (λ _ c=>Cs2 (h1.ext c) (d.ext c) b1 b2 hk e f) fun | _,W',c,⟨s',rfl,h⟩=>g s' W' c h
theorem Ew2 (p:List Tm)(r:Rat):(pmap p r).length=p.length:=by simp[pmap]
theorem Ec4 (h1:Ab0 257 169 W0 sp p)(h:Ab0 257 169 W0 sq q)(b1:Bd k p)(b2:Bd k q)(hk:k<=67108864)(B:p.length<=536870912)(C:q.length<=536870912):
  Aa0 Tryz.prog 55 [.agg ⟨[sp.v]⟩,.agg ⟨[sq.v]⟩] W0 M λ v W'=>∃(s':Sl),v = .agg ⟨[Sl.v s']⟩/\Ab0 257 169 W' s' (Ag2 (p ++ pmap q (-1))):=by
 apply Cs5;refine Ay8 (z:=-1) (by unfold I64;omega) λ s3 j n D c o=>⟨s3,j,n,rfl,?_⟩;have d:((-1:Int):Rat) = -1:=by rfl
 have f:Sz 1 ((-1:Int):Rat):=by rw[d];exact(Sz.one (Nat.le_refl 1)).neg
 refine Cb0 (h.ext c) o b2 f (by omega) (by omega) (by omega) λ u E w x=>⟨u,rfl,?_⟩;have hlen:=El2 (pmap q ((-1:Int):Rat));rw[Ew2] at hlen;refine Cw8 (h1.ext (c.trans w)) x (b1.mono (by omega:k<=k+1)) (Bd.norm (Bd.pmap b2 f)) (by omega) (by omega) (by omega) λ g F G y=>⟨g,rfl,λ H A=>⟨g,rfl,?_⟩⟩;have e:Ag2 (p ++ Ag2 (pmap q ((-1:Int):Rat)))=Ag2 (p ++ pmap q (-1)):=Bc1 λ m=>by rw[Au2,Au2,Bh2,d]
 rw[<-e];exact y.ext A
theorem Db2 (h1:Ab0 257 169 W sp p)(d:Ab0 257 169 W sq q)(b1:Bd k p)(b2:Bd k q)(hk:k<=67108864)(e:p.length<=536870912)(f:q.length<=536870912)(g: ∀(s':Sl) (W':PW),Ext W W'->(Ab0 257 169 W' s' (Ag2 (p ++ pmap q (-1))))->K (.agg ⟨[Sl.v s']⟩) W'):
  Aa1 Tryz.prog W0 M 55 [.agg ⟨[sp.v]⟩,.agg ⟨[sq.v]⟩] W K:=
 Mi4 (λ _ c=>Ec4 (h1.ext c) (d.ext c) b1 b2 hk e f) fun | _,W',c,⟨s',rfl,h⟩=>g s' W' c h
end Go.Proofs.YtkgeopnakkcdoaaGreatDoor
namespace Go.Proofs.YtkgeopnakkcdoaaGreatDoor
open Go Go.SX
def Ct4 (p q:List Tm):Prop:=∀a∈p,∀b∈q,(a.1.add b.1).ok
instance (p q:List Tm):Decidable (Ct4 p q):=by unfold Ct4;infer_instance
def Fo9 (g:Nat) (sp sq:Sl) (p q:List Tm) (D N:Nat) (l:List PL) (W:PW):Prop:=match l with
 | [.val (.int .i64 i),_]=>∃j:Nat,i=(j:Int)/\j<=p.length/\Ab0 257 169 W sp p/\Ab0 257 169 W sq q/\Ct4 (p.take j) q/\∃es c E a b,Ai4 257 W g es c E/\Dp6 D (An8 (p.take j) q) a E/\Fit D b (An8 (p.drop j) q)/\a+b<=N
 | _=>False
def cn1 (n:Nat) (l:List PL) (W:PW):Nat:=match l with
 | .val (.int .i64 i) :: _=>n-i.toNat
 | _=>0
end Go.Proofs.YtkgeopnakkcdoaaGreatDoor
namespace Go.Proofs.YtkgeopnakkcdoaaGreatDoor
open Go Go.SX
variable {K:Value->PW->Prop}{M:Nat->Prop}{W W0:PW}{a b m:Mon}
theorem Da6 (hm:m.ok):
  Aa0 Tryz.prog 210 [.agg ⟨[.int .u8 m.x,.int .u8 m.y,.int .u8 m.z]⟩] W0 M λ v W'=>v = .int .i64 m.deg/\True:=by
 apply Bs4;unfold Mon.ok at hm;exact⟨⟨by omega,by omega⟩,by unfold I64;omega,⟨by omega,by omega⟩,by unfold I64;omega,by unfold I64;omega,⟨by omega,by omega⟩,by unfold I64;omega,by unfold I64;omega,λ c _=>⟨rfl,trivial⟩⟩
theorem Al9 (hm:m.ok)(d: ∀(W':PW),Ext W W'->(True)->K (.int .i64 m.deg) W'):
  Aa1 Tryz.prog W0 M 210 [.agg ⟨[.int .u8 m.x,.int .u8 m.y,.int .u8 m.z]⟩] W K:=
 Mi4 (λ _ c=>Da6 hm) fun | _,W',c,⟨rfl,h⟩=>d W' c h
theorem Ck7 (g:a.ok)(n:b.ok):
  Aa0 Tryz.prog 148 [.agg ⟨[.int .u8 a.x,.int .u8 a.y,.int .u8 a.z]⟩,.agg ⟨[.int .u8 b.x,.int .u8 b.y,.int .u8 b.z]⟩] W0 M λ v W'=>v = .int .i64 (a.cmp b)/\True:=by
 apply Bn9;refine Al9 g λ A _ _=>⟨_,rfl,Al9 n λ B C _=>⟨_,rfl,λ w=>?_,λ heq=>?_⟩⟩
 ·refine Al9 g λ D _ _=>⟨_,rfl,Al9 n λ E _ _=>⟨_,rfl,λ h F _=>⟨?_,trivial⟩,λ h G _=>⟨?_,trivial⟩⟩⟩
  ·rw[Ch0];unfold As4;rw[if_pos h];simp
  ·rw[Ch0];unfold As4;rw[if_neg h,if_neg w];simp
 ·have x:a.deg=b.deg:=by omega
  have y:a.cmp b=Ey8 a b:=by rw[Ch0];unfold As4;simp[x]
  rw[y];refine⟨λ l W=>match l with | [.val (.int .i64 i)]=>∃k:Nat,i=(k:Int)/\k<=3/\∀j,j<k->An6 a j=An6 b j | _=>False,λ l _=>match l with | [.val (.int .i64 i)]=>3-i.toNat | _=>0,⟨0,rfl,by omega,λ j c=>by omega⟩,?_⟩;rintro i17 H ⟨k,rfl,hk,c⟩;refine⟨λ I=>?_,λ J N _=>⟨?_,trivial⟩⟩
  ·have d:k<3:=by omega
   have f:(0:Int)<=(k:Int)/\(k:Int)<3:=⟨by omega,by omega⟩;have o:=Aw0 a d _ _ _ rfl rfl rfl;have u:=Aw0 b d _ _ _ rfl rfl rfl;refine⟨f,_,o,f,_,u,λ h O _=>⟨?_,trivial⟩,λ h=>⟨f,_,o,f,_,u,λ z P _=>⟨?_,trivial⟩,λ z=>⟨by unfold I64;omega,⟨k+1,by push_cast;rfl,by omega,λ j Q=>?_⟩,?_⟩⟩⟩
   ·rw[Dh1 d c (by omega)];unfold As4;rw[if_pos h]
   ·rw[Dh1 d c (by omega)];unfold As4;rw[if_neg h,if_neg (by omega)]
   ·by_cases e:j=k
    ·subst e;omega
    ·exact c j (by omega)
   ·show 3-Int.toNat ((k:Int)+1)<3-Int.toNat (k:Int)
    omega
  ·have:k=3:=by omega
   subst this;rw[Eq5 c]
theorem Bx0 (d:a.ok)(e:b.ok)(f: ∀(W':PW),Ext W W'->(True)->K (.int .i64 (a.cmp b)) W'):
  Aa1 Tryz.prog W0 M 148 [.agg ⟨[.int .u8 a.x,.int .u8 a.y,.int .u8 a.z]⟩,.agg ⟨[.int .u8 b.x,.int .u8 b.y,.int .u8 b.z]⟩] W K:=
 Mi4 (λ _ c=>Ck7 d e) fun | _,W',c,⟨rfl,h⟩=>f W' c h
end Go.Proofs.YtkgeopnakkcdoaaGreatDoor
namespace Go.Proofs.YtkgeopnakkcdoaaGreatDoor
open Go Go.SX
theorem Ce0 {α:Type}{j:Nat}{l:List α}(h:j<l.length):l.take (j+1)=l.take j ++ [l[j]]:=by
 rw[List.take_add_one,List.getElem?_eq_getElem h];rfl
theorem Ds0 {z:Int}:By8 z=0↔z=0:=by
 unfold By8;split
 ·constructor<;>intro h<;>omega
 ·split
  ·simp_all
  ·constructor<;>intro h<;>omega
theorem Ds5 {q:Rat}:q.num=0↔q=0:=Rat.num_eq_zero
end Go.Proofs.YtkgeopnakkcdoaaGreatDoor
namespace Go.Proofs.YtkgeopnakkcdoaaGreatDoor
open Go Go.SX
def cnL (n:Nat) (l:List PL) (W:PW):Nat:=match l with
 | [_,.val (.int .i64 i)]=>n-i.toNat
 | _=>0
end Go.Proofs.YtkgeopnakkcdoaaGreatDoor
namespace Go.Proofs.YtkgeopnakkcdoaaGreatDoor
open Go Go.SX
theorem Fl0:Sz 1 (1:Rat):=Sz.one (Nat.le_refl 1)
theorem En2:Bd 7 (Dc6 0):=(Cq4 (m:=Da3 0) Fl0).mono (by decide)
end Go.Proofs.YtkgeopnakkcdoaaGreatDoor
namespace Go.Proofs.YtkgeopnakkcdoaaGreatDoor
open Go Go.SX
variable {K:Value->PW->Prop}{L:List (Mon×ByteArray)}{M:Nat->Prop}{W W0:PW}{a b:Mon}{most:Int}{s:Sl}
def ppI (C:PW->List Value->Tm->Prop) (W0:PW) (L:List (Mon×ByteArray)) (l:List PL) (W:PW):Prop:=match l with
 | [.row xs,.val (.int .i64 i)]=>∃(j:Nat) (p:List Tm),i=(j:Int)/\j<=L.length/\Ext W0 W/\An5 (C W) xs p/\Af1 (L.take j) p
 | _=>False
theorem Fd6 (h:0<=a.cmp b):¬a.lt b:=λ c=>by
 have:=Mon.Dm2.2 c;omega
theorem Em9 (h:¬0<=a.cmp b):a.lt b:=Mon.Dm2.1 (by omega)
theorem Bx6 (h:Af3 W0 s L)(hl:L.length<=1099511627776)(R: ∀t∈L,t.2.size<=1099511627776):
  Aa0 Tryz.prog 127 [s.v] W0 M λ v W'=>∃(s':Sl),v = .tuple ⟨[Sl.v s',.bool (Ai8 L).isSome]⟩/\Ag1 257 148 W' s' ((Ai8 L).getD []):=by
 apply Bf0;have hn:=h.n;have bad:Ai8 L=none->∀W':PW,∃s':Sl,(Value.tuple ⟨[.slice none 0 0,.bool false]⟩) = .tuple ⟨[Sl.v s',.bool (Ai8 L).isSome]⟩/\Ag1 257 148 W' s' ((Ai8 L).getD []):=λ h W'=>by
  rw[h];exact⟨⟨none,0,0⟩,rfl,Ag1.nil W'⟩
 refine⟨ppI (RT 257) W0 L,cnL L.length,⟨0,[],rfl,by omega,Ext.refl _,trivial,Af1.nil⟩,?_⟩;rintro l3 i4 W5 ⟨j,p,rfl,hj,B,o,g⟩;have ak:=o.len;have S:=g.len;rw[List.length_take] at S;refine⟨λ G=>?_,λ H T al U hO _ am I=>⟨T,?_,?_⟩⟩
 ·have c:j<L.length:=by omega
  have u:=h.ext B;have w:=u.inB (i:=(j:Int)) (by omega) (by omega);obtain⟨C,_,_,V⟩:=u.at (List.getElem?_eq_getElem c);refine⟨w,_,V,An7 (R _ (List.getElem_mem c)) λ x y z X Y d=>⟨x,y,z,_,rfl,λ J an _=>bad (Af1.bad c λ q f _=>by rw[f] at J;cases J) _,λ Z=>?_⟩⟩;obtain⟨q,f⟩: ∃q,Ab7 L[j].2=some q:=Option.isSome_iff_exists.1 (by simpa using Z);rw[f] at d;have d:Ab6 257 X x y z q:=d;refine Aq7 d.1 λ ao D _=>⟨_,rfl,λ aa ap _=>bad (Af1.bad c λ q' N E=>by rw[f] at N;cases N;exact absurd (Ds5.1 (Ds0.1 aa)) E) _,λ E=>?_⟩;have O:q≠0:=λ e=>E (Ds0.2 (Ds5.2 e));have n:=Y.trans D;have P:L.length-Int.toNat ((j:Int)+1)<L.length-Int.toNat (j:Int):=by omega
  have F:=u.ext n;obtain⟨_,_,Q,_⟩:=F.at (List.getElem?_eq_getElem c);refine⟨λ ab=>?_,λ ab=>⟨w,_,_,_,Q,Ext.refl _,by simp;omega,Ext.refl _,by unfold I64;omega,⟨j+1,_,by push_cast;rfl,by omega,B.trans n,(o.mono λ _ _ h=>h.ext n).snoc ⟨C,x,y,z,rfl,d.ext D⟩,g.snoc c f O λ k hk=>absurd hk (by omega)⟩,P⟩⟩;have ac:(((j:Int)-1).toNat)=j-1:=by omega
  have ad:j-1<L.length:=by omega
  obtain⟨ae,_,em,_⟩:=F.at (List.getElem?_eq_getElem ad);refine⟨by unfold I64;omega,u.inB (by omega) (by omega),_,_,_,by rw[ac];exact em,w,_,_,_,Q,Bx0 ae C λ aq A _=>⟨_,rfl,λ H ar _=>bad (Af1.bad c λ _ _ _=>⟨j-1,by omega,Fd6 H⟩) _,λ G=>?_⟩⟩;obtain⟨_,_,af,_⟩:=(F.ext A).at (List.getElem?_eq_getElem c);refine⟨w,_,_,_,af,Ext.refl _,by simp;omega,Ext.refl _,by unfold I64;omega,⟨j+1,_,by push_cast;rfl,by omega,B.trans (n.trans A),(o.mono λ _ _ h=>h.ext (n.trans A)).snoc ⟨C,x,y,z,rfl,d.ext (D.trans A)⟩,g.snoc c f O λ k hk=>?_⟩,P⟩;have:k=j-1:=by omega
  subst this;exact Em9 G
 ·have:j=L.length:=by omega
  subst this;rw[g.all];rfl
 ·have:j=L.length:=by omega
  subst this;rw[g.all];exact⟨_,(hO.ext I).row,o.mono λ _ _ h=>h.ext (U.trans I)⟩
theorem Bg5 (h:Af3 W s L)(d:L.length<=1099511627776)(e: ∀t∈L,t.2.size<=1099511627776)(f: ∀(s':Sl) (W':PW),Ext W W'->(Ag1 257 148 W' s' ((Ai8 L).getD []))->K (.tuple ⟨[Sl.v s',.bool (Ai8 L).isSome]⟩) W'):
  Aa1 Tryz.prog W0 M 127 [s.v] W K:=
 Mi4 (λ _ c=>Bx6 (h.ext c) d e) fun | _,W',c,⟨s',rfl,h⟩=>f s' W' c h
noncomputable def erP (L:List (Mon×ByteArray)):Int:=if(Ai8 L).isSome then 0 else 2
def paI (n0:Nat) (W0:PW) (L:List (Mon×ByteArray)) (l:List PL) (W:PW):Prop:=match l with
 | [.val (.int .i64 i),_,.cells [.slice A n c]]=>∃(j:Nat) (xs:List (List Value)) (p:List Tm),i=(j:Int)/\j<=L.length/\Eo1 n0 W0 W/\Go.SX.Own W 169 6 ⟨A,n,c⟩ xs/\(∀g,(Value.slice A n c).ownBlock=some g->n0<=g)/\An5 (PT 257 W) xs p/\Af1 (L.take j) p
 | _=>False
theorem Dd0 {t:TypeId}{sz:Nat}:Go.SX.Own W t sz ⟨none,0,0⟩ []:=⟨⟨by simp,by simp,.inl ⟨rfl,rfl⟩⟩,λ g c=>by simp[Sl.v,Value.ownBlock] at c⟩
theorem Cy1 (h:Af3 W0 s L)(hl:L.length<=1099511627776)(V: ∀t∈L,t.2.size<=1099511627776):
  Aa0 Tryz.prog 129 [s.v] W0 M λ v W'=>∃(s':Sl),v = .tuple ⟨[.agg ⟨[Sl.v s']⟩,.int .i64 (erP L)]⟩/\Ab0 257 169 W' s' ((Ai8 L).getD []):=by
 apply Ca9;have hn:=h.n;have bad:Ai8 L=none->∀W':PW,∃s':Sl,(Value.tuple ⟨[.agg ⟨[.slice none 0 0]⟩,.int .i64 2]⟩) = .tuple ⟨[.agg ⟨[Sl.v s']⟩,.int .i64 (erP L)]⟩/\Ab0 257 169 W' s' ((Ai8 L).getD []):=λ h W'=>by
  unfold erP;rw[h];exact⟨⟨none,0,0⟩,rfl,Ab0.nil W'⟩
 refine⟨paI W0.w.heap.size W0 L,λ l _=>match l with | [.val (.int .i64 i),_,_]=>L.length-i.toNat | _=>0,⟨0,[],[],rfl,by omega,Au9.refl _ _,Dd0,λ g d=>by simp[Value.ownBlock] at d,trivial,Af1.nil⟩,?_⟩;rintro s3 s4 i5 X ⟨j,xs,p,rfl,hj,C,hO,n,D,u⟩;have hO:Go.SX.Own X 169 6 s4 xs:=hO;have n: ∀g,s4.v.ownBlock=some g->W0.w.heap.size<=g:=n;have aw:=D.len;have Y:=u.len;rw[List.length_take] at Y;refine⟨λ w=>?_,λ H ax I=>⟨s4,?_,?_⟩⟩
 ·have f:j<L.length:=by omega
  have x:=h.new C (Nat.le_refl _);have Z:=x.inB (i:=(j:Int)) (by omega) (by omega);obtain⟨J,e1,_,_⟩:=x.at (List.getElem?_eq_getElem f);refine⟨Z,_,_,_,_,e1,As8 (V _ (List.getElem_mem f)) λ y z A ab ac o=>⟨y,z,A,_,rfl,λ N ay _=>bad (Af1.bad f λ q c _=>by rw[c] at N;exact absurd rfl N) _,λ O=>?_⟩⟩;obtain⟨q,c⟩: ∃q,Ab7 L[j].2=some q:=by
   cases c:Ab7 L[j].2 with
   | none=>rw[c] at O;exact absurd (by decide) O
   | some q=>exact⟨q,rfl⟩
  rw[c] at o;have o:Ab3 257 ab y z A q:=o;refine Bk6 o (Aw6 c).1 (by omega) λ P Q _=>⟨_,rfl,λ ad az _=>bad (Af1.bad f λ q' R E=>by rw[c] at R;cases R;exact absurd ((Be6 _ _).1 ad) E) _,λ E=>?_⟩;have ae:q≠0:=λ e=>E ((Be6 _ _).2 e);have S:=ac.trans Q;have af:L.length-Int.toNat ((j:Int)+1)<L.length-Int.toNat (j:Int):=by omega
  have ag:=x.ext S;have fin: ∀W,Ext P W->(∀k (hk:k+1=j),(L[k]'(by omega)).1.lt L[j].1)->Es7 W0 M 169 6 64 s4 [[.int .u8 L[j].1.x,.int .u8 L[j].1.y,.int .u8 L[j].1.z,y.v,.bool z,A.v]] W λ ah ai=>I64 ((j:Int)+1)/\paI W0.w.heap.size W0 L [.val (.int .i64 ((j:Int)+1)),.cells [s3.v],.cells [ah.v]] ai/\L.length-Int.toNat ((j:Int)+1)<L.length-Int.toNat (j:Int):=by
   intro W T w W' U;have B:=(S.trans T).trans U;have F:=hO.ext B;refine⟨xs,F,λ g d=>.inr (n g d),by simp;omega,λ s' aA G aj ak=>⟨by unfold I64;omega,⟨j+1,_,p ++ [(L[j].1,q)],by push_cast;rfl,by omega,(C.trans (B.toM _)).trans (G.mono λ g d=>n g d),aj,λ g d=>?_,?_,u.snoc f c ae w⟩,af⟩⟩
   ·rcases ak g d with h | h
    ·exact n g h
    ·exact Nat.le_trans (Nat.le_trans C.size B.size) h
   ·exact((D.mono λ _ _ h=>PT.own F G (by decide:257≠169) (h.ext B))).snoc ⟨J,y,z,A,rfl,Ab3.own F G (by decide:257≠169) (o.ext ((Q.trans T).trans U))⟩
  refine⟨λ al=>?_,λ al=>fin P (Ext.refl _) λ k hk=>absurd hk (by omega)⟩;have am:(((j:Int)-1).toNat)=j-1:=by omega
  have an:j-1<L.length:=by omega
  obtain⟨ao,_,em,_⟩:=ag.at (List.getElem?_eq_getElem an);refine⟨by unfold I64;omega,x.inB (by omega) (by omega),_,_,_,by rw[am];exact em,Bk9 ao J λ ap aq _=>⟨_,rfl,λ H aB _=>bad (Af1.bad f λ _ _ _=>⟨j-1,by omega,Fd6 H⟩) _,λ w=>fin ap aq λ k hk=>?_⟩⟩;have:k=j-1:=by omega
  subst this;exact Em9 w
 ·have:j=L.length:=by omega
  subst this;unfold erP;rw[u.all];rfl
 ·have:j=L.length:=by omega
  subst this;rw[u.all];exact⟨_,(hO.ext I).row,D.mono λ _ _ h=>h.ext I⟩
theorem Cc0 (h:Af3 W s L)(d:L.length<=1099511627776)(e: ∀t∈L,t.2.size<=1099511627776)(f: ∀(s':Sl) (W':PW),Ext W W'->(Ab0 257 169 W' s' ((Ai8 L).getD []))->K (.tuple ⟨[.agg ⟨[Sl.v s']⟩,.int .i64 (erP L)]⟩) W'):
  Aa1 Tryz.prog W0 M 129 [s.v] W K:=
 Mi4 (λ _ c=>Cy1 (h.ext c) d e) fun | _,W',c,⟨s',rfl,h⟩=>f s' W' c h
def Bp6 (L:List (Mon×ByteArray)) (most exp:Int):Prop:=(L.length:Int)<=most/\∀t∈L,t.2.size<=30/\t.1.x<=exp/\t.1.y<=exp/\t.1.z<=exp
theorem Db1 {exp:Int}(h:Af3 W0 s L)(E:L.length<=1099511627776):
  Aa0 Tryz.prog 128 [s.v,.int .i64 most,.int .i64 exp] W0 M λ v W'=>∃(b:Bool),v = .bool b/\(b=true↔Bp6 L most exp):=by
 apply Bz5;have F:=h.n;have bad:¬Bp6 L most exp->∃b:Bool,(Value.bool false) = .bool b/\(b=true↔Bp6 L most exp):=λ h=>⟨false,rfl,λ e=>(by cases e),λ c=>absurd c h⟩;refine⟨λ G H _=>bad λ c=>by have:=c.1;omega,λ hle=>⟨λ l W=>match l with | [.val (.int .i64 i)]=>Ext W0 W/\∃j:Nat,i=(j:Int)/\j<=L.length/\∀t∈L.take j,t.2.size<=30/\t.1.x<=exp/\t.1.y<=exp/\t.1.z<=exp | _=>False,λ l _=>match l with | [.val (.int .i64 i)]=>L.length-i.toNat | _=>0,⟨Ext.refl _,0,rfl,by omega,λ t d=>by simp at d⟩,?_⟩⟩;rintro i4 I ⟨w,j,rfl,J,o⟩;refine⟨λ N=>?_,λ O P _=>⟨true,rfl,λ _=>⟨by omega,λ t d=>?_⟩,λ _=>rfl⟩⟩
 ·have u:j<L.length:=by omega
  have y:=h.ext w;have f:=y.inB (i:=(j:Int)) (by omega) (by omega);have hm:=List.getElem_mem u;obtain⟨xs,⟨_,g⟩,z⟩:=y;obtain⟨x,n,A,rfl⟩:=z.get (List.getElem?_eq_getElem u);unfold Mon.ok at A;refine⟨f,_,g.part n 3 rfl,λ B Q _=>bad λ c=>by have:=c.2 _ hm;omega,λ B=>⟨f,⟨by omega,by omega⟩,_,g.part n 0 rfl,by unfold I64;omega,λ C R _=>bad λ c=>by have:=c.2 _ hm;omega,λ C=>⟨f,⟨by omega,by omega⟩,_,g.part n 1 rfl,by unfold I64;omega,λ D S _=>bad λ c=>by have:=c.2 _ hm;omega,λ D=>⟨f,⟨by omega,by omega⟩,_,g.part n 2 rfl,by unfold I64;omega,λ he T _=>bad λ c=>by have:=c.2 _ hm;omega,λ he=>⟨by unfold I64;omega,⟨w,j+1,by push_cast;rfl,by omega,λ t d=>?_⟩,?_⟩⟩⟩⟩⟩
  ·rw[Ce0 u] at d
   rcases List.mem_append.1 d with d | d
   ·exact o t d
   ·simp at d
    subst d;exact⟨by omega,by omega,by omega,by omega⟩
  ·show L.length-Int.toNat ((j:Int)+1)<L.length-Int.toNat (j:Int)
   omega
 ·have:j=L.length:=by omega
  subst this;rw[List.take_length] at o;exact o t d
theorem Cb1 {exp:Int}(h:Af3 W s L)(d:L.length<=1099511627776)(e: ∀(b:Bool) (W':PW),Ext W W'->((b=true↔Bp6 L most exp))->K (.bool b) W'):
  Aa1 Tryz.prog W0 M 128 [s.v,.int .i64 most,.int .i64 exp] W K:=
 Mi4 (λ _ c=>Db1 (h.ext c) d) fun | _,W',c,⟨b,rfl,h⟩=>e b W' c h
def Ff1 (L:List (Mon×ByteArray)) (exp:Int) (p:List Tm):Prop:=Af1 L p/\Bp6 L 14 exp
theorem Ee7 {exp:Int}(h:Af3 W0 s L)(c:L.length<=1099511627776)(d: ∀t∈L,t.2.size<=1099511627776):
  Aa0 Tryz.prog 48 [s.v,.int .i64 exp] W0 M λ v W'=>∃(s1:Sl),∃(s2:Sl),∃(b:Bool),v = .tuple ⟨[.agg ⟨[Sl.v s1]⟩,Sl.v s2,.bool b]⟩/\(b=true->∃p,Ff1 L exp p/\Ab0 257 169 W' s1 p/\Ag1 257 148 W' s2 p):=by
 apply Dg8;have bad: ∀W':PW,∃(s1 s2:Sl) (b:Bool),(Value.tuple ⟨[.agg ⟨[.slice none 0 0]⟩,.slice none 0 0,.bool false]⟩) = .tuple ⟨[.agg ⟨[Sl.v s1]⟩,Sl.v s2,.bool b]⟩/\(b=true->∃p,Ff1 L exp p/\Ab0 257 169 W' s1 p/\Ag1 257 148 W' s2 p):=λ W'=>⟨⟨none,0,0⟩,⟨none,0,0⟩,false,rfl,λ e=>by cases e⟩;refine Bg5 h c d λ s3 E f g=>⟨s3,_,rfl,λ _ x _=>bad x,λ y=>Cb1 (h.ext f) c λ z F j A=>⟨z,rfl,λ _ B _=>bad B,λ C=>Cc0 (h.ext (f.trans j)) c d λ n G D o=>⟨n,_,rfl,λ H u=>⟨n,s3,true,rfl,λ _=>?_⟩⟩⟩⟩;obtain⟨p,w⟩: ∃p,Ai8 L=some p:=Option.isSome_iff_exists.1 (by simpa using y);rw[w] at g o;exact⟨p,⟨Eg3 w,A.1 (by simpa using C)⟩,o.ext u,g.ext ((j.trans D).trans u)⟩
theorem Dn6 {exp:Int}(h:Af3 W s L)(d:L.length<=1099511627776)(e: ∀t∈L,t.2.size<=1099511627776)(f: ∀(s1:Sl) (s2:Sl) (b:Bool) (W':PW),Ext W W'->((b=true->∃p,Ff1 L exp p/\Ab0 257 169 W' s1 p/\Ag1 257 148 W' s2 p))->K (.tuple ⟨[.agg ⟨[Sl.v s1]⟩,Sl.v s2,.bool b]⟩) W'):
  Aa1 Tryz.prog W0 M 48 [s.v,.int .i64 exp] W K:=
 Mi4 (λ _ c=>Ee7 (h.ext c) d e) fun | _,W',c,⟨s1,s2,b,rfl,h⟩=>f s1 s2 b W' c h
theorem Ff1.len {p:List Tm}{exp:Int}(h:Ff1 L exp p):p.length<=14:=by
 have h1:=h.1.len;have c:=h.2.1;omega
end Go.Proofs.YtkgeopnakkcdoaaGreatDoor
