import Derived.Test.YtkgeopnakkcdoaaGreatDoorW6
import Derived.Test.YtkgeopnakkcdoaaGreatDoorR6
import Derived.Shelf.Spec.SlicesGrow
import Derived.Shelf.SlGeneric
import Derived.Test.YtkgeopnakkcdoaaGreatDoorProg
import Derived.Test.YtkgeopnakkcdoaaGreatDoorLib4
set_option linter.unusedVariables false
set_option linter.unusedSimpArgs false
set_option maxRecDepth 100000
namespace Go.Proofs.YtkgeopnakkcdoaaGreatDoor
open Go Go.SX
variable {K:Value->PW->Prop}{M:Nat->Prop}{W W0:PW}{b:Bool}{i:Int}{k:Nat}{l:List Tm}{q:Rat}{s t:Sl}{xs:List (List Value)}
theorem Fc3 {x:Nat}(h:x≠0):1<=nl x:=by
 have:nl x≠0:=λ e=>h (Ad0.1 e);omega
theorem As0 {α:Type}{j:Nat}{l:List α}(h:j<l.length):l.take (j+1)=l.take j ++ [l[j]]:=by
 rw[List.take_add_one,List.getElem?_eq_getElem h];rfl
theorem Dd5 (h:Ab0 257 169 W0 s l)(H:Bd k l)(hk:k<=536870912)(hl:l.length<=1073741824):
  Aa0 Tryz.prog 100 [s.v] W0 M λ v W'=>∃(s':Sl),v = .agg ⟨[Sl.v s']⟩/\Aq4 W0 s'/\Ch2 257 169 W' s' (Ag2 l):=by
 apply Da9;intro g W2 z _ I J O;obtain⟨D,N,hF,e,f,o⟩:=H;have P:1<=k:=Nat.le_trans (Fc3 e) f
 refine⟨λ L W=>match L with
  | [.val (.int .i64 i)]=>∃j:Nat,i=(j:Int)/\j<=l.length/\W0.w.heap.size<=W.w.heap.size/\Ab0 257 169 W s l/\∃es c E a b,Ai4 257 W g es c E/\Dp6 D (l.take j) a E/\Fit D b (l.drop j)/\a+b<=N
  | _=>False,λ L _=>match L with | [.val (.int .i64 i)]=>l.length-i.toNat | _=>0,⟨0,rfl,by omega,z.size,h.ext z,#[],0,[],0,N,Ai4.new J O,Dp6.nil D,hF,by omega⟩,?_⟩
 rintro i5 W6 ⟨j,rfl,hj,A,m,es,c,E,a,b,B,d,C,ah⟩;have hn:=m.n;refine⟨λ aj=>?_,λ ak=>?_⟩
 ·have u:j<l.length:=by omega
  obtain⟨Q,s1,b1,s2,he,_,_,R⟩:=m.at (List.getElem?_eq_getElem u);rw[List.drop_eq_getElem_cons u] at C;obtain⟨n,k',al,F,w⟩:=C;refine⟨m.inB (by omega) (by omega),_,_,_,s1,b1,s2,he,Bj5 (k:=k) B Q R (λ t x=>((d.fit.mem x).mono (by omega:a<=N)).sz e f o) ((F.mono (by omega:n<=N)).sz e f o) (by omega) P (.inr I) λ W' am S T E' y G U V X=>⟨rfl,by unfold I64;omega,⟨j+1,by push_cast;rfl,by omega,Nat.le_trans A (Nat.le_trans y.size G.size),(m.ext y).map G U.heap,S,T,E',a+n,k',V,?_,w,by omega⟩,?_⟩⟩
  ·rw[As0 u]
   exact d.add X F
  ·show l.length-Int.toNat ((j:Int)+1)<l.length-Int.toNat (j:Int)
   omega
 ·have Y:j=l.length:=by omega
  subst Y;rw[List.take_length] at d;have hlen:=d.len;exact Ba0 (k:=k) B (λ t x=>((d.fit.mem x).mono (by omega:a<=N)).sz e f o) (by omega) (by omega) λ s' W' y w Z=>⟨s',rfl,λ an aa=>⟨s',rfl,λ g' ac=>Nat.le_trans A (w g' ac),by rw[<-d.norm];exact Z.ext aa⟩⟩
theorem Dt6 (h:Ab0 257 169 W0 s l)(a:Bd k l)(hk:k<=536870912)(c:l.length<=1073741824):
  Aa0 Tryz.prog 100 [s.v] W0 M λ v W'=>∃(s':Sl),v = .agg ⟨[Sl.v s']⟩/\Ab0 257 169 W' s' (Ag2 l):=by
 exact(Dd5 h a hk c).mono (λ _ h=>h) λ v W' _ ⟨s',d,_,e⟩=>⟨s',d,e.Ft4⟩
theorem An2 (h:Ab0 257 169 W s l)(c:Bd k l)(hk:k<=536870912)(d:l.length<=1073741824)(e: ∀(s':Sl) (W':PW),Ext W W'->(Ab0 257 169 W' s' (Ag2 l))->K (.agg ⟨[Sl.v s']⟩) W'):
  Aa1 Tryz.prog W0 M 100 [s.v] W K:=
 Mi4 (λ _ a=>Dt6 (h.ext a) c hk d) fun | _,W',a,⟨s',rfl,h⟩=>e s' W' a h
theorem Bf5 {p:List Tm}(h:Row W 169 6 s xs)(a:An5 (PT 257 W) xs p):Ab0 257 169 W s p:=⟨xs,h,a⟩
theorem Dz6 (h:Row W0 169 6 s xs)(j:xs.length<=1099511627776):
  Aa0 Tryz.prog 180 [s.v] W0 M λ v W'=>∃(s':Sl),v=Sl.v s'/\Aq4 W0 s'/\Go.SX.Own W' 169 6 s' xs:=by
 apply Ai9;refine⟨λ c m n=>?_,λ c=>⟨xs,⟨_,h⟩,by omega,λ s3 o u hO d w e=>⟨s3,rfl,λ g a=>(d g a).1,by rw[List.nil_append] at hO;exact hO.ext e⟩⟩⟩;have:xs = []:=Classical.byContradiction λ f=>by
  have:=h.some f;rw[c] at this;cases this
 subst this;exact⟨⟨none,0,0⟩,rfl,λ g a=>by simp[Sl.v,Value.ownBlock] at a,⟨by simp,rfl,.inl ⟨rfl,rfl⟩⟩,λ g a=>by simp[Sl.v,Value.ownBlock] at a⟩
theorem Cv0 (h:Row W 169 6 s xs)(c:xs.length<=1099511627776)(d: ∀(s':Sl) (W':PW),Ext W W'->(Aq4 W s'/\Go.SX.Own W' 169 6 s' xs)->K (Sl.v s') W'):
  Aa1 Tryz.prog W0 M 180 [s.v] W K:=
 Aa2 (λ W' a=>Dz6 (h.ext a) c) fun | W',_,e,a,f,⟨s',rfl,g,h⟩=>d s' e (a.trans f) ⟨g.back a,h⟩
theorem Cv7 (h:Row W0 169 6 s xs)(a:xs.length<=1099511627776):
  Aa0 Tryz.prog 103 [.agg ⟨[s.v]⟩] W0 M λ v W'=>∃(s':Sl),v=Sl.v s'/\Aq4 W0 s'/\Go.SX.Own W' 169 6 s' xs:=by
 apply Bc4;exact Cv0 h a λ s' e f ⟨c,hO⟩=>⟨s',rfl,λ g d=>⟨s',rfl,c,hO.ext d⟩⟩
theorem Ba1 (h:Row W 169 6 s xs)(c:xs.length<=1099511627776)(d: ∀(s':Sl) (W':PW),Ext W W'->(Aq4 W s'/\Go.SX.Own W' 169 6 s' xs)->K (Sl.v s') W'):
  Aa1 Tryz.prog W0 M 103 [.agg ⟨[s.v]⟩] W K:=
 Aa2 (λ W' a=>Cv7 (h.ext a) c) fun | W',_,e,a,f,⟨s',rfl,g,h⟩=>d s' e (a.trans f) ⟨g.back a,h⟩
theorem Cq4 {m:Mon}(h:Sz k q):Bd (k+3) [(m,q)]:=by
 have:=Bd.Co7 (k:=k) (l:=[(m,q)]) (by intro t a;simp at a;subst a;exact h);exact this.mono (by simp)
theorem Go5 (h:Ab3 257 W0 s b t q)(a:Sz k q)(hk:k<=268435456):
  Aa0 Tryz.prog 33 [.agg ⟨[s.v,.bool b,t.v]⟩] W0 M λ v W'=>∃(s':Sl),v = .agg ⟨[Sl.v s']⟩/\Ab0 257 169 W' s' (Ag2 [(⟨0,0,0⟩,q)]):=by
 apply Gk3;intro s1 f c hO _;exact An2 (Bf5 (p:=[(⟨0,0,0⟩,q)]) hO.row ⟨⟨(by decide:(⟨0,0,0⟩:Mon).ok),s,b,t,rfl,h.ext c⟩,trivial⟩) (Cq4 a) (by omega) (by simp) λ s' g j d=>⟨s',rfl,λ m e=>⟨s',rfl,d.ext e⟩⟩
theorem Gf5 (h:Ab3 257 W s b t q)(c:Sz k q)(hk:k<=268435456)(d: ∀(s':Sl) (W':PW),Ext W W'->(Ab0 257 169 W' s' (Ag2 [(⟨0,0,0⟩,q)]))->K (.agg ⟨[Sl.v s']⟩) W'):
  Aa1 Tryz.prog W0 M 33 [.agg ⟨[s.v,.bool b,t.v]⟩] W K:=
 Mi4 (λ _ a=>Go5 (h.ext a) c hk) fun | _,W',a,⟨s',rfl,h⟩=>d s' W' a h
def Da3 (i:Nat):Mon:=if i=0 then⟨1,0,0⟩ else if i=1 then⟨0,1,0⟩ else⟨0,0,1⟩
def Dc6 (i:Int):List Tm:=if 0<=i/\i<3 then[(Da3 i.toNat,1)] else[]
theorem Br8 (m:Mon):Ag2 [(m,(1:Rat))] = [(m,1)]:=by
 have:(1:Rat)≠0:=by decide
 simp[Ag2,Bg6,this]
theorem Dy3:
  Aa0 Tryz.prog 37 [.int .i64 i] W0 M λ v W'=>∃(s':Sl),v = .agg ⟨[Sl.v s']⟩/\Ab0 257 169 W' s' (Dc6 i):=by
 apply Ct2;refine⟨λ h C D=>⟨⟨none,0,0⟩,rfl,?_⟩,λ h=>⟨λ E F D=>⟨⟨none,0,0⟩,rfl,?_⟩,λ E=>⟨⟨by omega,by omega⟩,by omega,⟨⟨trivial,λ e=>?_⟩,λ e=>?_⟩,λ e=>?_⟩⟩⟩
 ·unfold Dc6;rw[if_neg (by omega)];exact Ab0.nil C
 ·unfold Dc6;rw[if_neg (by omega)];exact Ab0.nil F
 ·have f:Dc6 i=Ag2 [(Da3 0,1)]:=by unfold Dc6;rw[if_pos (by omega),Br8,e]
  rw[f];refine Ay8 (z:=1) (by unfold I64;omega) λ a c d o u g=>⟨a,c,d,rfl,λ w x j hO _=>?_⟩;exact An2 (Bf5 (p:=[(Da3 0,1)]) hO.row ⟨⟨by decide,a,c,d,rfl,g.ext j⟩,trivial⟩) (Cq4 (Sz.one (Nat.le_refl 1))) (by omega) (by simp) λ s' y A m=>⟨s',rfl,λ B n=>⟨s',rfl,m.ext n⟩⟩
 ·have f:Dc6 i=Ag2 [(Da3 1,1)]:=by unfold Dc6;rw[if_pos (by omega),Br8,e]
  rw[f];refine Ay8 (z:=1) (by unfold I64;omega) λ a c d o u g=>⟨a,c,d,rfl,λ w x j hO _=>?_⟩;exact An2 (Bf5 (p:=[(Da3 1,1)]) hO.row ⟨⟨by decide,a,c,d,rfl,g.ext j⟩,trivial⟩) (Cq4 (Sz.one (Nat.le_refl 1))) (by omega) (by simp) λ s' y A m=>⟨s',rfl,λ B n=>⟨s',rfl,m.ext n⟩⟩
 ·have f:Dc6 i=Ag2 [(Da3 2,1)]:=by unfold Dc6;rw[if_pos (by omega),Br8,e]
  rw[f];refine Ay8 (z:=1) (by unfold I64;omega) λ a c d o u g=>⟨a,c,d,rfl,λ w x j hO _=>?_⟩;exact An2 (Bf5 (p:=[(Da3 2,1)]) hO.row ⟨⟨by decide,a,c,d,rfl,g.ext j⟩,trivial⟩) (Cq4 (Sz.one (Nat.le_refl 1))) (by omega) (by simp) λ s' y A m=>⟨s',rfl,λ B n=>⟨s',rfl,m.ext n⟩⟩
theorem Cr4 (c: ∀(s':Sl) (W':PW),Ext W W'->(Ab0 257 169 W' s' (Dc6 i))->K (.agg ⟨[Sl.v s']⟩) W'):
  Aa1 Tryz.prog W0 M 37 [.int .i64 i] W K:=
 Mi4 (λ _ a=>Dy3 ) fun | _,W',a,⟨s',rfl,h⟩=>c s' W' a h
end Go.Proofs.YtkgeopnakkcdoaaGreatDoor
namespace Go.Proofs.YtkgeopnakkcdoaaGreatDoor
open Go Go.Shelf Go.Proofs
def Ay0:Go.Shelf.Ren:=⟨fun | 4=>179 | n=>n,fun | 22=>65 | 25=>169 | 3=>3 | 4=>4 | 9=>9 | 20=>20 | 0=>0 | n=>n,fun | n=>n⟩
theorem Fd7:Go.Proofs.Lays8.n4 Tryz.prog Ay0 where
 mixed:=by kernel_rfl
 f4:=⟨ "slices.Grow[[]cincture/poly.Term,cincture/poly.Term]",by decide,Tryz.func179.trans (congrArg some (by kernel_rfl))⟩
 t0:=Tryz.underlying0
 a0:=Tryz.isAgg0
 z0:=Tryz.sizeOf0
 v0:=Tryz.zeroValue0
 t3:=Tryz.underlying3
 a3:=Tryz.isAgg3
 z3:=Tryz.sizeOf3
 v3:=Tryz.zeroValue3
 t4:=Tryz.underlying4
 a4:=Tryz.isAgg4
 z4:=Tryz.sizeOf4
 v4:=Tryz.zeroValue4
 t9:=Tryz.underlying9
 a9:=Tryz.isAgg9
 z9:=Tryz.sizeOf9
 v9:=Tryz.zeroValue9
 t20:=Tryz.underlying20
 a20:=Tryz.isAgg20
 z20:=Tryz.sizeOf20
 v20:=Tryz.zeroValue20
 t22:=Tryz.underlying65
 a22:=Tryz.isAgg65
 z22:=Tryz.sizeOf65
 v22:=Tryz.zeroValue65
end Go.Proofs.YtkgeopnakkcdoaaGreatDoor
namespace Go.Proofs.YtkgeopnakkcdoaaGreatDoor
open Go Go.SX
theorem Es1 {W0:PW}{M:Nat->Prop}{n:Nat}(D:n<=1099511627776):
  Aa0 Tryz.prog 179 [.slice none 0 0,.int .i64 (n:Int)] W0 M λ v W'=>∃s:Sl,v=s.v/\Aq4 W0 s/\Go.SX.Own W' 169 6 s []:=by
 refine⟨⟨_,Tryz.func179,by kernel_rfl,by kernel_rfl⟩,λ f=>?_⟩
 by_cases j:n=0
 ·subst j
  have h:=Proofs.Any8.slices_Grow_room Fd7 none 0 0 0 W0.w (Nat.le_refl _) (by omega) (by omega) (by omega)
  change Calls Tryz.prog 179 _ _ _ at h
  refine Calls.mono h ?_;rintro e w' ⟨rfl,rfl⟩;exact⟨_,rfl,Am7.refl _ _,⟨none,0,0⟩,rfl,λ g c=>by simp[Sl.v,Value.ownBlock] at c,⟨by simp,rfl,.inl ⟨rfl,rfl⟩⟩,λ g c=>by simp[Sl.v,Value.ownBlock] at c⟩
 ·obtain⟨⟨inf,m,o,u,w⟩,_,_,E,_⟩:=Mm3
  have F:inf.size=6:=o;have x:inf.bytes=64:=u;have h:=Proofs.Any8.slices_Grow_grow Fd7 inf Mr0.zv m w (by omega) none 0 0 n [] W0.w (Nat.le_refl _) (by omega) (by rw[x];omega) (by omega) (by simp) (λ _=>rfl) (λ a y=>by cases y);have z:=grownCap_ge W0.w (0+n) 0 (Ay0.t 25);have d:=grownCap_le_maxLen W0.w (0+n) 0 (Ay0.t 25) (by simp only[maxLen];omega);obtain⟨G,A⟩: ∃G,G=grownCap W0.w (0+n) 0 (Ay0.t 25):=⟨_,rfl⟩;rw[<-A] at h z d
  change Calls Tryz.prog 179 _ _ _ at h
  refine Calls.mono h ?_;rintro e w' ⟨rfl,rfl⟩;refine⟨_,rfl,(Am7.alloc M W0.w.drew _).Fr9,⟨some ⟨W0.w.heap.size,0,none⟩,0,G⟩,rfl,λ g c=>?_,⟨by simp,rfl,.inr ⟨W0.w.heap.size,G,_,rfl,Nat.zero_le _,heap_alloc_new W0.w.drew _,Nat.zero_le _,d,?_,?_⟩⟩,λ g c B=>?_⟩
  ·simp[Sl.v,Value.ownBlock] at c
   omega
  ·have C:Mr0.zv.cells.size=6:=rfl
   simp only[Array.size_append,size_zeroCells,C];simp;omega
  ·simp
  ·simp[Sl.v,Value.ownBlock] at c
   have:=f g B;omega
end Go.Proofs.YtkgeopnakkcdoaaGreatDoor
namespace Go.Proofs.YtkgeopnakkcdoaaGreatDoor
open Go Go.SX
variable {K:Value->PW->Prop}{M:Nat->Prop}{W W0:PW}{b:Bool}{k l:Nat}{p q:List Tm}{r:Rat}{s sp sq:Sl}{ts:TypeId}
theorem Ep0 {t:TypeId}(h:Row W t 1 s [[sp.v],[sq.v]])(hk:k<2):Aa7 W s 1 k 0 [(if k=0 then sp else sq).v]:=by
 rcases(by omega:k=0\/k=1) with rfl | rfl
 ·exact h.part (x:=[sp.v]) rfl 0 rfl
 ·exact h.part (x:=[sq.v]) rfl 0 rfl
def Fw4 (n0:Nat) (W0:PW) (p q:List Tm) (l:List PL) (W:PW):Prop:=match l with
 | [.val (.slice A n c),.val (.int .i64 i)]=>∃(k:Nat) (xs:List (List Value)),i=(k:Int)/\k<=2/\Eo1 n0 W0 W/\Go.SX.Own W 169 6 ⟨A,n,c⟩ xs/\(∀g,(Value.slice A n c).ownBlock=some g->n0<=g)/\An5 (PT 257 W) xs (if k=0 then[] else if k=1 then p else p ++ q)
 | _=>False
theorem Dh9 (n:Row W0 ts 1 s [[sp.v],[sq.v]])(h1:Ab0 257 169 W0 sp p)(A:Ab0 257 169 W0 sq q)(X:p.length<=1073741824)(Y:q.length<=1073741824):
  Aa0 Tryz.prog 102 [s.v] W0 M λ v W'=>∃(s':Sl),v=Sl.v s'/\Ab0 257 169 W' s' (p ++ q):=by
 apply Ai2;have Z:s.n=2:=n.1;have n1:=h1.n;have n2:=A.n
 refine⟨λ l W=>match l with
  | [.val (.int .i64 a),.val (.int .i64 i)]=>W=W0/\∃k:Nat,i=(k:Int)/\k<=2/\a=(((if 0<k then p.length else 0)+(if 1<k then q.length else 0):Nat):Int)
  | _=>False,λ l _=>match l with | [_,.val (.int .i64 i)]=>2-i.toNat | _=>0,⟨rfl,0,rfl,by omega,by simp⟩,?_⟩
 rintro i3 i4 u ⟨rfl,k,rfl,hk,rfl⟩;refine⟨λ I=>?_,λ J=>?_⟩
 ·have c:k<2:=by omega
  have B:(if k=0 then sp else sq).n=if k=0 then p.length else q.length:=by split<;>assumption
  refine⟨n.inB (by omega) (by simp;omega),_,Ep0 n c,?_,λ h=>?_,λ h=>⟨by unfold I64;omega,⟨rfl,k+1,by push_cast;rfl,by omega,?_⟩,?_⟩⟩
  ·show I64 (_+(((if k=0 then sp else sq).n:Nat):Int))
   rw[B];unfold I64
   repeat' split
   all_goals omega
  ·have h:(_:Int)+(((if k=0 then sp else sq).n:Nat):Int)<0:=h
   omega
  ·show _+(((if k=0 then sp else sq).n:Nat):Int)=_
   rw[B];rcases(by omega:k=0\/k=1) with rfl | rfl<;>simp
  ·show 2-Int.toNat ((k:Int)+1)<2-Int.toNat (k:Int)
   omega
 have c:k=2:=by omega
 subst c;have L:(if 0<2 then p.length else 0)+(if 1<2 then q.length else 0)=p.length+q.length:=by simp
 rw[L];refine Aa2 (λ W' w=>Es1 (M:=λ _=>False) (by omega)) λ W' v W8 w N O=>?_;obtain⟨P,rfl,Q,hO⟩:=O;have R:=w.trans N;refine⟨P,rfl,Fw4 u.w.heap.size u p q,λ l _=>match l with | [_,.val (.int .i64 i)]=>2-i.toNat | _=>0,⟨0,[],rfl,by omega,R.toM _,hO,λ g d=>Nat.le_trans w.size (Q g d),trivial⟩,?_⟩;rintro x i13 o ⟨k,xs,rfl,hk,j,f,m,y⟩;have f:Go.SX.Own o 169 6 x xs:=f;have m: ∀g,x.v.ownBlock=some g->u.w.heap.size<=g:=m;refine⟨λ I=>?_,λ J ad C=>⟨x,rfl,?_⟩⟩
 ·have c:k<2:=by omega
  have D:=n.new j (Nat.le_refl _);obtain⟨E,r1,a1⟩:=h1.new j (Nat.le_refl _);obtain⟨F,r2,a2⟩:=A.new j (Nat.le_refl _);have S:Row o 169 6 (if k=0 then sp else sq) (if k=0 then E else F):=by split<;>assumption
  have G:An5 (PT 257 o) (if k=0 then E else F) (if k=0 then p else q):=by split<;>assumption
  have l1:=y.len;have T:=G.len;refine⟨D.inB (by omega) (by simp;omega),_,Ep0 D c,_,⟨_,S⟩,λ W' e=>⟨xs,f.ext e,λ g d=>.inr (m g d),?_,λ s' ag z U V=>⟨by unfold I64;omega,⟨k+1,_,by push_cast;rfl,by omega,(j.trans (e.toM _)).trans (z.mono λ g d=>m g d),U,λ g d=>?_,?_⟩,?_⟩⟩⟩
  ·rw[l1,T]
   rcases(by omega:k=0\/k=1) with rfl | rfl
   ·simp;omega
   ·simp;omega
  ·rcases V g d with h | h
   ·exact m g h
   ·exact Nat.le_trans (Nat.le_trans j.size e.size) h
  ·have b1:=y.mono λ _ _ h=>PT.own (f.ext e) z (by decide:257≠169) (h.ext e)
   have b2:=G.mono λ _ _ h=>PT.own (f.ext e) z (by decide:257≠169) (h.ext e);have H:=b1.append b2;rcases(by omega:k=0\/k=1) with rfl | rfl
   ·simpa using H
   ·simpa using H
  ·show 2-Int.toNat ((k:Int)+1)<2-Int.toNat (k:Int)
   omega
 ·have c:k=2:=by omega
  subst c;exact⟨xs,(f.ext C).row,(by simpa using y:An5 (PT 257 o) xs (p ++ q)).mono λ _ _ h=>h.ext C⟩
theorem Cn3 (c:Row W ts 1 s [[sp.v],[sq.v]])(h1:Ab0 257 169 W sp p)(d:Ab0 257 169 W sq q)(e:p.length<=1073741824)(f:q.length<=1073741824)(g: ∀(s':Sl) (W':PW),Ext W W'->(Ab0 257 169 W' s' (p ++ q))->K (Sl.v s') W'):
  Aa1 Tryz.prog W0 M 102 [s.v] W K:=
 Mi4 (λ _ a=>Dh9 (c.ext a) (h1.ext a) (d.ext a) e f) fun | _,W',a,⟨s',rfl,h⟩=>g s' W' a h
theorem Dz0 (h1:Ab0 257 169 W0 sp p)(d:Ab0 257 169 W0 sq q)(b1:Bd k p)(b2:Bd k q)(hk:k<=134217728)(a:p.length<=536870912)(h:q.length<=536870912):
  Aa0 Tryz.prog 35 [.agg ⟨[sp.v]⟩,.agg ⟨[sq.v]⟩] W0 M λ v W'=>∃(s':Sl),v = .agg ⟨[Sl.v s']⟩/\Ab0 257 169 W' s' (Ag2 (p ++ q)):=by
 apply Cw7;intro s1 j c hO _;refine Cn3 hO.row (h1.ext c) (d.ext c) (by omega) (by omega) λ e m n f=>⟨e,rfl,?_⟩;exact An2 f (b1.append b2) (by omega) (by simp;omega) λ s' o u a=>⟨s',rfl,λ w g=>⟨s',rfl,a.ext g⟩⟩
theorem Cw8 (h1:Ab0 257 169 W sp p)(c:Ab0 257 169 W sq q)(b1:Bd k p)(b2:Bd k q)(hk:k<=134217728)(d:p.length<=536870912)(e:q.length<=536870912)(f: ∀(s':Sl) (W':PW),Ext W W'->(Ab0 257 169 W' s' (Ag2 (p ++ q)))->K (.agg ⟨[Sl.v s']⟩) W'):
  Aa1 Tryz.prog W0 M 35 [.agg ⟨[sp.v]⟩,.agg ⟨[sq.v]⟩] W K:=
 Mi4 (λ _ a=>Dz0 (h1.ext a) (c.ext a) b1 b2 hk d e) fun | _,W',a,⟨s',rfl,h⟩=>f s' W' a h
def pmap (p:List Tm) (r:Rat):List Tm:=p.map λ t=>(t.1,t.2*r)
theorem Fit.pmap {D:Nat}{E:Nat}{N:Nat}{n:Nat}(h:Fit D N p)(c:Ak3 E n r):Fit (D*E) (N*n) (pmap p r):=by
 induction p generalizing N with
 | nil=>trivial
 | cons t p ih=>
  obtain⟨a,b,h1,d,e⟩:=h;exact⟨a*n,b*n,by rw[<-Nat.add_mul];exact Nat.mul_le_mul_right _ h1,d.mul c,ih e⟩
theorem Bd.pmap (h:Bd k p)(a:Sz l r):Bd (k+l) (pmap p r):=by
 obtain⟨D,N,h1,c,d,e⟩:=h;have f:=Ae5 D r.den;have g:=Ae5 N r.num.natAbs;have j:=a.1;have m:=a.2;exact⟨D*r.den,N*r.num.natAbs,Fit.pmap h1 (Ak3.den r),Nat.mul_ne_zero c r.den_nz,by omega,by omega⟩
theorem Cs2 {t:Sl}(h1:Ab0 257 169 W0 sp p)(G:Ab3 257 W0 s b t r)(b1:Bd k p)(b2:Sz l r)(hk:k<=134217728)(n:l<=134217728)(o:p.length<=1073741824):
  Aa0 Tryz.prog 36 [.agg ⟨[sp.v]⟩,.agg ⟨[s.v,.bool b,t.v]⟩] W0 M λ v W'=>∃(s':Sl),v = .agg ⟨[Sl.v s']⟩/\Ab0 257 169 W' s' (Ag2 (pmap p r)):=by
 apply Cb6;have H:=h1;obtain⟨xs,I,w⟩:=H;have hlen:=w.len;refine Ba1 I (by omega) λ s3 X y ⟨z,hO⟩=>⟨s3,rfl,?_⟩
 refine⟨λ l W=>match l with
  | [.val (.int .i64 i)]=>∃(j:Nat) (e:List (List Value)),i=(j:Int)/\j<=p.length/\Eo1 W0.w.heap.size W0 W/\Go.SX.Own W 169 6 s3 e/\An5 (PT 257 W) e (pmap (p.take j) r ++ p.drop j)
  | _=>False,λ l _=>match l with | [.val (.int .i64 i)]=>p.length-i.toNat | _=>0,⟨0,xs,rfl,by omega,y.toM _,hO,by simpa[pmap] using w.mono λ _ _ h=>h.ext y⟩,?_⟩
 rintro i6 Y ⟨j,e,rfl,Z,A,c,a⟩;have aa:s3.n=p.length:=by rw[c.row.1,a.len];simp[pmap];omega
 refine⟨λ ab=>?_,λ ac=>?_⟩
 ·have d:j<p.length:=by omega
  have B:inB s3 (j:Int):=c.row.inB (by omega) (by rw[a.len];simp[pmap];omega);have f:(pmap (p.take j) r ++ p.drop j)[j]?=some p[j]:=by
   rw[List.getElem?_append_right (by simp[pmap];omega),List.getElem?_drop];simp[pmap,Nat.min_eq_left (Nat.le_of_lt d),d]
  obtain⟨x,C,J,L,N,O,rfl,P⟩:=a.get f;refine⟨B,L,N,O,c.row.part C 3 rfl,Ak9 P (G.new A (Nat.le_refl _)) (b1.sz _ (List.getElem_mem d)) b2 (by omega) (by omega) λ D E F ad m Q=>⟨D,E,F,rfl,B,?_⟩⟩;refine Dm0 (j:=j) (c.ext m) C (by simp) (λ u hu=>?_) (λ g f=>.inr (z g f)) λ ae g R hw S=>⟨by unfold I64;omega,⟨j+1,_,by push_cast;rfl,by omega,(A.trans (m.toM _)).trans (hw.Fi8 (z g R)),S,?_⟩,?_⟩
  ·simp only[List.mem_cons,List.not_mem_nil,or_false] at hu
   rcases hu with rfl | rfl | rfl<;>rfl
  ·have T:pmap (p.take (j+1)) r ++ p.drop (j+1)=(pmap (p.take j) r ++ p.drop j).set j (p[j].1,p[j].2*r):=by
    rw[As0 d,List.drop_eq_getElem_cons d];have n:(pmap (p.take j) r).length=j:=by simp[pmap];omega
    rw[List.set_append_right _ _ (by omega),n,Nat.sub_self,List.set_cons_zero,show pmap (p.take j ++ [p[j]]) r=pmap (p.take j) r ++ [(p[j].1,p[j].2*r)] from List.map_append,List.append_assoc];rfl
   rw[T];exact(a.mono λ _ _ h=>(h.ext m).wr hw (by decide)).set j ⟨J,D,E,F,rfl,hw.rat Q (by decide)⟩
  ·show p.length-Int.toNat ((j:Int)+1)<p.length-Int.toNat (j:Int)
   omega
 ·have U:j=p.length:=by omega
  subst U;rw[List.take_length,List.drop_length,List.append_nil] at a;exact An2 (Bf5 c.row a) (Bd.pmap b1 b2) (by omega) (by simp[pmap];omega) λ s' af ag o=>⟨s',rfl,λ ah V=>⟨s',rfl,o.ext V⟩⟩
theorem Cb0 {t:Sl}(h1:Ab0 257 169 W sp p)(c:Ab3 257 W s b t r)(b1:Bd k p)(b2:Sz l r)(hk:k<=134217728)(d:l<=134217728)(e:p.length<=1073741824)(f: ∀(s':Sl) (W':PW),Ext W W'->(Ab0 257 169 W' s' (Ag2 (pmap p r)))->K (.agg ⟨[Sl.v s']⟩) W'):
  Aa1 Tryz.prog W0 M 36 [.agg ⟨[sp.v]⟩,.agg ⟨[s.v,.bool b,t.v]⟩] W K:=
 Mi4 (λ _ a=>Cs2 (h1.ext a) (c.ext a) b1 b2 hk d e) fun | _,W',a,⟨s',rfl,h⟩=>f s' W' a h
theorem Ew2 (p:List Tm)(r:Rat):(pmap p r).length=p.length:=by simp[pmap]
theorem Ec4 (h1:Ab0 257 169 W0 sp p)(g:Ab0 257 169 W0 sq q)(b1:Bd k p)(b2:Bd k q)(hk:k<=67108864)(A:p.length<=536870912)(B:q.length<=536870912):
  Aa0 Tryz.prog 55 [.agg ⟨[sp.v]⟩,.agg ⟨[sq.v]⟩] W0 M λ v W'=>∃(s':Sl),v = .agg ⟨[Sl.v s']⟩/\Ab0 257 169 W' s' (Ag2 (p ++ pmap q (-1))):=by
 apply Cs5;refine Ay8 (z:=-1) (by unfold I64;omega) λ s3 h j C a n=>⟨s3,h,j,rfl,?_⟩;have c:((-1:Int):Rat) = -1:=by rfl
 have d:Sz 1 ((-1:Int):Rat):=by rw[c];exact(Sz.one (Nat.le_refl 1)).neg
 refine Cb0 (g.ext a) n b2 d (by omega) (by omega) (by omega) λ o D u w=>⟨o,rfl,?_⟩;have hlen:=El2 (pmap q ((-1:Int):Rat));rw[Ew2] at hlen;refine Cw8 (h1.ext (a.trans u)) w (b1.mono (by omega:k<=k+1)) (Bd.norm (Bd.pmap b2 d)) (by omega) (by omega) (by omega) λ f E F x=>⟨f,rfl,λ G y=>⟨f,rfl,?_⟩⟩;have e:Ag2 (p ++ Ag2 (pmap q ((-1:Int):Rat)))=Ag2 (p ++ pmap q (-1)):=Bc1 λ m=>by rw[Au2,Au2,Bh2,c]
 rw[<-e];exact x.ext y
theorem Db2 (h1:Ab0 257 169 W sp p)(c:Ab0 257 169 W sq q)(b1:Bd k p)(b2:Bd k q)(hk:k<=67108864)(d:p.length<=536870912)(e:q.length<=536870912)(f: ∀(s':Sl) (W':PW),Ext W W'->(Ab0 257 169 W' s' (Ag2 (p ++ pmap q (-1))))->K (.agg ⟨[Sl.v s']⟩) W'):
  Aa1 Tryz.prog W0 M 55 [.agg ⟨[sp.v]⟩,.agg ⟨[sq.v]⟩] W K:=
 Mi4 (λ _ a=>Ec4 (h1.ext a) (c.ext a) b1 b2 hk d e) fun | _,W',a,⟨s',rfl,h⟩=>f s' W' a h
end Go.Proofs.YtkgeopnakkcdoaaGreatDoor
namespace Go.Proofs.YtkgeopnakkcdoaaGreatDoor
open Go Go.SX
def Ct4 (p q:List Tm):Prop:=∀a∈p,∀b∈q,(a.1.add b.1).ok
instance (p q:List Tm):Decidable (Ct4 p q):=by unfold Ct4;infer_instance
def Fo9 (g:Nat) (sp sq:Sl) (p q:List Tm) (D N:Nat) (l:List PL) (W:PW):Prop:=match l with
 | [.val (.int .i64 i),_]=>∃j:Nat,i=(j:Int)/\j<=p.length/\Ab0 257 169 W sp p/\Ab0 257 169 W sq q/\Ct4 (p.take j) q/\∃es c E a b,Ai4 257 W g es c E/\Dp6 D (An8 (p.take j) q) a E/\Fit D b (An8 (p.drop j) q)/\a+b<=N
 | _=>False
def cn1 (n:Nat) (l:List PL) (W:PW):Nat:=match l with
 | .val (.int .i64 i) :: _=>n-i.toNat
 | _=>0
end Go.Proofs.YtkgeopnakkcdoaaGreatDoor
namespace Go.Proofs.YtkgeopnakkcdoaaGreatDoor
open Go Go.SX
end Go.Proofs.YtkgeopnakkcdoaaGreatDoor
namespace Go.Proofs.YtkgeopnakkcdoaaGreatDoor
open Go Go.SX
theorem Ce0 {α:Type}{j:Nat}{l:List α}(h:j<l.length):l.take (j+1)=l.take j ++ [l[j]]:=by
 rw[List.take_add_one,List.getElem?_eq_getElem h];rfl
end Go.Proofs.YtkgeopnakkcdoaaGreatDoor
namespace Go.Proofs.YtkgeopnakkcdoaaGreatDoor
open Go Go.SX
def cnL (n:Nat) (l:List PL) (W:PW):Nat:=match l with
 | [_,.val (.int .i64 i)]=>n-i.toNat
 | _=>0
end Go.Proofs.YtkgeopnakkcdoaaGreatDoor
namespace Go.Proofs.YtkgeopnakkcdoaaGreatDoor
open Go Go.SX
theorem Fl0:Sz 1 (1:Rat):=Sz.one (Nat.le_refl 1)
theorem En2:Bd 7 (Dc6 0):=(Cq4 (m:=Da3 0) Fl0).mono (by decide)
end Go.Proofs.YtkgeopnakkcdoaaGreatDoor
namespace Go.Proofs.YtkgeopnakkcdoaaGreatDoor
open Go Go.SX
theorem Dd0 {W:PW}{t:TypeId}{sz:Nat}:Go.SX.Own W t sz ⟨none,0,0⟩ []:=⟨⟨by simp,by simp,.inl ⟨rfl,rfl⟩⟩,λ g a=>by simp[Sl.v,Value.ownBlock] at a⟩
end Go.Proofs.YtkgeopnakkcdoaaGreatDoor
