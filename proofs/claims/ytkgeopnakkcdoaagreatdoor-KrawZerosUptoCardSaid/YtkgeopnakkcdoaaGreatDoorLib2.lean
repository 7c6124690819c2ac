import Derived.RangeFuncWrites
import Derived.RangeFuncLeaves
import Derived.RangeFuncBox
import Derived.Test.YtkgeopnakkcdoaaGreatDoorSx1
import Derived.RangeFuncIn
import Derived.WalkKit
import Derived.OrdersIn
import Derived.OrdersHeld
import Derived.Test.YtkgeopnakkcdoaaGreatDoorLib1
import Derived.Laws.Externs
import Derived.Test.YtkgeopnakkcdoaaGreatDoorSx2
set_option linter.unusedVariables false
set_option linter.unusedSimpArgs false
namespace Go.SX
open Go Go.RowKit
variable {W:World}{o:Obj}{β:Type}
variable {F:Fence} {n:Nat} {P:Program}
theorem Ao2 (w:World)(a:Addr)(v:Value):(w.setCell a v).drawn=w.drawn:=by unfold World.setCell;(repeat' split)<;>rfl
def Af7 {β:Type} (B:Nat) (I:β->World->Prop):Prop:=
 ∀s W W' row,I s W->W.grownBy W' row->W.drawn<=W'.drawn->(∀r,row=some r->B<=r/\∃o:Obj,W.heap[r]?=some o/\o.isCells=false)->I s W'
theorem Af7.putObj {B:Nat}{I:β->World->Prop}(h:Af7 B I){s:β}{l:Nat}(o':Obj)(c:I s W)(f:B<=l)(p:W.heap[l]?=some o)(u:o.isCells=false):I s (W.putObj l o'):=
 h s W _ (some l) c (grownBy_putObj' W l o') (Nat.le_refl _) (λ r e=>by cases e;exact⟨f,o,p,u⟩)
theorem Af7.alloc {B:Nat}{I:β->World->Prop}(h:Af7 B I){s:β}(o:Obj)(c:I s W):I s (W.alloc o):=
 h s W _ none c (World.grownBy_alloc W o none) (Nat.le_refl _) (λ r e=>by cases e)
theorem Af7.and {B:Nat}{I c:β->World->Prop}(h:Af7 B I)(v:Af7 B c):Af7 B (λ s W=>I s W/\c s W):=λ s W W' row e f p u=>⟨h s W W' row e.1 f p u,v s W W' row e.2 f p u⟩
theorem Own.Ey9 {I:β->World->Prop}(h:Go.Own I)(B:Nat):Af7 B I:=λ s W W' row c f _ p=>h s W W' row c f (λ r e=>(p r e).2)
structure An0 (w W:World):Prop where
 b:Below w.heap.size w W
 d:w.drawn<=W.drawn
theorem An0.setCell {p:Addr}{w:World}(h:An0 w W)(c:w.heap.size<=p.block)(v:Value):An0 w (W.setCell p v):=⟨h.b.setCell c v,by rw[Ao2];exact h.d⟩
theorem An0.put {o':Obj}{w:World}(h:An0 w W){D:Nat}(c:w.heap.size<=D)(e:W.heap[D]?=some o)(h1:o.isCells=false)(f:o.isWalk=false):An0 w (W.putObj D o'):=⟨h.b.trans (belowK_b (w:=w) (Nat.le_refl _) W D o o' c e h1 f),h.d⟩
theorem Am0 {B:Nat}{w:World}(e:w.heap.size<=B):Af7 B (λ(_:β) W=>An0 w W):=λ s W W' row c f h p=>⟨ownFrom_below (β:=β) (Nat.le_refl _) e s W W' row c.b f p,Nat.le_trans c.d h⟩
def Bv9 {α:Type} (F:Fence) (n:Nat) (P:Program) (g:Nat) (lb:Array Value) (h:α->Array Value) (Mem:List α->World->Prop) (p:List α->α->Prop) (S u:List α->Prop):Prop:=
 ∀(l:Nat) (J c:List α->World->Prop) (W:World),(∀pre W',J pre W'->Mem pre W')->
  (∀pre x f,J pre f->p pre x->YieldAt F (n-1) P l (h x) f λ e W'=>(e = .returned (.bool true)/\J (pre ++ [x]) W')\/(e = .returned (.bool false)/\c (pre ++ [x]) W'))->
  J [] W->
  CallsIn F n P g (#[.func (.yield l) #[] #[]] ++ lb) W λ e W'=>(∃v,e = .returned v)/\((∃xs,S xs/\J xs W')\/(∃pre,u pre/\c pre W'))
def Fs8 {α:Type} (B:Nat) (I:List α->World->Prop) (c:Code->List α->World->Prop) (xs:List α) (W:World):Exit->Act->World->Prop:=
 ownPostG B (λ _ _=>True) I c xs W
theorem As7 {α:Type}{g:Operand}{O:Array Tmp}{assign:Code}{body:Code}{Q:Exit->Act->World->Prop}{a:Act}{lb:Array Value}{w:World}(af:F.round=none)(h1:1<=n){gf:Nat}(hg:a.eval g = .func (.func gf) #[] lb)(ah:F.fn gf)(eg: ∀args w,(callFunc gf args).run P w = .ok (.enter gf args) w){R:α->Array Value}{Mem:List α->World->Prop}{Nx:List α->α->Prop}{S Sp:List α->Prop}(aj:Bv9 F (n-1) P gf lb R Mem Nx S Sp)(ak: ∀x,(R x).size=O.size)(I:List α->World->Prop)(T:Code->List α->World->Prop)(L:Af7 w.heap.size I)(U: ∀c,Af7 w.heap.size (T c))(al: ∀pre W,I pre W->Mem pre W)(h0:I [] w)(ac :α->Act)(an: ∀(l:Nat) (x:α) (W:World) (K:Act->World->Prop),K (ac x) W->
   assign.wpIn (F.inRound l) (n-1-1) P (Exit.then K (λ _ _ _=>False)) {tmps:=(O.zip (R x)).foldl (λ t (p,v)=>t.setIfInBounds p v) a.tmps,defers:=[] } W)(ao: ∀(l:Nat) (pre:List α) (x:α) (W:World),I pre W->Nx pre x->body.wpIn (F.inRound l) (n-1-1) P (Fs8 w.heap.size I T (pre ++ [x]) W) (ac x) W)(ap: ∀(D:Nat) (xs:List α) (W:World),w.heap.size<=D->S xs->I xs W->W.heap[D]?=some (.deferred (some []))->Q .normal {a with defers:={target:=.collected D,args:=#[] }::a.defers } W)(aq: ∀(D:Nat) (c:Code) (pre:List α) (W:World),w.heap.size<=D->Sp pre->T c pre W->W.heap[D]?=some (.deferred (some []))->c.wpIn F n P Q {a with defers:={target:=.collected D,args:=#[] }::a.defers } W):
  (Code.rangeFunc g O assign body).wpIn F n P Q a w:=by
 refine wpIn_rangeFunc λ fn ar=>?_;rw[af]
 let Z:LoopState->Option Code->Loop:=λ st pe=>{state:=st,pending:=pe,fn,tmps:=a.tmps,params:=O,assign,body,defers:=w.heap.size }
 obtain⟨r,y⟩: ∃r,r=Z:=⟨_,rfl⟩;obtain⟨V,X⟩: ∃V,(w.alloc (.deferred (some []))).alloc (.loop (r .ready none))=V:=⟨_,rfl⟩;have hL:V.heap[w.heap.size+1]?=some (.loop (r .ready none)):=by
  rw[<-X];have:=World.alloc_heap_new (w.alloc (.deferred (some []))) (.loop (r .ready none))
  rwa [World.size_alloc] at this
 have hD:V.heap[w.heap.size]?=some (.deferred (some [])):=by
  rw[<-X];exact(Below.heap_alloc _ _ _ (by simp)).trans (World.alloc_heap_new w _)
 have aw:I [] V:=by
  rw[<-X];exact L.alloc _ (L.alloc _ h0)
 refine⟨w.heap.size+1,[{target:=.collected w.heap.size,args:=#[] }],V,{target:=.fn (.func gf) lb,args:=#[.func (.yield (w.heap.size+1)) #[] #[]] },V,gf,#[.func (.yield (w.heap.size+1)) #[] #[]] ++ lb,V,?_,?_,?_,?_,λ _=>h1,?_⟩
 ·rw[<-X,y]
  exact run_enterLoop_outer _ _ _ _ _
 ·simp only[resolve,hg]
  simp[go_sem]
 ·intro f' ad
  simp[Target.leads] at ad;subst ad;exact ah
 ·simp[invoke,go_sem,eg]
 refine(aj (w.heap.size+1)
  (λ pre W=>I pre W/\W.heap[w.heap.size+1]?=some (.loop (r .ready none))/\W.heap[w.heap.size]?=some (.deferred (some [])))
  (λ pre W=>∃c,T c pre W/\W.heap[w.heap.size+1]?=some (.loop (r .done (some c)))/\W.heap[w.heap.size]?=some (.deferred (some [])))
  V (λ pre W' h=>al pre W' h.1) ?_ ⟨aw,hL,hD⟩).mono ?_
 ·rintro pre x W ⟨hi,A,hk⟩ ax
  have ay:w.heap.size+1<W.heap.size:=(Array.getElem?_eq_some_iff.1 A).1;have hy:=run_yield (P:=P) (args:=R x) A (by rw[y];exact ak x);rw[y] at hy;refine⟨fn,_,assign,body,hy,roundIn_of_wpIn ar (an _ x W _ ⟨_,run_beginRound A (by rw[y]),?_⟩)⟩;obtain⟨C,Y⟩: ∃C,W.putObj (w.heap.size+1) (.loop {r .ready none with state:=.busy })=C:=⟨_,rfl⟩;rw[Y];have az:C.heap[w.heap.size+1]?=some (.loop {r .ready none with state:=.busy }):=by rw[<-Y];exact World.putObj_heap_same ay
  have aA:C.heap[w.heap.size]?=some (.deferred (some [])):=by rw[<-Y];exact(World.putObj_heap_other (by omega)).trans hk
  have aB:I pre C:=by rw[<-Y];exact L.putObj _ hi (by omega) A rfl
  refine wpIn_mono (ao _ pre x _ aB ax) ?_;have fin: ∀(jump:Option Code) (f:World),KeepsFrom w.heap.size C f->
    (Instr.endRound (w.heap.size+1) jump).run P f = .ok (.bool jump.isNone) (f.putObj (w.heap.size+1) (.loop (r (if jump.isNone then .ready else .done) jump)))/\
    f.heap[w.heap.size+1]?=some (.loop {r .ready none with state:=.busy })/\
    (f.putObj (w.heap.size+1) (.loop (r (if jump.isNone then .ready else .done) jump))).heap[w.heap.size+1]?=some (.loop (r (if jump.isNone then .ready else .done) jump))/\
    (f.putObj (w.heap.size+1) (.loop (r (if jump.isNone then .ready else .done) jump))).heap[w.heap.size]?=some (.deferred (some [])):=λ jump f B=>by
   have u:=B.same _ _ (by omega) az rfl;have:=run_endRound (P:=P) jump u;rw[y] at this⊢;exact⟨this,by rw[y] at u;exact u,World.putObj_heap_same (Array.getElem?_eq_some_iff.1 u).1,(World.putObj_heap_other (by omega)).trans (B.same _ _ (Nat.le_refl _) aA rfl)⟩
  rintro e a3 f J
  cases e with
  | normal=>
   obtain⟨B,_,E⟩:=J;obtain⟨he,u,G,H⟩:=fin none f B;exact⟨_,_,he,.inl ⟨rfl,L.putObj _ E (by omega) u rfl,G,H⟩⟩
  | ret=>
   obtain⟨B,E⟩:=J;obtain⟨he,u,G,H⟩:=fin (some .ret) f B;exact⟨_,_,he,.inr ⟨rfl,.ret,(U _).putObj _ E (by omega) u rfl,G,H⟩⟩
  | exit id=>
   obtain⟨B,E⟩:=J;obtain⟨he,u,G,H⟩:=fin (some (.exit id)) f B;exact⟨_,_,he,.inr ⟨rfl,.exit id,(U _).putObj _ E (by omega) u rfl,G,H⟩⟩
  | goto t=>
   obtain⟨B,E⟩:=J;obtain⟨he,u,G,H⟩:=fin (some (.goto t)) f B;exact⟨_,_,he,.inr ⟨rfl,.goto t,(U _).putObj _ E (by omega) u rfl,G,H⟩⟩
  | panic ch=>exact J.elim
  | outgrown=>exact J.elim
 ·rintro e C ⟨⟨v,rfl⟩,(⟨xs,hS,hi,A,hk⟩ | ⟨pre,aD,c,hi,A,hk⟩)⟩
  ·exact⟨none,_,by have:=run_endLoop (P:=P) A (by rw[y];simp[Z]);rw[y] at this;exact this,ap _ xs _ (Nat.le_refl _) hS (L.putObj _ hi (by omega) A rfl) ((World.putObj_heap_other (by omega)).trans hk)⟩
  ·exact⟨some c,_,by have:=run_endLoop (P:=P) A (by rw[y];simp[Z]);rw[y] at this;exact this,aq _ c pre _ (Nat.le_refl _) aD ((U c).putObj _ hi (by omega) A rfl) ((World.putObj_heap_other (by omega)).trans hk)⟩
end Go.SX
namespace Go.SX
open Go
variable {l:Nat}
variable {P:Program} {ops:Array Oper} {Q:Exit->Act->World->Prop} {md:Region.Mode}
theorem Ek9 {n:Nat}{row:String}{args:Array Value}{w:World}{R:Value->World->Prop}(h:Rows P row args w R):RowsIn (Fence.wide.inRound l) n P row args w R:=by
 intro c cs f;obtain⟨v,w',h1,e⟩:=h c cs;exact⟨v,w',h1,stepsIn_wide.2 e⟩
theorem Ed3 {r:Result Next}{n:Nat}{o:Oper}{a:Act}{next:Act->World->Prop}(h:o.upon P a next Q r):o.uponIn (Fence.wide.inRound l) n P a next Q r:=by
 cases r with
 | ok v w'=>
  cases v with
  | enter f args=>exact⟨λ e=>(by cases e),callsIn_wide.2 h⟩
  | row r args=>exact⟨λ e=>(by cases e),Ek9 h⟩
  | round=>exact h.elim
  | value v=>exact h
  | skip=>exact h
  | defer d=>exact h
  | _=>exact h.elim
 | halt x w'=>
  cases x<;>first | exact h | exact h.elim
theorem Ej1 {i:Nat}{n:Nat}{a:Act}{w:World}{K:Act->World->Prop}(f: ∀(j:Nat) (o:Oper),ops[j]?=some o->∀c,o.op≠.defer c)(p:¬LetsOut Q)(h:wpOp P ops Q i K a w):wpOpIn (Fence.wide.inRound l) n P ops Q i K a w:=by
 unfold wpOpIn;unfold wpOp at h
 cases e:ops[i]? with
 | none=>simpa[e] using h
 | some o=>
  simp only[e] at h⊢;split
  ·rename_i hw
   rw[if_pos hw] at h;refine⟨λ _ _=>trivial,?_⟩;rw[Oper.semAt_eq _ _ _ (f i o e)];rcases h with h | h
   ·exact Ed3 h
   ·exact absurd h.2 p
  ·rename_i hw
   rw[if_neg hw] at h;exact⟨λ _ _=>trivial,h⟩
theorem Ce9 {n:Nat}(e: ∀(j:Nat) (o:Oper),ops[j]?=some o->∀c,o.op≠.defer c)(f:¬LetsOut Q): ∀(fuel:Nat) (listed:Array Bool) (a:Act) (w:World),wpAny P md ops Q fuel listed a w->wpAnyIn (Fence.wide.inRound l) n P md ops Q fuel listed a w
 | 0,_,_,_,h=>h
 | fuel+1,_,_,_,h=>⟨h.1,λ i hi=>Ej1 e f (wpOp_mono (λ a' w' p=>Ce9 e f fuel _ a' w' p) (h.2 i hi))⟩
theorem Cq1 {id:Nat}{n:Nat}{S:World->Prop}{a:Act}{w:World}(hm:P.follows .mixedOrders=true)(e: ∀(j:Nat) (o:Oper),ops[j]?=some o->∀c,o.op≠.defer c)(f:¬LetsOut Q)(h:wpAnyH P .any ops Q S ops.size (Array.replicate ops.size false) a w.drew):(Code.region id ops true).wpIn (Fence.wide.inRound l) n P Q a w:=
 wpIn_region_any hm (Ce9 e f _ _ _ _ (wpAny_of_held _ _ _ _ h))
end Go.SX
namespace Go.SX
variable {a:ByteArray}{x:Nat}{z:Int}
def sb (a:ByteArray) (i:Nat):Nat:=if h:i<a.size then(a[i]'h).toNat else 0
theorem Ao5 (a:ByteArray)(i:Nat):Ae2 a i=(sb a i:Int):=by
 unfold Ae2 sb;split<;>rfl
def dv (a:ByteArray):Nat->Nat
 | 0=>0
 | i+1=>dv a i*10+(sb a i-48)
def Cv5 (a:ByteArray):Prop:=a.size≠0/\a.size<=4000/\¬(sb a 0=48/\1<a.size)/\∀i,i<a.size->48<=sb a i/\sb a i<=57
instance (a:ByteArray):Decidable (Cv5 a):=inferInstanceAs (Decidable (_/\_))
def Ad2 (a:ByteArray):Option Nat:=if Cv5 a then some (dv a a.size) else none
def Ac3 (a:ByteArray):Option Int:=if 0<a.size/\sb a 0=45 then
  (match Ad2 (a.extract 1 a.size) with
  | some x=>if x=0 then none else some (-(x:Int))
  | none=>none)
 else(Ad2 a).map λ x=>(x:Int)
def Al7 (a:ByteArray) (c:Nat):Nat->Nat->Option Nat
 | 0,_=>none
 | n+1,i=>if sb a i=c then some i else Al7 a c n (i+1)
def Ak5 (a:ByteArray):Option Nat:=Al7 a 47 a.size 0
def Ab7 (a:ByteArray):Option Rat:=match Ak5 a with
 | none=>(Ac3 a).map λ(z:Int)=>(z:Rat)
 | some i=>match Ac3 (a.extract 0 i),Ad2 (a.extract (i+1) a.size) with
  | some n,some d=>if d<2\/Nat.gcd d n.natAbs≠1 then none else some (mkRat n d)
  | _,_=>none
theorem Fl3 {a:ByteArray}(h: ∀i,i<a.size->48<=sb a i/\sb a i<=57): ∀{k:Nat},k<=a.size->dv a k<10^k
 | 0,_=>by simp[dv]
 | k+1,hk=>by
  have h1:=Fl3 h (k:=k) (by omega);have c:=h k (by omega);simp only[dv,Nat.pow_succ];omega
theorem Bq9 (h:Ad2 a=some x):x<10^a.size/\a.size<=4000:=by
 unfold Ad2 at h;split at h
 ·rename_i c
  cases h;exact⟨Fl3 c.2.2.2 (Nat.le_refl _),c.2.1⟩
 ·cases h
theorem Ee2 (k:Nat):10^k<=B^k:=Nat.pow_le_pow_left (by decide) k
theorem Ei8 {k:Nat}{n:Nat}(h:x<10^k)(hk:k<=n):nl x<=n:=Bc6 (Nat.lt_of_lt_of_le h (Nat.le_trans (Ee2 k) (Nat.pow_le_pow_right Ad3 hk)))
theorem Ap1 (h:Ad2 a=some x):nl x<=4000:=by
 obtain⟨h1,c⟩:=Bq9 h;exact Ei8 h1 c
theorem Av3 (h:Ad2 a=some x)(c:a.size<=20):nl x<=3:=by
 obtain⟨h1,_⟩:=Bq9 h;apply Bc6;have e:10^a.size<=10^20:=Nat.pow_le_pow_right (by decide) c;have f:10^20<=B^3:=by decide
 omega
theorem Be9 (h:Ac3 a=some z):nl z.natAbs<=4000:=by
 unfold Ac3 at h;split at h
 ·split at h
  ·rename_i x e
   split at h
   ·cases h
   ·cases h;rw[Int.natAbs_neg,Int.natAbs_natCast];exact Ap1 e
  ·cases h
 ·cases c:Ad2 a with
  | none=>rw[c] at h;cases h
  | some x=>
   rw[c] at h;cases h;exact Ap1 c
theorem Bk5 (h:Ac3 a=some z)(e:a.size<=20):nl z.natAbs<=3:=by
 unfold Ac3 at h;split at h
 ·split at h
  ·rename_i x f
   split at h
   ·cases h
   ·cases h;rw[Int.natAbs_neg,Int.natAbs_natCast];exact Av3 f (by rw[ByteArray.size_extract];omega)
  ·cases h
 ·cases c:Ad2 a with
  | none=>rw[c] at h;cases h
  | some x=>
   rw[c] at h;cases h;exact Av3 c e
theorem Aw6 {q:Rat}(h:Ab7 a=some q):Sz 4000 q/\(a.size<=20->Sz 3 q):=by
 unfold Ab7 at h;split at h
 ·cases c:Ac3 a with
  | none=>rw[c] at h;cases h
  | some z=>
   rw[c] at h;cases h;exact⟨⟨by rw[Rat.num_intCast];exact Be9 c,by rw[Rat.den_intCast,Ax0];omega⟩,λ e=>⟨by rw[Rat.num_intCast];exact Bk5 c e,by rw[Rat.den_intCast,Ax0];omega⟩⟩
 ·split at h
  ·rename_i n d f p
   split at h
   ·cases h
   ·rename_i i _ v
    cases h;have u:d≠0:=by omega
    exact⟨Sz.mk (Be9 f) (Ap1 p) u,λ e=>Sz.mk (Bk5 f (by rw[ByteArray.size_extract];omega)) (Av3 p (by rw[ByteArray.size_extract];omega)) u⟩
  ·cases h
end Go.SX
namespace Go.SX
variable {W:PW}{a:ByteArray}{d k:Nat}{l:List Nat}{s:Sl}{t:TypeId}
theorem Own.put {W':PW}{us:List Nat}{ws:List Nat}{g:Nat}{cs:Array Value}(h:Own W t 1 s (cel us))(hm:Mut W t s g 0 cs us)(f:Aq5 W W' g cs t 0 (cv ws))(y:ws.length=us.length):Own W' t 1 s (cel ws):=by
 obtain⟨⟨h1,hlen,A⟩,G⟩:=h;have H:=hm.n;refine⟨⟨Es6 ws,?_,?_⟩,λ b p=>?_⟩
 ·rw[Al2,Ag7,Aa5];omega
 ·rcases A with⟨e,u⟩ | ⟨B,cap,cur,e,u,C,h1,D,E,I⟩
  ·have c:=hm.A
   simp only[Sl.v,Value.slice.injEq] at e;rw[e.1] at c;cases c
  ·have c:s.A=some ⟨B,0,none⟩/\s.n=(cel us).length/\s.c=cap:=by simpa[Sl.v] using e
   have v:=hm.A;rw[c.1] at v;cases v;have w:=hm.heap;rw[C] at w;cases w;refine .inr ⟨g,cap,_,?_,u,f.heap,by rw[Aa5] at *;omega,D,?_,?_⟩
   ·rw[e,Aa5,Aa5,y]
   ·simp only[List.size_toArray,Bf4];simpa using E
   ·rw[Al2,Aa5,Nat.mul_one]
    apply List.ext_getElem?;intro k;rw[List.getElem?_take];have J:=hm.room;split
    ·rename_i hk
     rw[Ap0,if_pos (by rw[Ag7];simp;omega),Nat.sub_zero]
    ·rename_i hk
     rw[List.getElem?_eq_none (by rw[Ag7];omega)]
 ·have c:s.A=some ⟨g,0,none⟩:=hm.A
  have:b=g:=by simp[Sl.v,Value.ownBlock,c] at p;exact p.symm
  rw[this];exact f.S
theorem Own.n {xs:List (List Value)}{sz:Nat}(h:Own W t sz s xs):s.n=xs.length:=h.row.1
theorem grow_step {z:Nat}{u:Nat}{p:Nat}{b:Nat}{y:Nat}{c:Nat}(h:z+p*c=u*b+y):z+p*((c+d*b)%B)+(p*B)*((c+d*b)/B)=(u+p*d)*b+y:=by
 have:=Nat.mod_add_div (c+d*b) B;have e:p*((c+d*b)%B)+(p*B)*((c+d*b)/B)=p*(c+d*b):=by rw[<-this];grind
 grind
theorem Cx9 (h:d≠0):Trim (l ++ [d]):=by
 unfold Trim;rw[List.getLast?_append]
 simpa using h
theorem Ek5 (c:Dig l)(f:l≠[])(h:B^(l.length-1)<=val l):Trim l:=by
 have u:=List.length_pos_iff.2 f;have hk:l.length-1<l.length:=by omega
 unfold Trim;rw[List.getLast?_eq_getElem?,List.getElem?_eq_getElem hk];intro e;have p:l[l.length-1]=0:=Option.some.inj e;have h1:=Aa4 hk;rw[show l.length-1+1=l.length by omega,List.take_length,p,Nat.mul_zero,Nat.add_zero] at h1;have v:=Ae6 c (l.length-1);omega
theorem Ee4 (f:l≠[])(c:Trim l):B^(l.length-1)<=val l:=by
 have h:=List.length_pos_iff.2 f;have hk:l.length-1<l.length:=by omega
 have h1:=Aa4 hk;rw[show l.length-1+1=l.length by omega,List.take_length] at h1;unfold Trim at c;rw[List.getLast?_eq_getElem?,List.getElem?_eq_getElem hk] at c;have p:l[l.length-1]≠0:=λ e=>c (by rw[e]);rw[h1];have:B^(l.length-1)*1<=B^(l.length-1)*l[l.length-1]:=Nat.mul_le_mul_left _ (by omega);omega
theorem Dd0 (W:PW):Own W t 1 ⟨none,0,0⟩ (cel (dg (dv a 0))):=by
 rw[show dv a 0=0 from rfl,Ae8];refine⟨⟨Es6 [],rfl,.inl ⟨rfl,rfl⟩⟩,λ g c=>?_⟩;simp[Sl.v,Value.ownBlock] at c
theorem Du1 {z:Int}(h:0<=z)(c:z<256):IntKind.wrap .u8 z=z:=by
 unfold IntKind.wrap;simp[IntKind.signed,IntKind.bits];omega
theorem dgt (h1:48<=sb a k)(c:sb a k<=57):IntKind.wrap .u32 (IntKind.wrap .u8 (Ae2 a k-48))=((sb a k-48:Nat):Int):=by
 rw[Ao5,Du1 (by omega) (by omega),show((sb a k:Int)-48)=((sb a k-48:Nat):Int) by omega,Ab9,Nat.mod_eq_of_lt (by unfold B;omega)]
theorem Fn5 (h: ∀i,i<k->48<=sb a i/\sb a i<=57)(hk:k<=4000):nl (dv a k)<=k:=by
 have h1: ∀j,j<=k->dv a j<10^j:=by
  intro j
  induction j with
  | zero=>intro _;simp[dv]
  | succ j ih=>
   intro c;have:=ih (by omega);have e:=h j (by omega);simp only[dv,Nat.pow_succ];omega
 exact Bc6 (Nat.lt_of_lt_of_le (h1 k (Nat.le_refl _)) (Ee2 k))
theorem Bh4 (h:¬Cv5 a):Ad2 a=none:=if_neg h
theorem Bu4 (h:Cv5 a):Ad2 a=Option.some (dv a a.size):=if_pos h
theorem Bi0:a≠⟨⟨[]⟩⟩↔a.size≠0:=by
 constructor
 ·intro h e
  apply h;apply ByteArray.ext;apply Array.eq_empty_of_size_eq_zero e
 ·rintro h rfl
  exact h rfl
end Go.SX
namespace Go.SX
variable {a:ByteArray}
theorem Fp0 {j:Nat}{c:Nat}(f:j<a.size)(p:c<256):(a[j]! == c.toUInt8)=decide (sb a j=c):=by
 have e:a[j]! = a[j]'f:=getElem!_pos a j f;rw[e];unfold sb;rw[dif_pos f];rw[Bool.eq_iff_iff];simp only[beq_iff_eq,decide_eq_true_eq];constructor
 ·rintro h
  rw[h];simp[Nat.toUInt8,Nat.mod_eq_of_lt p]
 ·intro h
  apply UInt8.toNat_inj.1;rw[h];simp[Nat.toUInt8,Nat.mod_eq_of_lt p]
theorem Bj6 {c:Nat}(f:c<256): ∀(n i:Nat),i+n<=a.size->(List.range' i n).find? (λ j=>a[j]! == c.toUInt8)=Al7 a c n i
 | 0,i,h=>rfl
 | n+1,i,h=>by
  rw[List.range'_succ,List.find?_cons,Fp0 (by omega) f];unfold Al7
  by_cases e:sb a i=c
  ·rw[if_pos e,decide_eq_true e]
  ·rw[if_neg e,decide_eq_false e]
   exact Bj6 f n (i+1) (by omega)
def Cx6 (o:Option Nat):Int:=match o with
 | some i=>(i:Int)
 | none=>-1
theorem Bm2 {c:Nat}(e:c<256):firstIdx a c.toUInt8=Cx6 (Al7 a c a.size 0):=by
 unfold firstIdx Cx6;rw[List.range_eq_range',Bj6 e _ _ (by omega)];cases Al7 a c a.size 0<;>rfl
theorem Aq6 {a:ByteArray}{c:Nat}: ∀(n i:Nat) {k:Nat},Al7 a c n i=Option.some k->i<=k/\k<i+n/\sb a k=c
 | 0,i,k,h=>by cases h
 | n+1,i,k,h=>by
  unfold Al7 at h;split at h
  ·cases h
   exact⟨Nat.le_refl _,by omega,by assumption⟩
  ·have:=Aq6 n (i+1) h
   omega
end Go.SX
namespace Go.SX
variable {K:PW->Prop}{M N:Nat->Prop}{W W' W0:PW}{b:Bool}{g i j n0 off r:Nat}{l:List Value}{m:Nat->Nat->Rat}{q:Rat}{s s':Sl}{t t' tq ts tu:TypeId}{xs:List (List Value)}
def Gf6 (n0:Nat) (W:PW):Prop:=n0<=W.w.heap.size
theorem Gf6.ext (h:Gf6 n0 W)(c:Ext W W'):Gf6 n0 W':=Nat.le_trans h c.size
theorem Ao9 (W:PW):Aa6 t W ⟨none,0,0⟩ 0:=⟨by simp[cel,Ae8],by simp,by decide,by simp[cel,Ae8],.inl (by simp[cel,Ae8])⟩
theorem Ar9 (W:PW):Ab3 t W ⟨none,0,0⟩ false ⟨none,0,0⟩ 0:=⟨⟨Ao9 W,by decide⟩,Ao9 W⟩
def Wr (t:TypeId) (g:Nat) (W c:PW):Prop:=∃W' cs e,Ext W W'/\Au9 (· = g) W' c/\W'.w.heap[g]?=some (Obj.cells cs t e)
theorem Wr.Fi9 (h:Wr t g W W'):Au9 (· = g) W W':=let⟨_,_,_,h1,c,_⟩:=h;(h1.toM _).trans c
theorem Wr.row {sz:Nat}(h:Wr t' g W W')(c:Row W t sz s xs)(e:t≠t'):Row W' t sz s xs:=let⟨_,_,_,h1,f,p⟩:=h;(c.ext h1).put f p e
theorem Wr.nat {x:Nat}(h:Wr t' g W W')(c:Aa6 t W s x)(e:t≠t'):Aa6 t W' s x:=h.row c e
theorem Wr.rat (h:Wr t' g W W')(c:Ab3 t W s b s' q)(e:t≠t'):Ab3 t W' s b s' q:=⟨⟨h.nat c.1.1 e,c.1.2⟩,h.nat c.2 e⟩
theorem Wr.qs {f:Nat->Rat}{n:Nat}(h:Wr t' g W W')(c:Qs t W xs n f)(e:t≠t'):Qs t W' xs n f:=
 ⟨c.1,λ i hi=>let⟨s,b,s',h1,p⟩:=c.2 i hi;⟨s,b,s',h1,h.rat p e⟩⟩
theorem Wr.Fi8 (h:Wr t g W W')(e:n0<=g):Eo1 n0 W W':=h.Fi9.mono λ b c=>by have:b=g:=c;omega
theorem Own.at {sz:Nat}(h:Own W t sz s xs)(f:xs≠[]): ∃g cs,s.A=some ⟨g,0,none⟩/\s.v.ownBlock=some g/\¬W.S g/\W.w.heap[g]?=some (.cells cs t (0,0))/\xs.length*sz<=cs.size:=by
 obtain⟨⟨B,hlen,p⟩,u⟩:=h;rcases p with⟨C,v⟩ | ⟨g,cap,cur,w,_,y,h1,D,A,E⟩
 ·exact absurd (List.eq_nil_of_length_eq_zero v) f
 ·have c:s.A=some ⟨g,0,none⟩/\s.n=xs.length/\s.c=cap:=by simpa[Sl.v] using w
  have e:s.v.ownBlock=some g:=by simp[Sl.v,Value.ownBlock,c.1]
  exact⟨g,cur,c.1,e,u g e,y,by rw[A];exact Nat.mul_le_mul_right _ h1⟩
theorem Own.other {sz:Nat}(h:Own W t sz s xs)(v:Au9 M W W')(w: ∀g,s.v.ownBlock=some g->¬M g):Own W' t sz s xs:=by
 obtain⟨⟨f,hlen,y⟩,A⟩:=h;rcases y with⟨e,B⟩ | ⟨g,cap,cur,e,C,p,h1,D,E,G⟩
 ·refine⟨⟨f,hlen,.inl ⟨e,B⟩⟩,λ g c=>?_⟩
  rw[e] at c;simp[Value.ownBlock] at c
 ·have c:s.v.ownBlock=some g:=by rw[e];rfl
  have hk:=v.Ai1 g (Array.getElem?_eq_some_iff.1 p).1 (A g c) (w g c);refine⟨⟨f,hlen,.inr ⟨g,cap,cur,e,C,hk.1.trans p,h1,D,E,G⟩⟩,λ H u=>?_⟩;rw[c] at u;cases u;exact hk.2
theorem Ei4: ∀(l cs:List Value) (o n:Nat),o+l.length<=n->n<=cs.length->(Aj6 cs o l).take n=Aj6 (cs.take n) o l:=by
 intro l cs o n h1 e;apply List.ext_getElem?;intro k;rw[List.getElem?_take,Ap0,Ap0]
 by_cases hk:k<n
 ·rw[if_pos hk]
  by_cases c:o<=k/\k<o+l.length/\k<cs.length
  ·rw[if_pos c,if_pos (by simp;omega)]
  ·rw[if_neg c,if_neg (by simp;omega),List.getElem?_take,if_pos hk]
 ·rw[if_neg hk,if_neg (by omega),List.getElem?_take,if_neg hk]
theorem Ao7 {sz:Nat}(h:Own W t sz s xs)(v:j<xs.length)(w:l.length=sz)(O: ∀u∈l,u.oneCell'=true)(R: ∀g,s.v.ownBlock=some g->may W0 M g)(S: ∀(f:PW) (g:Nat),s.v.ownBlock=some g->Wr t g W f->Own f t sz s (xs.set j l)->K f):An9 W0 M s (j*sz+0) l W K:=by
 intro W' D;have E:=h.ext D;have G:xs≠[]:=λ e=>by subst e;simp at v
 obtain⟨g,cs,T,p,U,y,V⟩:=E.at G;have hle:j*sz+sz<=xs.length*sz:=by rw[<-Nat.succ_mul];exact Nat.mul_le_mul_right _ v
 refine⟨g,0,cs,t,T,U,y,by omega,R g p,λ f A=>S f g p ⟨W',cs,(0,0),D,A.ext,y⟩ ?_⟩;obtain⟨⟨h1,hlen,X⟩,ab⟩:=E;have H: ∀x∈xs.set j l,x.length=sz/\∀u∈x,u.oneCell'=true:=by
  intro x c;rcases List.mem_or_eq_of_mem_set c with c | rfl
  ·exact h1 x c
  ·exact⟨w,O⟩
 refine⟨⟨H,?_,?_⟩,λ b I=>?_⟩
 ·rw[Ac0 (λ x c=>(H x c).1)]
 ·rcases X with⟨B,C⟩ | ⟨Y,cap,cur,B,C,J,k1,k2,Z,k4⟩
  ·exact absurd (List.eq_nil_of_length_eq_zero C) G
  ·have L:s.v.ownBlock=some Y:=by rw[B];rfl
   rw[p] at L;cases L;rw[y] at J;cases J;refine .inr ⟨g,cap,_,by rw[List.length_set];exact B,C,A.heap,by rw[List.length_set];exact k1,k2,by simp only[List.size_toArray,Bf4];simpa using Z,?_⟩;rw[List.length_set,Nat.zero_add,Nat.add_zero];show(Aj6 cs.toList (j*sz) l).take (xs.length*sz)=_;rw[Ei4 _ _ _ _ (by rw[w];exact hle) (by simpa using V),k4,Ap5 (λ x c=>(h1 x c).1) v w]
 ·rw[p] at I
  cases I;exact A.S
theorem Aa7.ext {sz:Nat}(h:Aa7 W s sz i off l)(e:Ext W W'):Aa7 W' s sz i off l:=
 let⟨b,o,cs,t,f,p,u,c,v⟩:=h
 have hk:=e.Ai1 b (Array.getElem?_eq_some_iff.1 c).1 u
 ⟨b,o,cs,t,f,p,hk.2,hk.1.trans c,v⟩
def Gl4 (tu tq ts:TypeId) (N:Nat->Prop) (W:PW) (s:Sl) (r c:Nat) (m:Nat->Nat->Rat):Prop:=
 ∃e:List Sl,e.length=r/\Row W ts 1 s (e.map λ x=>[x.v])/\(∀i (h:i<e.length),∃xs,Own W tq 3 e[i] xs/\Qs tu W xs c (m i)/\∀g,e[i].v.ownBlock=some g->N g)/\
  ∀i j (hi:i<e.length) (f:j<e.length),i≠j->∀g,e[i].v.ownBlock=some g->e[j].v.ownBlock≠some g
theorem Gl4.ext {c:Nat}(h:Gl4 tu tq ts N W s r c m)(e:Ext W W'):Gl4 tu tq ts N W' s r c m:=
 let⟨f,h1,p,u,v⟩:=h;⟨f,h1,p.ext e,λ i hi=>let⟨xs,k1,k2,w⟩:=u i hi;⟨xs,k1.ext e,k2.ext e,w⟩,v⟩
theorem Gl4.mono {e:Nat->Prop}{c:Nat}(h:Gl4 tu tq ts N W s r c m)(f: ∀g,N g->e g):Gl4 tu tq ts e W s r c m:=
 let⟨p,h1,u,v,w⟩:=h;⟨p,h1,u,λ i hi=>let⟨xs,k1,k2,y⟩:=v i hi;⟨xs,k1,k2,λ g A=>f g (y g A)⟩,w⟩
theorem Gl4.mat {c:Nat}(h:Gl4 tu tq ts N W s r c m):Gf9 tu tq ts W s r (λ _=>c) m:=
 let⟨e,h1,f,p,u⟩:=h;⟨e,f,h1,λ i hi=>let⟨xs,k1,k2,v⟩:=p i hi;⟨xs,k1.row,k2⟩⟩
theorem Gl4.congr {e:Nat->Nat->Rat}{c:Nat}(h:Gl4 tu tq ts N W s r c m)(he: ∀i j,i<r->j<c->m i j=e i j):Gl4 tu tq ts N W s r c e:=
 let⟨f,h1,p,u,v⟩:=h;⟨f,h1,p,λ i hi=>let⟨xs,k1,k2,w⟩:=u i hi;⟨xs,k1,k2.congr λ j y=>he i j (by omega) y,w⟩,v⟩
def Ha2 (m:Nat->Nat->Rat) (i j:Nat) (q:Rat):Nat->Nat->Rat:=λ a b=>if a=i/\b=j then q else m a b
def Put (tq:TypeId) (N:Nat->Prop) (W W':PW):Prop:=∃g,N g/\Wr tq g W W'
theorem Put.Fi8 (h:Put tq N W W')(c: ∀g,N g->n0<=g):Eo1 n0 W W':=let⟨g,h1,e⟩:=h;e.Fi8 (c g h1)
theorem Put.rat (h:Put tq N W W')(c:Ab3 t W s b s' q)(e:t≠tq):Ab3 t W' s b s' q:=let⟨_,_,f⟩:=h;f.rat c e
theorem Gl4.store {s1:Sl}{s2:Sl}{x:Sl}{c:Nat}(h:Gl4 tu tq ts N W s r c m)(H:Aa7 W s 1 i 0 [x.v])(hi:i<r)(w:j<c)(I:Ab3 tu W s1 b s2 q)(hu:tu≠tq)(J:ts≠tq)(L: ∀g,N g->may W0 M g)(O: ∀p,Put tq N W p->Gl4 tu tq ts N p s r c (Ha2 m i j q)->K p):An9 W0 M x (j*3+0) [s1.v,.bool b,s2.v] W K:=by
 obtain⟨f,h1,C,D,E⟩:=h;have A:i<f.length:=by omega
 have hex:Aa7 W s 1 i 0 [f[i].v]:=Row.elem C (x:=[f[i].v]) (by simp[A]) λ j v w=>by simpa using w
 have R:x=f[i]:=by
  have:=Aa7.inj H hex rfl;simp only[List.cons.injEq,and_true,Value.slice.injEq] at this;cases x;cases Z:f[i]
  simp_all
 subst R;obtain⟨xs,k1,k2,B⟩:=D i A;refine Ao7 k1 (by rw[k2.1];exact w) rfl ?_ (λ g y=>L g (B g y)) λ p g y hw S=>O p ⟨g,B g y,hw⟩ ⟨f,h1,hw.row C J,λ a G=>?_,E⟩
 ·intro u hu
  simp only[List.mem_cons,List.not_mem_nil,or_false] at hu;rcases hu with rfl | rfl | rfl<;>rfl
 ·by_cases e:a=i
  ·subst e
   refine⟨_,S,?_,B⟩;have:=(hw.qs k2 hu).set w (hw.rat I hu);refine this.congr λ k hk=>?_;unfold Ha2
   by_cases e:k=j<;>simp[e]
  ·obtain⟨T,U,V,X⟩:=D a G
   refine⟨T,U.other hw.Fi9 λ g' Y=>?_,(hw.qs V hu).congr λ k hk=>?_,X⟩
   ·rintro rfl
    exact E a i G A e _ Y y
   ·unfold Ha2
    simp[e]
theorem Aa7.new {sz:Nat}(h:Aa7 W s sz i off l)(e:Eo1 n0 W W')(y:W.w.heap.size<=n0):Aa7 W' s sz i off l:=by
 obtain⟨b,o,cs,t,f,p,u,c,v⟩:=h;have w:=(Array.getElem?_eq_some_iff.1 c).1;have hk:=e.Ai1 b w u (by show ¬n0<=b;omega);exact⟨b,o,cs,t,f,p,hk.2,hk.1.trans c,v⟩
end Go.SX
namespace Go.SX
variable {W:PW}{s:Sl}{t:TypeId}
def Ab6 (t:TypeId) (W:PW) (b:Bool) (s s':Sl) (q:Rat):Prop:=Ab5 t W s b q.num/\(Aa6 t W s' q.den\/q.den=1/\Aa6 t W s' 0)
theorem Ab6.ext {W':PW}{b:Bool}{s':Sl}{q:Rat}(h:Ab6 t W b s s' q)(c:Ext W W'):Ab6 t W' b s s' q:=⟨h.1.ext c,h.2.imp (λ h=>h.ext c) λ h=>⟨h.1,h.2.ext c⟩⟩
@[reducible] def IsRQ (t:TypeId) (W:PW) (s:Sl) (b:Bool) (s':Sl) (q:Rat):Prop:=Ab6 t W b s s' q
theorem Db0 (W:PW):IsRQ t W ⟨none,0,0⟩ false ⟨none,0,0⟩ 0:=⟨⟨Ao9 W,by decide⟩,.inr ⟨rfl,Ao9 W⟩⟩
theorem Own.block {xs:List (List Value)}{g:Nat}{sz:Nat}(h:Own W t sz s xs)(c:s.v.ownBlock=some g):g<W.w.heap.size/\¬W.S g:=by
 rcases h.1.2.2 with⟨e,_⟩ | ⟨g1,cap,cur,e,_,p,_⟩
 ·rw[e] at c
  simp[Value.ownBlock] at c
 ·have f:s.v.ownBlock=some g1:=by rw[e];rfl
  rw[c] at f;cases f;exact⟨(Array.getElem?_eq_some_iff.1 p).1,h.2 g c⟩
end Go.SX
namespace Go.SX
end Go.SX
