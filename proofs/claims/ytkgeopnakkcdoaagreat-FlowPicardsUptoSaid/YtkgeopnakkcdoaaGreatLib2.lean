import Derived.RangeFuncWrites
import Derived.RangeFuncLeaves
import Derived.RangeFuncBox
import Derived.Test.YtkgeopnakkcdoaaGreatSx1
import Derived.RangeFuncIn
import Derived.WalkKit
import Derived.OrdersIn
import Derived.OrdersHeld
import Derived.Test.YtkgeopnakkcdoaaGreatLib1
import Derived.Laws.Externs
import Derived.Test.YtkgeopnakkcdoaaGreatSx2
set_option linter.unusedVariables false
set_option linter.unusedSimpArgs false
namespace Go.SX
open Go Go.RowKit
variable {W:World}{o:Obj}{β:Type}
variable {F:Fence} {n:Nat} {P:Program}
theorem Ao2 (w:World)(a:Addr)(v:Value):(w.setCell a v).drawn=w.drawn:=by unfold World.setCell;(repeat' split)<;>rfl
def Af7 {β:Type} (B:Nat) (I:β->World->Prop):Prop:=
 ∀s W W' row,I s W->W.grownBy W' row->W.drawn<=W'.drawn->(∀r,row=some r->B<=r/\∃o:Obj,W.heap[r]?=some o/\o.isCells=false)->I s W'
theorem Af7.putObj {B:Nat}{I:β->World->Prop}(h:Af7 B I){s:β}{l:Nat}(o':Obj)(c:I s W)(i:B<=l)(j:W.heap[l]?=some o)(m:o.isCells=false):I s (W.putObj l o'):=
 h s W _ (some l) c (grownBy_putObj' W l o') (Nat.le_refl _) (λ r e=>by cases e;exact⟨i,o,j,m⟩)
theorem Af7.alloc {B:Nat}{I:β->World->Prop}(h:Af7 B I){s:β}(o:Obj)(c:I s W):I s (W.alloc o):=
 h s W _ none c (World.grownBy_alloc W o none) (Nat.le_refl _) (λ r e=>by cases e)
theorem Af7.and {B:Nat}{I c:β->World->Prop}(h:Af7 B I)(p:Af7 B c):Af7 B (λ s W=>I s W/\c s W):=λ s W W' row e i j m=>⟨h s W W' row e.1 i j m,p s W W' row e.2 i j m⟩
theorem Own.Ey9 {I:β->World->Prop}(h:Go.Own I)(B:Nat):Af7 B I:=λ s W W' row c i _ j=>h s W W' row c i (λ r e=>(j r e).2)
structure An0 (w W:World):Prop where
 b:Below w.heap.size w W
 d:w.drawn<=W.drawn
theorem An0.setCell {p:Addr}{w:World}(h:An0 w W)(c:w.heap.size<=p.block)(v:Value):An0 w (W.setCell p v):=⟨h.b.setCell c v,by rw[Ao2];exact h.d⟩
theorem An0.put {o':Obj}{w:World}(h:An0 w W){D:Nat}(c:w.heap.size<=D)(e:W.heap[D]?=some o)(h1:o.isCells=false)(i:o.isWalk=false):An0 w (W.putObj D o'):=⟨h.b.trans (belowK_b (w:=w) (Nat.le_refl _) W D o o' c e h1 i),h.d⟩
theorem Am0 {B:Nat}{w:World}(e:w.heap.size<=B):Af7 B (λ(_:β) W=>An0 w W):=λ s W W' row c h i j=>⟨ownFrom_below (β:=β) (Nat.le_refl _) e s W W' row c.b h j,Nat.le_trans c.d i⟩
def Bv9 {α:Type} (F:Fence) (n:Nat) (P:Program) (g:Nat) (lb:Array Value) (i:α->Array Value) (Mem:List α->World->Prop) (j:List α->α->Prop) (S m:List α->Prop):Prop:=
 ∀(l:Nat) (J c:List α->World->Prop) (W:World),(∀pre W',J pre W'->Mem pre W')->
  (∀pre x h,J pre h->j pre x->YieldAt F (n-1) P l (i x) h λ e W'=>(e = .returned (.bool true)/\J (pre ++ [x]) W')\/(e = .returned (.bool false)/\c (pre ++ [x]) W'))->
  J [] W->
  CallsIn F n P g (#[.func (.yield l) #[] #[]] ++ lb) W λ e W'=>(∃v,e = .returned v)/\((∃xs,S xs/\J xs W')\/(∃pre,m pre/\c pre W'))
def Fs8 {α:Type} (B:Nat) (I:List α->World->Prop) (c:Code->List α->World->Prop) (xs:List α) (W:World):Exit->Act->World->Prop:=
 ownPostG B (λ _ _=>True) I c xs W
theorem As7 {α:Type}{g:Operand}{J:Array Tmp}{assign:Code}{body:Code}{Q:Exit->Act->World->Prop}{a:Act}{w:World}(ab:F.round=none)(h1:1<=n){gf:Nat}{lb:Array Value}(hg:a.eval g = .func (.func gf) #[] lb)(ad:F.fn gf)(eg: ∀args w,(callFunc gf args).run P w = .ok (.enter gf args) w){L:α->Array Value}{Mem:List α->World->Prop}{U:List α->α->Prop}{S X:List α->Prop}(af:Bv9 F (n-1) P gf lb L Mem U S X)(ag: ∀x,(L x).size=J.size)(I:List α->World->Prop)(M:Code->List α->World->Prop)(H:Af7 w.heap.size I)(N: ∀c,Af7 w.heap.size (M c))(ah: ∀pre W,I pre W->Mem pre W)(h0:I [] w)(Y :α->Act)(aj: ∀(l:Nat) (x:α) (W:World) (K:Act->World->Prop),K (Y x) W->
   assign.wpIn (F.inRound l) (n-1-1) P (Exit.then K (λ _ _ _=>False)) {tmps:=(J.zip (L x)).foldl (λ t (p,v)=>t.setIfInBounds p v) a.tmps,defers:=[] } W)(ak: ∀(l:Nat) (pre:List α) (x:α) (W:World),I pre W->U pre x->body.wpIn (F.inRound l) (n-1-1) P (Fs8 w.heap.size I M (pre ++ [x]) W) (Y x) W)(al: ∀(D:Nat) (xs:List α) (W:World),w.heap.size<=D->S xs->I xs W->W.heap[D]?=some (.deferred (some []))->Q .normal {a with defers:={target:=.collected D,args:=#[] }::a.defers } W)(am: ∀(D:Nat) (c:Code) (pre:List α) (W:World),w.heap.size<=D->X pre->M c pre W->W.heap[D]?=some (.deferred (some []))->c.wpIn F n P Q {a with defers:={target:=.collected D,args:=#[] }::a.defers } W):
  (Code.rangeFunc g J assign body).wpIn F n P Q a w:=by
 refine wpIn_rangeFunc λ fn an=>?_;rw[ab]
 let T:LoopState->Option Code->Loop:=λ st pe=>{state:=st,pending:=pe,fn,tmps:=a.tmps,params:=J,assign,body,defers:=w.heap.size }
 obtain⟨r,m⟩: ∃r,r=T:=⟨_,rfl⟩;obtain⟨V,O⟩: ∃V,(w.alloc (.deferred (some []))).alloc (.loop (r .ready none))=V:=⟨_,rfl⟩;have hL:V.heap[w.heap.size+1]?=some (.loop (r .ready none)):=by
  rw[<-O];have:=World.alloc_heap_new (w.alloc (.deferred (some []))) (.loop (r .ready none))
  rwa [World.size_alloc] at this
 have hD:V.heap[w.heap.size]?=some (.deferred (some [])):=by
  rw[<-O];exact(Below.heap_alloc _ _ _ (by simp)).trans (World.alloc_heap_new w _)
 have aq:I [] V:=by
  rw[<-O];exact H.alloc _ (H.alloc _ h0)
 refine⟨w.heap.size+1,[{target:=.collected w.heap.size,args:=#[] }],V,{target:=.fn (.func gf) lb,args:=#[.func (.yield (w.heap.size+1)) #[] #[]] },V,gf,#[.func (.yield (w.heap.size+1)) #[] #[]] ++ lb,V,?_,?_,?_,?_,λ _=>h1,?_⟩
 ·rw[<-O,m]
  exact run_enterLoop_outer _ _ _ _ _
 ·simp only[resolve,hg]
  simp[go_sem]
 ·intro f' Z
  simp[Target.leads] at Z;subst Z;exact ad
 ·simp[invoke,go_sem,eg]
 refine(af (w.heap.size+1)
  (λ pre W=>I pre W/\W.heap[w.heap.size+1]?=some (.loop (r .ready none))/\W.heap[w.heap.size]?=some (.deferred (some [])))
  (λ pre W=>∃c,M c pre W/\W.heap[w.heap.size+1]?=some (.loop (r .done (some c)))/\W.heap[w.heap.size]?=some (.deferred (some [])))
  V (λ pre W' h=>ah pre W' h.1) ?_ ⟨aq,hL,hD⟩).mono ?_
 ·rintro pre x W ⟨hi,u,hk⟩ ar
  have au:w.heap.size+1<W.heap.size:=(Array.getElem?_eq_some_iff.1 u).1;have hy:=run_yield (P:=P) (args:=L x) u (by rw[m];exact ag x);rw[m] at hy;refine⟨fn,_,assign,body,hy,roundIn_of_wpIn an (aj _ x W _ ⟨_,run_beginRound u (by rw[m]),?_⟩)⟩;obtain⟨A,R⟩: ∃A,W.putObj (w.heap.size+1) (.loop {r .ready none with state:=.busy })=A:=⟨_,rfl⟩;rw[R];have av:A.heap[w.heap.size+1]?=some (.loop {r .ready none with state:=.busy }):=by rw[<-R];exact World.putObj_heap_same au
  have aw:A.heap[w.heap.size]?=some (.deferred (some [])):=by rw[<-R];exact(World.putObj_heap_other (by omega)).trans hk
  have ax:I pre A:=by rw[<-R];exact H.putObj _ hi (by omega) u rfl
  refine wpIn_mono (ak _ pre x _ ax ar) ?_;have fin: ∀(jump:Option Code) (i:World),KeepsFrom w.heap.size A i->
    (Instr.endRound (w.heap.size+1) jump).run P i = .ok (.bool jump.isNone) (i.putObj (w.heap.size+1) (.loop (r (if jump.isNone then .ready else .done) jump)))/\
    i.heap[w.heap.size+1]?=some (.loop {r .ready none with state:=.busy })/\
    (i.putObj (w.heap.size+1) (.loop (r (if jump.isNone then .ready else .done) jump))).heap[w.heap.size+1]?=some (.loop (r (if jump.isNone then .ready else .done) jump))/\
    (i.putObj (w.heap.size+1) (.loop (r (if jump.isNone then .ready else .done) jump))).heap[w.heap.size]?=some (.deferred (some [])):=λ jump i y=>by
   have j:=y.same _ _ (by omega) av rfl;have:=run_endRound (P:=P) jump j;rw[m] at this⊢;exact⟨this,by rw[m] at j;exact j,World.putObj_heap_same (Array.getElem?_eq_some_iff.1 j).1,(World.putObj_heap_other (by omega)).trans (y.same _ _ (Nat.le_refl _) aw rfl)⟩
  rintro e a3 i G
  cases e with
  | normal=>
   obtain⟨y,_,B⟩:=G;obtain⟨he,j,C,E⟩:=fin none i y;exact⟨_,_,he,.inl ⟨rfl,H.putObj _ B (by omega) j rfl,C,E⟩⟩
  | ret=>
   obtain⟨y,B⟩:=G;obtain⟨he,j,C,E⟩:=fin (some .ret) i y;exact⟨_,_,he,.inr ⟨rfl,.ret,(N _).putObj _ B (by omega) j rfl,C,E⟩⟩
  | exit id=>
   obtain⟨y,B⟩:=G;obtain⟨he,j,C,E⟩:=fin (some (.exit id)) i y;exact⟨_,_,he,.inr ⟨rfl,.exit id,(N _).putObj _ B (by omega) j rfl,C,E⟩⟩
  | goto t=>
   obtain⟨y,B⟩:=G;obtain⟨he,j,C,E⟩:=fin (some (.goto t)) i y;exact⟨_,_,he,.inr ⟨rfl,.goto t,(N _).putObj _ B (by omega) j rfl,C,E⟩⟩
  | panic ch=>exact G.elim
  | outgrown=>exact G.elim
 ·rintro e A ⟨⟨v,rfl⟩,(⟨xs,hS,hi,u,hk⟩ | ⟨pre,az,c,hi,u,hk⟩)⟩
  ·exact⟨none,_,by have:=run_endLoop (P:=P) u (by rw[m];simp[T]);rw[m] at this;exact this,al _ xs _ (Nat.le_refl _) hS (H.putObj _ hi (by omega) u rfl) ((World.putObj_heap_other (by omega)).trans hk)⟩
  ·exact⟨some c,_,by have:=run_endLoop (P:=P) u (by rw[m];simp[T]);rw[m] at this;exact this,am _ c pre _ (Nat.le_refl _) az ((N c).putObj _ hi (by omega) u rfl) ((World.putObj_heap_other (by omega)).trans hk)⟩
end Go.SX
namespace Go.SX
open Go
variable {l:Nat}
variable {P:Program} {ops:Array Oper} {Q:Exit->Act->World->Prop} {md:Region.Mode}
theorem Ek9 {n:Nat}{row:String}{args:Array Value}{w:World}{R:Value->World->Prop}(h:Rows P row args w R):RowsIn (Fence.wide.inRound l) n P row args w R:=by
 intro c cs i;obtain⟨v,w',h1,e⟩:=h c cs;exact⟨v,w',h1,stepsIn_wide.2 e⟩
theorem Ed3 {r:Result Next}{n:Nat}{o:Oper}{a:Act}{next:Act->World->Prop}(h:o.upon P a next Q r):o.uponIn (Fence.wide.inRound l) n P a next Q r:=by
 cases r with
 | ok v w'=>
  cases v with
  | enter f args=>exact⟨λ e=>(by cases e),callsIn_wide.2 h⟩
  | row r args=>exact⟨λ e=>(by cases e),Ek9 h⟩
  | round=>exact h.elim
  | value v=>exact h
  | skip=>exact h
  | defer d=>exact h
  | _=>exact h.elim
 | halt x w'=>
  cases x<;>first | exact h | exact h.elim
theorem Ej1 {i:Nat}{n:Nat}{a:Act}{w:World}{K:Act->World->Prop}(m: ∀(j:Nat) (o:Oper),ops[j]?=some o->∀c,o.op≠.defer c)(p:¬LetsOut Q)(h:wpOp P ops Q i K a w):wpOpIn (Fence.wide.inRound l) n P ops Q i K a w:=by
 unfold wpOpIn;unfold wpOp at h
 cases e:ops[i]? with
 | none=>simpa[e] using h
 | some o=>
  simp only[e] at h⊢;split
  ·rename_i hw
   rw[if_pos hw] at h;refine⟨λ _ _=>trivial,?_⟩;rw[Oper.semAt_eq _ _ _ (m i o e)];rcases h with h | h
   ·exact Ed3 h
   ·exact absurd h.2 p
  ·rename_i hw
   rw[if_neg hw] at h;exact⟨λ _ _=>trivial,h⟩
theorem Ce9 {n:Nat}(e: ∀(j:Nat) (o:Oper),ops[j]?=some o->∀c,o.op≠.defer c)(m:¬LetsOut Q): ∀(fuel:Nat) (listed:Array Bool) (a:Act) (w:World),wpAny P md ops Q fuel listed a w->wpAnyIn (Fence.wide.inRound l) n P md ops Q fuel listed a w
 | 0,_,_,_,h=>h
 | fuel+1,_,_,_,h=>⟨h.1,λ i hi=>Ej1 e m (wpOp_mono (λ a' w' p=>Ce9 e m fuel _ a' w' p) (h.2 i hi))⟩
theorem Cq1 {id:Nat}{n:Nat}{S:World->Prop}{a:Act}{w:World}(hm:P.follows .mixedOrders=true)(e: ∀(j:Nat) (o:Oper),ops[j]?=some o->∀c,o.op≠.defer c)(i:¬LetsOut Q)(h:wpAnyH P .any ops Q S ops.size (Array.replicate ops.size false) a w.drew):(Code.region id ops true).wpIn (Fence.wide.inRound l) n P Q a w:=
 wpIn_region_any hm (Ce9 e i _ _ _ _ (wpAny_of_held _ _ _ _ h))
end Go.SX
namespace Go.SX
variable {a:ByteArray}{x:Nat}{z:Int}
def sb (a:ByteArray) (i:Nat):Nat:=if h:i<a.size then(a[i]'h).toNat else 0
theorem Ao5 (a:ByteArray)(i:Nat):Ae2 a i=(sb a i:Int):=by
 unfold Ae2 sb;split<;>rfl
def dv (a:ByteArray):Nat->Nat
 | 0=>0
 | i+1=>dv a i*10+(sb a i-48)
def Cv5 (a:ByteArray):Prop:=a.size≠0/\a.size<=4000/\¬(sb a 0=48/\1<a.size)/\∀i,i<a.size->48<=sb a i/\sb a i<=57
instance (a:ByteArray):Decidable (Cv5 a):=inferInstanceAs (Decidable (_/\_))
def Ad2 (a:ByteArray):Option Nat:=if Cv5 a then some (dv a a.size) else none
def Ac3 (a:ByteArray):Option Int:=if 0<a.size/\sb a 0=45 then
  (match Ad2 (a.extract 1 a.size) with
  | some x=>if x=0 then none else some (-(x:Int))
  | none=>none)
 else(Ad2 a).map λ x=>(x:Int)
def Al7 (a:ByteArray) (c:Nat):Nat->Nat->Option Nat
 | 0,_=>none
 | n+1,i=>if sb a i=c then some i else Al7 a c n (i+1)
def Ak5 (a:ByteArray):Option Nat:=Al7 a 47 a.size 0
def Ab7 (a:ByteArray):Option Rat:=match Ak5 a with
 | none=>(Ac3 a).map λ(z:Int)=>(z:Rat)
 | some i=>match Ac3 (a.extract 0 i),Ad2 (a.extract (i+1) a.size) with
  | some n,some d=>if d<2\/Nat.gcd d n.natAbs≠1 then none else some (mkRat n d)
  | _,_=>none
theorem Fl3 {a:ByteArray}(h: ∀i,i<a.size->48<=sb a i/\sb a i<=57): ∀{k:Nat},k<=a.size->dv a k<10^k
 | 0,_=>by simp[dv]
 | k+1,hk=>by
  have h1:=Fl3 h (k:=k) (by omega);have c:=h k (by omega);simp only[dv,Nat.pow_succ];omega
theorem Bq9 (h:Ad2 a=some x):x<10^a.size/\a.size<=4000:=by
 unfold Ad2 at h;split at h
 ·rename_i c
  cases h;exact⟨Fl3 c.2.2.2 (Nat.le_refl _),c.2.1⟩
 ·cases h
theorem Ee2 (k:Nat):10^k<=B^k:=Nat.pow_le_pow_left (by decide) k
theorem Ei8 {k:Nat}{n:Nat}(h:x<10^k)(hk:k<=n):nl x<=n:=Bc6 (Nat.lt_of_lt_of_le h (Nat.le_trans (Ee2 k) (Nat.pow_le_pow_right Ad3 hk)))
theorem Ap1 (h:Ad2 a=some x):nl x<=4000:=by
 obtain⟨h1,c⟩:=Bq9 h;exact Ei8 h1 c
theorem Av3 (h:Ad2 a=some x)(c:a.size<=20):nl x<=3:=by
 obtain⟨h1,_⟩:=Bq9 h;apply Bc6;have e:10^a.size<=10^20:=Nat.pow_le_pow_right (by decide) c;have i:10^20<=B^3:=by decide
 omega
theorem Be9 (h:Ac3 a=some z):nl z.natAbs<=4000:=by
 unfold Ac3 at h;split at h
 ·split at h
  ·rename_i x e
   split at h
   ·cases h
   ·cases h;rw[Int.natAbs_neg,Int.natAbs_natCast];exact Ap1 e
  ·cases h
 ·cases c:Ad2 a with
  | none=>rw[c] at h;cases h
  | some x=>
   rw[c] at h;cases h;exact Ap1 c
theorem Bk5 (h:Ac3 a=some z)(e:a.size<=20):nl z.natAbs<=3:=by
 unfold Ac3 at h;split at h
 ·split at h
  ·rename_i x i
   split at h
   ·cases h
   ·cases h;rw[Int.natAbs_neg,Int.natAbs_natCast];exact Av3 i (by rw[ByteArray.size_extract];omega)
  ·cases h
 ·cases c:Ad2 a with
  | none=>rw[c] at h;cases h
  | some x=>
   rw[c] at h;cases h;exact Av3 c e
theorem Aw6 {q:Rat}(h:Ab7 a=some q):Sz 4000 q/\(a.size<=20->Sz 3 q):=by
 unfold Ab7 at h;split at h
 ·cases c:Ac3 a with
  | none=>rw[c] at h;cases h
  | some z=>
   rw[c] at h;cases h;exact⟨⟨by rw[Rat.num_intCast];exact Be9 c,by rw[Rat.den_intCast,Ax0];omega⟩,λ e=>⟨by rw[Rat.num_intCast];exact Bk5 c e,by rw[Rat.den_intCast,Ax0];omega⟩⟩
 ·split at h
  ·rename_i n d j m
   split at h
   ·cases h
   ·rename_i i _ r
    cases h;have p:d≠0:=by omega
    exact⟨Sz.mk (Be9 j) (Ap1 m) p,λ e=>Sz.mk (Bk5 j (by rw[ByteArray.size_extract];omega)) (Av3 m (by rw[ByteArray.size_extract];omega)) p⟩
  ·cases h
end Go.SX
namespace Go.SX
variable {W:PW}{a:ByteArray}{d k:Nat}{l:List Nat}{s:Sl}{t:TypeId}
theorem Own.put {W':PW}{us:List Nat}{ws:List Nat}{g:Nat}{cs:Array Value}(h:Own W t 1 s (cel us))(hm:Mut W t s g 0 cs us)(i:Aq5 W W' g cs t 0 (cv ws))(u:ws.length=us.length):Own W' t 1 s (cel ws):=by
 obtain⟨⟨h1,hlen,v⟩,C⟩:=h;have D:=hm.n;refine⟨⟨Es6 ws,?_,?_⟩,λ b j=>?_⟩
 ·rw[Al2,Ag7,Aa5];omega
 ·rcases v with⟨e,m⟩ | ⟨w,cap,cur,e,m,y,h1,A,B,E⟩
  ·have c:=hm.A
   simp only[Sl.v,Value.slice.injEq] at e;rw[e.1] at c;cases c
  ·have c:s.A=some ⟨w,0,none⟩/\s.n=(cel us).length/\s.c=cap:=by simpa[Sl.v] using e
   have p:=hm.A;rw[c.1] at p;cases p;have r:=hm.heap;rw[y] at r;cases r;refine .inr ⟨g,cap,_,?_,m,i.heap,by rw[Aa5] at *;omega,A,?_,?_⟩
   ·rw[e,Aa5,Aa5,u]
   ·simp only[List.size_toArray,Bf4];simpa using B
   ·rw[Al2,Aa5,Nat.mul_one]
    apply List.ext_getElem?;intro k;rw[List.getElem?_take];have G:=hm.room;split
    ·rename_i hk
     rw[Ap0,if_pos (by rw[Ag7];simp;omega),Nat.sub_zero]
    ·rename_i hk
     rw[List.getElem?_eq_none (by rw[Ag7];omega)]
 ·have c:s.A=some ⟨g,0,none⟩:=hm.A
  have:b=g:=by simp[Sl.v,Value.ownBlock,c] at j;exact j.symm
  rw[this];exact i.S
theorem Own.n {xs:List (List Value)}{sz:Nat}(h:Own W t sz s xs):s.n=xs.length:=h.row.1
theorem grow_step {z:Nat}{u:Nat}{p:Nat}{b:Nat}{y:Nat}{c:Nat}(h:z+p*c=u*b+y):z+p*((c+d*b)%B)+(p*B)*((c+d*b)/B)=(u+p*d)*b+y:=by
 have:=Nat.mod_add_div (c+d*b) B;have e:p*((c+d*b)%B)+(p*B)*((c+d*b)/B)=p*(c+d*b):=by rw[<-this];grind
 grind
theorem Cx9 (h:d≠0):Trim (l ++ [d]):=by
 unfold Trim;rw[List.getLast?_append]
 simpa using h
theorem Ek5 (c:Dig l)(i:l≠[])(h:B^(l.length-1)<=val l):Trim l:=by
 have m:=List.length_pos_iff.2 i;have hk:l.length-1<l.length:=by omega
 unfold Trim;rw[List.getLast?_eq_getElem?,List.getElem?_eq_getElem hk];intro e;have j:l[l.length-1]=0:=Option.some.inj e;have h1:=Aa4 hk;rw[show l.length-1+1=l.length by omega,List.take_length,j,Nat.mul_zero,Nat.add_zero] at h1;have p:=Ae6 c (l.length-1);omega
theorem Ee4 (h:l≠[])(c:Trim l):B^(l.length-1)<=val l:=by
 have i:=List.length_pos_iff.2 h;have hk:l.length-1<l.length:=by omega
 have h1:=Aa4 hk;rw[show l.length-1+1=l.length by omega,List.take_length] at h1;unfold Trim at c;rw[List.getLast?_eq_getElem?,List.getElem?_eq_getElem hk] at c;have j:l[l.length-1]≠0:=λ e=>c (by rw[e]);rw[h1];have:B^(l.length-1)*1<=B^(l.length-1)*l[l.length-1]:=Nat.mul_le_mul_left _ (by omega);omega
theorem Dd0 (W:PW):Own W t 1 ⟨none,0,0⟩ (cel (dg (dv a 0))):=by
 rw[show dv a 0=0 from rfl,Ae8];refine⟨⟨Es6 [],rfl,.inl ⟨rfl,rfl⟩⟩,λ g c=>?_⟩;simp[Sl.v,Value.ownBlock] at c
theorem Du1 {z:Int}(h:0<=z)(c:z<256):IntKind.wrap .u8 z=z:=by
 unfold IntKind.wrap;simp[IntKind.signed,IntKind.bits];omega
theorem dgt (h1:48<=sb a k)(c:sb a k<=57):IntKind.wrap .u32 (IntKind.wrap .u8 (Ae2 a k-48))=((sb a k-48:Nat):Int):=by
 rw[Ao5,Du1 (by omega) (by omega),show((sb a k:Int)-48)=((sb a k-48:Nat):Int) by omega,Ab9,Nat.mod_eq_of_lt (by unfold B;omega)]
theorem Fn5 (h: ∀i,i<k->48<=sb a i/\sb a i<=57)(hk:k<=4000):nl (dv a k)<=k:=by
 have h1: ∀j,j<=k->dv a j<10^j:=by
  intro j
  induction j with
  | zero=>intro _;simp[dv]
  | succ j ih=>
   intro c;have:=ih (by omega);have e:=h j (by omega);simp only[dv,Nat.pow_succ];omega
 exact Bc6 (Nat.lt_of_lt_of_le (h1 k (Nat.le_refl _)) (Ee2 k))
theorem Bh4 (h:¬Cv5 a):Ad2 a=none:=if_neg h
theorem Bu4 (h:Cv5 a):Ad2 a=Option.some (dv a a.size):=if_pos h
theorem Bi0:a≠⟨⟨[]⟩⟩↔a.size≠0:=by
 constructor
 ·intro h e
  apply h;apply ByteArray.ext;apply Array.eq_empty_of_size_eq_zero e
 ·rintro h rfl
  exact h rfl
end Go.SX
namespace Go.SX
variable {a:ByteArray}
theorem Fp0 {j:Nat}{c:Nat}(i:j<a.size)(m:c<256):(a[j]! == c.toUInt8)=decide (sb a j=c):=by
 have e:a[j]! = a[j]'i:=getElem!_pos a j i;rw[e];unfold sb;rw[dif_pos i];rw[Bool.eq_iff_iff];simp only[beq_iff_eq,decide_eq_true_eq];constructor
 ·rintro h
  rw[h];simp[Nat.toUInt8,Nat.mod_eq_of_lt m]
 ·intro h
  apply UInt8.toNat_inj.1;rw[h];simp[Nat.toUInt8,Nat.mod_eq_of_lt m]
theorem Bj6 {c:Nat}(m:c<256): ∀(n i:Nat),i+n<=a.size->(List.range' i n).find? (λ j=>a[j]! == c.toUInt8)=Al7 a c n i
 | 0,i,h=>rfl
 | n+1,i,h=>by
  rw[List.range'_succ,List.find?_cons,Fp0 (by omega) m];unfold Al7
  by_cases e:sb a i=c
  ·rw[if_pos e,decide_eq_true e]
  ·rw[if_neg e,decide_eq_false e]
   exact Bj6 m n (i+1) (by omega)
def Cx6 (o:Option Nat):Int:=match o with
 | some i=>(i:Int)
 | none=>-1
theorem Bm2 {c:Nat}(e:c<256):firstIdx a c.toUInt8=Cx6 (Al7 a c a.size 0):=by
 unfold firstIdx Cx6;rw[List.range_eq_range',Bj6 e _ _ (by omega)];cases Al7 a c a.size 0<;>rfl
theorem Aq6 {a:ByteArray}{c:Nat}: ∀(n i:Nat) {k:Nat},Al7 a c n i=Option.some k->i<=k/\k<i+n/\sb a k=c
 | 0,i,k,h=>by cases h
 | n+1,i,k,h=>by
  unfold Al7 at h;split at h
  ·cases h
   exact⟨Nat.le_refl _,by omega,by assumption⟩
  ·have:=Aq6 n (i+1) h
   omega
end Go.SX
namespace Go.SX
variable {W W':PW}{g:Nat}{l:List Value}{s:Sl}{t t':TypeId}{xs:List (List Value)}
theorem Ao9 (W:PW):Aa6 t W ⟨none,0,0⟩ 0:=⟨by simp[cel,Ae8],by simp,by decide,by simp[cel,Ae8],.inl (by simp[cel,Ae8])⟩
theorem Ar9 (W:PW):Ab3 t W ⟨none,0,0⟩ false ⟨none,0,0⟩ 0:=⟨⟨Ao9 W,by decide⟩,Ao9 W⟩
def Wr (t:TypeId) (g:Nat) (W c:PW):Prop:=∃W' cs e,Ext W W'/\Au9 (· = g) W' c/\W'.w.heap[g]?=some (Obj.cells cs t e)
theorem Wr.Fi9 (h:Wr t g W W'):Au9 (· = g) W W':=let⟨_,_,_,h1,c,_⟩:=h;(h1.toM _).trans c
theorem Wr.row {sz:Nat}(h:Wr t' g W W')(c:Row W t sz s xs)(e:t≠t'):Row W' t sz s xs:=let⟨_,_,_,h1,i,j⟩:=h;(c.ext h1).put i j e
theorem Wr.nat {x:Nat}(h:Wr t' g W W')(c:Aa6 t W s x)(e:t≠t'):Aa6 t W' s x:=h.row c e
theorem Wr.rat {s':Sl}{b:Bool}{q:Rat}(h:Wr t' g W W')(c:Ab3 t W s b s' q)(e:t≠t'):Ab3 t W' s b s' q:=⟨⟨h.nat c.1.1 e,c.1.2⟩,h.nat c.2 e⟩
theorem Own.at {sz:Nat}(h:Own W t sz s xs)(i:xs≠[]): ∃g cs,s.A=some ⟨g,0,none⟩/\s.v.ownBlock=some g/\¬W.S g/\W.w.heap[g]?=some (.cells cs t (0,0))/\xs.length*sz<=cs.size:=by
 obtain⟨⟨w,hlen,j⟩,m⟩:=h;rcases j with⟨y,p⟩ | ⟨g,cap,cur,r,_,u,h1,A,v,B⟩
 ·exact absurd (List.eq_nil_of_length_eq_zero p) i
 ·have c:s.A=some ⟨g,0,none⟩/\s.n=xs.length/\s.c=cap:=by simpa[Sl.v] using r
  have e:s.v.ownBlock=some g:=by simp[Sl.v,Value.ownBlock,c.1]
  exact⟨g,cur,c.1,e,m g e,u,by rw[v];exact Nat.mul_le_mul_right _ h1⟩
theorem Ei4: ∀(l cs:List Value) (o n:Nat),o+l.length<=n->n<=cs.length->(Aj6 cs o l).take n=Aj6 (cs.take n) o l:=by
 intro l cs o n h1 e;apply List.ext_getElem?;intro k;rw[List.getElem?_take,Ap0,Ap0]
 by_cases hk:k<n
 ·rw[if_pos hk]
  by_cases c:o<=k/\k<o+l.length/\k<cs.length
  ·rw[if_pos c,if_pos (by simp;omega)]
  ·rw[if_neg c,if_neg (by simp;omega),List.getElem?_take,if_pos hk]
 ·rw[if_neg hk,if_neg (by omega),List.getElem?_take,if_neg hk]
theorem Ao7 {W0:PW}{M:Nat->Prop}{j:Nat}{K:PW->Prop}{sz:Nat}(h:Own W t sz s xs)(p:j<xs.length)(r:l.length=sz)(J: ∀u∈l,u.oneCell'=true)(L: ∀g,s.v.ownBlock=some g->may W0 M g)(N: ∀(i:PW) (g:Nat),s.v.ownBlock=some g->Wr t g W i->Own i t sz s (xs.set j l)->K i):An9 W0 M s (j*sz+0) l W K:=by
 intro W' B;have C:=h.ext B;have D:xs≠[]:=λ e=>by subst e;simp at p
 obtain⟨g,cs,O,m,R,v,S⟩:=C.at D;have hle:j*sz+sz<=xs.length*sz:=by rw[<-Nat.succ_mul];exact Nat.mul_le_mul_right _ p
 refine⟨g,0,cs,t,O,R,v,by omega,L g m,λ i w=>N i g m ⟨W',cs,(0,0),B,w.ext,v⟩ ?_⟩;obtain⟨⟨h1,hlen,T⟩,aa⟩:=C;have E: ∀x∈xs.set j l,x.length=sz/\∀u∈x,u.oneCell'=true:=by
  intro x c;rcases List.mem_or_eq_of_mem_set c with c | rfl
  ·exact h1 x c
  ·exact⟨r,J⟩
 refine⟨⟨E,?_,?_⟩,λ b G=>?_⟩
 ·rw[Ac0 (λ x c=>(E x c).1)]
 ·rcases T with⟨y,A⟩ | ⟨U,cap,cur,y,A,H,V,X,Y,Z⟩
  ·exact absurd (List.eq_nil_of_length_eq_zero A) D
  ·have I:s.v.ownBlock=some U:=by rw[y];rfl
   rw[m] at I;cases I;rw[v] at H;cases H;refine .inr ⟨g,cap,_,by rw[List.length_set];exact y,A,w.heap,by rw[List.length_set];exact V,X,by simp only[List.size_toArray,Bf4];simpa using Y,?_⟩;rw[List.length_set,Nat.zero_add,Nat.add_zero];show(Aj6 cs.toList (j*sz) l).take (xs.length*sz)=_;rw[Ei4 _ _ _ _ (by rw[r];exact hle) (by simpa using S),Z,Ap5 (λ x c=>(h1 x c).1) p r]
 ·rw[m] at G
  cases G;exact w.S
theorem Aa7.ext {i:Nat}{off:Nat}{sz:Nat}(h:Aa7 W s sz i off l)(e:Ext W W'):Aa7 W' s sz i off l:=
 let⟨b,o,cs,t,j,m,p,c,r⟩:=h
 have hk:=e.Ai1 b (Array.getElem?_eq_some_iff.1 c).1 p
 ⟨b,o,cs,t,j,m,hk.2,hk.1.trans c,r⟩
end Go.SX
namespace Go.SX
variable {W W':PW}{b:Bool}{f:Nat->Rat}{q:Rat}{s s':Sl}{t tq tu:TypeId}
def Ab6 (t:TypeId) (W:PW) (b:Bool) (s s':Sl) (q:Rat):Prop:=Ab5 t W s b q.num/\(Aa6 t W s' q.den\/q.den=1/\Aa6 t W s' 0)
theorem Ab6.ext (h:Ab6 t W b s s' q)(c:Ext W W'):Ab6 t W' b s s' q:=⟨h.1.ext c,h.2.imp (λ h=>h.ext c) λ h=>⟨h.1,h.2.ext c⟩⟩
@[reducible] def IsRQ (t:TypeId) (W:PW) (s:Sl) (b:Bool) (s':Sl) (q:Rat):Prop:=Ab6 t W b s s' q
theorem Db0 (W:PW):IsRQ t W ⟨none,0,0⟩ false ⟨none,0,0⟩ 0:=⟨⟨Ao9 W,by decide⟩,.inr ⟨rfl,Ao9 W⟩⟩
theorem IsRQ.ext (h:IsRQ t W s b s' q)(c:Ext W W'):IsRQ t W' s b s' q:=Ab6.ext h c
def RQs (t:TypeId) (W:PW) (xs:List (List Value)) (n:Nat) (f:Nat->Rat):Prop:=
 xs.length=n/\∀i,i<n->∃(s:Sl) (b:Bool) (s':Sl),xs[i]?=some [.bool b,s.v,s'.v]/\IsRQ t W s b s' (f i)
theorem RQs.ext {xs:List (List Value)}{n:Nat}(h:RQs t W xs n f)(c:Ext W W'):RQs t W' xs n f:=
 ⟨h.1,λ i hi=>let⟨s,b,s',h1,e⟩:=h.2 i hi;⟨s,b,s',h1,e.ext c⟩⟩
def Bf7 (tu tq:TypeId) (W:PW) (s:Sl) (n:Nat) (f:Nat->Rat):Prop:=∃xs,Row W tq 3 s xs/\RQs tu W xs n f
theorem Bf7.ext {n:Nat}(h:Bf7 tu tq W s n f)(c:Ext W W'):Bf7 tu tq W' s n f:=let⟨xs,h1,e⟩:=h;⟨xs,h1.ext c,e.ext c⟩
theorem Bf7.n {n:Nat}(h:Bf7 tu tq W s n f):s.n=n:=let⟨xs,h1,c⟩:=h;h1.1.trans c.1
theorem Bf7.inB {i:Int}{n:Nat}(h:Bf7 tu tq W s n f)(c:0<=i)(h1:i<(n:Int)):inB s i:=by
 have p:=h.n;obtain⟨xs,j,m⟩:=h;refine⟨c,by omega,Row.some j λ e=>?_⟩;subst e;have:=m.1;simp at this;omega
theorem Bf7.at {n:Nat}(h:Bf7 tu tq W s n f){i:Nat}(hi:i<n): ∃(s1:Sl) (b:Bool) (s2:Sl),Aa7 W s 3 i 0 [.bool b,s1.v,s2.v]/\IsRQ tu W s1 b s2 (f i):=by
 obtain⟨xs,c,e⟩:=h;obtain⟨s1,b,s2,h1,m⟩:=e.2 i hi;exact⟨s1,b,s2,Row.elem c h1 λ j v p=>by simpa using p,m⟩
end Go.SX
namespace Go.SX
variable {W W':PW}{s:Sl}{xs:List (List Value)}
theorem Bf9.ext {sz:Nat}(h:Bf9 W sz s xs)(c:Ext W W'):Bf9 W' sz s xs:=let⟨t,h1⟩:=h;⟨t,h1.ext c⟩
theorem Bf9.new {c:Nat}{sz:Nat}(h:Bf9 W sz s xs)(e:Eo1 c W W')(i:W.w.heap.size<=c):Bf9 W' sz s xs:=let⟨t,h1⟩:=h;⟨t,h1.new e i⟩
end Go.SX
