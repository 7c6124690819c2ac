import Derived.RangeFuncWrites
import Derived.RangeFuncLeaves
import Derived.RangeFuncBox
import Derived.Test.YtkgeopnakkcdoaaGreatDoorSx1
import Derived.RangeFuncIn
import Derived.WalkKit
import Derived.OrdersIn
import Derived.OrdersHeld
import Derived.Test.YtkgeopnakkcdoaaGreatDoorLib1
import Derived.Laws.Externs
import Derived.Test.YtkgeopnakkcdoaaGreatDoorSx2
set_option linter.unusedVariables false
set_option linter.unusedSimpArgs false
namespace Go.SX
open Go Go.RowKit
variable {W:World}{o:Obj}{β:Type}
variable {F:Fence} {n:Nat} {P:Program}
theorem Ao2 (w:World)(a:Addr)(v:Value):(w.setCell a v).drawn=w.drawn:=by unfold World.setCell;(repeat' split)<;>rfl
def Af7 {β:Type} (B:Nat) (I:β->World->Prop):Prop:=
 ∀s W W' row,I s W->W.grownBy W' row->W.drawn<=W'.drawn->(∀r,row=some r->B<=r/\∃o:Obj,W.heap[r]?=some o/\o.isCells=false)->I s W'
theorem Af7.putObj {B:Nat}{I:β->World->Prop}(h:Af7 B I){s:β}{l:Nat}(o':Obj)(c:I s W)(p:B<=l)(u:W.heap[l]?=some o)(v:o.isCells=false):I s (W.putObj l o'):=
 h s W _ (some l) c (grownBy_putObj' W l o') (Nat.le_refl _) (λ r e=>by cases e;exact⟨p,o,u,v⟩)
theorem Af7.alloc {B:Nat}{I:β->World->Prop}(h:Af7 B I){s:β}(o:Obj)(c:I s W):I s (W.alloc o):=
 h s W _ none c (World.grownBy_alloc W o none) (Nat.le_refl _) (λ r e=>by cases e)
theorem Af7.and {B:Nat}{I c:β->World->Prop}(h:Af7 B I)(w:Af7 B c):Af7 B (λ s W=>I s W/\c s W):=λ s W W' row e p u v=>⟨h s W W' row e.1 p u v,w s W W' row e.2 p u v⟩
theorem Own.Ey9 {I:β->World->Prop}(h:Go.Own I)(B:Nat):Af7 B I:=λ s W W' row c p _ u=>h s W W' row c p (λ r e=>(u r e).2)
structure An0 (w W:World):Prop where
 b:Below w.heap.size w W
 d:w.drawn<=W.drawn
theorem An0.setCell {p:Addr}{w:World}(h:An0 w W)(c:w.heap.size<=p.block)(v:Value):An0 w (W.setCell p v):=⟨h.b.setCell c v,by rw[Ao2];exact h.d⟩
theorem An0.put {o':Obj}{w:World}(h:An0 w W){D:Nat}(c:w.heap.size<=D)(e:W.heap[D]?=some o)(h1:o.isCells=false)(p:o.isWalk=false):An0 w (W.putObj D o'):=⟨h.b.trans (belowK_b (w:=w) (Nat.le_refl _) W D o o' c e h1 p),h.d⟩
theorem Am0 {B:Nat}{w:World}(e:w.heap.size<=B):Af7 B (λ(_:β) W=>An0 w W):=λ s W W' row c h p u=>⟨ownFrom_below (β:=β) (Nat.le_refl _) e s W W' row c.b h u,Nat.le_trans c.d p⟩
def Bv9 {α:Type} (F:Fence) (n:Nat) (P:Program) (g:Nat) (lb:Array Value) (p:α->Array Value) (Mem:List α->World->Prop) (u:List α->α->Prop) (S w:List α->Prop):Prop:=
 ∀(l:Nat) (J c:List α->World->Prop) (W:World),(∀pre W',J pre W'->Mem pre W')->
  (∀pre x h,J pre h->u pre x->YieldAt F (n-1) P l (p x) h λ e W'=>(e = .returned (.bool true)/\J (pre ++ [x]) W')\/(e = .returned (.bool false)/\c (pre ++ [x]) W'))->
  J [] W->
  CallsIn F n P g (#[.func (.yield l) #[] #[]] ++ lb) W λ e W'=>(∃v,e = .returned v)/\((∃xs,S xs/\J xs W')\/(∃pre,w pre/\c pre W'))
def Fs8 {α:Type} (B:Nat) (I:List α->World->Prop) (c:Code->List α->World->Prop) (xs:List α) (W:World):Exit->Act->World->Prop:=
 ownPostG B (λ _ _=>True) I c xs W
theorem As7 {α:Type}{g:Operand}{R:Array Tmp}{assign:Code}{body:Code}{Q:Exit->Act->World->Prop}{a:Act}{lb:Array Value}{w:World}(ag:F.round=none)(h1:1<=n){gf:Nat}(hg:a.eval g = .func (.func gf) #[] lb)(ai:F.fn gf)(eg: ∀args w,(callFunc gf args).run P w = .ok (.enter gf args) w){T:α->Array Value}{Mem:List α->World->Prop}{Nx:List α->α->Prop}{S Sp:List α->Prop}(ak:Bv9 F (n-1) P gf lb T Mem Nx S Sp)(al: ∀x,(T x).size=R.size)(I:List α->World->Prop)(U:Code->List α->World->Prop)(O:Af7 w.heap.size I)(X: ∀c,Af7 w.heap.size (U c))(am: ∀pre W,I pre W->Mem pre W)(h0:I [] w)(ad :α->Act)(ao: ∀(l:Nat) (x:α) (W:World) (K:Act->World->Prop),K (ad x) W->
   assign.wpIn (F.inRound l) (n-1-1) P (Exit.then K (λ _ _ _=>False)) {tmps:=(R.zip (T x)).foldl (λ t (p,v)=>t.setIfInBounds p v) a.tmps,defers:=[] } W)(ap: ∀(l:Nat) (pre:List α) (x:α) (W:World),I pre W->Nx pre x->body.wpIn (F.inRound l) (n-1-1) P (Fs8 w.heap.size I U (pre ++ [x]) W) (ad x) W)(aq: ∀(D:Nat) (xs:List α) (W:World),w.heap.size<=D->S xs->I xs W->W.heap[D]?=some (.deferred (some []))->Q .normal {a with defers:={target:=.collected D,args:=#[] }::a.defers } W)(ar: ∀(D:Nat) (c:Code) (pre:List α) (W:World),w.heap.size<=D->Sp pre->U c pre W->W.heap[D]?=some (.deferred (some []))->c.wpIn F n P Q {a with defers:={target:=.collected D,args:=#[] }::a.defers } W):
  (Code.rangeFunc g R assign body).wpIn F n P Q a w:=by
 refine wpIn_rangeFunc λ fn au=>?_;rw[ag]
 let aa:LoopState->Option Code->Loop:=λ st pe=>{state:=st,pending:=pe,fn,tmps:=a.tmps,params:=R,assign,body,defers:=w.heap.size }
 obtain⟨r,A⟩: ∃r,r=aa:=⟨_,rfl⟩;obtain⟨V,Y⟩: ∃V,(w.alloc (.deferred (some []))).alloc (.loop (r .ready none))=V:=⟨_,rfl⟩;have hL:V.heap[w.heap.size+1]?=some (.loop (r .ready none)):=by
  rw[<-Y];have:=World.alloc_heap_new (w.alloc (.deferred (some []))) (.loop (r .ready none))
  rwa [World.size_alloc] at this
 have hD:V.heap[w.heap.size]?=some (.deferred (some [])):=by
  rw[<-Y];exact(Below.heap_alloc _ _ _ (by simp)).trans (World.alloc_heap_new w _)
 have ax:I [] V:=by
  rw[<-Y];exact O.alloc _ (O.alloc _ h0)
 refine⟨w.heap.size+1,[{target:=.collected w.heap.size,args:=#[] }],V,{target:=.fn (.func gf) lb,args:=#[.func (.yield (w.heap.size+1)) #[] #[]] },V,gf,#[.func (.yield (w.heap.size+1)) #[] #[]] ++ lb,V,?_,?_,?_,?_,λ _=>h1,?_⟩
 ·rw[<-Y,A]
  exact run_enterLoop_outer _ _ _ _ _
 ·simp only[resolve,hg]
  simp[go_sem]
 ·intro f' ae
  simp[Target.leads] at ae;subst ae;exact ai
 ·simp[invoke,go_sem,eg]
 refine(ak (w.heap.size+1)
  (λ pre W=>I pre W/\W.heap[w.heap.size+1]?=some (.loop (r .ready none))/\W.heap[w.heap.size]?=some (.deferred (some [])))
  (λ pre W=>∃c,U c pre W/\W.heap[w.heap.size+1]?=some (.loop (r .done (some c)))/\W.heap[w.heap.size]?=some (.deferred (some [])))
  V (λ pre W' h=>am pre W' h.1) ?_ ⟨ax,hL,hD⟩).mono ?_
 ·rintro pre x W ⟨hi,B,hk⟩ ay
  have az:w.heap.size+1<W.heap.size:=(Array.getElem?_eq_some_iff.1 B).1;have hy:=run_yield (P:=P) (args:=T x) B (by rw[A];exact al x);rw[A] at hy;refine⟨fn,_,assign,body,hy,roundIn_of_wpIn au (ao _ x W _ ⟨_,run_beginRound B (by rw[A]),?_⟩)⟩;obtain⟨E,Z⟩: ∃E,W.putObj (w.heap.size+1) (.loop {r .ready none with state:=.busy })=E:=⟨_,rfl⟩;rw[Z];have aA:E.heap[w.heap.size+1]?=some (.loop {r .ready none with state:=.busy }):=by rw[<-Z];exact World.putObj_heap_same az
  have aB:E.heap[w.heap.size]?=some (.deferred (some [])):=by rw[<-Z];exact(World.putObj_heap_other (by omega)).trans hk
  have aC:I pre E:=by rw[<-Z];exact O.putObj _ hi (by omega) B rfl
  refine wpIn_mono (ap _ pre x _ aC ay) ?_;have fin: ∀(jump:Option Code) (u:World),KeepsFrom w.heap.size E u->
    (Instr.endRound (w.heap.size+1) jump).run P u = .ok (.bool jump.isNone) (u.putObj (w.heap.size+1) (.loop (r (if jump.isNone then .ready else .done) jump)))/\
    u.heap[w.heap.size+1]?=some (.loop {r .ready none with state:=.busy })/\
    (u.putObj (w.heap.size+1) (.loop (r (if jump.isNone then .ready else .done) jump))).heap[w.heap.size+1]?=some (.loop (r (if jump.isNone then .ready else .done) jump))/\
    (u.putObj (w.heap.size+1) (.loop (r (if jump.isNone then .ready else .done) jump))).heap[w.heap.size]?=some (.deferred (some [])):=λ jump u C=>by
   have y:=C.same _ _ (by omega) aA rfl;have:=run_endRound (P:=P) jump y;rw[A] at this⊢;exact⟨this,by rw[A] at y;exact y,World.putObj_heap_same (Array.getElem?_eq_some_iff.1 y).1,(World.putObj_heap_other (by omega)).trans (C.same _ _ (Nat.le_refl _) aB rfl)⟩
  rintro e a3 u L
  cases e with
  | normal=>
   obtain⟨C,_,G⟩:=L;obtain⟨he,y,H,J⟩:=fin none u C;exact⟨_,_,he,.inl ⟨rfl,O.putObj _ G (by omega) y rfl,H,J⟩⟩
  | ret=>
   obtain⟨C,G⟩:=L;obtain⟨he,y,H,J⟩:=fin (some .ret) u C;exact⟨_,_,he,.inr ⟨rfl,.ret,(X _).putObj _ G (by omega) y rfl,H,J⟩⟩
  | exit id=>
   obtain⟨C,G⟩:=L;obtain⟨he,y,H,J⟩:=fin (some (.exit id)) u C;exact⟨_,_,he,.inr ⟨rfl,.exit id,(X _).putObj _ G (by omega) y rfl,H,J⟩⟩
  | goto t=>
   obtain⟨C,G⟩:=L;obtain⟨he,y,H,J⟩:=fin (some (.goto t)) u C;exact⟨_,_,he,.inr ⟨rfl,.goto t,(X _).putObj _ G (by omega) y rfl,H,J⟩⟩
  | panic ch=>exact L.elim
  | outgrown=>exact L.elim
 ·rintro e E ⟨⟨v,rfl⟩,(⟨xs,hS,hi,B,hk⟩ | ⟨pre,aE,c,hi,B,hk⟩)⟩
  ·exact⟨none,_,by have:=run_endLoop (P:=P) B (by rw[A];simp[aa]);rw[A] at this;exact this,aq _ xs _ (Nat.le_refl _) hS (O.putObj _ hi (by omega) B rfl) ((World.putObj_heap_other (by omega)).trans hk)⟩
  ·exact⟨some c,_,by have:=run_endLoop (P:=P) B (by rw[A];simp[aa]);rw[A] at this;exact this,ar _ c pre _ (Nat.le_refl _) aE ((X c).putObj _ hi (by omega) B rfl) ((World.putObj_heap_other (by omega)).trans hk)⟩
end Go.SX
namespace Go.SX
open Go
variable {l:Nat}
variable {P:Program} {ops:Array Oper} {Q:Exit->Act->World->Prop} {md:Region.Mode}
theorem Ek9 {n:Nat}{row:String}{args:Array Value}{w:World}{R:Value->World->Prop}(h:Rows P row args w R):RowsIn (Fence.wide.inRound l) n P row args w R:=by
 intro c cs p;obtain⟨v,w',h1,e⟩:=h c cs;exact⟨v,w',h1,stepsIn_wide.2 e⟩
theorem Ed3 {r:Result Next}{n:Nat}{o:Oper}{a:Act}{next:Act->World->Prop}(h:o.upon P a next Q r):o.uponIn (Fence.wide.inRound l) n P a next Q r:=by
 cases r with
 | ok v w'=>
  cases v with
  | enter f args=>exact⟨λ e=>(by cases e),callsIn_wide.2 h⟩
  | row r args=>exact⟨λ e=>(by cases e),Ek9 h⟩
  | round=>exact h.elim
  | value v=>exact h
  | skip=>exact h
  | defer d=>exact h
  | _=>exact h.elim
 | halt x w'=>
  cases x<;>first | exact h | exact h.elim
theorem Ej1 {i:Nat}{n:Nat}{a:Act}{w:World}{K:Act->World->Prop}(p: ∀(j:Nat) (o:Oper),ops[j]?=some o->∀c,o.op≠.defer c)(u:¬LetsOut Q)(h:wpOp P ops Q i K a w):wpOpIn (Fence.wide.inRound l) n P ops Q i K a w:=by
 unfold wpOpIn;unfold wpOp at h
 cases e:ops[i]? with
 | none=>simpa[e] using h
 | some o=>
  simp only[e] at h⊢;split
  ·rename_i hw
   rw[if_pos hw] at h;refine⟨λ _ _=>trivial,?_⟩;rw[Oper.semAt_eq _ _ _ (p i o e)];rcases h with h | h
   ·exact Ed3 h
   ·exact absurd h.2 u
  ·rename_i hw
   rw[if_neg hw] at h;exact⟨λ _ _=>trivial,h⟩
theorem Ce9 {n:Nat}(e: ∀(j:Nat) (o:Oper),ops[j]?=some o->∀c,o.op≠.defer c)(p:¬LetsOut Q): ∀(fuel:Nat) (listed:Array Bool) (a:Act) (w:World),wpAny P md ops Q fuel listed a w->wpAnyIn (Fence.wide.inRound l) n P md ops Q fuel listed a w
 | 0,_,_,_,h=>h
 | fuel+1,_,_,_,h=>⟨h.1,λ i hi=>Ej1 e p (wpOp_mono (λ a' w' u=>Ce9 e p fuel _ a' w' u) (h.2 i hi))⟩
theorem Cq1 {id:Nat}{n:Nat}{S:World->Prop}{a:Act}{w:World}(hm:P.follows .mixedOrders=true)(e: ∀(j:Nat) (o:Oper),ops[j]?=some o->∀c,o.op≠.defer c)(p:¬LetsOut Q)(h:wpAnyH P .any ops Q S ops.size (Array.replicate ops.size false) a w.drew):(Code.region id ops true).wpIn (Fence.wide.inRound l) n P Q a w:=
 wpIn_region_any hm (Ce9 e p _ _ _ _ (wpAny_of_held _ _ _ _ h))
end Go.SX
namespace Go.SX
variable {a:ByteArray}{x:Nat}{z:Int}
def sb (a:ByteArray) (i:Nat):Nat:=if h:i<a.size then(a[i]'h).toNat else 0
theorem Ao5 (a:ByteArray)(i:Nat):Ae2 a i=(sb a i:Int):=by
 unfold Ae2 sb;split<;>rfl
def dv (a:ByteArray):Nat->Nat
 | 0=>0
 | i+1=>dv a i*10+(sb a i-48)
def Cv5 (a:ByteArray):Prop:=a.size≠0/\a.size<=4000/\¬(sb a 0=48/\1<a.size)/\∀i,i<a.size->48<=sb a i/\sb a i<=57
instance (a:ByteArray):Decidable (Cv5 a):=inferInstanceAs (Decidable (_/\_))
def Ad2 (a:ByteArray):Option Nat:=if Cv5 a then some (dv a a.size) else none
def Ac3 (a:ByteArray):Option Int:=if 0<a.size/\sb a 0=45 then
  (match Ad2 (a.extract 1 a.size) with
  | some x=>if x=0 then none else some (-(x:Int))
  | none=>none)
 else(Ad2 a).map λ x=>(x:Int)
def Al7 (a:ByteArray) (c:Nat):Nat->Nat->Option Nat
 | 0,_=>none
 | n+1,i=>if sb a i=c then some i else Al7 a c n (i+1)
def Ak5 (a:ByteArray):Option Nat:=Al7 a 47 a.size 0
def Ab7 (a:ByteArray):Option Rat:=match Ak5 a with
 | none=>(Ac3 a).map λ(z:Int)=>(z:Rat)
 | some i=>match Ac3 (a.extract 0 i),Ad2 (a.extract (i+1) a.size) with
  | some n,some d=>if d<2\/Nat.gcd d n.natAbs≠1 then none else some (mkRat n d)
  | _,_=>none
theorem Fl3 {a:ByteArray}(h: ∀i,i<a.size->48<=sb a i/\sb a i<=57): ∀{k:Nat},k<=a.size->dv a k<10^k
 | 0,_=>by simp[dv]
 | k+1,hk=>by
  have h1:=Fl3 h (k:=k) (by omega);have c:=h k (by omega);simp only[dv,Nat.pow_succ];omega
theorem Bq9 (h:Ad2 a=some x):x<10^a.size/\a.size<=4000:=by
 unfold Ad2 at h;split at h
 ·rename_i c
  cases h;exact⟨Fl3 c.2.2.2 (Nat.le_refl _),c.2.1⟩
 ·cases h
theorem Ee2 (k:Nat):10^k<=B^k:=Nat.pow_le_pow_left (by decide) k
theorem Ei8 {k:Nat}{n:Nat}(h:x<10^k)(hk:k<=n):nl x<=n:=Bc6 (Nat.lt_of_lt_of_le h (Nat.le_trans (Ee2 k) (Nat.pow_le_pow_right Ad3 hk)))
theorem Ap1 (h:Ad2 a=some x):nl x<=4000:=by
 obtain⟨h1,c⟩:=Bq9 h;exact Ei8 h1 c
theorem Av3 (h:Ad2 a=some x)(c:a.size<=20):nl x<=3:=by
 obtain⟨h1,_⟩:=Bq9 h;apply Bc6;have e:10^a.size<=10^20:=Nat.pow_le_pow_right (by decide) c;have p:10^20<=B^3:=by decide
 omega
theorem Be9 (h:Ac3 a=some z):nl z.natAbs<=4000:=by
 unfold Ac3 at h;split at h
 ·split at h
  ·rename_i x e
   split at h
   ·cases h
   ·cases h;rw[Int.natAbs_neg,Int.natAbs_natCast];exact Ap1 e
  ·cases h
 ·cases c:Ad2 a with
  | none=>rw[c] at h;cases h
  | some x=>
   rw[c] at h;cases h;exact Ap1 c
theorem Bk5 (h:Ac3 a=some z)(e:a.size<=20):nl z.natAbs<=3:=by
 unfold Ac3 at h;split at h
 ·split at h
  ·rename_i x p
   split at h
   ·cases h
   ·cases h;rw[Int.natAbs_neg,Int.natAbs_natCast];exact Av3 p (by rw[ByteArray.size_extract];omega)
  ·cases h
 ·cases c:Ad2 a with
  | none=>rw[c] at h;cases h
  | some x=>
   rw[c] at h;cases h;exact Av3 c e
theorem Aw6 {q:Rat}(h:Ab7 a=some q):Sz 4000 q/\(a.size<=20->Sz 3 q):=by
 unfold Ab7 at h;split at h
 ·cases c:Ac3 a with
  | none=>rw[c] at h;cases h
  | some z=>
   rw[c] at h;cases h;exact⟨⟨by rw[Rat.num_intCast];exact Be9 c,by rw[Rat.den_intCast,Ax0];omega⟩,λ e=>⟨by rw[Rat.num_intCast];exact Bk5 c e,by rw[Rat.den_intCast,Ax0];omega⟩⟩
 ·split at h
  ·rename_i n d p u
   split at h
   ·cases h
   ·rename_i i _ w
    cases h;have v:d≠0:=by omega
    exact⟨Sz.mk (Be9 p) (Ap1 u) v,λ e=>Sz.mk (Bk5 p (by rw[ByteArray.size_extract];omega)) (Av3 u (by rw[ByteArray.size_extract];omega)) v⟩
  ·cases h
end Go.SX
namespace Go.SX
variable {W:PW}{a:ByteArray}{d k:Nat}{l:List Nat}{s:Sl}{t:TypeId}
theorem Own.put {W':PW}{us:List Nat}{ws:List Nat}{g:Nat}{cs:Array Value}(h:Own W t 1 s (cel us))(hm:Mut W t s g 0 cs us)(p:Aq5 W W' g cs t 0 (cv ws))(A:ws.length=us.length):Own W' t 1 s (cel ws):=by
 obtain⟨⟨h1,hlen,B⟩,H⟩:=h;have I:=hm.n;refine⟨⟨Es6 ws,?_,?_⟩,λ b u=>?_⟩
 ·rw[Al2,Ag7,Aa5];omega
 ·rcases B with⟨e,v⟩ | ⟨C,cap,cur,e,v,D,h1,E,G,J⟩
  ·have c:=hm.A
   simp only[Sl.v,Value.slice.injEq] at e;rw[e.1] at c;cases c
  ·have c:s.A=some ⟨C,0,none⟩/\s.n=(cel us).length/\s.c=cap:=by simpa[Sl.v] using e
   have w:=hm.A;rw[c.1] at w;cases w;have y:=hm.heap;rw[D] at y;cases y;refine .inr ⟨g,cap,_,?_,v,p.heap,by rw[Aa5] at *;omega,E,?_,?_⟩
   ·rw[e,Aa5,Aa5,A]
   ·simp only[List.size_toArray,Bf4];simpa using G
   ·rw[Al2,Aa5,Nat.mul_one]
    apply List.ext_getElem?;intro k;rw[List.getElem?_take];have L:=hm.room;split
    ·rename_i hk
     rw[Ap0,if_pos (by rw[Ag7];simp;omega),Nat.sub_zero]
    ·rename_i hk
     rw[List.getElem?_eq_none (by rw[Ag7];omega)]
 ·have c:s.A=some ⟨g,0,none⟩:=hm.A
  have:b=g:=by simp[Sl.v,Value.ownBlock,c] at u;exact u.symm
  rw[this];exact p.S
theorem Own.n {xs:List (List Value)}{sz:Nat}(h:Own W t sz s xs):s.n=xs.length:=h.row.1
theorem grow_step {z:Nat}{u:Nat}{p:Nat}{b:Nat}{y:Nat}{c:Nat}(h:z+p*c=u*b+y):z+p*((c+d*b)%B)+(p*B)*((c+d*b)/B)=(u+p*d)*b+y:=by
 have:=Nat.mod_add_div (c+d*b) B;have e:p*((c+d*b)%B)+(p*B)*((c+d*b)/B)=p*(c+d*b):=by rw[<-this];grind
 grind
theorem Cx9 (h:d≠0):Trim (l ++ [d]):=by
 unfold Trim;rw[List.getLast?_append]
 simpa using h
theorem Ek5 (c:Dig l)(p:l≠[])(h:B^(l.length-1)<=val l):Trim l:=by
 have v:=List.length_pos_iff.2 p;have hk:l.length-1<l.length:=by omega
 unfold Trim;rw[List.getLast?_eq_getElem?,List.getElem?_eq_getElem hk];intro e;have u:l[l.length-1]=0:=Option.some.inj e;have h1:=Aa4 hk;rw[show l.length-1+1=l.length by omega,List.take_length,u,Nat.mul_zero,Nat.add_zero] at h1;have w:=Ae6 c (l.length-1);omega
theorem Ee4 (h:l≠[])(c:Trim l):B^(l.length-1)<=val l:=by
 have p:=List.length_pos_iff.2 h;have hk:l.length-1<l.length:=by omega
 have h1:=Aa4 hk;rw[show l.length-1+1=l.length by omega,List.take_length] at h1;unfold Trim at c;rw[List.getLast?_eq_getElem?,List.getElem?_eq_getElem hk] at c;have u:l[l.length-1]≠0:=λ e=>c (by rw[e]);rw[h1];have:B^(l.length-1)*1<=B^(l.length-1)*l[l.length-1]:=Nat.mul_le_mul_left _ (by omega);omega
theorem Dd0 (W:PW):Own W t 1 ⟨none,0,0⟩ (cel (dg (dv a 0))):=by
 rw[show dv a 0=0 from rfl,Ae8];refine⟨⟨Es6 [],rfl,.inl ⟨rfl,rfl⟩⟩,λ g c=>?_⟩;simp[Sl.v,Value.ownBlock] at c
theorem Du1 {z:Int}(h:0<=z)(c:z<256):IntKind.wrap .u8 z=z:=by
 unfold IntKind.wrap;simp[IntKind.signed,IntKind.bits];omega
theorem dgt (h1:48<=sb a k)(c:sb a k<=57):IntKind.wrap .u32 (IntKind.wrap .u8 (Ae2 a k-48))=((sb a k-48:Nat):Int):=by
 rw[Ao5,Du1 (by omega) (by omega),show((sb a k:Int)-48)=((sb a k-48:Nat):Int) by omega,Ab9,Nat.mod_eq_of_lt (by unfold B;omega)]
theorem Fn5 (h: ∀i,i<k->48<=sb a i/\sb a i<=57)(hk:k<=4000):nl (dv a k)<=k:=by
 have h1: ∀j,j<=k->dv a j<10^j:=by
  intro j
  induction j with
  | zero=>intro _;simp[dv]
  | succ j ih=>
   intro c;have:=ih (by omega);have e:=h j (by omega);simp only[dv,Nat.pow_succ];omega
 exact Bc6 (Nat.lt_of_lt_of_le (h1 k (Nat.le_refl _)) (Ee2 k))
theorem Bh4 (h:¬Cv5 a):Ad2 a=none:=if_neg h
theorem Bu4 (h:Cv5 a):Ad2 a=Option.some (dv a a.size):=if_pos h
theorem Bi0:a≠⟨⟨[]⟩⟩↔a.size≠0:=by
 constructor
 ·intro h e
  apply h;apply ByteArray.ext;apply Array.eq_empty_of_size_eq_zero e
 ·rintro h rfl
  exact h rfl
end Go.SX
namespace Go.SX
variable {a:ByteArray}
theorem Fp0 {j:Nat}{c:Nat}(p:j<a.size)(u:c<256):(a[j]! == c.toUInt8)=decide (sb a j=c):=by
 have e:a[j]! = a[j]'p:=getElem!_pos a j p;rw[e];unfold sb;rw[dif_pos p];rw[Bool.eq_iff_iff];simp only[beq_iff_eq,decide_eq_true_eq];constructor
 ·rintro h
  rw[h];simp[Nat.toUInt8,Nat.mod_eq_of_lt u]
 ·intro h
  apply UInt8.toNat_inj.1;rw[h];simp[Nat.toUInt8,Nat.mod_eq_of_lt u]
theorem Bj6 {c:Nat}(p:c<256): ∀(n i:Nat),i+n<=a.size->(List.range' i n).find? (λ j=>a[j]! == c.toUInt8)=Al7 a c n i
 | 0,i,h=>rfl
 | n+1,i,h=>by
  rw[List.range'_succ,List.find?_cons,Fp0 (by omega) p];unfold Al7
  by_cases e:sb a i=c
  ·rw[if_pos e,decide_eq_true e]
  ·rw[if_neg e,decide_eq_false e]
   exact Bj6 p n (i+1) (by omega)
def Cx6 (o:Option Nat):Int:=match o with
 | some i=>(i:Int)
 | none=>-1
theorem Bm2 {c:Nat}(e:c<256):firstIdx a c.toUInt8=Cx6 (Al7 a c a.size 0):=by
 unfold firstIdx Cx6;rw[List.range_eq_range',Bj6 e _ _ (by omega)];cases Al7 a c a.size 0<;>rfl
theorem Aq6 {a:ByteArray}{c:Nat}: ∀(n i:Nat) {k:Nat},Al7 a c n i=Option.some k->i<=k/\k<i+n/\sb a k=c
 | 0,i,k,h=>by cases h
 | n+1,i,k,h=>by
  unfold Al7 at h;split at h
  ·cases h
   exact⟨Nat.le_refl _,by omega,by assumption⟩
  ·have:=Aq6 n (i+1) h
   omega
end Go.SX
namespace Go.SX
variable {K:PW->Prop}{M N:Nat->Prop}{W W' W0:PW}{b:Bool}{g i j n0 off r:Nat}{l:List Value}{m:Nat->Nat->Rat}{q:Rat}{s s':Sl}{t t' tq ts tu:TypeId}{xs:List (List Value)}
def Gf6 (n0:Nat) (W:PW):Prop:=n0<=W.w.heap.size
theorem Gf6.ext (h:Gf6 n0 W)(c:Ext W W'):Gf6 n0 W':=Nat.le_trans h c.size
theorem Ao9 (W:PW):Aa6 t W ⟨none,0,0⟩ 0:=⟨by simp[cel,Ae8],by simp,by decide,by simp[cel,Ae8],.inl (by simp[cel,Ae8])⟩
theorem Ar9 (W:PW):Ab3 t W ⟨none,0,0⟩ false ⟨none,0,0⟩ 0:=⟨⟨Ao9 W,by decide⟩,Ao9 W⟩
def Wr (t:TypeId) (g:Nat) (W c:PW):Prop:=∃W' cs e,Ext W W'/\Au9 (· = g) W' c/\W'.w.heap[g]?=some (Obj.cells cs t e)
theorem Wr.Fi9 (h:Wr t g W W'):Au9 (· = g) W W':=let⟨_,_,_,h1,c,_⟩:=h;(h1.toM _).trans c
theorem Wr.row {sz:Nat}(h:Wr t' g W W')(c:Row W t sz s xs)(e:t≠t'):Row W' t sz s xs:=let⟨_,_,_,h1,p,u⟩:=h;(c.ext h1).put p u e
theorem Wr.nat {x:Nat}(h:Wr t' g W W')(c:Aa6 t W s x)(e:t≠t'):Aa6 t W' s x:=h.row c e
theorem Wr.rat (h:Wr t' g W W')(c:Ab3 t W s b s' q)(e:t≠t'):Ab3 t W' s b s' q:=⟨⟨h.nat c.1.1 e,c.1.2⟩,h.nat c.2 e⟩
theorem Wr.qs {f:Nat->Rat}{n:Nat}(h:Wr t' g W W')(c:Qs t W xs n f)(e:t≠t'):Qs t W' xs n f:=
 ⟨c.1,λ i hi=>let⟨s,b,s',h1,p⟩:=c.2 i hi;⟨s,b,s',h1,h.rat p e⟩⟩
theorem Wr.Fi8 (h:Wr t g W W')(e:n0<=g):Eo1 n0 W W':=h.Fi9.mono λ b c=>by have:b=g:=c;omega
theorem Own.at {sz:Nat}(h:Own W t sz s xs)(p:xs≠[]): ∃g cs,s.A=some ⟨g,0,none⟩/\s.v.ownBlock=some g/\¬W.S g/\W.w.heap[g]?=some (.cells cs t (0,0))/\xs.length*sz<=cs.size:=by
 obtain⟨⟨C,hlen,u⟩,v⟩:=h;rcases u with⟨D,w⟩ | ⟨g,cap,cur,y,_,A,h1,E,B,G⟩
 ·exact absurd (List.eq_nil_of_length_eq_zero w) p
 ·have c:s.A=some ⟨g,0,none⟩/\s.n=xs.length/\s.c=cap:=by simpa[Sl.v] using y
  have e:s.v.ownBlock=some g:=by simp[Sl.v,Value.ownBlock,c.1]
  exact⟨g,cur,c.1,e,v g e,A,by rw[B];exact Nat.mul_le_mul_right _ h1⟩
theorem Own.other {sz:Nat}(h:Own W t sz s xs)(w:Au9 M W W')(y: ∀g,s.v.ownBlock=some g->¬M g):Own W' t sz s xs:=by
 obtain⟨⟨p,hlen,A⟩,B⟩:=h;rcases A with⟨e,C⟩ | ⟨g,cap,cur,e,D,u,h1,E,G,H⟩
 ·refine⟨⟨p,hlen,.inl ⟨e,C⟩⟩,λ g c=>?_⟩
  rw[e] at c;simp[Value.ownBlock] at c
 ·have c:s.v.ownBlock=some g:=by rw[e];rfl
  have hk:=w.Ai1 g (Array.getElem?_eq_some_iff.1 u).1 (B g c) (y g c);refine⟨⟨p,hlen,.inr ⟨g,cap,cur,e,D,hk.1.trans u,h1,E,G,H⟩⟩,λ I v=>?_⟩;rw[c] at v;cases v;exact hk.2
theorem Ei4: ∀(l cs:List Value) (o n:Nat),o+l.length<=n->n<=cs.length->(Aj6 cs o l).take n=Aj6 (cs.take n) o l:=by
 intro l cs o n h1 e;apply List.ext_getElem?;intro k;rw[List.getElem?_take,Ap0,Ap0]
 by_cases hk:k<n
 ·rw[if_pos hk]
  by_cases c:o<=k/\k<o+l.length/\k<cs.length
  ·rw[if_pos c,if_pos (by simp;omega)]
  ·rw[if_neg c,if_neg (by simp;omega),List.getElem?_take,if_pos hk]
 ·rw[if_neg hk,if_neg (by omega),List.getElem?_take,if_neg hk]
theorem Ao7 {sz:Nat}(h:Own W t sz s xs)(w:j<xs.length)(y:l.length=sz)(R: ∀u∈l,u.oneCell'=true)(S: ∀g,s.v.ownBlock=some g->may W0 M g)(T: ∀(p:PW) (g:Nat),s.v.ownBlock=some g->Wr t g W p->Own p t sz s (xs.set j l)->K p):An9 W0 M s (j*sz+0) l W K:=by
 intro W' E;have G:=h.ext E;have H:xs≠[]:=λ e=>by subst e;simp at w
 obtain⟨g,cs,U,v,V,A,X⟩:=G.at H;have hle:j*sz+sz<=xs.length*sz:=by rw[<-Nat.succ_mul];exact Nat.mul_le_mul_right _ w
 refine⟨g,0,cs,t,U,V,A,by omega,S g v,λ p B=>T p g v ⟨W',cs,(0,0),E,B.ext,A⟩ ?_⟩;obtain⟨⟨h1,hlen,Y⟩,ad⟩:=G;have I: ∀x∈xs.set j l,x.length=sz/\∀u∈x,u.oneCell'=true:=by
  intro x c;rcases List.mem_or_eq_of_mem_set c with c | rfl
  ·exact h1 x c
  ·exact⟨y,R⟩
 refine⟨⟨I,?_,?_⟩,λ b J=>?_⟩
 ·rw[Ac0 (λ x c=>(I x c).1)]
 ·rcases Y with⟨C,D⟩ | ⟨Z,cap,cur,C,D,L,k1,k2,k3,k4⟩
  ·exact absurd (List.eq_nil_of_length_eq_zero D) H
  ·have O:s.v.ownBlock=some Z:=by rw[C];rfl
   rw[v] at O;cases O;rw[A] at L;cases L;refine .inr ⟨g,cap,_,by rw[List.length_set];exact C,D,B.heap,by rw[List.length_set];exact k1,k2,by simp only[List.size_toArray,Bf4];simpa using k3,?_⟩;rw[List.length_set,Nat.zero_add,Nat.add_zero];show(Aj6 cs.toList (j*sz) l).take (xs.length*sz)=_;rw[Ei4 _ _ _ _ (by rw[y];exact hle) (by simpa using X),k4,Ap5 (λ x c=>(h1 x c).1) w y]
 ·rw[v] at J
  cases J;exact B.S
theorem Aa7.ext {sz:Nat}(h:Aa7 W s sz i off l)(e:Ext W W'):Aa7 W' s sz i off l:=
 let⟨b,o,cs,t,p,u,v,c,w⟩:=h
 have hk:=e.Ai1 b (Array.getElem?_eq_some_iff.1 c).1 v
 ⟨b,o,cs,t,p,u,hk.2,hk.1.trans c,w⟩
def Gl4 (tu tq ts:TypeId) (N:Nat->Prop) (W:PW) (s:Sl) (r c:Nat) (m:Nat->Nat->Rat):Prop:=
 ∃e:List Sl,e.length=r/\Row W ts 1 s (e.map λ x=>[x.v])/\(∀i (h:i<e.length),∃xs,Own W tq 3 e[i] xs/\Qs tu W xs c (m i)/\∀g,e[i].v.ownBlock=some g->N g)/\
  ∀i j (hi:i<e.length) (p:j<e.length),i≠j->∀g,e[i].v.ownBlock=some g->e[j].v.ownBlock≠some g
theorem Gl4.ext {c:Nat}(h:Gl4 tu tq ts N W s r c m)(e:Ext W W'):Gl4 tu tq ts N W' s r c m:=
 let⟨p,h1,u,v,w⟩:=h;⟨p,h1,u.ext e,λ i hi=>let⟨xs,k1,y,A⟩:=v i hi;⟨xs,k1.ext e,y.ext e,A⟩,w⟩
theorem Gl4.mono {e:Nat->Prop}{c:Nat}(h:Gl4 tu tq ts N W s r c m)(p: ∀g,N g->e g):Gl4 tu tq ts e W s r c m:=
 let⟨u,h1,v,w,y⟩:=h;⟨u,h1,v,λ i hi=>let⟨xs,k1,A,B⟩:=w i hi;⟨xs,k1,A,λ g C=>p g (B g C)⟩,y⟩
theorem Gl4.mat {c:Nat}(h:Gl4 tu tq ts N W s r c m):Gf9 tu tq ts W s r (λ _=>c) m:=
 let⟨e,h1,p,u,w⟩:=h;⟨e,p,h1,λ i hi=>let⟨xs,k1,v,y⟩:=u i hi;⟨xs,k1.row,v⟩⟩
theorem Gl4.congr {m':Nat->Nat->Rat}{c:Nat}(h:Gl4 tu tq ts N W s r c m)(he: ∀i j,i<r->j<c->m i j=m' i j):Gl4 tu tq ts N W s r c m':=
 let⟨e,h1,p,u,v⟩:=h;⟨e,h1,p,λ i hi=>let⟨xs,k1,w,y⟩:=u i hi;⟨xs,k1,w.congr λ j A=>he i j (by omega) A,y⟩,v⟩
def Ha2 (m:Nat->Nat->Rat) (i j:Nat) (q:Rat):Nat->Nat->Rat:=λ a b=>if a=i/\b=j then q else m a b
def Put (tq:TypeId) (N:Nat->Prop) (W W':PW):Prop:=∃g,N g/\Wr tq g W W'
theorem Put.Fi8 (h:Put tq N W W')(c: ∀g,N g->n0<=g):Eo1 n0 W W':=let⟨g,h1,e⟩:=h;e.Fi8 (c g h1)
theorem Put.rat (h:Put tq N W W')(c:Ab3 t W s b s' q)(e:t≠tq):Ab3 t W' s b s' q:=let⟨_,_,p⟩:=h;p.rat c e
theorem Gl4.store {s1:Sl}{s2:Sl}{x:Sl}{c:Nat}(h:Gl4 tu tq ts N W s r c m)(J:Aa7 W s 1 i 0 [x.v])(hi:i<r)(y:j<c)(L:Ab3 tu W s1 b s2 q)(hu:tu≠tq)(O:ts≠tq)(R: ∀g,N g->may W0 M g)(S: ∀w,Put tq N W w->Gl4 tu tq ts N w s r c (Ha2 m i j q)->K w):An9 W0 M x (j*3+0) [s1.v,.bool b,s2.v] W K:=by
 obtain⟨p,h1,D,E,G⟩:=h;have B:i<p.length:=by omega
 have hex:Aa7 W s 1 i 0 [p[i].v]:=Row.elem D (x:=[p[i].v]) (by simp[B]) λ j v y=>by simpa using y
 have T:x=p[i]:=by
  have:=Aa7.inj J hex rfl;simp only[List.cons.injEq,and_true,Value.slice.injEq] at this;cases x;cases hy:p[i]
  simp_all
 subst T;obtain⟨xs,k1,H,C⟩:=E i B;refine Ao7 k1 (by rw[H.1];exact y) rfl ?_ (λ g A=>R g (C g A)) λ w g A hw U=>S w ⟨g,C g A,hw⟩ ⟨p,h1,hw.row D O,λ a I=>?_,G⟩
 ·intro u hu
  simp only[List.mem_cons,List.not_mem_nil,or_false] at hu;rcases hu with rfl | rfl | rfl<;>rfl
 ·by_cases e:a=i
  ·subst e
   refine⟨_,U,?_,C⟩;have:=(hw.qs H hu).set y (hw.rat L hu);refine this.congr λ k hk=>?_;unfold Ha2
   by_cases e:k=j<;>simp[e]
  ·obtain⟨V,X,Y,Z⟩:=E a I
   refine⟨V,X.other hw.Fi9 λ g' aa=>?_,(hw.qs Y hu).congr λ k hk=>?_,Z⟩
   ·rintro rfl
    exact G a i I B e _ aa A
   ·unfold Ha2
    simp[e]
theorem Aa7.new {sz:Nat}(h:Aa7 W s sz i off l)(e:Eo1 n0 W W')(A:W.w.heap.size<=n0):Aa7 W' s sz i off l:=by
 obtain⟨b,o,cs,t,p,u,v,c,w⟩:=h;have y:=(Array.getElem?_eq_some_iff.1 c).1;have hk:=e.Ai1 b y v (by show ¬n0<=b;omega);exact⟨b,o,cs,t,p,u,hk.2,hk.1.trans c,w⟩
end Go.SX
namespace Go.SX
variable {W W':PW}{b:Bool}{f:Nat->Rat}{m:Nat->Nat->Rat}{q:Rat}{r:Nat}{s s':Sl}{t tq ts tu:TypeId}{xs:List (List Value)}
def Ab6 (t:TypeId) (W:PW) (b:Bool) (s s':Sl) (q:Rat):Prop:=Ab5 t W s b q.num/\(Aa6 t W s' q.den\/q.den=1/\Aa6 t W s' 0)
theorem Ab6.ext (h:Ab6 t W b s s' q)(c:Ext W W'):Ab6 t W' b s s' q:=⟨h.1.ext c,h.2.imp (λ h=>h.ext c) λ h=>⟨h.1,h.2.ext c⟩⟩
@[reducible] def IsRQ (t:TypeId) (W:PW) (s:Sl) (b:Bool) (s':Sl) (q:Rat):Prop:=Ab6 t W b s s' q
theorem Db0 (W:PW):IsRQ t W ⟨none,0,0⟩ false ⟨none,0,0⟩ 0:=⟨⟨Ao9 W,by decide⟩,.inr ⟨rfl,Ao9 W⟩⟩
theorem IsRQ.ext (h:IsRQ t W s b s' q)(c:Ext W W'):IsRQ t W' s b s' q:=Ab6.ext h c
def RQs (t:TypeId) (W:PW) (xs:List (List Value)) (n:Nat) (f:Nat->Rat):Prop:=
 xs.length=n/\∀i,i<n->∃(s:Sl) (b:Bool) (s':Sl),xs[i]?=some [.bool b,s.v,s'.v]/\IsRQ t W s b s' (f i)
theorem RQs.ext {n:Nat}(h:RQs t W xs n f)(c:Ext W W'):RQs t W' xs n f:=
 ⟨h.1,λ i hi=>let⟨s,b,s',h1,e⟩:=h.2 i hi;⟨s,b,s',h1,e.ext c⟩⟩
theorem RQs.congr {g:Nat->Rat}{n:Nat}(h:RQs t W xs n f)(c: ∀i,i<n->f i=g i):RQs t W xs n g:=
 ⟨h.1,λ i hi=>by rw[<-c i hi];exact h.2 i hi⟩
def Bf7 (tu tq:TypeId) (W:PW) (s:Sl) (n:Nat) (f:Nat->Rat):Prop:=∃xs,Row W tq 3 s xs/\RQs tu W xs n f
theorem Bf7.ext {n:Nat}(h:Bf7 tu tq W s n f)(c:Ext W W'):Bf7 tu tq W' s n f:=let⟨xs,h1,e⟩:=h;⟨xs,h1.ext c,e.ext c⟩
theorem Bf7.n {n:Nat}(h:Bf7 tu tq W s n f):s.n=n:=let⟨xs,h1,c⟩:=h;h1.1.trans c.1
def Mj2 (tu tq ts:TypeId) (W:PW) (s:Sl) (r:Nat) (c:Nat->Nat) (m:Nat->Nat->Rat):Prop:=
 ∃e:List Sl,Row W ts 1 s (e.map λ x=>[x.v])/\e.length=r/\∀i (h:i<e.length),Bf7 tu tq W e[i] (c i) (m i)
theorem Mj2.ext {c:Nat->Nat}(h:Mj2 tu tq ts W s r c m)(e:Ext W W'):Mj2 tu tq ts W' s r c m:=
 let⟨p,h1,u,v⟩:=h;⟨p,h1.ext e,u,λ i hi=>(v i hi).ext e⟩
theorem Mj2.n {c:Nat->Nat}(h:Mj2 tu tq ts W s r c m):s.n=r:=let⟨p,h1,e,_⟩:=h;h1.1.trans (by simpa using e)
theorem Mj2.inB {i:Int}{c:Nat->Nat}(h:Mj2 tu tq ts W s r c m)(p:0<=i)(h1:i<(r:Int)):inB s i:=by
 have y:=h.n;obtain⟨u,v,w,_⟩:=h;refine⟨p,by omega,Row.some v λ e=>?_⟩;have:u = []:=by simpa using e
 subst this;simp at w;omega
theorem Mj2.at {c:Nat->Nat}(h:Mj2 tu tq ts W s r c m){i:Nat}(hi:i<r): ∃x:Sl,Aa7 W s 1 i 0 [x.v]/\Bf7 tu tq W x (c i) (m i):=by
 obtain⟨e,u,A,w⟩:=h;have p:i<e.length:=by omega
 exact⟨e[i],Row.elem u (x:=[e[i].v]) (by simp[p]) λ j v y=>by simpa using y,w i p⟩
theorem Own.block {sz:Nat}(h:Own W t sz s xs){g:Nat}(c:s.v.ownBlock=some g):g<W.w.heap.size/\¬W.S g:=by
 rcases h.1.2.2 with⟨e,_⟩ | ⟨g1,cap,cur,e,_,u,_⟩
 ·rw[e] at c
  simp[Value.ownBlock] at c
 ·have p:s.v.ownBlock=some g1:=by rw[e];rfl
  rw[c] at p;cases p;exact⟨(Array.getElem?_eq_some_iff.1 u).1,h.2 g c⟩
theorem RQs.snoc {n:Nat}(h:RQs t W xs n f)(c:Ab6 t W b s s' q):RQs t W (xs ++ [[.bool b,s.v,s'.v]]) (n+1) (λ k=>if k=n then q else f k):=by
 refine⟨by simp[h.1],λ i hi=>?_⟩;have p:=h.1
 by_cases e:i=n
 ·subst e
  exact⟨s,b,s',by simp[p],by simpa using c⟩
 ·obtain⟨s1,b1,s2,h1,u⟩:=h.2 i (by omega)
  exact⟨s1,b1,s2,by rw[List.getElem?_append_left (by omega)];exact h1,by simpa[e] using u⟩
end Go.SX
namespace Go.SX
end Go.SX
