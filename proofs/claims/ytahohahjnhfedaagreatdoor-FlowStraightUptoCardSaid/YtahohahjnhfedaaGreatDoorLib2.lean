/- A range over a function whose body may write what the function reads: the walk's law with a word on memory that holds between two rounds, and with the element that comes next. The way of proof is that of the kit's laws of a range over a function. -/
import Derived.RangeFuncWrites
import Derived.RangeFuncLeaves
import Derived.RangeFuncBox
import Derived.Test.YtahohahjnhfedaaGreatDoorSx1
import Derived.RangeFuncIn
import Derived.WalkKit
import Derived.OrdersIn
import Derived.OrdersHeld
import Derived.Test.YtahohahjnhfedaaGreatDoorLib1
import Derived.Laws.Externs
import Derived.Test.YtahohahjnhfedaaGreatDoorSx2
set_option linter.unusedVariables false
set_option linter.unusedSimpArgs false
namespace Go.SX
open Go Go.RowKit
variable {F:Fence} {n:Nat} {P:Program}
theorem Ao2 (w:World) (a:Addr) (v:Value):(w.setCell a v).drawn=w.drawn:=by unfold World.setCell;(repeat' split)<;>rfl
def Af7 {β:Type} (B:Nat) (I:β→World→Prop):Prop:=
 ∀s W W' row,I s W→W.grownBy W' row→W.drawn≤W'.drawn→(∀r,row=some r→B≤r∧∃o:Obj,W.heap[r]?=some o∧o.isCells=false)→I s W'
theorem Af7.putObj {β:Type} {B:Nat} {I:β→World→Prop} (h:Af7 B I) {s:β} {W:World} {l:Nat} {o:Obj} (o':Obj) (hs:I s W) (hB:B≤l) (hl:W.heap[l]?=some o) (ho:o.isCells=false):I s (W.putObj l o'):=
 h s W _ (some l) hs (grownBy_putObj' W l o') (Nat.le_refl _) (fun r e=>by cases e;exact⟨hB,o,hl,ho⟩)
theorem Af7.alloc {β:Type} {B:Nat} {I:β→World→Prop} (h:Af7 B I) {s:β} {W:World} (o:Obj) (hs:I s W):I s (W.alloc o):=
 h s W _ none hs (World.grownBy_alloc W o none) (Nat.le_refl _) (fun r e=>by cases e)
theorem Af7.and {β:Type} {B:Nat} {I I':β→World→Prop} (h:Af7 B I) (h':Af7 B I'):Af7 B (fun s W=>I s W∧I' s W):=fun s W W' row hs hg hd hr=>⟨h s W W' row hs.1 hg hd hr,h' s W W' row hs.2 hg hd hr⟩
theorem Own.Ey9 {β:Type} {I:β→World→Prop} (h:Go.Own I) (B:Nat):Af7 B I:=fun s W W' row hs hg _ hr=>h s W W' row hs hg (fun r e=>(hr r e).2)
structure An0 (w W:World):Prop where
 b:Below w.heap.size w W
 d:w.drawn≤W.drawn
theorem An0.setCell {w W:World} (h:An0 w W) {p:Addr} (hp:w.heap.size≤p.block) (v:Value):An0 w (W.setCell p v):=⟨h.b.setCell hp v,by rw[Ao2];exact h.d⟩
theorem An0.put {w W:World} (h:An0 w W) {D:Nat} {o o':Obj} (hD:w.heap.size≤D) (hK:W.heap[D]?=some o) (h1:o.isCells=false) (h2:o.isWalk=false):An0 w (W.putObj D o'):=⟨h.b.trans (belowK_b (w:=w) (Nat.le_refl _) W D o o' hD hK h1 h2),h.d⟩
theorem Am0 {β:Type} {B:Nat} {w:World} (hB:w.heap.size≤B):Af7 B (fun(_:β) W=>An0 w W):=fun s W W' row hs hg hd hr=>⟨ownFrom_below (β:=β) (Nat.le_refl _) hB s W W' row hs.b hg hr,Nat.le_trans hs.d hd⟩
def Bv9 {α:Type} (F:Fence) (n:Nat) (P:Program) (g:Nat) (lb:Array Value) (encs:α→Array Value) (Mem:List α→World→Prop) (Nx:List α→α→Prop) (S Sp:List α→Prop):Prop:=
 ∀(l:Nat) (J Jx:List α→World→Prop) (W:World),(∀pre W',J pre W'→Mem pre W')→
  (∀pre x W1,J pre W1→Nx pre x→YieldAt F (n-1) P l (encs x) W1 fun e W'=>(e = .returned (.bool true)∧J (pre ++ [x]) W')∨(e = .returned (.bool false)∧Jx (pre ++ [x]) W'))→
  J [] W→
  CallsIn F n P g (#[.func (.yield l) #[] #[]] ++ lb) W fun e W'=>(∃v,e = .returned v)∧((∃xs,S xs∧J xs W')∨(∃pre,Sp pre∧Jx pre W'))
def Fs8 {α:Type} (B:Nat) (I:List α→World→Prop) (Ix:Code→List α→World→Prop) (xs:List α) (W:World):Exit→Act→World→Prop:=
 ownPostG B (fun _ _=>True) I Ix xs W
theorem As7 {α:Type} {g:Operand} {ps:Array Tmp} {assign body:Code} {Q:Exit→Act→World→Prop} {a:Act} {w:World}
  (hro:F.round=none) (h1:1≤n) {gf:Nat} {lb:Array Value} (hg:a.eval g = .func (.func gf) #[] lb) (hFg:F.fn gf) (eg: ∀args w,(callFunc gf args).run P w = .ok (.enter gf args) w)
  {encs:α→Array Value} {Mem:List α→World→Prop} {Nx:List α→α→Prop} {S Sp:List α→Prop} (hseq:Bv9 F (n-1) P gf lb encs Mem Nx S Sp) (hps: ∀x,(encs x).size=ps.size)
  (I:List α→World→Prop) (Ix:Code→List α→World→Prop) (hI:Af7 w.heap.size I) (hIx: ∀c,Af7 w.heap.size (Ix c)) (hMem: ∀pre W,I pre W→Mem pre W) (h0:I [] w) (a₁ :α→Act)
  (hassign: ∀(l:Nat) (x:α) (W:World) (K:Act→World→Prop),K (a₁ x) W→
   assign.wpIn (F.inRound l) (n-1-1) P (Exit.then K (fun _ _ _=>False)) {tmps:=(ps.zip (encs x)).foldl (fun t (p,v)=>t.setIfInBounds p v) a.tmps,defers:=[] } W)
  (hbody: ∀(l:Nat) (pre:List α) (x:α) (W:World),I pre W→Nx pre x→body.wpIn (F.inRound l) (n-1-1) P (Fs8 w.heap.size I Ix (pre ++ [x]) W) (a₁ x) W)
  (hdone: ∀(D:Nat) (xs:List α) (W:World),w.heap.size≤D→S xs→I xs W→W.heap[D]?=some (.deferred (some []))→Q .normal {a with defers:={target:=.collected D,args:=#[] } :: a.defers } W)
  (hstop: ∀(D:Nat) (c:Code) (pre:List α) (W:World),w.heap.size≤D→Sp pre→Ix c pre W→W.heap[D]?=some (.deferred (some []))→c.wpIn F n P Q {a with defers:={target:=.collected D,args:=#[] } :: a.defers } W):
  (Code.rangeFunc g ps assign body).wpIn F n P Q a w:=by
 refine wpIn_rangeFunc fun fn hfn=>?_
 rw[hro]
 let rec':LoopState→Option Code→Loop:=fun st pe=>{state:=st,pending:=pe,fn,tmps:=a.tmps,params:=ps,assign,body,defers:=w.heap.size }
 obtain⟨r,hr⟩: ∃r,r=rec':=⟨_,rfl⟩
 obtain⟨V,hV⟩: ∃V,(w.alloc (.deferred (some []))).alloc (.loop (r .ready none))=V:=⟨_,rfl⟩
 have hL:V.heap[w.heap.size+1]?=some (.loop (r .ready none)):=by
  rw[←hV]
  have:=World.alloc_heap_new (w.alloc (.deferred (some []))) (.loop (r .ready none))
  rwa [World.size_alloc] at this
 have hD:V.heap[w.heap.size]?=some (.deferred (some [])):=by
  rw[←hV]
  exact(Below.heap_alloc _ _ _ (by simp)).trans (World.alloc_heap_new w _)
 have hIV:I [] V:=by
  rw[←hV]
  exact hI.alloc _ (hI.alloc _ h0)
 refine⟨w.heap.size+1,[{target:=.collected w.heap.size,args:=#[] }],V,{target:=.fn (.func gf) lb,args:=#[.func (.yield (w.heap.size+1)) #[] #[]] },V,gf,#[.func (.yield (w.heap.size+1)) #[] #[]] ++ lb,V,?_,?_,?_,?_,fun _=>h1,?_⟩
 ·rw[←hV,hr]
  exact run_enterLoop_outer _ _ _ _ _
 ·simp only[resolve,hg]
  simp[go_sem]
 ·intro f' hf'
  simp[Target.leads] at hf'
  subst hf'
  exact hFg
 ·simp[invoke,go_sem,eg]
 refine(hseq (w.heap.size+1)
  (fun pre W=>I pre W∧W.heap[w.heap.size+1]?=some (.loop (r .ready none))∧W.heap[w.heap.size]?=some (.deferred (some [])))
  (fun pre W=>∃c,Ix c pre W∧W.heap[w.heap.size+1]?=some (.loop (r .done (some c)))∧W.heap[w.heap.size]?=some (.deferred (some [])))
  V (fun pre W' h=>hMem pre W' h.1) ?_ ⟨hIV,hL,hD⟩).mono ?_
 ·rintro pre x W ⟨hi,hl,hk⟩ hnx
  have hlt:w.heap.size+1<W.heap.size:=(Array.getElem?_eq_some_iff.1 hl).1
  have hy:=run_yield (P:=P) (args:=encs x) hl (by rw[hr];exact hps x)
  rw[hr] at hy
  refine⟨fn,_,assign,body,hy,roundIn_of_wpIn hfn (hassign _ x W _ ⟨_,run_beginRound hl (by rw[hr]),?_⟩)⟩
  obtain⟨W2,hW2⟩: ∃W2,W.putObj (w.heap.size+1) (.loop {r .ready none with state:=.busy })=W2:=⟨_,rfl⟩
  rw[hW2]
  have hl2:W2.heap[w.heap.size+1]?=some (.loop {r .ready none with state:=.busy }):=by rw[←hW2];exact World.putObj_heap_same hlt
  have hk2:W2.heap[w.heap.size]?=some (.deferred (some [])):=by rw[←hW2];exact(World.putObj_heap_other (by omega)).trans hk
  have hi2:I pre W2:=by rw[←hW2];exact hI.putObj _ hi (by omega) hl rfl
  refine wpIn_mono (hbody _ pre x _ hi2 hnx) ?_
  have fin: ∀(jump:Option Code) (W3:World),KeepsFrom w.heap.size W2 W3→
    (Instr.endRound (w.heap.size+1) jump).run P W3 = .ok (.bool jump.isNone) (W3.putObj (w.heap.size+1) (.loop (r (if jump.isNone then .ready else .done) jump)))∧
    W3.heap[w.heap.size+1]?=some (.loop {r .ready none with state:=.busy })∧
    (W3.putObj (w.heap.size+1) (.loop (r (if jump.isNone then .ready else .done) jump))).heap[w.heap.size+1]?=some (.loop (r (if jump.isNone then .ready else .done) jump))∧
    (W3.putObj (w.heap.size+1) (.loop (r (if jump.isNone then .ready else .done) jump))).heap[w.heap.size]?=some (.deferred (some [])):=fun jump W3 hk3=>by
   have hl3:=hk3.same _ _ (by omega) hl2 rfl
   have:=run_endRound (P:=P) jump hl3
   rw[hr] at this⊢
   exact⟨this,by rw[hr] at hl3;exact hl3,World.putObj_heap_same (Array.getElem?_eq_some_iff.1 hl3).1,(World.putObj_heap_other (by omega)).trans (hk3.same _ _ (Nat.le_refl _) hk2 rfl)⟩
  rintro e a3 W3 hp
  cases e with
  | normal=>
   obtain⟨hk3,_,hi3⟩:=hp
   obtain⟨he,hl3,hl4,hk4⟩:=fin none W3 hk3
   exact⟨_,_,he,.inl ⟨rfl,hI.putObj _ hi3 (by omega) hl3 rfl,hl4,hk4⟩⟩
  | ret=>
   obtain⟨hk3,hi3⟩:=hp
   obtain⟨he,hl3,hl4,hk4⟩:=fin (some .ret) W3 hk3
   exact⟨_,_,he,.inr ⟨rfl,.ret,(hIx _).putObj _ hi3 (by omega) hl3 rfl,hl4,hk4⟩⟩
  | exit id=>
   obtain⟨hk3,hi3⟩:=hp
   obtain⟨he,hl3,hl4,hk4⟩:=fin (some (.exit id)) W3 hk3
   exact⟨_,_,he,.inr ⟨rfl,.exit id,(hIx _).putObj _ hi3 (by omega) hl3 rfl,hl4,hk4⟩⟩
  | goto t=>
   obtain⟨hk3,hi3⟩:=hp
   obtain⟨he,hl3,hl4,hk4⟩:=fin (some (.goto t)) W3 hk3
   exact⟨_,_,he,.inr ⟨rfl,.goto t,(hIx _).putObj _ hi3 (by omega) hl3 rfl,hl4,hk4⟩⟩
  | panic ch=>exact hp.elim
  | outgrown=>exact hp.elim
 ·rintro e W2 ⟨⟨v,rfl⟩,(⟨xs,hS,hi,hl,hk⟩ | ⟨pre,hSp,c,hi,hl,hk⟩)⟩
  ·exact⟨none,_,by have:=run_endLoop (P:=P) hl (by rw[hr];simp[rec']);rw[hr] at this;exact this,hdone _ xs _ (Nat.le_refl _) hS (hI.putObj _ hi (by omega) hl rfl) ((World.putObj_heap_other (by omega)).trans hk)⟩
  ·exact⟨some c,_,by have:=run_endLoop (P:=P) hl (by rw[hr];simp[rec']);rw[hr] at this;exact this,hstop _ c pre _ (Nat.le_refl _) hSp ((hIx c).putObj _ hi (by omega) hl rfl) ((World.putObj_heap_other (by omega)).trans hk)⟩
end Go.SX
/- A region that draws its order, within a round of a range over a function. -/
namespace Go.SX
open Go
variable {P:Program} {ops:Array Oper} {Q:Exit→Act→World→Prop} {md:Region.Mode}
theorem Ek9 {l n:Nat} {row:String} {args:Array Value} {w:World} {R:Value→World→Prop} (h:Rows P row args w R):RowsIn (Fence.wide.inRound l) n P row args w R:=by
 intro c cs hr
 obtain⟨v,w',h1,h2⟩:=h c cs
 exact⟨v,w',h1,stepsIn_wide.2 h2⟩
theorem Ed3 {l n:Nat} {o:Oper} {a:Act} {next:Act→World→Prop} {r:Result Next} (h:o.upon P a next Q r):o.uponIn (Fence.wide.inRound l) n P a next Q r:=by
 cases r with
 | ok v w'=>
  cases v with
  | enter f args=>exact⟨fun e=>(by cases e),callsIn_wide.2 h⟩
  | row r args=>exact⟨fun e=>(by cases e),Ek9 h⟩
  | round=>exact h.elim
  | value v=>exact h
  | skip=>exact h
  | defer d=>exact h
  | _=>exact h.elim
 | halt x w'=>
  cases x<;>first | exact h | exact h.elim
theorem Ej1 {l n:Nat} {i:Nat} {a:Act} {w:World} {K:Act→World→Prop} (hd: ∀(j:Nat) (o:Oper),ops[j]?=some o→∀c,o.op≠.defer c) (hno:¬LetsOut Q) (h:wpOp P ops Q i K a w):wpOpIn (Fence.wide.inRound l) n P ops Q i K a w:=by
 unfold wpOpIn
 unfold wpOp at h
 cases ho:ops[i]? with
 | none=>simpa[ho] using h
 | some o=>
  simp only[ho] at h⊢
  split
  ·rename_i hw
   rw[if_pos hw] at h
   refine⟨fun _ _=>trivial,?_⟩
   rw[Oper.semAt_eq _ _ _ (hd i o ho)]
   rcases h with h | h
   ·exact Ed3 h
   ·exact absurd h.2 hno
  ·rename_i hw
   rw[if_neg hw] at h
   exact⟨fun _ _=>trivial,h⟩
theorem Ce9 {l n:Nat} (hd: ∀(j:Nat) (o:Oper),ops[j]?=some o→∀c,o.op≠.defer c) (hno:¬LetsOut Q): ∀(fuel:Nat) (listed:Array Bool) (a:Act) (w:World),wpAny P md ops Q fuel listed a w→wpAnyIn (Fence.wide.inRound l) n P md ops Q fuel listed a w
 | 0,_,_,_,h=>h
 | fuel+1,_,_,_,h=>⟨h.1,fun i hi=>Ej1 hd hno (wpOp_mono (fun a' w' h'=>Ce9 hd hno fuel _ a' w' h') (h.2 i hi))⟩
theorem Cq1 {l n id:Nat} {S:World→Prop} {a:Act} {w:World} (hm:P.follows .mixedOrders=true) (hd: ∀(j:Nat) (o:Oper),ops[j]?=some o→∀c,o.op≠.defer c) (hno:¬LetsOut Q)
  (h:wpAnyH P .any ops Q S ops.size (Array.replicate ops.size false) a w.drew):(Code.region id ops true).wpIn (Fence.wide.inRound l) n P Q a w:=
 wpIn_region_any hm (Ce9 hd hno _ _ _ _ (wpAny_of_held _ _ _ _ h))
end Go.SX
/- Texts of numbers: what is read. -/
namespace Go.SX
def sb (a:ByteArray) (i:Nat):Nat:=if h:i<a.size then(a[i]'h).toNat else 0
theorem Ao5 (a:ByteArray) (i:Nat):Ae2 a i=(sb a i:Int):=by
 unfold Ae2 sb
 split<;>rfl
def dv (a:ByteArray):Nat→Nat
 | 0=>0
 | i+1=>dv a i*10+(sb a i-48)
def Cv5 (a:ByteArray):Prop:=a.size≠0∧a.size≤4000∧¬(sb a 0=48∧1<a.size)∧∀i,i<a.size→48≤sb a i∧sb a i≤57
instance (a:ByteArray):Decidable (Cv5 a):=inferInstanceAs (Decidable (_∧_))
def Ad2 (a:ByteArray):Option Nat:=if Cv5 a then some (dv a a.size) else none
def Ac3 (a:ByteArray):Option Int:=if 0<a.size∧sb a 0=45 then
  (match Ad2 (a.extract 1 a.size) with
  | some x=>if x=0 then none else some (-(x:Int))
  | none=>none)
 else(Ad2 a).map fun x=>(x:Int)
def Al7 (a:ByteArray) (c:Nat):Nat→Nat→Option Nat
 | 0,_=>none
 | n+1,i=>if sb a i=c then some i else Al7 a c n (i+1)
def Ak5 (a:ByteArray):Option Nat:=Al7 a 47 a.size 0
def Ab7 (a:ByteArray):Option Rat:=match Ak5 a with
 | none=>(Ac3 a).map fun(z:Int)=>(z:Rat)
 | some i=>match Ac3 (a.extract 0 i),Ad2 (a.extract (i+1) a.size) with
  | some n,some d=>if d<2∨Nat.gcd d n.natAbs≠1 then none else some (mkRat n d)
  | _,_=>none
theorem Fl3 {a:ByteArray} (h: ∀i,i<a.size→48≤sb a i∧sb a i≤57): ∀{k:Nat},k≤a.size→dv a k<10^k
 | 0,_=>by simp[dv]
 | k+1,hk=>by
  have h1:=Fl3 h (k:=k) (by omega)
  have h2:=h k (by omega)
  simp only[dv,Nat.pow_succ]
  omega
theorem Bq9 {a:ByteArray} {x:Nat} (h:Ad2 a=some x):x<10^a.size∧a.size≤4000:=by
 unfold Ad2 at h
 split at h
 ·rename_i hg
  cases h
  exact⟨Fl3 hg.2.2.2 (Nat.le_refl _),hg.2.1⟩
 ·cases h
theorem Ee2 (k:Nat):10^k≤B^k:=Nat.pow_le_pow_left (by decide) k
theorem Ei8 {x k n:Nat} (h:x<10^k) (hk:k≤n):nl x≤n:=Bc6 (Nat.lt_of_lt_of_le h (Nat.le_trans (Ee2 k) (Nat.pow_le_pow_right Ad3 hk)))
theorem Ap1 {a:ByteArray} {x:Nat} (h:Ad2 a=some x):nl x≤4000:=by
 obtain⟨h1,h2⟩:=Bq9 h
 exact Ei8 h1 h2
theorem Av3 {a:ByteArray} {x:Nat} (h:Ad2 a=some x) (hs:a.size≤20):nl x≤3:=by
 obtain⟨h1,_⟩:=Bq9 h
 apply Bc6
 have h2:10^a.size≤10^20:=Nat.pow_le_pow_right (by decide) hs
 have h3:10^20≤B^3:=by decide
 omega
theorem Be9 {a:ByteArray} {z:Int} (h:Ac3 a=some z):nl z.natAbs≤4000:=by
 unfold Ac3 at h
 split at h
 ·split at h
  ·rename_i x hx
   split at h
   ·cases h
   ·cases h;rw[Int.natAbs_neg,Int.natAbs_natCast];exact Ap1 hx
  ·cases h
 ·cases hp:Ad2 a with
  | none=>rw[hp] at h;cases h
  | some x=>
   rw[hp] at h
   cases h
   exact Ap1 hp
theorem Bk5 {a:ByteArray} {z:Int} (h:Ac3 a=some z) (hs:a.size≤20):nl z.natAbs≤3:=by
 unfold Ac3 at h
 split at h
 ·split at h
  ·rename_i x hx
   split at h
   ·cases h
   ·cases h;rw[Int.natAbs_neg,Int.natAbs_natCast];exact Av3 hx (by rw[ByteArray.size_extract];omega)
  ·cases h
 ·cases hp:Ad2 a with
  | none=>rw[hp] at h;cases h
  | some x=>
   rw[hp] at h
   cases h
   exact Av3 hp hs
theorem Aw6 {a:ByteArray} {q:Rat} (h:Ab7 a=some q):Sz 4000 q∧(a.size≤20→Sz 3 q):=by
 unfold Ab7 at h
 split at h
 ·cases hp:Ac3 a with
  | none=>rw[hp] at h;cases h
  | some z=>
   rw[hp] at h
   cases h
   exact⟨⟨by rw[Rat.num_intCast];exact Be9 hp,by rw[Rat.den_intCast,Ax0];omega⟩,fun hs=>⟨by rw[Rat.num_intCast];exact Bk5 hp hs,by rw[Rat.den_intCast,Ax0];omega⟩⟩
 ·split at h
  ·rename_i n d hn hd
   split at h
   ·cases h
   ·rename_i i _ hc
    cases h
    have hd0:d≠0:=by omega
    exact⟨Sz.mk (Be9 hn) (Ap1 hd) hd0,fun hs=>Sz.mk (Bk5 hn (by rw[ByteArray.size_extract];omega)) (Av3 hd (by rw[ByteArray.size_extract];omega)) hd0⟩
  ·cases h
end Go.SX
/- An own row that is written in its place; growing by a digit. -/
namespace Go.SX
theorem Own.put {W W':PW} {t:TypeId} {s:Sl} {us ws:List Nat} {g:Nat} {cs:Array Value} (h:Own W t 1 s (cel us)) (hm:Mut W t s g 0 cs us) (hp:Aq5 W W' g cs t 0 (cv ws)) (hl:ws.length=us.length):Own W' t 1 s (cel ws):=by
 obtain⟨⟨h1,hlen,ho⟩,hS⟩:=h
 have hn:=hm.n
 refine⟨⟨Es6 ws,?_,?_⟩,fun b hb=>?_⟩
 ·rw[Al2,Ag7,Aa5];omega
 ·rcases ho with⟨hv,h0⟩ | ⟨g',cap,cur,hv,h0,hh,h1,h2,h3,h4⟩
  ·have hA:=hm.A
   simp only[Sl.v,Value.slice.injEq] at hv
   rw[hv.1] at hA
   cases hA
  ·have hA:s.A=some ⟨g',0,none⟩∧s.n=(cel us).length∧s.c=cap:=by simpa[Sl.v] using hv
   have hA2:=hm.A
   rw[hA.1] at hA2
   cases hA2
   have hh2:=hm.heap
   rw[hh] at hh2
   cases hh2
   refine .inr ⟨g,cap,_,?_,h0,hp.heap,by rw[Aa5] at *;omega,h2,?_,?_⟩
   ·rw[hv,Aa5,Aa5,hl]
   ·simp only[List.size_toArray,Bf4];simpa using h3
   ·rw[Al2,Aa5,Nat.mul_one]
    apply List.ext_getElem?
    intro k
    rw[List.getElem?_take]
    have hr:=hm.room
    split
    ·rename_i hk
     rw[Ap0,if_pos (by rw[Ag7];simp;omega),Nat.sub_zero]
    ·rename_i hk
     rw[List.getElem?_eq_none (by rw[Ag7];omega)]
 ·have hA:s.A=some ⟨g,0,none⟩:=hm.A
  have:b=g:=by simp[Sl.v,Value.ownBlock,hA] at hb;exact hb.symm
  rw[this]
  exact hp.S
theorem Own.n {W:PW} {t:TypeId} {sz:Nat} {s:Sl} {xs:List (List Value)} (h:Own W t sz s xs):s.n=xs.length:=h.row.1
theorem grow_step {z u p c d b y:Nat} (h:z+p*c=u*b+y):z+p*((c+d*b)%B)+(p*B)*((c+d*b)/B)=(u+p*d)*b+y:=by
 have:=Nat.mod_add_div (c+d*b) B
 have h2:p*((c+d*b)%B)+(p*B)*((c+d*b)/B)=p*(c+d*b):=by rw[←this];grind
 grind
theorem Cx9 {l:List Nat} {d:Nat} (h:d≠0):Trim (l ++ [d]):=by
 unfold Trim
 rw[List.getLast?_append]
 simpa using h
theorem Ek5 {l:List Nat} (hd:Dig l) (hl:l≠[]) (h:B^(l.length-1)≤val l):Trim l:=by
 have hp:=List.length_pos_iff.2 hl
 have hk:l.length-1<l.length:=by omega
 unfold Trim
 rw[List.getLast?_eq_getElem?,List.getElem?_eq_getElem hk]
 intro e
 have e0:l[l.length-1]=0:=Option.some.inj e
 have h1:=Aa4 hk
 rw[show l.length-1+1=l.length by omega,List.take_length,e0,Nat.mul_zero,Nat.add_zero] at h1
 have h2:=Ae6 hd (l.length-1)
 omega
theorem Ee4 {l:List Nat} (hl:l≠[]) (ht:Trim l):B^(l.length-1)≤val l:=by
 have hp:=List.length_pos_iff.2 hl
 have hk:l.length-1<l.length:=by omega
 have h1:=Aa4 hk
 rw[show l.length-1+1=l.length by omega,List.take_length] at h1
 unfold Trim at ht
 rw[List.getLast?_eq_getElem?,List.getElem?_eq_getElem hk] at ht
 have h0:l[l.length-1]≠0:=fun e=>ht (by rw[e])
 rw[h1]
 have:B^(l.length-1)*1≤B^(l.length-1)*l[l.length-1]:=Nat.mul_le_mul_left _ (by omega)
 omega
theorem Dd0 {t:TypeId} {a:ByteArray} (W:PW):Own W t 1 ⟨none,0,0⟩ (cel (dg (dv a 0))):=by
 rw[show dv a 0=0 from rfl,Ae8]
 refine⟨⟨Es6 [],rfl,.inl ⟨rfl,rfl⟩⟩,fun g hg=>?_⟩
 simp[Sl.v,Value.ownBlock] at hg
theorem Du1 {z:Int} (h:0≤z) (h2:z<256):IntKind.wrap .u8 z=z:=by
 unfold IntKind.wrap
 simp[IntKind.signed,IntKind.bits]
 omega
theorem dgt {a:ByteArray} {k:Nat} (h1:48≤sb a k) (h2:sb a k≤57):IntKind.wrap .u32 (IntKind.wrap .u8 (Ae2 a k-48))=((sb a k-48:Nat):Int):=by
 rw[Ao5,Du1 (by omega) (by omega),show((sb a k:Int)-48)=((sb a k-48:Nat):Int) by omega,Ab9,Nat.mod_eq_of_lt (by unfold B;omega)]
theorem Fn5 {a:ByteArray} {k:Nat} (h: ∀i,i<k→48≤sb a i∧sb a i≤57) (hk:k≤4000):nl (dv a k)≤k:=by
 have h1: ∀j,j≤k→dv a j<10^j:=by
  intro j
  induction j with
  | zero=>intro _;simp[dv]
  | succ j ih=>
   intro hj
   have:=ih (by omega)
   have h2:=h j (by omega)
   simp only[dv,Nat.pow_succ]
   omega
 exact Bc6 (Nat.lt_of_lt_of_le (h1 k (Nat.le_refl _)) (Ee2 k))
theorem Bh4 {a:ByteArray} (h:¬Cv5 a):Ad2 a=none:=if_neg h
theorem Bu4 {a:ByteArray} (h:Cv5 a):Ad2 a=Option.some (dv a a.size):=if_pos h
theorem Bi0 {a:ByteArray} :a≠⟨⟨[]⟩⟩↔a.size≠0:=by
 constructor
 ·intro h e
  apply h
  apply ByteArray.ext
  apply Array.eq_empty_of_size_eq_zero e
 ·rintro h rfl
  exact h rfl
end Go.SX
/- Where a byte first stands, as the library's function finds it. -/
namespace Go.SX
theorem Fp0 {a:ByteArray} {j c:Nat} (hj:j<a.size) (hc:c<256):(a[j]! == c.toUInt8)=decide (sb a j=c):=by
 have e:a[j]! = a[j]'hj:=getElem!_pos a j hj
 rw[e]
 unfold sb
 rw[dif_pos hj]
 rw[Bool.eq_iff_iff]
 simp only[beq_iff_eq,decide_eq_true_eq]
 constructor
 ·rintro h
  rw[h]
  simp[Nat.toUInt8,Nat.mod_eq_of_lt hc]
 ·intro h
  apply UInt8.toNat_inj.1
  rw[h]
  simp[Nat.toUInt8,Nat.mod_eq_of_lt hc]
theorem Bj6 {a:ByteArray} {c:Nat} (hc:c<256): ∀(n i:Nat),i+n≤a.size→(List.range' i n).find? (fun j=>a[j]! == c.toUInt8)=Al7 a c n i
 | 0,i,h=>rfl
 | n+1,i,h=>by
  rw[List.range'_succ,List.find?_cons,Fp0 (by omega) hc]
  unfold Al7
  by_cases e:sb a i=c
  ·rw[if_pos e,decide_eq_true e]
  ·rw[if_neg e,decide_eq_false e]
   exact Bj6 hc n (i+1) (by omega)
def Cx6 (o:Option Nat):Int:=match o with
 | some i=>(i:Int)
 | none=>-1
theorem Bm2 {a:ByteArray} {c:Nat} (hc:c<256):firstIdx a c.toUInt8=Cx6 (Al7 a c a.size 0):=by
 unfold firstIdx Cx6
 rw[List.range_eq_range',Bj6 hc _ _ (by omega)]
 cases Al7 a c a.size 0<;>rfl
theorem Aq6 {a:ByteArray} {c:Nat} : ∀(n i:Nat) {k:Nat},Al7 a c n i=Option.some k→i≤k∧k<i+n∧sb a k=c
 | 0,i,k,h=>by cases h
 | n+1,i,k,h=>by
  unfold Al7 at h
  split at h
  ·cases h
   exact⟨Nat.le_refl _,by omega,by assumption⟩
  ·have:=Aq6 n (i+1) h
   omega
end Go.SX
/- Matrices that a function builds: each row in a block of its own. -/
namespace Go.SX
theorem Ao9 {t:TypeId} (W:PW):Aa6 t W ⟨none,0,0⟩ 0:=⟨by simp[cel,Ae8],by simp,by decide,by simp[cel,Ae8],.inl (by simp[cel,Ae8])⟩
theorem Ar9 {t:TypeId} (W:PW):Ab3 t W ⟨none,0,0⟩ false ⟨none,0,0⟩ 0:=⟨⟨Ao9 W,by decide⟩,Ao9 W⟩
def Wr (t:TypeId) (g:Nat) (W W'':PW):Prop:=∃W' cs fz,Ext W W'∧Au9 (· = g) W' W''∧W'.w.heap[g]?=some (Obj.cells cs t fz)
theorem Wr.Fi9 {t:TypeId} {g:Nat} {W W':PW} (h:Wr t g W W'):Au9 (· = g) W W':=let⟨_,_,_,h1,h2,_⟩:=h;(h1.toM _).trans h2
theorem Own.at {W:PW} {t:TypeId} {sz:Nat} {s:Sl} {xs:List (List Value)} (h:Own W t sz s xs) (hne:xs≠[]): ∃g cs,s.A=some ⟨g,0,none⟩∧s.v.ownBlock=some g∧¬W.S g∧W.w.heap[g]?=some (.cells cs t (0,0))∧xs.length*sz≤cs.size:=by
 obtain⟨⟨hl,hlen,ho⟩,hS⟩:=h
 rcases ho with⟨hn,h0⟩ | ⟨g,cap,cur,hv,_,hh,h1,h2,h3,h4⟩
 ·exact absurd (List.eq_nil_of_length_eq_zero h0) hne
 ·have hA:s.A=some ⟨g,0,none⟩∧s.n=xs.length∧s.c=cap:=by simpa[Sl.v] using hv
  have hg:s.v.ownBlock=some g:=by simp[Sl.v,Value.ownBlock,hA.1]
  exact⟨g,cur,hA.1,hg,hS g hg,hh,by rw[h3];exact Nat.mul_le_mul_right _ h1⟩
theorem Ei4: ∀(l cs:List Value) (o n:Nat),o+l.length≤n→n≤cs.length→(Aj6 cs o l).take n=Aj6 (cs.take n) o l:=by
 intro l cs o n h1 h2
 apply List.ext_getElem?
 intro k
 rw[List.getElem?_take,Ap0,Ap0]
 by_cases hk:k<n
 ·rw[if_pos hk]
  by_cases hc:o≤k∧k<o+l.length∧k<cs.length
  ·rw[if_pos hc,if_pos (by simp;omega)]
  ·rw[if_neg hc,if_neg (by simp;omega),List.getElem?_take,if_pos hk]
 ·rw[if_neg hk,if_neg (by omega),List.getElem?_take,if_neg hk]
theorem Ao7 {W0 W:PW} {M:Nat→Prop} {t:TypeId} {sz j:Nat} {s:Sl} {xs:List (List Value)} {l:List Value} {K:PW→Prop} (h:Own W t sz s xs) (hj:j<xs.length) (hl:l.length=sz) (ho: ∀u∈l,u.oneCell'=true) (hM: ∀g,s.v.ownBlock=some g→may W0 M g)
  (kont: ∀(W'':PW) (g:Nat),s.v.ownBlock=some g→Wr t g W W''→Own W'' t sz s (xs.set j l)→K W''):An9 W0 M s (j*sz+0) l W K:=by
 intro W' hE
 have h':=h.ext hE
 have hne:xs≠[]:=fun e=>by subst e;simp at hj
 obtain⟨g,cs,hA,hg,hS,hh,hsz⟩:=h'.at hne
 have hle:j*sz+sz≤xs.length*sz:=by rw[←Nat.succ_mul];exact Nat.mul_le_mul_right _ hj
 refine⟨g,0,cs,t,hA,hS,hh,by omega,hM g hg,fun W'' hp=>kont W'' g hg ⟨W',cs,(0,0),hE,hp.ext,hh⟩ ?_⟩
 obtain⟨⟨h1,hlen,hown⟩,hSS⟩:=h'
 have hel: ∀x∈xs.set j l,x.length=sz∧∀u∈x,u.oneCell'=true:=by
  intro x hx
  rcases List.mem_or_eq_of_mem_set hx with hx | rfl
  ·exact h1 x hx
  ·exact⟨hl,ho⟩
 refine⟨⟨hel,?_,?_⟩,fun b hb=>?_⟩
 ·rw[Ac0 (fun x hx=>(hel x hx).1)]
 ·rcases hown with⟨hv,h0⟩ | ⟨g',cap,cur,hv,h0,hh',k1,k2,k3,k4⟩
  ·exact absurd (List.eq_nil_of_length_eq_zero h0) hne
  ·have hg':s.v.ownBlock=some g':=by rw[hv];rfl
   rw[hg] at hg'
   cases hg'
   rw[hh] at hh'
   cases hh'
   refine .inr ⟨g,cap,_,by rw[List.length_set];exact hv,h0,hp.heap,by rw[List.length_set];exact k1,k2,by simp only[List.size_toArray,Bf4];simpa using k3,?_⟩
   rw[List.length_set,Nat.zero_add,Nat.add_zero]
   show(Aj6 cs.toList (j*sz) l).take (xs.length*sz)=_
   rw[Ei4 _ _ _ _ (by rw[hl];exact hle) (by simpa using hsz),k4,Ap5 (fun x hx=>(h1 x hx).1) hj hl]
 ·rw[hg] at hb
  cases hb
  exact hp.S
end Go.SX
/- The document's quotients in memory: rows and matrices of them. -/
namespace Go.SX
def Ab6 (t:TypeId) (W:PW) (b:Bool) (s s':Sl) (q:Rat):Prop:=Ab5 t W s b q.num∧(Aa6 t W s' q.den∨q.den=1∧Aa6 t W s' 0)
theorem Ab6.ext {t:TypeId} {W W':PW} {b:Bool} {s s':Sl} {q:Rat} (h:Ab6 t W b s s' q) (hE:Ext W W'):Ab6 t W' b s s' q:=⟨h.1.ext hE,h.2.imp (fun h=>h.ext hE) fun h=>⟨h.1,h.2.ext hE⟩⟩
@[reducible] def IsRQ (t:TypeId) (W:PW) (s:Sl) (b:Bool) (s':Sl) (q:Rat):Prop:=Ab6 t W b s s' q
theorem Db0 {t:TypeId} (W:PW):IsRQ t W ⟨none,0,0⟩ false ⟨none,0,0⟩ 0:=⟨⟨Ao9 W,by decide⟩,.inr ⟨rfl,Ao9 W⟩⟩
end Go.SX
/- Tables of texts. -/
namespace Go.SX
def Gw6 (l:List ByteArray):List (List Value):=l.map fun t=>[.string t]
theorem Gj6 (l:List ByteArray):(Gw6 l).length=l.length:=by simp[Gw6]
theorem Bf9.ext {W W':PW} {sz:Nat} {s:Sl} {xs:List (List Value)} (h:Bf9 W sz s xs) (hE:Ext W W'):Bf9 W' sz s xs:=let⟨t,h1⟩:=h;⟨t,h1.ext hE⟩
theorem Bf9.text {W:PW} {x:Sl} {l:List ByteArray} (h:Bf9 W 1 x (Gw6 l)) {j:Nat} (hj:j<l.length):Aa7 W x 1 j 0 [.string l[j]]:=let⟨_,h⟩:=h;Row.elem h (x:=[.string l[j]]) (by simp[Gw6,hj]) fun j v hj=>by simpa using hj
theorem Bf9.Hb8 {W:PW} {x:Sl} {l:List ByteArray} (h:Bf9 W 1 x (Gw6 l)) {i:Int} (h0:0≤i) (h1:i<(l.length:Int)):inB x i:=by
 obtain⟨_,h⟩:=h
 exact⟨h0,by have:=h.1;rw[Gj6] at this;omega,Row.some h fun e=>by
  have:l = []:=by simpa[Gw6] using e
  subst this
  simp at h1
  omega⟩
theorem Bf9.nt {W:PW} {x:Sl} {l:List ByteArray} (h:Bf9 W 1 x (Gw6 l)):x.n=l.length:=let⟨_,h⟩:=h;by rw[h.1,Gj6]
end Go.SX
