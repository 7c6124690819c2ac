import Derived.WalkKit
import Derived.Laws.BytesArg
set_option linter.unusedVariables false
set_option linter.unusedSimpArgs false
namespace Go.SX
variable {M M':Nat->Prop}{P p:Program}{a:Addr}{args:List Value}{b:Bool}{f:FuncId}{l:List Addr}{t:TypeId}{w':World}{xs:List (List Value)}{α:Type}
structure Sl where
 A:Option Addr
 n:Nat
 c:Nat
variable {s:Sl}
@[reducible] def Sl.v (s:Sl):Value:=.slice s.A s.n s.c
structure PW where
 w:World
 S:Nat->Prop
variable {Post Post':Value->PW->Prop}{W W':PW}
structure Ext (W W':PW):Prop where
 size:W.w.heap.size<=W'.w.heap.size
 Ai1: ∀b,b<W.w.heap.size->¬W.S b->W'.w.heap[b]?=W.w.heap[b]?/\¬W'.S b
theorem Ext.refl (W:PW):Ext W W:=⟨Nat.le_refl _,λ _ _ h=>⟨rfl,h⟩⟩
theorem Ext.trans {A B C:PW}(h:Ext A B)(k:Ext B C):Ext A C:=
 ⟨Nat.le_trans h.size k.size,λ b c i=>by
  have h1:=h.Ai1 b c i;have g:=k.Ai1 b (Nat.lt_of_lt_of_le c h.size) h1.2;exact⟨g.1.trans h1.1,g.2⟩⟩
structure Au9 (M:Nat->Prop) (W W':PW):Prop where
 size:W.w.heap.size<=W'.w.heap.size
 Ai1: ∀b,b<W.w.heap.size->¬W.S b->¬M b->W'.w.heap[b]?=W.w.heap[b]?/\¬W'.S b
theorem Ext.toM (h:Ext W W')(M:Nat->Prop):Au9 M W W':=⟨h.size,λ b c g _=>h.Ai1 b c g⟩
theorem Au9.ext (h:Au9 (λ _=>False) W W'):Ext W W':=⟨h.size,λ b c g=>h.Ai1 b c g id⟩
theorem Au9.refl (M:Nat->Prop)(W:PW):Au9 M W W:=(Ext.refl W).toM M
theorem Au9.trans {A B C:PW}(h:Au9 M A B)(k:Au9 M B C):Au9 M A C:=
 ⟨Nat.le_trans h.size k.size,λ b c i hm=>by
  have h1:=h.Ai1 b c i hm;have g:=k.Ai1 b (Nat.lt_of_lt_of_le c h.size) h1.2 hm;exact⟨g.1.trans h1.1,g.2⟩⟩
theorem Au9.mono {A B:PW}(h:Au9 M A B)(hm: ∀b,M b->M' b):Au9 M' A B:=
 ⟨h.size,λ b c g i=>h.Ai1 b c g λ h=>i (hm b h)⟩
theorem Es8 (k : Ask α)(w : World): w.drawn <= (w.ask k).2.drawn := by
  induction k generalizing w with
  | done a => exact Nat.le_refl _
  | ask c range k ih =>
    unfold World.ask;simp only;split
    · exact ih _ _
    · have h : w.drawn <= ({ w with drawn := w.drawn + 1 } : World).drawn := Nat.le_succ _
      exact Nat.le_trans h (ih _ _)
theorem Es2 (w:World)(c:Sys):w.drawn<=(w.sys c).2.drawn:=by
 have h:=Es8 (Kernel.perform c w.os) w;unfold World.sys;split
 ·exact Nat.le_refl _
 ·rename_i e
  rw[e] at h;exact h
theorem By3 {k:Addr}{u:TypeId}{w:World}{v:Value}(h:w.viewStore p a u k v b = .ok (w',l)):w'.drawn=w.drawn:=by
 unfold World.viewStore at h;simp only[bind,Except.bind,pure,Except.pure,throw,throwThe,MonadExceptOf.throw] at h
 repeat' split at h
 all_goals first
  | (cases h;done)
  | (injection h with h;injection h with h1 c;rw[<-h1])
theorem Bz9 {w:World}{v:Value}(h:w.farStore p a v b = .ok (w',l)):w'.drawn=w.drawn:=by
 unfold World.farStore at h;split at h
 ·split at h
  ·rename_i e
   cases h;exact By3 e
  ·cases h
 ·cases h
theorem By1 (p:Program)(e:Sem α)(w:World): ∀{v:α} {w':World},e.run p w = .ok v w'->w.drawn<=w'.drawn:=by
 induction e generalizing w with
 | pure a=>intro v w' h;cases h;exact Nat.le_refl _
 | load m a k ih=>
  intro v w' h;simp only[Sem.run] at h;split at h
  ·exact ih _ _ h
  ·split at h
   ·exact ih _ _ h
   ·cases h
 | store m a v k ih=>
  intro v' w' h
  have key:(match w.cell? a with
   | some _=>if w.frozen? a then Result.halt (.unsupported (.unsafePointer "a write to bytes that a string shares")) w else k.run p (w.setCell a v)
   | none=>match w.farStore p a v (m == Mode.atomic) with
    | .ok (w,_)=>k.run p w
    | .error h=>.halt h w) = .ok v' w'->w.drawn<=w'.drawn:=by
   intro h;split at h
   ·split at h
    ·cases h
    ·have:=ih _ h
     exact Nat.le_trans (by unfold World.setCell;(repeat' split)<;>exact Nat.le_refl _) this
   ·split at h
    ·rename_i e
     have:=ih _ h;rw[Bz9 e] at this;exact this
    ·cases h
  cases v<;>simp only[Sem.run] at h<;>first | (cases h;done) | exact key h
 | new o k ih=>intro v w' h;simp only[Sem.run] at h;have:=ih _ _ h;exact this
 | shape r k ih=>intro v w' h;simp only[Sem.run] at h;exact ih _ _ h
 | freeze a n k ih=>
  intro v w' h;simp only[Sem.run] at h;exact Nat.le_trans (by unfold World.freeze;(repeat' split)<;>exact Nat.le_refl _) (ih _ h)
 | frozen a k ih=>intro v w' h;simp only[Sem.run] at h;exact ih _ _ h
 | getObj r k ih=>
  intro v w' h;simp only[Sem.run] at h;split at h
  ·cases h
  ·exact ih _ _ h
  ·cases h
 | setObj r o k ih=>
  intro v w' h;simp only[Sem.run] at h;split at h
  ·cases h
  ·have:=ih _ h
   exact this
  ·cases h
 | choose q k ih=>
  intro v w' h;simp only[Sem.run] at h;split at h
  ·exact ih _ _ h
  ·exact Nat.le_trans (Nat.le_succ _) (ih _ _ h)
 | sys c k ih=>
  intro v w' h;simp only[Sem.run] at h;exact Nat.le_trans (Es2 w c) (ih _ _ h)
 | program k ih=>intro v w' h;simp only[Sem.run] at h;exact ih _ _ h
 | mark m k ih=>intro v w' h;simp only[Sem.run] at h;exact ih _ h
 | halt h=>intro v w' h;simp only[Sem.run] at h;cases h
structure Am7 (M:Nat->Prop) (w w':World):Prop where
 os:w'.os=w.os
 tape:w'.tape=w.tape
 output:w'.output=w.output
 size:w.heap.size<=w'.heap.size
 block: ∀b,b<w.heap.size->¬M b->w'.heap[b]?=w.heap[b]?
 drawn:w.drawn<=w'.drawn
theorem Am7.refl (M:Nat->Prop)(w:World):Am7 M w w:=⟨rfl,rfl,rfl,Nat.le_refl _,λ _ _ _=>rfl,Nat.le_refl _⟩
theorem Am7.then {N:Nat->Prop}{a b c:World}(h:Am7 M a b)(k:Am7 N b c)(g: ∀i,N i->M i\/a.heap.size<=i):Am7 M a c:=
 ⟨k.os.trans h.os,k.tape.trans h.tape,k.output.trans h.output,Nat.le_trans h.size k.size,
  λ i hi hm=>(k.block i (Nat.lt_of_lt_of_le hi h.size) (λ j=>(g i j).elim hm (λ h=>by omega))).trans (h.block i hi hm),Nat.le_trans h.drawn k.drawn⟩
theorem Am7.alloc (M:Nat->Prop)(w:World)(o:Obj):Am7 M w (w.alloc o):=
 ⟨rfl,rfl,rfl,by simp,λ b c _=>heap_alloc_old w o c,Nat.le_refl _⟩
theorem Am7.below {w:World}(h:Am7 (λ _=>False) w w'):RowKit.Below w.heap.size w w':=
 ⟨h.os,h.tape,h.output,h.size,λ k hk=>h.block k hk id⟩
def Fl8 (P:Program) (f:FuncId):Prop:=∃fn,P.funcs[f]?=some fn/\fn.body.isSome=true/\(fn.name == "runtime.NumGoroutine")=false
def Aa0 (P:Program) (f:FuncId) (args:List Value) (W:PW) (M:Nat->Prop) (Post:Value->PW->Prop):Prop:=
 Fl8 P f/\((∀b,W.S b->b<W.w.heap.size)->Calls P f args.toArray W.w λ e w'=>∃v,e = .returned v/\Am7 M W.w w'/\Post v ⟨w',W.S⟩)
def Cd9 (P:Program) (f:FuncId) (args:List Value) (W:PW) (Post:Value->PW->Prop):Prop:=
 Aa0 P f args W (λ _=>False) Post
theorem Aa0.mono (h:Aa0 P f args W M Post)(hm: ∀b,M b->M' b)(i: ∀v W',Au9 M W W'->Post v W'->Post' v W'):Aa0 P f args W M' Post':=
 ⟨h.1,λ j=>Calls.mono (h.2 j) λ e w' ⟨v,he,hk,m⟩=>⟨v,he,⟨hk.os,hk.tape,hk.output,hk.size,λ b c g=>hk.block b c λ h=>g (hm b h),hk.drawn⟩,
  i v _ ⟨hk.size,λ b c n g=>⟨hk.block b c g,n⟩⟩ m⟩⟩
theorem Cd9.mono (h:Cd9 P f args W Post)(c: ∀v W',Ext W W'->Post v W'->Post' v W'):Cd9 P f args W Post':=
 Aa0.mono h (λ _ h=>h) λ v W' g i=>c v W' g.ext i
def Aa7 (W : PW) (s : Sl) (sz i off : Nat) (l : List Value) : Prop :=
  ∃ b o cs t c, s.A = some ⟨b, o, none⟩ /\ ¬ W.S b /\ W.w.heap[b]? = some (.cells cs t c) /\ ∀ j v, l[j]? = some v -> cs[o + (i * sz + off) + j]? = some v
def Row (W:PW) (t:TypeId) (sz:Nat) (s:Sl) (xs:List (List Value)):Prop:=
 s.n=xs.length/\s.n<=s.c/\s.c<=maxLen/\(∀x∈xs,x.length=sz/\∀u∈x,u.oneCell'=true)/\
  (xs = []\/∃b o cs c,s.A=some ⟨b,o,none⟩/\¬W.S b/\W.w.heap[b]?=some (.cells cs t c)/\∀j v,xs.flatten[j]?=some v->cs[o+j]?=some v)
def Bf9 (W:PW) (sz:Nat) (s:Sl) (xs:List (List Value)):Prop:=∃t,Row W t sz s xs
def Ai0 (w:World) (t:TypeId) (sz:Nat) (v:Value) (xs:List (List Value)):Prop:=
 (∀x∈xs,x.length=sz/\∀u∈x,u.oneCell'=true)/\w.ownsRow 0 t sz v xs.length xs.flatten
def Own (W:PW) (t:TypeId) (sz:Nat) (s:Sl) (xs:List (List Value)):Prop:=
 Ai0 W.w t sz s.v xs/\∀g,s.v.ownBlock=some g->¬W.S g
theorem Ao8 {sz:Nat}: ∀{xs:List (List Value)} (_: ∀x∈xs,x.length=sz) {i:Nat} {x:List Value} (_:xs[i]?=some x) {j:Nat} {v:Value} (_:x[j]?=some v),
  xs.flatten[i*sz+j]?=some v
 | [],_,i,x,h,_,_,_=>by simp at h
 | y::n,g,0,x,h,j,v,c=>by
  simp only[List.getElem?_cons_zero,Option.some.injEq] at h;subst h;have:=(List.getElem?_eq_some_iff.1 c).1;simp only[List.flatten_cons,Nat.zero_mul,Nat.zero_add];rw[List.getElem?_append_left this];exact c
 | y::n,g,i+1,x,h,j,v,c=>by
  simp only[List.getElem?_cons_succ] at h;have m:=g y (by simp);have:=Ao8 (λ x q=>g x (by simp[q])) h c;simp only[List.flatten_cons];rw[List.getElem?_append_right (by rw[m,Nat.add_mul];omega),m,show(i+1)*sz+j-sz=i*sz+j by rw[Nat.add_mul];omega];exact this
theorem Row.elem {i:Nat}{x:List Value}{off:Nat}{sz:Nat}(h:Row W t sz s xs)(hi:xs[i]?=some x){l:List Value}(c: ∀j v,l[j]?=some v->x[off+j]?=some v):Aa7 W s sz i off l:=by
 obtain⟨_,_,_,g,m⟩:=h;rcases m with rfl | ⟨b,o,cs,n,q,r,w,A⟩
 ·simp at hi
 ·exact⟨b,o,cs,t,n,q,r,w,λ j v B=>by
   have:=A _ _ (Ao8 (λ x C=>(g x C).1) hi (c j v B));rw[show o+(i*sz+off)+j=o+(i*sz+(off+j)) by omega];exact this⟩
theorem Row.ext {sz:Nat}(h:Row W t sz s xs)(g:Ext W W'):Row W' t sz s xs:=by
 obtain⟨h1,i,hm,j,m⟩:=h;refine⟨h1,i,hm,j,?_⟩;rcases m with rfl | ⟨b,o,cs,n,q,r,c,v⟩
 ·exact .inl rfl
 ·have hk:=g.Ai1 b (Array.getElem?_eq_some_iff.1 c).1 r
  exact .inr ⟨b,o,cs,n,q,hk.2,hk.1.trans c,v⟩
theorem Row.Fi9 {sz:Nat}(h:Row W t sz s xs)(j:Au9 M W W')(m: ∀b,M b->∀cs c,W.w.heap[b]?=some (.cells cs t c)->xs = []):Row W' t sz s xs:=by
 obtain⟨h1,n,hm,q,r⟩:=h;refine⟨h1,n,hm,q,?_⟩;rcases r with rfl | ⟨b,o,cs,c,v,w,g,A⟩
 ·exact .inl rfl
 ·by_cases i:M b
  ·exact .inl (m b i cs c g)
  ·have hk:=j.Ai1 b (Array.getElem?_eq_some_iff.1 g).1 w i
   exact .inr ⟨b,o,cs,c,v,hk.2,hk.1.trans g,A⟩
theorem Own.row {sz:Nat}(h:Own W t sz s xs):Row W t sz s xs:=by
 obtain⟨⟨n,hlen,q⟩,r⟩:=h;rcases q with⟨i,w⟩ | ⟨g,cap,cur,A,_,B,h1,D,E,C⟩
 ·have:xs = []:=List.eq_nil_of_length_eq_zero w
  subst this;simp only[Sl.v,Value.slice.injEq] at i;exact⟨by simp[i.2.1],by omega,by simp[maxLen,i.2.2],by simp,.inl rfl⟩
 ·have m:s.A=some ⟨g,0,none⟩/\s.n=xs.length/\s.c=cap:=by simpa[Sl.v] using A
  refine⟨m.2.1,by omega,by omega,n,.inr ⟨g,0,cur,(0,0),m.1,r g (by simp[Sl.v,Value.ownBlock,m.1]),B,λ j v c=>?_⟩⟩;rw[<-C,List.getElem?_take] at c;split at c
  ·simpa using c
  ·cases c
end Go.SX
namespace Go.SX
inductive Und where
  | int (k : IntKind) | bool | str | slice (e : TypeId) | arr (n : Nat) (e : TypeId) | struct (fs : List (TypeId × Nat)) | tup (ts : List TypeId) | map (k e : TypeId) | ptr | other
def Au8:TypeDesc->Und
 | .int k=>.int k
 | .bool=>.bool
 | .string=>.str
 | .slice e=>.slice e
 | .array n e=>.arr n e
 | .struct fs=>.struct (fs.toList.map λ f=>(f.type,f.offset))
 | .tuple ts=>.tup ts.toList
 | .map k e=>.map k e
 | .pointer _=>.ptr
 | _=>.other
inductive Shp where
 | int (k:IntKind) | bool | str | slice | map | ptr
structure TyI where
 und:Und
 size:Nat
 bytes:Nat
 zv:Value
 agg:Bool
 sh:List Shp
 eq:Bool:=false
def Ff6:Shp->Value->Bool
 | .int k,.int k' _=>decide (k=k')
 | .bool,.bool _=>true
 | .str,.string _=>true
 | .slice,.slice ..=>true
 | .map,.map _=>true
 | .ptr,.pointer _=>true
 | _,_=>false
def Ai7:List Shp->List Value->Bool
 | [],[]=>true
 | s::r,v::l=>Ff6 s v && Ai7 r l
 | _,_=>false
def Fo2 (P:Program) (t:TypeId) (sh:List Shp):Prop:=∀(w:World) (l c:List Value),Ai7 sh l=true->Ai7 sh c=true->
 (Op.equal t (.agg l.toArray) (.agg c.toArray)).run P w = .ok (@decide (l=c) (Classical.propDecidable _)) w/\∀op x y,(eqGuard op t x y (.agg l.toArray) (.agg c.toArray)).run P w = .ok () w
def look {α:Type} :List (Nat×α)->Nat->Option α
 | [],_=>none
 | (k,x)::r,i=>match Nat.beq k i with | true=>some x | false=>look r i
def Cr0:Und->Bool
 | .arr .. | .struct _=>true
 | _=>false
def Af4 (P:Program) (t:TypeId) (i:TyI):Prop:=
 (∃inf,P.info? t=some inf/\inf.size=i.size/\inf.bytes=i.bytes/\inf.zero=some i.zv)/\(∃d,P.underlying t=some d/\Au8 d=i.und)/\i.agg=Cr0 i.und/\i.zv.cells.size=i.size/\i.sh.length=i.size/\(i.eq=true->Fo2 P t i.sh)
def Ac6 (P:Program):List (Nat×TyI)->Prop
 | []=>True
 | (t,i)::r=>Af4 P t i/\Ac6 P r
theorem Ac6.Aq3 {P:Program}: ∀{l:List (Nat×TyI)} (_:Ac6 P l) {t:Nat} {i:TyI} (_:look l t=some i),Af4 P t i
 | [],_,_,_,h=>by simp[look] at h
 | (k,x)::r,h,t,i,c=>by
  simp only[look] at c
  cases g:Nat.beq k t with
  | true=>
   simp only[g,Option.some.injEq] at c;subst c;have:k=t:=Nat.eq_of_beq_eq_true g;subst this;exact h.1
  | false=>
   simp only[g] at c;exact Ac6.Aq3 h.2 c
inductive SV where
  | v (x : Value)
  | b (x : Bool)
  | q (p : Prop) (d : Decidable p)
  | n
  | p (k : Nat) (off : Nat)
  | o (k : Nat)
  | oe (k sz i off : Nat)
  | e (s : Sl) (sz i off : Nat)
  | pe (k base sz len i off : Nat)
  | bs (k n : Nat)
  | tb (b : Bool) (l : List Value)
inductive Blk where
  | box (cs : List Value)
  | row (t : TypeId) (sz : Nat) (xs : List (List Value))
  | pub (x : Value)
  | pbx (r : Option Addr)
  | dead
  | itr (g kt et since : Nat) (seen : Array Nat) (last : Nat) (cur : Option MapEntry)
def Ae4 (seen:Array Nat):Option MapEntry->Array Nat
 | none=>seen
 | some e=>seen.push e.born
structure SS where
 T:List (Nat×SV)
 C:List (Nat×Blk)
 nx:Nat
 n:Nat
 D:List Nat
inductive PL where
 | val (v:Value)
 | row (xs:List (List Value))
 | cells (cs:List Value)
 | seen (l:Array Nat) (last:Nat)
def I64 (z : Int) : Prop := -9223372036854775808 <= z /\ z <= 9223372036854775807
def Bc5 (k:IntKind) (x:Int) (n:Nat):Int:=k.wrap (x*2^n)
def Ah0 (x:Int) (n:Nat):Int:=x.fdiv (2^n)
def Ck3 (xs:List (List Value)) (i off:Nat) (l:List Value):Prop:=∃cs,xs[i]?=some cs/\(cs.drop off).take l.length=l
def patch (cs:List Value) (off:Nat) (l:List Value):List Value:=cs.take off ++ l ++ cs.drop (off+l.length)
def Ci8 (xs:List (List Value)) (i off:Nat) (l:List Value):List (List Value):=xs.set i (patch (xs.getD i []) off l)
def Sl.cut (s:Sl) (sz l h:Nat):Sl:=⟨if s.c=l then s.A else s.A.map (·.add (l*sz)),h-l,s.c-l⟩
def inB (s:Sl) (i:Int):Prop:=0<=i/\i<(s.n:Int)/\s.A.isSome=true
def Ae2 (s:ByteArray) (n:Nat):Int:=if h:n<s.size then((s[n]'h).toNat:Int) else 0
def Fc5 : Shp -> (Value -> Prop) -> Prop
  | .int k, K => ∃ n : Int, K (.int k n)
  | .bool, K => ∃ b : Bool, K (.bool b)
  | .str, K => ∃ s : ByteArray, K (.string s)
  | .slice, K => ∃ s : Sl, K s.v
  | .map, K => ∃ r : Option Nat, K (.map r)
  | .ptr, K => ∃ a : Option Addr, K (.pointer a)
def Ba7:List Shp->(List Value->Prop)->Prop
 | [],K=>K []
 | s::r,K=>Fc5 s λ x=>Ba7 r λ l=>K (x::l)
def Em0:Shp->(Value->Prop)->Prop
 | .int k,K=>∀n:Int,K (.int k n)
 | .bool,K=>∀b:Bool,K (.bool b)
 | .str,K=>∀s:ByteArray,K (.string s)
 | .slice,K=>∀s:Sl,K s.v
 | .map,K=>∀r:Option Nat,K (.map r)
 | .ptr,K=>∀a:Option Addr,K (.pointer a)
def Ax9:List Shp->(List Value->Prop)->Prop
 | [],K=>K []
 | s::r,K=>Em0 s λ x=>Ax9 r λ l=>K (x::l)
def exV (i:TyI) (K:Value->Prop):Prop:=Ba7 i.sh λ l=>match i.agg with | true=>K (.agg l.toArray) | false=>match l with | [x]=>K x | _=>False
def Fo4 (tt:List (Nat×TyI)):List TypeId->(List Value->Prop)->Prop
 | [],K=>K []
 | t::r,K=>match look tt t with | some i=>exV i λ x=>Fo4 tt r λ l=>K (x::l) | none=>False
def Cc9 (tt:List (Nat×TyI)) (t:TypeId) (v:Value) (K:Value->Prop):Prop:=
 match look tt t with
 | some i=>match i.und with
  | .tup ts=>Fo4 tt ts λ l=>v = .tuple l.toArray/\K (.tuple l.toArray)
  | _=>exV i λ x=>v=x/\K x
 | none=>False
def Cr8 (l:List Value) (off n:Nat):List Value:=(l.drop off).take n
def valOf (agg:Bool) (l:List Value) (K:Value->Prop):Prop:=match agg with | true=>K (.agg l.toArray) | false=>match l with | [x]=>K x | _=>False
def Ac7:Value->List Value
 | .agg cs=>cs.toList
 | v=>[v]
section
variable (tt:List (Nat×TyI)) (st:SS)
def ev (x:Operand) (K:SV->Prop):Prop:=
 match x with
 | .tmp t=>match look st.T t with | some s=>K s | none=>False
 | .const v=>match v with
  | .slice none 0 0=>K .n
  | .bool b=>K (.b b)
  | v=>K (.v v)
 | .func f=>K (.v (.func (.func f) #[] #[]))
 | .global _=>False
def toV (s:SV) (K:Value->Prop):Prop:=
 match s with
 | .v x=>K x
 | .n=>K (.slice none 0 0)
 | .b x=>K (.bool x)
 | .q p d=>K (.bool (@decide p d))
 | .o k=>match look st.C k with | some (.pub x)=>K x | _=>False
 | _=>False
def evV (x:Operand) (K:Value->Prop):Prop:=ev st x λ s=>toV st s K
def evI (x:Operand) (K:IntKind->Int->Prop):Prop:=evV st x λ v=>match v with | .int k n=>K k n | _=>False
def shC (op:BinOp) (x:Value) (n:Int) (K:SV->Prop):Prop:=
 match op,x with
 | .shl,.int k a=>match Nat.ble n.toNat k.bits,decide (0<=n) with | true,true=>K (.v (.int k (Bc5 k a n.toNat))) | _,_=>False
 | .shr,.int k a=>match Nat.ble n.toNat k.bits,decide (0<=n) with | true,true=>K (.v (.int k (Ah0 a n.toNat))) | _,_=>False
 | _,_=>False
def Fs6:BinOp->Operand->Option Int
 | .shl,.const (.int _ n)=>some n
 | .shr,.const (.int _ n)=>some n
 | _,_=>none
def Fo3:List Operand->(List Value->Prop)->Prop
 | [],K=>K []
 | x::r,K=>evV st x λ v=>Fo3 r λ l=>K (v::l)
def arith (k:IntKind) (z:Int) (K:SV->Prop):Prop:=match k with | .i64=>I64 z/\K (.v (.int .i64 z)) | _=>K (.v (.int k (k.wrap z)))
def En4 (op:BinOp) (k:IntKind) (a b:Int) (K:SV->Prop):Prop:=
 match op with
 | .add=>arith k (a+b) K
 | .sub=>arith k (a-b) K
 | .mul=>arith k (a*b) K
 | .quo=>b≠0/\K (.v (.int k (k.wrap (a.tdiv b))))
 | .rem=>b≠0/\K (.v (.int k (a.tmod b)))
 | .and=>K (.v (.int k (bits .and k a b)))
 | .or=>K (.v (.int k (bits .or k a b)))
 | .xor=>K (.v (.int k (bits .xor k a b)))
 | .eql=>K (.q (a=b) (inferInstance:Decidable (a=b)))
 | .neq=>K (.q (a≠b) (inferInstance:Decidable (a≠b)))
 | .lss=>K (.q (a<b) (inferInstance:Decidable (a<b)))
 | .leq=>K (.q (a<=b) (inferInstance:Decidable (a<=b)))
 | .gtr=>K (.q (b<a) (inferInstance:Decidable (b<a)))
 | .geq=>K (.q (b<=a) (inferInstance:Decidable (b<=a)))
 | _=>False
def bin (op:BinOp) (x y:Value) (K:SV->Prop):Prop:=
 match x,y with
 | .int k a,.int k' b=>
  match op with
  | .shl=>(0<=b/\b<=(k.bits:Int))/\K (.v (.int k (Bc5 k a b.toNat)))
  | .shr=>(0<=b/\b<=(k.bits:Int))/\K (.v (.int k (Ah0 a b.toNat)))
  | _=>match decide (k=k') with | true=>En4 op k a b K | false=>False
 | .string a,.string b=>
  match op with
  | .eql=>K (.q (a=b) (inferInstance:Decidable (a=b)))
  | .neq=>K (.q (a≠b) (inferInstance:Decidable (a≠b)))
  | .add=>(a.size+b.size:Int)<=9223372036854775807/\K (.v (.string (a ++ b)))
  | _=>False
 | _,_=>False
def Fk8 (op:BinOp) (x y:Value) (K:SV->Prop):Prop:=
 match x,y with
 | .bool a,.bool b=>
  match op with
  | .eql=>K (.q (a=b) (inferInstance:Decidable (a=b)))
  | .neq=>K (.q (a≠b) (inferInstance:Decidable (a≠b)))
  | _=>False
 | _,_=>False
def split (s:SV) (K:Bool->Prop):Prop:=
 match s with
 | .b true=>K true
 | .b false=>K false
 | .q p _=>(p->K true)/\(¬p->K false)
 | .v (.bool x)=>(x=true->K true)/\(x=false->K false)
 | _=>False
def mn (a b:Int):Int:=if b<a then b else a
def mx (a b:Int):Int:=if b>a then b else a
def conv (i:TyI) (x:Value) (K:SV->Prop):Prop:=
 match i.und,x with
 | .int .i64,.int _ n=>I64 n/\K (.v (.int .i64 n))
 | .int k,.int _ n=>K (.v (.int k (k.wrap n)))
 | .str,.string s=>K (.v (.string s))
 | _,_=>False
def Fj4 (g i:TyI) (W:PW) (x:Value) (K:SV->Prop):Prop:=
 match g.und,i.und,x with
 | .slice e,.str,.slice A n c=>match look tt e with
  | some j=>match j.und with
   | .int .u8=>∃xs:List Int,Row W e 1 ⟨A,n,c⟩ (xs.map λ b=>[.int .u8 b])/\K (.v (.string (strOfNums xs)))
   | _=>False
  | none=>False
 | _,_,_=>conv i x K
def As9 (cs:List Value) (p:Nat) (l:List Value):Prop:=p+l.length<=cs.length/\Cr8 cs p l.length=l
def Dx2 (i:TyI) (W:PW) (s:SV) (K:SV->Prop):Prop:=
 match s with
 | .p k off=>match look st.C k with
  | some (.box cs)=>match Nat.ble (Nat.add off i.size) cs.length with | true=>valOf i.agg (Cr8 cs off i.size) λ x=>K (.v x) | false=>False
  | _=>False
 | .oe k sz ix off=>match look st.C k with
  | some (.row _ c xs)=>match Nat.beq sz c with
   | true=>Ba7 i.sh λ l=>Ck3 xs ix off l/\valOf i.agg l λ x=>K (.v x)
   | false=>False
  | _=>False
 | .e s sz ix off=>Ba7 i.sh λ l=>Aa7 W s sz ix off l/\valOf i.agg l λ x=>K (.v x)
 | .pe k base sz len ix off=>match look st.C k with
  | some (.box cs)=>Ba7 i.sh λ l=>As9 cs (base+ix*sz+off) l/\valOf i.agg l λ x=>K (.v x)
  | _=>False
 | .v (.pointer r)=>Ba7 i.sh λ l=>Aa7 W ⟨r,1,1⟩ 1 0 0 l/\valOf i.agg l λ x=>K (.v x)
 | _=>False
def fieldAt (fs:List (TypeId×Nat)) (f:Nat) (K:TypeId->Nat->Prop):Prop:=match fs[f]? with | some (t,o)=>K t o | none=>False
def Fo7 (s:SV) (o:Nat) (K:SV->Prop):Prop:=
 match s with
 | .p k off=>K (.p k (Nat.add off o))
 | .oe k sz i off=>K (.oe k sz i (Nat.add off o))
 | .e s sz i off=>K (.e s sz i (Nat.add off o))
 | .pe k b sz l i off=>K (.pe k b sz l i (Nat.add off o))
 | _=>False
def Ft6 (s:SV) (sz len i:Nat) (K:SV->Prop):Prop:=
 match s with
 | .p k off=>K (.pe k off sz len i 0)
 | s=>Fo7 s (Nat.mul i sz) K
def Fo5 (i:TyI) (op:BinOp) (x y:Value) (K:SV->Prop):Prop:=
 match x,y with
 | .agg a,.agg b=>match i.eq,Ai7 i.sh a.toList,Ai7 i.sh b.toList with
  | true,true,true=>match op with
   | .eql=>K (.q (a.toList=b.toList) (Classical.propDecidable _))
   | .neq=>K (.q (a.toList≠b.toList) (Classical.propDecidable _))
   | _=>False
  | _,_,_=>False
 | _,_=>False
def Aj6:List Value->Nat->List Value->List Value
 | l,_,[]=>l
 | l,o,x::r=>Aj6 (l.set o x) (Nat.succ o) r
def Bq2 (place:Nat->Option (Nat×Nat)):List (Nat×Operand)->List Value->(List Value->Prop)->Prop
 | [],cs,K=>K cs
 | (i,x)::r,cs,K=>match place i with
  | some (off,size)=>evV st x λ v=>match Nat.beq (Ac7 v).length size,Nat.ble (Nat.add off size) cs.length with
   | true,true=>Bq2 place r (Aj6 cs off (Ac7 v)) K
   | _,_=>False
  | none=>False
def placeOf (i:TyI):Nat->Option (Nat×Nat):=λ f=>
 match i.und with
 | .struct fs=>match fs[f]? with
  | some (t,o)=>match look tt t with | some j=>some (o,j.size) | none=>none
  | none=>none
 | .arr _ e=>match look tt e with | some j=>some (Nat.mul f j.size,j.size) | none=>none
 | _=>none
def Fe5 (o:Option Operand) (d:Int) (K:Int->Prop):Prop:=match o with | some x=>evI st x λ _ n=>K n | none=>K d
def fl (W:PW) (op:Op) (K:SV->Prop):Prop:=
 match op with
 | .move x | .assign x=>ev st x K
 | .pick c a b=>ev st c λ s=>split s λ t=>match t with | true=>ev st a K | false=>ev st b K
 | .build t parts=>match look tt t with
  | some i=>match i.agg with
   | true=>Bq2 st (placeOf tt i) parts.toList i.zv.cells.toList λ cs=>K (.v (.agg cs.toArray))
   | false=>False
  | none=>False
 | .load t a=>match look tt t with
  | some i=>ev st a λ s=>Dx2 st i W s K
  | none=>False
 | .binOp op t x y _=>match look tt t with
  | some i=>match i.und with
   | .int _ | .str=>match Fs6 op y with
    | some n=>evV st x λ a=>shC op a n K
    | none=>evV st x λ a=>evV st y λ b=>bin op a b K
   | .bool=>evV st x λ a=>evV st y λ b=>Fk8 op a b K
   | .slice _=>evV st x λ a=>evV st y λ b=>match a,b with
    | .slice A n c,.slice none 0 0=>match op with
     | .eql=>K (.q (A=none) (inferInstance:Decidable (A=none)))
     | .neq=>K (.q (A≠none) (inferInstance:Decidable (A≠none)))
     | _=>False
    | _,_=>False
   | .arr _ _=>evV st x λ a=>evV st y λ b=>Fo5 i op a b K
   | .struct _=>evV st x λ a=>evV st y λ b=>Fo5 i op a b K
   | _=>False
  | none=>False
 | .unOp op _ x=>ev st x λ s=>match op,s with
  | .not,.q p d=>K (.q (¬p) (match d with | .isTrue h=>.isFalse (λ n=>n h) | .isFalse h=>.isTrue h))
  | .not,.b x=>K (.b (!x))
  | .not,.v (.bool x)=>K (.v (.bool (!x)))
  | .neg,.v (.int k n)=>arith k (0-n) K
  | _,_=>False
 | .convert u d x=>match look tt u with
  | some q=>match look tt d with
   | some i=>evV st x λ v=>Fj4 tt q i W v K
   | none=>False
  | none=>False
 | .fieldAddr t x f=>match look tt t with
  | some i=>match i.und with
   | .struct fs=>fieldAt fs f λ g o=>match look tt g with
    | some j=>match j.size with
     | 0=>False
     | _+1=>ev st x λ s=>Fo7 s o K
    | none=>False
   | _=>False
  | none=>False
 | .field t x f=>match look tt t with
  | some i=>match i.und with
   | .struct fs=>fieldAt fs f λ g o=>match look tt g with
    | some j=>evV st x λ v=>match v with
     | .agg cs=>match Nat.ble (Nat.add o j.size) cs.toList.length with | true=>valOf j.agg (Cr8 cs.toList o j.size) λ x=>K (.v x) | false=>False
     | _=>False
    | none=>False
   | _=>False
  | none=>False
 | .indexAddr t x ix=>match look tt t with
  | some i=>match i.und with
   | .slice e=>match look tt e with
    | some j=>ev st x λ s=>evI st ix λ _ n=>match s with
     | .o k=>match look st.C k with
      | some (.row _ sz xs)=>match Nat.beq sz j.size with | true=>(0<=n/\n<(xs.length:Int))/\K (.oe k sz n.toNat 0) | false=>False
      | some (.pub (.slice A m c))=>inB ⟨A,m,c⟩ n/\K (.e ⟨A,m,c⟩ j.size n.toNat 0)
      | _=>False
     | .v (.slice A m c)=>inB ⟨A,m,c⟩ n/\K (.e ⟨A,m,c⟩ j.size n.toNat 0)
     | _=>False
    | none=>False
   | .arr len e=>match look tt e with
    | some j=>match ix with
     | .tmp _=>ev st x λ s=>evI st ix λ _ n=>(0<=n/\n<(len:Int))/\Ft6 s j.size len n.toNat K
     | _=>ev st x λ s=>evI st ix λ _ n=>(0<=n/\n<(len:Int))/\Fo7 s (Nat.mul n.toNat j.size) K
    | none=>False
   | _=>False
  | none=>False
 | .index t x ix=>match look tt t with
  | some i=>match i.und with
   | .str=>evV st x λ v=>evI st ix λ _ n=>match v with
    | .string s=>(0<=n/\n<(s.size:Int))/\K (.v (.int .u8 (Ae2 s n.toNat)))
    | _=>False
   | .arr len e=>match look tt e with
    | some j=>evV st x λ v=>evI st ix λ _ n=>match v with
     | .agg cs=>(0<=n/\n<(len:Int))/\Ba7 j.sh λ l=>((cs.toList.drop (n.toNat*j.size)).take j.size=l)/\valOf j.agg l λ x=>K (.v x)
     | _=>False
    | none=>False
   | _=>False
  | none=>False
 | .slice t x lo hi mx=>match mx with
  | some _=>False
  | none=>match look tt t with
   | some i=>match i.und with
    | .str=>evV st x λ v=>match v with
     | .string s=>Fe5 st lo 0 λ l=>Fe5 st hi s.size λ h=>(0<=l/\l<=h/\h<=(s.size:Int))/\K (.v (.string (s.extract l.toNat h.toNat)))
     | _=>False
    | .slice e=>match look tt e with
     | some j=>evV st x λ v=>match v with
      | .slice A m c=>Fe5 st lo 0 λ l=>Fe5 st hi m λ h=>(0<=l/\l<=h/\h<=(c:Int))/\K (.v ((Sl.mk A m c).cut j.size l.toNat h.toNat).v)
      | _=>False
     | none=>False
    | .arr n e=>match lo,hi,look tt e with
     | none,none,some _=>ev st x λ s=>match s with
      | .p k 0=>K (.bs k n)
      | _=>False
     | _,_,_=>False
    | _=>False
   | none=>False
 | .extract x ix=>ev st x λ s=>match s with
  | .tb b l=>match ix with | 0=>K (.b b) | _+1=>False
  | s=>toV st s λ v=>match v with
   | .tuple vs=>match vs.toList[ix]? with | some y=>K (.v y) | none=>False
   | _=>False
 | .makeFunc (.func f) first captured=>Fo3 st first.toList λ l=>Fo3 st captured.toList λ m=>K (.v (.func (.func f) l.toArray m.toArray))
 | .call {callee:=.builtin b,args,argTypes }=>
  match b,args.toList,argTypes.toList with
  | .len,[x],[t]=>match look tt t with
   | some i=>match i.und with
    | .arr n _=>K (.v (.int .i64 (n:Int)))
    | .str=>evV st x λ v=>match v with | .string s=>K (.v (.int .i64 (s.size:Int))) | _=>False
    | .slice _=>ev st x λ s=>match s with
     | .o k=>match look st.C k with
      | some (.row _ _ xs)=>K (.v (.int .i64 (xs.length:Int)))
      | some (.pub (.slice _ n _))=>K (.v (.int .i64 (n:Int)))
      | _=>False
     | .v (.slice _ n _)=>K (.v (.int .i64 (n:Int)))
     | _=>False
    | _=>False
   | none=>False
  | .min,[x,y],_=>evI st x λ k a=>evI st y λ _ b=>K (.v (.int k (mn a b)))
  | .max,[x,y],_=>evI st x λ k a=>evI st y λ _ b=>K (.v (.int k (mx a b)))
  | _,_,_=>False
 | _=>False
end
end Go.SX
namespace Go.SX
variable {K:Value->Prop}{d:TypeDesc}{e t:TypeId}{x:Operand}
def SV.val (β:Nat->Nat) (σ:Nat->Value):SV->Value
 | .v x=>x
 | .n=>.slice none 0 0
 | .b x=>.bool x
 | .q c d=>.bool (@decide c d)
 | .p k off=>.pointer (some ⟨β k,off,none⟩)
 | .o k=>σ k
 | .oe k sz i off=>match σ k with | .slice (some a) _ _=>.pointer (some (a.add (i*sz+off))) | _=>undef
 | .e s sz i off=>match s.A with | some a=>.pointer (some (a.add (i*sz+off))) | none=>undef
 | .pe k base sz _ i off=>.pointer (some ⟨β k,base+i*sz+off,none⟩)
 | .bs k len=>.slice (some ⟨β k,0,none⟩) len len
 | .tb tr l=>.tuple (Value.bool tr::l).toArray
variable {s:SV}
def Cm9 (β:Nat->Nat) (σ:Nat->Value) (W:PW) (k:Nat):Blk->Prop
 | .box cs=>(∃t,W.w.heap[β k]?=some (.cells cs.toArray t (0,0)))/\W.S (β k)
 | .row t sz xs=>Ai0 W.w t sz (σ k) xs/\∀g,(σ k).ownBlock=some g->W.S g
 | .pub x=>σ k=x
 | .pbx r=>r=some ⟨β k,0,none⟩
 | .dead=>True
 | .itr g _ _ since seen last cur=>W.w.heap[β k]?=some (.mapIter (some g) since (Ae4 seen cur) last)/\W.S (β k)
def Ab8 (β:Nat->Nat) (σ:Nat->Value) (k:Nat):Blk->Option Nat
 | .box _=>some (β k)
 | .row ..=>(σ k).ownBlock
 | .pub _=>none
 | .pbx _=>none
 | .dead=>none
 | .itr ..=>some (β k)
def Az7 (n:Nat) (β:Nat->Nat) (σ:Nat->Value):SV->Prop
 | .p k _=>k<n
 | .o k=>k<n
 | .oe k sz i off=>(∃c,SV.val β σ (.oe k sz i off) = .pointer (some c))/\k<n
 | .e s sz i off=>∃c,SV.val β σ (.e s sz i off) = .pointer (some c)
 | .pe k ..=>k<n
 | .bs k _=>k<n
 | _=>True
structure Rel (β:Nat->Nat) (σ:Nat->Value) (st:SS) (a:Act) (W:PW):Prop where
 defers:a.defers = []
 size:a.tmps.size=st.n
 T: ∀i s,look st.T i=some s->a.tmps.getD i undef=s.val β σ/\Az7 st.nx β σ s
 C: ∀k bl,look st.C k=some bl->Cm9 β σ W k bl
 inj: ∀k k' bl bl' g,k≠k'->look st.C k=some bl->look st.C k'=some bl'->Ab8 β σ k bl=some g->Ab8 β σ k' bl'=some g->False
 dom: ∀i s,look st.T i=some s->i<st.n
def Bo3 (st:SS) (W:PW) (c:(Nat->Nat)->(Nat->Value)->Act->PW->Prop):Prop:=∀β σ a Wa,Rel β σ st a Wa->Ext W Wa->c β σ a Wa
variable {P:Program} {tt:List (Nat×TyI)} {st:SS} {W:PW}
theorem Addr.add_add (a:Addr)(x y:Nat):(a.add x).add y=a.add (x+y):=by
 unfold Addr.add
 by_cases c:x=0
 ·subst c;simp
 ·by_cases g:y=0
  ·subst g;simp[c]
  ·simp[c,g];omega
theorem Ac8 {K:SV->Prop}(h:ev st x K): ∃s,K s/\Bo3 st W λ β σ a _=>a.eval x=s.val β σ/\Az7 st.nx β σ s:=by
 cases x with
 | tmp t=>
  simp only[ev] at h;split at h
  ·rename_i s c
   exact⟨s,h,λ β σ a Wa i _=>i.T _ _ c⟩
  ·exact h.elim
 | const v=>
  simp only[ev] at h;split at h
  ·exact⟨.n,h,λ _ _ _ _ _ _=>⟨rfl,trivial⟩⟩
  ·exact⟨.b _,h,λ _ _ _ _ _ _=>⟨rfl,trivial⟩⟩
  ·exact⟨.v v,h,λ _ _ _ _ _ _=>⟨rfl,trivial⟩⟩
 | func f=>exact⟨_,h,λ _ _ _ _ _ _=>⟨rfl,trivial⟩⟩
 | global g=>exact h.elim
theorem Av9 (h:toV st s K): ∃v,K v/\Bo3 st W λ β σ _ _=>s.val β σ=v:=by
 cases s with
 | v x=>exact⟨x,h,λ _ _ _ _ _ _=>rfl⟩
 | n=>exact⟨_,h,λ _ _ _ _ _ _=>rfl⟩
 | b x=>exact⟨_,h,λ _ _ _ _ _ _=>rfl⟩
 | q p d=>exact⟨_,h,λ _ _ _ _ _ _=>rfl⟩
 | o k=>
  simp only[toV] at h;split at h
  ·rename_i x c
   exact⟨x,h,λ β σ a Wa g _=>g.C _ _ c⟩
  ·exact h.elim
 | p=>exact h.elim
 | oe=>exact h.elim
 | e=>exact h.elim
 | pe=>exact h.elim
 | bs=>exact h.elim
 | tb=>exact h.elim
theorem Ad5 (h:evV st x K): ∃v,K v/\Bo3 st W λ _ _ a _=>a.eval x=v:=by
 obtain⟨s,i,h1⟩:=Ac8 (W:=W) h;obtain⟨v,j,m⟩:=Av9 (W:=W) i;exact⟨v,j,λ β σ a Wa c g=>(h1 β σ a Wa c g).1.trans (m β σ a Wa c g)⟩
theorem Ag6 {K:IntKind->Int->Prop}(h:evI st x K): ∃k n,K k n/\Bo3 st W λ _ _ a _=>a.eval x = .int k n:=by
 obtain⟨v,c,h1⟩:=Ad5 (W:=W) h;cases v<;>first | exact c.elim | exact⟨_,_,c,h1⟩
theorem Bh6: ∀{l:List Operand} {K:List Value->Prop} (_:Fo3 st l K),∃vs,K vs/\Bo3 st W λ _ _ a _=>l.map a.eval=vs
 | [],K,h=>⟨[],h,λ _ _ _ _ _ _=>rfl⟩
 | x::r,K,h=>by
  obtain⟨v,i,h1⟩:=Ad5 (W:=W) h;obtain⟨vs,j,m⟩:=Bh6 (l:=r) i;exact⟨v::vs,j,λ β σ a Wa c g=>by simp[h1 β σ a Wa c g,m β σ a Wa c g]⟩
theorem As1 {o:Option Operand}{d:Int}{K:Int->Prop}(h:Fe5 st o d K): ∃n,K n/\((o=none/\n=d)\/∃x k,o=some x/\Bo3 st W λ _ _ a _=>a.eval x = .int k n):=by
 cases o with
 | none=>exact⟨d,h,.inl ⟨rfl,rfl⟩⟩
 | some x=>
  obtain⟨k,n,hk,h1⟩:=Ag6 (W:=W) h;exact⟨n,hk,.inr ⟨x,k,rfl,h1⟩⟩
theorem As5 {K:Bool->Prop}(h:split s K): ∃t,K t/\∀β σ,s.val β σ = .bool t:=by
 cases s with
 | b x=>cases x<;>exact⟨_,h,λ _ _=>rfl⟩
 | q p d=>
  by_cases c:p
  ·exact⟨true,h.1 c,λ _ _=>by simp[SV.val,c]⟩
  ·exact⟨false,h.2 c,λ _ _=>by simp[SV.val,c]⟩
 | v x=>
  cases x with
  | bool x=>
   cases x
   ·exact⟨false,h.2 rfl,λ _ _=>rfl⟩
   ·exact⟨true,h.1 rfl,λ _ _=>rfl⟩
  | _=>exact h.elim
 | _=>exact h.elim
theorem Ai6 (h : Au8 d = .slice e): d = .slice e := by cases d<;>simp_all [Au8]
theorem Bq0 {n:Nat}(h:Au8 d = .arr n e):d = .array n e:=by cases d<;>simp_all [Au8]
theorem Dh4 {k:IntKind}(h:Au8 d = .int k):d = .int k:=by cases d<;>simp_all [Au8]
theorem Bv5 (h:Au8 d = .str):d = .string:=by cases d<;>simp_all [Au8]
theorem Fb8 (h:Au8 d = .bool):d = .bool:=by cases d<;>simp_all [Au8]
theorem Bg8 {fs:List (TypeId×Nat)}(h:Au8 d = .struct fs): ∃a,d = .struct a/\fs=a.toList.map λ f=>(f.type,f.offset):=by
 cases d<;>simp_all [Au8]
theorem Af4.isAgg {i:TyI}(h:Af4 P t i)(w:World):(isAgg t).run P w = .ok i.agg w:=by
 obtain⟨_,⟨d,c,hu⟩,g,_⟩:=h;rw[g,<-hu];simp only[Go.isAgg,Sem.run_bind,run_underlying c,Result.andThen_ok];cases d<;>rfl
theorem Af4.sizeOf {i:TyI}(h:Af4 P t i)(w:World):(sizeOf t).run P w = .ok i.size w:=by
 obtain⟨⟨inf,hi,c,_⟩,_⟩:=h;simp[Go.sizeOf,typeInfo,hi,c]
theorem Af4.zero {i:TyI}(h:Af4 P t i)(w:World):(zeroValue t).run P w = .ok i.zv w:=by
 obtain⟨⟨inf,hi,_,_,c⟩,_⟩:=h;simp[zeroValue,typeInfo,hi,c]
theorem Cv4 {s:Shp}(h:Fc5 s K): ∃v,K v/\v.oneCell'=true:=by
 cases s<;>obtain⟨x,c⟩:=h<;>exact⟨_,c,rfl⟩
theorem Ah7: ∀{l:List Shp} {K:List Value->Prop} (_:Ba7 l K),∃vs,K vs/\(∀v∈vs,v.oneCell'=true)/\vs.length=l.length
 | [],K,h=>⟨[],h,by simp,rfl⟩
 | s::r,K,h=>by
  obtain⟨v,c,h1⟩:=Cv4 h;obtain⟨vs,g,j,i⟩:=Ah7 (l:=r) c;exact⟨v::vs,g,by simp_all,by simp[i]⟩
def mkV (agg:Bool) (l:List Value):Value:=match agg with | true=>.agg l.toArray | false=>l.headD undef
theorem Al6 {agg:Bool}{l:List Value}(h:valOf agg l K):K (mkV agg l)/\(agg=false->l.length=1):=by
 cases agg with
 | true=>exact⟨h,by simp⟩
 | false=>
  match l,h with
  | [x],h=>exact⟨h,λ _=>rfl⟩
  | [],h=>exact h.elim
  | _ :: _ :: _,h=>exact h.elim
theorem Aj0 {i:TyI}(c : Af4 P t i)(w : World)(a : Addr)(cs : List Value)(g : cs.length = i.size)(h1 : i.agg = false -> cs.length = 1)(h : ∀ j v, cs[j]? = some v -> w.cell? (a.add j) = some v): (loadVar t a).run P w = .ok (mkV i.agg cs) w := by
  simp only [loadVar, Sem.run_bind, c.isAgg, Result.andThen_ok]
  cases m : i.agg with
  | true =>
    simp only [if_true, Sem.run_bind, c.sizeOf, Result.andThen_ok];rw [<- g, run_loadCells_list w a cs h];rfl
  | false =>
    have := h1 m
    match cs, this with
    | [x], _ =>
      have := h 0 x rfl;simp only [Addr.add_zero'] at this;simp [this, mkV]
theorem Ai0.at_ {w:World}{sz:Nat}{v:Value}{xs:List (List Value)}(h:Ai0 w t sz v xs){i:Nat}{x:List Value}(hi:xs[i]?=some x):
  ∃g c,v = .slice (some ⟨g,0,none⟩) xs.length c/\x.length=sz/\∀j u,x[j]?=some u->w.cell? ⟨g,i*sz+j,none⟩=some u:=by
 obtain⟨m,n⟩:=h;have A:=(List.getElem?_eq_some_iff.1 hi).1;rcases n.2 with⟨_,B⟩ | ⟨g,cap,cur,q,_⟩
 ·omega
 ·refine⟨g,cap,q,(m x (List.mem_of_getElem? hi)).1,λ j u hu=>?_⟩
  have:=n.cells (g:=g) (by rw[q];rfl) (i*sz+j) u (Ao8 (λ x r=>(m x r).1) hi hu)
  rwa [Addr.add_lit,Nat.zero_add] at this
theorem Aa7.cells {W Wa:PW}{s:Sl}{sz i off:Nat}{l:List Value}(h:Aa7 W s sz i off l)(g:Ext W Wa):
  ∃a,s.A=some a/\∀j v,l[j]?=some v->Wa.w.cell? ((a.add (i*sz+off)).add j)=some v:=by
 obtain⟨b,o,cs,m,n,q,r,c,w⟩:=h;refine⟨_,q,λ j v A=>?_⟩;have hk:=g.Ai1 b (Array.getElem?_eq_some_iff.1 c).1 r;rw[Addr.add_lit,Addr.add_lit,cell_of_row Wa.w b _ cs m n (hk.1.trans c)];exact w j v A
theorem Cd5 {i:TyI}(C:Af4 P t i)(G:i.sh.length=i.size){K:SV->Prop}(h:Dx2 st i W s K):
  ∃v',K (.v v')/\Bo3 st W λ β σ a Wa=>(Instr.loadAt t (s.val β σ)).run P Wa.w = .ok v' Wa.w:=by
 cases s with
 | p k off=>
  simp only[Dx2] at h;split at h
  ·rename_i cs D
   split at h
   ·rename_i hle
    have hle:off+i.size<=cs.length:=Nat.le_of_ble_eq_true hle;obtain⟨n,h1⟩:=Al6 h;refine⟨_,n,λ β σ a Wa q B=>?_⟩;obtain⟨⟨ty,H⟩,_⟩:=q.C _ _ D;have hlen:(Cr8 cs off i.size).length=i.size:=by simp[Cr8];omega
    simp only[Instr.loadAt,SV.val,Instr.sureAddr,Sem.run_bind,Sem.run_pure,Result.andThen_ok];refine Aj0 C Wa.w _ _ hlen h1 λ j v m=>?_;rw[Addr.add_lit,cell_of_row Wa.w (β k) (off+j) cs.toArray ty (0,0) H];simp only[Cr8,List.getElem?_take,List.getElem?_drop] at m;split at m
    ·simpa using m
    ·cases m
   ·exact h.elim
  ·exact h.elim
 | pe k base sz len ix off=>
  simp only[Dx2] at h;split at h
  ·rename_i cs D
   obtain⟨l,⟨⟨hle,I⟩,h⟩,h1,w⟩:=Ah7 h;obtain⟨n,A⟩:=Al6 h;refine⟨_,n,λ β σ a Wa q B=>?_⟩;obtain⟨⟨ty,H⟩,_⟩:=q.C _ _ D;simp only[Instr.loadAt,SV.val,Instr.sureAddr,Sem.run_bind,Sem.run_pure,Result.andThen_ok];refine Aj0 C Wa.w _ _ (w.trans G) A λ j v m=>?_;rw[Addr.add_lit,cell_of_row Wa.w (β k) (base+ix*sz+off+j) cs.toArray ty (0,0) H];rw[<-I] at m;simp only[Cr8,List.getElem?_take,List.getElem?_drop] at m;split at m
   ·simpa using m
   ·cases m
  ·exact h.elim
 | oe k sz ix off=>
  simp only[Dx2] at h;split at h
  ·rename_i R S xs D
   split at h
   ·rename_i J
    have J:=Nat.eq_of_beq_eq_true J;subst J;obtain⟨l,⟨⟨cs,O,I⟩,h⟩,h1,w⟩:=Ah7 h;obtain⟨n,A⟩:=Al6 h;refine⟨_,n,λ β σ a Wa q B=>?_⟩;obtain⟨hO,_⟩:=q.C _ _ D;obtain⟨g,c,Q,hlen,E⟩:=hO.at_ O;simp only[SV.val,Q,Instr.loadAt,Instr.sureAddr,Sem.run_bind,Sem.run_pure,Result.andThen_ok];refine Aj0 C Wa.w _ _ (w.trans G) A λ j u m=>?_;rw[Addr.add_lit,Addr.add_lit,show 0+(ix*sz+off)+j=ix*sz+(off+j) by omega];refine E _ _ ?_;rw[<-I,List.getElem?_take,List.getElem?_drop] at m;split at m
    ·exact m
    ·cases m
   ·exact h.elim
  ·exact h.elim
 | e s sz ix off=>
  obtain⟨l,⟨L,h⟩,h1,w⟩:=Ah7 h;obtain⟨n,A⟩:=Al6 h;refine⟨_,n,λ β σ a Wa q B=>?_⟩;obtain⟨N,F,E⟩:=L.cells B;simp only[SV.val,F,Instr.loadAt,Instr.sureAddr,Sem.run_bind,Sem.run_pure,Result.andThen_ok];exact Aj0 C Wa.w _ _ (w.trans G) A E
 | v x=>
  cases x with
  | pointer r=>
   obtain⟨l,⟨L,h⟩,h1,w⟩:=Ah7 h;obtain⟨n,A⟩:=Al6 h;refine⟨_,n,λ β σ a Wa q B=>?_⟩;obtain⟨N,F,E⟩:=L.cells B;have F:r=some N:=F;simp only[SV.val,F,Instr.loadAt,Instr.sureAddr,Sem.run_bind,Sem.run_pure,Result.andThen_ok];exact Aj0 C Wa.w _ _ (w.trans G) A λ j v m=>by simpa[Addr.add] using E j v m
  | _=>exact h.elim
 | _=>exact h.elim
end Go.SX
namespace Go.SX
variable {K:SV->Prop}{b:Bool}{k:IntKind}{op:BinOp}{t:TypeId}{x y:Value}{z:Int}
variable {P:Program} {tt:List (Nat×TyI)} {st:SS} {W:PW}
theorem Bu6 (h:arith k z K):K (.v (.int k (k.wrap z))):=by
 have c: ∀z,I64 z->IntKind.wrap .i64 z=z:=by
  intro z g;unfold I64 at g;simp only[IntKind.wrap,IntKind.signed,IntKind.bits];simp;omega
 cases k<;>first | exact h | (obtain⟨h1,i⟩:=h;rw[c z h1];exact i)
theorem wrap_i64 (c:I64 z):IntKind.wrap .i64 z=z:=by
 unfold I64 at c;simp only[IntKind.wrap,IntKind.signed,IntKind.bits];simp;omega
theorem Fe2 (a b:Int):(a == b)=decide (a=b):=by by_cases h:a=b<;>simp[h]
theorem Cy3 {a b:Int}(h:En4 op k a b K):
  ∃s,K s/\(∀n β σ,Az7 n β σ s)/\∀β σ w,(binOp op t (.int k a) (.int k b)).run P w = .ok (s.val β σ) w:=by
 cases op<;>simp only[En4] at h<;>first
  | exact h.elim
  | (refine⟨_,Bu6 h,λ _ _ _=>trivial,λ β σ w=>?_⟩;simp[binOp,Op.intArith,SV.val];done)
  | (refine⟨_,h.2,λ _ _ _=>trivial,λ β σ w=>?_⟩;simp[binOp,Op.intDiv,SV.val,h.1];done)
  | (refine⟨_,h,λ _ _ _=>trivial,λ β σ w=>?_⟩;simp[binOp,Op.intBits,SV.val,bits];done)
  | (refine⟨_,h,λ _ _ _=>trivial,λ β σ w=>?_⟩;simp[binOp,Op.intCmp,SV.val];done)
  | (refine⟨_,h,λ _ _ _=>trivial,λ β σ w=>?_⟩;simp[binOp,Op.intCmp,SV.val,Fe2,bne];done)
theorem Eg9 (a b:ByteArray):(a.toList == b.toList)=decide (a=b):=by
 have:a.toList=b.toList↔a=b:=by
  rw[ByteArray.toList_eq,ByteArray.toList_eq];constructor
  ·intro h
   cases a;cases b;simp at h;simp[h]
  ·rintro rfl;rfl
 by_cases h:a=b
 ·simp[h]
 ·have c:¬a.toList=b.toList:=λ e=>h (this.1 e)
  simp[h,c]
theorem Ei5 (h:bin op x y K):
  ∃s,K s/\(∀n β σ,Az7 n β σ s)/\∀β σ w,(binOp op t x y).run P w = .ok (s.val β σ) w:=by
 unfold bin at h;split at h
 ·rename_i k a k' b
  split at h
  ·refine⟨_,h.2,λ _ _ _=>trivial,λ β σ w=>?_⟩
   have hm:min b.toNat k.bits=b.toNat:=by have:=h.1;omega
   simp[binOp,Op.shift,SV.val,Bc5,show ¬b<0 by omega,hm]
  ·refine⟨_,h.2,λ _ _ _=>trivial,λ β σ w=>?_⟩
   have hm:min b.toNat k.bits=b.toNat:=by have:=h.1;omega
   simp[binOp,Op.shift,SV.val,Ah0,show ¬b<0 by omega,hm]
  ·split at h
   ·rename_i hk
    have hk:k=k':=of_decide_eq_true hk;subst hk;exact Cy3 h
   ·exact h.elim
 ·rename_i a b
  split at h
  ·exact⟨_,h,λ _ _ _=>trivial,λ β σ w=>by simp[binOp,Op.stringOp,SV.val,Eg9]⟩
  ·exact⟨_,h,λ _ _ _=>trivial,λ β σ w=>by simp[binOp,Op.stringOp,SV.val,Eg9]⟩
  ·refine⟨_,h.2,λ _ _ _=>trivial,λ β σ w=>?_⟩
   have:=h.1;have hm:IntKind.max .i64=9223372036854775807:=by rfl
   simp[binOp,Op.stringOp,SV.val,hm,show ¬(9223372036854775807:Int)<(a.size:Int)+(b.size:Int) by omega]
  ·exact h.elim
 ·exact h.elim
theorem Ej3 {k':IntKind}{n:Int}(h:shC op x n K):
  ∃s,K s/\(∀n β σ,Az7 n β σ s)/\∀β σ w,(binOp op t x (.int k' n)).run P w = .ok (s.val β σ) w:=by
 unfold shC at h;split at h
 ·rename_i k a
  split at h
  ·rename_i c g
   have c:n.toNat<=k.bits:=Nat.le_of_ble_eq_true c;have g:0<=n:=of_decide_eq_true g;refine⟨_,h,λ _ _ _=>trivial,λ β σ w=>?_⟩;simp[binOp,Op.shift,SV.val,Bc5,show ¬n<0 by omega,show min n.toNat k.bits=n.toNat by omega]
  ·exact h.elim
 ·rename_i k a
  split at h
  ·rename_i c g
   have c:n.toNat<=k.bits:=Nat.le_of_ble_eq_true c;have g:0<=n:=of_decide_eq_true g;refine⟨_,h,λ _ _ _=>trivial,λ β σ w=>?_⟩;simp[binOp,Op.shift,SV.val,Ah0,show ¬n<0 by omega,show min n.toNat k.bits=n.toNat by omega]
  ·exact h.elim
 ·exact h.elim
theorem Dl3 {a:Value}{x y:Operand}{b:Value}(w:World)(c: ∀cs,a≠.agg cs)(hi:a≠.nilIface):(eqGuard op t x y a b).run P w = .ok () w:=by
 unfold eqGuard;cases op<;>simp<;>(cases a<;>simp_all)<;>(cases b<;>simp)
theorem Aq9 {w:World}(h: ∀d,(Op.equalIn (d+1) t x y).run P w = .ok b w):(Op.equal t x y).run P w = .ok b w:=h 9999
theorem Bl6 {a:Bool}(hu:P.underlying t=some .bool)(w:World)(d:Nat):(Op.equalIn (d+1) t (.bool a) (.bool b)).run P w = .ok (decide (a=b)) w:=by
 rw[Op.equalIn,Sem.run_bind,run_underlying hu,Result.andThen_ok];cases a<;>cases b<;>rfl
theorem Dw0 (hu:P.underlying t=some .bool)(h:Fk8 op x y K):
  ∃s,K s/\(∀n β σ,Az7 n β σ s)/\∀β σ w,(binOp op t x y).run P w = .ok (s.val β σ) w:=by
 unfold Fk8 at h;split at h
 ·rename_i a b
  split at h
  ·refine⟨_,h,λ _ _ _=>trivial,λ β σ w=>?_⟩
   rw[binOp.eq_def];simp only[Sem.run_bind,Aq9 (Bl6 hu w),Result.andThen_ok,SV.val,Sem.run_pure]
  ·refine⟨_,h,λ _ _ _=>trivial,λ β σ w=>?_⟩
   rw[binOp.eq_def];simp only[Sem.run_bind,Aq9 (Bl6 hu w),Result.andThen_ok,SV.val,Sem.run_pure];cases a<;>cases b<;>rfl
  ·exact h.elim
 ·exact h.elim
theorem Br6 {e:TypeId}{A:Option Addr}{n c m k:Nat}(hu:P.underlying t=some (.slice e))(w:World)(d:Nat):(Op.equalIn (d+1) t (.slice A n c) (.slice none m k)).run P w = .ok (decide (A=none)) w:=by
 rw[Op.equalIn,Sem.run_bind,run_underlying hu,Result.andThen_ok];cases A<;>rfl
end Go.SX
namespace Go.SX
variable {P:Program} {tt:List (Nat×TyI)} {st:SS} {W:PW}
def Bz4 (P:Program) (st:SS) (W:PW) (o:Oper) (K:SV->Prop):Prop:=
 ∃s,K s/\Bo3 st W λ β σ a Wa=>(execOp a.eval o).run P Wa.w = .ok (.value (s.val β σ)) Wa.w/\Az7 st.nx β σ s
theorem Ak7: ∀(r l:List Value) (o:Nat),(Aj6 l o r).length=l.length
 | [],l,o=>rfl
 | x::r,l,o=>by rw[Aj6,Ak7 r];simp
theorem Do9 (vs:Array Value)(cs:Array Value)(off:Nat):
  (vs.zipIdx.foldl (λ cs (c,j)=>cs.setIfInBounds (off+j) c) cs).toList=Aj6 cs.toList off vs.toList:=by
 rw[<-Array.foldl_toList];have: ∀(l:List Value) (k:Nat) (cs:Array Value),((l.zipIdx k).foldl (λ cs (c,j)=>cs.setIfInBounds (off+j) c) cs).toList=Aj6 cs.toList (off+k) l:=by
  intro l
  induction l with
  | nil=>intro k cs;rfl
  | cons x r ih=>
   intro k cs;simp only[List.zipIdx_cons,List.foldl_cons,Aj6];rw[ih];simp[Nat.add_assoc]
 have h:=this vs.toList 0 cs
 simpa using h
theorem Av1 (v:Value):v.cells.toList=Ac7 v:=by cases v<;>rfl
theorem Bi2 (v:Value):v.cells.size=(Ac7 v).length:=by rw[<-Av1];simp
theorem Ax4 {place place':Nat->Option (Nat×Nat)}(j: ∀i x,place i=some x->place' i=some x):
  ∀{l:List (Nat×Operand)} {cs:List Value} {K:List Value->Prop} (_:Bq2 st place l cs K),
   ∃c,K c/\Bo3 st W λ _ _ a _=>Instr.fill place' cs.toArray (l.map λ(i,x)=>(i,a.eval x))=some c.toArray
 | [],cs,K,h=>⟨cs,h,λ _ _ _ _ _ _=>rfl⟩
 | (i,x)::r,cs,K,h=>by
  simp only[Bq2] at h;split at h
  ·rename_i off size w
   obtain⟨v,g,h1⟩:=Ad5 (W:=W) h;split at g
   ·rename_i A B
    obtain⟨c,C,D⟩:=Ax4 j (l:=r) g;refine⟨c,C,λ β σ a Wa m n=>?_⟩;have E:=h1 β σ a Wa m n;have F:=Nat.eq_of_beq_eq_true A;have hle:off+size<=cs.length:=Nat.le_of_ble_eq_true B;simp only[List.map_cons,Instr.fill,j _ _ w,E];have q:=Do9 v.cells cs.toArray off;rw[Bi2,if_neg (by simp[F];omega)];rw[Av1] at q;rw[<-D β σ a Wa m n];congr 1;apply Array.ext'
    simpa using q
   ·exact g.elim
  ·exact h.elim
theorem Cm3 {fs:List Field}{ts:List (TypeId×Nat)}(n:ts=fs.map λ f=>(f.type,f.offset))(w:World)(c: ∀f∈fs,∃i:TyI,Af4 P f.type i):(fs.mapM λ f=>do pure (f.offset,<-sizeOf f.type):Sem (List (Nat×Nat))).run P w = .ok (fs.map λ f=>(f.offset,P.cellsOf f.type)) w:=by
 induction fs generalizing ts with
 | nil=>rfl
 | cons f r ih=>
  obtain⟨i,hi⟩:=c f (by simp);have:=ih rfl (λ f g=>c f (by simp[g]));obtain⟨⟨inf,h,j,_⟩,_⟩:=id hi;have m:P.cellsOf f.type=i.size:=by simp[Program.cellsOf,h,j]
  simp only[List.mapM_cons,Sem.run_bind,hi.sizeOf,Result.andThen_ok,Sem.run_pure,this,List.map_cons,m]
def Ae7 (tt:List (Nat×TyI)):Prop:=∀t i,look tt t=some i->(∀fs,i.und = .struct fs->∀f∈fs,∃j,look tt f.1=some j)/\(∀n e,i.und = .arr n e->∃j,look tt e=some j)
theorem Ba6 {t:TypeId}(q:Ac6 P tt)(hF:Ae7 tt){i:TyI}(hi:look tt t=some i)(L:i.agg=true){parts:Array (Nat×Operand)}{K:List Value->Prop}(h:Bq2 st (placeOf tt i) parts.toList i.zv.cells.toList K):
  ∃cs,K cs/\Bo3 st W λ _ _ a Wa=>(Instr.build t (parts.map λ(i,x)=>(i,a.eval x))).run P Wa.w = .ok (.agg cs.toArray) Wa.w:=by
 have E:=q.Aq3 hi;obtain⟨⟨inf,S,T,U,V⟩,⟨d,F,hu⟩,G,X,_⟩:=id E;have H: ∀w,(zeroValue t).run P w = .ok i.zv w:=λ w=>E.zero w;rw[L] at G
 cases g:i.und with
 | struct fs=>
  rw[g] at hu;obtain⟨m,rfl,I⟩:=Bg8 hu;have N: ∀f∈m.toList,∃j:TyI,Af4 P f.type j:=by
   intro f c;obtain⟨j,r⟩:=(hF t i hi).1 fs g (f.type,f.offset) (by rw[I];exact List.mem_map.2 ⟨f,c,rfl⟩);exact⟨j,q.Aq3 r⟩
  have hm: ∀w,(m.mapM λ f=>do pure (f.offset,<-sizeOf f.type):Sem (Array (Nat×Nat))).run P w = .ok (m.map λ f=>(f.offset,P.cellsOf f.type)) w:=by
   intro w;rw[Array.mapM_eq_mapM_toList];simp only[Sem.run_map,Cm3 rfl w N,Result.andThen_ok];congr 1;apply Array.ext';simp
  have v: ∀k x,placeOf tt i k=some x->(m.map λ f=>(f.offset,P.cellsOf f.type))[k]?=some x:=by
   intro k x hk;simp only[placeOf,g] at hk;split at hk
   ·rename_i Y o c
    split at hk
    ·rename_i j r
     have A:=q.Aq3 r;obtain⟨⟨Z,O,Q,_⟩,_⟩:=A;rw[I] at c;simp only[List.getElem?_map,Option.map_eq_some_iff] at c;obtain⟨f,R,J⟩:=c;simp only[Prod.mk.injEq] at J;obtain⟨rfl,rfl⟩:=J;have:m[k]?=some f:=by simpa using R
     simp only[Option.some.injEq] at hk;subst hk;simp[this,Program.cellsOf,O,Q]
    ·cases hk
   ·cases hk
  obtain⟨cs,B,h1⟩:=Ax4 (W:=W) v h;refine⟨cs,B,λ β σ a Wa C D=>?_⟩;have c:=h1 β σ a Wa C D;simp only[Instr.build,Sem.run_bind,H,Result.andThen_ok,run_underlying F,hm];simp only[Array.toList_map] at c⊢;simp only[Array.toArray_toList] at c;rw[c];rfl
 | arr n e=>
  rw[g] at hu;obtain rfl:=Bq0 hu;obtain⟨j,hle⟩:=(hF t i hi).2 n e g;have A:=q.Aq3 hle;have v: ∀k x,placeOf tt i k=some x->some (k*j.size,j.size)=some x:=by
   intro k x hk
   simpa[placeOf,g,hle] using hk
  obtain⟨cs,B,h1⟩:=Ax4 (W:=W) (place':=λ k=>some (k*j.size,j.size)) v h;refine⟨cs,B,λ β σ a Wa C D=>?_⟩;have c:=h1 β σ a Wa C D;simp only[Instr.build,Sem.run_bind,H,Result.andThen_ok,run_underlying F,A.sizeOf];simp only[Array.toList_map] at c⊢;simp only[Array.toArray_toList] at c;rw[c];rfl
 | _=>simp[g,Cr0] at G
end Go.SX
namespace Go.SX
variable {t u:TypeId}{x y:Operand}
variable {P:Program} {tt:List (Nat×TyI)} {st:SS} {W:PW}
theorem Bj1 {s:SV}{o:Nat}{K:SV->Prop}(h:Fo7 s o K): ∃s',K s'/\∀n β σ,Az7 n β σ s->∃g,s.val β σ = .pointer (some g)/\s'.val β σ = .pointer (some (g.add o))/\Az7 n β σ s':=by
 cases s with
 | p k off=>exact⟨_,h,λ n β σ j=>⟨_,rfl,by simp only[SV.val,Addr.add_lit];rfl,j⟩⟩
 | oe k sz i off=>
  refine⟨_,h,λ n β σ ⟨⟨g,c⟩,j⟩=>⟨g,c,?_⟩⟩;have:SV.val β σ (.oe k sz i (off+o)) = .pointer (some (g.add o)):=by
   simp only[SV.val] at c⊢;split at c
   ·simp only[Value.pointer.injEq,Option.some.injEq] at c
    subst c;simp[Addr.add_add,Nat.add_assoc]
   ·cases c
  exact⟨this,⟨_,this⟩,j⟩
 | e s sz i off=>
  refine⟨_,h,λ n β σ ⟨g,c⟩=>⟨g,c,?_⟩⟩;have:SV.val β σ (.e s sz i (off+o)) = .pointer (some (g.add o)):=by
   simp only[SV.val] at c⊢;split at c
   ·simp only[Value.pointer.injEq,Option.some.injEq] at c
    subst c;simp[Addr.add_add,Nat.add_assoc]
   ·cases c
  exact⟨this,_,this⟩
 | pe k b sz l i off=>exact⟨_,h,λ n β σ j=>⟨_,rfl,by simp only[SV.val,Addr.add_lit,Nat.add_assoc];rfl,j⟩⟩
 | _=>exact h.elim
theorem Dx0 {s:SV}{sz len i:Nat}{K:SV->Prop}(h:Ft6 s sz len i K): ∃s',K s'/\∀n β σ,Az7 n β σ s->∃c,s.val β σ = .pointer (some c)/\s'.val β σ = .pointer (some (c.add (i*sz)))/\Az7 n β σ s':=by
 cases s with
 | p k off=>exact⟨_,h,λ n β σ g=>⟨_,rfl,by simp only[SV.val,Addr.add_lit,Nat.add_zero],g⟩⟩
 | _=>exact Bj1 h
section
variable {o:Oper} {K:SV->Prop}
theorem Ee3 (c:o.op = .move x\/o.op = .assign x)(h:ev st x K):Bz4 P st W o K:=by
 obtain⟨s,j,h1⟩:=Ac8 (W:=W) h;refine⟨s,j,λ β σ a Wa g i=>⟨?_,(h1 β σ a Wa g i).2⟩⟩;rcases c with c | c<;>simp[execOp,c,(h1 β σ a Wa g i).1]
theorem Ff5 {c:Operand}(n:o.op = .pick c x y)(h:ev st c λ s=>split s λ t=>match t with | true=>ev st x K | false=>ev st y K):Bz4 P st W o K:=by
 obtain⟨s,v,h1⟩:=Ac8 (W:=W) h;obtain⟨t,q,r⟩:=As5 v
 cases t with
 | true=>
  obtain⟨s',m,j⟩:=Ac8 (W:=W) q;refine⟨s',m,λ β σ a Wa g i=>⟨?_,(j β σ a Wa g i).2⟩⟩;simp[execOp,n,(h1 β σ a Wa g i).1,r,asBool,(j β σ a Wa g i).1]
 | false=>
  obtain⟨s',m,j⟩:=Ac8 (W:=W) q;refine⟨s',m,λ β σ a Wa g i=>⟨?_,(j β σ a Wa g i).2⟩⟩;simp[execOp,n,(h1 β σ a Wa g i).1,r,asBool,(j β σ a Wa g i).1]
theorem Ez9 (c:Ac6 P tt)(hF:Ae7 tt){parts:Array (Nat×Operand)}(g:o.op = .build t parts)(h:fl tt st W (.build t parts) K):Bz4 P st W o K:=by
 simp only[fl] at h;split at h
 ·rename_i i hi
  split at h
  ·rename_i j
   obtain⟨cs,m,h1⟩:=Ba6 (W:=W) c hF hi j h;exact⟨_,m,λ β σ a Wa n q=>⟨by simp[execOp,g,h1 β σ a Wa n q,SV.val],trivial⟩⟩
  ·exact h.elim
 ·exact h.elim
theorem Ff7 (m:Ac6 P tt)(n:o.op = .load t x)(h:fl tt st W (.load t x) K):Bz4 P st W o K:=by
 simp only[fl] at h;split at h
 ·rename_i i hi
  obtain⟨s,q,h1⟩:=Ac8 (W:=W) h;have c:=m.Aq3 hi;obtain⟨v,r,w⟩:=Cd5 c c.2.2.2.2.1 q;exact⟨_,r,λ β σ a Wa g j=>⟨by simp only[execOp,n,(h1 β σ a Wa g j).1,w β σ a Wa g j,Sem.run_bind,Result.andThen_ok,Sem.run_pure];rfl,trivial⟩⟩
 ·exact h.elim
theorem Eu8 {op:BinOp}(F:Ac6 P tt)(C:o.op = .binOp op t x y u)(h:fl tt st W (.binOp op t x y u) K):Bz4 P st W o K:=by
 simp only[fl] at h;split at h
 ·rename_i i hi
  obtain⟨_,⟨d,G,hu⟩,_⟩:=F.Aq3 hi;have fin: ∀{v v':Value},(∀cs,v≠.agg cs)->v≠.nilIface->(Bo3 st W λ _ _ a _=>a.eval x=v)->(Bo3 st W λ _ _ a _=>a.eval y=v')->
    (∃s,K s/\(∀n β σ,Az7 n β σ s)/\∀β σ w,(binOp op t v v').run P w = .ok (s.val β σ) w)->Bz4 P st W o K:=by
   intro v v' I J h1 j ⟨s,L,N,O⟩;refine⟨s,L,λ β σ a Wa q r=>⟨?_,N _ β σ⟩⟩;simp only[execOp,C,h1 β σ a Wa q r,j β σ a Wa q r,Sem.run_bind,Dl3 Wa.w I J,Result.andThen_ok,O β σ,Sem.run_pure]
  have agg:(evV st x λ a=>evV st y λ b=>Fo5 i op a b K)->Bz4 P st W o K:=by
   intro h;obtain⟨v,m,h1⟩:=Ad5 (W:=W) h;obtain⟨v',g,j⟩:=Ad5 (W:=W) m;unfold Fo5 at g;split at g
   ·rename_i c e
    split at g
    ·rename_i he s1 s2
     have Q:=(F.Aq3 hi).2.2.2.2.2 he;have key: ∀w,(Op.equal t (.agg c) (.agg e)).run P w = .ok (@decide (c.toList=e.toList) (Classical.propDecidable _)) w/\∀op x y,(eqGuard op t x y (.agg c) (.agg e)).run P w = .ok () w:=λ w=>Q w _ _ s1 s2;split at g
     ·refine⟨_,g,λ β σ a Wa q r=>⟨?_,trivial⟩⟩
      simp only[execOp,C,h1 β σ a Wa q r,j β σ a Wa q r,Sem.run_bind,(key Wa.w).2,Result.andThen_ok,Sem.run_pure];rw[binOp.eq_def];simp only[Sem.run_bind,(key Wa.w).1,Result.andThen_ok,SV.val,Sem.run_pure]
     ·refine⟨_,g,λ β σ a Wa q r=>⟨?_,trivial⟩⟩
      simp only[execOp,C,h1 β σ a Wa q r,j β σ a Wa q r,Sem.run_bind,(key Wa.w).2,Result.andThen_ok,Sem.run_pure];rw[binOp.eq_def];simp only[Sem.run_bind,(key Wa.w).1,Result.andThen_ok,SV.val,Sem.run_pure]
      by_cases e:c.toList=e.toList<;>simp[e]
     ·exact g.elim
    ·exact g.elim
   ·exact g.elim
  have R: ∀{v v':Value},bin op v v' K->(Bo3 st W λ _ _ a _=>a.eval x=v)->(Bo3 st W λ _ _ a _=>a.eval y=v')->Bz4 P st W o K:=by
   intro v v' D h1 j;refine fin ?_ ?_ h1 j (Ei5 D)
   ·rintro cs rfl;simp[bin] at D
   ·rintro rfl;simp[bin] at D
  have hint:(match Fs6 op y with | some n=>evV st x λ a=>shC op a n K | none=>evV st x λ a=>evV st y λ b=>bin op a b K)->Bz4 P st W o K:=by
   intro h;split at h
   ·rename_i n B
    obtain⟨v,m,h1⟩:=Ad5 (W:=W) h;have S: ∃k',y = .const (.int k' n):=by
     unfold Fs6 at B;split at B
     ·cases B;exact⟨_,rfl⟩
     ·cases B;exact⟨_,rfl⟩
     ·cases B
    obtain⟨k',rfl⟩:=S;refine fin ?_ ?_ h1 (λ _ _ _ _ _ _=>rfl) (Ej3 m)
    ·rintro cs rfl;cases op<;>simp[shC] at m
    ·rintro rfl;cases op<;>simp[shC] at m
   ·obtain⟨v,m,h1⟩:=Ad5 (W:=W) h
    obtain⟨v',g,j⟩:=Ad5 (W:=W) m;exact R g h1 j
  split at h
  ·exact hint h
  ·exact hint h
  ·rename_i E
   obtain⟨v,m,h1⟩:=Ad5 (W:=W) h;obtain⟨v',g,j⟩:=Ad5 (W:=W) m;refine fin ?_ ?_ h1 j (Dw0 (by rw[G,Fb8 (hu.trans E)]) g)
   ·rintro cs rfl;simp[Fk8] at g
   ·rintro rfl;simp[Fk8] at g
  ·rename_i e E
   obtain⟨v,m,h1⟩:=Ad5 (W:=W) h;obtain⟨v',g,j⟩:=Ad5 (W:=W) m;have H:P.underlying t=some (.slice e):=by rw[G,Ai6 (hu.trans E)]
   split at g
   ·rename_i A n c
    refine fin (by simp) (by simp) h1 j ?_;split at g
    ·refine⟨_,g,λ _ _ _=>trivial,λ β σ w=>?_⟩
     rw[binOp.eq_def];simp only[Sem.run_bind,Aq9 (Br6 H w),Result.andThen_ok,SV.val,Sem.run_pure]
    ·refine⟨_,g,λ _ _ _=>trivial,λ β σ w=>?_⟩
     rw[binOp.eq_def];simp only[Sem.run_bind,Aq9 (Br6 H w),Result.andThen_ok,SV.val,Sem.run_pure];cases A<;>rfl
    ·exact g.elim
   ·exact g.elim
  ·exact agg h
  ·exact agg h
  ·exact h.elim
 ·exact h.elim
theorem Fe8 {op:UnOp}(m:o.op = .unOp op t x)(h:fl tt st W (.unOp op t x) K):Bz4 P st W o K:=by
 simp only[fl] at h;obtain⟨s,j,h1⟩:=Ac8 (W:=W) h;split at j
 ·rename_i c d
  refine⟨_,j,λ β σ a Wa g i=>⟨?_,trivial⟩⟩;simp only[execOp,m,(h1 β σ a Wa g i).1,SV.val,Op.unary,Sem.run_bind,Sem.run_pure,Result.andThen_ok];cases d<;>rfl
 ·exact⟨_,j,λ β σ a Wa g i=>⟨by simp[execOp,m,(h1 β σ a Wa g i).1,SV.val,Op.unary],trivial⟩⟩
 ·exact⟨_,j,λ β σ a Wa g i=>⟨by simp[execOp,m,(h1 β σ a Wa g i).1,SV.val,Op.unary],trivial⟩⟩
 ·exact⟨_,Bu6 j,λ β σ a Wa g i=>⟨by simp[execOp,m,(h1 β σ a Wa g i).1,SV.val,Op.unary,Op.intArith],trivial⟩⟩
 ·exact j.elim
theorem Cf6: ∀(xs:List Int),(xs.map λ b=>[Value.int .u8 b]).flatten=xs.map (Value.int .u8)
 | []=>rfl
 | x::r=>by
  have:=Cf6 r;simp only[List.map_cons,List.flatten_cons] at this⊢;rw[this];rfl
theorem Dx3 (C:Ac6 P tt)(B:o.op = .convert u t x)(h:fl tt st W (.convert u t x) K):Bz4 P st W o K:=by
 simp only[fl] at h;split at h
 rotate_left
 ·exact h.elim
 rename_i j H;obtain⟨_,⟨e,he,I⟩,_⟩:=C.Aq3 H;split at h
 ·rename_i i hi
  obtain⟨_,⟨d,r,hu⟩,_⟩:=C.Aq3 hi;obtain⟨v,g,h1⟩:=Ad5 (W:=W) h;have J: ∀(_:conv i v K),Bz4 P st W o K:=by
   clear g;intro g;unfold conv at g;split at g
   ·rename_i k n w
    obtain rfl:=Dh4 (hu.trans w);refine⟨_,g.2,λ β σ a Wa q m=>⟨?_,trivial⟩⟩;have:=g.1;simp only[execOp,B,(h1 β σ a Wa q m),SV.val,convert,run_underlying he,run_underlying r,Sem.run_bind,Sem.run_pure,Result.andThen_ok];cases e<;>simp[Conv.intToInt,wrap_i64 this]
   ·rename_i k k' n _ w
    obtain rfl:=Dh4 (hu.trans w);refine⟨_,g,λ β σ a Wa q m=>⟨?_,trivial⟩⟩;simp only[execOp,B,(h1 β σ a Wa q m),SV.val,convert,run_underlying he,run_underlying r,Sem.run_bind,Sem.run_pure,Result.andThen_ok];cases e<;>simp[Conv.intToInt]
   ·rename_i s w
    obtain rfl:=Bv5 (hu.trans w);refine⟨_,g,λ β σ a Wa q m=>⟨?_,trivial⟩⟩;simp only[execOp,B,(h1 β σ a Wa q m),SV.val,convert,run_underlying he,run_underlying r,Sem.run_bind,Sem.run_pure,Result.andThen_ok]
   ·exact g.elim
  unfold Fj4 at g;split at g
  ·rename_i D A n c L N
   obtain rfl:=Ai6 (I.trans L);obtain rfl:=Bv5 (hu.trans N);split at g
   rotate_left
   ·exact g.elim
   rename_i j2 O;obtain⟨_,⟨d2,E,Q⟩,_⟩:=C.Aq3 O;split at g
   rotate_left
   ·exact g.elim
   rename_i hk;obtain rfl:=Dh4 (Q.trans hk);obtain⟨xs,R,S⟩:=g;refine⟨_,S,λ β σ a Wa q m=>⟨?_,trivial⟩⟩;have T:=R.ext m;simp only[execOp,B,(h1 β σ a Wa q m),SV.val,Sem.run_bind,Result.andThen_ok];have U:(convert u t (.slice A n c)).run P Wa.w = .ok (.string (strOfNums xs)) Wa.w:=by
    obtain⟨r1,r2,r3,r4,F⟩:=T;rcases F with F | ⟨b,off,cs,fz,V,hS,X,Y⟩
    ·have Z:xs = []:=by simpa using F
     subst Z;have aa:n=0:=by simpa using r1
     subst aa
     cases A with
     | none=>exact run_convert_bytes_nil Wa.w u D he E 0 c t r
     | some ad=>
      rw[run_convert_bytes_string Wa.w u t D _ 0 c he E r,run_bytesToString Wa.w ad 0 c [] (by simp[loadCells,loadCellsFrom,Sem.run_pure])];rfl
    ·have ac:A=some ⟨b,off,none⟩:=V
     subst ac;refine run_convert_bytes_arg Wa.w u D he E b off n c xs (by simpa using r1.symm) (λ k hk=>?_) t r;have G:k<xs.length:=by
      have:n=xs.length:=by simpa using r1
      omega
     have ae:(xs.map λ b=>[Value.int .u8 b]).flatten[k]?=some (.int .u8 xs[k]):=by
      have:(xs.map λ b=>[Value.int .u8 b]).flatten=xs.map (Value.int .u8):=Cf6 xs;rw[this];simp[G]
     have:=Y _ _ ae;simp only[World.cell?,X];rw[List.getD_eq_getElem?_getD,List.getElem?_eq_getElem G]
     simpa using this
   rw[U];rfl
  ·exact J g
 ·exact h.elim
theorem Be1 {fs:List (TypeId×Nat)}{f:Nat}{c:TypeId->Nat->Prop}(h:fieldAt fs f c): ∃t o,fs[f]?=some (t,o)/\c t o:=by
 unfold fieldAt at h;split at h
 ·rename_i t o g
  exact⟨t,o,g,h⟩
 ·exact h.elim
theorem Bl9 {i:Array Field}{f t o:Nat}(h:(i.toList.map λ f=>(f.type,f.offset))[f]?=some (t,o)): ∃g:Field,i[f]?=some g/\g.type=t/\g.offset=o:=by
 simp only[List.getElem?_map,Option.map_eq_some_iff] at h;obtain⟨g,h1,c⟩:=h;simp only[Prod.mk.injEq] at c;exact⟨g,by simpa using h1,c.1,c.2⟩
theorem Cy2 (c:Ac6 P tt){f:Nat}(m:o.op = .fieldAddr t x f)(h:fl tt st W (.fieldAddr t x f) K):Bz4 P st W o K:=by
 simp only[fl] at h;split at h
 ·rename_i i hi
  split at h
  ·rename_i fs q
   obtain⟨_,⟨d,r,hu⟩,_⟩:=c.Aq3 hi;obtain⟨Q,rfl,rfl⟩:=Bg8 (hu.trans q);obtain⟨R,off,v,h⟩:=Be1 h;obtain⟨g,w,rfl,rfl⟩:=Bl9 v;split at h
   ·rename_i j A
    have B:=c.Aq3 A;split at h
    ·exact h.elim
    ·rename_i n C
     obtain⟨s,D,h1⟩:=Ac8 (W:=W) h;obtain⟨s',E,F⟩:=Bj1 D;refine⟨s',E,λ β σ a Wa G H=>?_⟩;obtain⟨I,J⟩:=h1 β σ a Wa G H;obtain⟨S,L,N,O⟩:=F _ β σ J;refine⟨?_,O⟩;rw[N];simp[execOp,m,I,L,Instr.fieldAt,run_underlying r,w,Instr.sureAddr,fieldPlace,B.sizeOf,C]
   ·exact h.elim
  ·exact h.elim
 ·exact h.elim
theorem Do3 {i:TyI}(c:Af4 P t i)(w:World)(cs:Array Value)(off:Nat)(hle:off+i.size<=cs.toList.length)(h1:i.agg=false->(Cr8 cs.toList off i.size).length=1):
  (part t cs off).run P w = .ok (mkV i.agg (Cr8 cs.toList off i.size)) w:=by
 simp only[part,Sem.run_bind,c.isAgg,Result.andThen_ok]
 cases h:i.agg with
 | true=>
  simp only[if_true,Sem.run_bind,c.sizeOf,Result.andThen_ok,Sem.run_pure,mkV];congr 2;apply Array.ext';simp[Cr8,List.take_drop,List.extract_eq_take_drop]
 | false=>
  have j:=h1 h;have hlen:cs.toList.length=cs.size:=by simp
  simp only[Cr8,List.length_take,List.length_drop] at j;have g:off<cs.size:=by omega
  simp only[mkV,Bool.false_eq_true,if_false];rw[Array.getElem?_eq_getElem g];simp only[Sem.run_pure];have n:cs.toList.drop off=cs[off]::cs.toList.drop (off+1):=by
   rw[List.drop_eq_getElem_cons (by simpa using g)];simp
  have hi: ∃m,i.size=m+1:=⟨i.size-1,by omega⟩;obtain⟨m,hm⟩:=hi;simp[Cr8,n,hm]
theorem Ex4 (m:Ac6 P tt){f:Nat}(n:o.op = .field t x f)(h:fl tt st W (.field t x f) K):Bz4 P st W o K:=by
 simp only[fl] at h;split at h
 ·rename_i i hi
  split at h
  ·rename_i fs q
   obtain⟨_,⟨d,r,hu⟩,_⟩:=m.Aq3 hi;obtain⟨H,rfl,rfl⟩:=Bg8 (hu.trans q);obtain⟨I,off,w,h⟩:=Be1 h;obtain⟨g,A,rfl,rfl⟩:=Bl9 w;split at h
   ·rename_i j B
    have C:=m.Aq3 B;obtain⟨v,c,h1⟩:=Ad5 (W:=W) h;split at c
    ·rename_i cs
     split at c
     ·rename_i hle
      have hle:g.offset+j.size<=cs.toList.length:=Nat.le_of_ble_eq_true hle;obtain⟨D,E⟩:=Al6 c;refine⟨_,D,λ β σ a Wa F G=>⟨?_,trivial⟩⟩;simp[execOp,n,h1 β σ a Wa F G,Instr.field,run_underlying r,A,asAgg,Do3 C Wa.w cs _ hle E,SV.val]
     ·exact c.elim
    ·exact c.elim
   ·exact h.elim
  ·exact h.elim
 ·exact h.elim
theorem Ea7 {ix:Nat}(m:o.op = .extract x ix)(h:fl tt st W (.extract x ix) K):Bz4 P st W o K:=by
 simp only[fl] at h;obtain⟨s,i,n⟩:=Ac8 (W:=W) h;split at i
 ·rename_i b l
  split at i
  ·refine⟨_,i,λ β σ a Wa c g=>⟨?_,trivial⟩⟩
   simp[execOp,m,(n β σ a Wa c g).1,Instr.extract,SV.val]
  ·exact i.elim
 ·obtain⟨v,j,q⟩:=Av9 (W:=W) i
  have h1:Bo3 st W λ _ _ a _=>a.eval x=v:=λ β σ a Wa c g=>(n β σ a Wa c g).1.trans (q β σ a Wa c g);split at j
  ·rename_i vs
   split at j
   ·rename_i y r
    refine⟨_,j,λ β σ a Wa c g=>⟨?_,trivial⟩⟩;have w:vs[ix]?=some y:=by simpa using r
    simp[execOp,m,h1 β σ a Wa c g,Instr.extract,w,SV.val]
   ·exact j.elim
  ·exact j.elim
end
end Go.SX
namespace Go.SX
variable {ix x:Operand}{t:TypeId}
variable {P:Program} {tt:List (Nat×TyI)} {st:SS} {W:PW}
section
variable {o:Oper} {K:SV->Prop}
theorem Be0 {e:TypeId}{k:IntKind}{j:TyI}(hu:P.underlying t=some (.slice e))(i:Af4 P e j){A:Option Addr}{m c:Nat}{n:Int}(h:inB ⟨A,m,c⟩ n)(w:World):
  ∃g,A=some g/\(Instr.indexAt t (.slice A m c) (.int k n)).run P w = .ok (.pointer (some (g.add (n.toNat*j.size)))) w:=by
 obtain⟨q,h1,r⟩:=h;obtain⟨g,rfl⟩:=Option.isSome_iff_exists.1 r;exact⟨g,rfl,by simp[Instr.indexAt,run_underlying hu,asIntOf,q,h1,i.sizeOf]⟩
theorem Cx3 (J:Ac6 P tt)(H:o.op = .indexAddr t x ix)(h:fl tt st W (.indexAddr t x ix) K):Bz4 P st W o K:=by
 simp only[fl] at h;split at h
 ·rename_i i hi
  obtain⟨_,⟨d,I,hu⟩,_⟩:=J.Aq3 hi;split at h
  ·rename_i e L
   obtain rfl:=Ai6 (hu.trans L);split at h
   ·rename_i j N
    have C:=J.Aq3 N;obtain⟨s,D,h1⟩:=Ac8 (W:=W) h;obtain⟨k,n,q,B⟩:=Ag6 (W:=W) D;have pub: ∀{A m c},(Bo3 st W λ _ _ a _=>a.eval x = .slice A m c)->inB ⟨A,m,c⟩ n->K (.e ⟨A,m,c⟩ j.size n.toNat 0)->Bz4 P st W o K:=by
     intro A m c Z w E;refine⟨_,E,λ β σ a Wa r v=>?_⟩;obtain⟨F,rfl,O⟩:=Be0 (k:=k) I C w Wa.w;have G:SV.val β σ (.e ⟨some F,m,c⟩ j.size n.toNat 0) = .pointer (some (F.add (n.toNat*j.size))):=by simp[SV.val]
     refine⟨?_,_,G⟩;rw[G];simp[execOp,H,Z β σ a Wa r v,B β σ a Wa r v,O]
    split at q
    ·rename_i k'
     split at q
     ·rename_i t' sz xs Q
      split at q
      ·rename_i w
       have w:=Nat.eq_of_beq_eq_true w;subst w;refine⟨_,q.2,λ β σ a Wa r v=>?_⟩;obtain⟨hO,_⟩:=r.C _ _ Q;have aa:n.toNat<xs.length:=by omega
       obtain⟨g,c,G,_⟩:=hO.at_ (List.getElem?_eq_getElem aa);have Y:SV.val β σ (.oe k' j.size n.toNat 0) = .pointer (some (Addr.add ⟨g,0,none⟩ (n.toNat*j.size))):=by simp[SV.val,G]
       refine⟨?_,⟨_,Y⟩,(h1 β σ a Wa r v).2⟩;rw[Y];obtain⟨F,ab,O⟩:=Be0 (k:=k) I C (A:=some ⟨g,0,none⟩) (m:=xs.length) (c:=c) (n:=n) ⟨q.1.1,q.1.2,rfl⟩ Wa.w;obtain rfl:=Option.some.inj ab;have he:=(h1 β σ a Wa r v).1;simp only[SV.val,G] at he;simp[execOp,H,he,B β σ a Wa r v,O]
      ·exact q.elim
     ·rename_i A m c Q
      refine pub (λ β σ a Wa r v=>?_) q.1 q.2;have:=r.C _ _ Q;show a.eval x=_;rw[(h1 β σ a Wa r v).1];exact this
     ·exact q.elim
    ·exact pub (λ β σ a Wa r v=>(h1 β σ a Wa r v).1) q.1 q.2
    ·exact q.elim
   ·exact h.elim
  ·rename_i len e L
   obtain rfl:=Bq0 (hu.trans L);split at h
   ·rename_i j N
    have C:=J.Aq3 N;split at h
    ·obtain⟨s,D,h1⟩:=Ac8 (W:=W) h
     obtain⟨k,n,q,B⟩:=Ag6 (W:=W) D;obtain⟨s',E,R⟩:=Dx0 q.2;refine⟨s',E,λ β σ a Wa r v=>?_⟩;obtain⟨S,T⟩:=h1 β σ a Wa r v;obtain⟨F,U,V,X⟩:=R _ β σ T;refine⟨?_,X⟩;rw[V];have w:=q.1;have ac:=B β σ a Wa r v;simp[execOp,H,S,U,ac,Instr.indexAt,run_underlying I,asIntOf,Instr.sureAddr,C.sizeOf,w.1,w.2]
    ·obtain⟨s,D,h1⟩:=Ac8 (W:=W) h
     obtain⟨k,n,q,B⟩:=Ag6 (W:=W) D;obtain⟨s',E,R⟩:=Bj1 q.2;refine⟨s',E,λ β σ a Wa r v=>?_⟩;obtain⟨S,T⟩:=h1 β σ a Wa r v;obtain⟨F,U,V,X⟩:=R _ β σ T;refine⟨?_,X⟩;rw[V];have w:=q.1;simp[execOp,H,S,U,B β σ a Wa r v,Instr.indexAt,run_underlying I,asIntOf,Instr.sureAddr,C.sizeOf,w.1,w.2]
   ·exact h.elim
  ·exact h.elim
 ·exact h.elim
theorem Et9 (L:Ac6 P tt)(D:o.op = .index t x ix)(h:fl tt st W (.index t x ix) K):Bz4 P st W o K:=by
 simp only[fl] at h;split at h
 ·rename_i i hi
  obtain⟨_,⟨d,E,hu⟩,_⟩:=L.Aq3 hi;split at h
  ·rename_i F
   obtain rfl:=Bv5 (hu.trans F);obtain⟨v,G,h1⟩:=Ad5 (W:=W) h;obtain⟨k,n,c,w⟩:=Ag6 (W:=W) G;split at c
   ·rename_i s
    obtain⟨q,H⟩:=c;refine⟨_,H,λ β σ a Wa g m=>⟨?_,trivial⟩⟩;have A:n.toNat<s.size:=by omega
    have Q:s[n.toNat]?=some (s[n.toNat]'A):=by simp[A]
    have R:Ae2 s n.toNat=((s[n.toNat]'A).toNat:Int):=by simp[Ae2,A]
    simp[execOp,D,h1 β σ a Wa g m,w β σ a Wa g m,Instr.index,run_underlying E,asIntOf,q.1,Q,SV.val,R]
   ·exact c.elim
  ·rename_i len e F
   obtain rfl:=Bq0 (hu.trans F);split at h
   ·rename_i j S
    have r:=L.Aq3 S;obtain⟨v,G,h1⟩:=Ad5 (W:=W) h;obtain⟨k,n,c,w⟩:=Ag6 (W:=W) G;split at c
    ·rename_i cs
     obtain⟨q,c⟩:=c;obtain⟨l,⟨T,c⟩,_,hlen⟩:=Ah7 c;obtain⟨H,N⟩:=Al6 c;refine⟨_,H,λ β σ a Wa g m=>⟨?_,trivial⟩⟩;have U:l.length=j.size:=hlen.trans r.2.2.2.2.1;have I:Cr8 cs.toList (n.toNat*j.size) j.size=l:=T;have hle:n.toNat*j.size+j.size<=cs.toList.length\/j.size=0:=by
      rcases Nat.eq_zero_or_pos j.size with B | B
      ·exact .inr B
      ·left
       have:(Cr8 cs.toList (n.toNat*j.size) j.size).length=j.size:=by rw[I,U]
       simp only[Cr8,List.length_take,List.length_drop] at this;omega
     rcases hle with hle | B
     ·have C:=Do3 r Wa.w cs (n.toNat*j.size) hle (λ J=>by rw[I];exact N J)
      rw[I] at C;simp[execOp,D,h1 β σ a Wa g m,w β σ a Wa g m,Instr.index,run_underlying E,asIntOf,q.1,q.2,r.sizeOf,C,SV.val]
     ·have O:l = []:=List.eq_nil_of_length_eq_zero (by omega)
      have V:j.agg=true:=by
       cases J:j.agg with
       | true=>rfl
       | false=>have:=N J;simp[O] at this
      subst O;have C:(part e cs (n.toNat*j.size)).run P Wa.w = .ok (mkV j.agg []) Wa.w:=by
       simp only[part,Sem.run_bind,r.isAgg,Result.andThen_ok,V,if_true,r.sizeOf,Sem.run_pure,mkV,B];congr 2;apply Array.ext';simp
      simp[execOp,D,h1 β σ a Wa g m,w β σ a Wa g m,Instr.index,run_underlying E,asIntOf,q.1,q.2,r.sizeOf,C,SV.val]
    ·exact c.elim
   ·exact h.elim
  ·exact h.elim
 ·exact h.elim
theorem Ax7 {isSlice:Bool}{l:Int}{h:Int}{len cap:Nat}{lo hi:Option Value}(g:(lo=none/\l=0)\/∃k,lo=some (.int k l))(i:(hi=none/\h=len)\/∃k,hi=some (.int k h))(c:0<=l)(h1:l<=h)(j:h<=(cap:Int))(w:World):(Instr.sliceBounds isSlice len cap lo hi none).run P w = .ok (l.toNat,h.toNat,cap) w:=by
 have m:0<=h:=Int.le_trans c h1;have q:l<=(h.toNat:Int):=by omega
 rcases g with⟨rfl,rfl⟩ | ⟨k,rfl⟩<;>rcases i with⟨rfl,rfl⟩ | ⟨k',rfl⟩<;>
  simp[Instr.sliceBounds,Instr.sliceBound,asIntOf,c,h1,j,m]<;>(try (intro n;exact absurd n (by omega)))
theorem Ez6 {lo:Option Operand}{hi:Option Operand}(D:Ac6 P tt)(E:o.op = .slice t x lo hi none)(h:fl tt st W (.slice t x lo hi none) K):Bz4 P st W o K:=by
 simp only[fl] at h;have C: ∀{p:Option Operand} {d n:Int},((p=none/\n=d)\/∃x k,p=some x/\Bo3 st W λ _ _ a _=>a.eval x = .int k n)->Bo3 st W λ _ _ a _=>((p.map a.eval=none/\n=d)\/∃k,p.map a.eval=some (.int k n)):=by
  intro p d n N β σ a Wa g q;rcases N with⟨rfl,rfl⟩ | ⟨x,k,rfl,O⟩
  ·exact .inl ⟨rfl,rfl⟩
  ·exact .inr ⟨k,by simp[O β σ a Wa g q]⟩
 split at h
 ·rename_i i hi
  obtain⟨_,⟨d,F,hu⟩,_⟩:=D.Aq3 hi;split at h
  ·rename_i B
   obtain rfl:=Bv5 (hu.trans B);obtain⟨v,w,h1⟩:=Ad5 (W:=W) h;split at w
   ·rename_i s
    obtain⟨l,G,H⟩:=As1 (W:=W) w;obtain⟨Q,r,I⟩:=As1 (W:=W) G;refine⟨_,r.2,λ β σ a Wa g q=>⟨?_,trivial⟩⟩;have:=Ax7 (P:=P) (isSlice:=false) (len:=s.size) (cap:=s.size) (C H β σ a Wa g q) (C I β σ a Wa g q) r.1.1 r.1.2.1 r.1.2.2 Wa.w;simp[execOp,E,h1 β σ a Wa g q,Instr.sliceAt,Instr.slice,run_underlying F,this,SV.val]
   ·exact w.elim
  ·rename_i e B
   obtain rfl:=Ai6 (hu.trans B);split at h
   ·rename_i j J
    have R:=D.Aq3 J;obtain⟨v,w,h1⟩:=Ad5 (W:=W) h;split at w
    ·rename_i A m c
     obtain⟨l,G,H⟩:=As1 (W:=W) w;obtain⟨Q,r,I⟩:=As1 (W:=W) G;refine⟨_,r.2,λ β σ a Wa g q=>⟨?_,trivial⟩⟩;have:=Ax7 (P:=P) (isSlice:=true) (len:=m) (cap:=c) (C H β σ a Wa g q) (C I β σ a Wa g q) r.1.1 r.1.2.1 r.1.2.2 Wa.w;simp[execOp,E,h1 β σ a Wa g q,Instr.sliceAt,Instr.slice,run_underlying F,this,SV.val,R.sizeOf,Sl.cut]
    ·exact w.elim
   ·exact h.elim
  ·rename_i n e B
   obtain rfl:=Bq0 (hu.trans B);split at h
   ·rename_i j J
    obtain⟨s,L,h1⟩:=Ac8 (W:=W) h;split at L
    ·rename_i k
     refine⟨_,L,λ β σ a Wa g q=>?_⟩;obtain⟨S,T⟩:=h1 β σ a Wa g q;refine⟨?_,T⟩;have U:=(D.Aq3 J).sizeOf Wa.w;have:=Ax7 (P:=P) (isSlice:=false) (len:=n) (cap:=n) (lo:=none) (hi:=none) (h:=n) (.inl ⟨rfl,rfl⟩) (.inl ⟨rfl,rfl⟩) (Int.le_refl 0) (by omega) (by omega) Wa.w;simp[execOp,E,S,Instr.sliceAt,Instr.sureAddr,run_underlying F,this,SV.val,U,Addr.add]
    ·exact L.elim
   ·exact h.elim
  ·exact h.elim
 ·exact h.elim
theorem Dg5 {f:FuncId}{first:Array Operand}{captured:Array Operand}(i:o.op = .makeFunc (.func f) first captured)(h:fl tt st W (.makeFunc (.func f) first captured) K):Bz4 P st W o K:=by
 simp only[fl] at h;obtain⟨l,j,h1⟩:=Bh6 (W:=W) h;obtain⟨m,hm,n⟩:=Bh6 (W:=W) j;refine⟨_,hm,λ β σ a Wa c g=>⟨?_,trivial⟩⟩;have q:first.map a.eval=l.toArray:=by apply Array.ext';simpa using h1 β σ a Wa c g
 have r:captured.map a.eval=m.toArray:=by apply Array.ext';simpa using n β σ a Wa c g
 simp[execOp,i,Instr.makeFunc,SV.val,q,r]
theorem Ea2 {b:Builtin}{args:Array Operand}{G:Array TypeId}(L:Ac6 P tt)(w:o.op = .call {callee:=.builtin b,args:=args,argTypes:=G })(h:fl tt st W (.call {callee:=.builtin b,args:=args,argTypes:=G }) K):Bz4 P st W o K:=by
 simp only[fl] at h;split at h
 ·rename_i x t r H
  have r:args = #[x]:=by apply Array.ext';simpa using r
  have H:G = #[t]:=by apply Array.ext';simpa using H
  subst r;subst H;split at h
  ·rename_i i hi
   obtain⟨_,⟨d,D,hu⟩,_⟩:=L.Aq3 hi;split at h
   ·rename_i n e F
    obtain rfl:=Bq0 (hu.trans F);refine⟨_,h,λ β σ a Wa j q=>⟨?_,trivial⟩⟩;simp[execOp,w,resolve,invoke,builtin,Builtin.len_,run_underlying D,SV.val,goInt]
   ·rename_i F
    obtain rfl:=Bv5 (hu.trans F);obtain⟨v,B,h1⟩:=Ad5 (W:=W) h;split at B
    ·refine⟨_,B,λ β σ a Wa j q=>⟨?_,trivial⟩⟩
     simp[execOp,w,resolve,invoke,builtin,Builtin.len_,run_underlying D,SV.val,goInt,h1 β σ a Wa j q]
    ·exact B.elim
   ·rename_i e F
    obtain rfl:=Ai6 (hu.trans F);obtain⟨s,C,h1⟩:=Ac8 (W:=W) h;split at C
    ·rename_i k
     split at C
     ·rename_i Q sz xs E
      refine⟨_,C,λ β σ a Wa j q=>⟨?_,trivial⟩⟩;obtain⟨⟨R,N⟩,_⟩:=j.C _ _ E;have he:=(h1 β σ a Wa j q).1;simp only[SV.val] at he;rcases N.2 with⟨B,O⟩ | ⟨g,cap,cur,B,_⟩
      ·simp[execOp,w,resolve,invoke,builtin,Builtin.len_,run_underlying D,SV.val,goInt,he,B,O]
      ·simp[execOp,w,resolve,invoke,builtin,Builtin.len_,run_underlying D,SV.val,goInt,he,B]
     ·rename_i A n c E
      refine⟨_,C,λ β σ a Wa j q=>⟨?_,trivial⟩⟩;have he:=(h1 β σ a Wa j q).1;have E:=j.C _ _ E;simp only[Cm9] at E;simp only[SV.val,E] at he;simp[execOp,w,resolve,invoke,builtin,Builtin.len_,run_underlying D,SV.val,goInt,he]
     ·exact C.elim
    ·refine⟨_,C,λ β σ a Wa j q=>⟨?_,trivial⟩⟩
     have he:=(h1 β σ a Wa j q).1;simp only[SV.val] at he;simp[execOp,w,resolve,invoke,builtin,Builtin.len_,run_underlying D,SV.val,goInt,he]
    ·exact C.elim
   ·exact h.elim
  ·exact h.elim
 ·rename_i x y r
  have r:args = #[x,y]:=by apply Array.ext';simpa using r
  subst r;obtain⟨k,n,I,h1⟩:=Ag6 (W:=W) h;obtain⟨k',m,hm,J⟩:=Ag6 (W:=W) I;refine⟨_,hm,λ β σ a Wa j q=>⟨?_,trivial⟩⟩;simp[execOp,w,resolve,invoke,builtin,Builtin.min_,Builtin.min2,SV.val,mn,h1 β σ a Wa j q,J β σ a Wa j q]
 ·rename_i x y r
  have r:args = #[x,y]:=by apply Array.ext';simpa using r
  subst r;obtain⟨k,n,I,h1⟩:=Ag6 (W:=W) h;obtain⟨k',m,hm,J⟩:=Ag6 (W:=W) I;refine⟨_,hm,λ β σ a Wa j q=>⟨?_,trivial⟩⟩;simp[execOp,w,resolve,invoke,builtin,Builtin.max_,Builtin.max2,SV.val,mx,h1 β σ a Wa j q,J β σ a Wa j q]
 ·exact h.elim
theorem Bo1 (i:Ac6 P tt)(hF:Ae7 tt)(h:fl tt st W o.op K):Bz4 P st W o K:=by
 generalize g:o.op=op at h
 cases op with
 | move x=>exact Ee3 (.inl g) h
 | assign x=>exact Ee3 (.inr g) h
 | pick c a b=>exact Ff5 g h
 | build t parts=>exact Ez9 i hF g h
 | load t x=>exact Ff7 i g h
 | binOp op t x y u=>exact Eu8 i g h
 | unOp op t x=>exact Fe8 g h
 | convert u t x=>exact Dx3 i g h
 | fieldAddr t x f=>exact Cy2 i g h
 | field t x f=>exact Ex4 i g h
 | indexAddr t x ix=>exact Cx3 i g h
 | index t x ix=>exact Et9 i g h
 | slice t x lo hi mx=>
  cases mx with
  | some _=>exact h.elim
  | none=>exact Ez6 i g h
 | extract x ix=>exact Ea7 g h
 | makeFunc fn first captured=>
  cases fn<;>first | exact h.elim | exact Dg5 g h
 | call c=>
  obtain⟨callee,args,j⟩:=c;cases callee<;>first | exact h.elim | exact Ea2 i g h
 | _=>exact h.elim
end
end Go.SX
