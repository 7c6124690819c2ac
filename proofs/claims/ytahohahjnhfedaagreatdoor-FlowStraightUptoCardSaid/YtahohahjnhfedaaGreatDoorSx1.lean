/- The symbolic evaluator: worlds with a private set, symbolic values and states, type tables. -/
import Derived.WalkKit
import Derived.Laws.BytesArg
set_option linter.unusedVariables false
set_option linter.unusedSimpArgs false
namespace Go.SX
structure Sl where
 A:Option Addr
 n:Nat
 c:Nat
@[reducible] def Sl.v (s:Sl):Value:=.slice s.A s.n s.c
structure PW where
 w:World
 S:Nat→Prop
structure Ext (W W':PW):Prop where
 size:W.w.heap.size≤W'.w.heap.size
 Ai1: ∀b,b<W.w.heap.size→¬W.S b→W'.w.heap[b]?=W.w.heap[b]?∧¬W'.S b
theorem Ext.refl (W:PW):Ext W W:=⟨Nat.le_refl _,fun _ _ h=>⟨rfl,h⟩⟩
theorem Ext.trans {A B C:PW} (h:Ext A B) (k:Ext B C):Ext A C:=
 ⟨Nat.le_trans h.size k.size,fun b hb hs=>by
  have h1:=h.Ai1 b hb hs
  have h2:=k.Ai1 b (Nat.lt_of_lt_of_le hb h.size) h1.2
  exact⟨h2.1.trans h1.1,h2.2⟩⟩
structure Au9 (M:Nat→Prop) (W W':PW):Prop where
 size:W.w.heap.size≤W'.w.heap.size
 Ai1: ∀b,b<W.w.heap.size→¬W.S b→¬M b→W'.w.heap[b]?=W.w.heap[b]?∧¬W'.S b
theorem Ext.toM {W W':PW} (h:Ext W W') (M:Nat→Prop):Au9 M W W':=⟨h.size,fun b hb hs _=>h.Ai1 b hb hs⟩
theorem Au9.ext {W W':PW} (h:Au9 (fun _=>False) W W'):Ext W W':=⟨h.size,fun b hb hs=>h.Ai1 b hb hs id⟩
theorem Au9.trans {M:Nat→Prop} {A B C:PW} (h:Au9 M A B) (k:Au9 M B C):Au9 M A C:=
 ⟨Nat.le_trans h.size k.size,fun b hb hs hm=>by
  have h1:=h.Ai1 b hb hs hm
  have h2:=k.Ai1 b (Nat.lt_of_lt_of_le hb h.size) h1.2 hm
  exact⟨h2.1.trans h1.1,h2.2⟩⟩
theorem Au9.mono {M M':Nat→Prop} {A B:PW} (h:Au9 M A B) (hm: ∀b,M b→M' b):Au9 M' A B:=
 ⟨h.size,fun b hb hs hn=>h.Ai1 b hb hs fun h=>hn (hm b h)⟩
/-! Draws are counted upwards. -/
theorem Es8 {α : Type} (k : Ask α) (w : World) : w.drawn ≤ (w.ask k).2.drawn := by
  induction k generalizing w with
  | done a => exact Nat.le_refl _
  | ask what range k ih =>
    unfold World.ask
    simp only
    split
    · exact ih _ _
    · have h : w.drawn ≤ ({ w with drawn := w.drawn + 1 } : World).drawn := Nat.le_succ _
      exact Nat.le_trans h (ih _ _)
theorem Es2 (w:World) (c:Sys):w.drawn≤(w.sys c).2.drawn:=by
 have h:=Es8 (Kernel.perform c w.os) w
 unfold World.sys
 split
 ·exact Nat.le_refl _
 ·rename_i e
  rw[e] at h
  exact h
theorem By3 {p:Program} {w w':World} {a k:Addr} {u:TypeId} {v:Value} {b:Bool} {l:List Addr} (h:w.viewStore p a u k v b = .ok (w',l)):w'.drawn=w.drawn:=by
 unfold World.viewStore at h
 simp only[bind,Except.bind,pure,Except.pure,throw,throwThe,MonadExceptOf.throw] at h
 repeat' split at h
 all_goals first
  | (cases h;done)
  | (injection h with h;injection h with h1 h2;rw[←h1])
theorem Bz9 {p:Program} {w w':World} {a:Addr} {v:Value} {b:Bool} {l:List Addr} (h:w.farStore p a v b = .ok (w',l)):w'.drawn=w.drawn:=by
 unfold World.farStore at h
 split at h
 ·split at h
  ·rename_i e
   cases h
   exact By3 e
  ·cases h
 ·cases h
theorem By1 {α:Type} (p:Program) (e:Sem α) (w:World): ∀{v:α} {w':World},e.run p w = .ok v w'→w.drawn≤w'.drawn:=by
 induction e generalizing w with
 | pure a=>intro v w' h;cases h;exact Nat.le_refl _
 | load m a k ih=>
  intro v w' h
  simp only[Sem.run] at h
  split at h
  ·exact ih _ _ h
  ·split at h
   ·exact ih _ _ h
   ·cases h
 | store m a v k ih=>
  intro v' w' h
  have key:(match w.cell? a with
   | some _=>if w.frozen? a then Result.halt (.unsupported (.unsafePointer "a write to bytes that a string shares")) w else k.run p (w.setCell a v)
   | none=>match w.farStore p a v (m == Mode.atomic) with
    | .ok (w,_)=>k.run p w
    | .error h=>.halt h w) = .ok v' w'→w.drawn≤w'.drawn:=by
   intro h
   split at h
   ·split at h
    ·cases h
    ·have:=ih _ h
     exact Nat.le_trans (by unfold World.setCell;(repeat' split)<;>exact Nat.le_refl _) this
   ·split at h
    ·rename_i e
     have:=ih _ h
     rw[Bz9 e] at this
     exact this
    ·cases h
  cases v<;>simp only[Sem.run] at h<;>first | (cases h;done) | exact key h
 | new o k ih=>intro v w' h;simp only[Sem.run] at h;have:=ih _ _ h;exact this
 | shape r k ih=>intro v w' h;simp only[Sem.run] at h;exact ih _ _ h
 | freeze a n k ih=>
  intro v w' h
  simp only[Sem.run] at h
  exact Nat.le_trans (by unfold World.freeze;(repeat' split)<;>exact Nat.le_refl _) (ih _ h)
 | frozen a k ih=>intro v w' h;simp only[Sem.run] at h;exact ih _ _ h
 | getObj r k ih=>
  intro v w' h
  simp only[Sem.run] at h
  split at h
  ·cases h
  ·exact ih _ _ h
  ·cases h
 | setObj r o k ih=>
  intro v w' h
  simp only[Sem.run] at h
  split at h
  ·cases h
  ·have:=ih _ h
   exact this
  ·cases h
 | choose q k ih=>
  intro v w' h
  simp only[Sem.run] at h
  split at h
  ·exact ih _ _ h
  ·exact Nat.le_trans (Nat.le_succ _) (ih _ _ h)
 | sys c k ih=>
  intro v w' h
  simp only[Sem.run] at h
  exact Nat.le_trans (Es2 w c) (ih _ _ h)
 | program k ih=>intro v w' h;simp only[Sem.run] at h;exact ih _ _ h
 | mark m k ih=>intro v w' h;simp only[Sem.run] at h;exact ih _ h
 | halt h=>intro v w' h;simp only[Sem.run] at h;cases h
structure Am7 (M:Nat→Prop) (w w':World):Prop where
 os:w'.os=w.os
 tape:w'.tape=w.tape
 output:w'.output=w.output
 size:w.heap.size≤w'.heap.size
 block: ∀b,b<w.heap.size→¬M b→w'.heap[b]?=w.heap[b]?
 drawn:w.drawn≤w'.drawn
theorem Am7.refl (M:Nat→Prop) (w:World):Am7 M w w:=⟨rfl,rfl,rfl,Nat.le_refl _,fun _ _ _=>rfl,Nat.le_refl _⟩
theorem Am7.then {M N:Nat→Prop} {a b c:World} (h:Am7 M a b) (k:Am7 N b c) (hn: ∀i,N i→M i∨a.heap.size≤i):Am7 M a c:=
 ⟨k.os.trans h.os,k.tape.trans h.tape,k.output.trans h.output,Nat.le_trans h.size k.size,
  fun i hi hm=>(k.block i (Nat.lt_of_lt_of_le hi h.size) (fun hN=>(hn i hN).elim hm (fun h=>by omega))).trans (h.block i hi hm),Nat.le_trans h.drawn k.drawn⟩
theorem Am7.alloc (M:Nat→Prop) (w:World) (o:Obj):Am7 M w (w.alloc o):=
 ⟨rfl,rfl,rfl,by simp,fun b hb _=>heap_alloc_old w o hb,Nat.le_refl _⟩
theorem Am7.below {w w':World} (h:Am7 (fun _=>False) w w'):RowKit.Below w.heap.size w w':=
 ⟨h.os,h.tape,h.output,h.size,fun k hk=>h.block k hk id⟩
def Fl8 (P:Program) (f:FuncId):Prop:=∃fn,P.funcs[f]?=some fn∧fn.body.isSome=true∧(fn.name == "runtime.NumGoroutine")=false
def Aa0 (P:Program) (f:FuncId) (args:List Value) (W:PW) (M:Nat→Prop) (Post:Value→PW→Prop):Prop:=
 Fl8 P f∧((∀b,W.S b→b<W.w.heap.size)→Calls P f args.toArray W.w fun e w'=>∃v,e = .returned v∧Am7 M W.w w'∧Post v ⟨w',W.S⟩)
def Cd9 (P:Program) (f:FuncId) (args:List Value) (W:PW) (Post:Value→PW→Prop):Prop:=
 Aa0 P f args W (fun _=>False) Post
theorem Aa0.mono {P:Program} {f:FuncId} {args:List Value} {W:PW} {M M':Nat→Prop} {Post Post':Value→PW→Prop}
  (h:Aa0 P f args W M Post) (hm: ∀b,M b→M' b) (hp: ∀v W',Au9 M W W'→Post v W'→Post' v W'):Aa0 P f args W M' Post':=
 ⟨h.1,fun hS=>Calls.mono (h.2 hS) fun e w' ⟨v,he,hk,hP⟩=>⟨v,he,⟨hk.os,hk.tape,hk.output,hk.size,fun b hb hn=>hk.block b hb fun h=>hn (hm b h),hk.drawn⟩,
  hp v _ ⟨hk.size,fun b hb hs hn=>⟨hk.block b hb hn,hs⟩⟩ hP⟩⟩
theorem Cd9.mono {P:Program} {f:FuncId} {args:List Value} {W:PW} {Post Post':Value→PW→Prop}
  (h:Cd9 P f args W Post) (hp: ∀v W',Ext W W'→Post v W'→Post' v W'):Cd9 P f args W Post':=
 Aa0.mono h (fun _ h=>h) fun v W' hE hP=>hp v W' hE.ext hP
/-! ### Facts about memory -/
def Aa7 (W : PW) (s : Sl) (sz i off : Nat) (l : List Value) : Prop :=
  ∃ b o cs t fz, s.A = some ⟨b, o, none⟩ ∧ ¬ W.S b ∧ W.w.heap[b]? = some (.cells cs t fz) ∧ ∀ j v, l[j]? = some v → cs[o + (i * sz + off) + j]? = some v
def Row (W:PW) (t:TypeId) (sz:Nat) (s:Sl) (xs:List (List Value)):Prop:=
 s.n=xs.length∧s.n≤s.c∧s.c≤maxLen∧(∀x∈xs,x.length=sz∧∀u∈x,u.oneCell'=true)∧
  (xs = []∨∃b o cs fz,s.A=some ⟨b,o,none⟩∧¬W.S b∧W.w.heap[b]?=some (.cells cs t fz)∧∀j v,xs.flatten[j]?=some v→cs[o+j]?=some v)
def Bf9 (W:PW) (sz:Nat) (s:Sl) (xs:List (List Value)):Prop:=∃t,Row W t sz s xs
def Ai0 (w:World) (t:TypeId) (sz:Nat) (v:Value) (xs:List (List Value)):Prop:=
 (∀x∈xs,x.length=sz∧∀u∈x,u.oneCell'=true)∧w.ownsRow 0 t sz v xs.length xs.flatten
def Own (W:PW) (t:TypeId) (sz:Nat) (s:Sl) (xs:List (List Value)):Prop:=
 Ai0 W.w t sz s.v xs∧∀g,s.v.ownBlock=some g→¬W.S g
theorem Ao8 {sz:Nat} : ∀{xs:List (List Value)} (_: ∀x∈xs,x.length=sz) {i:Nat} {x:List Value} (_:xs[i]?=some x) {j:Nat} {v:Value} (_:x[j]?=some v),
  xs.flatten[i*sz+j]?=some v
 | [],_,i,x,h,_,_,_=>by simp at h
 | y :: ys,hl,0,x,h,j,v,hv=>by
  simp only[List.getElem?_cons_zero,Option.some.injEq] at h
  subst h
  have:=(List.getElem?_eq_some_iff.1 hv).1
  simp only[List.flatten_cons,Nat.zero_mul,Nat.zero_add]
  rw[List.getElem?_append_left this]
  exact hv
 | y :: ys,hl,i+1,x,h,j,v,hv=>by
  simp only[List.getElem?_cons_succ] at h
  have hy:=hl y (by simp)
  have:=Ao8 (fun x hx=>hl x (by simp[hx])) h hv
  simp only[List.flatten_cons]
  rw[List.getElem?_append_right (by rw[hy,Nat.add_mul];omega),hy,show(i+1)*sz+j-sz=i*sz+j by rw[Nat.add_mul];omega]
  exact this
theorem Row.elem {W:PW} {t:TypeId} {sz:Nat} {s:Sl} {xs:List (List Value)} (h:Row W t sz s xs) {i:Nat} {x:List Value} (hi:xs[i]?=some x) {off:Nat} {l:List Value}
  (hl: ∀j v,l[j]?=some v→x[off+j]?=some v):Aa7 W s sz i off l:=by
 obtain⟨_,_,_,h3,h4⟩:=h
 rcases h4 with rfl | ⟨b,o,cs,fz,hA,hS,hh,hc⟩
 ·simp at hi
 ·exact⟨b,o,cs,t,fz,hA,hS,hh,fun j v hj=>by
   have:=hc _ _ (Ao8 (fun x hx=>(h3 x hx).1) hi (hl j v hj))
   rw[show o+(i*sz+off)+j=o+(i*sz+(off+j)) by omega]
   exact this⟩
theorem Row.ext {W W':PW} {t:TypeId} {sz:Nat} {s:Sl} {xs:List (List Value)} (h:Row W t sz s xs) (hE:Ext W W'):Row W' t sz s xs:=by
 obtain⟨h1,h2,hm,h3,h4⟩:=h
 refine⟨h1,h2,hm,h3,?_⟩
 rcases h4 with rfl | ⟨b,o,cs,fz,hA,hS,hh,hc⟩
 ·exact .inl rfl
 ·have hk:=hE.Ai1 b (Array.getElem?_eq_some_iff.1 hh).1 hS
  exact .inr ⟨b,o,cs,fz,hA,hk.2,hk.1.trans hh,hc⟩
theorem Row.Fi9 {W W':PW} {t:TypeId} {sz:Nat} {s:Sl} {xs:List (List Value)} (h:Row W t sz s xs) {M:Nat→Prop} (hE:Au9 M W W') (hM: ∀b,M b→∀cs fz,W.w.heap[b]?=some (.cells cs t fz)→xs = []):Row W' t sz s xs:=by
 obtain⟨h1,h2,hm,h3,h4⟩:=h
 refine⟨h1,h2,hm,h3,?_⟩
 rcases h4 with rfl | ⟨b,o,cs,fz,hA,hS,hh,hc⟩
 ·exact .inl rfl
 ·by_cases hb:M b
  ·exact .inl (hM b hb cs fz hh)
  ·have hk:=hE.Ai1 b (Array.getElem?_eq_some_iff.1 hh).1 hS hb
   exact .inr ⟨b,o,cs,fz,hA,hk.2,hk.1.trans hh,hc⟩
theorem Own.row {W:PW} {t:TypeId} {sz:Nat} {s:Sl} {xs:List (List Value)} (h:Own W t sz s xs):Row W t sz s xs:=by
 obtain⟨⟨hl,hlen,ho⟩,hS⟩:=h
 rcases ho with⟨hn,h0⟩ | ⟨g,cap,cur,hv,_,hh,h1,h2,h3,h4⟩
 ·have:xs = []:=List.eq_nil_of_length_eq_zero h0
  subst this
  simp only[Sl.v,Value.slice.injEq] at hn
  exact⟨by simp[hn.2.1],by omega,by simp[maxLen,hn.2.2],by simp,.inl rfl⟩
 ·have hA:s.A=some ⟨g,0,none⟩∧s.n=xs.length∧s.c=cap:=by simpa[Sl.v] using hv
  refine⟨hA.2.1,by omega,by omega,hl,.inr ⟨g,0,cur,(0,0),hA.1,hS g (by simp[Sl.v,Value.ownBlock,hA.1]),hh,fun j v hj=>?_⟩⟩
  rw[←h4,List.getElem?_take] at hj
  split at hj
  ·simpa using hj
  ·cases hj
end Go.SX
/- The symbolic evaluator: its definition. -/
namespace Go.SX
/-! ### Types -/
inductive Und where
  | int (k : IntKind) | bool | str | slice (e : TypeId) | arr (n : Nat) (e : TypeId) | struct (fs : List (TypeId × Nat)) | tup (ts : List TypeId) | map (k e : TypeId) | ptr | other
def Au8:TypeDesc→Und
 | .int k=>.int k
 | .bool=>.bool
 | .string=>.str
 | .slice e=>.slice e
 | .array n e=>.arr n e
 | .struct fs=>.struct (fs.toList.map fun f=>(f.type,f.offset))
 | .tuple ts=>.tup ts.toList
 | .map k e=>.map k e
 | .pointer _=>.ptr
 | _=>.other
inductive Shp where
 | int (k:IntKind) | bool | str | slice | map | ptr
structure TyI where
 und:Und
 size:Nat
 bytes:Nat
 zv:Value
 agg:Bool
 sh:List Shp
 eq:Bool:=false
def Ff6:Shp→Value→Bool
 | .int k,.int k' _=>decide (k=k')
 | .bool,.bool _=>true
 | .str,.string _=>true
 | .slice,.slice ..=>true
 | .map,.map _=>true
 | .ptr,.pointer _=>true
 | _,_=>false
def Ai7:List Shp→List Value→Bool
 | [],[]=>true
 | s :: r,v :: l=>Ff6 s v && Ai7 r l
 | _,_=>false
def Fo2 (P:Program) (t:TypeId) (sh:List Shp):Prop:=∀(w:World) (l l':List Value),Ai7 sh l=true→Ai7 sh l'=true→
 (Op.equal t (.agg l.toArray) (.agg l'.toArray)).run P w = .ok (@decide (l=l') (Classical.propDecidable _)) w∧∀op x y,(eqGuard op t x y (.agg l.toArray) (.agg l'.toArray)).run P w = .ok () w
def look {α:Type} :List (Nat×α)→Nat→Option α
 | [],_=>none
 | (k,x) :: r,i=>match Nat.beq k i with | true=>some x | false=>look r i
def Cr0:Und→Bool
 | .arr .. | .struct _=>true
 | _=>false
def Af4 (P:Program) (t:TypeId) (i:TyI):Prop:=
 (∃inf,P.info? t=some inf∧inf.size=i.size∧inf.bytes=i.bytes∧inf.zero=some i.zv)∧(∃d,P.underlying t=some d∧Au8 d=i.und)∧i.agg=Cr0 i.und∧i.zv.cells.size=i.size∧i.sh.length=i.size∧(i.eq=true→Fo2 P t i.sh)
def Ac6 (P:Program):List (Nat×TyI)→Prop
 | []=>True
 | (t,i) :: r=>Af4 P t i∧Ac6 P r
theorem Ac6.Aq3 {P:Program} : ∀{l:List (Nat×TyI)} (_:Ac6 P l) {t:Nat} {i:TyI} (_:look l t=some i),Af4 P t i
 | [],_,_,_,h=>by simp[look] at h
 | (k,x) :: r,h,t,i,hl=>by
  simp only[look] at hl
  cases hb:Nat.beq k t with
  | true=>
   simp only[hb,Option.some.injEq] at hl
   subst hl
   have:k=t:=Nat.eq_of_beq_eq_true hb
   subst this
   exact h.1
  | false=>
   simp only[hb] at hl
   exact Ac6.Aq3 h.2 hl
/-! ### Symbolic values -/
inductive SV where
  | v (x : Value)
  | b (x : Bool)
  | q (p : Prop) (d : Decidable p)
  /-- the slice nil, as the text writes it -/
  | n
  /-- a pointer into private box k -/
  | p (k : Nat) (off : Nat)
  /-- own slice k -/
  | o (k : Nat)
  /-- element i of own slice k (elements of sz cells), from cell off on -/
  | oe (k sz i off : Nat)
  /-- element i of a public slice -/
  | e (s : Sl) (sz i off : Nat)
  /-- element i of an array of len elements in box k, its first at base; from cell off on -/
  | pe (k base sz len i off : Nat)
  /-- box k, an array of n elements of one cell, as a slice -/
  | bs (k n : Nat)
  /-- a tuple that begins with a known truth -/
  | tb (b : Bool) (l : List Value)
inductive Blk where
  | box (cs : List Value)
  | row (t : TypeId) (sz : Nat) (xs : List (List Value))
  /-- an own slice that has been handed on: it is this value -/
  | pub (x : Value)
  /-- a box that has been handed on: its pointer -/
  | pbx (r : Option Addr)
  | dead
  /-- a step over map g: who has been seen, and who comes now -/
  | itr (g kt et since : Nat) (seen : Array Nat) (last : Nat) (cur : Option MapEntry)
def Ae4 (seen:Array Nat):Option MapEntry→Array Nat
 | none=>seen
 | some e=>seen.push e.born
structure SS where
 T:List (Nat×SV)
 C:List (Nat×Blk)
 nx:Nat
 n:Nat
 D:List Nat
inductive PL where
 | val (v:Value)
 | row (xs:List (List Value))
 | cells (cs:List Value)
 | seen (l:Array Nat) (last:Nat)
/-! ### Obligations -/
def I64 (z : Int) : Prop := -9223372036854775808 ≤ z ∧ z ≤ 9223372036854775807
def Bc5 (k:IntKind) (x:Int) (n:Nat):Int:=k.wrap (x*2^n)
def Ah0 (x:Int) (n:Nat):Int:=x.fdiv (2^n)
def Ck3 (xs:List (List Value)) (i off:Nat) (l:List Value):Prop:=∃cs,xs[i]?=some cs∧(cs.drop off).take l.length=l
def patch (cs:List Value) (off:Nat) (l:List Value):List Value:=cs.take off ++ l ++ cs.drop (off+l.length)
def Ci8 (xs:List (List Value)) (i off:Nat) (l:List Value):List (List Value):=xs.set i (patch (xs.getD i []) off l)
def Sl.cut (s:Sl) (sz l h:Nat):Sl:=⟨if s.c=l then s.A else s.A.map (·.add (l*sz)),h-l,s.c-l⟩
def inB (s:Sl) (i:Int):Prop:=0≤i∧i<(s.n:Int)∧s.A.isSome=true
def Ae2 (s:ByteArray) (n:Nat):Int:=if h:n<s.size then((s[n]'h).toNat:Int) else 0
/-! ### Helpers -/
def Fc5 : Shp → (Value → Prop) → Prop
  | .int k, K => ∃ n : Int, K (.int k n)
  | .bool, K => ∃ b : Bool, K (.bool b)
  | .str, K => ∃ s : ByteArray, K (.string s)
  | .slice, K => ∃ s : Sl, K s.v
  | .map, K => ∃ r : Option Nat, K (.map r)
  | .ptr, K => ∃ a : Option Addr, K (.pointer a)
def Ba7:List Shp→(List Value→Prop)→Prop
 | [],K=>K []
 | s :: r,K=>Fc5 s fun x=>Ba7 r fun l=>K (x :: l)
def Em0:Shp→(Value→Prop)→Prop
 | .int k,K=>∀n:Int,K (.int k n)
 | .bool,K=>∀b:Bool,K (.bool b)
 | .str,K=>∀s:ByteArray,K (.string s)
 | .slice,K=>∀s:Sl,K s.v
 | .map,K=>∀r:Option Nat,K (.map r)
 | .ptr,K=>∀a:Option Addr,K (.pointer a)
def Ax9:List Shp→(List Value→Prop)→Prop
 | [],K=>K []
 | s :: r,K=>Em0 s fun x=>Ax9 r fun l=>K (x :: l)
def exV (i:TyI) (K:Value→Prop):Prop:=Ba7 i.sh fun l=>match i.agg with | true=>K (.agg l.toArray) | false=>match l with | [x]=>K x | _=>False
def Fo4 (tt:List (Nat×TyI)):List TypeId→(List Value→Prop)→Prop
 | [],K=>K []
 | t :: r,K=>match look tt t with | some i=>exV i fun x=>Fo4 tt r fun l=>K (x :: l) | none=>False
def Cc9 (tt:List (Nat×TyI)) (t:TypeId) (v:Value) (K:Value→Prop):Prop:=
 match look tt t with
 | some i=>match i.und with
  | .tup ts=>Fo4 tt ts fun l=>v = .tuple l.toArray∧K (.tuple l.toArray)
  | _=>exV i fun x=>v=x∧K x
 | none=>False
def Cr8 (l:List Value) (off n:Nat):List Value:=(l.drop off).take n
def valOf (agg:Bool) (l:List Value) (K:Value→Prop):Prop:=match agg with | true=>K (.agg l.toArray) | false=>match l with | [x]=>K x | _=>False
def Ac7:Value→List Value
 | .agg cs=>cs.toList
 | v=>[v]
section
variable (tt:List (Nat×TyI)) (st:SS)
def ev (x:Operand) (K:SV→Prop):Prop:=
 match x with
 | .tmp t=>match look st.T t with | some s=>K s | none=>False
 | .const v=>match v with
  | .slice none 0 0=>K .n
  | .bool b=>K (.b b)
  | v=>K (.v v)
 | .func f=>K (.v (.func (.func f) #[] #[]))
 | .global _=>False
def toV (s:SV) (K:Value→Prop):Prop:=
 match s with
 | .v x=>K x
 | .n=>K (.slice none 0 0)
 | .b x=>K (.bool x)
 | .q p d=>K (.bool (@decide p d))
 | .o k=>match look st.C k with | some (.pub x)=>K x | _=>False
 | _=>False
def evV (x:Operand) (K:Value→Prop):Prop:=ev st x fun s=>toV st s K
def evI (x:Operand) (K:IntKind→Int→Prop):Prop:=evV st x fun v=>match v with | .int k n=>K k n | _=>False
def shC (op:BinOp) (x:Value) (n:Int) (K:SV→Prop):Prop:=
 match op,x with
 | .shl,.int k a=>match Nat.ble n.toNat k.bits,decide (0≤n) with | true,true=>K (.v (.int k (Bc5 k a n.toNat))) | _,_=>False
 | .shr,.int k a=>match Nat.ble n.toNat k.bits,decide (0≤n) with | true,true=>K (.v (.int k (Ah0 a n.toNat))) | _,_=>False
 | _,_=>False
def Fs6:BinOp→Operand→Option Int
 | .shl,.const (.int _ n)=>some n
 | .shr,.const (.int _ n)=>some n
 | _,_=>none
def Fo3:List Operand→(List Value→Prop)→Prop
 | [],K=>K []
 | x :: r,K=>evV st x fun v=>Fo3 r fun l=>K (v :: l)
def arith (k:IntKind) (z:Int) (K:SV→Prop):Prop:=match k with | .i64=>I64 z∧K (.v (.int .i64 z)) | _=>K (.v (.int k (k.wrap z)))
def En4 (op:BinOp) (k:IntKind) (a b:Int) (K:SV→Prop):Prop:=
 match op with
 | .add=>arith k (a+b) K
 | .sub=>arith k (a-b) K
 | .mul=>arith k (a*b) K
 | .quo=>b≠0∧K (.v (.int k (k.wrap (a.tdiv b))))
 | .rem=>b≠0∧K (.v (.int k (a.tmod b)))
 | .and=>K (.v (.int k (bits .and k a b)))
 | .or=>K (.v (.int k (bits .or k a b)))
 | .xor=>K (.v (.int k (bits .xor k a b)))
 | .eql=>K (.q (a=b) (inferInstance:Decidable (a=b)))
 | .neq=>K (.q (a≠b) (inferInstance:Decidable (a≠b)))
 | .lss=>K (.q (a<b) (inferInstance:Decidable (a<b)))
 | .leq=>K (.q (a≤b) (inferInstance:Decidable (a≤b)))
 | .gtr=>K (.q (b<a) (inferInstance:Decidable (b<a)))
 | .geq=>K (.q (b≤a) (inferInstance:Decidable (b≤a)))
 | _=>False
def bin (op:BinOp) (x y:Value) (K:SV→Prop):Prop:=
 match x,y with
 | .int k a,.int k' b=>
  match op with
  | .shl=>(0≤b∧b≤(k.bits:Int))∧K (.v (.int k (Bc5 k a b.toNat)))
  | .shr=>(0≤b∧b≤(k.bits:Int))∧K (.v (.int k (Ah0 a b.toNat)))
  | _=>match decide (k=k') with | true=>En4 op k a b K | false=>False
 | .string a,.string b=>
  match op with
  | .eql=>K (.q (a=b) (inferInstance:Decidable (a=b)))
  | .neq=>K (.q (a≠b) (inferInstance:Decidable (a≠b)))
  | .add=>(a.size+b.size:Int)≤9223372036854775807∧K (.v (.string (a ++ b)))
  | _=>False
 | _,_=>False
def Fk8 (op:BinOp) (x y:Value) (K:SV→Prop):Prop:=
 match x,y with
 | .bool a,.bool b=>
  match op with
  | .eql=>K (.q (a=b) (inferInstance:Decidable (a=b)))
  | .neq=>K (.q (a≠b) (inferInstance:Decidable (a≠b)))
  | _=>False
 | _,_=>False
def split (s:SV) (K:Bool→Prop):Prop:=
 match s with
 | .b true=>K true
 | .b false=>K false
 | .q p _=>(p→K true)∧(¬p→K false)
 | .v (.bool x)=>(x=true→K true)∧(x=false→K false)
 | _=>False
def mn (a b:Int):Int:=if b<a then b else a
def mx (a b:Int):Int:=if b>a then b else a
def conv (i:TyI) (x:Value) (K:SV→Prop):Prop:=
 match i.und,x with
 | .int .i64,.int _ n=>I64 n∧K (.v (.int .i64 n))
 | .int k,.int _ n=>K (.v (.int k (k.wrap n)))
 | .str,.string s=>K (.v (.string s))
 | _,_=>False
def Fj4 (iu i:TyI) (W:PW) (x:Value) (K:SV→Prop):Prop:=
 match iu.und,i.und,x with
 | .slice e,.str,.slice A n c=>match look tt e with
  | some j=>match j.und with
   | .int .u8=>∃xs:List Int,Row W e 1 ⟨A,n,c⟩ (xs.map fun b=>[.int .u8 b])∧K (.v (.string (strOfNums xs)))
   | _=>False
  | none=>False
 | _,_,_=>conv i x K
def As9 (cs:List Value) (p:Nat) (l:List Value):Prop:=p+l.length≤cs.length∧Cr8 cs p l.length=l
def Dx2 (i:TyI) (W:PW) (s:SV) (K:SV→Prop):Prop:=
 match s with
 | .p k off=>match look st.C k with
  | some (.box cs)=>match Nat.ble (Nat.add off i.size) cs.length with | true=>valOf i.agg (Cr8 cs off i.size) fun x=>K (.v x) | false=>False
  | _=>False
 | .oe k sz ix off=>match look st.C k with
  | some (.row _ sz' xs)=>match Nat.beq sz sz' with
   | true=>Ba7 i.sh fun l=>Ck3 xs ix off l∧valOf i.agg l fun x=>K (.v x)
   | false=>False
  | _=>False
 | .e s sz ix off=>Ba7 i.sh fun l=>Aa7 W s sz ix off l∧valOf i.agg l fun x=>K (.v x)
 | .pe k base sz len ix off=>match look st.C k with
  | some (.box cs)=>Ba7 i.sh fun l=>As9 cs (base+ix*sz+off) l∧valOf i.agg l fun x=>K (.v x)
  | _=>False
 | .v (.pointer r)=>Ba7 i.sh fun l=>Aa7 W ⟨r,1,1⟩ 1 0 0 l∧valOf i.agg l fun x=>K (.v x)
 | _=>False
def fieldAt (fs:List (TypeId×Nat)) (f:Nat) (K:TypeId→Nat→Prop):Prop:=match fs[f]? with | some (t,o)=>K t o | none=>False
def Fo7 (s:SV) (o:Nat) (K:SV→Prop):Prop:=
 match s with
 | .p k off=>K (.p k (Nat.add off o))
 | .oe k sz i off=>K (.oe k sz i (Nat.add off o))
 | .e s sz i off=>K (.e s sz i (Nat.add off o))
 | .pe k b sz l i off=>K (.pe k b sz l i (Nat.add off o))
 | _=>False
def Ft6 (s:SV) (sz len i:Nat) (K:SV→Prop):Prop:=
 match s with
 | .p k off=>K (.pe k off sz len i 0)
 | s=>Fo7 s (Nat.mul i sz) K
def Fo5 (i:TyI) (op:BinOp) (x y:Value) (K:SV→Prop):Prop:=
 match x,y with
 | .agg a,.agg b=>match i.eq,Ai7 i.sh a.toList,Ai7 i.sh b.toList with
  | true,true,true=>match op with
   | .eql=>K (.q (a.toList=b.toList) (Classical.propDecidable _))
   | .neq=>K (.q (a.toList≠b.toList) (Classical.propDecidable _))
   | _=>False
  | _,_,_=>False
 | _,_=>False
def Aj6:List Value→Nat→List Value→List Value
 | l,_,[]=>l
 | l,o,x :: r=>Aj6 (l.set o x) (Nat.succ o) r
def Bq2 (place:Nat→Option (Nat×Nat)):List (Nat×Operand)→List Value→(List Value→Prop)→Prop
 | [],cs,K=>K cs
 | (i,x) :: r,cs,K=>match place i with
  | some (off,size)=>evV st x fun v=>match Nat.beq (Ac7 v).length size,Nat.ble (Nat.add off size) cs.length with
   | true,true=>Bq2 place r (Aj6 cs off (Ac7 v)) K
   | _,_=>False
  | none=>False
def placeOf (i:TyI):Nat→Option (Nat×Nat):=fun f=>
 match i.und with
 | .struct fs=>match fs[f]? with
  | some (t,o)=>match look tt t with | some j=>some (o,j.size) | none=>none
  | none=>none
 | .arr _ e=>match look tt e with | some j=>some (Nat.mul f j.size,j.size) | none=>none
 | _=>none
def Fe5 (o:Option Operand) (d:Int) (K:Int→Prop):Prop:=match o with | some x=>evI st x fun _ n=>K n | none=>K d
def fl (W:PW) (op:Op) (K:SV→Prop):Prop:=
 match op with
 | .move x | .assign x=>ev st x K
 | .pick c a b=>ev st c fun s=>split s fun t=>match t with | true=>ev st a K | false=>ev st b K
 | .build t parts=>match look tt t with
  | some i=>match i.agg with
   | true=>Bq2 st (placeOf tt i) parts.toList i.zv.cells.toList fun cs=>K (.v (.agg cs.toArray))
   | false=>False
  | none=>False
 | .load t a=>match look tt t with
  | some i=>ev st a fun s=>Dx2 st i W s K
  | none=>False
 | .binOp op t x y _=>match look tt t with
  | some i=>match i.und with
   | .int _ | .str=>match Fs6 op y with
    | some n=>evV st x fun a=>shC op a n K
    | none=>evV st x fun a=>evV st y fun b=>bin op a b K
   | .bool=>evV st x fun a=>evV st y fun b=>Fk8 op a b K
   | .slice _=>evV st x fun a=>evV st y fun b=>match a,b with
    | .slice A n c,.slice none 0 0=>match op with
     | .eql=>K (.q (A=none) (inferInstance:Decidable (A=none)))
     | .neq=>K (.q (A≠none) (inferInstance:Decidable (A≠none)))
     | _=>False
    | _,_=>False
   | .arr _ _=>evV st x fun a=>evV st y fun b=>Fo5 i op a b K
   | .struct _=>evV st x fun a=>evV st y fun b=>Fo5 i op a b K
   | _=>False
  | none=>False
 | .unOp op _ x=>ev st x fun s=>match op,s with
  | .not,.q p d=>K (.q (¬p) (match d with | .isTrue h=>.isFalse (fun n=>n h) | .isFalse h=>.isTrue h))
  | .not,.b x=>K (.b (!x))
  | .not,.v (.bool x)=>K (.v (.bool (!x)))
  | .neg,.v (.int k n)=>arith k (0-n) K
  | _,_=>False
 | .convert u d x=>match look tt u with
  | some iu=>match look tt d with
   | some i=>evV st x fun v=>Fj4 tt iu i W v K
   | none=>False
  | none=>False
 | .fieldAddr t x f=>match look tt t with
  | some i=>match i.und with
   | .struct fs=>fieldAt fs f fun ft o=>match look tt ft with
    | some j=>match j.size with
     | 0=>False
     | _+1=>ev st x fun s=>Fo7 s o K
    | none=>False
   | _=>False
  | none=>False
 | .field t x f=>match look tt t with
  | some i=>match i.und with
   | .struct fs=>fieldAt fs f fun ft o=>match look tt ft with
    | some j=>evV st x fun v=>match v with
     | .agg cs=>match Nat.ble (Nat.add o j.size) cs.toList.length with | true=>valOf j.agg (Cr8 cs.toList o j.size) fun x=>K (.v x) | false=>False
     | _=>False
    | none=>False
   | _=>False
  | none=>False
 | .indexAddr t x ix=>match look tt t with
  | some i=>match i.und with
   | .slice e=>match look tt e with
    | some j=>ev st x fun s=>evI st ix fun _ n=>match s with
     | .o k=>match look st.C k with
      | some (.row _ sz xs)=>match Nat.beq sz j.size with | true=>(0≤n∧n<(xs.length:Int))∧K (.oe k sz n.toNat 0) | false=>False
      | some (.pub (.slice A m c))=>inB ⟨A,m,c⟩ n∧K (.e ⟨A,m,c⟩ j.size n.toNat 0)
      | _=>False
     | .v (.slice A m c)=>inB ⟨A,m,c⟩ n∧K (.e ⟨A,m,c⟩ j.size n.toNat 0)
     | _=>False
    | none=>False
   | .arr len e=>match look tt e with
    | some j=>match ix with
     | .tmp _=>ev st x fun s=>evI st ix fun _ n=>(0≤n∧n<(len:Int))∧Ft6 s j.size len n.toNat K
     | _=>ev st x fun s=>evI st ix fun _ n=>(0≤n∧n<(len:Int))∧Fo7 s (Nat.mul n.toNat j.size) K
    | none=>False
   | _=>False
  | none=>False
 | .index t x ix=>match look tt t with
  | some i=>match i.und with
   | .str=>evV st x fun v=>evI st ix fun _ n=>match v with
    | .string s=>(0≤n∧n<(s.size:Int))∧K (.v (.int .u8 (Ae2 s n.toNat)))
    | _=>False
   | .arr len e=>match look tt e with
    | some j=>evV st x fun v=>evI st ix fun _ n=>match v with
     | .agg cs=>(0≤n∧n<(len:Int))∧Ba7 j.sh fun l=>((cs.toList.drop (n.toNat*j.size)).take j.size=l)∧valOf j.agg l fun x=>K (.v x)
     | _=>False
    | none=>False
   | _=>False
  | none=>False
 | .slice t x lo hi mx=>match mx with
  | some _=>False
  | none=>match look tt t with
   | some i=>match i.und with
    | .str=>evV st x fun v=>match v with
     | .string s=>Fe5 st lo 0 fun l=>Fe5 st hi s.size fun h=>(0≤l∧l≤h∧h≤(s.size:Int))∧K (.v (.string (s.extract l.toNat h.toNat)))
     | _=>False
    | .slice e=>match look tt e with
     | some j=>evV st x fun v=>match v with
      | .slice A m c=>Fe5 st lo 0 fun l=>Fe5 st hi m fun h=>(0≤l∧l≤h∧h≤(c:Int))∧K (.v ((Sl.mk A m c).cut j.size l.toNat h.toNat).v)
      | _=>False
     | none=>False
    | .arr n e=>match lo,hi,look tt e with
     | none,none,some _=>ev st x fun s=>match s with
      | .p k 0=>K (.bs k n)
      | _=>False
     | _,_,_=>False
    | _=>False
   | none=>False
 | .extract x ix=>ev st x fun s=>match s with
  | .tb b l=>match ix with | 0=>K (.b b) | _+1=>False
  | s=>toV st s fun v=>match v with
   | .tuple vs=>match vs.toList[ix]? with | some y=>K (.v y) | none=>False
   | _=>False
 | .makeFunc (.func f) first captured=>Fo3 st first.toList fun l=>Fo3 st captured.toList fun m=>K (.v (.func (.func f) l.toArray m.toArray))
 | .call {callee:=.builtin b,args,argTypes }=>
  match b,args.toList,argTypes.toList with
  | .len,[x],[t]=>match look tt t with
   | some i=>match i.und with
    | .arr n _=>K (.v (.int .i64 (n:Int)))
    | .str=>evV st x fun v=>match v with | .string s=>K (.v (.int .i64 (s.size:Int))) | _=>False
    | .slice _=>ev st x fun s=>match s with
     | .o k=>match look st.C k with
      | some (.row _ _ xs)=>K (.v (.int .i64 (xs.length:Int)))
      | some (.pub (.slice _ n _))=>K (.v (.int .i64 (n:Int)))
      | _=>False
     | .v (.slice _ n _)=>K (.v (.int .i64 (n:Int)))
     | _=>False
    | _=>False
   | none=>False
  | .min,[x,y],_=>evI st x fun k a=>evI st y fun _ b=>K (.v (.int k (mn a b)))
  | .max,[x,y],_=>evI st x fun k a=>evI st y fun _ b=>K (.v (.int k (mx a b)))
  | _,_,_=>False
 | _=>False
end
end Go.SX
/- The symbolic evaluator: operations that only look and reckon are sound. -/
namespace Go.SX
def SV.val (β:Nat→Nat) (σ:Nat→Value):SV→Value
 | .v x=>x
 | .n=>.slice none 0 0
 | .b x=>.bool x
 | .q c d=>.bool (@decide c d)
 | .p k off=>.pointer (some ⟨β k,off,none⟩)
 | .o k=>σ k
 | .oe k sz i off=>match σ k with | .slice (some a) _ _=>.pointer (some (a.add (i*sz+off))) | _=>undef
 | .e s sz i off=>match s.A with | some a=>.pointer (some (a.add (i*sz+off))) | none=>undef
 | .pe k base sz _ i off=>.pointer (some ⟨β k,base+i*sz+off,none⟩)
 | .bs k len=>.slice (some ⟨β k,0,none⟩) len len
 | .tb tr l=>.tuple (Value.bool tr :: l).toArray
def Cm9 (β:Nat→Nat) (σ:Nat→Value) (W:PW) (k:Nat):Blk→Prop
 | .box cs=>(∃t,W.w.heap[β k]?=some (.cells cs.toArray t (0,0)))∧W.S (β k)
 | .row t sz xs=>Ai0 W.w t sz (σ k) xs∧∀g,(σ k).ownBlock=some g→W.S g
 | .pub x=>σ k=x
 | .pbx r=>r=some ⟨β k,0,none⟩
 | .dead=>True
 | .itr g _ _ since seen last cur=>W.w.heap[β k]?=some (.mapIter (some g) since (Ae4 seen cur) last)∧W.S (β k)
def Ab8 (β:Nat→Nat) (σ:Nat→Value) (k:Nat):Blk→Option Nat
 | .box _=>some (β k)
 | .row ..=>(σ k).ownBlock
 | .pub _=>none
 | .pbx _=>none
 | .dead=>none
 | .itr ..=>some (β k)
def Az7 (n:Nat) (β:Nat→Nat) (σ:Nat→Value):SV→Prop
 | .p k _=>k<n
 | .o k=>k<n
 | .oe k sz i off=>(∃ad,SV.val β σ (.oe k sz i off) = .pointer (some ad))∧k<n
 | .e s sz i off=>∃ad,SV.val β σ (.e s sz i off) = .pointer (some ad)
 | .pe k ..=>k<n
 | .bs k _=>k<n
 | _=>True
structure Rel (β:Nat→Nat) (σ:Nat→Value) (st:SS) (a:Act) (W:PW):Prop where
 defers:a.defers = []
 size:a.tmps.size=st.n
 T: ∀i s,look st.T i=some s→a.tmps.getD i undef=s.val β σ∧Az7 st.nx β σ s
 C: ∀k bl,look st.C k=some bl→Cm9 β σ W k bl
 inj: ∀k k' bl bl' g,k≠k'→look st.C k=some bl→look st.C k'=some bl'→Ab8 β σ k bl=some g→Ab8 β σ k' bl'=some g→False
 dom: ∀i s,look st.T i=some s→i<st.n
def Bo3 (st:SS) (W:PW) (Φ:(Nat→Nat)→(Nat→Value)→Act→PW→Prop):Prop:=∀β σ a Wa,Rel β σ st a Wa→Ext W Wa→Φ β σ a Wa
variable {P:Program} {tt:List (Nat×TyI)} {st:SS} {W:PW}
theorem Addr.add_add (a:Addr) (x y:Nat):(a.add x).add y=a.add (x+y):=by
 unfold Addr.add
 by_cases hx:x=0
 ·subst hx;simp
 ·by_cases hy:y=0
  ·subst hy;simp[hx]
  ·simp[hx,hy];omega
theorem Ac8 {x:Operand} {K:SV→Prop} (h:ev st x K): ∃s,K s∧Bo3 st W fun β σ a _=>a.eval x=s.val β σ∧Az7 st.nx β σ s:=by
 cases x with
 | tmp t=>
  simp only[ev] at h
  split at h
  ·rename_i s hs
   exact⟨s,h,fun β σ a Wa hR _=>hR.T _ _ hs⟩
  ·exact h.elim
 | const v=>
  simp only[ev] at h
  split at h
  ·exact⟨.n,h,fun _ _ _ _ _ _=>⟨rfl,trivial⟩⟩
  ·exact⟨.b _,h,fun _ _ _ _ _ _=>⟨rfl,trivial⟩⟩
  ·exact⟨.v v,h,fun _ _ _ _ _ _=>⟨rfl,trivial⟩⟩
 | func f=>exact⟨_,h,fun _ _ _ _ _ _=>⟨rfl,trivial⟩⟩
 | global g=>exact h.elim
theorem Av9 {s:SV} {K:Value→Prop} (h:toV st s K): ∃v,K v∧Bo3 st W fun β σ _ _=>s.val β σ=v:=by
 cases s with
 | v x=>exact⟨x,h,fun _ _ _ _ _ _=>rfl⟩
 | n=>exact⟨_,h,fun _ _ _ _ _ _=>rfl⟩
 | b x=>exact⟨_,h,fun _ _ _ _ _ _=>rfl⟩
 | q p d=>exact⟨_,h,fun _ _ _ _ _ _=>rfl⟩
 | o k=>
  simp only[toV] at h
  split at h
  ·rename_i x hx
   exact⟨x,h,fun β σ a Wa hR _=>hR.C _ _ hx⟩
  ·exact h.elim
 | p=>exact h.elim
 | oe=>exact h.elim
 | e=>exact h.elim
 | pe=>exact h.elim
 | bs=>exact h.elim
 | tb=>exact h.elim
theorem Ad5 {x:Operand} {K:Value→Prop} (h:evV st x K): ∃v,K v∧Bo3 st W fun _ _ a _=>a.eval x=v:=by
 obtain⟨s,hs,h1⟩:=Ac8 (W:=W) h
 obtain⟨v,hv,h2⟩:=Av9 (W:=W) hs
 exact⟨v,hv,fun β σ a Wa hR hE=>(h1 β σ a Wa hR hE).1.trans (h2 β σ a Wa hR hE)⟩
theorem Ag6 {x:Operand} {K:IntKind→Int→Prop} (h:evI st x K): ∃k n,K k n∧Bo3 st W fun _ _ a _=>a.eval x = .int k n:=by
 obtain⟨v,hv,h1⟩:=Ad5 (W:=W) h
 cases v<;>first | exact hv.elim | exact⟨_,_,hv,h1⟩
theorem Bh6: ∀{l:List Operand} {K:List Value→Prop} (_:Fo3 st l K),∃vs,K vs∧Bo3 st W fun _ _ a _=>l.map a.eval=vs
 | [],K,h=>⟨[],h,fun _ _ _ _ _ _=>rfl⟩
 | x :: r,K,h=>by
  obtain⟨v,hv,h1⟩:=Ad5 (W:=W) h
  obtain⟨vs,hvs,h2⟩:=Bh6 (l:=r) hv
  exact⟨v :: vs,hvs,fun β σ a Wa hR hE=>by simp[h1 β σ a Wa hR hE,h2 β σ a Wa hR hE]⟩
theorem As1 {o:Option Operand} {d:Int} {K:Int→Prop} (h:Fe5 st o d K): ∃n,K n∧((o=none∧n=d)∨∃x k,o=some x∧Bo3 st W fun _ _ a _=>a.eval x = .int k n):=by
 cases o with
 | none=>exact⟨d,h,.inl ⟨rfl,rfl⟩⟩
 | some x=>
  obtain⟨k,n,hk,h1⟩:=Ag6 (W:=W) h
  exact⟨n,hk,.inr ⟨x,k,rfl,h1⟩⟩
theorem As5 {s:SV} {K:Bool→Prop} (h:split s K): ∃t,K t∧∀β σ,s.val β σ = .bool t:=by
 cases s with
 | b x=>cases x<;>exact⟨_,h,fun _ _=>rfl⟩
 | q p d=>
  by_cases hp:p
  ·exact⟨true,h.1 hp,fun _ _=>by simp[SV.val,hp]⟩
  ·exact⟨false,h.2 hp,fun _ _=>by simp[SV.val,hp]⟩
 | v x=>
  cases x with
  | bool x=>
   cases x
   ·exact⟨false,h.2 rfl,fun _ _=>rfl⟩
   ·exact⟨true,h.1 rfl,fun _ _=>rfl⟩
  | _=>exact h.elim
 | _=>exact h.elim
/-! ### Types -/
theorem Ai6 {d : TypeDesc} {e : TypeId} (h : Au8 d = .slice e) : d = .slice e := by cases d <;> simp_all [Au8]
theorem Bq0 {d:TypeDesc} {n:Nat} {e:TypeId} (h:Au8 d = .arr n e):d = .array n e:=by cases d<;>simp_all [Au8]
theorem Dh4 {d:TypeDesc} {k:IntKind} (h:Au8 d = .int k):d = .int k:=by cases d<;>simp_all [Au8]
theorem Bv5 {d:TypeDesc} (h:Au8 d = .str):d = .string:=by cases d<;>simp_all [Au8]
theorem Fb8 {d:TypeDesc} (h:Au8 d = .bool):d = .bool:=by cases d<;>simp_all [Au8]
theorem Bg8 {d:TypeDesc} {fs:List (TypeId×Nat)} (h:Au8 d = .struct fs): ∃a,d = .struct a∧fs=a.toList.map fun f=>(f.type,f.offset):=by
 cases d<;>simp_all [Au8]
theorem Af4.isAgg {t:TypeId} {i:TyI} (h:Af4 P t i) (w:World):(isAgg t).run P w = .ok i.agg w:=by
 obtain⟨_,⟨d,hd,hu⟩,ha,_⟩:=h
 rw[ha,←hu]
 simp only[Go.isAgg,Sem.run_bind,run_underlying hd,Result.andThen_ok]
 cases d<;>rfl
theorem Af4.sizeOf {t:TypeId} {i:TyI} (h:Af4 P t i) (w:World):(sizeOf t).run P w = .ok i.size w:=by
 obtain⟨⟨inf,hi,hs,_⟩,_⟩:=h
 simp[Go.sizeOf,typeInfo,hi,hs]
theorem Af4.zero {t:TypeId} {i:TyI} (h:Af4 P t i) (w:World):(zeroValue t).run P w = .ok i.zv w:=by
 obtain⟨⟨inf,hi,_,_,hz⟩,_⟩:=h
 simp[zeroValue,typeInfo,hi,hz]
theorem Cv4 {s:Shp} {K:Value→Prop} (h:Fc5 s K): ∃v,K v∧v.oneCell'=true:=by
 cases s<;>obtain⟨x,hx⟩:=h<;>exact⟨_,hx,rfl⟩
theorem Ah7: ∀{l:List Shp} {K:List Value→Prop} (_:Ba7 l K),∃vs,K vs∧(∀v∈vs,v.oneCell'=true)∧vs.length=l.length
 | [],K,h=>⟨[],h,by simp,rfl⟩
 | s :: r,K,h=>by
  obtain⟨v,hv,h1⟩:=Cv4 h
  obtain⟨vs,hvs,h2,h3⟩:=Ah7 (l:=r) hv
  exact⟨v :: vs,hvs,by simp_all,by simp[h3]⟩
def mkV (agg:Bool) (l:List Value):Value:=match agg with | true=>.agg l.toArray | false=>l.headD undef
theorem Al6 {agg:Bool} {l:List Value} {K:Value→Prop} (h:valOf agg l K):K (mkV agg l)∧(agg=false→l.length=1):=by
 cases agg with
 | true=>exact⟨h,by simp⟩
 | false=>
  match l,h with
  | [x],h=>exact⟨h,fun _=>rfl⟩
  | [],h=>exact h.elim
  | _ :: _ :: _,h=>exact h.elim
/-! ### Loads -/
theorem Aj0 {t : TypeId} {i : TyI} (hG : Af4 P t i) (w : World) (a : Addr) (cs : List Value) (hl : cs.length = i.size) (h1 : i.agg = false → cs.length = 1)
    (h : ∀ j v, cs[j]? = some v → w.cell? (a.add j) = some v) : (loadVar t a).run P w = .ok (mkV i.agg cs) w := by
  simp only [loadVar, Sem.run_bind, hG.isAgg, Result.andThen_ok]
  cases ha : i.agg with
  | true =>
    simp only [if_true, Sem.run_bind, hG.sizeOf, Result.andThen_ok]
    rw [← hl, run_loadCells_list w a cs h]
    rfl
  | false =>
    have := h1 ha
    match cs, this with
    | [x], _ =>
      have := h 0 x rfl
      simp only [Addr.add_zero'] at this
      simp [this, mkV]
theorem Ai0.at_ {w:World} {t:TypeId} {sz:Nat} {v:Value} {xs:List (List Value)} (h:Ai0 w t sz v xs) {i:Nat} {x:List Value} (hi:xs[i]?=some x):
  ∃g c,v = .slice (some ⟨g,0,none⟩) xs.length c∧x.length=sz∧∀j u,x[j]?=some u→w.cell? ⟨g,i*sz+j,none⟩=some u:=by
 obtain⟨hl,ho⟩:=h
 have hlt:=(List.getElem?_eq_some_iff.1 hi).1
 rcases ho.2 with⟨_,h0⟩ | ⟨g,cap,cur,hv,_⟩
 ·omega
 ·refine⟨g,cap,hv,(hl x (List.mem_of_getElem? hi)).1,fun j u hu=>?_⟩
  have:=ho.cells (g:=g) (by rw[hv];rfl) (i*sz+j) u (Ao8 (fun x hx=>(hl x hx).1) hi hu)
  rwa [Addr.add_lit,Nat.zero_add] at this
theorem Aa7.cells {W Wa:PW} {s:Sl} {sz i off:Nat} {l:List Value} (h:Aa7 W s sz i off l) (hE:Ext W Wa):
  ∃a,s.A=some a∧∀j v,l[j]?=some v→Wa.w.cell? ((a.add (i*sz+off)).add j)=some v:=by
 obtain⟨b,o,cs,t',fz,hA,hS,hh,hc⟩:=h
 refine⟨_,hA,fun j v hj=>?_⟩
 have hk:=hE.Ai1 b (Array.getElem?_eq_some_iff.1 hh).1 hS
 rw[Addr.add_lit,Addr.add_lit,cell_of_row Wa.w b _ cs t' fz (hk.1.trans hh)]
 exact hc j v hj
theorem Cd5 {t:TypeId} {i:TyI} (hg:Af4 P t i) (hsh:i.sh.length=i.size) {s:SV} {K:SV→Prop} (h:Dx2 st i W s K):
  ∃v',K (.v v')∧Bo3 st W fun β σ a Wa=>(Instr.loadAt t (s.val β σ)).run P Wa.w = .ok v' Wa.w:=by
 cases s with
 | p k off=>
  simp only[Dx2] at h
  split at h
  ·rename_i cs hcs
   split at h
   ·rename_i hle
    have hle:off+i.size≤cs.length:=Nat.le_of_ble_eq_true hle
    obtain⟨hK,h1⟩:=Al6 h
    refine⟨_,hK,fun β σ a Wa hR hE=>?_⟩
    obtain⟨⟨ty,hh⟩,_⟩:=hR.C _ _ hcs
    have hlen:(Cr8 cs off i.size).length=i.size:=by simp[Cr8];omega
    simp only[Instr.loadAt,SV.val,Instr.sureAddr,Sem.run_bind,Sem.run_pure,Result.andThen_ok]
    refine Aj0 hg Wa.w _ _ hlen h1 fun j v hj=>?_
    rw[Addr.add_lit,cell_of_row Wa.w (β k) (off+j) cs.toArray ty (0,0) hh]
    simp only[Cr8,List.getElem?_take,List.getElem?_drop] at hj
    split at hj
    ·simpa using hj
    ·cases hj
   ·exact h.elim
  ·exact h.elim
 | pe k base sz len ix off=>
  simp only[Dx2] at h
  split at h
  ·rename_i cs hcs
   obtain⟨l,⟨⟨hle,hl⟩,h⟩,h1,h2⟩:=Ah7 h
   obtain⟨hK,h3⟩:=Al6 h
   refine⟨_,hK,fun β σ a Wa hR hE=>?_⟩
   obtain⟨⟨ty,hh⟩,_⟩:=hR.C _ _ hcs
   simp only[Instr.loadAt,SV.val,Instr.sureAddr,Sem.run_bind,Sem.run_pure,Result.andThen_ok]
   refine Aj0 hg Wa.w _ _ (h2.trans hsh) h3 fun j v hj=>?_
   rw[Addr.add_lit,cell_of_row Wa.w (β k) (base+ix*sz+off+j) cs.toArray ty (0,0) hh]
   rw[←hl] at hj
   simp only[Cr8,List.getElem?_take,List.getElem?_drop] at hj
   split at hj
   ·simpa using hj
   ·cases hj
  ·exact h.elim
 | oe k sz ix off=>
  simp only[Dx2] at h
  split at h
  ·rename_i t' sz' xs hcs
   split at h
   ·rename_i hb
    have hb:=Nat.eq_of_beq_eq_true hb
    subst hb
    obtain⟨l,⟨⟨cs,hix,hl⟩,h⟩,h1,h2⟩:=Ah7 h
    obtain⟨hK,h3⟩:=Al6 h
    refine⟨_,hK,fun β σ a Wa hR hE=>?_⟩
    obtain⟨hO,_⟩:=hR.C _ _ hcs
    obtain⟨g,c,hv,hlen,hc⟩:=hO.at_ hix
    simp only[SV.val,hv,Instr.loadAt,Instr.sureAddr,Sem.run_bind,Sem.run_pure,Result.andThen_ok]
    refine Aj0 hg Wa.w _ _ (h2.trans hsh) h3 fun j u hj=>?_
    rw[Addr.add_lit,Addr.add_lit,show 0+(ix*sz+off)+j=ix*sz+(off+j) by omega]
    refine hc _ _ ?_
    rw[←hl,List.getElem?_take,List.getElem?_drop] at hj
    split at hj
    ·exact hj
    ·cases hj
   ·exact h.elim
  ·exact h.elim
 | e s sz ix off=>
  obtain⟨l,⟨hEl,h⟩,h1,h2⟩:=Ah7 h
  obtain⟨hK,h3⟩:=Al6 h
  refine⟨_,hK,fun β σ a Wa hR hE=>?_⟩
  obtain⟨ad,hA,hc⟩:=hEl.cells hE
  simp only[SV.val,hA,Instr.loadAt,Instr.sureAddr,Sem.run_bind,Sem.run_pure,Result.andThen_ok]
  exact Aj0 hg Wa.w _ _ (h2.trans hsh) h3 hc
 | v x=>
  cases x with
  | pointer r=>
   obtain⟨l,⟨hEl,h⟩,h1,h2⟩:=Ah7 h
   obtain⟨hK,h3⟩:=Al6 h
   refine⟨_,hK,fun β σ a Wa hR hE=>?_⟩
   obtain⟨ad,hA,hc⟩:=hEl.cells hE
   have hA:r=some ad:=hA
   simp only[SV.val,hA,Instr.loadAt,Instr.sureAddr,Sem.run_bind,Sem.run_pure,Result.andThen_ok]
   exact Aj0 hg Wa.w _ _ (h2.trans hsh) h3 fun j v hj=>by simpa[Addr.add] using hc j v hj
  | _=>exact h.elim
 | _=>exact h.elim
end Go.SX
/- The symbolic evaluator: single operations. -/
namespace Go.SX
variable {P:Program} {tt:List (Nat×TyI)} {st:SS} {W:PW}
theorem Bu6 {k:IntKind} {z:Int} {K:SV→Prop} (h:arith k z K):K (.v (.int k (k.wrap z))):=by
 have h64: ∀z,I64 z→IntKind.wrap .i64 z=z:=by
  intro z hz
  unfold I64 at hz
  simp only[IntKind.wrap,IntKind.signed,IntKind.bits]
  simp
  omega
 cases k<;>first | exact h | (obtain⟨h1,h2⟩:=h;rw[h64 z h1];exact h2)
theorem wrap_i64 {z:Int} (hz:I64 z):IntKind.wrap .i64 z=z:=by
 unfold I64 at hz
 simp only[IntKind.wrap,IntKind.signed,IntKind.bits]
 simp
 omega
theorem Fe2 (a b:Int):(a == b)=decide (a=b):=by by_cases h:a=b<;>simp[h]
theorem Cy3 {op:BinOp} {k:IntKind} {a b:Int} {t:TypeId} {K:SV→Prop} (h:En4 op k a b K):
  ∃s,K s∧(∀n β σ,Az7 n β σ s)∧∀β σ w,(binOp op t (.int k a) (.int k b)).run P w = .ok (s.val β σ) w:=by
 cases op<;>simp only[En4] at h<;>first
  | exact h.elim
  | (refine⟨_,Bu6 h,fun _ _ _=>trivial,fun β σ w=>?_⟩;simp[binOp,Op.intArith,SV.val];done)
  | (refine⟨_,h.2,fun _ _ _=>trivial,fun β σ w=>?_⟩;simp[binOp,Op.intDiv,SV.val,h.1];done)
  | (refine⟨_,h,fun _ _ _=>trivial,fun β σ w=>?_⟩;simp[binOp,Op.intBits,SV.val,bits];done)
  | (refine⟨_,h,fun _ _ _=>trivial,fun β σ w=>?_⟩;simp[binOp,Op.intCmp,SV.val];done)
  | (refine⟨_,h,fun _ _ _=>trivial,fun β σ w=>?_⟩;simp[binOp,Op.intCmp,SV.val,Fe2,bne];done)
theorem Eg9 (a b:ByteArray):(a.toList == b.toList)=decide (a=b):=by
 have:a.toList=b.toList↔a=b:=by
  rw[ByteArray.toList_eq,ByteArray.toList_eq]
  constructor
  ·intro h
   cases a;cases b
   simp at h
   simp[h]
  ·rintro rfl;rfl
 by_cases h:a=b
 ·simp[h]
 ·have h':¬a.toList=b.toList:=fun e=>h (this.1 e)
  simp[h,h']
theorem Ei5 {op:BinOp} {x y:Value} {t:TypeId} {K:SV→Prop} (h:bin op x y K):
  ∃s,K s∧(∀n β σ,Az7 n β σ s)∧∀β σ w,(binOp op t x y).run P w = .ok (s.val β σ) w:=by
 unfold bin at h
 split at h
 ·rename_i k a k' b
  split at h
  ·refine⟨_,h.2,fun _ _ _=>trivial,fun β σ w=>?_⟩
   have hm:min b.toNat k.bits=b.toNat:=by have:=h.1;omega
   simp[binOp,Op.shift,SV.val,Bc5,show ¬b<0 by omega,hm]
  ·refine⟨_,h.2,fun _ _ _=>trivial,fun β σ w=>?_⟩
   have hm:min b.toNat k.bits=b.toNat:=by have:=h.1;omega
   simp[binOp,Op.shift,SV.val,Ah0,show ¬b<0 by omega,hm]
  ·split at h
   ·rename_i hk
    have hk:k=k':=of_decide_eq_true hk
    subst hk
    exact Cy3 h
   ·exact h.elim
 ·rename_i a b
  split at h
  ·exact⟨_,h,fun _ _ _=>trivial,fun β σ w=>by simp[binOp,Op.stringOp,SV.val,Eg9]⟩
  ·exact⟨_,h,fun _ _ _=>trivial,fun β σ w=>by simp[binOp,Op.stringOp,SV.val,Eg9]⟩
  ·refine⟨_,h.2,fun _ _ _=>trivial,fun β σ w=>?_⟩
   have:=h.1
   have hm:IntKind.max .i64=9223372036854775807:=by rfl
   simp[binOp,Op.stringOp,SV.val,hm,show ¬(9223372036854775807:Int)<(a.size:Int)+(b.size:Int) by omega]
  ·exact h.elim
 ·exact h.elim
theorem Ej3 {op:BinOp} {x:Value} {n:Int} {k':IntKind} {t:TypeId} {K:SV→Prop} (h:shC op x n K):
  ∃s,K s∧(∀n β σ,Az7 n β σ s)∧∀β σ w,(binOp op t x (.int k' n)).run P w = .ok (s.val β σ) w:=by
 unfold shC at h
 split at h
 ·rename_i k a
  split at h
  ·rename_i hb hd
   have hb:n.toNat≤k.bits:=Nat.le_of_ble_eq_true hb
   have hd:0≤n:=of_decide_eq_true hd
   refine⟨_,h,fun _ _ _=>trivial,fun β σ w=>?_⟩
   simp[binOp,Op.shift,SV.val,Bc5,show ¬n<0 by omega,show min n.toNat k.bits=n.toNat by omega]
  ·exact h.elim
 ·rename_i k a
  split at h
  ·rename_i hb hd
   have hb:n.toNat≤k.bits:=Nat.le_of_ble_eq_true hb
   have hd:0≤n:=of_decide_eq_true hd
   refine⟨_,h,fun _ _ _=>trivial,fun β σ w=>?_⟩
   simp[binOp,Op.shift,SV.val,Ah0,show ¬n<0 by omega,show min n.toNat k.bits=n.toNat by omega]
  ·exact h.elim
 ·exact h.elim
theorem Dl3 {op:BinOp} {t:TypeId} {x y:Operand} {a b:Value} (w:World) (ha: ∀cs,a≠.agg cs) (hi:a≠.nilIface):(eqGuard op t x y a b).run P w = .ok () w:=by
 unfold eqGuard
 cases op<;>simp<;>(cases a<;>simp_all)<;>(cases b<;>simp)
theorem Aq9 {t:TypeId} {x y:Value} {b:Bool} {w:World} (h: ∀d,(Op.equalIn (d+1) t x y).run P w = .ok b w):(Op.equal t x y).run P w = .ok b w:=h 9999
theorem Bl6 {t:TypeId} {a b:Bool} (hu:P.underlying t=some .bool) (w:World) (d:Nat):(Op.equalIn (d+1) t (.bool a) (.bool b)).run P w = .ok (decide (a=b)) w:=by
 rw[Op.equalIn,Sem.run_bind,run_underlying hu,Result.andThen_ok]
 cases a<;>cases b<;>rfl
theorem Dw0 {op:BinOp} {x y:Value} {t:TypeId} {K:SV→Prop} (hu:P.underlying t=some .bool) (h:Fk8 op x y K):
  ∃s,K s∧(∀n β σ,Az7 n β σ s)∧∀β σ w,(binOp op t x y).run P w = .ok (s.val β σ) w:=by
 unfold Fk8 at h
 split at h
 ·rename_i a b
  split at h
  ·refine⟨_,h,fun _ _ _=>trivial,fun β σ w=>?_⟩
   rw[binOp.eq_def]
   simp only[Sem.run_bind,Aq9 (Bl6 hu w),Result.andThen_ok,SV.val,Sem.run_pure]
  ·refine⟨_,h,fun _ _ _=>trivial,fun β σ w=>?_⟩
   rw[binOp.eq_def]
   simp only[Sem.run_bind,Aq9 (Bl6 hu w),Result.andThen_ok,SV.val,Sem.run_pure]
   cases a<;>cases b<;>rfl
  ·exact h.elim
 ·exact h.elim
theorem Br6 {t e:TypeId} {A:Option Addr} {n c m k:Nat} (hu:P.underlying t=some (.slice e)) (w:World) (d:Nat):(Op.equalIn (d+1) t (.slice A n c) (.slice none m k)).run P w = .ok (decide (A=none)) w:=by
 rw[Op.equalIn,Sem.run_bind,run_underlying hu,Result.andThen_ok]
 cases A<;>rfl
end Go.SX
/- The symbolic evaluator: fl is sound. -/
namespace Go.SX
variable {P:Program} {tt:List (Nat×TyI)} {st:SS} {W:PW}
def Bz4 (P:Program) (st:SS) (W:PW) (o:Oper) (K:SV→Prop):Prop:=
 ∃s,K s∧Bo3 st W fun β σ a Wa=>(execOp a.eval o).run P Wa.w = .ok (.value (s.val β σ)) Wa.w∧Az7 st.nx β σ s
theorem Ak7: ∀(r l:List Value) (o:Nat),(Aj6 l o r).length=l.length
 | [],l,o=>rfl
 | x :: r,l,o=>by rw[Aj6,Ak7 r];simp
theorem Do9 (vs:Array Value) (cs:Array Value) (off:Nat):
  (vs.zipIdx.foldl (fun cs (c,j)=>cs.setIfInBounds (off+j) c) cs).toList=Aj6 cs.toList off vs.toList:=by
 rw[←Array.foldl_toList]
 have: ∀(l:List Value) (k:Nat) (cs:Array Value),((l.zipIdx k).foldl (fun cs (c,j)=>cs.setIfInBounds (off+j) c) cs).toList=Aj6 cs.toList (off+k) l:=by
  intro l
  induction l with
  | nil=>intro k cs;rfl
  | cons x r ih=>
   intro k cs
   simp only[List.zipIdx_cons,List.foldl_cons,Aj6]
   rw[ih]
   simp[Nat.add_assoc]
 have h:=this vs.toList 0 cs
 simpa using h
theorem Av1 (v:Value):v.cells.toList=Ac7 v:=by cases v<;>rfl
theorem Bi2 (v:Value):v.cells.size=(Ac7 v).length:=by rw[←Av1];simp
theorem Ax4 {place place':Nat→Option (Nat×Nat)} (hp: ∀i x,place i=some x→place' i=some x):
  ∀{l:List (Nat×Operand)} {cs:List Value} {K:List Value→Prop} (_:Bq2 st place l cs K),
   ∃cs',K cs'∧Bo3 st W fun _ _ a _=>Instr.fill place' cs.toArray (l.map fun(i,x)=>(i,a.eval x))=some cs'.toArray
 | [],cs,K,h=>⟨cs,h,fun _ _ _ _ _ _=>rfl⟩
 | (i,x) :: r,cs,K,h=>by
  simp only[Bq2] at h
  split at h
  ·rename_i off size hpl
   obtain⟨v,hv,h1⟩:=Ad5 (W:=W) h
   split at hv
   ·rename_i hb1 hb2
    obtain⟨cs',hK,h2⟩:=Ax4 hp (l:=r) hv
    refine⟨cs',hK,fun β σ a Wa hR hE=>?_⟩
    have hv1:=h1 β σ a Wa hR hE
    have hs:=Nat.eq_of_beq_eq_true hb1
    have hle:off+size≤cs.length:=Nat.le_of_ble_eq_true hb2
    simp only[List.map_cons,Instr.fill,hp _ _ hpl,hv1]
    have hf:=Do9 v.cells cs.toArray off
    rw[Bi2,if_neg (by simp[hs];omega)]
    rw[Av1] at hf
    rw[←h2 β σ a Wa hR hE]
    congr 1
    apply Array.ext'
    simpa using hf
   ·exact hv.elim
  ·exact h.elim
theorem Cm3 {fs:List Field} {ts:List (TypeId×Nat)} (hts:ts=fs.map fun f=>(f.type,f.offset)) (w:World)
  (hs: ∀f∈fs,∃i:TyI,Af4 P f.type i):(fs.mapM fun f=>do pure (f.offset,←sizeOf f.type):Sem (List (Nat×Nat))).run P w = .ok (fs.map fun f=>(f.offset,P.cellsOf f.type)) w:=by
 induction fs generalizing ts with
 | nil=>rfl
 | cons f r ih=>
  obtain⟨i,hi⟩:=hs f (by simp)
  have:=ih rfl (fun f hf=>hs f (by simp[hf]))
  obtain⟨⟨inf,hinf,hsz,_⟩,_⟩:=id hi
  have hc:P.cellsOf f.type=i.size:=by simp[Program.cellsOf,hinf,hsz]
  simp only[List.mapM_cons,Sem.run_bind,hi.sizeOf,Result.andThen_ok,Sem.run_pure,this,List.map_cons,hc]
def Ae7 (tt:List (Nat×TyI)):Prop:=∀t i,look tt t=some i→(∀fs,i.und = .struct fs→∀f∈fs,∃j,look tt f.1=some j)∧(∀n e,i.und = .arr n e→∃j,look tt e=some j)
theorem Ba6 (hT:Ac6 P tt) (hF:Ae7 tt) {t:TypeId} {i:TyI} (hi:look tt t=some i) (hagg:i.agg=true) {parts:Array (Nat×Operand)} {K:List Value→Prop}
  (h:Bq2 st (placeOf tt i) parts.toList i.zv.cells.toList K):
  ∃cs,K cs∧Bo3 st W fun _ _ a Wa=>(Instr.build t (parts.map fun(i,x)=>(i,a.eval x))).run P Wa.w = .ok (.agg cs.toArray) Wa.w:=by
 have hg:=hT.Aq3 hi
 obtain⟨⟨inf,hinf,hsz,hby,hz⟩,⟨d,hd,hu⟩,ha,hzs,_⟩:=id hg
 have hza: ∀w,(zeroValue t).run P w = .ok i.zv w:=fun w=>hg.zero w
 rw[hagg] at ha
 cases hiu:i.und with
 | struct fs=>
  rw[hiu] at hu
  obtain⟨fa,rfl,hfs⟩:=Bg8 hu
  have hin: ∀f∈fa.toList,∃j:TyI,Af4 P f.type j:=by
   intro f hf
   obtain⟨j,hj⟩:=(hF t i hi).1 fs hiu (f.type,f.offset) (by rw[hfs];exact List.mem_map.2 ⟨f,hf,rfl⟩)
   exact⟨j,hT.Aq3 hj⟩
  have hm: ∀w,(fa.mapM fun f=>do pure (f.offset,←sizeOf f.type):Sem (Array (Nat×Nat))).run P w = .ok (fa.map fun f=>(f.offset,P.cellsOf f.type)) w:=by
   intro w
   rw[Array.mapM_eq_mapM_toList]
   simp only[Sem.run_map,Cm3 rfl w hin,Result.andThen_ok]
   congr 1
   apply Array.ext'
   simp
  have hp: ∀k x,placeOf tt i k=some x→(fa.map fun f=>(f.offset,P.cellsOf f.type))[k]?=some x:=by
   intro k x hk
   simp only[placeOf,hiu] at hk
   split at hk
   ·rename_i ft o hf
    split at hk
    ·rename_i j hj
     have hgj:=hT.Aq3 hj
     obtain⟨⟨inf',hinf',hsz',_⟩,_⟩:=hgj
     rw[hfs] at hf
     simp only[List.getElem?_map,Option.map_eq_some_iff] at hf
     obtain⟨f,hf1,hf2⟩:=hf
     simp only[Prod.mk.injEq] at hf2
     obtain⟨rfl,rfl⟩:=hf2
     have:fa[k]?=some f:=by simpa using hf1
     simp only[Option.some.injEq] at hk
     subst hk
     simp[this,Program.cellsOf,hinf',hsz']
    ·cases hk
   ·cases hk
  obtain⟨cs,hK,h1⟩:=Ax4 (W:=W) hp h
  refine⟨cs,hK,fun β σ a Wa hR hE=>?_⟩
  have hf:=h1 β σ a Wa hR hE
  simp only[Instr.build,Sem.run_bind,hza,Result.andThen_ok,run_underlying hd,hm]
  simp only[Array.toList_map] at hf⊢
  simp only[Array.toArray_toList] at hf
  rw[hf]
  rfl
 | arr n e=>
  rw[hiu] at hu
  obtain rfl:=Bq0 hu
  obtain⟨j,hle⟩:=(hF t i hi).2 n e hiu
  have hgj:=hT.Aq3 hle
  have hp: ∀k x,placeOf tt i k=some x→some (k*j.size,j.size)=some x:=by
   intro k x hk
   simpa[placeOf,hiu,hle] using hk
  obtain⟨cs,hK,h1⟩:=Ax4 (W:=W) (place':=fun k=>some (k*j.size,j.size)) hp h
  refine⟨cs,hK,fun β σ a Wa hR hE=>?_⟩
  have hf:=h1 β σ a Wa hR hE
  simp only[Instr.build,Sem.run_bind,hza,Result.andThen_ok,run_underlying hd,hgj.sizeOf]
  simp only[Array.toList_map] at hf⊢
  simp only[Array.toArray_toList] at hf
  rw[hf]
  rfl
 | _=>simp[hiu,Cr0] at ha
end Go.SX
/- The symbolic evaluator: fl is sound, operation by operation. -/
namespace Go.SX
variable {P:Program} {tt:List (Nat×TyI)} {st:SS} {W:PW}
theorem Bj1 {s:SV} {o:Nat} {K:SV→Prop} (h:Fo7 s o K): ∃s',K s'∧∀n β σ,Az7 n β σ s→∃ad,s.val β σ = .pointer (some ad)∧s'.val β σ = .pointer (some (ad.add o))∧Az7 n β σ s':=by
 cases s with
 | p k off=>exact⟨_,h,fun n β σ hn=>⟨_,rfl,by simp only[SV.val,Addr.add_lit];rfl,hn⟩⟩
 | oe k sz i off=>
  refine⟨_,h,fun n β σ ⟨⟨ad,hs⟩,hn⟩=>⟨ad,hs,?_⟩⟩
  have:SV.val β σ (.oe k sz i (off+o)) = .pointer (some (ad.add o)):=by
   simp only[SV.val] at hs⊢
   split at hs
   ·simp only[Value.pointer.injEq,Option.some.injEq] at hs
    subst hs
    simp[Addr.add_add,Nat.add_assoc]
   ·cases hs
  exact⟨this,⟨_,this⟩,hn⟩
 | e s sz i off=>
  refine⟨_,h,fun n β σ ⟨ad,hs⟩=>⟨ad,hs,?_⟩⟩
  have:SV.val β σ (.e s sz i (off+o)) = .pointer (some (ad.add o)):=by
   simp only[SV.val] at hs⊢
   split at hs
   ·simp only[Value.pointer.injEq,Option.some.injEq] at hs
    subst hs
    simp[Addr.add_add,Nat.add_assoc]
   ·cases hs
  exact⟨this,_,this⟩
 | pe k b sz l i off=>exact⟨_,h,fun n β σ hn=>⟨_,rfl,by simp only[SV.val,Addr.add_lit,Nat.add_assoc];rfl,hn⟩⟩
 | _=>exact h.elim
theorem Dx0 {s:SV} {sz len i:Nat} {K:SV→Prop} (h:Ft6 s sz len i K): ∃s',K s'∧∀n β σ,Az7 n β σ s→∃ad,s.val β σ = .pointer (some ad)∧s'.val β σ = .pointer (some (ad.add (i*sz)))∧Az7 n β σ s':=by
 cases s with
 | p k off=>exact⟨_,h,fun n β σ hn=>⟨_,rfl,by simp only[SV.val,Addr.add_lit,Nat.add_zero],hn⟩⟩
 | _=>exact Bj1 h
section
variable {o:Oper} {K:SV→Prop}
theorem Ee3 {x:Operand} (ho:o.op = .move x∨o.op = .assign x) (h:ev st x K):Bz4 P st W o K:=by
 obtain⟨s,hK,h1⟩:=Ac8 (W:=W) h
 refine⟨s,hK,fun β σ a Wa hR hE=>⟨?_,(h1 β σ a Wa hR hE).2⟩⟩
 rcases ho with ho | ho<;>simp[execOp,ho,(h1 β σ a Wa hR hE).1]
theorem Ff5 {c x y:Operand} (ho:o.op = .pick c x y) (h:ev st c fun s=>split s fun t=>match t with | true=>ev st x K | false=>ev st y K):Bz4 P st W o K:=by
 obtain⟨s,hs,h1⟩:=Ac8 (W:=W) h
 obtain⟨t,ht,h2⟩:=As5 hs
 cases t with
 | true=>
  obtain⟨s',hK,h3⟩:=Ac8 (W:=W) ht
  refine⟨s',hK,fun β σ a Wa hR hE=>⟨?_,(h3 β σ a Wa hR hE).2⟩⟩
  simp[execOp,ho,(h1 β σ a Wa hR hE).1,h2,asBool,(h3 β σ a Wa hR hE).1]
 | false=>
  obtain⟨s',hK,h3⟩:=Ac8 (W:=W) ht
  refine⟨s',hK,fun β σ a Wa hR hE=>⟨?_,(h3 β σ a Wa hR hE).2⟩⟩
  simp[execOp,ho,(h1 β σ a Wa hR hE).1,h2,asBool,(h3 β σ a Wa hR hE).1]
theorem Ez9 (hT:Ac6 P tt) (hF:Ae7 tt) {t:TypeId} {parts:Array (Nat×Operand)} (ho:o.op = .build t parts) (h:fl tt st W (.build t parts) K):Bz4 P st W o K:=by
 simp only[fl] at h
 split at h
 ·rename_i i hi
  split at h
  ·rename_i hagg
   obtain⟨cs,hK,h1⟩:=Ba6 (W:=W) hT hF hi hagg h
   exact⟨_,hK,fun β σ a Wa hR hE=>⟨by simp[execOp,ho,h1 β σ a Wa hR hE,SV.val],trivial⟩⟩
  ·exact h.elim
 ·exact h.elim
theorem Ff7 (hT:Ac6 P tt) {t:TypeId} {x:Operand} (ho:o.op = .load t x) (h:fl tt st W (.load t x) K):Bz4 P st W o K:=by
 simp only[fl] at h
 split at h
 ·rename_i i hi
  obtain⟨s,hs,h1⟩:=Ac8 (W:=W) h
  have hg:=hT.Aq3 hi
  obtain⟨v,hK,h2⟩:=Cd5 hg hg.2.2.2.2.1 hs
  exact⟨_,hK,fun β σ a Wa hR hE=>⟨by simp only[execOp,ho,(h1 β σ a Wa hR hE).1,h2 β σ a Wa hR hE,Sem.run_bind,Result.andThen_ok,Sem.run_pure];rfl,trivial⟩⟩
 ·exact h.elim
theorem Eu8 (hT:Ac6 P tt) {op:BinOp} {t u:TypeId} {x y:Operand} (ho:o.op = .binOp op t x y u) (h:fl tt st W (.binOp op t x y u) K):Bz4 P st W o K:=by
 simp only[fl] at h
 split at h
 ·rename_i i hi
  obtain⟨_,⟨d,hd,hu⟩,_⟩:=hT.Aq3 hi
  have fin: ∀{v v':Value},(∀cs,v≠.agg cs)→v≠.nilIface→(Bo3 st W fun _ _ a _=>a.eval x=v)→(Bo3 st W fun _ _ a _=>a.eval y=v')→
    (∃s,K s∧(∀n β σ,Az7 n β σ s)∧∀β σ w,(binOp op t v v').run P w = .ok (s.val β σ) w)→Bz4 P st W o K:=by
   intro v v' hv1 hv2 h1 h2 ⟨s,hK,hok,h3⟩
   refine⟨s,hK,fun β σ a Wa hR hE=>⟨?_,hok _ β σ⟩⟩
   simp only[execOp,ho,h1 β σ a Wa hR hE,h2 β σ a Wa hR hE,Sem.run_bind,Dl3 Wa.w hv1 hv2,Result.andThen_ok,h3 β σ,Sem.run_pure]
  have agg:(evV st x fun a=>evV st y fun b=>Fo5 i op a b K)→Bz4 P st W o K:=by
   intro h
   obtain⟨v,hv,h1⟩:=Ad5 (W:=W) h
   obtain⟨v',hv',h2⟩:=Ad5 (W:=W) hv
   unfold Fo5 at hv'
   split at hv'
   ·rename_i c e
    split at hv'
    ·rename_i he s1 s2
     have hq:=(hT.Aq3 hi).2.2.2.2.2 he
     have key: ∀w,(Op.equal t (.agg c) (.agg e)).run P w = .ok (@decide (c.toList=e.toList) (Classical.propDecidable _)) w∧∀op x y,(eqGuard op t x y (.agg c) (.agg e)).run P w = .ok () w:=fun w=>hq w _ _ s1 s2
     split at hv'
     ·refine⟨_,hv',fun β σ a Wa hR hE=>⟨?_,trivial⟩⟩
      simp only[execOp,ho,h1 β σ a Wa hR hE,h2 β σ a Wa hR hE,Sem.run_bind,(key Wa.w).2,Result.andThen_ok,Sem.run_pure]
      rw[binOp.eq_def]
      simp only[Sem.run_bind,(key Wa.w).1,Result.andThen_ok,SV.val,Sem.run_pure]
     ·refine⟨_,hv',fun β σ a Wa hR hE=>⟨?_,trivial⟩⟩
      simp only[execOp,ho,h1 β σ a Wa hR hE,h2 β σ a Wa hR hE,Sem.run_bind,(key Wa.w).2,Result.andThen_ok,Sem.run_pure]
      rw[binOp.eq_def]
      simp only[Sem.run_bind,(key Wa.w).1,Result.andThen_ok,SV.val,Sem.run_pure]
      by_cases e:c.toList=e.toList<;>simp[e]
     ·exact hv'.elim
    ·exact hv'.elim
   ·exact hv'.elim
  have hbin: ∀{v v':Value},bin op v v' K→(Bo3 st W fun _ _ a _=>a.eval x=v)→(Bo3 st W fun _ _ a _=>a.eval y=v')→Bz4 P st W o K:=by
   intro v v' hb h1 h2
   refine fin ?_ ?_ h1 h2 (Ei5 hb)
   ·rintro cs rfl;simp[bin] at hb
   ·rintro rfl;simp[bin] at hb
  have hint:(match Fs6 op y with | some n=>evV st x fun a=>shC op a n K | none=>evV st x fun a=>evV st y fun b=>bin op a b K)→Bz4 P st W o K:=by
   intro h
   split at h
   ·rename_i n hn
    obtain⟨v,hv,h1⟩:=Ad5 (W:=W) h
    have hy: ∃k',y = .const (.int k' n):=by
     unfold Fs6 at hn
     split at hn
     ·cases hn;exact⟨_,rfl⟩
     ·cases hn;exact⟨_,rfl⟩
     ·cases hn
    obtain⟨k',rfl⟩:=hy
    refine fin ?_ ?_ h1 (fun _ _ _ _ _ _=>rfl) (Ej3 hv)
    ·rintro cs rfl;cases op<;>simp[shC] at hv
    ·rintro rfl;cases op<;>simp[shC] at hv
   ·obtain⟨v,hv,h1⟩:=Ad5 (W:=W) h
    obtain⟨v',hv',h2⟩:=Ad5 (W:=W) hv
    exact hbin hv' h1 h2
  split at h
  ·exact hint h
  ·exact hint h
  ·rename_i hiu
   obtain⟨v,hv,h1⟩:=Ad5 (W:=W) h
   obtain⟨v',hv',h2⟩:=Ad5 (W:=W) hv
   refine fin ?_ ?_ h1 h2 (Dw0 (by rw[hd,Fb8 (hu.trans hiu)]) hv')
   ·rintro cs rfl;simp[Fk8] at hv'
   ·rintro rfl;simp[Fk8] at hv'
  ·rename_i e hiu
   obtain⟨v,hv,h1⟩:=Ad5 (W:=W) h
   obtain⟨v',hv',h2⟩:=Ad5 (W:=W) hv
   have hd':P.underlying t=some (.slice e):=by rw[hd,Ai6 (hu.trans hiu)]
   split at hv'
   ·rename_i A n c
    refine fin (by simp) (by simp) h1 h2 ?_
    split at hv'
    ·refine⟨_,hv',fun _ _ _=>trivial,fun β σ w=>?_⟩
     rw[binOp.eq_def]
     simp only[Sem.run_bind,Aq9 (Br6 hd' w),Result.andThen_ok,SV.val,Sem.run_pure]
    ·refine⟨_,hv',fun _ _ _=>trivial,fun β σ w=>?_⟩
     rw[binOp.eq_def]
     simp only[Sem.run_bind,Aq9 (Br6 hd' w),Result.andThen_ok,SV.val,Sem.run_pure]
     cases A<;>rfl
    ·exact hv'.elim
   ·exact hv'.elim
  ·exact agg h
  ·exact agg h
  ·exact h.elim
 ·exact h.elim
theorem Fe8 {op:UnOp} {t:TypeId} {x:Operand} (ho:o.op = .unOp op t x) (h:fl tt st W (.unOp op t x) K):Bz4 P st W o K:=by
 simp only[fl] at h
 obtain⟨s,hs,h1⟩:=Ac8 (W:=W) h
 split at hs
 ·rename_i c d
  refine⟨_,hs,fun β σ a Wa hR hE=>⟨?_,trivial⟩⟩
  simp only[execOp,ho,(h1 β σ a Wa hR hE).1,SV.val,Op.unary,Sem.run_bind,Sem.run_pure,Result.andThen_ok]
  cases d<;>rfl
 ·exact⟨_,hs,fun β σ a Wa hR hE=>⟨by simp[execOp,ho,(h1 β σ a Wa hR hE).1,SV.val,Op.unary],trivial⟩⟩
 ·exact⟨_,hs,fun β σ a Wa hR hE=>⟨by simp[execOp,ho,(h1 β σ a Wa hR hE).1,SV.val,Op.unary],trivial⟩⟩
 ·exact⟨_,Bu6 hs,fun β σ a Wa hR hE=>⟨by simp[execOp,ho,(h1 β σ a Wa hR hE).1,SV.val,Op.unary,Op.intArith],trivial⟩⟩
 ·exact hs.elim
theorem Cf6: ∀(xs:List Int),(xs.map fun b=>[Value.int .u8 b]).flatten=xs.map (Value.int .u8)
 | []=>rfl
 | x :: r=>by
  have:=Cf6 r
  simp only[List.map_cons,List.flatten_cons] at this⊢
  rw[this];rfl
theorem Dx3 (hT : Ac6 P tt) {u t : TypeId} {x : Operand} (ho : o.op = .convert u t x) (h : fl tt st W (.convert u t x) K) : Bz4 P st W o K := by
  simp only [fl] at h
  split at h
  rotate_left
  · exact h.elim
  rename_i j hj
  obtain ⟨_, ⟨e, he, hue⟩, _⟩ := hT.Aq3 hj
  split at h
  · rename_i i hi
    obtain ⟨_, ⟨d, hd, hu⟩, _⟩ := hT.Aq3 hi
    obtain ⟨v, hv, h1⟩ := Ad5 (W := W) h
    have hcv : ∀ (_ : conv i v K), Bz4 P st W o K := by
      clear hv
      intro hv
      unfold conv at hv
      split at hv
      · rename_i k n hiu
        obtain rfl := Dh4 (hu.trans hiu)
        refine ⟨_, hv.2, fun β σ a Wa hR hE => ⟨?_, trivial⟩⟩
        have := hv.1
        simp only [execOp, ho, (h1 β σ a Wa hR hE), SV.val, convert, run_underlying he, run_underlying hd, Sem.run_bind, Sem.run_pure, Result.andThen_ok]
        cases e <;> simp [Conv.intToInt, wrap_i64 this]
      · rename_i k k' n _ hiu
        obtain rfl := Dh4 (hu.trans hiu)
        refine ⟨_, hv, fun β σ a Wa hR hE => ⟨?_, trivial⟩⟩
        simp only [execOp, ho, (h1 β σ a Wa hR hE), SV.val, convert, run_underlying he, run_underlying hd, Sem.run_bind, Sem.run_pure, Result.andThen_ok]
        cases e <;> simp [Conv.intToInt]
      · rename_i s hiu
        obtain rfl := Bv5 (hu.trans hiu)
        refine ⟨_, hv, fun β σ a Wa hR hE => ⟨?_, trivial⟩⟩
        simp only [execOp, ho, (h1 β σ a Wa hR hE), SV.val, convert, run_underlying he, run_underlying hd, Sem.run_bind, Sem.run_pure, Result.andThen_ok]
      · exact hv.elim
    unfold Fj4 at hv
    split at hv
    · rename_i e2 A n c hj2 hi2
      obtain rfl := Ai6 (hue.trans hj2)
      obtain rfl := Bv5 (hu.trans hi2)
      split at hv
      rotate_left
      · exact hv.elim
      rename_i j2 hj3
      obtain ⟨_, ⟨d2, hd2, hu2⟩, _⟩ := hT.Aq3 hj3
      split at hv
      rotate_left
      · exact hv.elim
      rename_i hk
      obtain rfl := Dh4 (hu2.trans hk)
      obtain ⟨xs, hr, hK⟩ := hv
      refine ⟨_, hK, fun β σ a Wa hR hE => ⟨?_, trivial⟩⟩
      have hr' := hr.ext hE
      simp only [execOp, ho, (h1 β σ a Wa hR hE), SV.val, Sem.run_bind, Result.andThen_ok]
      have hc : (convert u t (.slice A n c)).run P Wa.w = .ok (.string (strOfNums xs)) Wa.w := by
        obtain ⟨r1, r2, r3, r4, r5⟩ := hr'
        rcases r5 with r5 | ⟨b, off, cs, fz, hA, hS, hh, hcs⟩
        · have hx : xs = [] := by simpa using r5
          subst hx
          have hn0 : n = 0 := by simpa using r1
          subst hn0
          cases A with
          | none => exact run_convert_bytes_nil Wa.w u e2 he hd2 0 c t hd
          | some ad => 
            rw [run_convert_bytes_string Wa.w u t e2 _ 0 c he hd2 hd, run_bytesToString Wa.w ad 0 c [] (by simp [loadCells, loadCellsFrom, Sem.run_pure])]
            rfl
        · have hA' : A = some ⟨b, off, none⟩ := hA
          subst hA'
          refine run_convert_bytes_arg Wa.w u e2 he hd2 b off n c xs (by simpa using r1.symm) (fun k hk => ?_) t hd
          have hkx : k < xs.length := by have : n = xs.length := by simpa using r1
                                         omega
          have hfl : (xs.map fun b => [Value.int .u8 b]).flatten[k]? = some (.int .u8 xs[k]) := by
            have : (xs.map fun b => [Value.int .u8 b]).flatten = xs.map (Value.int .u8) := Cf6 xs
            rw [this]
            simp [hkx]
          have := hcs _ _ hfl
          simp only [World.cell?, hh]
          rw [List.getD_eq_getElem?_getD, List.getElem?_eq_getElem hkx]
          simpa using this
      rw [hc]
      rfl
    · exact hcv hv
  · exact h.elim
theorem Be1 {fs:List (TypeId×Nat)} {f:Nat} {Kf:TypeId→Nat→Prop} (h:fieldAt fs f Kf): ∃t o,fs[f]?=some (t,o)∧Kf t o:=by
 unfold fieldAt at h
 split at h
 ·rename_i t o hf
  exact⟨t,o,hf,h⟩
 ·exact h.elim
theorem Bl9 {fa:Array Field} {f t o:Nat} (h:(fa.toList.map fun f=>(f.type,f.offset))[f]?=some (t,o)): ∃g:Field,fa[f]?=some g∧g.type=t∧g.offset=o:=by
 simp only[List.getElem?_map,Option.map_eq_some_iff] at h
 obtain⟨g,h1,h2⟩:=h
 simp only[Prod.mk.injEq] at h2
 exact⟨g,by simpa using h1,h2.1,h2.2⟩
theorem Cy2 (hT:Ac6 P tt) {t:TypeId} {x:Operand} {f:Nat} (ho:o.op = .fieldAddr t x f) (h:fl tt st W (.fieldAddr t x f) K):Bz4 P st W o K:=by
 simp only[fl] at h
 split at h
 ·rename_i i hi
  split at h
  ·rename_i fs hiu
   obtain⟨_,⟨d,hd,hu⟩,_⟩:=hT.Aq3 hi
   obtain⟨fa,rfl,rfl⟩:=Bg8 (hu.trans hiu)
   obtain⟨ft,off,hf,h⟩:=Be1 h
   obtain⟨g,hg,rfl,rfl⟩:=Bl9 hf
   split at h
   ·rename_i j hj
    have hgj:=hT.Aq3 hj
    split at h
    ·exact h.elim
    ·rename_i n hn
     obtain⟨s,hs,h1⟩:=Ac8 (W:=W) h
     obtain⟨s',hK,h2⟩:=Bj1 hs
     refine⟨s',hK,fun β σ a Wa hR hE=>?_⟩
     obtain⟨e1,e2⟩:=h1 β σ a Wa hR hE
     obtain⟨ad,e3,e4,e5⟩:=h2 _ β σ e2
     refine⟨?_,e5⟩
     rw[e4]
     simp[execOp,ho,e1,e3,Instr.fieldAt,run_underlying hd,hg,Instr.sureAddr,fieldPlace,hgj.sizeOf,hn]
   ·exact h.elim
  ·exact h.elim
 ·exact h.elim
theorem Do3 {t:TypeId} {i:TyI} (hG:Af4 P t i) (w:World) (cs:Array Value) (off:Nat) (hle:off+i.size≤cs.toList.length) (h1:i.agg=false→(Cr8 cs.toList off i.size).length=1):
  (part t cs off).run P w = .ok (mkV i.agg (Cr8 cs.toList off i.size)) w:=by
 simp only[part,Sem.run_bind,hG.isAgg,Result.andThen_ok]
 cases ha:i.agg with
 | true=>
  simp only[if_true,Sem.run_bind,hG.sizeOf,Result.andThen_ok,Sem.run_pure,mkV]
  congr 2
  apply Array.ext'
  simp[Cr8,List.take_drop,List.extract_eq_take_drop]
 | false=>
  have hl:=h1 ha
  have hlen:cs.toList.length=cs.size:=by simp
  simp only[Cr8,List.length_take,List.length_drop] at hl
  have hlt:off<cs.size:=by omega
  simp only[mkV,Bool.false_eq_true,if_false]
  rw[Array.getElem?_eq_getElem hlt]
  simp only[Sem.run_pure]
  have hd:cs.toList.drop off=cs[off] :: cs.toList.drop (off+1):=by
   rw[List.drop_eq_getElem_cons (by simpa using hlt)]
   simp
  have hi: ∃m,i.size=m+1:=⟨i.size-1,by omega⟩
  obtain⟨m,hm⟩:=hi
  simp[Cr8,hd,hm]
theorem Ex4 (hT:Ac6 P tt) {t:TypeId} {x:Operand} {f:Nat} (ho:o.op = .field t x f) (h:fl tt st W (.field t x f) K):Bz4 P st W o K:=by
 simp only[fl] at h
 split at h
 ·rename_i i hi
  split at h
  ·rename_i fs hiu
   obtain⟨_,⟨d,hd,hu⟩,_⟩:=hT.Aq3 hi
   obtain⟨fa,rfl,rfl⟩:=Bg8 (hu.trans hiu)
   obtain⟨ft,off,hf,h⟩:=Be1 h
   obtain⟨g,hg,rfl,rfl⟩:=Bl9 hf
   split at h
   ·rename_i j hj
    have hgj:=hT.Aq3 hj
    obtain⟨v,hv,h1⟩:=Ad5 (W:=W) h
    split at hv
    ·rename_i cs
     split at hv
     ·rename_i hle
      have hle:g.offset+j.size≤cs.toList.length:=Nat.le_of_ble_eq_true hle
      obtain⟨hK,h2⟩:=Al6 hv
      refine⟨_,hK,fun β σ a Wa hR hE=>⟨?_,trivial⟩⟩
      simp[execOp,ho,h1 β σ a Wa hR hE,Instr.field,run_underlying hd,hg,asAgg,Do3 hgj Wa.w cs _ hle h2,SV.val]
     ·exact hv.elim
    ·exact hv.elim
   ·exact h.elim
  ·exact h.elim
 ·exact h.elim
theorem Ea7 {x:Operand} {ix:Nat} (ho:o.op = .extract x ix) (h:fl tt st W (.extract x ix) K):Bz4 P st W o K:=by
 simp only[fl] at h
 obtain⟨s,hs,h0⟩:=Ac8 (W:=W) h
 split at hs
 ·rename_i b l
  split at hs
  ·refine⟨_,hs,fun β σ a Wa hR hE=>⟨?_,trivial⟩⟩
   simp[execOp,ho,(h0 β σ a Wa hR hE).1,Instr.extract,SV.val]
  ·exact hs.elim
 ·obtain⟨v,hv,h2⟩:=Av9 (W:=W) hs
  have h1:Bo3 st W fun _ _ a _=>a.eval x=v:=fun β σ a Wa hR hE=>(h0 β σ a Wa hR hE).1.trans (h2 β σ a Wa hR hE)
  split at hv
  ·rename_i vs
   split at hv
   ·rename_i y hy
    refine⟨_,hv,fun β σ a Wa hR hE=>⟨?_,trivial⟩⟩
    have hy':vs[ix]?=some y:=by simpa using hy
    simp[execOp,ho,h1 β σ a Wa hR hE,Instr.extract,hy',SV.val]
   ·exact hv.elim
  ·exact hv.elim
end
end Go.SX
/- The symbolic evaluator: fl is sound: indices, slices, calls of len, min, max; all together. -/
namespace Go.SX
variable {P:Program} {tt:List (Nat×TyI)} {st:SS} {W:PW}
section
variable {o:Oper} {K:SV→Prop}
theorem Be0 {t e:TypeId} {j:TyI} (hu:P.underlying t=some (.slice e)) (hG:Af4 P e j) {A:Option Addr} {m c:Nat} {k:IntKind} {n:Int} (h:inB ⟨A,m,c⟩ n) (w:World):
  ∃ad,A=some ad∧(Instr.indexAt t (.slice A m c) (.int k n)).run P w = .ok (.pointer (some (ad.add (n.toNat*j.size)))) w:=by
 obtain⟨h0,h1,h2⟩:=h
 obtain⟨ad,rfl⟩:=Option.isSome_iff_exists.1 h2
 exact⟨ad,rfl,by simp[Instr.indexAt,run_underlying hu,asIntOf,h0,h1,hG.sizeOf]⟩
theorem Cx3 (hT:Ac6 P tt) {t:TypeId} {x ix:Operand} (ho:o.op = .indexAddr t x ix) (h:fl tt st W (.indexAddr t x ix) K):Bz4 P st W o K:=by
 simp only[fl] at h
 split at h
 ·rename_i i hi
  obtain⟨_,⟨d,hd,hu⟩,_⟩:=hT.Aq3 hi
  split at h
  ·rename_i e hiu
   obtain rfl:=Ai6 (hu.trans hiu)
   split at h
   ·rename_i j hj
    have hgj:=hT.Aq3 hj
    obtain⟨s,hs,h1⟩:=Ac8 (W:=W) h
    obtain⟨k,n,hn,h2⟩:=Ag6 (W:=W) hs
    have pub: ∀{A m c},(Bo3 st W fun _ _ a _=>a.eval x = .slice A m c)→inB ⟨A,m,c⟩ n→K (.e ⟨A,m,c⟩ j.size n.toNat 0)→Bz4 P st W o K:=by
     intro A m c hx hb hK
     refine⟨_,hK,fun β σ a Wa hR hE=>?_⟩
     obtain⟨ad,rfl,hr⟩:=Be0 (k:=k) hd hgj hb Wa.w
     have hv:SV.val β σ (.e ⟨some ad,m,c⟩ j.size n.toNat 0) = .pointer (some (ad.add (n.toNat*j.size))):=by simp[SV.val]
     refine⟨?_,_,hv⟩
     rw[hv]
     simp[execOp,ho,hx β σ a Wa hR hE,h2 β σ a Wa hR hE,hr]
    split at hn
    ·rename_i k'
     split at hn
     ·rename_i t' sz xs hC
      split at hn
      ·rename_i hb
       have hb:=Nat.eq_of_beq_eq_true hb
       subst hb
       refine⟨_,hn.2,fun β σ a Wa hR hE=>?_⟩
       obtain⟨hO,_⟩:=hR.C _ _ hC
       have hlt:n.toNat<xs.length:=by omega
       obtain⟨g,c,hv,_⟩:=hO.at_ (List.getElem?_eq_getElem hlt)
       have hv2:SV.val β σ (.oe k' j.size n.toNat 0) = .pointer (some (Addr.add ⟨g,0,none⟩ (n.toNat*j.size))):=by simp[SV.val,hv]
       refine⟨?_,⟨_,hv2⟩,(h1 β σ a Wa hR hE).2⟩
       rw[hv2]
       obtain⟨ad,had,hr⟩:=Be0 (k:=k) hd hgj (A:=some ⟨g,0,none⟩) (m:=xs.length) (c:=c) (n:=n) ⟨hn.1.1,hn.1.2,rfl⟩ Wa.w
       obtain rfl:=Option.some.inj had
       have he:=(h1 β σ a Wa hR hE).1
       simp only[SV.val,hv] at he
       simp[execOp,ho,he,h2 β σ a Wa hR hE,hr]
      ·exact hn.elim
     ·rename_i A m c hC
      refine pub (fun β σ a Wa hR hE=>?_) hn.1 hn.2
      have:=hR.C _ _ hC
      show a.eval x=_
      rw[(h1 β σ a Wa hR hE).1]
      exact this
     ·exact hn.elim
    ·exact pub (fun β σ a Wa hR hE=>(h1 β σ a Wa hR hE).1) hn.1 hn.2
    ·exact hn.elim
   ·exact h.elim
  ·rename_i len e hiu
   obtain rfl:=Bq0 (hu.trans hiu)
   split at h
   ·rename_i j hj
    have hgj:=hT.Aq3 hj
    split at h
    ·obtain⟨s,hs,h1⟩:=Ac8 (W:=W) h
     obtain⟨k,n,hn,h2⟩:=Ag6 (W:=W) hs
     obtain⟨s',hK,h3⟩:=Dx0 hn.2
     refine⟨s',hK,fun β σ a Wa hR hE=>?_⟩
     obtain⟨e1,e2⟩:=h1 β σ a Wa hR hE
     obtain⟨ad,e3,e4,e5⟩:=h3 _ β σ e2
     refine⟨?_,e5⟩
     rw[e4]
     have hb:=hn.1
     have h2':=h2 β σ a Wa hR hE
     simp[execOp,ho,e1,e3,h2',Instr.indexAt,run_underlying hd,asIntOf,Instr.sureAddr,hgj.sizeOf,hb.1,hb.2]
    ·obtain⟨s,hs,h1⟩:=Ac8 (W:=W) h
     obtain⟨k,n,hn,h2⟩:=Ag6 (W:=W) hs
     obtain⟨s',hK,h3⟩:=Bj1 hn.2
     refine⟨s',hK,fun β σ a Wa hR hE=>?_⟩
     obtain⟨e1,e2⟩:=h1 β σ a Wa hR hE
     obtain⟨ad,e3,e4,e5⟩:=h3 _ β σ e2
     refine⟨?_,e5⟩
     rw[e4]
     have hb:=hn.1
     simp[execOp,ho,e1,e3,h2 β σ a Wa hR hE,Instr.indexAt,run_underlying hd,asIntOf,Instr.sureAddr,hgj.sizeOf,hb.1,hb.2]
   ·exact h.elim
  ·exact h.elim
 ·exact h.elim
theorem Et9 (hT:Ac6 P tt) {t:TypeId} {x ix:Operand} (ho:o.op = .index t x ix) (h:fl tt st W (.index t x ix) K):Bz4 P st W o K:=by
 simp only[fl] at h
 split at h
 ·rename_i i hi
  obtain⟨_,⟨d,hd,hu⟩,_⟩:=hT.Aq3 hi
  split at h
  ·rename_i hiu
   obtain rfl:=Bv5 (hu.trans hiu)
   obtain⟨v,hv,h1⟩:=Ad5 (W:=W) h
   obtain⟨k,n,hn,h2⟩:=Ag6 (W:=W) hv
   split at hn
   ·rename_i s
    obtain⟨hb,hK⟩:=hn
    refine⟨_,hK,fun β σ a Wa hR hE=>⟨?_,trivial⟩⟩
    have hlt:n.toNat<s.size:=by omega
    have hs:s[n.toNat]?=some (s[n.toNat]'hlt):=by simp[hlt]
    have hsb:Ae2 s n.toNat=((s[n.toNat]'hlt).toNat:Int):=by simp[Ae2,hlt]
    simp[execOp,ho,h1 β σ a Wa hR hE,h2 β σ a Wa hR hE,Instr.index,run_underlying hd,asIntOf,hb.1,hs,SV.val,hsb]
   ·exact hn.elim
  ·rename_i len e hiu
   obtain rfl:=Bq0 (hu.trans hiu)
   split at h
   ·rename_i j hj
    have hgj:=hT.Aq3 hj
    obtain⟨v,hv,h1⟩:=Ad5 (W:=W) h
    obtain⟨k,n,hn,h2⟩:=Ag6 (W:=W) hv
    split at hn
    ·rename_i cs
     obtain⟨hb,hn⟩:=hn
     obtain⟨l,⟨hl,hn⟩,_,hlen⟩:=Ah7 hn
     obtain⟨hK,h3⟩:=Al6 hn
     refine⟨_,hK,fun β σ a Wa hR hE=>⟨?_,trivial⟩⟩
     have hsz:l.length=j.size:=hlen.trans hgj.2.2.2.2.1
     have hl':Cr8 cs.toList (n.toNat*j.size) j.size=l:=hl
     have hle:n.toNat*j.size+j.size≤cs.toList.length∨j.size=0:=by
      rcases Nat.eq_zero_or_pos j.size with h0 | h0
      ·exact .inr h0
      ·left
       have:(Cr8 cs.toList (n.toNat*j.size) j.size).length=j.size:=by rw[hl',hsz]
       simp only[Cr8,List.length_take,List.length_drop] at this
       omega
     rcases hle with hle | h0
     ·have hp:=Do3 hgj Wa.w cs (n.toNat*j.size) hle (fun ha=>by rw[hl'];exact h3 ha)
      rw[hl'] at hp
      simp[execOp,ho,h1 β σ a Wa hR hE,h2 β σ a Wa hR hE,Instr.index,run_underlying hd,asIntOf,hb.1,hb.2,hgj.sizeOf,hp,SV.val]
     ·have hl0:l = []:=List.eq_nil_of_length_eq_zero (by omega)
      have hag:j.agg=true:=by
       cases ha:j.agg with
       | true=>rfl
       | false=>have:=h3 ha;simp[hl0] at this
      subst hl0
      have hp:(part e cs (n.toNat*j.size)).run P Wa.w = .ok (mkV j.agg []) Wa.w:=by
       simp only[part,Sem.run_bind,hgj.isAgg,Result.andThen_ok,hag,if_true,hgj.sizeOf,Sem.run_pure,mkV,h0]
       congr 2
       apply Array.ext'
       simp
      simp[execOp,ho,h1 β σ a Wa hR hE,h2 β σ a Wa hR hE,Instr.index,run_underlying hd,asIntOf,hb.1,hb.2,hgj.sizeOf,hp,SV.val]
    ·exact hn.elim
   ·exact h.elim
  ·exact h.elim
 ·exact h.elim
theorem Ax7 {isSlice:Bool} {len cap:Nat} {lo hi:Option Value} {l h:Int} (hl:(lo=none∧l=0)∨∃k,lo=some (.int k l)) (hh:(hi=none∧h=len)∨∃k,hi=some (.int k h))
  (h0:0≤l) (h1:l≤h) (h2:h≤(cap:Int)) (w:World):(Instr.sliceBounds isSlice len cap lo hi none).run P w = .ok (l.toNat,h.toNat,cap) w:=by
 have hnn:0≤h:=Int.le_trans h0 h1
 have hln:l≤(h.toNat:Int):=by omega
 rcases hl with⟨rfl,rfl⟩ | ⟨k,rfl⟩<;>rcases hh with⟨rfl,rfl⟩ | ⟨k',rfl⟩<;>
  simp[Instr.sliceBounds,Instr.sliceBound,asIntOf,h0,h1,h2,hnn]<;>(try (intro hc;exact absurd hc (by omega)))
theorem Ez6 (hT:Ac6 P tt) {t:TypeId} {x:Operand} {lo hi:Option Operand} (ho:o.op = .slice t x lo hi none) (h:fl tt st W (.slice t x lo hi none) K):Bz4 P st W o K:=by
 simp only[fl] at h
 have hopt: ∀{p:Option Operand} {d n:Int},((p=none∧n=d)∨∃x k,p=some x∧Bo3 st W fun _ _ a _=>a.eval x = .int k n)→Bo3 st W fun _ _ a _=>((p.map a.eval=none∧n=d)∨∃k,p.map a.eval=some (.int k n)):=by
  intro p d n hp β σ a Wa hR hE
  rcases hp with⟨rfl,rfl⟩ | ⟨x,k,rfl,hx⟩
  ·exact .inl ⟨rfl,rfl⟩
  ·exact .inr ⟨k,by simp[hx β σ a Wa hR hE]⟩
 split at h
 ·rename_i i hi
  obtain⟨_,⟨d,hd,hu⟩,_⟩:=hT.Aq3 hi
  split at h
  ·rename_i hiu
   obtain rfl:=Bv5 (hu.trans hiu)
   obtain⟨v,hv,h1⟩:=Ad5 (W:=W) h
   split at hv
   ·rename_i s
    obtain⟨l,hl,h2⟩:=As1 (W:=W) hv
    obtain⟨hh,hb,h3⟩:=As1 (W:=W) hl
    refine⟨_,hb.2,fun β σ a Wa hR hE=>⟨?_,trivial⟩⟩
    have:=Ax7 (P:=P) (isSlice:=false) (len:=s.size) (cap:=s.size) (hopt h2 β σ a Wa hR hE) (hopt h3 β σ a Wa hR hE) hb.1.1 hb.1.2.1 hb.1.2.2 Wa.w
    simp[execOp,ho,h1 β σ a Wa hR hE,Instr.sliceAt,Instr.slice,run_underlying hd,this,SV.val]
   ·exact hv.elim
  ·rename_i e hiu
   obtain rfl:=Ai6 (hu.trans hiu)
   split at h
   ·rename_i j hj
    have hgj:=hT.Aq3 hj
    obtain⟨v,hv,h1⟩:=Ad5 (W:=W) h
    split at hv
    ·rename_i A m c
     obtain⟨l,hl,h2⟩:=As1 (W:=W) hv
     obtain⟨hh,hb,h3⟩:=As1 (W:=W) hl
     refine⟨_,hb.2,fun β σ a Wa hR hE=>⟨?_,trivial⟩⟩
     have:=Ax7 (P:=P) (isSlice:=true) (len:=m) (cap:=c) (hopt h2 β σ a Wa hR hE) (hopt h3 β σ a Wa hR hE) hb.1.1 hb.1.2.1 hb.1.2.2 Wa.w
     simp[execOp,ho,h1 β σ a Wa hR hE,Instr.sliceAt,Instr.slice,run_underlying hd,this,SV.val,hgj.sizeOf,Sl.cut]
    ·exact hv.elim
   ·exact h.elim
  ·rename_i n e hiu
   obtain rfl:=Bq0 (hu.trans hiu)
   split at h
   ·rename_i j hj
    obtain⟨s,hs,h1⟩:=Ac8 (W:=W) h
    split at hs
    ·rename_i k
     refine⟨_,hs,fun β σ a Wa hR hE=>?_⟩
     obtain⟨e1,e2⟩:=h1 β σ a Wa hR hE
     refine⟨?_,e2⟩
     have hsz:=(hT.Aq3 hj).sizeOf Wa.w
     have:=Ax7 (P:=P) (isSlice:=false) (len:=n) (cap:=n) (lo:=none) (hi:=none) (h:=n) (.inl ⟨rfl,rfl⟩) (.inl ⟨rfl,rfl⟩) (Int.le_refl 0) (by omega) (by omega) Wa.w
     simp[execOp,ho,e1,Instr.sliceAt,Instr.sureAddr,run_underlying hd,this,SV.val,hsz,Addr.add]
    ·exact hs.elim
   ·exact h.elim
  ·exact h.elim
 ·exact h.elim
theorem Dg5 {f:FuncId} {first captured:Array Operand} (ho:o.op = .makeFunc (.func f) first captured) (h:fl tt st W (.makeFunc (.func f) first captured) K):Bz4 P st W o K:=by
 simp only[fl] at h
 obtain⟨l,hl,h1⟩:=Bh6 (W:=W) h
 obtain⟨m,hm,h2⟩:=Bh6 (W:=W) hl
 refine⟨_,hm,fun β σ a Wa hR hE=>⟨?_,trivial⟩⟩
 have e1:first.map a.eval=l.toArray:=by apply Array.ext';simpa using h1 β σ a Wa hR hE
 have e2:captured.map a.eval=m.toArray:=by apply Array.ext';simpa using h2 β σ a Wa hR hE
 simp[execOp,ho,Instr.makeFunc,SV.val,e1,e2]
theorem Ea2 (hT:Ac6 P tt) {b:Builtin} {args:Array Operand} {tys:Array TypeId} (ho:o.op = .call {callee:=.builtin b,args:=args,argTypes:=tys }) (h:fl tt st W (.call {callee:=.builtin b,args:=args,argTypes:=tys }) K):Bz4 P st W o K:=by
 simp only[fl] at h
 split at h
 ·rename_i x t hargs htys
  have hargs:args = #[x]:=by apply Array.ext';simpa using hargs
  have htys:tys = #[t]:=by apply Array.ext';simpa using htys
  subst hargs;subst htys
  split at h
  ·rename_i i hi
   obtain⟨_,⟨d,hd,hu⟩,_⟩:=hT.Aq3 hi
   split at h
   ·rename_i n e hiu
    obtain rfl:=Bq0 (hu.trans hiu)
    refine⟨_,h,fun β σ a Wa hR hE=>⟨?_,trivial⟩⟩
    simp[execOp,ho,resolve,invoke,builtin,Builtin.len_,run_underlying hd,SV.val,goInt]
   ·rename_i hiu
    obtain rfl:=Bv5 (hu.trans hiu)
    obtain⟨v,hv,h1⟩:=Ad5 (W:=W) h
    split at hv
    ·refine⟨_,hv,fun β σ a Wa hR hE=>⟨?_,trivial⟩⟩
     simp[execOp,ho,resolve,invoke,builtin,Builtin.len_,run_underlying hd,SV.val,goInt,h1 β σ a Wa hR hE]
    ·exact hv.elim
   ·rename_i e hiu
    obtain rfl:=Ai6 (hu.trans hiu)
    obtain⟨s,hs,h1⟩:=Ac8 (W:=W) h
    split at hs
    ·rename_i k
     split at hs
     ·rename_i t' sz xs hC
      refine⟨_,hs,fun β σ a Wa hR hE=>⟨?_,trivial⟩⟩
      obtain⟨⟨hl,ho1⟩,_⟩:=hR.C _ _ hC
      have he:=(h1 β σ a Wa hR hE).1
      simp only[SV.val] at he
      rcases ho1.2 with⟨hv,h0⟩ | ⟨g,cap,cur,hv,_⟩
      ·simp[execOp,ho,resolve,invoke,builtin,Builtin.len_,run_underlying hd,SV.val,goInt,he,hv,h0]
      ·simp[execOp,ho,resolve,invoke,builtin,Builtin.len_,run_underlying hd,SV.val,goInt,he,hv]
     ·rename_i A n c hC
      refine⟨_,hs,fun β σ a Wa hR hE=>⟨?_,trivial⟩⟩
      have he:=(h1 β σ a Wa hR hE).1
      have hC:=hR.C _ _ hC
      simp only[Cm9] at hC
      simp only[SV.val,hC] at he
      simp[execOp,ho,resolve,invoke,builtin,Builtin.len_,run_underlying hd,SV.val,goInt,he]
     ·exact hs.elim
    ·refine⟨_,hs,fun β σ a Wa hR hE=>⟨?_,trivial⟩⟩
     have he:=(h1 β σ a Wa hR hE).1
     simp only[SV.val] at he
     simp[execOp,ho,resolve,invoke,builtin,Builtin.len_,run_underlying hd,SV.val,goInt,he]
    ·exact hs.elim
   ·exact h.elim
  ·exact h.elim
 ·rename_i x y hargs
  have hargs:args = #[x,y]:=by apply Array.ext';simpa using hargs
  subst hargs
  obtain⟨k,n,hn,h1⟩:=Ag6 (W:=W) h
  obtain⟨k',m,hm,h2⟩:=Ag6 (W:=W) hn
  refine⟨_,hm,fun β σ a Wa hR hE=>⟨?_,trivial⟩⟩
  simp[execOp,ho,resolve,invoke,builtin,Builtin.min_,Builtin.min2,SV.val,mn,h1 β σ a Wa hR hE,h2 β σ a Wa hR hE]
 ·rename_i x y hargs
  have hargs:args = #[x,y]:=by apply Array.ext';simpa using hargs
  subst hargs
  obtain⟨k,n,hn,h1⟩:=Ag6 (W:=W) h
  obtain⟨k',m,hm,h2⟩:=Ag6 (W:=W) hn
  refine⟨_,hm,fun β σ a Wa hR hE=>⟨?_,trivial⟩⟩
  simp[execOp,ho,resolve,invoke,builtin,Builtin.max_,Builtin.max2,SV.val,mx,h1 β σ a Wa hR hE,h2 β σ a Wa hR hE]
 ·exact h.elim
theorem Bo1 (hT:Ac6 P tt) (hF:Ae7 tt) (h:fl tt st W o.op K):Bz4 P st W o K:=by
 generalize ho:o.op=op at h
 cases op with
 | move x=>exact Ee3 (.inl ho) h
 | assign x=>exact Ee3 (.inr ho) h
 | pick c a b=>exact Ff5 ho h
 | build t parts=>exact Ez9 hT hF ho h
 | load t x=>exact Ff7 hT ho h
 | binOp op t x y u=>exact Eu8 hT ho h
 | unOp op t x=>exact Fe8 ho h
 | convert u t x=>exact Dx3 hT ho h
 | fieldAddr t x f=>exact Cy2 hT ho h
 | field t x f=>exact Ex4 hT ho h
 | indexAddr t x ix=>exact Cx3 hT ho h
 | index t x ix=>exact Et9 hT ho h
 | slice t x lo hi mx=>
  cases mx with
  | some _=>exact h.elim
  | none=>exact Ez6 hT ho h
 | extract x ix=>exact Ea7 ho h
 | makeFunc fn first captured=>
  cases fn<;>first | exact h.elim | exact Dg5 ho h
 | call c=>
  obtain⟨callee,args,tys⟩:=c
  cases callee<;>first | exact h.elim | exact Ea2 hT ho h
 | _=>exact h.elim
end
end Go.SX
