import Derived.Test.YtkgeopnakkcdoaaGreatDoorSx1
import Derived.Maps.Keyed
import Derived.Maps.RangeRun
import Derived.ChangeKeysEq
import Derived.Laws.StructEq
set_option linter.unusedVariables false
set_option linter.unusedSimpArgs false
namespace Go.SX
def may (W0:PW) (M:Nat->Prop) (g:Nat):Prop:=M g\/W0.w.heap.size<=g
structure Aq5 (W W':PW) (g:Nat) (cs:Array Value) (t:TypeId) (pos:Nat) (l:List Value):Prop where
 ext:Au9 (· = g) W W'
 S:¬W'.S g
 heap:W'.w.heap[g]?=some (.cells (Aj6 cs.toList pos l).toArray t (0,0))
def Aa1 (P:Program) (W0:PW) (M:Nat->Prop) (f:FuncId) (args:List Value) (W:PW) (K:Value->PW->Prop):Prop:=
 ∀W',Ext W W'->∃(N:Nat->Prop) (c:Value->PW->Prop),Aa0 P f args W' N c/\(∀g,N g->¬W'.S g/\may W0 M g)/\∀v b,Au9 N W' b->c v b->K v b
def An9 (W0:PW) (M:Nat->Prop) (s:Sl) (pos:Nat) (l:List Value) (W:PW) (K:PW->Prop):Prop:=
 ∀W',Ext W W'->∃g o cs t,s.A=some ⟨g,o,none⟩/\¬W'.S g/\W'.w.heap[g]?=some (.cells cs t (0,0))/\o+pos+l.length<=cs.size/\may W0 M g/\∀b,Aq5 W' b g cs t (o+pos) l->K b
def Es7 (W0:PW) (M:Nat->Prop) (e:TypeId) (sz bytes:Nat) (s:Sl) (c:List (List Value)) (W:PW) (K:Sl->PW->Prop):Prop:=
 ∀W',Ext W W'->∃xs,Own W' e sz s xs/\(∀g,s.v.ownBlock=some g->may W0 M g)/\(xs.length+c.length)*bytes<=140737488355328/\
  ∀s' b,Au9 (λ g=>s.v.ownBlock=some g) W' b->Own b e sz s' (xs ++ c)->(∀g,s'.v.ownBlock=some g->s.v.ownBlock=some g\/W'.w.heap.size<=g)->K s' b
def Cj7 (W0 : PW) (W : PW) (K : Nat -> PW -> Prop) : Prop := ∀ g W', Ext W W' -> W.w.heap.size <= g -> W0.w.heap.size <= g -> ¬ W'.S g -> W'.w.heap[g]? = some (.map #[] 0) -> K g W'
def En1 (P:Program) (kt:TypeId) (es:Array MapEntry):Prop:=∀e∈es.toList,∃l,keyOf P kt e.key=some l
def Fg5 (P:Program) (kt:TypeId) (W:PW) (g:Nat) (key zv:Value) (K:Value->Prop):Prop:=
 Maps.Keyed P kt/\(∃l,keyOf P kt key=some l)/\∃es c,¬W.S g/\W.w.heap[g]?=some (.map es c)/\En1 P kt es/\(∀e∈es.toList,e.key=key->K e.val)/\((∀e∈es.toList,e.key≠key)->K zv)
def Eg5 (es:Array MapEntry) (c:Nat) (key v:Value) (b:Array MapEntry) (d:Nat):Prop:=
 (∃i e,es[i]?=some e/\e.key=key/\b=es.modify i (λ e=>{e with key:=key,val:=v })/\d=c)\/((∀e∈es.toList,e.key≠key)/\b=es.push {key:=key,val:=v,born:=c }/\d=c+1)
def Fq4 (P:Program) (W0:PW) (M:Nat->Prop) (kt:TypeId) (W:PW) (g:Nat) (key v:Value) (K:PW->Prop):Prop:=
 Maps.Keyed P kt/\(∃l,keyOf P kt key=some l)/\∀W',Ext W W'->∃es c,¬W'.S g/\W'.w.heap[g]?=some (.map es c)/\En1 P kt es/\may W0 M g/\
  ∀b d f,Au9 (· = g) W' b->¬b.S g->b.w.heap[g]?=some (.map d f)->Eg5 es c key v d f->K b
@[reducible] def stp (I:List PL->PW->Prop) (b:List PL->PW->Nat) (c:List PL) (W':PW) (l:List PL) (W:PW):Prop:=I c W'/\b c W'<b l W
@[reducible] def Fr (W0 W:PW) (s:Sl):Prop:=∀g,s.v.ownBlock=some g->W0.w.heap.size<=g/\(g<W.w.heap.size->W.S g)
def Fn3 (l:List Value):Bool:=l.all Value.oneCell'
section
variable (P:Program) (tt:List (Nat×TyI)) (W0:PW) (M:Nat->Prop)
def pub (k:Nat) (st:SS) (W:PW) (K:Value->SS->PW->Prop):Prop:=
 match look st.C k with
 | some (.row t sz xs)=>∀s W',Ext W W'->Own W' t sz s xs->Fr W0 W s->K s.v {st with C:=(k,.pub s.v)::st.C,D:=k::st.D } W'
 | some (.pub x)=>K x st W
 | _=>False
def Fs3 (k n:Nat) (st:SS) (W:PW) (K:Value->SS->PW->Prop):Prop:=
 match look st.C k with
 | some (.box cs)=>match Nat.beq cs.length n,Nat.ble 1 n && Nat.ble n 1000 && Fn3 cs with
  | true,true=>∀s W',Ext W W'->Bf9 W' 1 s (cs.map λ c=>[c])->Fr W0 W s->K s.v {st with C:=(k,.dead)::st.C,D:=k::st.D } W'
  | _,_=>False
 | _=>False
def Jd4 (k:Nat) (st:SS) (W:PW) (K:Value->SS->PW->Prop):Prop:=
 match look st.C k with
 | some (.box cs)=>∀r W',Ext W W'->Aa7 W' ⟨r,1,1⟩ 1 0 0 cs->Fr W0 W ⟨r,1,1⟩->K (.pointer r) {st with C:=(k,.pbx r)::st.C,D:=k::st.D } W'
 | some (.pbx r)=>K (.pointer r) st W
 | _=>False
def evP (x:Operand) (st:SS) (W:PW) (K:Value->SS->PW->Prop):Prop:=
 ev st x λ s=>match s with
  | .o k=>pub W0 k st W K
  | .bs k n=>Fs3 W0 k n st W K
  | .p k 0=>Jd4 W0 k st W K
  | s=>toV st s λ v=>K v st W
def Fh7:List Operand->SS->PW->(List Value->SS->PW->Prop)->Prop
 | [],st,W,K=>K [] st W
 | x::r,st,W,K=>evP W0 x st W λ v st W=>Fh7 r st W λ l st W=>K (v::l) st W
def fin (b:Bool) (o:Oper) (s:SV) (st:SS) (K:SS->Prop):Prop:=
 match o.dst with
 | none=>K st
 | some d=>match Nat.blt d st.n with
  | true=>match b with
   | true=>split s λ t=>K {st with T:=(d,.b t)::st.T }
   | false=>K {st with T:=(d,s)::st.T }
  | false=>False
def Ed1 (l:List Value):Bool:=l.all Value.oneCell'
def Ac4 (st:SS) (b:Blk):SS:={st with C:=(st.nx,b)::st.C,nx:=Nat.succ st.nx }
def Af0 (st:SS) (k:Nat) (b:Blk):SS:={st with C:=(k,b)::st.C,D:=k::st.D }
def Dq1 (sz:Nat):List (Nat×Operand)->List (List Value)->SS->PW->(List (List Value)->SS->PW->Prop)->Prop
 | [],xs,st,W,K=>K xs st W
 | (i,x)::r,xs,st,W,K=>evP W0 x st W λ v st W=>match Nat.beq (Ac7 v).length sz,Nat.blt i xs.length,Ed1 (Ac7 v) with
  | true,true,true=>Dq1 sz r (xs.set i (Ac7 v)) st W K
  | _,_,_=>False
def rep {α:Type} (n:Nat) (x:α):List α:=match n with | 0=>[] | n+1=>x::rep n x
def Ey2 (e:TypeId) (sz:Nat) (x:Operand) (st:SS) (W:PW) (K:List (List Value)->Prop):Prop:=
 ev st x λ s=>match s with
  | .o k=>match look st.C k with
   | some (.row t d b)=>match Nat.beq t e,Nat.beq sz d with
    | true,true=>K b
    | _,_=>False
   | some (.pub (.slice A n c))=>∃b,Bf9 W sz ⟨A,n,c⟩ b/\K b
   | _=>False
  | .n=>K []
  | .v (.slice A n c)=>∃b,Bf9 W sz ⟨A,n,c⟩ b/\K b
  | _=>False
def Eq0:Value->Shp
 | .int k _=>.int k
 | .bool _=>.bool
 | .string _=>.str
 | .map _=>.map
 | .pointer _=>.ptr
 | _=>.slice
def Cn2 (i:Nat) (K:Nat->Prop):Nat->Prop
 | 0=>True
 | n+1=>Cn2 i K n/\(i=n->K n)
def Ci6 (o:Oper) (st:SS) (W:PW) (K:SV->SS->PW->Prop):Prop:=
 match o.op with
 | .alloc t=>match look tt t with
  | some i=>K (.p st.nx 0) (Ac4 st (.box i.zv.cells.toList)) W
  | none=>False
 | .box t x=>evP W0 x st W λ v st W=>K (.p st.nx 0) (Ac4 st (.box (Ac7 v))) W
 | .build t parts=>match look tt t with
  | some i=>match i.agg with
   | true=>Fh7 W0 (parts.toList.map (·.2)) st W λ _ st W=>Bq2 st (placeOf tt i) parts.toList i.zv.cells.toList λ cs=>K (.v (.agg cs.toArray)) st W
   | false=>False
  | none=>False
 | .buildSlice t len parts=>match look tt t with
  | some i=>match i.und with
   | .slice e=>match look tt e with
    | some j=>match Nat.ble (Nat.mul len j.size) 16777216,Nat.blt 0 j.size && Ed1 j.zv.cells.toList with
     | true,true=>Dq1 W0 j.size parts.toList (rep len j.zv.cells.toList) st W λ xs st W=>K (.o st.nx) (Ac4 st (.row e j.size xs)) W
     | _,_=>False
    | none=>False
   | _=>False
  | none=>False
 | .makeSlice t l c=>match look tt t with
  | some i=>match i.und with
   | .slice e=>match look tt e with
    | some j=>match Nat.blt 0 j.size && Nat.blt 0 j.bytes && Ed1 j.zv.cells.toList with
     | true=>evI st l λ _ n=>evI st c λ _ m=>(m=n/\0<=n/\n*(j.bytes:Int)<=281474976710656)/\K (.o st.nx) (Ac4 st (.row e j.size (List.replicate n.toNat j.zv.cells.toList))) W
     | false=>False
    | none=>False
   | _=>False
  | none=>False
 | .store t p x=>match look tt t with
  | some i=>evP W0 x st W λ v st W=>match Nat.beq (Ac7 v).length i.size,Ed1 (Ac7 v) with
   | true,true=>ev st p λ s=>match s with
    | .p k off=>match look st.C k with
     | some (.box cs)=>match Nat.ble (Nat.add off i.size) cs.length with
      | true=>K (.v undef) (Af0 st k (.box (Aj6 cs off (Ac7 v)))) W
      | false=>False
     | _=>False
    | .oe k sz q off=>match look st.C k with
     | some (.row u w xs)=>match Nat.beq sz w,Nat.ble (Nat.add off i.size) sz with
      | true,true=>match Nat.beq i.size sz with
       | true=>q<xs.length/\K (.v undef) (Af0 st k (.row u w (xs.set q (Ac7 v)))) W
       | false=>q<xs.length/\K (.v undef) (Af0 st k (.row u w (Ci8 xs q off (Ac7 v)))) W
      | _,_=>False
     | _=>False
    | .e s sz q off=>An9 W0 M s (q*sz+off) (Ac7 v) W λ W=>K (.v undef) st W
    | .pe k base sz len q off=>match look st.C k with
     | some (.box cs)=>match Nat.ble (Nat.add base (Nat.mul len sz)) cs.length,Nat.ble (Nat.add off i.size) sz with
      | true,true=>q<len/\Cn2 q (λ j=>K (.v undef) (Af0 st k (.box (Aj6 cs (Nat.add (Nat.add base (Nat.mul j sz)) off) (Ac7 v)))) W) len
      | _,_=>False
     | _=>False
    | _=>False
   | _,_=>False
  | none=>False
 | .call {callee:=.value f,args,argTypes }=>
  ev st f λ s=>match s with
   | .v (.func (.func f) first captured)=>Fh7 W0 args.toList st W λ l st W=>
    Aa1 P W0 M f (first.toList ++ l ++ captured.toList) W λ v W=>Cc9 tt o.type v λ x=>K (.v x) st W
   | _=>False
 | .call {callee:=.builtin .append,args,argTypes }=>
  match args.toList,argTypes.toList with
  | [s,x],[t,u]=>match Nat.beq t u,look tt t with
   | true,some i=>match i.und with
    | .slice e=>match look tt e with
     | some j=>match Nat.blt 0 j.size && Nat.blt 0 j.bytes with
      | true=>Ey2 e j.size x st W λ b=>ev st s λ B=>match B with
       | .n=>(b.length*j.bytes<=140737488355328)/\K (.o st.nx) (Ac4 st (.row e j.size b)) W
       | .o k=>match look st.C k with
        | some (.row t2 C xs)=>match Nat.beq t2 e,Nat.beq C j.size with
         | true,true=>((xs.length+b.length)*j.bytes<=140737488355328)/\K (.o st.nx) (Ac4 (Af0 st k .dead) (.row e j.size (xs ++ b))) W
         | _,_=>False
        | some (.pub (.slice A n c))=>Es7 W0 M e j.size j.bytes ⟨A,n,c⟩ b W λ s' W=>K (.v s'.v) st W
        | _=>False
       | .v (.slice A n c)=>Es7 W0 M e j.size j.bytes ⟨A,n,c⟩ b W λ s' W=>K (.v s'.v) st W
       | _=>False
      | false=>False
     | none=>False
    | _=>False
   | _,_=>False
  | _,_=>False
 | .call {callee:=.builtin .copy,args,argTypes }=>
  match args.toList,argTypes.toList with
  | [d,x],[t,u]=>match look tt t with
   | some i=>match i.und with
    | .slice e=>match look tt e with
     | some j=>ev st d λ D=>match D with
      | .bs k n=>evV st x λ v=>match v with
       | .slice A m c=>match look st.C k with
        | some (.box cs)=>match Nat.ble (Nat.mul n j.size) cs.length with
         | true=>∃b,Bf9 W j.size ⟨A,m,c⟩ b/\Ai7 (cs.map Eq0) (Aj6 cs 0 (b.take n).flatten)=true/\
          Ax9 (cs.map Eq0) λ l=>l=Aj6 cs 0 (b.take n).flatten->K (.v (.int .i64 ((Nat.min m n:Nat):Int))) (Af0 st k (.box l)) W
         | false=>False
        | _=>False
       | _=>False
      | _=>False
     | none=>False
    | _=>False
   | none=>False
  | _,_=>False
 | .makeMap t none=>match look tt t with
  | some i=>match i.und with
   | .map _ _=>Cj7 W0 W λ g W=>K (.v (.map (some g))) st W
   | _=>False
  | none=>False
 | .lookup t x k false=>match look tt t with
  | some i=>match i.und with
   | .map kt et=>match look tt et with
    | some j=>evP W0 x st W λ m st W=>evP W0 k st W λ z st W=>match m with
     | .map r=>∃g,r=some g/\Fg5 P kt W g z j.zv λ v=>Cc9 tt et v λ y=>K (.v y) st W
     | _=>False
    | none=>False
   | _=>False
  | none=>False
 | .mapUpdate t x k y=>match look tt t with
  | some i=>match i.und with
   | .map kt et=>evP W0 x st W λ m st W=>evP W0 k st W λ z st W=>evP W0 y st W λ v st W=>match m with
    | .map r=>∃g,r=some g/\Fq4 P W0 M kt W g z v λ W=>K (.v undef) st W
    | _=>False
   | _=>False
  | none=>False
 | .range t x=>match look tt t with
  | some i=>match i.und with
   | .map kt et=>evP W0 x st W λ m st W=>match m with
    | .map r=>∃g,r=some g/\∃es c,¬W.S g/\W.w.heap[g]?=some (.map es c)/\K (.p st.nx 0) (Ac4 st (.itr g kt et c #[] c none)) W
    | _=>False
   | _=>False
  | none=>False
 | .next x false=>ev st x λ s=>match s with
  | .p k 0=>match look st.C k with
   | some (.itr g kt et since seen last cur)=>∃es c,¬W.S g/\W.w.heap[g]?=some (.map es c)/\(∀e∈es.toList,e.born<since)/\since<=last/\
    ((leftOf es (Ae4 seen cur)).size=0->K (.tb false []) st W)/\
    ∀e,e∈(leftOf es (Ae4 seen cur)).toList->K (.tb true [e.key,e.val]) (Af0 st k (.itr g kt et since (Ae4 seen cur) c (some e))) W
   | _=>False
  | _=>False
 | .entry x=>ev st x λ s=>match s with
  | .p k 0=>match look st.C k with
   | some (.itr g kt et since seen last (some e))=>(∃es,¬W.S g/\W.w.heap[g]?=some (.map es last)/\e∈es.toList/\(es.toList.map (·.born)).Nodup)/\
    Cc9 tt kt e.key λ E=>Cc9 tt et e.val λ F=>K (.v (.tuple #[E,F])) st W
   | _=>False
  | _=>False
 | .slice t x none hi none=>ev st x λ s=>match s with
  | .o k=>match look st.C k with
   | some (.row t2 sz xs)=>match look tt t with
    | some i=>match i.und with
     | .slice e=>match look tt e with
      | some j=>match Nat.beq t2 e,Nat.beq sz j.size with
       | true,true=>Fe5 st hi xs.length λ h=>(0<=h/\h<=(xs.length:Int))/\K (.o st.nx) (Ac4 (Af0 st k .dead) (.row t2 sz (xs.take h.toNat))) W
       | _,_=>False
      | none=>False
     | _=>False
    | none=>False
   | _=>fl tt st W o.op λ s=>K s st W
  | _=>fl tt st W o.op λ s=>K s st W
 | .makeFunc (.func f) first captured=>match captured.toList with
  | []=>fl tt st W o.op λ s=>K s st W
  | x::r=>match first.toList with
   | []=>Fh7 W0 (x::r) st W λ m st W=>K (.v (.func (.func f) #[] m.toArray)) st W
   | _=>False
 | op=>fl tt st W op λ s=>K s st W
def Ft3:Op->Bool
 | .alloc _ | .box .. | .buildSlice .. | .makeSlice .. | .store .. | .build ..=>false
 | .call {callee:=.value _,.. }=>false
 | .call {callee:=.builtin .append,.. }=>false
 | .call {callee:=.builtin .copy,.. }=>false
 | .makeMap .. | .lookup .. | .mapUpdate .. | .range .. | .next .. | .entry _=>false
 | .makeFunc _ _ captured=>captured.toList.isEmpty
 | _=>true
def guards (ops:List Oper) (i:Nat):Bool:=ops.any λ o=>match o.guard with | some (j,_)=>Nat.beq i j | none=>false
def Fi7 (ops:List Oper) (i:Nat) (o:Oper) (st:SS) (W:PW) (K:SS->PW->Prop):Prop:=
 match o.guard with
 | none=>Ci6 P tt W0 M o st W λ s st W=>fin (guards ops i) o s st λ st=>K st W
 | some (j,want)=>match ops[j]? with
  | some c=>match c.dst with
   | some d=>match look st.T d with
    | some (.b b)=>match b == want with
     | true=>Ci6 P tt W0 M o st W λ s st W=>fin (guards ops i) o s st λ st=>K st W
     | false=>fin false o (.v undef) st λ st=>K st W
    | some (.v (.tuple _))=>fin false o (.v undef) st λ st=>K st W
    | _=>False
   | none=>False
  | none=>False
def Ff8 (ops:List Oper):Nat->List Oper->SS->PW->(SS->PW->Prop)->Prop
 | _,[],st,W,K=>K st W
 | i,o::r,st,W,K=>Fi7 P tt W0 M ops i o st W λ st W=>Ff8 ops (Nat.succ i) r st W K
def Fp1 : Operand -> List Nat
  | .tmp t => [t]
  | _ => []
def Av0 (o:Oper):List Nat:=match o.dst with | some d=>[d] | none=>[]
def Cw1:Code->List Nat
 | .region _ ops _=>ops.toList.flatMap Av0
 | .seq a b=>Cw1 a ++ Cw1 b
 | .cond _ a b=>Cw1 a ++ Cw1 b
 | .block _ a=>Cw1 a
 | .loop a=>Cw1 a
 | .rangeFunc _ c a b=>c.toList ++ Cw1 a ++ Cw1 b
 | .scope a=>Cw1 a
 | _=>[]
def Dc7:Code->List Nat
 | .region _ ops _=>ops.toList.flatMap λ o=>o.op.operands.toList.flatMap Fp1
 | .seq a b=>Dc7 a ++ Dc7 b
 | .cond c a b=>Fp1 c ++ Dc7 a ++ Dc7 b
 | .block _ a=>Dc7 a
 | .loop a=>Dc7 a
 | .rangeFunc f d a b=>Fp1 f ++ Dc7 a ++ Dc7 b
 | .scope a=>Dc7 a
 | _=>[]
def Em2 (ops:List Oper) (t:Nat):Bool:=ops.any λ o'=>match o'.dst with
 | some b=>Nat.beq b t && (match o'.op with | .makeSlice ..=>true | .buildSlice ..=>true | .call {callee:=.builtin .append,.. }=>true | _=>false)
 | none=>false
def Fl6 (ops:List Oper):List (Nat×TypeId×Bool):=
 ops.filterMap λ o=>match o.op,o.dst with
  | .assign (.tmp t),some d=>some (d,o.type,Em2 ops t)
  | .assign _,some d=>some (d,o.type,false)
  | .move (.tmp t),some d=>some (d,o.type,Em2 ops t)
  | .move _,some d=>some (d,o.type,false)
  | _,_=>none
def asg:Code->List (Nat×TypeId×Bool)
 | .region _ ops _=>Fl6 ops.toList
 | .seq a b=>asg a ++ asg b
 | .cond _ a b=>asg a ++ asg b
 | .block _ a=>asg a
 | .loop a=>asg a
 | .scope a=>asg a
 | _=>[]
def rootOf (ops:List Oper):Nat->Nat->Nat
 | 0,t=>t
 | n+1,t=>match ops.find? (λ o=>match o.dst with | some d=>Nat.beq d t | none=>false) with
  | some o=>match o.op with
   | .fieldAddr _ (.tmp x) _=>rootOf ops n x
   | .indexAddr _ (.tmp x) _=>rootOf ops n x
   | .move (.tmp x)=>rootOf ops n x
   | .nilCheck (.tmp x)=>rootOf ops n x
   | _=>t
  | none=>t
def Fa8 (ops:List Oper):List Nat:=ops.filterMap λ o=>match o.op with
 | .store _ (.tmp p) _=>some (rootOf ops 9 p)
 | .next (.tmp p) _=>some (rootOf ops 9 p)
 | _=>none
def roots:Code->List Nat
 | .region _ ops _=>Fa8 ops.toList
 | .seq a b=>roots a ++ roots b
 | .cond _ a b=>roots a ++ roots b
 | .block _ a=>roots a
 | .loop a=>roots a
 | .scope a=>roots a
 | _=>[]
def mem (l:List Nat) (x:Nat):Bool:=l.any λ y=>Nat.beq x y
inductive Car where
 | val (i:TyI)
 | own (t:TypeId) (sz:Nat)
def By2 (st:SS) (here:Bool) (U:List Nat):List Nat->List (Nat×TypeId×Bool)->List (Nat×Car)
 | _,[]=>[]
 | seen,(d,t,ap)::r=>
  match mem seen d || !(mem U d) with
  | true=>By2 st here U seen r
  | false=>
   match look st.T d,here with
   | none,true=>By2 st here U seen r
   | s,_=>match look tt t with
    | none=>By2 st here U seen r
    | some i=>
     let c:Car:=match i.und with
      | .slice e=>match look tt e with
       | none=>.val i
       | some j=>match s with
        | some (.o k)=>match look st.C k with
         | some (.pub _)=>.val i
         | _=>.own e j.size
        | some .n=>match ap with
         | true=>.own e j.size
         | false=>.val i
        | none=>match ap with
         | true=>.own e j.size
         | false=>.val i
        | _=>.val i
      | _=>.val i
     (d,c)::By2 st here U (d::seen) r
inductive Bz3 where
 | box (sh:List Shp)
 | row (t:TypeId) (sz:Nat)
 | itr (g kt et since:Nat)
def Ch6 (st:SS):List Nat->List Nat->List (Nat×Bz3)
 | _,[]=>[]
 | seen,r::rs=>
  match look st.T r with
  | some (.p k _) | some (.o k)=>match mem seen k with
   | true=>Ch6 st seen rs
   | false=>match look st.C k with
    | some (.box cs)=>(k,.box (cs.map Eq0))::Ch6 st (k::seen) rs
    | some (.row t sz _)=>(k,.row t sz)::Ch6 st (k::seen) rs
    | some (.itr g kt et since _ _ _)=>(k,.itr g kt et since)::Ch6 st (k::seen) rs
    | _=>Ch6 st seen rs
  | _=>Ch6 st seen rs
def Fp8 (i:TyI) (K:Value->Prop):Prop:=Ax9 i.sh λ l=>valOf i.agg l K
def Cs7:List (Nat×Bz3)->SS->(List PL->SS->Prop)->Prop
 | (k,.box sh)::r,st,K=>Ax9 sh λ cs=>Cs7 r {st with C:=(k,.box cs)::st.C } λ l st=>K (.cells cs::l) st
 | (k,.row t sz)::r,st,K=>∀xs:List (List Value),Cs7 r {st with C:=(k,.row t sz xs)::st.C } λ l st=>K (.row xs::l) st
 | (k,.itr g kt et since)::r,st,K=>∀(seen:Array Nat) (last:Nat) (cur:Option MapEntry),Cs7 r {st with C:=(k,.itr g kt et since seen last cur)::st.C } λ l st=>K (.seen (Ae4 seen cur) last::l) st
 | [],st,K=>K [] st
def Dq7:List (Nat×Car)->SS->(List PL->SS->Prop)->Prop
 | (d,.val i)::r,st,K=>Fp8 i λ v=>Dq7 r {st with T:=(d,.v v)::st.T } λ l st=>K (.val v::l) st
 | (d,.own t sz)::r,st,K=>∀xs:List (List Value),Dq7 r {(Ac4 st (.row t sz xs)) with T:=(d,.o st.nx)::st.T } λ l st=>K (.row xs::l) st
 | [],st,K=>K [] st
def Fi0 (bs:List (Nat×Bz3)) (cars:List (Nat×Car)) (st:SS) (K:List PL->SS->Prop):Prop:=
 Cs7 bs st λ lb st=>Dq7 cars st λ lc st=>K (lc ++ lb) st
def tyB (i:TyI) (v:Value):Bool:=match i.agg,v with
 | true,.agg cs=>Ai7 i.sh cs.toList
 | false,v=>Ai7 i.sh [v]
 | _,_=>false
def Cr6:List (Nat×Bz3)->SS->PW->(List PL->SS->PW->Prop)->Prop
 | (k,.box sh)::r,st,W,K=>match look st.C k with
  | some (.box cs)=>match Ai7 sh cs with | true=>Cr6 r st W λ l st W=>K (.cells cs::l) st W | false=>False
  | _=>False
 | (k,.row t sz)::r,st,W,K=>match look st.C k with
  | some (.row b c xs)=>match Nat.beq t b,Nat.beq sz c with
   | true,true=>Cr6 r st W λ l st W=>K (.row xs::l) st W
   | _,_=>False
  | _=>False
 | (k,.itr g kt et since)::r,st,W,K=>match look st.C k with
  | some (.itr d f h j seen last cur)=>match Nat.beq kt f,Nat.beq et h with
   | true,true=>(g=d/\since=j)/\Cr6 r st W λ l st W=>K (.seen (Ae4 seen cur) last::l) st W
   | _,_=>False
  | _=>False
 | [],st,W,K=>K [] st W
def De0:List (Nat×Car)->SS->PW->(List PL->SS->PW->Prop)->Prop
 | (d,.val i)::r,st,W,K=>evP W0 (.tmp d) st W λ v st W=>match tyB i v with | true=>De0 r st W λ l st W=>K (.val v::l) st W | false=>False
 | (d,.own t sz)::r,st,W,K=>match look st.T d with
  | some (.o k)=>match look st.C k with
   | some (.row b c xs)=>match Nat.beq t b,Nat.beq sz c with
    | true,true=>De0 r {st with C:=(k,.dead)::st.C,D:=k::st.D } W λ l st W=>K (.row xs::l) st W
    | _,_=>False
   | _=>False
  | some .n=>De0 r st W λ l st W=>K (.row []::l) st W
  | _=>False
 | [],st,W,K=>K [] st W
def Fq9 (bs:List (Nat×Bz3)) (cars:List (Nat×Car)) (st:SS) (W:PW) (K:List PL->SS->PW->Prop):Prop:=
 De0 W0 cars st W λ lc st W=>Cr6 bs st W λ lb st W=>K (lc ++ lb) st W
def Aw4 (b:List Nat) (bs:List (Nat×Bz3)) (st:SS):SS:={st with T:=st.T.filter λ x=>!(mem b x.1),D:=bs.map (·.1) ++ st.D }
def Bk3 (cars:List (Nat×Car)) (st:SS):List Nat:=cars.filterMap λ c=>match c.2 with
 | .own _ _=>match look st.T c.1 with
  | some (.o k)=>some k
  | _=>none
 | _=>none
def Dm4 (ks:List Nat) (st:SS):SS:={st with C:=(ks.map λ k=>(k,Blk.dead)) ++ st.C,D:=ks ++ st.D }
def Cg4 (c:List Nat) (nx n:Nat) (D:List Nat):Bool:=(D.take (Nat.sub D.length n)).all λ k=>Nat.ble nx k || c.any λ b=>Nat.beq b k
def Ar3:Code->Option Nat
 | .region id _ _=>some id
 | .seq a b=>match Ar3 a with | some x=>some x | none=>Ar3 b
 | .cond _ a b=>match Ar3 a with | some x=>some x | none=>Ar3 b
 | .block _ a=>Ar3 a
 | .loop a=>Ar3 a
 | _=>none
def Fs0 (cuts:List Nat) (c:Code):Bool:=match Ar3 c with | some r=>mem cuts r | none=>false
def Fe6 (cars:List (Nat×Car)) (bs:List (Nat×Bz3)) (d:List Nat) (st:SS) (W:PW) (body:SS->PW->(Exit->SS->PW->Prop)->Prop) (K:Exit->SS->PW->Prop):Prop:=
 Fq9 W0 bs cars st W λ l0 st1 f=>
  ∃(I:List PL->PW->Prop) (g:List PL->PW->Nat),I l0 f/\
   Fi0 bs cars (Aw4 d bs st1) λ l b=>∀W',I l W'->
    body b W' λ e st' c=>match e with
     | .normal=>Fq9 W0 bs cars st' c λ h st2 j=>match Cg4 (bs.map (·.1)) st1.nx b.D.length st2.D with | true=>stp I g h j l W' | false=>False
     | e=>K e st' c
def Fr0 (cars:List (Nat×Car)) (bs:List (Nat×Bz3)) (c:List Nat) (st:SS) (W:PW) (x y:SS->PW->(Exit->SS->PW->Prop)->Prop) (K:Exit->SS->PW->Prop):Prop:=
 match bs.all (λ b=>Nat.blt b.1 st.nx) with
 | false=>False
 | true=>∃J:List PL->PW->Prop,
  (x st W λ e st' W'=>match e with
   | .normal=>Fq9 W0 bs cars st' W' λ l st2 d=>match Cg4 (bs.map (·.1) ++ Bk3 cars st) st.nx st.D.length st2.D with | true=>J l d | false=>False
   | e=>K e st' W')/\
  Fi0 bs cars (Aw4 c bs (Dm4 (Bk3 cars st) st)) λ l f=>∀W',J l W'->y f W' K
variable (cuts:List Nat)
def Ac2 (o : Oper) : List Nat := o.after.toList.filterMap λ e => match Region.binds .any e with | true => some e.on | false => none
def Fm0:Op->Bool
 | .build ..=>true
 | op=>Ft3 op
def allI (p:Nat->Oper->Bool):Nat->List Oper->Bool
 | _,[]=>true
 | n,o::r=>p n o && allI p (Nat.succ n) r
def Bm0 (p:Nat->Oper->Bool):Nat->List Oper->Option (Nat×Oper)
 | _,[]=>none
 | n,o::r=>match p n o with | true=>some (n,o) | false=>Bm0 p (Nat.succ n) r
def Cu6 (p:Nat->Oper->Bool):Nat->List Oper->List (Nat×Oper)
 | _,[]=>[]
 | n,o::r=>match p n o with | true=>(n,o)::Cu6 p (Nat.succ n) r | false=>Cu6 p (Nat.succ n) r
def Af2 (ops:Array Oper) (o:Oper):List Nat:=o.looksAt ops
def Et2 (o:Oper) (d:Nat):Bool:=match o.dst with | some b=>Nat.beq b d | none=>false
def isVal (ops:Array Oper) (i:Nat) (o:Oper):Bool:=Fm0 o.op && match o.dst with
 | none=>true
 | some d=>!(mem (Af2 ops o) d) && allI (λ j oj=>Nat.beq i j || (!(Et2 oj d) && (!(mem (Af2 ops oj) d) || mem (Ac2 oj) i))) 0 ops.toList
def Fn1 (o:Oper):Bool:=match o.op with | .select ..=>false | _=>true
def Dq0 (ops:Array Oper):Bool:=ops.toList.all Fn1 && allI (λ i o=>(Ac2 o).all (λ j=>Nat.blt j i) &&
 (!(isVal ops i o) || allI (λ j oj=>Nat.beq i j || (match oj.dst with | some d=>!(mem (Af2 ops o) d) || mem (Ac2 o) j || mem (Ac2 oj) i | none=>true)) 0 ops.toList)) 0 ops.toList
def keyOf:SV->List Nat
 | .p k _=>[k]
 | .o k=>[k]
 | .oe k _ _ _=>[k]
 | .pe k _ _ _ _ _=>[k]
 | .bs k _=>[k]
 | _=>[]
def prune (ls:List Nat) (st:SS):SS:=
 {st with T:=st.T.filter λ p=>mem ls p.1,C:=st.C.filter λ q=>mem ((st.T.filter λ p=>mem ls p.1).flatMap λ p=>keyOf p.2) q.1 }
def Fk9 (ls:List Nat) (st:SS):List Nat:=(st.T.filter λ p=>mem ls p.1).flatMap λ p=>keyOf p.2
def Fr1 (st:SS) (o:Oper):Bool:=match(match o.op with | .fieldAddr _ (.tmp t) _=>look st.T t | .indexAddr _ (.tmp t) _=>look st.T t | _=>none) with
 | some (.p _ _)=>true
 | some (.pe _ _ _ _ _ _)=>true
 | _=>false
def Av2 (o:Oper) (ls:List Nat) (st:SS):SS:=match Fr1 st o with
 | true=>{st with T:=st.T.filter λ p=>mem ls p.1,C:=[] }
 | false=>prune ls st
def Fb1 (o:Oper) (ls:List Nat) (st:SS):List Nat:=match Fr1 st o with | true=>[] | false=>Fk9 ls st
def Fk7 (st:SS) (o:Oper):Bool:=match o.op with
 | .load _ (.tmp t)=>match look st.T t with | some (.p _ _)=>false | some (.oe _ _ _ _)=>false | some (.pe _ _ _ _ _ _)=>false | _=>true
 | .load _ _=>true
 | _=>false
def Ft2 (W:PW):PW:=⟨{W.w with heap:=#[] },λ _=>False⟩
def Fo0 (b:Bool) (W:PW):PW:=match b with | true=>W | false=>Ft2 W
def Ez5 (st:SS) (o:Oper):Bool:=match o.op with
 | .build _ parts=>parts.toList.all λ p=>match p.2 with | .tmp t=>(match look st.T t with | some (.o _)=>false | _=>true) | _=>true
 | .slice _ (.tmp t) none _ none=>match look st.T t with | some (.o k)=>(match look st.C k with | some (.row _ _ _)=>false | _=>true) | _=>true
 | _=>true
def Fh6 (ops:List Oper) (o:Oper) (st:SS) (W:PW) (K:SV->Prop):Prop:=
 match o.guard with
 | none=>fl tt st W o.op K
 | some (j,want)=>match ops[j]? with
  | some c=>match c.dst with
   | some d=>match look st.T d with
    | some (.b b)=>match b == want with
     | true=>fl tt st W o.op K
     | false=>K (.v undef)
    | some (.v (.tuple _))=>K (.v undef)
    | _=>False
   | none=>False
  | none=>False
def dup:Nat->Prop->Prop
 | 0,p=>p
 | n+1,p=>p/\dup n p
theorem Fc8 {p:Prop}(h:p): ∀n,dup n p
 | 0=>h
 | n+1=>⟨h,Fc8 h n⟩
def Fq6 (f:Nat×Oper->Prop):List (Nat×Oper)->Prop
 | []=>True
 | [x]=>f x
 | x::r=>f x/\Fq6 f r
def Fm5 (b:Bool) (W W':PW) (p:Prop):Prop:=match b with | true=>Ext W W'/\p | false=>p
structure Cq8 where
 i:Nat
 ks:List Nat
 nw:Bool
def Ak4 (ops:Array Oper) (L:List Nat) (i:Nat) (o:Oper):Bool:=!(mem L i) && (Ac2 o).all λ j=>mem L j
def Fk4 (g:Bool) (s:SV):Bool:=match g with | true=>(match s with | .v (.tuple _)=>false | _=>true) | false=>false
def Fr3 (o:Oper):Bool:=match o.op,o.guard,o.dst with
 | .alloc _,none,some _=>true
 | _,_,_=>false
def Fg8:Op->Bool
 | .call {callee:=.value _,.. }=>true
 | .alloc _=>true
 | .build ..=>true
 | .slice _ _ none _ none=>false
 | op=>Ft3 op
def Fb0 (ops:Array Oper) (i:Nat) (o:Oper):Bool:=Fr3 o && match o.dst with
 | none=>false
 | some d=>allI (λ j oj=>Nat.beq i j || (!(Et2 oj d) && ((!(mem (Af2 ops oj) d) || (!(isVal ops j oj) && mem (Ac2 oj) i)) && (mem (Ac2 oj) i || Fg8 oj.op)))) 0 ops.toList
def Fq0 (st:SS) (o:Oper):Option (Nat×List Value):=match o.op,o.dst with
 | .alloc t,some d=>match look tt t,Nat.blt d st.n with
  | some i,true=>some (d,i.zv.cells.toList)
  | _,_=>none
 | _,_=>none
abbrev QA:=List (Nat×Nat×List Value)
def Fo6 (d:Nat) (cs:List Value) (st:SS):SS:={Ac4 st (.box cs) with T:=(d,.p st.nx 0)::st.T }
def Dk4:List (Nat×Nat×List Value)->SS->SS
 | [],st=>st
 | (_,d,cs)::r,st=>Dk4 r (Fo6 d cs st)
def inQ (o:Oper) (qa:List (Nat×Nat×List Value)):List (Nat×Nat×List Value):=qa.filter λ q=>mem (Ac2 o) q.1
def Fd5 (o:Oper) (qa:List (Nat×Nat×List Value)):List (Nat×Nat×List Value):=qa.filter λ q=>!(mem (Ac2 o) q.1)
def Dp9 (ops:Array Oper):Nat->List Nat->List Cq8->List (Nat×Nat×List Value)->SS->PW->(SS->PW->Prop)->Prop
 | 0,_,_,_,_,_,_=>False
 | n+1,L,pd,qa,st,W,K=>match Bm0 (λ i o=>Ak4 ops L i o && (isVal ops i o && Ez5 st o)) 0 ops.toList with
  | some (i,o)=>Fh6 tt ops.toList o (Av2 o (Af2 ops o) st) (Fo0 (Fk7 st o) W) λ s=>fin (Fk4 (guards ops.toList i) s) o s st λ st1=>Dp9 ops n (i::L) (⟨i,Fb1 o (Af2 ops o) st,Fk7 st o⟩::pd) qa st1 W K
  | none=>match Bm0 (λ i o=>Ak4 ops L i o && Fb0 ops i o) 0 ops.toList with
   | some (i,o)=>match Fq0 tt st o with
    | some x=>Dp9 ops n (i::L) pd ((i,x.1,x.2)::qa) st W K
    | none=>False
   | none=>match Cu6 (Ak4 ops L) 0 ops.toList with
    | []=>K (Dk4 qa st) W
    | rs=>Fq6 (λ x=>Fi7 P tt W0 M ops.toList x.1 x.2 (Dk4 (inQ x.2 qa) st) W λ st1 b=>
      match(pd.filter λ q=>!(mem (Ac2 x.2) q.i)).all λ q=>q.ks.all λ k=>!(mem (st1.D.take (Nat.sub st1.D.length st.D.length)) k) with
      | true=>Fm5 ((pd.filter λ q=>!(mem (Ac2 x.2) q.i)).any λ q=>q.nw) W b (Dp9 ops n (x.1::L) (pd.filter λ q=>!(mem (Ac2 x.2) q.i)) (Fd5 x.2 qa) st1 b K)
      | false=>False) rs
def Fg6 (st:SS):List Nat:=st.T.filterMap λ p=>match p.2 with
 | .o k=>match look st.C k with
  | some (.row _ _ _)=>some k
  | _=>none
 | _=>none
def Fk0:List Nat->SS->PW->(SS->PW->Prop)->Prop
 | [],st,W,K=>K st W
 | k::r,st,W,K=>match look st.C k with
  | some (.row _ _ _)=>pub W0 k st W λ _ st W=>Fk0 r st W K
  | _=>Fk0 r st W K
def Fp7 (cuts:List Nat) (c:Code):Bool:=match Ar3 c with | some r=>mem cuts (Nat.add 1000000 r) | none=>false
def sxC:Code->List Nat->SS->PW->(Exit->SS->PW->Prop)->Prop
 | .skip,_,st,W,K=>K .normal st W
 | .region _ ops draw,_,st,W,K=>match draw with
  | false=>Ff8 P tt W0 M ops.toList 0 ops.toList st W λ st W=>K .normal st W
  | true=>match Dq0 ops with
   | true=>Dp9 P tt W0 M ops (Nat.succ ops.size) [] [] [] st W λ st W=>K .normal st W
   | false=>False
 | .seq a b,U,st,W,K=>match Fs0 cuts b with
  | false=>sxC a (Dc7 b ++ U) st W λ e st W=>match e with
   | .normal=>sxC b U st W K
   | e=>K e st W
  | true=>Fr0 W0 (By2 tt st false (Dc7 b ++ U) [] (asg a)) (Ch6 st [] (roots a)) (Cw1 a) st W (λ st W K=>sxC a (Dc7 b ++ U) st W K) (λ st W K=>sxC b U st W K) K
 | .cond c a b,U,st,W,K=>ev st c λ s=>split s λ t=>match t with | true=>sxC a U st W K | false=>sxC b U st W K
 | .block id a,U,st,W,K=>sxC a U st W λ e st W=>match e with
  | .exit i=>match Nat.beq i id with | true=>K .normal st W | false=>K (.exit i) st W
  | e=>K e st W
 | .loop a,U,st,W,K=>match Fp7 cuts a with
  | false=>Fe6 W0 (By2 tt st true (Dc7 a ++ U) [] (asg a)) (Ch6 st [] (roots a)) (Cw1 a) st W (λ st W K=>sxC a (Dc7 a ++ U) st W K) K
  | true=>Fk0 W0 (Fg6 st) st W λ st W=>Fe6 W0 (By2 tt st true (Dc7 a ++ U) [] (asg a)) (Ch6 st [] (roots a)) (Cw1 a) st W (λ st W K=>sxC a (Dc7 a ++ U) st W K) K
 | .exit id,_,st,W,K=>K (.exit id) st W
 | .ret,_,st,W,K=>K .ret st W
 | _,_,_,_,_=>False
def Fh9:List ResultVar->SS->PW->(List Value->SS->PW->Prop)->Prop
 | [],st,W,K=>K [] st W
 | .tmp t::r,st,W,K=>evP W0 (.tmp t) st W λ v st W=>Fh9 r st W λ l st W=>K (v::l) st W
 | .cell a t::r,st,W,K=>match look tt t,look st.T a with
  | some i,some (.p k off)=>Dx2 st i W (.p k off) λ s=>toV st s λ v=>Fh9 r st W λ l st W=>K (v::l) st W
  | _,_=>False
def Fs1 (l:List Value) (K:Value->Prop):Prop:=match l with | [x]=>K x | l=>K (.tuple l.toArray)
def num {α:Type} :Nat->List α->List (Nat×α)
 | _,[]=>[]
 | n,x::r=>(n,x)::num (Nat.succ n) r
def Fu2 (fn:Func) (args:List Value) (b:Value->PW->Prop):Prop:=
 match fn.body with
 | none=>False
 | some c=>sxC P tt W0 M cuts c [] {T:=num 0 (args.map .v),C:=[],nx:=0,n:=fn.ntmps,D:=[] } W0 λ e st W=>match e with
  | .normal=>Fh9 tt W0 fn.results.toList st W λ l _ W=>Fs1 l λ v=>∀W',Ext W W'->b v W'
  | .ret=>Fh9 tt W0 fn.results.toList st W λ l _ W=>Fs1 l λ v=>∀W',Ext W W'->b v W'
  | _=>False
end
end Go.SX
namespace Go.SX
variable {P:Program}{i:TyI}{t:TypeId}
theorem Af4.of (h1:(P.info? t).map (λ x=>(x.size,x.bytes,x.zero))=some (i.size,i.bytes,some i.zv))(b:(P.underlying t).map Au8=some i.und)(c:i.agg=Cr0 i.und)(f:i.zv.cells.size=i.size)(g:i.sh.length=i.size)(j:i.eq=false):Af4 P t i:=by
 obtain⟨inf,hi,he⟩:=Option.map_eq_some_iff.1 h1;obtain⟨d,m,hu⟩:=Option.map_eq_some_iff.1 b;simp only[Prod.mk.injEq] at he;exact⟨⟨inf,hi,he.1,he.2.1,he.2.2⟩,⟨d,m,hu⟩,c,f,g,λ h=>by rw[j] at h;cases h⟩
theorem Af4.ofEq (h1:(P.info? t).map (λ x=>(x.size,x.bytes,x.zero))=some (i.size,i.bytes,some i.zv))(f:(P.underlying t).map Au8=some i.und)(b:i.agg=Cr0 i.und)(c:i.zv.cells.size=i.size)(d:i.sh.length=i.size)(g:Fo2 P t i.sh):Af4 P t i:=by
 have h:=Af4.of (i:={i with eq:=false }) h1 f b c d rfl;exact⟨h.1,h.2.1,b,c,d,λ _=>g⟩
def Fi2 (tt:List (Nat×TyI)):Bool:=tt.all λ x=>match x.2.und with
 | .struct fs=>fs.all λ f=>(look tt f.1).isSome
 | .arr _ e=>(look tt e).isSome
 | _=>true
theorem Do6 {α:Type}: ∀{l:List (Nat×α)} {t:Nat} {i:α} (_:look l t=some i),(t,i)∈l
 | [],_,_,h=>by simp[look] at h
 | (k,x)::r,t,i,b=>by
  simp only[look] at b
  cases c:Nat.beq k t with
  | true=>
   simp only[c,Option.some.injEq] at b;have:k=t:=Nat.eq_of_beq_eq_true c;simp[this,b]
  | false=>
   simp only[c] at b;exact List.mem_cons_of_mem _ (Do6 b)
theorem Dk7 {tt:List (Nat×TyI)}(h:Fi2 tt=true):Ae7 tt:=by
 intro t i hi;have:=List.all_eq_true.1 h _ (Do6 hi);constructor
 ·intro fs hu f b
  simp only[hu] at this;exact Option.isSome_iff_exists.1 (List.all_eq_true.1 this f b)
 ·intro n e hu
  simp only[hu] at this;exact Option.isSome_iff_exists.1 this
end Go.SX
namespace Go.SX
variable {e t:TypeId}{i:TyI}{k:IntKind}{l:List Value}
variable {P:Program}
theorem Cp0 (b:Af4 P t i)(c:i.size=1)(d:i.agg=false)(w:World)(l:List Value)(p:Nat)(v:Value)(h:l[p]?=some v):(part t l.toArray p).run P w = .ok v w:=by
 simp[part,b.isAgg,b.sizeOf,d,c,Sem.run_bind,h]
theorem Fr2 (h:Ai7 [.int k,.int k,.int k] l=true): ∃a b c,l = [.int k a,.int k b,.int k c]:=by
 match l,h with
 | [x,y,z],h=>
  simp only[Ai7,Bool.and_eq_true,and_true] at h;obtain⟨h1,d,f⟩:=h;cases x<;>simp only[Ff6,Bool.false_eq_true] at h1;cases y<;>simp only[Ff6,Bool.false_eq_true] at d;cases z<;>simp only[Ff6,Bool.false_eq_true] at f;obtain rfl:=of_decide_eq_true h1;obtain rfl:=of_decide_eq_true d;obtain rfl:=of_decide_eq_true f;exact⟨_,_,_,rfl⟩
 | [],h=>simp[Ai7] at h
 | [_],h=>simp[Ai7] at h
 | [_,_],h=>simp[Ai7] at h
 | _ :: _ :: _ :: _ :: _,h=>simp[Ai7] at h
theorem Eq9 (m:P.underlying t=some (.array 3 e))(he:P.underlying e=some (.int k))(g:Af4 P e i)(j:i.size=1)(n:i.agg=false)(w:World)(d:Nat)(a b c x y z:Int):
  (Op.equalIn (d+2) t (.agg #[.int k a,.int k b,.int k c]) (.agg #[.int k x,.int k y,.int k z])).run P w = .ok (a == x && (b == y && c == z)) w:=by
 have r:=g;obtain⟨⟨inf,hi,h1,_,_⟩,_⟩:=r;have A:P.cellsOf e=1:=by simp[Program.cellsOf,hi,h1,j]
 rw[run_equalIn_array w (d+1) _ _ m hi,A,show List.range 3 = [0,1,2] from rfl];have p: ∀(l:List Value) (q:Nat) (v:Value),l[q]?=some v->(part e l.toArray q).run P w = .ok v w:=λ l q v h=>Cp0 g j n w l q v h;have f:=λ(u v:Int)=>run_equalIn_int (P:=P) w d e k k u v he;have q1:=p [.int k a,.int k b,.int k c] 0 (.int k a) rfl;have B:=p [.int k a,.int k b,.int k c] 1 (.int k b) rfl;have C:=p [.int k a,.int k b,.int k c] 2 (.int k c) rfl;have D:=p [.int k x,.int k y,.int k z] 0 (.int k x) rfl;have E:=p [.int k x,.int k y,.int k z] 1 (.int k y) rfl;have F:=p [.int k x,.int k y,.int k z] 2 (.int k z) rfl;have G:(Op.eqItems (d+1) e 1 #[.int k a,.int k b,.int k c] #[.int k x,.int k y,.int k z] []).run P w = .ok true w:=by simp[Op.eqItems]
 have r1:(Op.eqItems (d+1) e 1 #[.int k a,.int k b,.int k c] #[.int k x,.int k y,.int k z] [2]).run P w = .ok (c == z) w:=by
  rw[Op.eqItems];simp only[Sem.run_bind,Nat.mul_one,C,F,f,Result.andThen_ok];cases(c == z)
  ·rfl
  ·exact G
 have H:(Op.eqItems (d+1) e 1 #[.int k a,.int k b,.int k c] #[.int k x,.int k y,.int k z] [1,2]).run P w = .ok (b == y && c == z) w:=by
  rw[Op.eqItems];simp only[Sem.run_bind,Nat.mul_one,B,E,f,Result.andThen_ok];cases(b == y)
  ·rfl
  ·exact r1
 rw[Op.eqItems];simp only[Sem.run_bind,Nat.mul_one,q1,D,f,Result.andThen_ok];cases(a == x)
 ·rfl
 ·exact H
theorem Br5 (d:P.underlying t=some (.array 3 e))(he:P.underlying e=some (.int k))(f:Af4 P e i)(g:i.size=1)(j:i.agg=false)(hm:P.eqGuardType P.depth t=false):Fo2 P t [.int k,.int k,.int k]:=by
 intro w l q h m;obtain⟨a,b,c,rfl⟩:=Fr2 h;obtain⟨x,y,z,rfl⟩:=Fr2 m;refine⟨?_,λ op x y=>run_eqGuard_agg w op t x y _ _ hm⟩;have:=Eq9 d he f g j w 9998 a b c x y z;show(Op.equalIn 10000 t _ _).run P w=_;rw[this];congr 1
 by_cases h1:a=x<;>by_cases n:b=y<;>by_cases p:c=z<;>simp[h1,n,p]
theorem Fn2 (h:Ai7 [.int k,.int k,.int k,.str] l=true): ∃a b c s,l = [.int k a,.int k b,.int k c,.string s]:=by
 match l,h with
 | [x,y,z,u],h=>
  simp only[Ai7,Bool.and_eq_true,and_true] at h;obtain⟨h1,d,f,g⟩:=h;obtain⟨a,b,c,e⟩:=Fr2 (l:=[x,y,z]) (k:=k) (by simp[Ai7,h1,d,f]);cases e;cases u<;>simp only[Ff6,Bool.false_eq_true] at g;exact⟨_,_,_,_,rfl⟩
 | [],h=>simp[Ai7] at h
 | [_],h=>simp[Ai7] at h
 | [_,_],h=>simp[Ai7] at h
 | [_,_,_],h=>simp[Ai7] at h
 | _ :: _ :: _ :: _ :: _ :: _,h=>simp[Ai7] at h
theorem Cz9 {m:TypeId}{u:TypeId}{j:TyI}{p:TyI}(A:P.underlying t=some (.struct (P.fieldsOf t)))(B:P.stoodInHeld t=false)(d:(P.fieldsOf t).toList.map (λ f=>(f.name != "_",f.type,f.offset)) = [(true,m,0),(true,u,3)])(C:P.underlying m=some (.array 3 e))(he:P.underlying e=some (.int k))(D:Af4 P e i)(E:i.size=1)(G:i.agg=false)(v:Af4 P m p)(H:p.size=3)(I:p.agg=true)(hu:P.underlying u=some .string)(J:Af4 P u j)(L:j.size=1)(N:j.agg=false)(hm:P.eqGuardType P.depth t=false):Fo2 P t [.int k,.int k,.int k,.str]:=by
 intro w l l' h O;obtain⟨a,b,c,s,rfl⟩:=Fn2 h;obtain⟨x,y,z,r,rfl⟩:=Fn2 O;refine⟨?_,λ op x y=>run_eqGuard_agg w op t x y _ _ hm⟩;show(Op.equalIn (9999+1) t _ _).run P w=_;rw[run_equalIn_struct w 9999 t _ _ A B];generalize hF:(P.fieldsOf t).toList=F at d;rcases F with _ | ⟨f,_ | ⟨g,_ | ⟨q,F⟩⟩⟩
 ·simp at d
 ·simp at d
 ·simp only[List.map_cons,List.map_nil,List.cons.injEq,Prod.mk.injEq,and_true] at d
  obtain⟨⟨Q,t1,R⟩,S,t2,T⟩:=d;have U:f.name≠ "_":=by simpa using Q
  have V:g.name≠ "_":=by simpa using S
  have X: ∀(a b c:Int) (s:ByteArray),(part m #[.int k a,.int k b,.int k c,.string s] 0).run P w = .ok (.agg #[.int k a,.int k b,.int k c]) w:=λ a b c s=>by
   simp[part,v.isAgg,v.sizeOf,I,H,Sem.run_bind]
  have Y: ∀(a b c:Int) (s:ByteArray),(part u #[.int k a,.int k b,.int k c,.string s] 3).run P w = .ok (.string s) w:=λ a b c s=>Cp0 J L N w [.int k a,.int k b,.int k c,.string s] 3 _ rfl;have Z:=Eq9 C he D E G w 9997 a b c x y z;have e2:(Op.equalIn 9999 u (.string s) (.string r)).run P w = .ok (s == r) w:=by
   rw[Op.equalIn,Sem.run_bind,run_underlying hu,Result.andThen_ok];rfl
  have r0:(Op.eqFields 9999 #[.int k a,.int k b,.int k c,.string s] #[.int k x,.int k y,.int k z,.string r] []).run P w = .ok true w:=by simp[Op.eqFields]
  have r1:(Op.eqFields 9999 #[.int k a,.int k b,.int k c,.string s] #[.int k x,.int k y,.int k z,.string r] [g]).run P w = .ok (s == r) w:=by
   rw[Op.eqFields,if_pos V,t2,T];simp only[Sem.run_bind,Y,e2,Result.andThen_ok];cases(s == r)
   ·rfl
   ·exact r0
  rw[Op.eqFields,if_pos U,t1,R];simp only[Sem.run_bind,X,Z,Result.andThen_ok];have key:(if(!(a == x && (b == y && c == z)))=true then(pure false:Sem Bool) else Op.eqFields 9999 #[.int k a,.int k b,.int k c,.string s] #[.int k x,.int k y,.int k z,.string r] [g]).run P w = .ok ((a == x && (b == y && c == z)) && s == r) w:=by
   cases(a == x && (b == y && c == z))
   ·rfl
   ·exact r1
  rw[key];have ac:(s == r)=decide (s=r):=by
   rw[beq_toListBytes]
   by_cases n:s=r
   ·simp[n]
   ·have:s.toList≠r.toList:=λ e=>n (by
     rw[ByteArray.toList_eq,ByteArray.toList_eq] at e;exact ByteArray.ext (Array.ext' e))
    simp[n,this]
  rw[ac];congr 1
  by_cases h1:a=x<;>by_cases h2:b=y<;>by_cases h3:c=z<;>by_cases n:s=r<;>simp[h1,h2,h3,n]
 ·simp at d
end Go.SX
namespace Go.SX
variable {a:Act}{bl:Blk}{s:SV}{st:SS}
variable {P:Program} {tt:List (Nat×TyI)} {W0:PW} {M:Nat->Prop}
theorem Az7.mono {n m:Nat}{β:Nat->Nat}{σ:Nat->Value}(h:Az7 n β σ s)(hm:n<=m):Az7 m β σ s:=by
 cases s with
 | p k _=>exact Nat.lt_of_lt_of_le h hm
 | o k=>exact Nat.lt_of_lt_of_le h hm
 | oe k sz i off=>exact⟨h.1,Nat.lt_of_lt_of_le h.2 hm⟩
 | pe=>exact Nat.lt_of_lt_of_le h hm
 | bs=>exact Nat.lt_of_lt_of_le h hm
 | _=>exact h
theorem Ar8 {β d:Nat->Nat}{σ f:Nat->Value}{n:Nat}(h: ∀k,k<n->d k=β k/\f k=σ k)(c:Az7 n β σ s):s.val d f=s.val β σ:=by
 cases s with
 | p k off=>simp only[SV.val,(h k c).1]
 | pe k b sz l i off=>simp only[SV.val,(h k c).1]
 | bs k n=>simp only[SV.val,(h k c).1]
 | o k=>simp only[SV.val,(h k c).2]
 | oe k sz i off=>simp only[SV.val,(h k c.2).2]
 | _=>rfl
theorem Ay6 {β c:Nat->Nat}{σ d:Nat->Value}{n:Nat}(h: ∀k,k<n->c k=β k/\d k=σ k)(b:Az7 n β σ s):Az7 n c d s:=by
 cases s with
 | p k off=>exact b
 | pe=>exact b
 | bs=>exact b
 | o k=>exact b
 | oe k sz i off=>exact⟨⟨b.1.choose,(Ar8 (s:=.oe k sz i off) h b).trans b.1.choose_spec⟩,b.2⟩
 | e s sz i off=>obtain⟨f,h1⟩:=b;exact⟨f,h1⟩
 | _=>trivial
theorem Ad7 {β b:Nat->Nat}{σ c:Nat->Value}{n:Nat}(h: ∀k,k<n->b k=β k/\c k=σ k){k:Nat}(hk:k<n):Ab8 b c k bl=Ab8 β σ k bl:=by
 cases bl<;>simp only[Ab8]<;>first | rfl | rw[(h _ hk).1] | rw[(h _ hk).2]
structure Ah1 (st st':SS):Prop where
 nx:st.nx<=st'.nx
 n:st'.n=st.n
 D: ∃new,st'.D=new ++ st.D/\∀k,k<st.nx->k∉new->look st'.C k=look st.C k
theorem Ah1.refl (st:SS):Ah1 st st:=⟨Nat.le_refl _,rfl,[],rfl,λ _ _ _=>rfl⟩
theorem Ah1.trans {b:SS}{a c:SS}(h:Ah1 a b)(k:Ah1 b c):Ah1 a c:=by
 obtain⟨f,h1,g⟩:=h.D;obtain⟨j,k1,m⟩:=k.D;refine⟨Nat.le_trans h.nx k.nx,k.n.trans h.n,j ++ f,by rw[k1,h1];simp,λ i hi d=>?_⟩;simp only[List.mem_append,not_or] at d;exact(m i (Nat.lt_of_lt_of_le hi h.nx) d.1).trans (g i hi d.2)
structure Run (W0:PW) (M:Nat->Prop) (st:SS) (W:PW) (β:Nat->Nat) (σ:Nat->Value) (a:Act) (Wa:PW):Prop where
 rel:Rel β σ st a Wa
 ext:Ext W Wa
 Ai1:Am7 M W0.w Wa.w
 priv: ∀b,Wa.S b->W0.S b\/W0.w.heap.size<=b
 lt: ∀b,Wa.S b->b<Wa.w.heap.size
 s0: ∀b,W0.S b->Wa.S b
 b0: ∀b,W0.S b->b<W0.w.heap.size
 nC: ∀k bl,look st.C k=some bl->k<st.nx
 fresh: ∀k bl g,look st.C k=some bl->Ab8 β σ k bl=some g->W0.w.heap.size<=g
theorem Ca6 {β:Nat->Nat}{σ:Nat->Value}{W:PW}{k:Nat}{g:Nat}(h:Cm9 β σ W k bl)(b:Ab8 β σ k bl=some g):W.S g:=by
 cases bl with
 | box cs=>simp only[Ab8,Option.some.injEq] at b;subst b;exact h.2
 | row t sz xs=>exact h.2 g b
 | itr=>simp only[Ab8,Option.some.injEq] at b;subst b;exact h.2
 | _=>simp[Ab8] at b
theorem Cm9.same {β d:Nat->Nat}{σ f:Nat->Value}{W W':PW}{k n:Nat}(h:Cm9 β σ W k bl)(b: ∀k,k<n->d k=β k/\f k=σ k)(hk:k<n)(c: ∀g,Ab8 β σ k bl=some g->W'.w.heap[g]?=W.w.heap[g]?/\W'.S g):Cm9 d f W' k bl:=by
 cases bl with
 | box cs=>
  obtain⟨⟨t,j⟩,m⟩:=h;have:=c (β k) rfl;exact⟨⟨t,by rw[(b k hk).1,this.1];exact j⟩,by rw[(b k hk).1];exact this.2⟩
 | row t sz xs=>
  obtain⟨⟨v,p⟩,m⟩:=h;refine⟨⟨v,?_⟩,λ g q=>?_⟩
  ·rw[(b k hk).2]
   refine⟨p.1,?_⟩;rcases p.2 with w | ⟨g,cap,cur,u,y,z,A⟩
   ·exact .inl w
   ·have:=c g (by simp[Ab8,u,Value.ownBlock])
    exact .inr ⟨g,cap,cur,u,y,this.1.trans z,A⟩
  ·rw[(b k hk).2] at q
   exact(c g q).2
 | pub x=>show f k=x;rw[(b k hk).2];exact h
 | pbx r=>show r=some ⟨d k,0,none⟩;rw[(b k hk).1];exact h
 | dead=>trivial
 | itr g0 kt et since seen last cur=>
  obtain⟨j,m⟩:=h;have:=c (β k) rfl;exact⟨by rw[(b k hk).1,this.1];exact j,by rw[(b k hk).1];exact this.2⟩
theorem Run.world {W Wa Wa':PW}{β:Nat->Nat}{σ:Nat->Value}{N:Nat->Prop}(h:Run W0 M st W β σ a Wa)(hk:Am7 N Wa.w Wa'.w)(d: ∀b,Wa'.S b↔Wa.S b)(j: ∀g,N g->¬Wa.S g/\may W0 M g):Run W0 M st Wa' β σ a Wa' where
 rel:=⟨h.rel.defers,h.rel.size,h.rel.T,λ k bl m=>(h.rel.C k bl m).same (n:=k+1) (λ _ _=>⟨rfl,rfl⟩) (Nat.lt_succ_self k) λ g p=>by
   have f:=Ca6 (h.rel.C k bl m) p;exact⟨hk.block g (h.lt g f) λ q=>(j g q).1 f,(d g).2 f⟩,h.rel.inj,h.rel.dom⟩
 ext:=Ext.refl _
 Ai1:=h.Ai1.then hk λ i hi=>(j i hi).2
 priv:=λ b c=>h.priv b ((d b).1 c)
 lt:=λ b c=>Nat.lt_of_lt_of_le (h.lt b ((d b).1 c)) hk.size
 s0:=λ b c=>(d b).2 (h.s0 b c)
 b0:=h.b0
 nC:=h.nC
 fresh:=h.fresh
theorem Run.here {W Wa:PW}{β:Nat->Nat}{σ:Nat->Value}(h:Run W0 M st W β σ a Wa):Run W0 M st Wa β σ a Wa:=⟨h.rel,Ext.refl _,h.Ai1,h.priv,h.lt,h.s0,h.b0,h.nC,h.fresh⟩
theorem Ab4 {α:Type}(k:Nat)(x:α)(r:List (Nat×α))(i:Nat):look ((k,x)::r) i=if k=i then some x else look r i:=by
 simp only[look]
 cases b:Nat.beq k i with
 | true=>simp[Nat.eq_of_beq_eq_true b]
 | false=>simp[Nat.ne_of_beq_eq_false b]
def upd {α:Type} (f:Nat->α) (k:Nat) (x:α):Nat->α:=λ i=>if i=k then x else f i
theorem Run.new {v':Value}{W Wa Wa':PW}{β:Nat->Nat}{σ:Nat->Value}(h:Run W0 M st W β σ a Wa){b':Nat}(hk:Am7 (λ _=>False) Wa.w Wa'.w)(r: ∀b,Wa'.S b↔Wa.S b\/Ab8 (upd β st.nx b') (upd σ st.nx v') st.nx bl=some b)(n:Cm9 (upd β st.nx b') (upd σ st.nx v') Wa' st.nx bl)(q: ∀g,Ab8 (upd β st.nx b') (upd σ st.nx v') st.nx bl=some g->Wa.w.heap.size<=g/\g<Wa'.w.heap.size):
  Run W0 M (Ac4 st bl) W (upd β st.nx b') (upd σ st.nx v') a Wa'/\Ah1 st (Ac4 st bl)/\(∀k,k<st.nx->upd β st.nx b' k=β k/\upd σ st.nx v' k=σ k):=by
 have j: ∀k,k<st.nx->upd β st.nx b' k=β k/\upd σ st.nx v' k=σ k:=λ k hk=>by simp[upd,show k≠st.nx by omega]
 have u: ∀k bl',look (Ac4 st bl).C k=some bl'->(k=st.nx/\bl'=bl)\/(k<st.nx/\look st.C k=some bl'):=by
  intro k bl' d;simp only[Ac4,Ab4] at d;split at d
  ·rename_i he;exact .inl ⟨he.symm,(Option.some.inj d).symm⟩
  ·exact .inr ⟨h.nC _ _ d,d⟩
 refine⟨⟨⟨h.rel.defers,h.rel.size,λ i s c=>?_,λ k bl' d=>?_,?_,h.rel.dom⟩,?_,?_,?_,?_,?_,h.b0,?_,?_⟩,?_,j⟩
 ·obtain⟨h1,v⟩:=h.rel.T i s c
  exact⟨h1.trans (Ar8 j v).symm,(Ay6 j v).mono (Nat.le_succ _)⟩
 ·rcases u k bl' d with⟨rfl,rfl⟩ | ⟨f,p⟩
  ·exact n
  ·refine(h.rel.C k bl' p).same j f λ g m=>?_
   have c:=Ca6 (h.rel.C k bl' p) m;exact⟨hk.block g (h.lt g c) id,(r g).2 (.inl c)⟩
 ·intro k k' z A g B h1 v w y
  have C: ∀k bl',look st.C k=some bl'->k<st.nx->Ab8 (upd β st.nx b') (upd σ st.nx v') k bl'=some g->g<Wa.w.heap.size:=by
   intro k bl' d f m;rw[Ad7 j f] at m;exact h.lt g (Ca6 (h.rel.C k bl' d) m)
  rcases u k z h1 with⟨rfl,rfl⟩ | ⟨f,d⟩<;>rcases u k' A v with⟨rfl,rfl⟩ | ⟨D,p⟩
  ·exact B rfl
  ·have:=C k' A p D y
   have:=(q g w).1;omega
  ·have:=C k z d f w
   have:=(q g y).1;omega
  ·rw[Ad7 j f] at w
   rw[Ad7 j D] at y;exact h.rel.inj k k' z A g B d p w y
 ·refine h.ext.trans ⟨hk.size,λ b E F=>⟨hk.block b E id,λ c=>?_⟩⟩
  rcases(r b).1 c with c | c
  ·exact F c
  ·have:=(q b c).1
   omega
 ·exact h.Ai1.then hk λ i hi=>hi.elim
 ·intro b n
  rcases(r b).1 n with c | c
  ·exact h.priv b c
  ·exact .inr (Nat.le_trans h.Ai1.size (q b c).1)
 ·intro b n
  rcases(r b).1 n with c | c
  ·exact Nat.lt_of_lt_of_le (h.lt b c) hk.size
  ·exact(q b c).2
 ·exact λ b n=>(r b).2 (.inl (h.s0 b n))
 ·intro k bl' d
  rcases u k bl' d with⟨rfl,_⟩ | ⟨f,_⟩
  ·exact Nat.lt_succ_self _
  ·exact Nat.lt_succ_of_lt f
 ·intro k bl' g d m
  rcases u k bl' d with⟨rfl,rfl⟩ | ⟨f,p⟩
  ·exact Nat.le_trans h.Ai1.size (q g m).1
  ·rw[Ad7 j f] at m
   exact h.fresh k bl' g p m
 ·refine⟨Nat.le_succ _,rfl,[],rfl,λ k hk _=>?_⟩
  simp only[Ac4,Ab4];rw[if_neg (by omega)]
theorem Run.set {c:Blk}{W Wa Wa':PW}{β:Nat->Nat}{σ:Nat->Value}(h:Run W0 M st W β σ a Wa){k:Nat}(hold:look st.C k=some c)(hk:Am7 (λ b=>Ab8 β σ k c=some b) Wa.w Wa'.w)(v: ∀b,Wa'.S b->Wa.S b)(A: ∀b,Wa.S b->¬Ab8 β σ k c=some b->Wa'.S b)(f:Cm9 β σ Wa' k bl)(w: ∀g,Ab8 β σ k bl=some g->Ab8 β σ k c=some g):
  Run W0 M (Af0 st k bl) W β σ a Wa'/\Ah1 st (Af0 st k bl):=by
 have q: ∀i bl',look (Af0 st k bl).C i=some bl'->(i=k/\bl'=bl)\/(i≠k/\look st.C i=some bl'):=by
  intro i bl' d;simp only[Af0,Ab4] at d;split at d
  ·rename_i he;exact .inl ⟨he.symm,(Option.some.inj d).symm⟩
  ·rename_i j;exact .inr ⟨λ e=>j e.symm,d⟩
 have F: ∀g,Ab8 β σ k c=some g->¬W0.S g:=λ g e p=>by have:=h.b0 g p;have:=h.fresh k c g hold e;omega
 refine⟨⟨⟨h.rel.defers,h.rel.size,h.rel.T,λ i bl' d=>?_,?_,h.rel.dom⟩,?_,?_,?_,?_,?_,h.b0,?_,?_⟩,?_⟩
 ·rcases q i bl' d with⟨rfl,rfl⟩ | ⟨j,m⟩
  ·exact f
  ·refine(h.rel.C i bl' m).same (n:=i+1) (λ _ _=>⟨rfl,rfl⟩) (Nat.lt_succ_self i) λ g r=>?_
   have p:=Ca6 (h.rel.C i bl' m) r;have B:¬Ab8 β σ k c=some g:=λ e=>h.rel.inj i k bl' c g j m hold r e;exact⟨hk.block g (h.lt g p) B,A g p B⟩
 ·intro i u b1 b2 g j h1 G y z
  rcases q i b1 h1 with⟨rfl,rfl⟩ | ⟨J,C⟩<;>rcases q u b2 G with⟨rfl,rfl⟩ | ⟨L,D⟩
  ·exact j rfl
  ·exact h.rel.inj i u c b2 g j hold D (w g y) z
  ·exact h.rel.inj i u b1 c g j C hold y (w g z)
  ·exact h.rel.inj i u b1 b2 g j C D y z
 ·refine h.ext.trans ⟨hk.size,λ b H E=>⟨hk.block b H λ e=>E (Ca6 (h.rel.C k c hold) e),λ p=>E (v b p)⟩⟩
 ·exact h.Ai1.then hk λ i hi=>.inr (h.fresh k c i hold hi)
 ·exact λ b f=>h.priv b (v b f)
 ·exact λ b f=>Nat.lt_of_lt_of_le (h.lt b (v b f)) hk.size
 ·exact λ b f=>A b (h.s0 b f) λ e=>F b e f
 ·intro i bl' d
  rcases q i bl' d with⟨rfl,_⟩ | ⟨_,m⟩
  ·exact h.nC _ _ hold
  ·exact h.nC _ _ m
 ·intro i bl' g d r
  rcases q i bl' d with⟨rfl,rfl⟩ | ⟨_,m⟩
  ·exact h.fresh i c g hold (w g r)
  ·exact h.fresh i bl' g m r
 ·refine⟨Nat.le_refl _,rfl,[k],rfl,λ i hi I=>?_⟩
  simp only[Af0,Ab4];rw[if_neg (by simpa using λ e=>I (by simp[e]))]
end Go.SX
namespace Go.SX
variable {a:Act}{o:Oper}{st:SS}{w':World}{x:Operand}
variable {P:Program} {tt:List (Nat×TyI)} {W0:PW} {M:Nat->Prop}
theorem Own.Er0 {t:TypeId}{W:PW}{sz:Nat}{v:Value}{xs:List (List Value)}(h:Ai0 W.w t sz v xs)(c: ∀g,v.ownBlock=some g->¬W.S g): ∃s:Sl,v=s.v/\Own W t sz s xs:=by
 obtain⟨d,b⟩:=h;rcases b.2 with⟨rfl,f⟩ | ⟨g,cap,cur,rfl,j⟩
 ·exact⟨⟨none,0,0⟩,rfl,⟨d,b⟩,c⟩
 ·exact⟨⟨_,_,_⟩,rfl,⟨d,b⟩,c⟩
theorem Cw9 {k:Nat}{W Wa:PW}{β:Nat->Nat}{σ:Nat->Value}{K:Value->SS->PW->Prop}(h:pub W0 k st W K)(c:Run W0 M st W β σ a Wa):
  ∃v st' W' Wa',K v st' W'/\σ k=v/\Wa'.w=Wa.w/\Run W0 M st' W' β σ a Wa'/\st'.T=st.T/\Ah1 st st':=by
 unfold pub at h;split at h
 ·rename_i t sz xs f
  obtain⟨hO,q⟩:=c.rel.C _ _ f;have n:=Run.set (Wa':=⟨Wa.w,λ b=>Wa.S b/\¬(σ k).ownBlock=some b⟩) (bl:=.pub (σ k)) c f (Am7.refl _ _) (λ b p=>p.1) (λ b p j=>⟨p,by simpa[Ab8] using j⟩) rfl (by simp[Ab8]);obtain⟨s,d,r⟩:=Own.Er0 (W:=⟨Wa.w,λ b=>Wa.S b/\¬(σ k).ownBlock=some b⟩) hO (λ g m j=>j.2 m);refine⟨s.v,_,_,⟨Wa.w,λ b=>Wa.S b/\¬(σ k).ownBlock=some b⟩,h s _ n.1.ext r (λ g m=>?_),d,rfl,?_,rfl,?_⟩
  ·refine⟨c.fresh k _ g f (by simpa[Ab8,d] using m),λ u=>Classical.byContradiction λ j=>(c.ext.Ai1 g u j).2 (q g (by rw[d];exact m))⟩
  ·have:=n.1.here
   rw[d] at this;rw[d];exact this
  ·have:=n.2
   rw[d] at this;exact this
 ·rename_i x f
  exact⟨x,st,W,Wa,h,c.rel.C _ _ f,rfl,c,rfl,Ah1.refl _⟩
 ·exact h.elim
def Ax6 (st:SS) (β:Nat->Nat) (σ:Nat->Value) (g:Nat):Prop:=∀k bl,look st.C k=some bl->Ab8 β σ k bl≠some g
theorem Es3 {l:List Value}(h:Fn3 l=true): ∀u∈l,u.oneCell'=true:=λ u hu=>List.all_eq_true.1 h u hu
theorem Cb2 (cs:List Value):(cs.map λ c=>[c]).flatten=cs:=by
 induction cs with
 | nil=>rfl
 | cons c r ih=>simp[ih]
theorem Ce5 {k n:Nat}{W Wa:PW}{β:Nat->Nat}{σ:Nat->Value}{K:Value->SS->PW->Prop}(h:Fs3 W0 k n st W K)(m:Run W0 M st W β σ a Wa):
  ∃v st' W' Wa',K v st' W'/\SV.val β σ (.bs k n)=v/\Wa'.w=Wa.w/\Run W0 M st' W' β σ a Wa'/\st'.T=st.T/\Ah1 st st'/\∀g,Ax6 st β σ g->Wa.S g->Ax6 st' β σ g/\Wa'.S g:=by
 unfold Fs3 at h;split at h
 ·rename_i cs p
  split at h
  ·rename_i B f
   obtain rfl:=Nat.eq_of_beq_eq_true B;simp only[Bool.and_eq_true] at f;obtain⟨⟨f,z⟩,C⟩:=f;have f:1<=cs.length:=Nat.le_of_ble_eq_true f;have z:cs.length<=1000:=Nat.le_of_ble_eq_true z;obtain⟨⟨t,D⟩,E⟩:=m.rel.C _ _ p;have q:=Run.set (Wa':=⟨Wa.w,λ b=>Wa.S b/\¬b=β k⟩) (bl:=.dead) m p (Am7.refl _ _) (λ b r=>r.1) (λ b r w=>⟨r,λ e=>w (by simp[Ab8,e])⟩) trivial (by simp[Ab8]);have F:Row ⟨Wa.w,λ b=>Wa.S b/\¬b=β k⟩ t 1 ⟨some ⟨β k,0,none⟩,cs.length,cs.length⟩ (cs.map λ c=>[c]):=by
    refine⟨by simp,Nat.le_refl _,by show cs.length<=_;simp only[maxLen];omega,λ x G=>?_,.inr ⟨β k,0,cs.toArray,(0,0),rfl,λ h=>h.2 rfl,D,λ j v A=>?_⟩⟩
    ·obtain⟨c,d,rfl⟩:=List.mem_map.1 G
     exact⟨rfl,λ u hu=>by rw[List.mem_singleton.1 hu];exact Es3 C c d⟩
    ·rw[Cb2] at A
     simpa using A
   refine⟨_,_,_,⟨Wa.w,λ b=>Wa.S b/\¬b=β k⟩,h ⟨some ⟨β k,0,none⟩,cs.length,cs.length⟩ _ q.1.ext ⟨t,F⟩ (λ g y=>?_),rfl,rfl,q.1.here,rfl,q.2,λ g h1 H=>⟨?_,H,?_⟩⟩
   ·have y:β k=g:=by simpa[Value.ownBlock] using y
    subst y;exact⟨m.fresh k _ _ p rfl,λ I=>Classical.byContradiction λ w=>(m.ext.Ai1 _ I w).2 E⟩
   ·intro i bl d
    simp only[Af0,Ab4] at d;split at d
    ·obtain rfl:=Option.some.inj d
     simp[Ab8]
    ·exact h1 i bl d
   ·rintro rfl
    exact h1 k _ p rfl
  ·exact h.elim
 ·exact h.elim
theorem Il5 {k:Nat}{W Wa:PW}{β:Nat->Nat}{σ:Nat->Value}{K:Value->SS->PW->Prop}(h:Jd4 W0 k st W K)(c:Run W0 M st W β σ a Wa):
  ∃v st' W' Wa',K v st' W'/\SV.val β σ (.p k 0)=v/\Wa'.w=Wa.w/\Run W0 M st' W' β σ a Wa'/\st'.T=st.T/\Ah1 st st'/\∀g,Ax6 st β σ g->Wa.S g->Ax6 st' β σ g/\Wa'.S g:=by
 unfold Jd4 at h;split at h
 ·rename_i cs d
  obtain⟨⟨t,w⟩,y⟩:=c.rel.C _ _ d;have f:=Run.set (Wa':=⟨Wa.w,λ b=>Wa.S b/\¬b=β k⟩) (bl:=.pbx (some ⟨β k,0,none⟩)) c d (Am7.refl _ _) (λ b n=>n.1) (λ b n p=>⟨n,λ e=>p (by simp[Ab8,e])⟩) rfl (by simp[Ab8]);have z:Aa7 ⟨Wa.w,λ b=>Wa.S b/\¬b=β k⟩ ⟨some ⟨β k,0,none⟩,1,1⟩ 1 0 0 cs:=⟨β k,0,cs.toArray,t,(0,0),rfl,λ h=>h.2 rfl,w,λ j v A=>by simpa using A⟩;refine⟨_,_,_,⟨Wa.w,λ b=>Wa.S b/\¬b=β k⟩,h (some ⟨β k,0,none⟩) _ f.1.ext z (λ g q=>?_),rfl,rfl,f.1.here,rfl,f.2,λ g h1 u=>⟨?_,u,?_⟩⟩
  ·have q:β k=g:=by simpa[Value.ownBlock] using q
   subst q;exact⟨c.fresh k _ _ d rfl,λ B=>Classical.byContradiction λ p=>(c.ext.Ai1 _ B p).2 y⟩
  ·intro i bl m
   simp only[Af0,Ab4] at m;split at m
   ·obtain rfl:=Option.some.inj m
    simp[Ab8]
   ·exact h1 i bl m
  ·rintro rfl
   exact h1 k _ d rfl
 ·rename_i r d
  have f:r=some ⟨β k,0,none⟩:=c.rel.C _ _ d;exact⟨_,st,W,Wa,h,by rw[f];rfl,rfl,c,rfl,Ah1.refl _,λ g h1 u=>⟨h1,u⟩⟩
 ·exact h.elim
theorem Ah3 {W Wa:PW}{β:Nat->Nat}{σ:Nat->Value}{K:Value->SS->PW->Prop}(h:evP W0 x st W K)(b:Run W0 M st W β σ a Wa):
  ∃v st' W' Wa',K v st' W'/\a.eval x=v/\Wa'.w=Wa.w/\Run W0 M st' W' β σ a Wa'/\st'.T=st.T/\Ah1 st st':=by
 obtain⟨s,c,h1⟩:=Ac8 (W:=W) h;have he:=(h1 β σ a Wa b.rel b.ext).1;have plain: ∀{s},toV st s (λ v=>K v st W)->a.eval x=s.val β σ->∃v st' W' Wa',K v st' W'/\a.eval x=v/\Wa'.w=Wa.w/\Run W0 M st' W' β σ a Wa'/\st'.T=st.T/\Ah1 st st':=by
  intro s c he;obtain⟨v,d,f⟩:=Av9 (W:=W) c;exact⟨v,st,W,Wa,d,he.trans (f β σ a Wa b.rel b.ext),rfl,b,rfl,Ah1.refl _⟩
 cases s with
 | o k=>
  obtain⟨v,st',W',Wa',g,d,q⟩:=Cw9 c b;exact⟨v,st',W',Wa',g,he.trans d,q⟩
 | bs k n=>
  obtain⟨v,st',W',Wa',g,d,h1,f,j,m,_⟩:=Ce5 c b;exact⟨v,st',W',Wa',g,he.trans d,h1,f,j,m⟩
 | p k off=>
  cases off with
  | zero=>
   obtain⟨v,st',W',Wa',g,d,h1,f,j,m,_⟩:=Il5 c b;exact⟨v,st',W',Wa',g,he.trans d,h1,f,j,m⟩
  | succ off=>exact c.elim
 | _=>exact plain c he
theorem Bh0: ∀{l:List Operand} {st:SS} {W Wa:PW} {β:Nat->Nat} {σ:Nat->Value} {a:Act} {K:List Value->SS->PW->Prop} (_:Fh7 W0 l st W K) (_:Run W0 M st W β σ a Wa),
  ∃vs st' W' Wa',K vs st' W'/\l.map a.eval=vs/\Wa'.w=Wa.w/\Run W0 M st' W' β σ a Wa'/\st'.T=st.T/\Ah1 st st'
 | [],st,W,Wa,β,σ,a,K,h,b=>⟨[],st,W,Wa,h,rfl,rfl,b,rfl,Ah1.refl _⟩
 | x::r,st,W,Wa,β,σ,a,K,h,b=>by
  obtain⟨v,st1,y,z,h1,he,hw,c,d,f⟩:=Ah3 h b;obtain⟨vs,st2,g,j,m,n,p,q,u,w⟩:=Bh0 (l:=r) h1 c;exact⟨v::vs,st2,g,j,m,by simp[he,n],p.trans hw,q,u.trans d,f.trans w⟩
theorem Ax6.set {bl:Blk}{β:Nat->Nat}{σ:Nat->Value}{g k:Nat}(h:Ax6 st β σ g)(c:Ab8 β σ k bl≠some g):Ax6 (Af0 st k bl) β σ g:=by
 intro i bl' b;simp only[Af0,Ab4] at b;split at b
 ·rename_i he;subst he;obtain rfl:=Option.some.inj b;exact c
 ·exact h i bl' b
theorem Cd7 {W Wa:PW}{β:Nat->Nat}{σ:Nat->Value}{K:Value->SS->PW->Prop}(h:evP W0 x st W K)(c:Run W0 M st W β σ a Wa):
  ∃v st' W' Wa',K v st' W'/\a.eval x=v/\Wa'.w=Wa.w/\Run W0 M st' W' β σ a Wa'/\st'.T=st.T/\Ah1 st st'/\(∀g,Ax6 st β σ g->Wa.S g->Ax6 st' β σ g/\Wa'.S g):=by
 obtain⟨s,d,h1⟩:=Ac8 (W:=W) h;have he:=(h1 β σ a Wa c.rel c.ext).1;have plain: ∀{s},toV st s (λ v=>K v st W)->a.eval x=s.val β σ->∃v st' W' Wa',K v st' W'/\a.eval x=v/\Wa'.w=Wa.w/\Run W0 M st' W' β σ a Wa'/\st'.T=st.T/\Ah1 st st'/\(∀g,Ax6 st β σ g->Wa.S g->Ax6 st' β σ g/\Wa'.S g):=by
  intro s d he;obtain⟨v,q,f⟩:=Av9 (W:=W) d;exact⟨v,st,W,Wa,q,he.trans (f β σ a Wa c.rel c.ext),rfl,c,rfl,Ah1.refl _,λ g h1 f=>⟨h1,f⟩⟩
 cases s with
 | o k=>
  simp only[pub] at d;split at d
  ·rename_i t sz xs j
   obtain⟨hO,J⟩:=c.rel.C _ _ j;have u:=Run.set (Wa':=⟨Wa.w,λ b=>Wa.S b/\¬(σ k).ownBlock=some b⟩) (bl:=.pub (σ k)) c j (Am7.refl _ _) (λ b w=>w.1) (λ b w r=>⟨w,by simpa[Ab8] using r⟩) rfl (by simp[Ab8]);obtain⟨s,C,D⟩:=Own.Er0 (W:=⟨Wa.w,λ b=>Wa.S b/\¬(σ k).ownBlock=some b⟩) hO (λ g m r=>r.2 m);have E:=u.1.here;have F:=u.2;have G:=u.1.ext;have H: ∀g,Ax6 st β σ g->Wa.S g->Ax6 (Af0 st k (.pub (σ k))) β σ g/\(Wa.S g/\¬(σ k).ownBlock=some g):=λ g h1 f=>⟨h1.set (by simp[Ab8]),f,λ e=>h1 k _ j (by simpa[Ab8] using e)⟩;have I: ∀g,(σ k).ownBlock=some g->W0.w.heap.size<=g/\(g<W.w.heap.size->W.S g):=λ g m=>⟨c.fresh k (.row t sz xs) g j (by simpa[Ab8] using m),λ L=>Classical.byContradiction λ r=>(c.ext.Ai1 g L r).2 (J g m)⟩;rw[C] at E F G D H I;exact⟨s.v,_,_,⟨Wa.w,λ b=>Wa.S b/\¬s.v.ownBlock=some b⟩,d s _ G D (λ g m=>I g m),he.trans C,rfl,E,rfl,F,H⟩
  ·rename_i N j
   exact⟨N,st,W,Wa,d,he.trans (c.rel.C _ _ j),rfl,c,rfl,Ah1.refl _,λ g h1 f=>⟨h1,f⟩⟩
  ·exact d.elim
 | bs k n=>
  obtain⟨v,st',W',Wa',y,q,h1,f,z,A,B⟩:=Ce5 d c;exact⟨v,st',W',Wa',y,he.trans q,h1,f,z,A,B⟩
 | p k off=>
  cases off with
  | zero=>
   obtain⟨v,st',W',Wa',y,q,h1,f,z,A,B⟩:=Il5 d c;exact⟨v,st',W',Wa',y,he.trans q,h1,f,z,A,B⟩
  | succ off=>exact d.elim
 | _=>exact plain d he
theorem Bb3: ∀{l:List Operand} {st:SS} {W Wa:PW} {β:Nat->Nat} {σ:Nat->Value} {a:Act} {K:List Value->SS->PW->Prop} (_:Fh7 W0 l st W K) (_:Run W0 M st W β σ a Wa),
  ∃vs st' W' Wa',K vs st' W'/\l.map a.eval=vs/\Wa'.w=Wa.w/\Run W0 M st' W' β σ a Wa'/\st'.T=st.T/\Ah1 st st'/\∀g,Ax6 st β σ g->Wa.S g->Ax6 st' β σ g/\Wa'.S g
 | [],st,W,Wa,β,σ,a,K,h,b=>⟨[],st,W,Wa,h,rfl,rfl,b,rfl,Ah1.refl _,λ _ h1 c=>⟨h1,c⟩⟩
 | x::r,st,W,Wa,β,σ,a,K,h,b=>by
  obtain⟨v,st1,A,B,h1,he,hw,d,f,j,hF⟩:=Cd7 h b;obtain⟨vs,st2,m,n,c,p,q,u,w,y,z⟩:=Bb3 (l:=r) h1 d;exact⟨v::vs,st2,m,n,c,by simp[he,p],q.trans hw,u,w.trans f,j.trans y,λ g g1 g2=>let k:=hF g g1 g2;z g k.1 k.2⟩
def Res (W0:PW) (M:Nat->Prop) (st:SS) (β:Nat->Nat) (σ:Nat->Value) (a:Act) (o:Oper) (K:SV->SS->PW->Prop) (a':Act) (w':World):Prop:=
 ∃s b c st' W' Wa',Wa'.w=w'/\a'=a.put o.dst (s.val b c)/\Run W0 M st' W' b c a Wa'/\Az7 st'.nx b c s/\st'.T=st.T/\K s st' W'/\Ah1 st st'/\∀k,k<st.nx->b k=β k/\c k=σ k
def Az0 (P:Program) (W0:PW) (M:Nat->Prop) (st:SS) (W:PW) (o:Oper) (K:SV->SS->PW->Prop):Prop:=
 ∀β σ a Wa Q,Run W0 M st W β σ a Wa->o.wp P a Wa.w (Res W0 M st β σ a o K) Q
theorem Ae1 {w:World}{v:Value}{next:Act->World->Prop}{Q:Exit->Act->World->Prop}(h:(execOp a.eval o).run P w = .ok (.value v) w')(b:next (a.put o.dst v) w'):o.wp P a w next Q:=by
 unfold Oper.wp;rw[h];exact b
theorem Ay3 {w:World}{next:Act->World->Prop}{Q:Exit->Act->World->Prop}(h:(execOp a.eval o).run P w = .ok .skip w')(b:next (a.put o.dst undef) w'):o.wp P a w next Q:=by
 unfold Oper.wp;rw[h];exact b
theorem Ab2 {β:Nat->Nat}{σ:Nat->Value}{n:Nat}: ∀k,k<n->β k=β k/\σ k=σ k:=λ _ _=>⟨rfl,rfl⟩
end Go.SX
namespace Go.SX
variable {a:Act}{t:TypeId}
variable {P:Program} {tt:List (Nat×TyI)} {W0:PW} {M:Nat->Prop}
theorem Al5: ∀(l cs:List Value) (o:Nat),o+l.length<=cs.length->Aj6 cs o l=cs.take o ++ l ++ cs.drop (o+l.length)
 | [],cs,o,_=>by simp[Aj6]
 | x::r,cs,o,h=>by
  simp only[List.length_cons] at h;rw[Aj6,Al5 r _ _ (by simp;omega)];have b:o<cs.length:=by omega
  rw[List.set_eq_take_append_cons_drop,if_pos b];have c:(List.take o cs ++ x::List.drop (o+1) cs).take o.succ=cs.take o ++ [x]:=by
   rw[List.take_append,List.length_take];have:List.take (o+1) (List.take o cs)=List.take o cs:=List.take_of_length_le (by simp;omega);simp[show min o cs.length=o by omega,this]
  have d:(List.take o cs ++ x::List.drop (o+1) cs).drop (o.succ+r.length)=cs.drop (o+(x::r).length):=by
   rw[List.drop_append,List.length_take,show min o cs.length=o by omega,List.drop_of_length_le (by simp;omega)];simp only[List.nil_append,List.length_cons];rw[show o.succ+r.length-o=r.length+1 by omega,List.drop_succ_cons,List.drop_drop];congr 1;omega
  rw[c,d];simp
theorem Bd5 {l:List Value}(h:Ed1 l=true): ∀u∈l,u.oneCell'=true:=List.all_eq_true.1 h
theorem Ap5 {sz:Nat}: ∀{xs:List (List Value)} (_: ∀x∈xs,x.length=sz) {i:Nat} (_:i<xs.length) {l:List Value} (_:l.length=sz),(xs.set i l).flatten=Aj6 xs.flatten (i*sz) l
 | [],_,i,h,_,_=>by simp at h
 | x::r,b,0,_,l,h=>by
  rw[Al5 _ _ _ (by simp[h,b x (by simp)])];simp[h,b x (by simp)]
 | x::r,b,i+1,hi,l,h=>by
  have c:=b x (by simp);have d: ∀y∈r,y.length=sz:=λ y g=>b y (by simp[g]);have f:i<r.length:=by simpa using hi
  have hlen:r.flatten.length=r.length*sz:=by
   clear hi f b h
   induction r with
   | nil=>simp
   | cons y r ih=>simp only[List.flatten_cons,List.length_append,List.length_cons,ih (λ z j=>d z (by simp[j])),d y (by simp),Nat.add_mul];omega
  have hle:i*sz+sz<=r.flatten.length:=by rw[hlen,<-Nat.succ_mul];exact Nat.mul_le_mul_right _ f
  simp only[List.set_cons_succ,List.flatten_cons,Ap5 d f h];rw[Al5 _ _ _ (by omega),Al5 _ _ _ (by simp only[List.length_append,c,h,Nat.add_mul];omega)];have h1:List.take ((i+1)*sz) x=x:=List.take_of_length_le (by rw[c,Nat.add_mul];omega);have m:List.drop ((i+1)*sz+l.length) x = []:=List.drop_of_length_le (by rw[c,Nat.add_mul];omega);rw[List.take_append,List.drop_append,h1,m,c,show(i+1)*sz-sz=i*sz by rw[Nat.add_mul];omega,show(i+1)*sz+l.length-sz=i*sz+l.length by rw[Nat.add_mul];omega];simp
theorem Ac0 {sz:Nat}{xs:List (List Value)}(h: ∀x∈xs,x.length=sz):xs.flatten.length=xs.length*sz:=by
 induction xs with
 | nil=>simp
 | cons y r ih=>simp only[List.flatten_cons,List.length_append,List.length_cons,ih (λ z b=>h z (by simp[b])),h y (by simp),Nat.add_mul];omega
theorem Fk5 {α:Type}(n:Nat)(x:α):rep n x=List.replicate n x:=by
 induction n with
 | zero=>rfl
 | succ n ih=>simp[rep,ih,List.replicate_succ]
theorem Dc3 (z:Array Value)(n:Nat)(g:0<z.size):(madeCells z (n*z.size)).toList=(List.replicate n z.toList).flatten:=by
 have b: ∀x∈List.replicate n z.toList,x.length=z.size:=by intro x h;rw[List.eq_of_mem_replicate h];simp
 apply List.ext_getElem?;intro j
 by_cases c:j<n*z.size
 ·have m:j/z.size<n:=Nat.div_lt_of_lt_mul (by rw[Nat.mul_comm];exact c)
  have d:j%z.size<z.size:=Nat.mod_lt _ g;have f:=Ao8 b (i:=j/z.size) (x:=z.toList) (by simp[m]) (j:=j%z.size) (v:=z[j%z.size]) (by simp[d]);rw[show j/z.size*z.size+j%z.size=j by rw[Nat.mul_comm];exact Nat.div_add_mod _ _] at f;rw[f];simp[madeCells,c,d]
 ·rw[List.getElem?_eq_none (by simp[size_madeCells];omega),List.getElem?_eq_none (by rw[Ac0 b];simp;omega)]
section
variable {st:SS} {W:PW} {o:Oper} {K:SV->SS->PW->Prop}
theorem Ek0 (c:Ac6 P tt)(hF:Ae7 tt)(h:fl tt st W o.op λ s=>K s st W):Az0 P W0 M st W o K:=by
 intro β σ a Wa Q b;obtain⟨s,d,h1⟩:=Bo1 c hF h;obtain⟨f,g⟩:=h1 β σ a Wa b.rel b.ext;exact Ae1 f ⟨s,β,σ,st,W,Wa,rfl,rfl,b,g,rfl,d,Ah1.refl _,Ab2⟩
theorem Res.of {a':Act}{w':World}{β:Nat->Nat}{σ:Nat->Value}{st1:SS}(c:st1.T=st.T)(b:Ah1 st st1)(h:Res W0 M st1 β σ a o K a' w'):Res W0 M st β σ a o K a' w':=by
 obtain⟨s,d,f,st',W',Wa',h1,g,j,m,n,p,q,r⟩:=h;exact⟨s,d,f,st',W',Wa',h1,g,j,m,n.trans c,p,b.trans q,λ k hk=>r k (Nat.lt_of_lt_of_le hk b.nx)⟩
theorem Di7 {Wa:PW}{β:Nat->Nat}{σ:Nat->Value}(d:Run W0 M st W β σ a Wa)(cs:List Value)(t:TypeId):
  let Wa':PW:=⟨Wa.w.alloc (.cells cs.toArray t),λ b=>Wa.S b\/b=Wa.w.heap.size⟩
  Run W0 M (Ac4 st (.box cs)) W (upd β st.nx Wa.w.heap.size) (upd σ st.nx undef) a Wa'/\Ah1 st (Ac4 st (.box cs))/\
   (∀k,k<st.nx->upd β st.nx Wa.w.heap.size k=β k/\upd σ st.nx undef k=σ k):=by
 refine Run.new d (Am7.alloc _ _ _) (λ b=>?_) ?_ ?_
 ·simp[Ab8,upd,eq_comm]
 ·refine⟨⟨t,?_⟩,?_⟩
  ·simp only[upd,if_true];exact heap_alloc_new _ _
  ·simp[upd]
 ·intro g c
  simp only[Ab8,upd,if_true,Option.some.injEq] at c;subst c;simp
theorem Ei7 {cs:Array Value}{Wa:PW}{β:Nat->Nat}{σ:Nat->Value}(m:Run W0 M st W β σ a Wa){e sz:Nat}{xs:List (List Value)}{n:Nat}(f: ∀x∈xs,x.length=sz/\∀u∈x,u.oneCell'=true)(h:xs.length=n)(hm:n<=maxLen)(j:cs.toList=xs.flatten):
  let v:=Value.slice (some ⟨Wa.w.heap.size,0,none⟩) n n
  let Wa':PW:=⟨Wa.w.alloc (.cells cs e),λ b=>Wa.S b\/b=Wa.w.heap.size⟩
  Run W0 M (Ac4 st (.row e sz xs)) W (upd β st.nx 0) (upd σ st.nx v) a Wa'/\Ah1 st (Ac4 st (.row e sz xs))/\(∀k,k<st.nx->upd β st.nx 0 k=β k/\upd σ st.nx v k=σ k):=by
 have p:cs.size=n*sz:=by
  rw[<-Array.length_toList,j,Ac0 (λ x c=>(f x c).1),h]
 refine Run.new m (Am7.alloc _ _ _) (λ b=>?_) ?_ ?_
 ·simp[Ab8,upd,Value.ownBlock,eq_comm]
 ·refine⟨⟨f,?_⟩,?_⟩
  ·simp only[upd,if_true]
   refine⟨Ac0 (λ x c=>(f x c).1),.inr ⟨Wa.w.heap.size,n,cs,by rw[h],Nat.zero_le _,heap_alloc_new _ _,by omega,hm,p,?_⟩⟩;rw[j,List.take_of_length_le];rw[Ac0 (λ x c=>(f x c).1)];omega
  ·intro g d
   simp only[upd,if_true,Value.ownBlock,Option.some.injEq] at d;exact .inr d.symm
 ·intro g d
  simp only[Ab8,upd,if_true,Value.ownBlock,Option.some.injEq] at d;subst d;simp
theorem Ef5 (b:Ac6 P tt){i:TyI}(c:o.op = .alloc t)(hi:look tt t=some i)(h:K (.p st.nx 0) (Ac4 st (.box i.zv.cells.toList)) W):Az0 P W0 M st W o K:=by
 intro β σ a Wa Q d;have f:=b.Aq3 hi;obtain⟨h1,g,j⟩:=Di7 d i.zv.cells.toList t;refine Ae1 (v:=.pointer (some ⟨Wa.w.heap.size,0,none⟩)) ?_ ⟨.p st.nx 0,_,_,_,W,_,rfl,?_,h1,Nat.lt_succ_self _,rfl,h,g,j⟩
 ·simp[execOp,c,Instr.alloc,f.zero,newVar,newRow]
 ·simp[SV.val,upd]
theorem Fg1 {x:Operand}(c:o.op = .box t x)(h:evP W0 x st W λ v st W=>K (.p st.nx 0) (Ac4 st (.box (Ac7 v))) W):Az0 P W0 M st W o K:=by
 intro β σ a Wa Q d;obtain⟨v,st1,f,r,g,he,hw,j,m,n⟩:=Ah3 h d;obtain⟨h1,p,b⟩:=Di7 j (Ac7 v) t;have q:(Ac7 v).toArray=v.cells:=by apply Array.ext';simp[Av1]
 rw[q,hw] at h1;refine Ae1 (v:=.pointer (some ⟨Wa.w.heap.size,0,none⟩)) ?_ (Res.of m n ⟨.p st1.nx 0,_,_,_,f,_,rfl,?_,h1,Nat.lt_succ_self _,rfl,g,p,by rw[hw] at b;exact b⟩)
 ·simp[execOp,c,he,Instr.box,newVar,newRow]
 ·simp[SV.val,upd]
theorem Ep5 (g:Ac6 P tt)(hF:Ae7 tt){parts:Array (Nat×Operand)}{i:TyI}(j:o.op = .build t parts)(hi:look tt t=some i)(m:i.agg=true)(h:Fh7 W0 (parts.toList.map (·.2)) st W λ _ st W=>Bq2 st (placeOf tt i) parts.toList i.zv.cells.toList λ cs=>K (.v (.agg cs.toArray)) st W):Az0 P W0 M st W o K:=by
 intro β σ a Wa Q n;obtain⟨vs,st1,d,b,p,he,hw,c,q,r⟩:=Bh0 h n;obtain⟨cs,u,h1⟩:=Ba6 (W:=d) g hF hi m p;refine Ae1 (v:=.agg cs.toArray) ?_ (Res.of q r ⟨.v (.agg cs.toArray),β,σ,st1,d,b,hw,rfl,c,trivial,rfl,u,Ah1.refl _,Ab2⟩);have f:(Instr.build t (parts.map λ(i,x)=>(i,a.eval x))).run P b.w = .ok (.agg cs.toArray) b.w:=h1 β σ a b c.rel c.ext;rw[hw] at f;simp[execOp,j,f]
theorem Bl4 {sz:Nat}: ∀{parts:List (Nat×Operand)} {xs:List (List Value)} {st:SS} {W Wa:PW} {β:Nat->Nat} {σ:Nat->Value} {a:Act} {K:List (List Value)->SS->PW->Prop} (_:Dq1 W0 sz parts xs st W K) (_:Run W0 M st W β σ a Wa)
  (_: ∀x∈xs,x.length=sz/\∀u∈x,u.oneCell'=true),
  ∃b st' W' Wa',K b st' W'/\Wa'.w=Wa.w/\Run W0 M st' W' β σ a Wa'/\st'.T=st.T/\Ah1 st st'/\(∀x∈b,x.length=sz/\∀u∈x,u.oneCell'=true)/\b.length=xs.length/\
   Instr.fill (λ i=>some (i*sz,sz)) xs.flatten.toArray (parts.map λ(i,x)=>(i,a.eval x))=some b.flatten.toArray
 | [],xs,st,W,Wa,β,σ,a,K,h,d,c=>⟨xs,st,W,Wa,h,rfl,d,rfl,Ah1.refl _,c,rfl,rfl⟩
 | (i,x)::r,xs,st,W,Wa,β,σ,a,K,h,d,c=>by
  obtain⟨v,st1,T,U,h1,he,hw,n,p,q⟩:=Ah3 h d;split at h1
  ·rename_i w z A
   have f:(Ac7 v).length=sz:=Nat.eq_of_beq_eq_true w;have m:i<xs.length:=Nat.le_of_ble_eq_true z;have B:=Bd5 A;have C: ∀x∈xs.set i (Ac7 v),x.length=sz/\∀u∈x,u.oneCell'=true:=by
    intro y g;rcases List.mem_or_eq_of_mem_set g with g | rfl
    ·exact c y g
    ·exact⟨f,B⟩
   obtain⟨b,st2,D,E,F,G,H,I,J,L,N,O⟩:=Bl4 (parts:=r) h1 n C;refine⟨b,st2,D,E,F,G.trans hw,H,I.trans p,q.trans J,L,by simpa using N,?_⟩;have Q:=Ac0 (λ x j=>(c x j).1);have hle:i*sz+sz<=xs.flatten.length:=by rw[Q,<-Nat.succ_mul];exact Nat.mul_le_mul_right _ m
   simp only[List.map_cons,Instr.fill,he];have R:¬((decide (v.cells.size≠sz) || decide (i*sz+v.cells.size>xs.flatten.toArray.size))=true):=by
    rw[Bi2,f];simp only[List.size_toArray,ne_eq,not_true_eq_false,decide_false,Bool.false_or,decide_eq_true_eq];omega
   rw[if_neg R];have S:=Do9 v.cells xs.flatten.toArray (i*sz);rw[<-O];congr 1;apply Array.ext';rw[S,Ap5 (λ x j=>(c x j).1) m f,Av1]
  ·exact h1.elim
theorem Ca0 (g:Ac6 P tt){t e len:Nat}{parts:Array (Nat×Operand)}{i j:TyI}(m:o.op = .buildSlice t len parts)(hi:look tt t=some i)(hu:i.und = .slice e)(r:look tt e=some j)(u:len*j.size<=16777216)(w:0<j.size)(y:Ed1 j.zv.cells.toList=true)(h:Dq1 W0 j.size parts.toList (rep len j.zv.cells.toList) st W λ xs st W=>K (.o st.nx) (Ac4 st (.row e j.size xs)) W):Az0 P W0 M st W o K:=by
 intro β σ a Wa Q z;obtain⟨_,⟨d,n,A⟩,_⟩:=g.Aq3 hi;obtain rfl:=Ai6 (A.trans hu);have b:=g.Aq3 r;have f:j.zv.cells.size=j.size:=b.2.2.2.1;rw[Fk5] at h;obtain⟨xs,st1,B,R,C,hw,D,E,F,G,hlen,c⟩:=Bl4 h z (by
  intro x H;rw[List.eq_of_mem_replicate H];exact⟨by simpa using f,Bd5 y⟩)
 simp only[List.length_replicate] at hlen;have I:len<=maxLen:=by
  have:len*1<=len*j.size:=Nat.mul_le_mul_left _ w;simp only[maxLen];omega
 obtain⟨h1,J,p⟩:=Ei7 D (e:=e) (cs:=xs.flatten.toArray) G hlen I (by simp);rw[hw] at h1 p;refine Ae1 (v:=.slice (some ⟨Wa.w.heap.size,0,none⟩) len len) ?_ (Res.of E F ⟨.o st1.nx,_,_,_,B,_,rfl,?_,h1,Nat.lt_succ_self _,rfl,C,J,p⟩)
 ·simp only[Array.toList_map] at c
  have L:¬(2^24<len*j.size):=by simpa using u
  by_cases q:len*j.size=0
  ·have N:len=0:=by
    rcases Nat.mul_eq_zero.1 q with h | h
    ·exact h
    ·omega
   subst N;simp only[List.replicate_zero,List.flatten_nil] at c;simp[execOp,m,Instr.buildSlice,run_underlying n,b.sizeOf,Array.range_zero',c,newRow]
  ·have O:(Array.range (len*j.size)).map (j.zv.cells[· % j.zv.cells.size]!)=(List.replicate len j.zv.cells.toList).flatten.toArray:=by
    have:=Dc3 j.zv.cells len (by omega);rw[f] at this;apply Array.ext';rw[<-this];simp[madeCells,f]
   simp[execOp,m,Instr.buildSlice,run_underlying n,b.sizeOf,L,q,b.zero,O,c,newRow]
 ·simp[SV.val,upd]
theorem Co1 {l:Operand}(f:Ac6 P tt){t e:Nat}{c:Operand}{i j:TyI}(r:o.op = .makeSlice t l c)(hi:look tt t=some i)(hu:i.und = .slice e)(u:look tt e=some j)(S:0<j.size)(T:0<j.bytes)(w:Ed1 j.zv.cells.toList=true)(h:evI st l λ _ n=>evI st c λ _ m=>(m=n/\0<=n/\n*(j.bytes:Int)<=281474976710656)/\K (.o st.nx) (Ac4 st (.row e j.size (List.replicate n.toNat j.zv.cells.toList))) W):Az0 P W0 M st W o K:=by
 intro β σ a Wa Q b;obtain⟨_,⟨d,y,z⟩,_⟩:=f.Aq3 hi;obtain rfl:=Ai6 (z.trans hu);have g:=f.Aq3 u;have p:j.zv.cells.size=j.size:=g.2.2.2.1;obtain⟨k1,n,h1,A⟩:=Ag6 (W:=W) h;obtain⟨B,m,⟨⟨rfl,q,C⟩,D⟩,E⟩:=Ag6 (W:=W) h1;have hm:m.toNat<=maxLen:=by
  have F:(1:Int)<=j.bytes:=by omega
  have:m*1<=m*(j.bytes:Int):=Int.mul_le_mul_of_nonneg_left F q;simp only[maxLen];omega
 obtain⟨G,H,I⟩:=Ei7 b (e:=e) (cs:=madeCells j.zv.cells (m.toNat*j.size)) (n:=m.toNat) (xs:=List.replicate m.toNat j.zv.cells.toList) (sz:=j.size)
  (by intro x J;rw[List.eq_of_mem_replicate J];exact⟨by simpa using p,Bd5 w⟩) (by simp) hm (by rw[<-p];exact Dc3 _ _ (by omega))
 refine Ae1 (v:=.slice (some ⟨Wa.w.heap.size,0,none⟩) m.toNat m.toNat) ?_ ⟨.o st.nx,_,_,_,W,_,rfl,?_,G,Nat.lt_succ_self _,rfl,D,H,I⟩
 ·obtain⟨⟨inf,L,N,O,R⟩,_⟩:=g
  have:=run_make (P:=P) Wa.w t e inf j.zv y L R k1 B m m q (Int.le_refl _) (by rw[O,Int.mul_comm];exact C) (by simp only[maxLen] at hm;omega);simp[execOp,r,A β σ a Wa b.rel b.ext,E β σ a Wa b.rel b.ext,this,N]
 ·simp[SV.val,upd]
end
end Go.SX
