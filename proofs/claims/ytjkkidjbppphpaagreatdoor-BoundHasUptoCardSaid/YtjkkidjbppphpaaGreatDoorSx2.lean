/- The symbolic evaluator: operations that change something; code. -/
import Derived.Test.YtjkkidjbppphpaaGreatDoorSx1
import Derived.Maps.Keyed
import Derived.Maps.RangeRun
import Derived.ChangeKeysEq
import Derived.Laws.StructEq
set_option linter.unusedVariables false
set_option linter.unusedSimpArgs false
set_option linter.unusedVariables false
set_option linter.unusedSimpArgs false
namespace Go.SX
def may (W0:PW) (M:Nat→Prop) (g:Nat):Prop:=M g∨W0.w.heap.size≤g
structure PutAt (W W':PW) (g:Nat) (cs:Array Value) (t:TypeId) (pos:Nat) (l:List Value):Prop where
 ext:ExtM (· = g) W W'
 S:¬W'.S g
 heap:W'.w.heap[g]?=some (.cells (setL cs.toList pos l).toArray t (0,0))
def callN (P:Program) (W0:PW) (M:Nat→Prop) (f:FuncId) (args:List Value) (W:PW) (K:Value→PW→Prop):Prop:=
 ∀W',Ext W W'→∃(N:Nat→Prop) (Post:Value→PW→Prop),PCallsM P f args W' N Post∧(∀g,N g→¬W'.S g∧may W0 M g)∧∀v W'',ExtM N W' W''→Post v W''→K v W''
def storeN (W0:PW) (M:Nat→Prop) (s:Sl) (pos:Nat) (l:List Value) (W:PW) (K:PW→Prop):Prop:=
 ∀W',Ext W W'→∃g o cs t,s.A=some ⟨g,o,none⟩∧¬W'.S g∧W'.w.heap[g]?=some (.cells cs t (0,0))∧o+pos+l.length≤cs.size∧may W0 M g∧∀W'',PutAt W' W'' g cs t (o+pos) l→K W''
def appN (W0:PW) (M:Nat→Prop) (e:TypeId) (sz bytes:Nat) (s:Sl) (ys:List (List Value)) (W:PW) (K:Sl→PW→Prop):Prop:=
 ∀W',Ext W W'→∃xs,Own W' e sz s xs∧(∀g,s.v.ownBlock=some g→may W0 M g)∧(xs.length+ys.length)*bytes≤140737488355328∧
  ∀s' W'',ExtM (fun g=>s.v.ownBlock=some g) W' W''→Own W'' e sz s' (xs ++ ys)→(∀g,s'.v.ownBlock=some g→s.v.ownBlock=some g∨W'.w.heap.size≤g)→K s' W''
/-! Maps that are known -/
def newMapN (W0 : PW) (W : PW) (K : Nat → PW → Prop) : Prop := ∀ g W', Ext W W' → W.w.heap.size ≤ g → W0.w.heap.size ≤ g → ¬ W'.S g → W'.w.heap[g]? = some (.map #[] 0) → K g W'
def KeysOK (P:Program) (kt:TypeId) (es:Array MapEntry):Prop:=∀e∈es.toList,∃l,keyOf P kt e.key=some l
def lookN (P:Program) (kt:TypeId) (W:PW) (g:Nat) (key zv:Value) (K:Value→Prop):Prop:=
 Maps.Keyed P kt∧(∃l,keyOf P kt key=some l)∧∃es c,¬W.S g∧W.w.heap[g]?=some (.map es c)∧KeysOK P kt es∧(∀e∈es.toList,e.key=key→K e.val)∧((∀e∈es.toList,e.key≠key)→K zv)
def MapPut (es:Array MapEntry) (c:Nat) (key v:Value) (es':Array MapEntry) (c':Nat):Prop:=
 (∃i e,es[i]?=some e∧e.key=key∧es'=es.modify i (fun e=>{e with key:=key,val:=v })∧c'=c)∨((∀e∈es.toList,e.key≠key)∧es'=es.push {key:=key,val:=v,born:=c }∧c'=c+1)
def updN (P:Program) (W0:PW) (M:Nat→Prop) (kt:TypeId) (W:PW) (g:Nat) (key v:Value) (K:PW→Prop):Prop:=
 Maps.Keyed P kt∧(∃l,keyOf P kt key=some l)∧∀W',Ext W W'→∃es c,¬W'.S g∧W'.w.heap[g]?=some (.map es c)∧KeysOK P kt es∧may W0 M g∧
  ∀W'' es' c',ExtM (· = g) W' W''→¬W''.S g→W''.w.heap[g]?=some (.map es' c')→MapPut es c key v es' c'→K W''
@[reducible] def stp (I:List PL→PW→Prop) (μ:List PL→PW→Nat) (l':List PL) (W':PW) (l:List PL) (W:PW):Prop:=I l' W'∧μ l' W'<μ l W
@[reducible] def Fr (W0 W:PW) (s:Sl):Prop:=∀g,s.v.ownBlock=some g→W0.w.heap.size≤g∧(g<W.w.heap.size→W.S g)
def one1B (l:List Value):Bool:=l.all Value.oneCell'
section
variable (P:Program) (tt:List (Nat×TyI)) (W0:PW) (M:Nat→Prop)
def pub (k:Nat) (st:SS) (W:PW) (K:Value→SS→PW→Prop):Prop:=
 match look st.C k with
 | some (.row t sz xs)=>∀s W',Ext W W'→Own W' t sz s xs→Fr W0 W s→K s.v {st with C:=(k,.pub s.v) :: st.C,D:=k :: st.D } W'
 | some (.pub x)=>K x st W
 | _=>False
def pubB (k n:Nat) (st:SS) (W:PW) (K:Value→SS→PW→Prop):Prop:=
 match look st.C k with
 | some (.box cs)=>match Nat.beq cs.length n,Nat.ble 1 n && Nat.ble n 1000 && one1B cs with
  | true,true=>∀s W',Ext W W'→RowA W' 1 s (cs.map fun c=>[c])→Fr W0 W s→K s.v {st with C:=(k,.dead) :: st.C,D:=k :: st.D } W'
  | _,_=>False
 | _=>False
def evP (x:Operand) (st:SS) (W:PW) (K:Value→SS→PW→Prop):Prop:=
 ev st x fun s=>match s with
  | .o k=>pub W0 k st W K
  | .bs k n=>pubB W0 k n st W K
  | s=>toV st s fun v=>K v st W
def evPs:List Operand→SS→PW→(List Value→SS→PW→Prop)→Prop
 | [],st,W,K=>K [] st W
 | x :: r,st,W,K=>evP W0 x st W fun v st W=>evPs r st W fun l st W=>K (v :: l) st W
def fin (gd:Bool) (o:Oper) (s:SV) (st:SS) (K:SS→Prop):Prop:=
 match o.dst with
 | none=>K st
 | some d=>match Nat.blt d st.n with
  | true=>match gd with
   | true=>split s fun t=>K {st with T:=(d,.b t) :: st.T }
   | false=>K {st with T:=(d,s) :: st.T }
  | false=>False
def one1 (l:List Value):Bool:=l.all Value.oneCell'
def newBlk (st:SS) (b:Blk):SS:={st with C:=(st.nx,b) :: st.C,nx:=Nat.succ st.nx }
def setBlk (st:SS) (k:Nat) (b:Blk):SS:={st with C:=(k,b) :: st.C,D:=k :: st.D }
def partsP (sz:Nat):List (Nat×Operand)→List (List Value)→SS→PW→(List (List Value)→SS→PW→Prop)→Prop
 | [],xs,st,W,K=>K xs st W
 | (i,x) :: r,xs,st,W,K=>evP W0 x st W fun v st W=>match Nat.beq (cellsL v).length sz,Nat.blt i xs.length,one1 (cellsL v) with
  | true,true,true=>partsP sz r (xs.set i (cellsL v)) st W K
  | _,_,_=>False
def rep {α:Type} (n:Nat) (x:α):List α:=match n with | 0=>[] | n+1=>x :: rep n x
def evApp (e:TypeId) (sz:Nat) (x:Operand) (st:SS) (W:PW) (K:List (List Value)→Prop):Prop:=
 ev st x fun s=>match s with
  | .o k=>match look st.C k with
   | some (.row t sz' ys)=>match Nat.beq t e,Nat.beq sz sz' with
    | true,true=>K ys
    | _,_=>False
   | some (.pub (.slice A n c))=>∃ys,RowA W sz ⟨A,n,c⟩ ys∧K ys
   | _=>False
  | .n=>K []
  | .v (.slice A n c)=>∃ys,RowA W sz ⟨A,n,c⟩ ys∧K ys
  | _=>False
def shpOf:Value→Shp
 | .int k _=>.int k
 | .bool _=>.bool
 | .string _=>.str
 | .map _=>.map
 | .pointer _=>.ptr
 | _=>.slice
def splitIx (i:Nat) (K:Nat→Prop):Nat→Prop
 | 0=>True
 | n+1=>splitIx i K n∧(i=n→K n)
def effOp (o:Oper) (st:SS) (W:PW) (K:SV→SS→PW→Prop):Prop:=
 match o.op with
 | .alloc t=>match look tt t with
  | some i=>K (.p st.nx 0) (newBlk st (.box i.zv.cells.toList)) W
  | none=>False
 | .box t x=>evP W0 x st W fun v st W=>K (.p st.nx 0) (newBlk st (.box (cellsL v))) W
 | .build t parts=>match look tt t with
  | some i=>match i.agg with
   | true=>evPs W0 (parts.toList.map (·.2)) st W fun _ st W=>buildP st (placeOf tt i) parts.toList i.zv.cells.toList fun cs=>K (.v (.agg cs.toArray)) st W
   | false=>False
  | none=>False
 | .buildSlice t len parts=>match look tt t with
  | some i=>match i.und with
   | .slice e=>match look tt e with
    | some j=>match Nat.ble (Nat.mul len j.size) 16777216,Nat.blt 0 j.size && one1 j.zv.cells.toList with
     | true,true=>partsP W0 j.size parts.toList (rep len j.zv.cells.toList) st W fun xs st W=>K (.o st.nx) (newBlk st (.row e j.size xs)) W
     | _,_=>False
    | none=>False
   | _=>False
  | none=>False
 | .makeSlice t l c=>match look tt t with
  | some i=>match i.und with
   | .slice e=>match look tt e with
    | some j=>match Nat.blt 0 j.size && Nat.blt 0 j.bytes && one1 j.zv.cells.toList with
     | true=>evI st l fun _ n=>evI st c fun _ m=>(m=n∧0≤n∧n*(j.bytes:Int)≤281474976710656)∧K (.o st.nx) (newBlk st (.row e j.size (List.replicate n.toNat j.zv.cells.toList))) W
     | false=>False
    | none=>False
   | _=>False
  | none=>False
 | .store t p x=>match look tt t with
  | some i=>evP W0 x st W fun v st W=>match Nat.beq (cellsL v).length i.size,one1 (cellsL v) with
   | true,true=>ev st p fun s=>match s with
    | .p k off=>match look st.C k with
     | some (.box cs)=>match Nat.ble (Nat.add off i.size) cs.length with
      | true=>K (.v undef) (setBlk st k (.box (setL cs off (cellsL v)))) W
      | false=>False
     | _=>False
    | .oe k sz ix off=>match look st.C k with
     | some (.row t' sz' xs)=>match Nat.beq sz sz',Nat.ble (Nat.add off i.size) sz with
      | true,true=>match Nat.beq i.size sz with
       | true=>ix<xs.length∧K (.v undef) (setBlk st k (.row t' sz' (xs.set ix (cellsL v)))) W
       | false=>ix<xs.length∧K (.v undef) (setBlk st k (.row t' sz' (patchAt xs ix off (cellsL v)))) W
      | _,_=>False
     | _=>False
    | .e s sz ix off=>storeN W0 M s (ix*sz+off) (cellsL v) W fun W=>K (.v undef) st W
    | .pe k base sz len ix off=>match look st.C k with
     | some (.box cs)=>match Nat.ble (Nat.add base (Nat.mul len sz)) cs.length,Nat.ble (Nat.add off i.size) sz with
      | true,true=>ix<len∧splitIx ix (fun j=>K (.v undef) (setBlk st k (.box (setL cs (Nat.add (Nat.add base (Nat.mul j sz)) off) (cellsL v)))) W) len
      | _,_=>False
     | _=>False
    | _=>False
   | _,_=>False
  | none=>False
 | .call {callee:=.value f,args,argTypes }=>
  ev st f fun s=>match s with
   | .v (.func (.func f) first captured)=>evPs W0 args.toList st W fun l st W=>
    callN P W0 M f (first.toList ++ l ++ captured.toList) W fun v W=>exRes tt o.type v fun x=>K (.v x) st W
   | _=>False
 | .call {callee:=.builtin .append,args,argTypes }=>
  match args.toList,argTypes.toList with
  | [s,x],[t,t']=>match Nat.beq t t',look tt t with
   | true,some i=>match i.und with
    | .slice e=>match look tt e with
     | some j=>match Nat.blt 0 j.size && Nat.blt 0 j.bytes with
      | true=>evApp e j.size x st W fun ys=>ev st s fun sv=>match sv with
       | .n=>(ys.length*j.bytes≤140737488355328)∧K (.o st.nx) (newBlk st (.row e j.size ys)) W
       | .o k=>match look st.C k with
        | some (.row t2 sz2 xs)=>match Nat.beq t2 e,Nat.beq sz2 j.size with
         | true,true=>((xs.length+ys.length)*j.bytes≤140737488355328)∧K (.o st.nx) (newBlk (setBlk st k .dead) (.row e j.size (xs ++ ys))) W
         | _,_=>False
        | some (.pub (.slice A n c))=>appN W0 M e j.size j.bytes ⟨A,n,c⟩ ys W fun s' W=>K (.v s'.v) st W
        | _=>False
       | .v (.slice A n c)=>appN W0 M e j.size j.bytes ⟨A,n,c⟩ ys W fun s' W=>K (.v s'.v) st W
       | _=>False
      | false=>False
     | none=>False
    | _=>False
   | _,_=>False
  | _,_=>False
 | .call {callee:=.builtin .copy,args,argTypes }=>
  match args.toList,argTypes.toList with
  | [d,x],[t,t']=>match look tt t with
   | some i=>match i.und with
    | .slice e=>match look tt e with
     | some j=>ev st d fun ds=>match ds with
      | .bs k n=>evV st x fun v=>match v with
       | .slice A m c=>match look st.C k with
        | some (.box cs)=>match Nat.beq (Nat.mul n j.size) cs.length with
         | true=>∃ys,RowA W j.size ⟨A,m,c⟩ ys∧shpsB (cs.map shpOf) (setL cs 0 (ys.take n).flatten)=true∧
          allCells (cs.map shpOf) fun l=>l=setL cs 0 (ys.take n).flatten→K (.v (.int .i64 ((Nat.min m n:Nat):Int))) (setBlk st k (.box l)) W
         | false=>False
        | _=>False
       | _=>False
      | _=>False
     | none=>False
    | _=>False
   | none=>False
  | _,_=>False
 | .makeMap t none=>match look tt t with
  | some i=>match i.und with
   | .map _ _=>newMapN W0 W fun g W=>K (.v (.map (some g))) st W
   | _=>False
  | none=>False
 | .lookup t x k false=>match look tt t with
  | some i=>match i.und with
   | .map kt et=>match look tt et with
    | some j=>evP W0 x st W fun m st W=>evP W0 k st W fun kv st W=>match m with
     | .map r=>∃g,r=some g∧lookN P kt W g kv j.zv fun v=>exRes tt et v fun y=>K (.v y) st W
     | _=>False
    | none=>False
   | _=>False
  | none=>False
 | .mapUpdate t x k y=>match look tt t with
  | some i=>match i.und with
   | .map kt et=>evP W0 x st W fun m st W=>evP W0 k st W fun kv st W=>evP W0 y st W fun v st W=>match m with
    | .map r=>∃g,r=some g∧updN P W0 M kt W g kv v fun W=>K (.v undef) st W
    | _=>False
   | _=>False
  | none=>False
 | .range t x=>match look tt t with
  | some i=>match i.und with
   | .map kt et=>evP W0 x st W fun m st W=>match m with
    | .map r=>∃g,r=some g∧∃es c,¬W.S g∧W.w.heap[g]?=some (.map es c)∧K (.p st.nx 0) (newBlk st (.itr g kt et c #[] c none)) W
    | _=>False
   | _=>False
  | none=>False
 | .next x false=>ev st x fun s=>match s with
  | .p k 0=>match look st.C k with
   | some (.itr g kt et since seen last cur)=>∃es c,¬W.S g∧W.w.heap[g]?=some (.map es c)∧(∀e∈es.toList,e.born<since)∧since≤last∧
    ((leftOf es (seenNow seen cur)).size=0→K (.tb false []) st W)∧
    ∀e,e∈(leftOf es (seenNow seen cur)).toList→K (.tb true [e.key,e.val]) (setBlk st k (.itr g kt et since (seenNow seen cur) c (some e))) W
   | _=>False
  | _=>False
 | .entry x=>ev st x fun s=>match s with
  | .p k 0=>match look st.C k with
   | some (.itr g kt et since seen last (some e))=>(∃es,¬W.S g∧W.w.heap[g]?=some (.map es last)∧e∈es.toList∧(es.toList.map (·.born)).Nodup)∧
    exRes tt kt e.key fun kx=>exRes tt et e.val fun vx=>K (.v (.tuple #[kx,vx])) st W
   | _=>False
  | _=>False
 | .slice t x none hi none=>ev st x fun s=>match s with
  | .o k=>match look st.C k with
   | some (.row t2 sz xs)=>match look tt t with
    | some i=>match i.und with
     | .slice e=>match look tt e with
      | some j=>match Nat.beq t2 e,Nat.beq sz j.size with
       | true,true=>optI st hi xs.length fun h=>(0≤h∧h≤(xs.length:Int))∧K (.o st.nx) (newBlk (setBlk st k .dead) (.row t2 sz (xs.take h.toNat))) W
       | _,_=>False
      | none=>False
     | _=>False
    | none=>False
   | _=>fl tt st W o.op fun s=>K s st W
  | _=>fl tt st W o.op fun s=>K s st W
 | op=>fl tt st W op fun s=>K s st W
def isFl:Op→Bool
 | .alloc _ | .box .. | .buildSlice .. | .makeSlice .. | .store .. | .build ..=>false
 | .call {callee:=.value _,.. }=>false
 | .call {callee:=.builtin .append,.. }=>false
 | .call {callee:=.builtin .copy,.. }=>false
 | .makeMap .. | .lookup .. | .mapUpdate .. | .range .. | .next .. | .entry _=>false
 | _=>true
def guards (ops:List Oper) (i:Nat):Bool:=ops.any fun o=>match o.guard with | some (j,_)=>Nat.beq i j | none=>false
def sxOp (ops:List Oper) (i:Nat) (o:Oper) (st:SS) (W:PW) (K:SS→PW→Prop):Prop:=
 match o.guard with
 | none=>effOp P tt W0 M o st W fun s st W=>fin (guards ops i) o s st fun st=>K st W
 | some (j,want)=>match ops[j]? with
  | some og=>match og.dst with
   | some d=>match look st.T d with
    | some (.b b)=>match b == want with
     | true=>effOp P tt W0 M o st W fun s st W=>fin (guards ops i) o s st fun st=>K st W
     | false=>fin false o (.v undef) st fun st=>K st W
    | some (.v (.tuple _))=>fin false o (.v undef) st fun st=>K st W
    | _=>False
   | none=>False
  | none=>False
def sxOps (ops:List Oper):Nat→List Oper→SS→PW→(SS→PW→Prop)→Prop
 | _,[],st,W,K=>K st W
 | i,o :: r,st,W,K=>sxOp P tt W0 M ops i o st W fun st W=>sxOps ops (Nat.succ i) r st W K
/-! ### What code writes, reads, carries -/
def opdT : Operand → List Nat
  | .tmp t => [t]
  | _ => []
def dstOf (o:Oper):List Nat:=match o.dst with | some d=>[d] | none=>[]
def dsts:Code→List Nat
 | .region _ ops _=>ops.toList.flatMap dstOf
 | .seq a b=>dsts a ++ dsts b
 | .cond _ a b=>dsts a ++ dsts b
 | .block _ a=>dsts a
 | .loop a=>dsts a
 | .rangeFunc _ ps a b=>ps.toList ++ dsts a ++ dsts b
 | .scope a=>dsts a
 | _=>[]
def uses:Code→List Nat
 | .region _ ops _=>ops.toList.flatMap fun o=>o.op.operands.toList.flatMap opdT
 | .seq a b=>uses a ++ uses b
 | .cond c a b=>opdT c ++ uses a ++ uses b
 | .block _ a=>uses a
 | .loop a=>uses a
 | .rangeFunc f ps a b=>opdT f ++ uses a ++ uses b
 | .scope a=>uses a
 | _=>[]
def fromApp (ops:List Oper) (t:Nat):Bool:=ops.any fun o'=>match o'.dst with
 | some d'=>Nat.beq d' t && (match o'.op with | .makeSlice ..=>true | .buildSlice ..=>true | .call {callee:=.builtin .append,.. }=>true | _=>false)
 | none=>false
def asgOps (ops:List Oper):List (Nat×TypeId×Bool):=
 ops.filterMap fun o=>match o.op,o.dst with
  | .assign (.tmp t),some d=>some (d,o.type,fromApp ops t)
  | .assign _,some d=>some (d,o.type,false)
  | .move (.tmp t),some d=>some (d,o.type,fromApp ops t)
  | .move _,some d=>some (d,o.type,false)
  | _,_=>none
def asg:Code→List (Nat×TypeId×Bool)
 | .region _ ops _=>asgOps ops.toList
 | .seq a b=>asg a ++ asg b
 | .cond _ a b=>asg a ++ asg b
 | .block _ a=>asg a
 | .loop a=>asg a
 | .scope a=>asg a
 | _=>[]
def rootOf (ops:List Oper):Nat→Nat→Nat
 | 0,t=>t
 | n+1,t=>match ops.find? (fun o=>match o.dst with | some d=>Nat.beq d t | none=>false) with
  | some o=>match o.op with
   | .fieldAddr _ (.tmp x) _=>rootOf ops n x
   | .indexAddr _ (.tmp x) _=>rootOf ops n x
   | .move (.tmp x)=>rootOf ops n x
   | .nilCheck (.tmp x)=>rootOf ops n x
   | _=>t
  | none=>t
def rootsOps (ops:List Oper):List Nat:=ops.filterMap fun o=>match o.op with
 | .store _ (.tmp p) _=>some (rootOf ops 9 p)
 | .next (.tmp p) _=>some (rootOf ops 9 p)
 | _=>none
def roots:Code→List Nat
 | .region _ ops _=>rootsOps ops.toList
 | .seq a b=>roots a ++ roots b
 | .cond _ a b=>roots a ++ roots b
 | .block _ a=>roots a
 | .loop a=>roots a
 | .scope a=>roots a
 | _=>[]
def mem (l:List Nat) (x:Nat):Bool:=l.any fun y=>Nat.beq x y
inductive Car where
 | val (i:TyI)
 | own (t:TypeId) (sz:Nat)
def carsGo (st:SS) (here:Bool) (U:List Nat):List Nat→List (Nat×TypeId×Bool)→List (Nat×Car)
 | _,[]=>[]
 | seen,(d,t,ap) :: r=>
  match mem seen d || !(mem U d) with
  | true=>carsGo st here U seen r
  | false=>
   match look st.T d,here with
   | none,true=>carsGo st here U seen r
   | s,_=>match look tt t with
    | none=>carsGo st here U seen r
    | some i=>
     let c:Car:=match i.und with
      | .slice e=>match look tt e with
       | none=>.val i
       | some j=>match s with
        | some (.o k)=>match look st.C k with
         | some (.pub _)=>.val i
         | _=>.own e j.size
        | some .n=>match ap with
         | true=>.own e j.size
         | false=>.val i
        | none=>match ap with
         | true=>.own e j.size
         | false=>.val i
        | _=>.val i
      | _=>.val i
     (d,c) :: carsGo st here U (d :: seen) r
inductive CarB where
 | box (sh:List Shp)
 | row (t:TypeId) (sz:Nat)
 | itr (g kt et since:Nat)
def carBs (st:SS):List Nat→List Nat→List (Nat×CarB)
 | _,[]=>[]
 | seen,r :: rs=>
  match look st.T r with
  | some (.p k _) | some (.o k)=>match mem seen k with
   | true=>carBs st seen rs
   | false=>match look st.C k with
    | some (.box cs)=>(k,.box (cs.map shpOf)) :: carBs st (k :: seen) rs
    | some (.row t sz _)=>(k,.row t sz) :: carBs st (k :: seen) rs
    | some (.itr g kt et since _ _ _)=>(k,.itr g kt et since) :: carBs st (k :: seen) rs
    | _=>carBs st seen rs
  | _=>carBs st seen rs
def allV (i:TyI) (K:Value→Prop):Prop:=allCells i.sh fun l=>valOf i.agg l K
def headsB:List (Nat×CarB)→SS→(List PL→SS→Prop)→Prop
 | (k,.box sh) :: r,st,K=>allCells sh fun cs=>headsB r {st with C:=(k,.box cs) :: st.C } fun l st=>K (.cells cs :: l) st
 | (k,.row t sz) :: r,st,K=>∀xs:List (List Value),headsB r {st with C:=(k,.row t sz xs) :: st.C } fun l st=>K (.row xs :: l) st
 | (k,.itr g kt et since) :: r,st,K=>∀(seen:Array Nat) (last:Nat) (cur:Option MapEntry),headsB r {st with C:=(k,.itr g kt et since seen last cur) :: st.C } fun l st=>K (.seen (seenNow seen cur) last :: l) st
 | [],st,K=>K [] st
def headsC:List (Nat×Car)→SS→(List PL→SS→Prop)→Prop
 | (d,.val i) :: r,st,K=>allV i fun v=>headsC r {st with T:=(d,.v v) :: st.T } fun l st=>K (.val v :: l) st
 | (d,.own t sz) :: r,st,K=>∀xs:List (List Value),headsC r {(newBlk st (.row t sz xs)) with T:=(d,.o st.nx) :: st.T } fun l st=>K (.row xs :: l) st
 | [],st,K=>K [] st
def heads (bs:List (Nat×CarB)) (cars:List (Nat×Car)) (st:SS) (K:List PL→SS→Prop):Prop:=
 headsB bs st fun lb st=>headsC cars st fun lc st=>K (lc ++ lb) st
def tyB (i:TyI) (v:Value):Bool:=match i.agg,v with
 | true,.agg cs=>shpsB i.sh cs.toList
 | false,v=>shpsB i.sh [v]
 | _,_=>false
def paysB:List (Nat×CarB)→SS→PW→(List PL→SS→PW→Prop)→Prop
 | (k,.box sh) :: r,st,W,K=>match look st.C k with
  | some (.box cs)=>match shpsB sh cs with | true=>paysB r st W fun l st W=>K (.cells cs :: l) st W | false=>False
  | _=>False
 | (k,.row t sz) :: r,st,W,K=>match look st.C k with
  | some (.row t' sz' xs)=>match Nat.beq t t',Nat.beq sz sz' with
   | true,true=>paysB r st W fun l st W=>K (.row xs :: l) st W
   | _,_=>False
  | _=>False
 | (k,.itr g kt et since) :: r,st,W,K=>match look st.C k with
  | some (.itr g' kt' et' since' seen last cur)=>match Nat.beq kt kt',Nat.beq et et' with
   | true,true=>(g=g'∧since=since')∧paysB r st W fun l st W=>K (.seen (seenNow seen cur) last :: l) st W
   | _,_=>False
  | _=>False
 | [],st,W,K=>K [] st W
def paysC:List (Nat×Car)→SS→PW→(List PL→SS→PW→Prop)→Prop
 | (d,.val i) :: r,st,W,K=>evP W0 (.tmp d) st W fun v st W=>match tyB i v with | true=>paysC r st W fun l st W=>K (.val v :: l) st W | false=>False
 | (d,.own t sz) :: r,st,W,K=>match look st.T d with
  | some (.o k)=>match look st.C k with
   | some (.row t' sz' xs)=>match Nat.beq t t',Nat.beq sz sz' with
    | true,true=>paysC r {st with C:=(k,.dead) :: st.C,D:=k :: st.D } W fun l st W=>K (.row xs :: l) st W
    | _,_=>False
   | _=>False
  | some .n=>paysC r st W fun l st W=>K (.row [] :: l) st W
  | _=>False
 | [],st,W,K=>K [] st W
def pays (bs:List (Nat×CarB)) (cars:List (Nat×Car)) (st:SS) (W:PW) (K:List PL→SS→PW→Prop):Prop:=
 paysC W0 cars st W fun lc st W=>paysB bs st W fun lb st W=>K (lc ++ lb) st W
def strike (ds:List Nat) (bs:List (Nat×CarB)) (st:SS):SS:={st with T:=st.T.filter fun x=>!(mem ds x.1),D:=bs.map (·.1) ++ st.D }
def killed (cars:List (Nat×Car)) (st:SS):List Nat:=cars.filterMap fun c=>match c.2 with
 | .own _ _=>match look st.T c.1 with
  | some (.o k)=>some k
  | _=>none
 | _=>none
def killOwn (ks:List Nat) (st:SS):SS:={st with C:=(ks.map fun k=>(k,Blk.dead)) ++ st.C,D:=ks ++ st.D }
def dirtyOK (al:List Nat) (nx n:Nat) (D:List Nat):Bool:=(D.take (Nat.sub D.length n)).all fun k=>Nat.ble nx k || al.any fun b=>Nat.beq b k
def firstReg:Code→Option Nat
 | .region id _ _=>some id
 | .seq a b=>match firstReg a with | some x=>some x | none=>firstReg b
 | .cond _ a b=>match firstReg a with | some x=>some x | none=>firstReg b
 | .block _ a=>firstReg a
 | .loop a=>firstReg a
 | _=>none
def isCut (cuts:List Nat) (c:Code):Bool:=match firstReg c with | some r=>mem cuts r | none=>false
def loopR (cars:List (Nat×Car)) (bs:List (Nat×CarB)) (ds:List Nat) (st:SS) (W:PW) (body:SS→PW→(Exit→SS→PW→Prop)→Prop) (K:Exit→SS→PW→Prop):Prop:=
 pays W0 bs cars st W fun l0 st1 W1=>
  ∃(I:List PL→PW→Prop) (μ:List PL→PW→Nat),I l0 W1∧
   heads bs cars (strike ds bs st1) fun l sth=>∀W',I l W'→
    body sth W' fun e st' W''=>match e with
     | .normal=>pays W0 bs cars st' W'' fun l' st2 W2=>match dirtyOK (bs.map (·.1)) st1.nx sth.D.length st2.D with | true=>stp I μ l' W2 l W' | false=>False
     | e=>K e st' W''
def cutR (cars:List (Nat×Car)) (bs:List (Nat×CarB)) (ds:List Nat) (st:SS) (W:PW) (x y:SS→PW→(Exit→SS→PW→Prop)→Prop) (K:Exit→SS→PW→Prop):Prop:=
 match bs.all (fun b=>Nat.blt b.1 st.nx) with
 | false=>False
 | true=>∃J:List PL→PW→Prop,
  (x st W fun e st' W'=>match e with
   | .normal=>pays W0 bs cars st' W' fun l st2 W2=>match dirtyOK (bs.map (·.1) ++ killed cars st) st.nx st.D.length st2.D with | true=>J l W2 | false=>False
   | e=>K e st' W')∧
  heads bs cars (strike ds bs (killOwn (killed cars st) st)) fun l sth=>∀W',J l W'→y sth W' K
variable (cuts:List Nat)
/-! ### Regions whose order is drawn -/
def predsOf (o : Oper) : List Nat := o.after.toList.filterMap fun e => match Region.binds .any e with | true => some e.on | false => none
def isVal':Op→Bool
 | .build ..=>true
 | op=>isFl op
def allI (p:Nat→Oper→Bool):Nat→List Oper→Bool
 | _,[]=>true
 | n,o :: r=>p n o && allI p (Nat.succ n) r
def findI (p:Nat→Oper→Bool):Nat→List Oper→Option (Nat×Oper)
 | _,[]=>none
 | n,o :: r=>match p n o with | true=>some (n,o) | false=>findI p (Nat.succ n) r
def filtI (p:Nat→Oper→Bool):Nat→List Oper→List (Nat×Oper)
 | _,[]=>[]
 | n,o :: r=>match p n o with | true=>(n,o) :: filtI p (Nat.succ n) r | false=>filtI p (Nat.succ n) r
def looksO (ops:Array Oper) (o:Oper):List Nat:=o.looksAt ops
def dstIs (o:Oper) (d:Nat):Bool:=match o.dst with | some d'=>Nat.beq d' d | none=>false
def isVal (ops:Array Oper) (i:Nat) (o:Oper):Bool:=isVal' o.op && match o.dst with
 | none=>true
 | some d=>!(mem (looksO ops o) d) && allI (fun j oj=>Nat.beq i j || (!(dstIs oj d) && (!(mem (looksO ops oj) d) || mem (predsOf oj) i))) 0 ops.toList
def noSel (o:Oper):Bool:=match o.op with | .select ..=>false | _=>true
def drawOK (ops:Array Oper):Bool:=ops.toList.all noSel && allI (fun i o=>(predsOf o).all (fun j=>Nat.blt j i) &&
 (!(isVal ops i o) || allI (fun j oj=>Nat.beq i j || (match oj.dst with | some d=>!(mem (looksO ops o) d) || mem (predsOf o) j || mem (predsOf oj) i | none=>true)) 0 ops.toList)) 0 ops.toList
def keyOf:SV→List Nat
 | .p k _=>[k]
 | .o k=>[k]
 | .oe k _ _ _=>[k]
 | .pe k _ _ _ _ _=>[k]
 | .bs k _=>[k]
 | _=>[]
def prune (ls:List Nat) (st:SS):SS:=
 {st with T:=st.T.filter fun p=>mem ls p.1,C:=st.C.filter fun q=>mem ((st.T.filter fun p=>mem ls p.1).flatMap fun p=>keyOf p.2) q.1 }
def keysOf (ls:List Nat) (st:SS):List Nat:=(st.T.filter fun p=>mem ls p.1).flatMap fun p=>keyOf p.2
def adrB (st:SS) (o:Oper):Bool:=match(match o.op with | .fieldAddr _ (.tmp t) _=>look st.T t | .indexAddr _ (.tmp t) _=>look st.T t | _=>none) with
 | some (.p _ _)=>true
 | some (.pe _ _ _ _ _ _)=>true
 | _=>false
def pruneO (o:Oper) (ls:List Nat) (st:SS):SS:=match adrB st o with
 | true=>{st with T:=st.T.filter fun p=>mem ls p.1,C:=[] }
 | false=>prune ls st
def keysO (o:Oper) (ls:List Nat) (st:SS):List Nat:=match adrB st o with | true=>[] | false=>keysOf ls st
def needW (st:SS) (o:Oper):Bool:=match o.op with
 | .load _ (.tmp t)=>match look st.T t with | some (.p _ _)=>false | some (.oe _ _ _ _)=>false | some (.pe _ _ _ _ _ _)=>false | _=>true
 | .load _ _=>true
 | _=>false
def nilW (W:PW):PW:=⟨{W.w with heap:=#[] },fun _=>False⟩
def seeW (b:Bool) (W:PW):PW:=match b with | true=>W | false=>nilW W
def dynOK (st:SS) (o:Oper):Bool:=match o.op with
 | .build _ parts=>parts.toList.all fun p=>match p.2 with | .tmp t=>(match look st.T t with | some (.o _)=>false | _=>true) | _=>true
 | .slice _ (.tmp t) none _ none=>match look st.T t with | some (.o k)=>(match look st.C k with | some (.row _ _ _)=>false | _=>true) | _=>true
 | _=>true
def valOp (ops:List Oper) (o:Oper) (st:SS) (W:PW) (K:SV→Prop):Prop:=
 match o.guard with
 | none=>fl tt st W o.op K
 | some (j,want)=>match ops[j]? with
  | some og=>match og.dst with
   | some d=>match look st.T d with
    | some (.b b)=>match b == want with
     | true=>fl tt st W o.op K
     | false=>K (.v undef)
    | some (.v (.tuple _))=>K (.v undef)
    | _=>False
   | none=>False
  | none=>False
def dup:Nat→Prop→Prop
 | 0,p=>p
 | n+1,p=>p∧dup n p
theorem dup_of {p:Prop} (h:p): ∀n,dup n p
 | 0=>h
 | n+1=>⟨h,dup_of h n⟩
def allR (f:Nat×Oper→Prop):List (Nat×Oper)→Prop
 | []=>True
 | [x]=>f x
 | x :: r=>f x∧allR f r
def extOb (b:Bool) (W W':PW) (p:Prop):Prop:=match b with | true=>Ext W W'∧p | false=>p
structure Pend where
 i:Nat
 ks:List Nat
 nw:Bool
def readyI (ops:Array Oper) (L:List Nat) (i:Nat) (o:Oper):Bool:=!(mem L i) && (predsOf o).all fun j=>mem L j
def guardV (g:Bool) (s:SV):Bool:=match g with | true=>(match s with | .v (.tuple _)=>false | _=>true) | false=>false
def alcO (o:Oper):Bool:=match o.op,o.guard,o.dst with
 | .alloc _,none,some _=>true
 | _,_,_=>false
def frOp:Op→Bool
 | .call {callee:=.value _,.. }=>true
 | .alloc _=>true
 | .build ..=>true
 | .slice _ _ none _ none=>false
 | op=>isFl op
def eagA (ops:Array Oper) (i:Nat) (o:Oper):Bool:=alcO o && match o.dst with
 | none=>false
 | some d=>allI (fun j oj=>Nat.beq i j || (!(dstIs oj d) && ((!(mem (looksO ops oj) d) || (!(isVal ops j oj) && mem (predsOf oj) i)) && (mem (predsOf oj) i || frOp oj.op)))) 0 ops.toList
def eagV (st:SS) (o:Oper):Option (Nat×List Value):=match o.op,o.dst with
 | .alloc t,some d=>match look tt t,Nat.blt d st.n with
  | some i,true=>some (d,i.zv.cells.toList)
  | _,_=>none
 | _,_=>none
abbrev QA:=List (Nat×Nat×List Value)
def mat1 (d:Nat) (cs:List Value) (st:SS):SS:={newBlk st (.box cs) with T:=(d,.p st.nx 0) :: st.T }
def matQ:List (Nat×Nat×List Value)→SS→SS
 | [],st=>st
 | (_,d,cs) :: r,st=>matQ r (mat1 d cs st)
def inQ (o:Oper) (qa:List (Nat×Nat×List Value)):List (Nat×Nat×List Value):=qa.filter fun q=>mem (predsOf o) q.1
def outQ (o:Oper) (qa:List (Nat×Nat×List Value)):List (Nat×Nat×List Value):=qa.filter fun q=>!(mem (predsOf o) q.1)
def sxDr (ops:Array Oper):Nat→List Nat→List Pend→List (Nat×Nat×List Value)→SS→PW→(SS→PW→Prop)→Prop
 | 0,_,_,_,_,_,_=>False
 | n+1,L,pd,qa,st,W,K=>match findI (fun i o=>readyI ops L i o && (isVal ops i o && dynOK st o)) 0 ops.toList with
  | some (i,o)=>valOp tt ops.toList o (pruneO o (looksO ops o) st) (seeW (needW st o) W) fun s=>fin (guardV (guards ops.toList i) s) o s st fun st1=>sxDr ops n (i :: L) (⟨i,keysO o (looksO ops o) st,needW st o⟩ :: pd) qa st1 W K
  | none=>match findI (fun i o=>readyI ops L i o && eagA ops i o) 0 ops.toList with
   | some (i,o)=>match eagV tt st o with
    | some x=>sxDr ops n (i :: L) pd ((i,x.1,x.2) :: qa) st W K
    | none=>False
   | none=>match filtI (readyI ops L) 0 ops.toList with
    | []=>K (matQ qa st) W
    | rs=>allR (fun x=>sxOp P tt W0 M ops.toList x.1 x.2 (matQ (inQ x.2 qa) st) W fun st1 W1=>
      match(pd.filter fun q=>!(mem (predsOf x.2) q.i)).all fun q=>q.ks.all fun k=>!(mem (st1.D.take (Nat.sub st1.D.length st.D.length)) k) with
      | true=>extOb ((pd.filter fun q=>!(mem (predsOf x.2) q.i)).any fun q=>q.nw) W W1 (sxDr ops n (x.1 :: L) (pd.filter fun q=>!(mem (predsOf x.2) q.i)) (outQ x.2 qa) st1 W1 K)
      | false=>False) rs
def pubKeys (st:SS):List Nat:=st.T.filterMap fun p=>match p.2 with
 | .o k=>match look st.C k with
  | some (.row _ _ _)=>some k
  | _=>none
 | _=>none
def pubL:List Nat→SS→PW→(SS→PW→Prop)→Prop
 | [],st,W,K=>K st W
 | k :: r,st,W,K=>match look st.C k with
  | some (.row _ _ _)=>pub W0 k st W fun _ st W=>pubL r st W K
  | _=>pubL r st W K
def isPub (cuts:List Nat) (c:Code):Bool:=match firstReg c with | some r=>mem cuts (Nat.add 1000000 r) | none=>false
def sxC:Code→List Nat→SS→PW→(Exit→SS→PW→Prop)→Prop
 | .skip,_,st,W,K=>K .normal st W
 | .region _ ops draw,_,st,W,K=>match draw with
  | false=>sxOps P tt W0 M ops.toList 0 ops.toList st W fun st W=>K .normal st W
  | true=>match drawOK ops with
   | true=>sxDr P tt W0 M ops (Nat.succ ops.size) [] [] [] st W fun st W=>K .normal st W
   | false=>False
 | .seq a b,U,st,W,K=>match isCut cuts b with
  | false=>sxC a (uses b ++ U) st W fun e st W=>match e with
   | .normal=>sxC b U st W K
   | e=>K e st W
  | true=>cutR W0 (carsGo tt st false (uses b ++ U) [] (asg a)) (carBs st [] (roots a)) (dsts a) st W (fun st W K=>sxC a (uses b ++ U) st W K) (fun st W K=>sxC b U st W K) K
 | .cond c a b,U,st,W,K=>ev st c fun s=>split s fun t=>match t with | true=>sxC a U st W K | false=>sxC b U st W K
 | .block id a,U,st,W,K=>sxC a U st W fun e st W=>match e with
  | .exit i=>match Nat.beq i id with | true=>K .normal st W | false=>K (.exit i) st W
  | e=>K e st W
 | .loop a,U,st,W,K=>match isPub cuts a with
  | false=>loopR W0 (carsGo tt st true (uses a ++ U) [] (asg a)) (carBs st [] (roots a)) (dsts a) st W (fun st W K=>sxC a (uses a ++ U) st W K) K
  | true=>pubL W0 (pubKeys st) st W fun st W=>loopR W0 (carsGo tt st true (uses a ++ U) [] (asg a)) (carBs st [] (roots a)) (dsts a) st W (fun st W K=>sxC a (uses a ++ U) st W K) K
 | .exit id,_,st,W,K=>K (.exit id) st W
 | .ret,_,st,W,K=>K .ret st W
 | _,_,_,_,_=>False
def resK:List ResultVar→SS→PW→(List Value→SS→PW→Prop)→Prop
 | [],st,W,K=>K [] st W
 | .tmp t :: r,st,W,K=>evP W0 (.tmp t) st W fun v st W=>resK r st W fun l st W=>K (v :: l) st W
 | .cell a t :: r,st,W,K=>match look tt t,look st.T a with
  | some i,some (.p k off)=>loadS st i W (.p k off) fun s=>toV st s fun v=>resK r st W fun l st W=>K (v :: l) st W
  | _,_=>False
def oneV (l:List Value) (K:Value→Prop):Prop:=match l with | [x]=>K x | l=>K (.tuple l.toArray)
def num {α:Type} :Nat→List α→List (Nat×α)
 | _,[]=>[]
 | n,x :: r=>(n,x) :: num (Nat.succ n) r
def sxFn (fn:Func) (args:List Value) (Post:Value→PW→Prop):Prop:=
 match fn.body with
 | none=>False
 | some c=>sxC P tt W0 M cuts c [] {T:=num 0 (args.map .v),C:=[],nx:=0,n:=fn.ntmps,D:=[] } W0 fun e st W=>match e with
  | .normal=>resK tt W0 fn.results.toList st W fun l _ W=>oneV l fun v=>∀W',Ext W W'→Post v W'
  | .ret=>resK tt W0 fn.results.toList st W fun l _ W=>oneV l fun v=>∀W',Ext W W'→Post v W'
  | _=>False
end
end Go.SX

/- The symbolic evaluator: how a table of types is shown right. -/
namespace Go.SX
theorem TGood.of {P:Program} {t:TypeId} {i:TyI} (h1:(P.info? t).map (fun x=>(x.size,x.bytes,x.zero))=some (i.size,i.bytes,some i.zv)) (h2:(P.underlying t).map undOf=some i.und)
  (h3:i.agg=isAggU i.und) (h4:i.zv.cells.size=i.size) (h5:i.sh.length=i.size) (h6:i.eq=false):TGood P t i:=by
 obtain⟨inf,hi,he⟩:=Option.map_eq_some_iff.1 h1
 obtain⟨d,hd,hu⟩:=Option.map_eq_some_iff.1 h2
 simp only[Prod.mk.injEq] at he
 exact⟨⟨inf,hi,he.1,he.2.1,he.2.2⟩,⟨d,hd,hu⟩,h3,h4,h5,fun h=>by rw[h6] at h;cases h⟩
theorem TGood.ofEq {P:Program} {t:TypeId} {i:TyI} (h1:(P.info? t).map (fun x=>(x.size,x.bytes,x.zero))=some (i.size,i.bytes,some i.zv)) (h2:(P.underlying t).map undOf=some i.und)
  (h3:i.agg=isAggU i.und) (h4:i.zv.cells.size=i.size) (h5:i.sh.length=i.size) (h6:EqOK P t i.sh):TGood P t i:=by
 have h:=TGood.of (i:={i with eq:=false }) h1 h2 h3 h4 h5 rfl
 exact⟨h.1,h.2.1,h3,h4,h5,fun _=>h6⟩
def fieldsB (tt:List (Nat×TyI)):Bool:=tt.all fun x=>match x.2.und with
 | .struct fs=>fs.all fun f=>(look tt f.1).isSome
 | .arr _ e=>(look tt e).isSome
 | _=>true
theorem look_mem {α:Type} : ∀{l:List (Nat×α)} {t:Nat} {i:α} (_:look l t=some i),(t,i)∈l
 | [],_,_,h=>by simp[look] at h
 | (k,x) :: r,t,i,hl=>by
  simp only[look] at hl
  cases hb:Nat.beq k t with
  | true=>
   simp only[hb,Option.some.injEq] at hl
   have:k=t:=Nat.eq_of_beq_eq_true hb
   simp[this,hl]
  | false=>
   simp only[hb] at hl
   exact List.mem_cons_of_mem _ (look_mem hl)
theorem fieldsIn_of {tt:List (Nat×TyI)} (h:fieldsB tt=true):FieldsIn tt:=by
 intro t i hi
 have:=List.all_eq_true.1 h _ (look_mem hi)
 constructor
 ·intro fs hu f hf
  simp only[hu] at this
  exact Option.isSome_iff_exists.1 (List.all_eq_true.1 this f hf)
 ·intro n e hu
  simp only[hu] at this
  exact Option.isSome_iff_exists.1 this
end Go.SX

/- The symbolic evaluator: when two monomials, two terms are the same. -/
set_option linter.unusedVariables false
set_option linter.unusedSimpArgs false
namespace Go.SX
variable {P:Program}
theorem run_part1 {t:TypeId} {i:TyI} (hG:TGood P t i) (hz:i.size=1) (ha:i.agg=false) (w:World) (l:List Value) (p:Nat) (v:Value) (h:l[p]?=some v):(part t l.toArray p).run P w = .ok v w:=by
 simp[part,hG.isAgg,hG.sizeOf,ha,hz,Sem.run_bind,h]
theorem int3 {k:IntKind} {l:List Value} (h:shpsB [.int k,.int k,.int k] l=true): ∃a b c,l = [.int k a,.int k b,.int k c]:=by
 match l,h with
 | [x,y,z],h=>
  simp only[shpsB,Bool.and_eq_true,and_true] at h
  obtain⟨h1,h2,h3⟩:=h
  cases x<;>simp only[shpB,Bool.false_eq_true] at h1
  cases y<;>simp only[shpB,Bool.false_eq_true] at h2
  cases z<;>simp only[shpB,Bool.false_eq_true] at h3
  obtain rfl:=of_decide_eq_true h1
  obtain rfl:=of_decide_eq_true h2
  obtain rfl:=of_decide_eq_true h3
  exact⟨_,_,_,rfl⟩
 | [],h=>simp[shpsB] at h
 | [_],h=>simp[shpsB] at h
 | [_,_],h=>simp[shpsB] at h
 | _ :: _ :: _ :: _ :: _,h=>simp[shpsB] at h
theorem eq_mono {t e:TypeId} {k:IntKind} {i:TyI} (ht:P.underlying t=some (.array 3 e)) (he:P.underlying e=some (.int k)) (hG:TGood P e i) (hz:i.size=1) (ha:i.agg=false) (w:World) (d:Nat) (a b c x y z:Int):
  (Op.equalIn (d+2) t (.agg #[.int k a,.int k b,.int k c]) (.agg #[.int k x,.int k y,.int k z])).run P w = .ok (a == x && (b == y && c == z)) w:=by
 have hG':=hG
 obtain⟨⟨inf,hi,h1,_,_⟩,_⟩:=hG'
 have hc:P.cellsOf e=1:=by simp[Program.cellsOf,hi,h1,hz]
 rw[run_equalIn_array w (d+1) _ _ ht hi,hc,show List.range 3 = [0,1,2] from rfl]
 have p: ∀(l:List Value) (q:Nat) (v:Value),l[q]?=some v→(part e l.toArray q).run P w = .ok v w:=fun l q v h=>run_part1 hG hz ha w l q v h
 have e1:=fun(u v:Int)=>run_equalIn_int (P:=P) w d e k k u v he
 have q1:=p [.int k a,.int k b,.int k c] 0 (.int k a) rfl
 have q2:=p [.int k a,.int k b,.int k c] 1 (.int k b) rfl
 have q3:=p [.int k a,.int k b,.int k c] 2 (.int k c) rfl
 have q4:=p [.int k x,.int k y,.int k z] 0 (.int k x) rfl
 have q5:=p [.int k x,.int k y,.int k z] 1 (.int k y) rfl
 have q6:=p [.int k x,.int k y,.int k z] 2 (.int k z) rfl
 have r0:(Op.eqItems (d+1) e 1 #[.int k a,.int k b,.int k c] #[.int k x,.int k y,.int k z] []).run P w = .ok true w:=by simp[Op.eqItems]
 have r1:(Op.eqItems (d+1) e 1 #[.int k a,.int k b,.int k c] #[.int k x,.int k y,.int k z] [2]).run P w = .ok (c == z) w:=by
  rw[Op.eqItems]
  simp only[Sem.run_bind,Nat.mul_one,q3,q6,e1,Result.andThen_ok]
  cases(c == z)
  ·rfl
  ·exact r0
 have r2:(Op.eqItems (d+1) e 1 #[.int k a,.int k b,.int k c] #[.int k x,.int k y,.int k z] [1,2]).run P w = .ok (b == y && c == z) w:=by
  rw[Op.eqItems]
  simp only[Sem.run_bind,Nat.mul_one,q2,q5,e1,Result.andThen_ok]
  cases(b == y)
  ·rfl
  ·exact r1
 rw[Op.eqItems]
 simp only[Sem.run_bind,Nat.mul_one,q1,q4,e1,Result.andThen_ok]
 cases(a == x)
 ·rfl
 ·exact r2
theorem eqOK_mono {t e:TypeId} {k:IntKind} {i:TyI} (ht:P.underlying t=some (.array 3 e)) (he:P.underlying e=some (.int k)) (hG:TGood P e i) (hz:i.size=1) (ha:i.agg=false) (hm:P.eqGuardType P.depth t=false):EqOK P t [.int k,.int k,.int k]:=by
 intro w l l' h h'
 obtain⟨a,b,c,rfl⟩:=int3 h
 obtain⟨x,y,z,rfl⟩:=int3 h'
 refine⟨?_,fun op x y=>run_eqGuard_agg w op t x y _ _ hm⟩
 have:=eq_mono ht he hG hz ha w 9998 a b c x y z
 show(Op.equalIn 10000 t _ _).run P w=_
 rw[this]
 congr 1
 by_cases h1:a=x<;>by_cases h2:b=y<;>by_cases h3:c=z<;>simp[h1,h2,h3]
theorem term4 {k:IntKind} {l:List Value} (h:shpsB [.int k,.int k,.int k,.str] l=true): ∃a b c s,l = [.int k a,.int k b,.int k c,.string s]:=by
 match l,h with
 | [x,y,z,u],h=>
  simp only[shpsB,Bool.and_eq_true,and_true] at h
  obtain⟨h1,h2,h3,h4⟩:=h
  obtain⟨a,b,c,e⟩:=int3 (l:=[x,y,z]) (k:=k) (by simp[shpsB,h1,h2,h3])
  cases e
  cases u<;>simp only[shpB,Bool.false_eq_true] at h4
  exact⟨_,_,_,_,rfl⟩
 | [],h=>simp[shpsB] at h
 | [_],h=>simp[shpsB] at h
 | [_,_],h=>simp[shpsB] at h
 | [_,_,_],h=>simp[shpsB] at h
 | _ :: _ :: _ :: _ :: _ :: _,h=>simp[shpsB] at h
theorem eqOK_term {t m e u:TypeId} {k:IntKind} {i j im:TyI} (ht:P.underlying t=some (.struct (P.fieldsOf t))) (hp:P.stoodInHeld t=false) (hf:(P.fieldsOf t).toList.map (fun f=>(f.name != "_",f.type,f.offset)) = [(true,m,0),(true,u,3)])
  (hmt:P.underlying m=some (.array 3 e)) (he:P.underlying e=some (.int k)) (hG:TGood P e i) (hz:i.size=1) (ha:i.agg=false) (hGm:TGood P m im) (hzm:im.size=3) (ham:im.agg=true)
  (hu:P.underlying u=some .string) (hGu:TGood P u j) (hzu:j.size=1) (hau:j.agg=false) (hm:P.eqGuardType P.depth t=false):EqOK P t [.int k,.int k,.int k,.str]:=by
 intro w l l' h h'
 obtain⟨a,b,c,s,rfl⟩:=term4 h
 obtain⟨x,y,z,r,rfl⟩:=term4 h'
 refine⟨?_,fun op x y=>run_eqGuard_agg w op t x y _ _ hm⟩
 show(Op.equalIn (9999+1) t _ _).run P w=_
 rw[run_equalIn_struct w 9999 t _ _ ht hp]
 generalize hF:(P.fieldsOf t).toList=F at hf
 rcases F with _ | ⟨f,_ | ⟨g,_ | ⟨q,F⟩⟩⟩
 ·simp at hf
 ·simp at hf
 ·simp only[List.map_cons,List.map_nil,List.cons.injEq,Prod.mk.injEq,and_true] at hf
  obtain⟨⟨n1,t1,o1⟩,n2,t2,o2⟩:=hf
  have n1':f.name≠ "_":=by simpa using n1
  have n2':g.name≠ "_":=by simpa using n2
  have p1: ∀(a b c:Int) (s:ByteArray),(part m #[.int k a,.int k b,.int k c,.string s] 0).run P w = .ok (.agg #[.int k a,.int k b,.int k c]) w:=fun a b c s=>by
   simp[part,hGm.isAgg,hGm.sizeOf,ham,hzm,Sem.run_bind]
  have p2: ∀(a b c:Int) (s:ByteArray),(part u #[.int k a,.int k b,.int k c,.string s] 3).run P w = .ok (.string s) w:=fun a b c s=>run_part1 hGu hzu hau w [.int k a,.int k b,.int k c,.string s] 3 _ rfl
  have e1:=eq_mono hmt he hG hz ha w 9997 a b c x y z
  have e2:(Op.equalIn 9999 u (.string s) (.string r)).run P w = .ok (s == r) w:=by
   rw[Op.equalIn,Sem.run_bind,run_underlying hu,Result.andThen_ok]
   rfl
  have r0:(Op.eqFields 9999 #[.int k a,.int k b,.int k c,.string s] #[.int k x,.int k y,.int k z,.string r] []).run P w = .ok true w:=by simp[Op.eqFields]
  have r1:(Op.eqFields 9999 #[.int k a,.int k b,.int k c,.string s] #[.int k x,.int k y,.int k z,.string r] [g]).run P w = .ok (s == r) w:=by
   rw[Op.eqFields,if_pos n2',t2,o2]
   simp only[Sem.run_bind,p2,e2,Result.andThen_ok]
   cases(s == r)
   ·rfl
   ·exact r0
  rw[Op.eqFields,if_pos n1',t1,o1]
  simp only[Sem.run_bind,p1,e1,Result.andThen_ok]
  have key:(if(!(a == x && (b == y && c == z)))=true then(pure false:Sem Bool) else Op.eqFields 9999 #[.int k a,.int k b,.int k c,.string s] #[.int k x,.int k y,.int k z,.string r] [g]).run P w = .ok ((a == x && (b == y && c == z)) && s == r) w:=by
   cases(a == x && (b == y && c == z))
   ·rfl
   ·exact r1
  rw[key]
  have hsr:(s == r)=decide (s=r):=by
   rw[beq_toListBytes]
   by_cases h4:s=r
   ·simp[h4]
   ·have:s.toList≠r.toList:=fun e=>h4 (by
     rw[ByteArray.toList_eq,ByteArray.toList_eq] at e
     exact ByteArray.ext (Array.ext' e))
    simp[h4,this]
  rw[hsr]
  congr 1
  by_cases h1:a=x<;>by_cases h2:b=y<;>by_cases h3:c=z<;>by_cases h4:s=r<;>simp[h1,h2,h3,h4]
 ·simp at hf
end Go.SX

/- The symbolic evaluator: operations that change something are sound. -/
set_option linter.unusedVariables false
set_option linter.unusedSimpArgs false
namespace Go.SX
variable {P:Program} {tt:List (Nat×TyI)} {W0:PW} {M:Nat→Prop}
theorem SVok.mono {n m:Nat} {β:Nat→Nat} {σ:Nat→Value} {s:SV} (h:SVok n β σ s) (hm:n≤m):SVok m β σ s:=by
 cases s with
 | p k _=>exact Nat.lt_of_lt_of_le h hm
 | o k=>exact Nat.lt_of_lt_of_le h hm
 | oe k sz i off=>exact⟨h.1,Nat.lt_of_lt_of_le h.2 hm⟩
 | pe=>exact Nat.lt_of_lt_of_le h hm
 | bs=>exact Nat.lt_of_lt_of_le h hm
 | _=>exact h
theorem val_agree {β β':Nat→Nat} {σ σ':Nat→Value} {n:Nat} (h: ∀k,k<n→β' k=β k∧σ' k=σ k) {s:SV} (hs:SVok n β σ s):s.val β' σ'=s.val β σ:=by
 cases s with
 | p k off=>simp only[SV.val,(h k hs).1]
 | pe k b sz l i off=>simp only[SV.val,(h k hs).1]
 | bs k n=>simp only[SV.val,(h k hs).1]
 | o k=>simp only[SV.val,(h k hs).2]
 | oe k sz i off=>simp only[SV.val,(h k hs.2).2]
 | _=>rfl
theorem ok_agree {β β':Nat→Nat} {σ σ':Nat→Value} {n:Nat} (h: ∀k,k<n→β' k=β k∧σ' k=σ k) {s:SV} (hs:SVok n β σ s):SVok n β' σ' s:=by
 cases s with
 | p k off=>exact hs
 | pe=>exact hs
 | bs=>exact hs
 | o k=>exact hs
 | oe k sz i off=>exact⟨⟨hs.1.choose,(val_agree (s:=.oe k sz i off) h hs).trans hs.1.choose_spec⟩,hs.2⟩
 | e s sz i off=>obtain⟨ad,h1⟩:=hs;exact⟨ad,h1⟩
 | _=>trivial
theorem blk_agree {β β':Nat→Nat} {σ σ':Nat→Value} {n:Nat} (h: ∀k,k<n→β' k=β k∧σ' k=σ k) {k:Nat} (hk:k<n) {bl:Blk} :blkOf β' σ' k bl=blkOf β σ k bl:=by
 cases bl<;>simp only[blkOf]<;>first | rfl | rw[(h _ hk).1] | rw[(h _ hk).2]
structure Desc (st st':SS):Prop where
 nx:st.nx≤st'.nx
 n:st'.n=st.n
 D: ∃new,st'.D=new ++ st.D∧∀k,k<st.nx→k∉new→look st'.C k=look st.C k
theorem Desc.refl (st:SS):Desc st st:=⟨Nat.le_refl _,rfl,[],rfl,fun _ _ _=>rfl⟩
theorem Desc.trans {a b c:SS} (h:Desc a b) (k:Desc b c):Desc a c:=by
 obtain⟨n1,h1,h2⟩:=h.D
 obtain⟨n2,k1,k2⟩:=k.D
 refine⟨Nat.le_trans h.nx k.nx,k.n.trans h.n,n2 ++ n1,by rw[k1,h1];simp,fun i hi hn=>?_⟩
 simp only[List.mem_append,not_or] at hn
 exact(k2 i (Nat.lt_of_lt_of_le hi h.nx) hn.1).trans (h2 i hi hn.2)
structure Run (W0:PW) (M:Nat→Prop) (st:SS) (W:PW) (β:Nat→Nat) (σ:Nat→Value) (a:Act) (Wa:PW):Prop where
 rel:Rel β σ st a Wa
 ext:Ext W Wa
 keep:Keep M W0.w Wa.w
 priv: ∀b,Wa.S b→W0.S b∨W0.w.heap.size≤b
 lt: ∀b,Wa.S b→b<Wa.w.heap.size
 s0: ∀b,W0.S b→Wa.S b
 b0: ∀b,W0.S b→b<W0.w.heap.size
 nC: ∀k bl,look st.C k=some bl→k<st.nx
 fresh: ∀k bl g,look st.C k=some bl→blkOf β σ k bl=some g→W0.w.heap.size≤g
theorem blk_S {β:Nat→Nat} {σ:Nat→Value} {W:PW} {k:Nat} {bl:Blk} {g:Nat} (h:BlkOK β σ W k bl) (hg:blkOf β σ k bl=some g):W.S g:=by
 cases bl with
 | box cs=>simp only[blkOf,Option.some.injEq] at hg;subst hg;exact h.2
 | row t sz xs=>exact h.2 g hg
 | itr=>simp only[blkOf,Option.some.injEq] at hg;subst hg;exact h.2
 | _=>simp[blkOf] at hg
theorem BlkOK.same {β β':Nat→Nat} {σ σ':Nat→Value} {W W':PW} {k n:Nat} {bl:Blk} (h:BlkOK β σ W k bl) (hn: ∀k,k<n→β' k=β k∧σ' k=σ k) (hk:k<n)
  (hb: ∀g,blkOf β σ k bl=some g→W'.w.heap[g]?=W.w.heap[g]?∧W'.S g):BlkOK β' σ' W' k bl:=by
 cases bl with
 | box cs=>
  obtain⟨⟨t,ht⟩,hS⟩:=h
  have:=hb (β k) rfl
  exact⟨⟨t,by rw[(hn k hk).1,this.1];exact ht⟩,by rw[(hn k hk).1];exact this.2⟩
 | row t sz xs=>
  obtain⟨⟨hl,ho⟩,hS⟩:=h
  refine⟨⟨hl,?_⟩,fun g hg=>?_⟩
  ·rw[(hn k hk).2]
   refine⟨ho.1,?_⟩
   rcases ho.2 with hnil | ⟨g,cap,cur,hv,h0,hh,hr⟩
   ·exact .inl hnil
   ·have:=hb g (by simp[blkOf,hv,Value.ownBlock])
    exact .inr ⟨g,cap,cur,hv,h0,this.1.trans hh,hr⟩
  ·rw[(hn k hk).2] at hg
   exact(hb g hg).2
 | pub x=>show σ' k=x;rw[(hn k hk).2];exact h
 | dead=>trivial
 | itr g0 kt et since seen last cur=>
  obtain⟨ht,hS⟩:=h
  have:=hb (β k) rfl
  exact⟨by rw[(hn k hk).1,this.1];exact ht,by rw[(hn k hk).1];exact this.2⟩
theorem Run.world {st:SS} {W Wa Wa':PW} {β:Nat→Nat} {σ:Nat→Value} {a:Act} {N:Nat→Prop} (h:Run W0 M st W β σ a Wa) (hk:Keep N Wa.w Wa'.w) (hS: ∀b,Wa'.S b↔Wa.S b)
  (hN: ∀g,N g→¬Wa.S g∧may W0 M g):Run W0 M st Wa' β σ a Wa' where
 rel:=⟨h.rel.defers,h.rel.size,h.rel.T,fun k bl hc=>(h.rel.C k bl hc).same (n:=k+1) (fun _ _=>⟨rfl,rfl⟩) (Nat.lt_succ_self k) fun g hg=>by
   have hs:=blk_S (h.rel.C k bl hc) hg
   exact⟨hk.block g (h.lt g hs) fun hn=>(hN g hn).1 hs,(hS g).2 hs⟩,h.rel.inj,h.rel.dom⟩
 ext:=Ext.refl _
 keep:=h.keep.then hk fun i hi=>(hN i hi).2
 priv:=fun b hb=>h.priv b ((hS b).1 hb)
 lt:=fun b hb=>Nat.lt_of_lt_of_le (h.lt b ((hS b).1 hb)) hk.size
 s0:=fun b hb=>(hS b).2 (h.s0 b hb)
 b0:=h.b0
 nC:=h.nC
 fresh:=h.fresh
theorem Run.here {st:SS} {W Wa:PW} {β:Nat→Nat} {σ:Nat→Value} {a:Act} (h:Run W0 M st W β σ a Wa):Run W0 M st Wa β σ a Wa:=⟨h.rel,Ext.refl _,h.keep,h.priv,h.lt,h.s0,h.b0,h.nC,h.fresh⟩
theorem look_cons {α:Type} (k:Nat) (x:α) (r:List (Nat×α)) (i:Nat):look ((k,x) :: r) i=if k=i then some x else look r i:=by
 simp only[look]
 cases hb:Nat.beq k i with
 | true=>simp[Nat.eq_of_beq_eq_true hb]
 | false=>simp[Nat.ne_of_beq_eq_false hb]
def upd {α:Type} (f:Nat→α) (k:Nat) (x:α):Nat→α:=fun i=>if i=k then x else f i
theorem Run.new {st:SS} {W Wa Wa':PW} {β:Nat→Nat} {σ:Nat→Value} {a:Act} (h:Run W0 M st W β σ a Wa) {bl:Blk} {b':Nat} {v':Value}
  (hk:Keep (fun _=>False) Wa.w Wa'.w) (hS: ∀b,Wa'.S b↔Wa.S b∨blkOf (upd β st.nx b') (upd σ st.nx v') st.nx bl=some b)
  (hb:BlkOK (upd β st.nx b') (upd σ st.nx v') Wa' st.nx bl) (hg: ∀g,blkOf (upd β st.nx b') (upd σ st.nx v') st.nx bl=some g→Wa.w.heap.size≤g∧g<Wa'.w.heap.size):
  Run W0 M (newBlk st bl) W (upd β st.nx b') (upd σ st.nx v') a Wa'∧Desc st (newBlk st bl)∧(∀k,k<st.nx→upd β st.nx b' k=β k∧upd σ st.nx v' k=σ k):=by
 have hag: ∀k,k<st.nx→upd β st.nx b' k=β k∧upd σ st.nx v' k=σ k:=fun k hk=>by simp[upd,show k≠st.nx by omega]
 have hlook: ∀k bl',look (newBlk st bl).C k=some bl'→(k=st.nx∧bl'=bl)∨(k<st.nx∧look st.C k=some bl'):=by
  intro k bl' hc
  simp only[newBlk,look_cons] at hc
  split at hc
  ·rename_i he;exact .inl ⟨he.symm,(Option.some.inj hc).symm⟩
  ·exact .inr ⟨h.nC _ _ hc,hc⟩
 refine⟨⟨⟨h.rel.defers,h.rel.size,fun i s hs=>?_,fun k bl' hc=>?_,?_,h.rel.dom⟩,?_,?_,?_,?_,?_,h.b0,?_,?_⟩,?_,hag⟩
 ·obtain⟨h1,h2⟩:=h.rel.T i s hs
  exact⟨h1.trans (val_agree hag h2).symm,(ok_agree hag h2).mono (Nat.le_succ _)⟩
 ·rcases hlook k bl' hc with⟨rfl,rfl⟩ | ⟨hlt,hc'⟩
  ·exact hb
  ·refine(h.rel.C k bl' hc').same hag hlt fun g hg'=>?_
   have hs:=blk_S (h.rel.C k bl' hc') hg'
   exact⟨hk.block g (h.lt g hs) id,(hS g).2 (.inl hs)⟩
 ·intro k k' bl1 bl2 g hne h1 h2 hg1 hg2
  have old: ∀k bl',look st.C k=some bl'→k<st.nx→blkOf (upd β st.nx b') (upd σ st.nx v') k bl'=some g→g<Wa.w.heap.size:=by
   intro k bl' hc hlt hg'
   rw[blk_agree hag hlt] at hg'
   exact h.lt g (blk_S (h.rel.C k bl' hc) hg')
  rcases hlook k bl1 h1 with⟨rfl,rfl⟩ | ⟨hlt,hc⟩<;>rcases hlook k' bl2 h2 with⟨rfl,rfl⟩ | ⟨hlt',hc'⟩
  ·exact hne rfl
  ·have:=old k' bl2 hc' hlt' hg2
   have:=(hg g hg1).1
   omega
  ·have:=old k bl1 hc hlt hg1
   have:=(hg g hg2).1
   omega
  ·rw[blk_agree hag hlt] at hg1
   rw[blk_agree hag hlt'] at hg2
   exact h.rel.inj k k' bl1 bl2 g hne hc hc' hg1 hg2
 ·refine h.ext.trans ⟨hk.size,fun b hb1 hb2=>⟨hk.block b hb1 id,fun hs=>?_⟩⟩
  rcases(hS b).1 hs with hs | hs
  ·exact hb2 hs
  ·have:=(hg b hs).1
   omega
 ·exact h.keep.then hk fun i hi=>hi.elim
 ·intro b hb
  rcases(hS b).1 hb with hs | hs
  ·exact h.priv b hs
  ·exact .inr (Nat.le_trans h.keep.size (hg b hs).1)
 ·intro b hb
  rcases(hS b).1 hb with hs | hs
  ·exact Nat.lt_of_lt_of_le (h.lt b hs) hk.size
  ·exact(hg b hs).2
 ·exact fun b hb=>(hS b).2 (.inl (h.s0 b hb))
 ·intro k bl' hc
  rcases hlook k bl' hc with⟨rfl,_⟩ | ⟨hlt,_⟩
  ·exact Nat.lt_succ_self _
  ·exact Nat.lt_succ_of_lt hlt
 ·intro k bl' g hc hg'
  rcases hlook k bl' hc with⟨rfl,rfl⟩ | ⟨hlt,hc'⟩
  ·exact Nat.le_trans h.keep.size (hg g hg').1
  ·rw[blk_agree hag hlt] at hg'
   exact h.fresh k bl' g hc' hg'
 ·refine⟨Nat.le_succ _,rfl,[],rfl,fun k hk _=>?_⟩
  simp only[newBlk,look_cons]
  rw[if_neg (by omega)]
theorem Run.set {st:SS} {W Wa Wa':PW} {β:Nat→Nat} {σ:Nat→Value} {a:Act} (h:Run W0 M st W β σ a Wa) {k:Nat} {old bl:Blk} (hold:look st.C k=some old)
  (hk:Keep (fun b=>blkOf β σ k old=some b) Wa.w Wa'.w) (hS1: ∀b,Wa'.S b→Wa.S b) (hS2: ∀b,Wa.S b→¬blkOf β σ k old=some b→Wa'.S b)
  (hb:BlkOK β σ Wa' k bl) (hg: ∀g,blkOf β σ k bl=some g→blkOf β σ k old=some g):
  Run W0 M (setBlk st k bl) W β σ a Wa'∧Desc st (setBlk st k bl):=by
 have hlook: ∀i bl',look (setBlk st k bl).C i=some bl'→(i=k∧bl'=bl)∨(i≠k∧look st.C i=some bl'):=by
  intro i bl' hc
  simp only[setBlk,look_cons] at hc
  split at hc
  ·rename_i he;exact .inl ⟨he.symm,(Option.some.inj hc).symm⟩
  ·rename_i hne;exact .inr ⟨fun e=>hne e.symm,hc⟩
 have hS0: ∀g,blkOf β σ k old=some g→¬W0.S g:=fun g e hs=>by have:=h.b0 g hs;have:=h.fresh k old g hold e;omega
 refine⟨⟨⟨h.rel.defers,h.rel.size,h.rel.T,fun i bl' hc=>?_,?_,h.rel.dom⟩,?_,?_,?_,?_,?_,h.b0,?_,?_⟩,?_⟩
 ·rcases hlook i bl' hc with⟨rfl,rfl⟩ | ⟨hne,hc'⟩
  ·exact hb
  ·refine(h.rel.C i bl' hc').same (n:=i+1) (fun _ _=>⟨rfl,rfl⟩) (Nat.lt_succ_self i) fun g hg'=>?_
   have hs:=blk_S (h.rel.C i bl' hc') hg'
   have hno:¬blkOf β σ k old=some g:=fun e=>h.rel.inj i k bl' old g hne hc' hold hg' e
   exact⟨hk.block g (h.lt g hs) hno,hS2 g hs hno⟩
 ·intro i i' b1 b2 g hne h1 h2 hg1 hg2
  rcases hlook i b1 h1 with⟨rfl,rfl⟩ | ⟨hn1,hc1⟩<;>rcases hlook i' b2 h2 with⟨rfl,rfl⟩ | ⟨hn2,hc2⟩
  ·exact hne rfl
  ·exact h.rel.inj i i' old b2 g hne hold hc2 (hg g hg1) hg2
  ·exact h.rel.inj i i' b1 old g hne hc1 hold hg1 (hg g hg2)
  ·exact h.rel.inj i i' b1 b2 g hne hc1 hc2 hg1 hg2
 ·refine h.ext.trans ⟨hk.size,fun b hb1 hb2=>⟨hk.block b hb1 fun e=>hb2 (blk_S (h.rel.C k old hold) e),fun hs=>hb2 (hS1 b hs)⟩⟩
 ·exact h.keep.then hk fun i hi=>.inr (h.fresh k old i hold hi)
 ·exact fun b hb=>h.priv b (hS1 b hb)
 ·exact fun b hb=>Nat.lt_of_lt_of_le (h.lt b (hS1 b hb)) hk.size
 ·exact fun b hb=>hS2 b (h.s0 b hb) fun e=>hS0 b e hb
 ·intro i bl' hc
  rcases hlook i bl' hc with⟨rfl,_⟩ | ⟨_,hc'⟩
  ·exact h.nC _ _ hold
  ·exact h.nC _ _ hc'
 ·intro i bl' g hc hg'
  rcases hlook i bl' hc with⟨rfl,rfl⟩ | ⟨_,hc'⟩
  ·exact h.fresh i old g hold (hg g hg')
  ·exact h.fresh i bl' g hc' hg'
 ·refine⟨Nat.le_refl _,rfl,[k],rfl,fun i hi hn=>?_⟩
  simp only[setBlk,look_cons]
  rw[if_neg (by simpa using fun e=>hn (by simp[e]))]
end Go.SX

/- The symbolic evaluator: effects are sound. -/
set_option linter.unusedVariables false
set_option linter.unusedSimpArgs false
namespace Go.SX
variable {P:Program} {tt:List (Nat×TyI)} {W0:PW} {M:Nat→Prop}
theorem Own.of_row {W:PW} {t:TypeId} {sz:Nat} {v:Value} {xs:List (List Value)} (h:OwnRow W.w t sz v xs) (hS: ∀g,v.ownBlock=some g→¬W.S g): ∃s:Sl,v=s.v∧Own W t sz s xs:=by
 obtain⟨hl,ho⟩:=h
 rcases ho.2 with⟨rfl,h0⟩ | ⟨g,cap,cur,rfl,hr⟩
 ·exact⟨⟨none,0,0⟩,rfl,⟨hl,ho⟩,hS⟩
 ·exact⟨⟨_,_,_⟩,rfl,⟨hl,ho⟩,hS⟩
theorem pub_sound {k:Nat} {st:SS} {W Wa:PW} {β:Nat→Nat} {σ:Nat→Value} {a:Act} {K:Value→SS→PW→Prop} (h:pub W0 k st W K) (hR:Run W0 M st W β σ a Wa):
  ∃v st' W' Wa',K v st' W'∧σ k=v∧Wa'.w=Wa.w∧Run W0 M st' W' β σ a Wa'∧st'.T=st.T∧Desc st st':=by
 unfold pub at h
 split at h
 ·rename_i t sz xs hC
  obtain⟨hO,hS⟩:=hR.rel.C _ _ hC
  have hr:=Run.set (Wa':=⟨Wa.w,fun b=>Wa.S b∧¬(σ k).ownBlock=some b⟩) (bl:=.pub (σ k)) hR hC (Keep.refl _ _) (fun b hb=>hb.1) (fun b hb hn=>⟨hb,by simpa[blkOf] using hn⟩) rfl (by simp[blkOf])
  obtain⟨s,hs,hown⟩:=Own.of_row (W:=⟨Wa.w,fun b=>Wa.S b∧¬(σ k).ownBlock=some b⟩) hO (fun g hg hn=>hn.2 hg)
  refine⟨s.v,_,_,⟨Wa.w,fun b=>Wa.S b∧¬(σ k).ownBlock=some b⟩,h s _ hr.1.ext hown (fun g hg=>?_),hs,rfl,?_,rfl,?_⟩
  ·refine⟨hR.fresh k _ g hC (by simpa[blkOf,hs] using hg),fun hlt=>Classical.byContradiction fun hn=>(hR.ext.keep g hlt hn).2 (hS g (by rw[hs];exact hg))⟩
  ·have:=hr.1.here
   rw[hs] at this
   rw[hs]
   exact this
  ·have:=hr.2
   rw[hs] at this
   exact this
 ·rename_i x hC
  exact⟨x,st,W,Wa,h,hR.rel.C _ _ hC,rfl,hR,rfl,Desc.refl _⟩
 ·exact h.elim
def Free (st:SS) (β:Nat→Nat) (σ:Nat→Value) (g:Nat):Prop:=∀k bl,look st.C k=some bl→blkOf β σ k bl≠some g
theorem one1B_iff {l:List Value} (h:one1B l=true): ∀u∈l,u.oneCell'=true:=fun u hu=>List.all_eq_true.1 h u hu
theorem flatten_single (cs:List Value):(cs.map fun c=>[c]).flatten=cs:=by
 induction cs with
 | nil=>rfl
 | cons c r ih=>simp[ih]
theorem pubB_sound {k n:Nat} {st:SS} {W Wa:PW} {β:Nat→Nat} {σ:Nat→Value} {a:Act} {K:Value→SS→PW→Prop} (h:pubB W0 k n st W K) (hR:Run W0 M st W β σ a Wa):
  ∃v st' W' Wa',K v st' W'∧SV.val β σ (.bs k n)=v∧Wa'.w=Wa.w∧Run W0 M st' W' β σ a Wa'∧st'.T=st.T∧Desc st st'∧∀g,Free st β σ g→Wa.S g→Free st' β σ g∧Wa'.S g:=by
 unfold pubB at h
 split at h
 ·rename_i cs hC
  split at h
  ·rename_i hb1 hb2
   obtain rfl:=Nat.eq_of_beq_eq_true hb1
   simp only[Bool.and_eq_true] at hb2
   obtain⟨⟨hb2,hb3⟩,hb4⟩:=hb2
   have hb2:1≤cs.length:=Nat.le_of_ble_eq_true hb2
   have hb3:cs.length≤1000:=Nat.le_of_ble_eq_true hb3
   obtain⟨⟨t,hh⟩,hS⟩:=hR.rel.C _ _ hC
   have hr:=Run.set (Wa':=⟨Wa.w,fun b=>Wa.S b∧¬b=β k⟩) (bl:=.dead) hR hC (Keep.refl _ _) (fun b hb=>hb.1) (fun b hb hn=>⟨hb,fun e=>hn (by simp[blkOf,e])⟩) trivial (by simp[blkOf])
   have hrow:Row ⟨Wa.w,fun b=>Wa.S b∧¬b=β k⟩ t 1 ⟨some ⟨β k,0,none⟩,cs.length,cs.length⟩ (cs.map fun c=>[c]):=by
    refine⟨by simp,Nat.le_refl _,by show cs.length≤_;simp only[maxLen];omega,fun x hx=>?_,.inr ⟨β k,0,cs.toArray,(0,0),rfl,fun h=>h.2 rfl,hh,fun j v hj=>?_⟩⟩
    ·obtain⟨c,hc,rfl⟩:=List.mem_map.1 hx
     exact⟨rfl,fun u hu=>by rw[List.mem_singleton.1 hu];exact one1B_iff hb4 c hc⟩
    ·rw[flatten_single] at hj
     simpa using hj
   refine⟨_,_,_,⟨Wa.w,fun b=>Wa.S b∧¬b=β k⟩,h ⟨some ⟨β k,0,none⟩,cs.length,cs.length⟩ _ hr.1.ext ⟨t,hrow⟩ (fun g hg=>?_),rfl,rfl,hr.1.here,rfl,hr.2,fun g h1 h2=>⟨?_,h2,?_⟩⟩
   ·have hg:β k=g:=by simpa[Value.ownBlock] using hg
    subst hg
    exact⟨hR.fresh k _ _ hC rfl,fun hlt=>Classical.byContradiction fun hn=>(hR.ext.keep _ hlt hn).2 hS⟩
   ·intro i bl hc
    simp only[setBlk,look_cons] at hc
    split at hc
    ·obtain rfl:=Option.some.inj hc
     simp[blkOf]
    ·exact h1 i bl hc
   ·rintro rfl
    exact h1 k _ hC rfl
  ·exact h.elim
 ·exact h.elim
theorem evP_sound {x:Operand} {st:SS} {W Wa:PW} {β:Nat→Nat} {σ:Nat→Value} {a:Act} {K:Value→SS→PW→Prop} (h:evP W0 x st W K) (hR:Run W0 M st W β σ a Wa):
  ∃v st' W' Wa',K v st' W'∧a.eval x=v∧Wa'.w=Wa.w∧Run W0 M st' W' β σ a Wa'∧st'.T=st.T∧Desc st st':=by
 obtain⟨s,hs,h1⟩:=ev_sound (W:=W) h
 have he:=(h1 β σ a Wa hR.rel hR.ext).1
 have plain: ∀{s},toV st s (fun v=>K v st W)→a.eval x=s.val β σ→∃v st' W' Wa',K v st' W'∧a.eval x=v∧Wa'.w=Wa.w∧Run W0 M st' W' β σ a Wa'∧st'.T=st.T∧Desc st st':=by
  intro s hs he
  obtain⟨v,hv,h2⟩:=toV_sound (W:=W) hs
  exact⟨v,st,W,Wa,hv,he.trans (h2 β σ a Wa hR.rel hR.ext),rfl,hR,rfl,Desc.refl _⟩
 cases s with
 | o k=>
  obtain⟨v,st',W',Wa',hK,hv,hrest⟩:=pub_sound hs hR
  exact⟨v,st',W',Wa',hK,he.trans hv,hrest⟩
 | bs k n=>
  obtain⟨v,st',W',Wa',hK,hv,h1,h2,h3,h4,_⟩:=pubB_sound hs hR
  exact⟨v,st',W',Wa',hK,he.trans hv,h1,h2,h3,h4⟩
 | _=>exact plain hs he
theorem evPs_sound: ∀{l:List Operand} {st:SS} {W Wa:PW} {β:Nat→Nat} {σ:Nat→Value} {a:Act} {K:List Value→SS→PW→Prop} (_:evPs W0 l st W K) (_:Run W0 M st W β σ a Wa),
  ∃vs st' W' Wa',K vs st' W'∧l.map a.eval=vs∧Wa'.w=Wa.w∧Run W0 M st' W' β σ a Wa'∧st'.T=st.T∧Desc st st'
 | [],st,W,Wa,β,σ,a,K,h,hR=>⟨[],st,W,Wa,h,rfl,rfl,hR,rfl,Desc.refl _⟩
 | x :: r,st,W,Wa,β,σ,a,K,h,hR=>by
  obtain⟨v,st1,W1,Wa1,h1,he,hw,hR1,hT,hD⟩:=evP_sound h hR
  obtain⟨vs,st2,W2,Wa2,h2,he2,hw2,hR2,hT2,hD2⟩:=evPs_sound (l:=r) h1 hR1
  exact⟨v :: vs,st2,W2,Wa2,h2,by simp[he,he2],hw2.trans hw,hR2,hT2.trans hT,hD.trans hD2⟩
theorem Free.set {st:SS} {β:Nat→Nat} {σ:Nat→Value} {g k:Nat} {bl:Blk} (h:Free st β σ g) (hb:blkOf β σ k bl≠some g):Free (setBlk st k bl) β σ g:=by
 intro i bl' hc
 simp only[setBlk,look_cons] at hc
 split at hc
 ·rename_i he;subst he;obtain rfl:=Option.some.inj hc;exact hb
 ·exact h i bl' hc
theorem evP_sound' {x:Operand} {st:SS} {W Wa:PW} {β:Nat→Nat} {σ:Nat→Value} {a:Act} {K:Value→SS→PW→Prop} (h:evP W0 x st W K) (hR:Run W0 M st W β σ a Wa):
  ∃v st' W' Wa',K v st' W'∧a.eval x=v∧Wa'.w=Wa.w∧Run W0 M st' W' β σ a Wa'∧st'.T=st.T∧Desc st st'∧(∀g,Free st β σ g→Wa.S g→Free st' β σ g∧Wa'.S g):=by
 obtain⟨s,hs,h1⟩:=ev_sound (W:=W) h
 have he:=(h1 β σ a Wa hR.rel hR.ext).1
 have plain: ∀{s},toV st s (fun v=>K v st W)→a.eval x=s.val β σ→∃v st' W' Wa',K v st' W'∧a.eval x=v∧Wa'.w=Wa.w∧Run W0 M st' W' β σ a Wa'∧st'.T=st.T∧Desc st st'∧(∀g,Free st β σ g→Wa.S g→Free st' β σ g∧Wa'.S g):=by
  intro s hs he
  obtain⟨v,hv,h2⟩:=toV_sound (W:=W) hs
  exact⟨v,st,W,Wa,hv,he.trans (h2 β σ a Wa hR.rel hR.ext),rfl,hR,rfl,Desc.refl _,fun g h1 h2=>⟨h1,h2⟩⟩
 cases s with
 | o k=>
  simp only[pub] at hs
  split at hs
  ·rename_i t sz xs hC
   obtain⟨hO,hS⟩:=hR.rel.C _ _ hC
   have hr:=Run.set (Wa':=⟨Wa.w,fun b=>Wa.S b∧¬(σ k).ownBlock=some b⟩) (bl:=.pub (σ k)) hR hC (Keep.refl _ _) (fun b hb=>hb.1) (fun b hb hn=>⟨hb,by simpa[blkOf] using hn⟩) rfl (by simp[blkOf])
   obtain⟨s,hs',hown⟩:=Own.of_row (W:=⟨Wa.w,fun b=>Wa.S b∧¬(σ k).ownBlock=some b⟩) hO (fun g hg hn=>hn.2 hg)
   have hr1:=hr.1.here
   have hr2:=hr.2
   have hr3:=hr.1.ext
   have hfree: ∀g,Free st β σ g→Wa.S g→Free (setBlk st k (.pub (σ k))) β σ g∧(Wa.S g∧¬(σ k).ownBlock=some g):=fun g h1 h2=>⟨h1.set (by simp[blkOf]),h2,fun e=>h1 k _ hC (by simpa[blkOf] using e)⟩
   have hfr: ∀g,(σ k).ownBlock=some g→W0.w.heap.size≤g∧(g<W.w.heap.size→W.S g):=fun g hg=>⟨hR.fresh k (.row t sz xs) g hC (by simpa[blkOf] using hg),fun hlt=>Classical.byContradiction fun hn=>(hR.ext.keep g hlt hn).2 (hS g hg)⟩
   rw[hs'] at hr1 hr2 hr3 hown hfree hfr
   exact⟨s.v,_,_,⟨Wa.w,fun b=>Wa.S b∧¬s.v.ownBlock=some b⟩,hs s _ hr3 hown (fun g hg=>hfr g hg),he.trans hs',rfl,hr1,rfl,hr2,hfree⟩
  ·rename_i x' hC
   exact⟨x',st,W,Wa,hs,he.trans (hR.rel.C _ _ hC),rfl,hR,rfl,Desc.refl _,fun g h1 h2=>⟨h1,h2⟩⟩
  ·exact hs.elim
 | bs k n=>
  obtain⟨v,st',W',Wa',hK,hv,h1,h2,h3,h4,h5⟩:=pubB_sound hs hR
  exact⟨v,st',W',Wa',hK,he.trans hv,h1,h2,h3,h4,h5⟩
 | _=>exact plain hs he
theorem evPs_sound': ∀{l:List Operand} {st:SS} {W Wa:PW} {β:Nat→Nat} {σ:Nat→Value} {a:Act} {K:List Value→SS→PW→Prop} (_:evPs W0 l st W K) (_:Run W0 M st W β σ a Wa),
  ∃vs st' W' Wa',K vs st' W'∧l.map a.eval=vs∧Wa'.w=Wa.w∧Run W0 M st' W' β σ a Wa'∧st'.T=st.T∧Desc st st'∧∀g,Free st β σ g→Wa.S g→Free st' β σ g∧Wa'.S g
 | [],st,W,Wa,β,σ,a,K,h,hR=>⟨[],st,W,Wa,h,rfl,rfl,hR,rfl,Desc.refl _,fun _ h1 h2=>⟨h1,h2⟩⟩
 | x :: r,st,W,Wa,β,σ,a,K,h,hR=>by
  obtain⟨v,st1,W1,Wa1,h1,he,hw,hR1,hT,hD,hF⟩:=evP_sound' h hR
  obtain⟨vs,st2,W2,Wa2,h2,he2,hw2,hR2,hT2,hD2,hF2⟩:=evPs_sound' (l:=r) h1 hR1
  exact⟨v :: vs,st2,W2,Wa2,h2,by simp[he,he2],hw2.trans hw,hR2,hT2.trans hT,hD.trans hD2,fun g g1 g2=>let k:=hF g g1 g2;hF2 g k.1 k.2⟩
def Res (W0:PW) (M:Nat→Prop) (st:SS) (β:Nat→Nat) (σ:Nat→Value) (a:Act) (o:Oper) (K:SV→SS→PW→Prop) (a':Act) (w':World):Prop:=
 ∃s β' σ' st' W' Wa',Wa'.w=w'∧a'=a.put o.dst (s.val β' σ')∧Run W0 M st' W' β' σ' a Wa'∧SVok st'.nx β' σ' s∧st'.T=st.T∧K s st' W'∧Desc st st'∧∀k,k<st.nx→β' k=β k∧σ' k=σ k
def EffOK (P:Program) (W0:PW) (M:Nat→Prop) (st:SS) (W:PW) (o:Oper) (K:SV→SS→PW→Prop):Prop:=
 ∀β σ a Wa Q,Run W0 M st W β σ a Wa→o.wp P a Wa.w (Res W0 M st β σ a o K) Q
theorem wp_value {o:Oper} {a:Act} {w w':World} {v:Value} {next:Act→World→Prop} {Q:Exit→Act→World→Prop} (h:(execOp a.eval o).run P w = .ok (.value v) w') (hn:next (a.put o.dst v) w'):o.wp P a w next Q:=by
 unfold Oper.wp
 rw[h]
 exact hn
theorem wp_skipped {o:Oper} {a:Act} {w w':World} {next:Act→World→Prop} {Q:Exit→Act→World→Prop} (h:(execOp a.eval o).run P w = .ok .skip w') (hn:next (a.put o.dst undef) w'):o.wp P a w next Q:=by
 unfold Oper.wp
 rw[h]
 exact hn
theorem agree_refl {β:Nat→Nat} {σ:Nat→Value} {n:Nat} : ∀k,k<n→β k=β k∧σ k=σ k:=fun _ _=>⟨rfl,rfl⟩
end Go.SX

/- The symbolic evaluator: effects are sound, one by one. -/
set_option linter.unusedVariables false
set_option linter.unusedSimpArgs false
namespace Go.SX
variable {P:Program} {tt:List (Nat×TyI)} {W0:PW} {M:Nat→Prop}
theorem setL_eq: ∀(l cs:List Value) (o:Nat),o+l.length≤cs.length→setL cs o l=cs.take o ++ l ++ cs.drop (o+l.length)
 | [],cs,o,_=>by simp[setL]
 | x :: r,cs,o,h=>by
  simp only[List.length_cons] at h
  rw[setL,setL_eq r _ _ (by simp;omega)]
  have hlt:o<cs.length:=by omega
  rw[List.set_eq_take_append_cons_drop,if_pos hlt]
  have e1:(List.take o cs ++ x :: List.drop (o+1) cs).take o.succ=cs.take o ++ [x]:=by
   rw[List.take_append,List.length_take]
   have:List.take (o+1) (List.take o cs)=List.take o cs:=List.take_of_length_le (by simp;omega)
   simp[show min o cs.length=o by omega,this]
  have e2:(List.take o cs ++ x :: List.drop (o+1) cs).drop (o.succ+r.length)=cs.drop (o+(x :: r).length):=by
   rw[List.drop_append,List.length_take,show min o cs.length=o by omega,List.drop_of_length_le (by simp;omega)]
   simp only[List.nil_append,List.length_cons]
   rw[show o.succ+r.length-o=r.length+1 by omega,List.drop_succ_cons,List.drop_drop]
   congr 1
   omega
  rw[e1,e2]
  simp
theorem one1_iff {l:List Value} (h:one1 l=true): ∀u∈l,u.oneCell'=true:=List.all_eq_true.1 h
theorem flatten_set {sz:Nat} : ∀{xs:List (List Value)} (_: ∀x∈xs,x.length=sz) {i:Nat} (_:i<xs.length) {l:List Value} (_:l.length=sz),(xs.set i l).flatten=setL xs.flatten (i*sz) l
 | [],_,i,h,_,_=>by simp at h
 | x :: r,hl,0,_,l,h=>by
  rw[setL_eq _ _ _ (by simp[h,hl x (by simp)])]
  simp[h,hl x (by simp)]
 | x :: r,hl,i+1,hi,l,h=>by
  have hx:=hl x (by simp)
  have hr: ∀y∈r,y.length=sz:=fun y hy=>hl y (by simp[hy])
  have hi':i<r.length:=by simpa using hi
  have hlen:r.flatten.length=r.length*sz:=by
   clear hi hi' hl h
   induction r with
   | nil=>simp
   | cons y r ih=>simp only[List.flatten_cons,List.length_append,List.length_cons,ih (fun z hz=>hr z (by simp[hz])),hr y (by simp),Nat.add_mul];omega
  have hle:i*sz+sz≤r.flatten.length:=by rw[hlen,←Nat.succ_mul];exact Nat.mul_le_mul_right _ hi'
  simp only[List.set_cons_succ,List.flatten_cons,flatten_set hr hi' h]
  rw[setL_eq _ _ _ (by omega),setL_eq _ _ _ (by simp only[List.length_append,hx,h,Nat.add_mul];omega)]
  have h1:List.take ((i+1)*sz) x=x:=List.take_of_length_le (by rw[hx,Nat.add_mul];omega)
  have h2:List.drop ((i+1)*sz+l.length) x = []:=List.drop_of_length_le (by rw[hx,Nat.add_mul];omega)
  rw[List.take_append,List.drop_append,h1,h2,hx,show(i+1)*sz-sz=i*sz by rw[Nat.add_mul];omega,show(i+1)*sz+l.length-sz=i*sz+l.length by rw[Nat.add_mul];omega]
  simp
theorem flatten_length {sz:Nat} {xs:List (List Value)} (h: ∀x∈xs,x.length=sz):xs.flatten.length=xs.length*sz:=by
 induction xs with
 | nil=>simp
 | cons y r ih=>simp only[List.flatten_cons,List.length_append,List.length_cons,ih (fun z hz=>h z (by simp[hz])),h y (by simp),Nat.add_mul];omega
theorem rep_eq {α:Type} (n:Nat) (x:α):rep n x=List.replicate n x:=by
 induction n with
 | zero=>rfl
 | succ n ih=>simp[rep,ih,List.replicate_succ]
theorem made_flat (z:Array Value) (n:Nat) (hz:0<z.size):(madeCells z (n*z.size)).toList=(List.replicate n z.toList).flatten:=by
 have hl: ∀x∈List.replicate n z.toList,x.length=z.size:=by intro x hx;rw[List.eq_of_mem_replicate hx];simp
 apply List.ext_getElem?
 intro j
 by_cases hj:j<n*z.size
 ·have hq:j/z.size<n:=Nat.div_lt_of_lt_mul (by rw[Nat.mul_comm];exact hj)
  have hr:j%z.size<z.size:=Nat.mod_lt _ hz
  have hf:=flatten_at hl (i:=j/z.size) (x:=z.toList) (by simp[hq]) (j:=j%z.size) (v:=z[j%z.size]) (by simp[hr])
  rw[show j/z.size*z.size+j%z.size=j by rw[Nat.mul_comm];exact Nat.div_add_mod _ _] at hf
  rw[hf]
  simp[madeCells,hj,hr]
 ·rw[List.getElem?_eq_none (by simp[size_madeCells];omega),List.getElem?_eq_none (by rw[flatten_length hl];simp;omega)]
section
variable {st:SS} {W:PW} {o:Oper} {K:SV→SS→PW→Prop}
theorem eff_fl (hT:TabOK P tt) (hF:FieldsIn tt) (h:fl tt st W o.op fun s=>K s st W):EffOK P W0 M st W o K:=by
 intro β σ a Wa Q hR
 obtain⟨s,hK,h1⟩:=fl_sound hT hF h
 obtain⟨hr,hok⟩:=h1 β σ a Wa hR.rel hR.ext
 exact wp_value hr ⟨s,β,σ,st,W,Wa,rfl,rfl,hR,hok,rfl,hK,Desc.refl _,agree_refl⟩
theorem Res.of {β:Nat→Nat} {σ:Nat→Value} {a:Act} {st1:SS} {a':Act} {w':World} (hT:st1.T=st.T) (hD:Desc st st1) (h:Res W0 M st1 β σ a o K a' w'):Res W0 M st β σ a o K a' w':=by
 obtain⟨s,β',σ',st',W',Wa',h1,h2,h3,h4,h5,h6,h7,h8⟩:=h
 exact⟨s,β',σ',st',W',Wa',h1,h2,h3,h4,h5.trans hT,h6,hD.trans h7,fun k hk=>h8 k (Nat.lt_of_lt_of_le hk hD.nx)⟩
theorem new_box {Wa:PW} {β:Nat→Nat} {σ:Nat→Value} {a:Act} (hR:Run W0 M st W β σ a Wa) (cs:List Value) (t:TypeId):
  let Wa':PW:=⟨Wa.w.alloc (.cells cs.toArray t),fun b=>Wa.S b∨b=Wa.w.heap.size⟩
  Run W0 M (newBlk st (.box cs)) W (upd β st.nx Wa.w.heap.size) (upd σ st.nx undef) a Wa'∧Desc st (newBlk st (.box cs))∧
   (∀k,k<st.nx→upd β st.nx Wa.w.heap.size k=β k∧upd σ st.nx undef k=σ k):=by
 refine Run.new hR (Keep.alloc _ _ _) (fun b=>?_) ?_ ?_
 ·simp[blkOf,upd,eq_comm]
 ·refine⟨⟨t,?_⟩,?_⟩
  ·simp only[upd,if_true];exact heap_alloc_new _ _
  ·simp[upd]
 ·intro g hg
  simp only[blkOf,upd,if_true,Option.some.injEq] at hg
  subst hg
  simp
theorem new_row {Wa:PW} {β:Nat→Nat} {σ:Nat→Value} {a:Act} (hR:Run W0 M st W β σ a Wa) {e sz:Nat} {xs:List (List Value)} {cs:Array Value} {n:Nat} (hl: ∀x∈xs,x.length=sz∧∀u∈x,u.oneCell'=true)
  (hn:xs.length=n) (hm:n≤maxLen) (hc:cs.toList=xs.flatten):
  let v:=Value.slice (some ⟨Wa.w.heap.size,0,none⟩) n n
  let Wa':PW:=⟨Wa.w.alloc (.cells cs e),fun b=>Wa.S b∨b=Wa.w.heap.size⟩
  Run W0 M (newBlk st (.row e sz xs)) W (upd β st.nx 0) (upd σ st.nx v) a Wa'∧Desc st (newBlk st (.row e sz xs))∧(∀k,k<st.nx→upd β st.nx 0 k=β k∧upd σ st.nx v k=σ k):=by
 have hsz:cs.size=n*sz:=by
  rw[←Array.length_toList,hc,flatten_length (fun x hx=>(hl x hx).1),hn]
 refine Run.new hR (Keep.alloc _ _ _) (fun b=>?_) ?_ ?_
 ·simp[blkOf,upd,Value.ownBlock,eq_comm]
 ·refine⟨⟨hl,?_⟩,?_⟩
  ·simp only[upd,if_true]
   refine⟨flatten_length (fun x hx=>(hl x hx).1),.inr ⟨Wa.w.heap.size,n,cs,by rw[hn],Nat.zero_le _,heap_alloc_new _ _,by omega,hm,hsz,?_⟩⟩
   rw[hc,List.take_of_length_le]
   rw[flatten_length (fun x hx=>(hl x hx).1)]
   omega
  ·intro g hg
   simp only[upd,if_true,Value.ownBlock,Option.some.injEq] at hg
   exact .inr hg.symm
 ·intro g hg
  simp only[blkOf,upd,if_true,Value.ownBlock,Option.some.injEq] at hg
  subst hg
  simp
theorem eff_alloc (hT:TabOK P tt) {t:TypeId} {i:TyI} (ho:o.op = .alloc t) (hi:look tt t=some i) (h:K (.p st.nx 0) (newBlk st (.box i.zv.cells.toList)) W):EffOK P W0 M st W o K:=by
 intro β σ a Wa Q hR
 have hg:=hT.good hi
 obtain⟨h1,h2,h3⟩:=new_box hR i.zv.cells.toList t
 refine wp_value (v:=.pointer (some ⟨Wa.w.heap.size,0,none⟩)) ?_ ⟨.p st.nx 0,_,_,_,W,_,rfl,?_,h1,Nat.lt_succ_self _,rfl,h,h2,h3⟩
 ·simp[execOp,ho,Instr.alloc,hg.zero,newVar,newRow]
 ·simp[SV.val,upd]
theorem eff_box {t:TypeId} {x:Operand} (ho:o.op = .box t x) (h:evP W0 x st W fun v st W=>K (.p st.nx 0) (newBlk st (.box (cellsL v))) W):EffOK P W0 M st W o K:=by
 intro β σ a Wa Q hR
 obtain⟨v,st1,W1,Wa1,hK,he,hw,hR1,hT1,hD1⟩:=evP_sound h hR
 obtain⟨h1,h2,h3⟩:=new_box hR1 (cellsL v) t
 have hc:(cellsL v).toArray=v.cells:=by apply Array.ext';simp[cellsL_eq]
 rw[hc,hw] at h1
 refine wp_value (v:=.pointer (some ⟨Wa.w.heap.size,0,none⟩)) ?_ (Res.of hT1 hD1 ⟨.p st1.nx 0,_,_,_,W1,_,rfl,?_,h1,Nat.lt_succ_self _,rfl,hK,h2,by rw[hw] at h3;exact h3⟩)
 ·simp[execOp,ho,he,Instr.box,newVar,newRow]
 ·simp[SV.val,upd]
theorem eff_build (hT:TabOK P tt) (hF:FieldsIn tt) {t:TypeId} {parts:Array (Nat×Operand)} {i:TyI} (ho:o.op = .build t parts) (hi:look tt t=some i) (hagg:i.agg=true)
  (h:evPs W0 (parts.toList.map (·.2)) st W fun _ st W=>buildP st (placeOf tt i) parts.toList i.zv.cells.toList fun cs=>K (.v (.agg cs.toArray)) st W):EffOK P W0 M st W o K:=by
 intro β σ a Wa Q hR
 obtain⟨vs,st1,W1,Wa1,hK,he,hw,hR1,hT1,hD1⟩:=evPs_sound h hR
 obtain⟨cs,hK2,h1⟩:=build_sound (W:=W1) hT hF hi hagg hK
 refine wp_value (v:=.agg cs.toArray) ?_ (Res.of hT1 hD1 ⟨.v (.agg cs.toArray),β,σ,st1,W1,Wa1,hw,rfl,hR1,trivial,rfl,hK2,Desc.refl _,agree_refl⟩)
 have hb:(Instr.build t (parts.map fun(i,x)=>(i,a.eval x))).run P Wa1.w = .ok (.agg cs.toArray) Wa1.w:=h1 β σ a Wa1 hR1.rel hR1.ext
 rw[hw] at hb
 simp[execOp,ho,hb]
theorem partsP_sound {sz:Nat} : ∀{parts:List (Nat×Operand)} {xs:List (List Value)} {st:SS} {W Wa:PW} {β:Nat→Nat} {σ:Nat→Value} {a:Act} {K:List (List Value)→SS→PW→Prop} (_:partsP W0 sz parts xs st W K) (_:Run W0 M st W β σ a Wa)
  (_: ∀x∈xs,x.length=sz∧∀u∈x,u.oneCell'=true),
  ∃xs' st' W' Wa',K xs' st' W'∧Wa'.w=Wa.w∧Run W0 M st' W' β σ a Wa'∧st'.T=st.T∧Desc st st'∧(∀x∈xs',x.length=sz∧∀u∈x,u.oneCell'=true)∧xs'.length=xs.length∧
   Instr.fill (fun i=>some (i*sz,sz)) xs.flatten.toArray (parts.map fun(i,x)=>(i,a.eval x))=some xs'.flatten.toArray
 | [],xs,st,W,Wa,β,σ,a,K,h,hR,hl=>⟨xs,st,W,Wa,h,rfl,hR,rfl,Desc.refl _,hl,rfl,rfl⟩
 | (i,x) :: r,xs,st,W,Wa,β,σ,a,K,h,hR,hl=>by
  obtain⟨v,st1,W1,Wa1,h1,he,hw,hR1,hT1,hD1⟩:=evP_sound h hR
  split at h1
  ·rename_i hb1 hb2 hb3
   have hs:(cellsL v).length=sz:=Nat.eq_of_beq_eq_true hb1
   have hlt:i<xs.length:=Nat.le_of_ble_eq_true hb2
   have hone:=one1_iff hb3
   have hl': ∀x∈xs.set i (cellsL v),x.length=sz∧∀u∈x,u.oneCell'=true:=by
    intro y hy
    rcases List.mem_or_eq_of_mem_set hy with hy | rfl
    ·exact hl y hy
    ·exact⟨hs,hone⟩
   obtain⟨xs',st2,W2,Wa2,h2,hw2,hR2,hT2,hD2,hl2,hlen2,hf2⟩:=partsP_sound (parts:=r) h1 hR1 hl'
   refine⟨xs',st2,W2,Wa2,h2,hw2.trans hw,hR2,hT2.trans hT1,hD1.trans hD2,hl2,by simpa using hlen2,?_⟩
   have hfl:=flatten_length (fun x hx=>(hl x hx).1)
   have hle:i*sz+sz≤xs.flatten.length:=by rw[hfl,←Nat.succ_mul];exact Nat.mul_le_mul_right _ hlt
   simp only[List.map_cons,Instr.fill,he]
   have hcond:¬((decide (v.cells.size≠sz) || decide (i*sz+v.cells.size>xs.flatten.toArray.size))=true):=by
    rw[cells_size,hs]
    simp only[List.size_toArray,ne_eq,not_true_eq_false,decide_false,Bool.false_or,decide_eq_true_eq]
    omega
   rw[if_neg hcond]
   have hf:=fill_set v.cells xs.flatten.toArray (i*sz)
   rw[←hf2]
   congr 1
   apply Array.ext'
   rw[hf,flatten_set (fun x hx=>(hl x hx).1) hlt hs,cellsL_eq]
  ·exact h1.elim
theorem eff_buildSlice (hT:TabOK P tt) {t e len:Nat} {parts:Array (Nat×Operand)} {i j:TyI} (ho:o.op = .buildSlice t len parts) (hi:look tt t=some i) (hu:i.und = .slice e) (hj:look tt e=some j)
  (hb1:len*j.size≤16777216) (hb2:0<j.size) (hb3:one1 j.zv.cells.toList=true)
  (h:partsP W0 j.size parts.toList (rep len j.zv.cells.toList) st W fun xs st W=>K (.o st.nx) (newBlk st (.row e j.size xs)) W):EffOK P W0 M st W o K:=by
 intro β σ a Wa Q hR
 obtain⟨_,⟨d,hd,hud⟩,_⟩:=hT.good hi
 obtain rfl:=und_slice (hud.trans hu)
 have hgj:=hT.good hj
 have hzs:j.zv.cells.size=j.size:=hgj.2.2.2.1
 rw[rep_eq] at h
 obtain⟨xs,st1,W1,Wa1,hK,hw,hR1,hT1,hD1,hl,hlen,hf⟩:=partsP_sound h hR (by
  intro x hx
  rw[List.eq_of_mem_replicate hx]
  exact⟨by simpa using hzs,one1_iff hb3⟩)
 simp only[List.length_replicate] at hlen
 have hmx:len≤maxLen:=by
  have:len*1≤len*j.size:=Nat.mul_le_mul_left _ hb2
  simp only[maxLen];omega
 obtain⟨h1,h2,h3⟩:=new_row hR1 (e:=e) (cs:=xs.flatten.toArray) hl hlen hmx (by simp)
 rw[hw] at h1 h3
 refine wp_value (v:=.slice (some ⟨Wa.w.heap.size,0,none⟩) len len) ?_ (Res.of hT1 hD1 ⟨.o st1.nx,_,_,_,W1,_,rfl,?_,h1,Nat.lt_succ_self _,rfl,hK,h2,h3⟩)
 ·simp only[Array.toList_map] at hf
  have hlim:¬(2^24<len*j.size):=by simpa using hb1
  by_cases h0:len*j.size=0
  ·have hl0:len=0:=by
    rcases Nat.mul_eq_zero.1 h0 with h | h
    ·exact h
    ·omega
   subst hl0
   simp only[List.replicate_zero,List.flatten_nil] at hf
   simp[execOp,ho,Instr.buildSlice,run_underlying hd,hgj.sizeOf,Array.range_zero',hf,newRow]
  ·have hcells:(Array.range (len*j.size)).map (j.zv.cells[· % j.zv.cells.size]!)=(List.replicate len j.zv.cells.toList).flatten.toArray:=by
    have:=made_flat j.zv.cells len (by omega)
    rw[hzs] at this
    apply Array.ext'
    rw[←this]
    simp[madeCells,hzs]
   simp[execOp,ho,Instr.buildSlice,run_underlying hd,hgj.sizeOf,hlim,h0,hgj.zero,hcells,hf,newRow]
 ·simp[SV.val,upd]
theorem eff_makeSlice (hT:TabOK P tt) {t e:Nat} {l c:Operand} {i j:TyI} (ho:o.op = .makeSlice t l c) (hi:look tt t=some i) (hu:i.und = .slice e) (hj:look tt e=some j)
  (hb1:0<j.size) (hb2:0<j.bytes) (hb3:one1 j.zv.cells.toList=true)
  (h:evI st l fun _ n=>evI st c fun _ m=>(m=n∧0≤n∧n*(j.bytes:Int)≤281474976710656)∧K (.o st.nx) (newBlk st (.row e j.size (List.replicate n.toNat j.zv.cells.toList))) W):EffOK P W0 M st W o K:=by
 intro β σ a Wa Q hR
 obtain⟨_,⟨d,hd,hud⟩,_⟩:=hT.good hi
 obtain rfl:=und_slice (hud.trans hu)
 have hgj:=hT.good hj
 have hzs:j.zv.cells.size=j.size:=hgj.2.2.2.1
 obtain⟨k1,n,h1,e1⟩:=evI_sound (W:=W) h
 obtain⟨k2,m,⟨⟨rfl,h0,hby⟩,hK⟩,e2⟩:=evI_sound (W:=W) h1
 have hm:m.toNat≤maxLen:=by
  have hb:(1:Int)≤j.bytes:=by omega
  have:m*1≤m*(j.bytes:Int):=Int.mul_le_mul_of_nonneg_left hb h0
  simp only[maxLen];omega
 obtain⟨hr1,hr2,hr3⟩:=new_row hR (e:=e) (cs:=madeCells j.zv.cells (m.toNat*j.size)) (n:=m.toNat) (xs:=List.replicate m.toNat j.zv.cells.toList) (sz:=j.size)
  (by intro x hx;rw[List.eq_of_mem_replicate hx];exact⟨by simpa using hzs,one1_iff hb3⟩) (by simp) hm (by rw[←hzs];exact made_flat _ _ (by omega))
 refine wp_value (v:=.slice (some ⟨Wa.w.heap.size,0,none⟩) m.toNat m.toNat) ?_ ⟨.o st.nx,_,_,_,W,_,rfl,?_,hr1,Nat.lt_succ_self _,rfl,hK,hr2,hr3⟩
 ·obtain⟨⟨inf,hinf,hsz,hbyt,hz⟩,_⟩:=hgj
  have:=run_make (P:=P) Wa.w t e inf j.zv hd hinf hz k1 k2 m m h0 (Int.le_refl _) (by rw[hbyt,Int.mul_comm];exact hby) (by simp only[maxLen] at hm;omega)
  simp[execOp,ho,e1 β σ a Wa hR.rel hR.ext,e2 β σ a Wa hR.rel hR.ext,this,hsz]
 ·simp[SV.val,upd]
end
end Go.SX
