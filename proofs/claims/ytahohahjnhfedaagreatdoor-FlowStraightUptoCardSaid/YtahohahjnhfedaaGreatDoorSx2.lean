/- The symbolic evaluator: operations that change something; code. -/
import Derived.Test.YtahohahjnhfedaaGreatDoorSx1
import Derived.Maps.Keyed
import Derived.Maps.RangeRun
import Derived.ChangeKeysEq
import Derived.Laws.StructEq
set_option linter.unusedVariables false
set_option linter.unusedSimpArgs false
namespace Go.SX
def may (W0:PW) (M:Nat→Prop) (g:Nat):Prop:=M g∨W0.w.heap.size≤g
structure Aq5 (W W':PW) (g:Nat) (cs:Array Value) (t:TypeId) (pos:Nat) (l:List Value):Prop where
 ext:Au9 (· = g) W W'
 S:¬W'.S g
 heap:W'.w.heap[g]?=some (.cells (Aj6 cs.toList pos l).toArray t (0,0))
def Aa1 (P:Program) (W0:PW) (M:Nat→Prop) (f:FuncId) (args:List Value) (W:PW) (K:Value→PW→Prop):Prop:=
 ∀W',Ext W W'→∃(N:Nat→Prop) (Post:Value→PW→Prop),Aa0 P f args W' N Post∧(∀g,N g→¬W'.S g∧may W0 M g)∧∀v W'',Au9 N W' W''→Post v W''→K v W''
def An9 (W0:PW) (M:Nat→Prop) (s:Sl) (pos:Nat) (l:List Value) (W:PW) (K:PW→Prop):Prop:=
 ∀W',Ext W W'→∃g o cs t,s.A=some ⟨g,o,none⟩∧¬W'.S g∧W'.w.heap[g]?=some (.cells cs t (0,0))∧o+pos+l.length≤cs.size∧may W0 M g∧∀W'',Aq5 W' W'' g cs t (o+pos) l→K W''
def Es7 (W0:PW) (M:Nat→Prop) (e:TypeId) (sz bytes:Nat) (s:Sl) (ys:List (List Value)) (W:PW) (K:Sl→PW→Prop):Prop:=
 ∀W',Ext W W'→∃xs,Own W' e sz s xs∧(∀g,s.v.ownBlock=some g→may W0 M g)∧(xs.length+ys.length)*bytes≤140737488355328∧
  ∀s' W'',Au9 (fun g=>s.v.ownBlock=some g) W' W''→Own W'' e sz s' (xs ++ ys)→(∀g,s'.v.ownBlock=some g→s.v.ownBlock=some g∨W'.w.heap.size≤g)→K s' W''
/-! Maps that are known -/
def Cj7 (W0 : PW) (W : PW) (K : Nat → PW → Prop) : Prop := ∀ g W', Ext W W' → W.w.heap.size ≤ g → W0.w.heap.size ≤ g → ¬ W'.S g → W'.w.heap[g]? = some (.map #[] 0) → K g W'
def En1 (P:Program) (kt:TypeId) (es:Array MapEntry):Prop:=∀e∈es.toList,∃l,keyOf P kt e.key=some l
def Fg5 (P:Program) (kt:TypeId) (W:PW) (g:Nat) (key zv:Value) (K:Value→Prop):Prop:=
 Maps.Keyed P kt∧(∃l,keyOf P kt key=some l)∧∃es c,¬W.S g∧W.w.heap[g]?=some (.map es c)∧En1 P kt es∧(∀e∈es.toList,e.key=key→K e.val)∧((∀e∈es.toList,e.key≠key)→K zv)
def Eg5 (es:Array MapEntry) (c:Nat) (key v:Value) (es':Array MapEntry) (c':Nat):Prop:=
 (∃i e,es[i]?=some e∧e.key=key∧es'=es.modify i (fun e=>{e with key:=key,val:=v })∧c'=c)∨((∀e∈es.toList,e.key≠key)∧es'=es.push {key:=key,val:=v,born:=c }∧c'=c+1)
def Fq4 (P:Program) (W0:PW) (M:Nat→Prop) (kt:TypeId) (W:PW) (g:Nat) (key v:Value) (K:PW→Prop):Prop:=
 Maps.Keyed P kt∧(∃l,keyOf P kt key=some l)∧∀W',Ext W W'→∃es c,¬W'.S g∧W'.w.heap[g]?=some (.map es c)∧En1 P kt es∧may W0 M g∧
  ∀W'' es' c',Au9 (· = g) W' W''→¬W''.S g→W''.w.heap[g]?=some (.map es' c')→Eg5 es c key v es' c'→K W''
@[reducible] def stp (I:List PL→PW→Prop) (μ:List PL→PW→Nat) (l':List PL) (W':PW) (l:List PL) (W:PW):Prop:=I l' W'∧μ l' W'<μ l W
@[reducible] def Fr (W0 W:PW) (s:Sl):Prop:=∀g,s.v.ownBlock=some g→W0.w.heap.size≤g∧(g<W.w.heap.size→W.S g)
def Fn3 (l:List Value):Bool:=l.all Value.oneCell'
section
variable (P:Program) (tt:List (Nat×TyI)) (W0:PW) (M:Nat→Prop)
def pub (k:Nat) (st:SS) (W:PW) (K:Value→SS→PW→Prop):Prop:=
 match look st.C k with
 | some (.row t sz xs)=>∀s W',Ext W W'→Own W' t sz s xs→Fr W0 W s→K s.v {st with C:=(k,.pub s.v) :: st.C,D:=k :: st.D } W'
 | some (.pub x)=>K x st W
 | _=>False
def Fs3 (k n:Nat) (st:SS) (W:PW) (K:Value→SS→PW→Prop):Prop:=
 match look st.C k with
 | some (.box cs)=>match Nat.beq cs.length n,Nat.ble 1 n && Nat.ble n 1000 && Fn3 cs with
  | true,true=>∀s W',Ext W W'→Bf9 W' 1 s (cs.map fun c=>[c])→Fr W0 W s→K s.v {st with C:=(k,.dead) :: st.C,D:=k :: st.D } W'
  | _,_=>False
 | _=>False
def Jd4 (k:Nat) (st:SS) (W:PW) (K:Value→SS→PW→Prop):Prop:=
 match look st.C k with
 | some (.box cs)=>∀r W',Ext W W'→Aa7 W' ⟨r,1,1⟩ 1 0 0 cs→Fr W0 W ⟨r,1,1⟩→K (.pointer r) {st with C:=(k,.pbx r) :: st.C,D:=k :: st.D } W'
 | some (.pbx r)=>K (.pointer r) st W
 | _=>False
def evP (x:Operand) (st:SS) (W:PW) (K:Value→SS→PW→Prop):Prop:=
 ev st x fun s=>match s with
  | .o k=>pub W0 k st W K
  | .bs k n=>Fs3 W0 k n st W K
  | .p k 0=>Jd4 W0 k st W K
  | s=>toV st s fun v=>K v st W
def Fh7:List Operand→SS→PW→(List Value→SS→PW→Prop)→Prop
 | [],st,W,K=>K [] st W
 | x :: r,st,W,K=>evP W0 x st W fun v st W=>Fh7 r st W fun l st W=>K (v :: l) st W
def fin (gd:Bool) (o:Oper) (s:SV) (st:SS) (K:SS→Prop):Prop:=
 match o.dst with
 | none=>K st
 | some d=>match Nat.blt d st.n with
  | true=>match gd with
   | true=>split s fun t=>K {st with T:=(d,.b t) :: st.T }
   | false=>K {st with T:=(d,s) :: st.T }
  | false=>False
def Ed1 (l:List Value):Bool:=l.all Value.oneCell'
def Ac4 (st:SS) (b:Blk):SS:={st with C:=(st.nx,b) :: st.C,nx:=Nat.succ st.nx }
def Af0 (st:SS) (k:Nat) (b:Blk):SS:={st with C:=(k,b) :: st.C,D:=k :: st.D }
def Dq1 (sz:Nat):List (Nat×Operand)→List (List Value)→SS→PW→(List (List Value)→SS→PW→Prop)→Prop
 | [],xs,st,W,K=>K xs st W
 | (i,x) :: r,xs,st,W,K=>evP W0 x st W fun v st W=>match Nat.beq (Ac7 v).length sz,Nat.blt i xs.length,Ed1 (Ac7 v) with
  | true,true,true=>Dq1 sz r (xs.set i (Ac7 v)) st W K
  | _,_,_=>False
def rep {α:Type} (n:Nat) (x:α):List α:=match n with | 0=>[] | n+1=>x :: rep n x
def Ey2 (e:TypeId) (sz:Nat) (x:Operand) (st:SS) (W:PW) (K:List (List Value)→Prop):Prop:=
 ev st x fun s=>match s with
  | .o k=>match look st.C k with
   | some (.row t sz' ys)=>match Nat.beq t e,Nat.beq sz sz' with
    | true,true=>K ys
    | _,_=>False
   | some (.pub (.slice A n c))=>∃ys,Bf9 W sz ⟨A,n,c⟩ ys∧K ys
   | _=>False
  | .n=>K []
  | .v (.slice A n c)=>∃ys,Bf9 W sz ⟨A,n,c⟩ ys∧K ys
  | _=>False
def Eq0:Value→Shp
 | .int k _=>.int k
 | .bool _=>.bool
 | .string _=>.str
 | .map _=>.map
 | .pointer _=>.ptr
 | _=>.slice
def Cn2 (i:Nat) (K:Nat→Prop):Nat→Prop
 | 0=>True
 | n+1=>Cn2 i K n∧(i=n→K n)
def Ci6 (o:Oper) (st:SS) (W:PW) (K:SV→SS→PW→Prop):Prop:=
 match o.op with
 | .alloc t=>match look tt t with
  | some i=>K (.p st.nx 0) (Ac4 st (.box i.zv.cells.toList)) W
  | none=>False
 | .box t x=>evP W0 x st W fun v st W=>K (.p st.nx 0) (Ac4 st (.box (Ac7 v))) W
 | .build t parts=>match look tt t with
  | some i=>match i.agg with
   | true=>Fh7 W0 (parts.toList.map (·.2)) st W fun _ st W=>Bq2 st (placeOf tt i) parts.toList i.zv.cells.toList fun cs=>K (.v (.agg cs.toArray)) st W
   | false=>False
  | none=>False
 | .buildSlice t len parts=>match look tt t with
  | some i=>match i.und with
   | .slice e=>match look tt e with
    | some j=>match Nat.ble (Nat.mul len j.size) 16777216,Nat.blt 0 j.size && Ed1 j.zv.cells.toList with
     | true,true=>Dq1 W0 j.size parts.toList (rep len j.zv.cells.toList) st W fun xs st W=>K (.o st.nx) (Ac4 st (.row e j.size xs)) W
     | _,_=>False
    | none=>False
   | _=>False
  | none=>False
 | .makeSlice t l c=>match look tt t with
  | some i=>match i.und with
   | .slice e=>match look tt e with
    | some j=>match Nat.blt 0 j.size && Nat.blt 0 j.bytes && Ed1 j.zv.cells.toList with
     | true=>evI st l fun _ n=>evI st c fun _ m=>(m=n∧0≤n∧n*(j.bytes:Int)≤281474976710656)∧K (.o st.nx) (Ac4 st (.row e j.size (List.replicate n.toNat j.zv.cells.toList))) W
     | false=>False
    | none=>False
   | _=>False
  | none=>False
 | .store t p x=>match look tt t with
  | some i=>evP W0 x st W fun v st W=>match Nat.beq (Ac7 v).length i.size,Ed1 (Ac7 v) with
   | true,true=>ev st p fun s=>match s with
    | .p k off=>match look st.C k with
     | some (.box cs)=>match Nat.ble (Nat.add off i.size) cs.length with
      | true=>K (.v undef) (Af0 st k (.box (Aj6 cs off (Ac7 v)))) W
      | false=>False
     | _=>False
    | .oe k sz ix off=>match look st.C k with
     | some (.row t' sz' xs)=>match Nat.beq sz sz',Nat.ble (Nat.add off i.size) sz with
      | true,true=>match Nat.beq i.size sz with
       | true=>ix<xs.length∧K (.v undef) (Af0 st k (.row t' sz' (xs.set ix (Ac7 v)))) W
       | false=>ix<xs.length∧K (.v undef) (Af0 st k (.row t' sz' (Ci8 xs ix off (Ac7 v)))) W
      | _,_=>False
     | _=>False
    | .e s sz ix off=>An9 W0 M s (ix*sz+off) (Ac7 v) W fun W=>K (.v undef) st W
    | .pe k base sz len ix off=>match look st.C k with
     | some (.box cs)=>match Nat.ble (Nat.add base (Nat.mul len sz)) cs.length,Nat.ble (Nat.add off i.size) sz with
      | true,true=>ix<len∧Cn2 ix (fun j=>K (.v undef) (Af0 st k (.box (Aj6 cs (Nat.add (Nat.add base (Nat.mul j sz)) off) (Ac7 v)))) W) len
      | _,_=>False
     | _=>False
    | _=>False
   | _,_=>False
  | none=>False
 | .call {callee:=.value f,args,argTypes }=>
  ev st f fun s=>match s with
   | .v (.func (.func f) first captured)=>Fh7 W0 args.toList st W fun l st W=>
    Aa1 P W0 M f (first.toList ++ l ++ captured.toList) W fun v W=>Cc9 tt o.type v fun x=>K (.v x) st W
   | _=>False
 | .call {callee:=.builtin .append,args,argTypes }=>
  match args.toList,argTypes.toList with
  | [s,x],[t,t']=>match Nat.beq t t',look tt t with
   | true,some i=>match i.und with
    | .slice e=>match look tt e with
     | some j=>match Nat.blt 0 j.size && Nat.blt 0 j.bytes with
      | true=>Ey2 e j.size x st W fun ys=>ev st s fun sv=>match sv with
       | .n=>(ys.length*j.bytes≤140737488355328)∧K (.o st.nx) (Ac4 st (.row e j.size ys)) W
       | .o k=>match look st.C k with
        | some (.row t2 sz2 xs)=>match Nat.beq t2 e,Nat.beq sz2 j.size with
         | true,true=>((xs.length+ys.length)*j.bytes≤140737488355328)∧K (.o st.nx) (Ac4 (Af0 st k .dead) (.row e j.size (xs ++ ys))) W
         | _,_=>False
        | some (.pub (.slice A n c))=>Es7 W0 M e j.size j.bytes ⟨A,n,c⟩ ys W fun s' W=>K (.v s'.v) st W
        | _=>False
       | .v (.slice A n c)=>Es7 W0 M e j.size j.bytes ⟨A,n,c⟩ ys W fun s' W=>K (.v s'.v) st W
       | _=>False
      | false=>False
     | none=>False
    | _=>False
   | _,_=>False
  | _,_=>False
 | .call {callee:=.builtin .copy,args,argTypes }=>
  match args.toList,argTypes.toList with
  | [d,x],[t,t']=>match look tt t with
   | some i=>match i.und with
    | .slice e=>match look tt e with
     | some j=>ev st d fun ds=>match ds with
      | .bs k n=>evV st x fun v=>match v with
       | .slice A m c=>match look st.C k with
        | some (.box cs)=>match Nat.beq (Nat.mul n j.size) cs.length with
         | true=>∃ys,Bf9 W j.size ⟨A,m,c⟩ ys∧Ai7 (cs.map Eq0) (Aj6 cs 0 (ys.take n).flatten)=true∧
          Ax9 (cs.map Eq0) fun l=>l=Aj6 cs 0 (ys.take n).flatten→K (.v (.int .i64 ((Nat.min m n:Nat):Int))) (Af0 st k (.box l)) W
         | false=>False
        | _=>False
       | _=>False
      | _=>False
     | none=>False
    | _=>False
   | none=>False
  | _,_=>False
 | .makeMap t none=>match look tt t with
  | some i=>match i.und with
   | .map _ _=>Cj7 W0 W fun g W=>K (.v (.map (some g))) st W
   | _=>False
  | none=>False
 | .lookup t x k false=>match look tt t with
  | some i=>match i.und with
   | .map kt et=>match look tt et with
    | some j=>evP W0 x st W fun m st W=>evP W0 k st W fun kv st W=>match m with
     | .map r=>∃g,r=some g∧Fg5 P kt W g kv j.zv fun v=>Cc9 tt et v fun y=>K (.v y) st W
     | _=>False
    | none=>False
   | _=>False
  | none=>False
 | .mapUpdate t x k y=>match look tt t with
  | some i=>match i.und with
   | .map kt et=>evP W0 x st W fun m st W=>evP W0 k st W fun kv st W=>evP W0 y st W fun v st W=>match m with
    | .map r=>∃g,r=some g∧Fq4 P W0 M kt W g kv v fun W=>K (.v undef) st W
    | _=>False
   | _=>False
  | none=>False
 | .range t x=>match look tt t with
  | some i=>match i.und with
   | .map kt et=>evP W0 x st W fun m st W=>match m with
    | .map r=>∃g,r=some g∧∃es c,¬W.S g∧W.w.heap[g]?=some (.map es c)∧K (.p st.nx 0) (Ac4 st (.itr g kt et c #[] c none)) W
    | _=>False
   | _=>False
  | none=>False
 | .next x false=>ev st x fun s=>match s with
  | .p k 0=>match look st.C k with
   | some (.itr g kt et since seen last cur)=>∃es c,¬W.S g∧W.w.heap[g]?=some (.map es c)∧(∀e∈es.toList,e.born<since)∧since≤last∧
    ((leftOf es (Ae4 seen cur)).size=0→K (.tb false []) st W)∧
    ∀e,e∈(leftOf es (Ae4 seen cur)).toList→K (.tb true [e.key,e.val]) (Af0 st k (.itr g kt et since (Ae4 seen cur) c (some e))) W
   | _=>False
  | _=>False
 | .entry x=>ev st x fun s=>match s with
  | .p k 0=>match look st.C k with
   | some (.itr g kt et since seen last (some e))=>(∃es,¬W.S g∧W.w.heap[g]?=some (.map es last)∧e∈es.toList∧(es.toList.map (·.born)).Nodup)∧
    Cc9 tt kt e.key fun kx=>Cc9 tt et e.val fun vx=>K (.v (.tuple #[kx,vx])) st W
   | _=>False
  | _=>False
 | .slice t x none hi none=>ev st x fun s=>match s with
  | .o k=>match look st.C k with
   | some (.row t2 sz xs)=>match look tt t with
    | some i=>match i.und with
     | .slice e=>match look tt e with
      | some j=>match Nat.beq t2 e,Nat.beq sz j.size with
       | true,true=>Fe5 st hi xs.length fun h=>(0≤h∧h≤(xs.length:Int))∧K (.o st.nx) (Ac4 (Af0 st k .dead) (.row t2 sz (xs.take h.toNat))) W
       | _,_=>False
      | none=>False
     | _=>False
    | none=>False
   | _=>fl tt st W o.op fun s=>K s st W
  | _=>fl tt st W o.op fun s=>K s st W
 | .makeFunc (.func f) first captured=>match captured.toList with
  | []=>fl tt st W o.op fun s=>K s st W
  | x :: r=>match first.toList with
   | []=>Fh7 W0 (x :: r) st W fun m st W=>K (.v (.func (.func f) #[] m.toArray)) st W
   | _=>False
 | op=>fl tt st W op fun s=>K s st W
def Ft3:Op→Bool
 | .alloc _ | .box .. | .buildSlice .. | .makeSlice .. | .store .. | .build ..=>false
 | .call {callee:=.value _,.. }=>false
 | .call {callee:=.builtin .append,.. }=>false
 | .call {callee:=.builtin .copy,.. }=>false
 | .makeMap .. | .lookup .. | .mapUpdate .. | .range .. | .next .. | .entry _=>false
 | .makeFunc _ _ captured=>captured.toList.isEmpty
 | _=>true
def guards (ops:List Oper) (i:Nat):Bool:=ops.any fun o=>match o.guard with | some (j,_)=>Nat.beq i j | none=>false
def Fi7 (ops:List Oper) (i:Nat) (o:Oper) (st:SS) (W:PW) (K:SS→PW→Prop):Prop:=
 match o.guard with
 | none=>Ci6 P tt W0 M o st W fun s st W=>fin (guards ops i) o s st fun st=>K st W
 | some (j,want)=>match ops[j]? with
  | some og=>match og.dst with
   | some d=>match look st.T d with
    | some (.b b)=>match b == want with
     | true=>Ci6 P tt W0 M o st W fun s st W=>fin (guards ops i) o s st fun st=>K st W
     | false=>fin false o (.v undef) st fun st=>K st W
    | some (.v (.tuple _))=>fin false o (.v undef) st fun st=>K st W
    | _=>False
   | none=>False
  | none=>False
def Ff8 (ops:List Oper):Nat→List Oper→SS→PW→(SS→PW→Prop)→Prop
 | _,[],st,W,K=>K st W
 | i,o :: r,st,W,K=>Fi7 P tt W0 M ops i o st W fun st W=>Ff8 ops (Nat.succ i) r st W K
/-! ### What code writes, reads, carries -/
def Fp1 : Operand → List Nat
  | .tmp t => [t]
  | _ => []
def Av0 (o:Oper):List Nat:=match o.dst with | some d=>[d] | none=>[]
def Cw1:Code→List Nat
 | .region _ ops _=>ops.toList.flatMap Av0
 | .seq a b=>Cw1 a ++ Cw1 b
 | .cond _ a b=>Cw1 a ++ Cw1 b
 | .block _ a=>Cw1 a
 | .loop a=>Cw1 a
 | .rangeFunc _ ps a b=>ps.toList ++ Cw1 a ++ Cw1 b
 | .scope a=>Cw1 a
 | _=>[]
def Dc7:Code→List Nat
 | .region _ ops _=>ops.toList.flatMap fun o=>o.op.operands.toList.flatMap Fp1
 | .seq a b=>Dc7 a ++ Dc7 b
 | .cond c a b=>Fp1 c ++ Dc7 a ++ Dc7 b
 | .block _ a=>Dc7 a
 | .loop a=>Dc7 a
 | .rangeFunc f ps a b=>Fp1 f ++ Dc7 a ++ Dc7 b
 | .scope a=>Dc7 a
 | _=>[]
def Em2 (ops:List Oper) (t:Nat):Bool:=ops.any fun o'=>match o'.dst with
 | some d'=>Nat.beq d' t && (match o'.op with | .makeSlice ..=>true | .buildSlice ..=>true | .call {callee:=.builtin .append,.. }=>true | _=>false)
 | none=>false
def Fl6 (ops:List Oper):List (Nat×TypeId×Bool):=
 ops.filterMap fun o=>match o.op,o.dst with
  | .assign (.tmp t),some d=>some (d,o.type,Em2 ops t)
  | .assign _,some d=>some (d,o.type,false)
  | .move (.tmp t),some d=>some (d,o.type,Em2 ops t)
  | .move _,some d=>some (d,o.type,false)
  | _,_=>none
def asg:Code→List (Nat×TypeId×Bool)
 | .region _ ops _=>Fl6 ops.toList
 | .seq a b=>asg a ++ asg b
 | .cond _ a b=>asg a ++ asg b
 | .block _ a=>asg a
 | .loop a=>asg a
 | .scope a=>asg a
 | _=>[]
def rootOf (ops:List Oper):Nat→Nat→Nat
 | 0,t=>t
 | n+1,t=>match ops.find? (fun o=>match o.dst with | some d=>Nat.beq d t | none=>false) with
  | some o=>match o.op with
   | .fieldAddr _ (.tmp x) _=>rootOf ops n x
   | .indexAddr _ (.tmp x) _=>rootOf ops n x
   | .move (.tmp x)=>rootOf ops n x
   | .nilCheck (.tmp x)=>rootOf ops n x
   | _=>t
  | none=>t
def Fa8 (ops:List Oper):List Nat:=ops.filterMap fun o=>match o.op with
 | .store _ (.tmp p) _=>some (rootOf ops 9 p)
 | .next (.tmp p) _=>some (rootOf ops 9 p)
 | _=>none
def roots:Code→List Nat
 | .region _ ops _=>Fa8 ops.toList
 | .seq a b=>roots a ++ roots b
 | .cond _ a b=>roots a ++ roots b
 | .block _ a=>roots a
 | .loop a=>roots a
 | .scope a=>roots a
 | _=>[]
def mem (l:List Nat) (x:Nat):Bool:=l.any fun y=>Nat.beq x y
inductive Car where
 | val (i:TyI)
 | own (t:TypeId) (sz:Nat)
def By2 (st:SS) (here:Bool) (U:List Nat):List Nat→List (Nat×TypeId×Bool)→List (Nat×Car)
 | _,[]=>[]
 | seen,(d,t,ap) :: r=>
  match mem seen d || !(mem U d) with
  | true=>By2 st here U seen r
  | false=>
   match look st.T d,here with
   | none,true=>By2 st here U seen r
   | s,_=>match look tt t with
    | none=>By2 st here U seen r
    | some i=>
     let c:Car:=match i.und with
      | .slice e=>match look tt e with
       | none=>.val i
       | some j=>match s with
        | some (.o k)=>match look st.C k with
         | some (.pub _)=>.val i
         | _=>.own e j.size
        | some .n=>match ap with
         | true=>.own e j.size
         | false=>.val i
        | none=>match ap with
         | true=>.own e j.size
         | false=>.val i
        | _=>.val i
      | _=>.val i
     (d,c) :: By2 st here U (d :: seen) r
inductive Bz3 where
 | box (sh:List Shp)
 | row (t:TypeId) (sz:Nat)
 | itr (g kt et since:Nat)
def Ch6 (st:SS):List Nat→List Nat→List (Nat×Bz3)
 | _,[]=>[]
 | seen,r :: rs=>
  match look st.T r with
  | some (.p k _) | some (.o k)=>match mem seen k with
   | true=>Ch6 st seen rs
   | false=>match look st.C k with
    | some (.box cs)=>(k,.box (cs.map Eq0)) :: Ch6 st (k :: seen) rs
    | some (.row t sz _)=>(k,.row t sz) :: Ch6 st (k :: seen) rs
    | some (.itr g kt et since _ _ _)=>(k,.itr g kt et since) :: Ch6 st (k :: seen) rs
    | _=>Ch6 st seen rs
  | _=>Ch6 st seen rs
def Fp8 (i:TyI) (K:Value→Prop):Prop:=Ax9 i.sh fun l=>valOf i.agg l K
def Cs7:List (Nat×Bz3)→SS→(List PL→SS→Prop)→Prop
 | (k,.box sh) :: r,st,K=>Ax9 sh fun cs=>Cs7 r {st with C:=(k,.box cs) :: st.C } fun l st=>K (.cells cs :: l) st
 | (k,.row t sz) :: r,st,K=>∀xs:List (List Value),Cs7 r {st with C:=(k,.row t sz xs) :: st.C } fun l st=>K (.row xs :: l) st
 | (k,.itr g kt et since) :: r,st,K=>∀(seen:Array Nat) (last:Nat) (cur:Option MapEntry),Cs7 r {st with C:=(k,.itr g kt et since seen last cur) :: st.C } fun l st=>K (.seen (Ae4 seen cur) last :: l) st
 | [],st,K=>K [] st
def Dq7:List (Nat×Car)→SS→(List PL→SS→Prop)→Prop
 | (d,.val i) :: r,st,K=>Fp8 i fun v=>Dq7 r {st with T:=(d,.v v) :: st.T } fun l st=>K (.val v :: l) st
 | (d,.own t sz) :: r,st,K=>∀xs:List (List Value),Dq7 r {(Ac4 st (.row t sz xs)) with T:=(d,.o st.nx) :: st.T } fun l st=>K (.row xs :: l) st
 | [],st,K=>K [] st
def Fi0 (bs:List (Nat×Bz3)) (cars:List (Nat×Car)) (st:SS) (K:List PL→SS→Prop):Prop:=
 Cs7 bs st fun lb st=>Dq7 cars st fun lc st=>K (lc ++ lb) st
def tyB (i:TyI) (v:Value):Bool:=match i.agg,v with
 | true,.agg cs=>Ai7 i.sh cs.toList
 | false,v=>Ai7 i.sh [v]
 | _,_=>false
def Cr6:List (Nat×Bz3)→SS→PW→(List PL→SS→PW→Prop)→Prop
 | (k,.box sh) :: r,st,W,K=>match look st.C k with
  | some (.box cs)=>match Ai7 sh cs with | true=>Cr6 r st W fun l st W=>K (.cells cs :: l) st W | false=>False
  | _=>False
 | (k,.row t sz) :: r,st,W,K=>match look st.C k with
  | some (.row t' sz' xs)=>match Nat.beq t t',Nat.beq sz sz' with
   | true,true=>Cr6 r st W fun l st W=>K (.row xs :: l) st W
   | _,_=>False
  | _=>False
 | (k,.itr g kt et since) :: r,st,W,K=>match look st.C k with
  | some (.itr g' kt' et' since' seen last cur)=>match Nat.beq kt kt',Nat.beq et et' with
   | true,true=>(g=g'∧since=since')∧Cr6 r st W fun l st W=>K (.seen (Ae4 seen cur) last :: l) st W
   | _,_=>False
  | _=>False
 | [],st,W,K=>K [] st W
def De0:List (Nat×Car)→SS→PW→(List PL→SS→PW→Prop)→Prop
 | (d,.val i) :: r,st,W,K=>evP W0 (.tmp d) st W fun v st W=>match tyB i v with | true=>De0 r st W fun l st W=>K (.val v :: l) st W | false=>False
 | (d,.own t sz) :: r,st,W,K=>match look st.T d with
  | some (.o k)=>match look st.C k with
   | some (.row t' sz' xs)=>match Nat.beq t t',Nat.beq sz sz' with
    | true,true=>De0 r {st with C:=(k,.dead) :: st.C,D:=k :: st.D } W fun l st W=>K (.row xs :: l) st W
    | _,_=>False
   | _=>False
  | some .n=>De0 r st W fun l st W=>K (.row [] :: l) st W
  | _=>False
 | [],st,W,K=>K [] st W
def Fq9 (bs:List (Nat×Bz3)) (cars:List (Nat×Car)) (st:SS) (W:PW) (K:List PL→SS→PW→Prop):Prop:=
 De0 W0 cars st W fun lc st W=>Cr6 bs st W fun lb st W=>K (lc ++ lb) st W
def Aw4 (ds:List Nat) (bs:List (Nat×Bz3)) (st:SS):SS:={st with T:=st.T.filter fun x=>!(mem ds x.1),D:=bs.map (·.1) ++ st.D }
def Bk3 (cars:List (Nat×Car)) (st:SS):List Nat:=cars.filterMap fun c=>match c.2 with
 | .own _ _=>match look st.T c.1 with
  | some (.o k)=>some k
  | _=>none
 | _=>none
def Dm4 (ks:List Nat) (st:SS):SS:={st with C:=(ks.map fun k=>(k,Blk.dead)) ++ st.C,D:=ks ++ st.D }
def Cg4 (al:List Nat) (nx n:Nat) (D:List Nat):Bool:=(D.take (Nat.sub D.length n)).all fun k=>Nat.ble nx k || al.any fun b=>Nat.beq b k
def Ar3:Code→Option Nat
 | .region id _ _=>some id
 | .seq a b=>match Ar3 a with | some x=>some x | none=>Ar3 b
 | .cond _ a b=>match Ar3 a with | some x=>some x | none=>Ar3 b
 | .block _ a=>Ar3 a
 | .loop a=>Ar3 a
 | _=>none
def Fs0 (cuts:List Nat) (c:Code):Bool:=match Ar3 c with | some r=>mem cuts r | none=>false
def Fe6 (cars:List (Nat×Car)) (bs:List (Nat×Bz3)) (ds:List Nat) (st:SS) (W:PW) (body:SS→PW→(Exit→SS→PW→Prop)→Prop) (K:Exit→SS→PW→Prop):Prop:=
 Fq9 W0 bs cars st W fun l0 st1 W1=>
  ∃(I:List PL→PW→Prop) (μ:List PL→PW→Nat),I l0 W1∧
   Fi0 bs cars (Aw4 ds bs st1) fun l sth=>∀W',I l W'→
    body sth W' fun e st' W''=>match e with
     | .normal=>Fq9 W0 bs cars st' W'' fun l' st2 W2=>match Cg4 (bs.map (·.1)) st1.nx sth.D.length st2.D with | true=>stp I μ l' W2 l W' | false=>False
     | e=>K e st' W''
def Fr0 (cars:List (Nat×Car)) (bs:List (Nat×Bz3)) (ds:List Nat) (st:SS) (W:PW) (x y:SS→PW→(Exit→SS→PW→Prop)→Prop) (K:Exit→SS→PW→Prop):Prop:=
 match bs.all (fun b=>Nat.blt b.1 st.nx) with
 | false=>False
 | true=>∃J:List PL→PW→Prop,
  (x st W fun e st' W'=>match e with
   | .normal=>Fq9 W0 bs cars st' W' fun l st2 W2=>match Cg4 (bs.map (·.1) ++ Bk3 cars st) st.nx st.D.length st2.D with | true=>J l W2 | false=>False
   | e=>K e st' W')∧
  Fi0 bs cars (Aw4 ds bs (Dm4 (Bk3 cars st) st)) fun l sth=>∀W',J l W'→y sth W' K
variable (cuts:List Nat)
/-! ### Regions whose order is drawn -/
def Ac2 (o : Oper) : List Nat := o.after.toList.filterMap fun e => match Region.binds .any e with | true => some e.on | false => none
def Fm0:Op→Bool
 | .build ..=>true
 | op=>Ft3 op
def allI (p:Nat→Oper→Bool):Nat→List Oper→Bool
 | _,[]=>true
 | n,o :: r=>p n o && allI p (Nat.succ n) r
def Bm0 (p:Nat→Oper→Bool):Nat→List Oper→Option (Nat×Oper)
 | _,[]=>none
 | n,o :: r=>match p n o with | true=>some (n,o) | false=>Bm0 p (Nat.succ n) r
def Cu6 (p:Nat→Oper→Bool):Nat→List Oper→List (Nat×Oper)
 | _,[]=>[]
 | n,o :: r=>match p n o with | true=>(n,o) :: Cu6 p (Nat.succ n) r | false=>Cu6 p (Nat.succ n) r
def Af2 (ops:Array Oper) (o:Oper):List Nat:=o.looksAt ops
def Et2 (o:Oper) (d:Nat):Bool:=match o.dst with | some d'=>Nat.beq d' d | none=>false
def isVal (ops:Array Oper) (i:Nat) (o:Oper):Bool:=Fm0 o.op && match o.dst with
 | none=>true
 | some d=>!(mem (Af2 ops o) d) && allI (fun j oj=>Nat.beq i j || (!(Et2 oj d) && (!(mem (Af2 ops oj) d) || mem (Ac2 oj) i))) 0 ops.toList
def Fn1 (o:Oper):Bool:=match o.op with | .select ..=>false | _=>true
def Dq0 (ops:Array Oper):Bool:=ops.toList.all Fn1 && allI (fun i o=>(Ac2 o).all (fun j=>Nat.blt j i) &&
 (!(isVal ops i o) || allI (fun j oj=>Nat.beq i j || (match oj.dst with | some d=>!(mem (Af2 ops o) d) || mem (Ac2 o) j || mem (Ac2 oj) i | none=>true)) 0 ops.toList)) 0 ops.toList
def keyOf:SV→List Nat
 | .p k _=>[k]
 | .o k=>[k]
 | .oe k _ _ _=>[k]
 | .pe k _ _ _ _ _=>[k]
 | .bs k _=>[k]
 | _=>[]
def prune (ls:List Nat) (st:SS):SS:=
 {st with T:=st.T.filter fun p=>mem ls p.1,C:=st.C.filter fun q=>mem ((st.T.filter fun p=>mem ls p.1).flatMap fun p=>keyOf p.2) q.1 }
def Fk9 (ls:List Nat) (st:SS):List Nat:=(st.T.filter fun p=>mem ls p.1).flatMap fun p=>keyOf p.2
def Fr1 (st:SS) (o:Oper):Bool:=match(match o.op with | .fieldAddr _ (.tmp t) _=>look st.T t | .indexAddr _ (.tmp t) _=>look st.T t | _=>none) with
 | some (.p _ _)=>true
 | some (.pe _ _ _ _ _ _)=>true
 | _=>false
def Av2 (o:Oper) (ls:List Nat) (st:SS):SS:=match Fr1 st o with
 | true=>{st with T:=st.T.filter fun p=>mem ls p.1,C:=[] }
 | false=>prune ls st
def Fb1 (o:Oper) (ls:List Nat) (st:SS):List Nat:=match Fr1 st o with | true=>[] | false=>Fk9 ls st
def Fk7 (st:SS) (o:Oper):Bool:=match o.op with
 | .load _ (.tmp t)=>match look st.T t with | some (.p _ _)=>false | some (.oe _ _ _ _)=>false | some (.pe _ _ _ _ _ _)=>false | _=>true
 | .load _ _=>true
 | _=>false
def Ft2 (W:PW):PW:=⟨{W.w with heap:=#[] },fun _=>False⟩
def Fo0 (b:Bool) (W:PW):PW:=match b with | true=>W | false=>Ft2 W
def Ez5 (st:SS) (o:Oper):Bool:=match o.op with
 | .build _ parts=>parts.toList.all fun p=>match p.2 with | .tmp t=>(match look st.T t with | some (.o _)=>false | _=>true) | _=>true
 | .slice _ (.tmp t) none _ none=>match look st.T t with | some (.o k)=>(match look st.C k with | some (.row _ _ _)=>false | _=>true) | _=>true
 | _=>true
def Fh6 (ops:List Oper) (o:Oper) (st:SS) (W:PW) (K:SV→Prop):Prop:=
 match o.guard with
 | none=>fl tt st W o.op K
 | some (j,want)=>match ops[j]? with
  | some og=>match og.dst with
   | some d=>match look st.T d with
    | some (.b b)=>match b == want with
     | true=>fl tt st W o.op K
     | false=>K (.v undef)
    | some (.v (.tuple _))=>K (.v undef)
    | _=>False
   | none=>False
  | none=>False
def dup:Nat→Prop→Prop
 | 0,p=>p
 | n+1,p=>p∧dup n p
theorem Fc8 {p:Prop} (h:p): ∀n,dup n p
 | 0=>h
 | n+1=>⟨h,Fc8 h n⟩
def Fq6 (f:Nat×Oper→Prop):List (Nat×Oper)→Prop
 | []=>True
 | [x]=>f x
 | x :: r=>f x∧Fq6 f r
def Fm5 (b:Bool) (W W':PW) (p:Prop):Prop:=match b with | true=>Ext W W'∧p | false=>p
structure Cq8 where
 i:Nat
 ks:List Nat
 nw:Bool
def Ak4 (ops:Array Oper) (L:List Nat) (i:Nat) (o:Oper):Bool:=!(mem L i) && (Ac2 o).all fun j=>mem L j
def Fk4 (g:Bool) (s:SV):Bool:=match g with | true=>(match s with | .v (.tuple _)=>false | _=>true) | false=>false
def Fr3 (o:Oper):Bool:=match o.op,o.guard,o.dst with
 | .alloc _,none,some _=>true
 | _,_,_=>false
def Fg8:Op→Bool
 | .call {callee:=.value _,.. }=>true
 | .alloc _=>true
 | .build ..=>true
 | .slice _ _ none _ none=>false
 | op=>Ft3 op
def Fb0 (ops:Array Oper) (i:Nat) (o:Oper):Bool:=Fr3 o && match o.dst with
 | none=>false
 | some d=>allI (fun j oj=>Nat.beq i j || (!(Et2 oj d) && ((!(mem (Af2 ops oj) d) || (!(isVal ops j oj) && mem (Ac2 oj) i)) && (mem (Ac2 oj) i || Fg8 oj.op)))) 0 ops.toList
def Fq0 (st:SS) (o:Oper):Option (Nat×List Value):=match o.op,o.dst with
 | .alloc t,some d=>match look tt t,Nat.blt d st.n with
  | some i,true=>some (d,i.zv.cells.toList)
  | _,_=>none
 | _,_=>none
abbrev QA:=List (Nat×Nat×List Value)
def Fo6 (d:Nat) (cs:List Value) (st:SS):SS:={Ac4 st (.box cs) with T:=(d,.p st.nx 0) :: st.T }
def Dk4:List (Nat×Nat×List Value)→SS→SS
 | [],st=>st
 | (_,d,cs) :: r,st=>Dk4 r (Fo6 d cs st)
def inQ (o:Oper) (qa:List (Nat×Nat×List Value)):List (Nat×Nat×List Value):=qa.filter fun q=>mem (Ac2 o) q.1
def Fd5 (o:Oper) (qa:List (Nat×Nat×List Value)):List (Nat×Nat×List Value):=qa.filter fun q=>!(mem (Ac2 o) q.1)
def Dp9 (ops:Array Oper):Nat→List Nat→List Cq8→List (Nat×Nat×List Value)→SS→PW→(SS→PW→Prop)→Prop
 | 0,_,_,_,_,_,_=>False
 | n+1,L,pd,qa,st,W,K=>match Bm0 (fun i o=>Ak4 ops L i o && (isVal ops i o && Ez5 st o)) 0 ops.toList with
  | some (i,o)=>Fh6 tt ops.toList o (Av2 o (Af2 ops o) st) (Fo0 (Fk7 st o) W) fun s=>fin (Fk4 (guards ops.toList i) s) o s st fun st1=>Dp9 ops n (i :: L) (⟨i,Fb1 o (Af2 ops o) st,Fk7 st o⟩ :: pd) qa st1 W K
  | none=>match Bm0 (fun i o=>Ak4 ops L i o && Fb0 ops i o) 0 ops.toList with
   | some (i,o)=>match Fq0 tt st o with
    | some x=>Dp9 ops n (i :: L) pd ((i,x.1,x.2) :: qa) st W K
    | none=>False
   | none=>match Cu6 (Ak4 ops L) 0 ops.toList with
    | []=>K (Dk4 qa st) W
    | rs=>Fq6 (fun x=>Fi7 P tt W0 M ops.toList x.1 x.2 (Dk4 (inQ x.2 qa) st) W fun st1 W1=>
      match(pd.filter fun q=>!(mem (Ac2 x.2) q.i)).all fun q=>q.ks.all fun k=>!(mem (st1.D.take (Nat.sub st1.D.length st.D.length)) k) with
      | true=>Fm5 ((pd.filter fun q=>!(mem (Ac2 x.2) q.i)).any fun q=>q.nw) W W1 (Dp9 ops n (x.1 :: L) (pd.filter fun q=>!(mem (Ac2 x.2) q.i)) (Fd5 x.2 qa) st1 W1 K)
      | false=>False) rs
def Fg6 (st:SS):List Nat:=st.T.filterMap fun p=>match p.2 with
 | .o k=>match look st.C k with
  | some (.row _ _ _)=>some k
  | _=>none
 | _=>none
def Fk0:List Nat→SS→PW→(SS→PW→Prop)→Prop
 | [],st,W,K=>K st W
 | k :: r,st,W,K=>match look st.C k with
  | some (.row _ _ _)=>pub W0 k st W fun _ st W=>Fk0 r st W K
  | _=>Fk0 r st W K
def Fp7 (cuts:List Nat) (c:Code):Bool:=match Ar3 c with | some r=>mem cuts (Nat.add 1000000 r) | none=>false
def sxC:Code→List Nat→SS→PW→(Exit→SS→PW→Prop)→Prop
 | .skip,_,st,W,K=>K .normal st W
 | .region _ ops draw,_,st,W,K=>match draw with
  | false=>Ff8 P tt W0 M ops.toList 0 ops.toList st W fun st W=>K .normal st W
  | true=>match Dq0 ops with
   | true=>Dp9 P tt W0 M ops (Nat.succ ops.size) [] [] [] st W fun st W=>K .normal st W
   | false=>False
 | .seq a b,U,st,W,K=>match Fs0 cuts b with
  | false=>sxC a (Dc7 b ++ U) st W fun e st W=>match e with
   | .normal=>sxC b U st W K
   | e=>K e st W
  | true=>Fr0 W0 (By2 tt st false (Dc7 b ++ U) [] (asg a)) (Ch6 st [] (roots a)) (Cw1 a) st W (fun st W K=>sxC a (Dc7 b ++ U) st W K) (fun st W K=>sxC b U st W K) K
 | .cond c a b,U,st,W,K=>ev st c fun s=>split s fun t=>match t with | true=>sxC a U st W K | false=>sxC b U st W K
 | .block id a,U,st,W,K=>sxC a U st W fun e st W=>match e with
  | .exit i=>match Nat.beq i id with | true=>K .normal st W | false=>K (.exit i) st W
  | e=>K e st W
 | .loop a,U,st,W,K=>match Fp7 cuts a with
  | false=>Fe6 W0 (By2 tt st true (Dc7 a ++ U) [] (asg a)) (Ch6 st [] (roots a)) (Cw1 a) st W (fun st W K=>sxC a (Dc7 a ++ U) st W K) K
  | true=>Fk0 W0 (Fg6 st) st W fun st W=>Fe6 W0 (By2 tt st true (Dc7 a ++ U) [] (asg a)) (Ch6 st [] (roots a)) (Cw1 a) st W (fun st W K=>sxC a (Dc7 a ++ U) st W K) K
 | .exit id,_,st,W,K=>K (.exit id) st W
 | .ret,_,st,W,K=>K .ret st W
 | _,_,_,_,_=>False
def Fh9:List ResultVar→SS→PW→(List Value→SS→PW→Prop)→Prop
 | [],st,W,K=>K [] st W
 | .tmp t :: r,st,W,K=>evP W0 (.tmp t) st W fun v st W=>Fh9 r st W fun l st W=>K (v :: l) st W
 | .cell a t :: r,st,W,K=>match look tt t,look st.T a with
  | some i,some (.p k off)=>Dx2 st i W (.p k off) fun s=>toV st s fun v=>Fh9 r st W fun l st W=>K (v :: l) st W
  | _,_=>False
def Fs1 (l:List Value) (K:Value→Prop):Prop:=match l with | [x]=>K x | l=>K (.tuple l.toArray)
def num {α:Type} :Nat→List α→List (Nat×α)
 | _,[]=>[]
 | n,x :: r=>(n,x) :: num (Nat.succ n) r
def Fu2 (fn:Func) (args:List Value) (Post:Value→PW→Prop):Prop:=
 match fn.body with
 | none=>False
 | some c=>sxC P tt W0 M cuts c [] {T:=num 0 (args.map .v),C:=[],nx:=0,n:=fn.ntmps,D:=[] } W0 fun e st W=>match e with
  | .normal=>Fh9 tt W0 fn.results.toList st W fun l _ W=>Fs1 l fun v=>∀W',Ext W W'→Post v W'
  | .ret=>Fh9 tt W0 fn.results.toList st W fun l _ W=>Fs1 l fun v=>∀W',Ext W W'→Post v W'
  | _=>False
end
end Go.SX
/- The symbolic evaluator: how a table of types is shown right. -/
namespace Go.SX
theorem Af4.of {P:Program} {t:TypeId} {i:TyI} (h1:(P.info? t).map (fun x=>(x.size,x.bytes,x.zero))=some (i.size,i.bytes,some i.zv)) (h2:(P.underlying t).map Au8=some i.und)
  (h3:i.agg=Cr0 i.und) (h4:i.zv.cells.size=i.size) (h5:i.sh.length=i.size) (h6:i.eq=false):Af4 P t i:=by
 obtain⟨inf,hi,he⟩:=Option.map_eq_some_iff.1 h1
 obtain⟨d,hd,hu⟩:=Option.map_eq_some_iff.1 h2
 simp only[Prod.mk.injEq] at he
 exact⟨⟨inf,hi,he.1,he.2.1,he.2.2⟩,⟨d,hd,hu⟩,h3,h4,h5,fun h=>by rw[h6] at h;cases h⟩
theorem Af4.ofEq {P:Program} {t:TypeId} {i:TyI} (h1:(P.info? t).map (fun x=>(x.size,x.bytes,x.zero))=some (i.size,i.bytes,some i.zv)) (h2:(P.underlying t).map Au8=some i.und)
  (h3:i.agg=Cr0 i.und) (h4:i.zv.cells.size=i.size) (h5:i.sh.length=i.size) (h6:Fo2 P t i.sh):Af4 P t i:=by
 have h:=Af4.of (i:={i with eq:=false }) h1 h2 h3 h4 h5 rfl
 exact⟨h.1,h.2.1,h3,h4,h5,fun _=>h6⟩
def Fi2 (tt:List (Nat×TyI)):Bool:=tt.all fun x=>match x.2.und with
 | .struct fs=>fs.all fun f=>(look tt f.1).isSome
 | .arr _ e=>(look tt e).isSome
 | _=>true
theorem Do6 {α:Type} : ∀{l:List (Nat×α)} {t:Nat} {i:α} (_:look l t=some i),(t,i)∈l
 | [],_,_,h=>by simp[look] at h
 | (k,x) :: r,t,i,hl=>by
  simp only[look] at hl
  cases hb:Nat.beq k t with
  | true=>
   simp only[hb,Option.some.injEq] at hl
   have:k=t:=Nat.eq_of_beq_eq_true hb
   simp[this,hl]
  | false=>
   simp only[hb] at hl
   exact List.mem_cons_of_mem _ (Do6 hl)
theorem Dk7 {tt:List (Nat×TyI)} (h:Fi2 tt=true):Ae7 tt:=by
 intro t i hi
 have:=List.all_eq_true.1 h _ (Do6 hi)
 constructor
 ·intro fs hu f hf
  simp only[hu] at this
  exact Option.isSome_iff_exists.1 (List.all_eq_true.1 this f hf)
 ·intro n e hu
  simp only[hu] at this
  exact Option.isSome_iff_exists.1 this
end Go.SX
/- The symbolic evaluator: when two monomials, two terms are the same. -/
namespace Go.SX
variable {P:Program}
theorem Cp0 {t:TypeId} {i:TyI} (hG:Af4 P t i) (hz:i.size=1) (ha:i.agg=false) (w:World) (l:List Value) (p:Nat) (v:Value) (h:l[p]?=some v):(part t l.toArray p).run P w = .ok v w:=by
 simp[part,hG.isAgg,hG.sizeOf,ha,hz,Sem.run_bind,h]
theorem Fr2 {k:IntKind} {l:List Value} (h:Ai7 [.int k,.int k,.int k] l=true): ∃a b c,l = [.int k a,.int k b,.int k c]:=by
 match l,h with
 | [x,y,z],h=>
  simp only[Ai7,Bool.and_eq_true,and_true] at h
  obtain⟨h1,h2,h3⟩:=h
  cases x<;>simp only[Ff6,Bool.false_eq_true] at h1
  cases y<;>simp only[Ff6,Bool.false_eq_true] at h2
  cases z<;>simp only[Ff6,Bool.false_eq_true] at h3
  obtain rfl:=of_decide_eq_true h1
  obtain rfl:=of_decide_eq_true h2
  obtain rfl:=of_decide_eq_true h3
  exact⟨_,_,_,rfl⟩
 | [],h=>simp[Ai7] at h
 | [_],h=>simp[Ai7] at h
 | [_,_],h=>simp[Ai7] at h
 | _ :: _ :: _ :: _ :: _,h=>simp[Ai7] at h
theorem Eq9 {t e:TypeId} {k:IntKind} {i:TyI} (ht:P.underlying t=some (.array 3 e)) (he:P.underlying e=some (.int k)) (hG:Af4 P e i) (hz:i.size=1) (ha:i.agg=false) (w:World) (d:Nat) (a b c x y z:Int):
  (Op.equalIn (d+2) t (.agg #[.int k a,.int k b,.int k c]) (.agg #[.int k x,.int k y,.int k z])).run P w = .ok (a == x && (b == y && c == z)) w:=by
 have hG':=hG
 obtain⟨⟨inf,hi,h1,_,_⟩,_⟩:=hG'
 have hc:P.cellsOf e=1:=by simp[Program.cellsOf,hi,h1,hz]
 rw[run_equalIn_array w (d+1) _ _ ht hi,hc,show List.range 3 = [0,1,2] from rfl]
 have p: ∀(l:List Value) (q:Nat) (v:Value),l[q]?=some v→(part e l.toArray q).run P w = .ok v w:=fun l q v h=>Cp0 hG hz ha w l q v h
 have e1:=fun(u v:Int)=>run_equalIn_int (P:=P) w d e k k u v he
 have q1:=p [.int k a,.int k b,.int k c] 0 (.int k a) rfl
 have q2:=p [.int k a,.int k b,.int k c] 1 (.int k b) rfl
 have q3:=p [.int k a,.int k b,.int k c] 2 (.int k c) rfl
 have q4:=p [.int k x,.int k y,.int k z] 0 (.int k x) rfl
 have q5:=p [.int k x,.int k y,.int k z] 1 (.int k y) rfl
 have q6:=p [.int k x,.int k y,.int k z] 2 (.int k z) rfl
 have r0:(Op.eqItems (d+1) e 1 #[.int k a,.int k b,.int k c] #[.int k x,.int k y,.int k z] []).run P w = .ok true w:=by simp[Op.eqItems]
 have r1:(Op.eqItems (d+1) e 1 #[.int k a,.int k b,.int k c] #[.int k x,.int k y,.int k z] [2]).run P w = .ok (c == z) w:=by
  rw[Op.eqItems]
  simp only[Sem.run_bind,Nat.mul_one,q3,q6,e1,Result.andThen_ok]
  cases(c == z)
  ·rfl
  ·exact r0
 have r2:(Op.eqItems (d+1) e 1 #[.int k a,.int k b,.int k c] #[.int k x,.int k y,.int k z] [1,2]).run P w = .ok (b == y && c == z) w:=by
  rw[Op.eqItems]
  simp only[Sem.run_bind,Nat.mul_one,q2,q5,e1,Result.andThen_ok]
  cases(b == y)
  ·rfl
  ·exact r1
 rw[Op.eqItems]
 simp only[Sem.run_bind,Nat.mul_one,q1,q4,e1,Result.andThen_ok]
 cases(a == x)
 ·rfl
 ·exact r2
theorem Br5 {t e:TypeId} {k:IntKind} {i:TyI} (ht:P.underlying t=some (.array 3 e)) (he:P.underlying e=some (.int k)) (hG:Af4 P e i) (hz:i.size=1) (ha:i.agg=false) (hm:P.eqGuardType P.depth t=false):Fo2 P t [.int k,.int k,.int k]:=by
 intro w l l' h h'
 obtain⟨a,b,c,rfl⟩:=Fr2 h
 obtain⟨x,y,z,rfl⟩:=Fr2 h'
 refine⟨?_,fun op x y=>run_eqGuard_agg w op t x y _ _ hm⟩
 have:=Eq9 ht he hG hz ha w 9998 a b c x y z
 show(Op.equalIn 10000 t _ _).run P w=_
 rw[this]
 congr 1
 by_cases h1:a=x<;>by_cases h2:b=y<;>by_cases h3:c=z<;>simp[h1,h2,h3]
theorem Fn2 {k:IntKind} {l:List Value} (h:Ai7 [.int k,.int k,.int k,.str] l=true): ∃a b c s,l = [.int k a,.int k b,.int k c,.string s]:=by
 match l,h with
 | [x,y,z,u],h=>
  simp only[Ai7,Bool.and_eq_true,and_true] at h
  obtain⟨h1,h2,h3,h4⟩:=h
  obtain⟨a,b,c,e⟩:=Fr2 (l:=[x,y,z]) (k:=k) (by simp[Ai7,h1,h2,h3])
  cases e
  cases u<;>simp only[Ff6,Bool.false_eq_true] at h4
  exact⟨_,_,_,_,rfl⟩
 | [],h=>simp[Ai7] at h
 | [_],h=>simp[Ai7] at h
 | [_,_],h=>simp[Ai7] at h
 | [_,_,_],h=>simp[Ai7] at h
 | _ :: _ :: _ :: _ :: _ :: _,h=>simp[Ai7] at h
theorem Cz9 {t m e u:TypeId} {k:IntKind} {i j im:TyI} (ht:P.underlying t=some (.struct (P.fieldsOf t))) (hp:P.stoodInHeld t=false) (hf:(P.fieldsOf t).toList.map (fun f=>(f.name != "_",f.type,f.offset)) = [(true,m,0),(true,u,3)])
  (hmt:P.underlying m=some (.array 3 e)) (he:P.underlying e=some (.int k)) (hG:Af4 P e i) (hz:i.size=1) (ha:i.agg=false) (hGm:Af4 P m im) (hzm:im.size=3) (ham:im.agg=true)
  (hu:P.underlying u=some .string) (hGu:Af4 P u j) (hzu:j.size=1) (hau:j.agg=false) (hm:P.eqGuardType P.depth t=false):Fo2 P t [.int k,.int k,.int k,.str]:=by
 intro w l l' h h'
 obtain⟨a,b,c,s,rfl⟩:=Fn2 h
 obtain⟨x,y,z,r,rfl⟩:=Fn2 h'
 refine⟨?_,fun op x y=>run_eqGuard_agg w op t x y _ _ hm⟩
 show(Op.equalIn (9999+1) t _ _).run P w=_
 rw[run_equalIn_struct w 9999 t _ _ ht hp]
 generalize hF:(P.fieldsOf t).toList=F at hf
 rcases F with _ | ⟨f,_ | ⟨g,_ | ⟨q,F⟩⟩⟩
 ·simp at hf
 ·simp at hf
 ·simp only[List.map_cons,List.map_nil,List.cons.injEq,Prod.mk.injEq,and_true] at hf
  obtain⟨⟨n1,t1,o1⟩,n2,t2,o2⟩:=hf
  have n1':f.name≠ "_":=by simpa using n1
  have n2':g.name≠ "_":=by simpa using n2
  have p1: ∀(a b c:Int) (s:ByteArray),(part m #[.int k a,.int k b,.int k c,.string s] 0).run P w = .ok (.agg #[.int k a,.int k b,.int k c]) w:=fun a b c s=>by
   simp[part,hGm.isAgg,hGm.sizeOf,ham,hzm,Sem.run_bind]
  have p2: ∀(a b c:Int) (s:ByteArray),(part u #[.int k a,.int k b,.int k c,.string s] 3).run P w = .ok (.string s) w:=fun a b c s=>Cp0 hGu hzu hau w [.int k a,.int k b,.int k c,.string s] 3 _ rfl
  have e1:=Eq9 hmt he hG hz ha w 9997 a b c x y z
  have e2:(Op.equalIn 9999 u (.string s) (.string r)).run P w = .ok (s == r) w:=by
   rw[Op.equalIn,Sem.run_bind,run_underlying hu,Result.andThen_ok]
   rfl
  have r0:(Op.eqFields 9999 #[.int k a,.int k b,.int k c,.string s] #[.int k x,.int k y,.int k z,.string r] []).run P w = .ok true w:=by simp[Op.eqFields]
  have r1:(Op.eqFields 9999 #[.int k a,.int k b,.int k c,.string s] #[.int k x,.int k y,.int k z,.string r] [g]).run P w = .ok (s == r) w:=by
   rw[Op.eqFields,if_pos n2',t2,o2]
   simp only[Sem.run_bind,p2,e2,Result.andThen_ok]
   cases(s == r)
   ·rfl
   ·exact r0
  rw[Op.eqFields,if_pos n1',t1,o1]
  simp only[Sem.run_bind,p1,e1,Result.andThen_ok]
  have key:(if(!(a == x && (b == y && c == z)))=true then(pure false:Sem Bool) else Op.eqFields 9999 #[.int k a,.int k b,.int k c,.string s] #[.int k x,.int k y,.int k z,.string r] [g]).run P w = .ok ((a == x && (b == y && c == z)) && s == r) w:=by
   cases(a == x && (b == y && c == z))
   ·rfl
   ·exact r1
  rw[key]
  have hsr:(s == r)=decide (s=r):=by
   rw[beq_toListBytes]
   by_cases h4:s=r
   ·simp[h4]
   ·have:s.toList≠r.toList:=fun e=>h4 (by
     rw[ByteArray.toList_eq,ByteArray.toList_eq] at e
     exact ByteArray.ext (Array.ext' e))
    simp[h4,this]
  rw[hsr]
  congr 1
  by_cases h1:a=x<;>by_cases h2:b=y<;>by_cases h3:c=z<;>by_cases h4:s=r<;>simp[h1,h2,h3,h4]
 ·simp at hf
end Go.SX
/- The symbolic evaluator: operations that change something are sound. -/
namespace Go.SX
variable {P:Program} {tt:List (Nat×TyI)} {W0:PW} {M:Nat→Prop}
theorem Az7.mono {n m:Nat} {β:Nat→Nat} {σ:Nat→Value} {s:SV} (h:Az7 n β σ s) (hm:n≤m):Az7 m β σ s:=by
 cases s with
 | p k _=>exact Nat.lt_of_lt_of_le h hm
 | o k=>exact Nat.lt_of_lt_of_le h hm
 | oe k sz i off=>exact⟨h.1,Nat.lt_of_lt_of_le h.2 hm⟩
 | pe=>exact Nat.lt_of_lt_of_le h hm
 | bs=>exact Nat.lt_of_lt_of_le h hm
 | _=>exact h
theorem Ar8 {β β':Nat→Nat} {σ σ':Nat→Value} {n:Nat} (h: ∀k,k<n→β' k=β k∧σ' k=σ k) {s:SV} (hs:Az7 n β σ s):s.val β' σ'=s.val β σ:=by
 cases s with
 | p k off=>simp only[SV.val,(h k hs).1]
 | pe k b sz l i off=>simp only[SV.val,(h k hs).1]
 | bs k n=>simp only[SV.val,(h k hs).1]
 | o k=>simp only[SV.val,(h k hs).2]
 | oe k sz i off=>simp only[SV.val,(h k hs.2).2]
 | _=>rfl
theorem Ay6 {β β':Nat→Nat} {σ σ':Nat→Value} {n:Nat} (h: ∀k,k<n→β' k=β k∧σ' k=σ k) {s:SV} (hs:Az7 n β σ s):Az7 n β' σ' s:=by
 cases s with
 | p k off=>exact hs
 | pe=>exact hs
 | bs=>exact hs
 | o k=>exact hs
 | oe k sz i off=>exact⟨⟨hs.1.choose,(Ar8 (s:=.oe k sz i off) h hs).trans hs.1.choose_spec⟩,hs.2⟩
 | e s sz i off=>obtain⟨ad,h1⟩:=hs;exact⟨ad,h1⟩
 | _=>trivial
theorem Ad7 {β β':Nat→Nat} {σ σ':Nat→Value} {n:Nat} (h: ∀k,k<n→β' k=β k∧σ' k=σ k) {k:Nat} (hk:k<n) {bl:Blk} :Ab8 β' σ' k bl=Ab8 β σ k bl:=by
 cases bl<;>simp only[Ab8]<;>first | rfl | rw[(h _ hk).1] | rw[(h _ hk).2]
structure Ah1 (st st':SS):Prop where
 nx:st.nx≤st'.nx
 n:st'.n=st.n
 D: ∃new,st'.D=new ++ st.D∧∀k,k<st.nx→k∉new→look st'.C k=look st.C k
theorem Ah1.refl (st:SS):Ah1 st st:=⟨Nat.le_refl _,rfl,[],rfl,fun _ _ _=>rfl⟩
theorem Ah1.trans {a b c:SS} (h:Ah1 a b) (k:Ah1 b c):Ah1 a c:=by
 obtain⟨n1,h1,h2⟩:=h.D
 obtain⟨n2,k1,k2⟩:=k.D
 refine⟨Nat.le_trans h.nx k.nx,k.n.trans h.n,n2 ++ n1,by rw[k1,h1];simp,fun i hi hn=>?_⟩
 simp only[List.mem_append,not_or] at hn
 exact(k2 i (Nat.lt_of_lt_of_le hi h.nx) hn.1).trans (h2 i hi hn.2)
structure Run (W0:PW) (M:Nat→Prop) (st:SS) (W:PW) (β:Nat→Nat) (σ:Nat→Value) (a:Act) (Wa:PW):Prop where
 rel:Rel β σ st a Wa
 ext:Ext W Wa
 Ai1:Am7 M W0.w Wa.w
 priv: ∀b,Wa.S b→W0.S b∨W0.w.heap.size≤b
 lt: ∀b,Wa.S b→b<Wa.w.heap.size
 s0: ∀b,W0.S b→Wa.S b
 b0: ∀b,W0.S b→b<W0.w.heap.size
 nC: ∀k bl,look st.C k=some bl→k<st.nx
 fresh: ∀k bl g,look st.C k=some bl→Ab8 β σ k bl=some g→W0.w.heap.size≤g
theorem Ca6 {β:Nat→Nat} {σ:Nat→Value} {W:PW} {k:Nat} {bl:Blk} {g:Nat} (h:Cm9 β σ W k bl) (hg:Ab8 β σ k bl=some g):W.S g:=by
 cases bl with
 | box cs=>simp only[Ab8,Option.some.injEq] at hg;subst hg;exact h.2
 | row t sz xs=>exact h.2 g hg
 | itr=>simp only[Ab8,Option.some.injEq] at hg;subst hg;exact h.2
 | _=>simp[Ab8] at hg
theorem Cm9.same {β β':Nat→Nat} {σ σ':Nat→Value} {W W':PW} {k n:Nat} {bl:Blk} (h:Cm9 β σ W k bl) (hn: ∀k,k<n→β' k=β k∧σ' k=σ k) (hk:k<n)
  (hb: ∀g,Ab8 β σ k bl=some g→W'.w.heap[g]?=W.w.heap[g]?∧W'.S g):Cm9 β' σ' W' k bl:=by
 cases bl with
 | box cs=>
  obtain⟨⟨t,ht⟩,hS⟩:=h
  have:=hb (β k) rfl
  exact⟨⟨t,by rw[(hn k hk).1,this.1];exact ht⟩,by rw[(hn k hk).1];exact this.2⟩
 | row t sz xs=>
  obtain⟨⟨hl,ho⟩,hS⟩:=h
  refine⟨⟨hl,?_⟩,fun g hg=>?_⟩
  ·rw[(hn k hk).2]
   refine⟨ho.1,?_⟩
   rcases ho.2 with hnil | ⟨g,cap,cur,hv,h0,hh,hr⟩
   ·exact .inl hnil
   ·have:=hb g (by simp[Ab8,hv,Value.ownBlock])
    exact .inr ⟨g,cap,cur,hv,h0,this.1.trans hh,hr⟩
  ·rw[(hn k hk).2] at hg
   exact(hb g hg).2
 | pub x=>show σ' k=x;rw[(hn k hk).2];exact h
 | pbx r=>show r=some ⟨β' k,0,none⟩;rw[(hn k hk).1];exact h
 | dead=>trivial
 | itr g0 kt et since seen last cur=>
  obtain⟨ht,hS⟩:=h
  have:=hb (β k) rfl
  exact⟨by rw[(hn k hk).1,this.1];exact ht,by rw[(hn k hk).1];exact this.2⟩
theorem Run.world {st:SS} {W Wa Wa':PW} {β:Nat→Nat} {σ:Nat→Value} {a:Act} {N:Nat→Prop} (h:Run W0 M st W β σ a Wa) (hk:Am7 N Wa.w Wa'.w) (hS: ∀b,Wa'.S b↔Wa.S b)
  (hN: ∀g,N g→¬Wa.S g∧may W0 M g):Run W0 M st Wa' β σ a Wa' where
 rel:=⟨h.rel.defers,h.rel.size,h.rel.T,fun k bl hc=>(h.rel.C k bl hc).same (n:=k+1) (fun _ _=>⟨rfl,rfl⟩) (Nat.lt_succ_self k) fun g hg=>by
   have hs:=Ca6 (h.rel.C k bl hc) hg
   exact⟨hk.block g (h.lt g hs) fun hn=>(hN g hn).1 hs,(hS g).2 hs⟩,h.rel.inj,h.rel.dom⟩
 ext:=Ext.refl _
 Ai1:=h.Ai1.then hk fun i hi=>(hN i hi).2
 priv:=fun b hb=>h.priv b ((hS b).1 hb)
 lt:=fun b hb=>Nat.lt_of_lt_of_le (h.lt b ((hS b).1 hb)) hk.size
 s0:=fun b hb=>(hS b).2 (h.s0 b hb)
 b0:=h.b0
 nC:=h.nC
 fresh:=h.fresh
theorem Run.here {st:SS} {W Wa:PW} {β:Nat→Nat} {σ:Nat→Value} {a:Act} (h:Run W0 M st W β σ a Wa):Run W0 M st Wa β σ a Wa:=⟨h.rel,Ext.refl _,h.Ai1,h.priv,h.lt,h.s0,h.b0,h.nC,h.fresh⟩
theorem Ab4 {α:Type} (k:Nat) (x:α) (r:List (Nat×α)) (i:Nat):look ((k,x) :: r) i=if k=i then some x else look r i:=by
 simp only[look]
 cases hb:Nat.beq k i with
 | true=>simp[Nat.eq_of_beq_eq_true hb]
 | false=>simp[Nat.ne_of_beq_eq_false hb]
def upd {α:Type} (f:Nat→α) (k:Nat) (x:α):Nat→α:=fun i=>if i=k then x else f i
theorem Run.new {st:SS} {W Wa Wa':PW} {β:Nat→Nat} {σ:Nat→Value} {a:Act} (h:Run W0 M st W β σ a Wa) {bl:Blk} {b':Nat} {v':Value}
  (hk:Am7 (fun _=>False) Wa.w Wa'.w) (hS: ∀b,Wa'.S b↔Wa.S b∨Ab8 (upd β st.nx b') (upd σ st.nx v') st.nx bl=some b)
  (hb:Cm9 (upd β st.nx b') (upd σ st.nx v') Wa' st.nx bl) (hg: ∀g,Ab8 (upd β st.nx b') (upd σ st.nx v') st.nx bl=some g→Wa.w.heap.size≤g∧g<Wa'.w.heap.size):
  Run W0 M (Ac4 st bl) W (upd β st.nx b') (upd σ st.nx v') a Wa'∧Ah1 st (Ac4 st bl)∧(∀k,k<st.nx→upd β st.nx b' k=β k∧upd σ st.nx v' k=σ k):=by
 have hag: ∀k,k<st.nx→upd β st.nx b' k=β k∧upd σ st.nx v' k=σ k:=fun k hk=>by simp[upd,show k≠st.nx by omega]
 have hlook: ∀k bl',look (Ac4 st bl).C k=some bl'→(k=st.nx∧bl'=bl)∨(k<st.nx∧look st.C k=some bl'):=by
  intro k bl' hc
  simp only[Ac4,Ab4] at hc
  split at hc
  ·rename_i he;exact .inl ⟨he.symm,(Option.some.inj hc).symm⟩
  ·exact .inr ⟨h.nC _ _ hc,hc⟩
 refine⟨⟨⟨h.rel.defers,h.rel.size,fun i s hs=>?_,fun k bl' hc=>?_,?_,h.rel.dom⟩,?_,?_,?_,?_,?_,h.b0,?_,?_⟩,?_,hag⟩
 ·obtain⟨h1,h2⟩:=h.rel.T i s hs
  exact⟨h1.trans (Ar8 hag h2).symm,(Ay6 hag h2).mono (Nat.le_succ _)⟩
 ·rcases hlook k bl' hc with⟨rfl,rfl⟩ | ⟨hlt,hc'⟩
  ·exact hb
  ·refine(h.rel.C k bl' hc').same hag hlt fun g hg'=>?_
   have hs:=Ca6 (h.rel.C k bl' hc') hg'
   exact⟨hk.block g (h.lt g hs) id,(hS g).2 (.inl hs)⟩
 ·intro k k' bl1 bl2 g hne h1 h2 hg1 hg2
  have old: ∀k bl',look st.C k=some bl'→k<st.nx→Ab8 (upd β st.nx b') (upd σ st.nx v') k bl'=some g→g<Wa.w.heap.size:=by
   intro k bl' hc hlt hg'
   rw[Ad7 hag hlt] at hg'
   exact h.lt g (Ca6 (h.rel.C k bl' hc) hg')
  rcases hlook k bl1 h1 with⟨rfl,rfl⟩ | ⟨hlt,hc⟩<;>rcases hlook k' bl2 h2 with⟨rfl,rfl⟩ | ⟨hlt',hc'⟩
  ·exact hne rfl
  ·have:=old k' bl2 hc' hlt' hg2
   have:=(hg g hg1).1
   omega
  ·have:=old k bl1 hc hlt hg1
   have:=(hg g hg2).1
   omega
  ·rw[Ad7 hag hlt] at hg1
   rw[Ad7 hag hlt'] at hg2
   exact h.rel.inj k k' bl1 bl2 g hne hc hc' hg1 hg2
 ·refine h.ext.trans ⟨hk.size,fun b hb1 hb2=>⟨hk.block b hb1 id,fun hs=>?_⟩⟩
  rcases(hS b).1 hs with hs | hs
  ·exact hb2 hs
  ·have:=(hg b hs).1
   omega
 ·exact h.Ai1.then hk fun i hi=>hi.elim
 ·intro b hb
  rcases(hS b).1 hb with hs | hs
  ·exact h.priv b hs
  ·exact .inr (Nat.le_trans h.Ai1.size (hg b hs).1)
 ·intro b hb
  rcases(hS b).1 hb with hs | hs
  ·exact Nat.lt_of_lt_of_le (h.lt b hs) hk.size
  ·exact(hg b hs).2
 ·exact fun b hb=>(hS b).2 (.inl (h.s0 b hb))
 ·intro k bl' hc
  rcases hlook k bl' hc with⟨rfl,_⟩ | ⟨hlt,_⟩
  ·exact Nat.lt_succ_self _
  ·exact Nat.lt_succ_of_lt hlt
 ·intro k bl' g hc hg'
  rcases hlook k bl' hc with⟨rfl,rfl⟩ | ⟨hlt,hc'⟩
  ·exact Nat.le_trans h.Ai1.size (hg g hg').1
  ·rw[Ad7 hag hlt] at hg'
   exact h.fresh k bl' g hc' hg'
 ·refine⟨Nat.le_succ _,rfl,[],rfl,fun k hk _=>?_⟩
  simp only[Ac4,Ab4]
  rw[if_neg (by omega)]
theorem Run.set {st:SS} {W Wa Wa':PW} {β:Nat→Nat} {σ:Nat→Value} {a:Act} (h:Run W0 M st W β σ a Wa) {k:Nat} {old bl:Blk} (hold:look st.C k=some old)
  (hk:Am7 (fun b=>Ab8 β σ k old=some b) Wa.w Wa'.w) (hS1: ∀b,Wa'.S b→Wa.S b) (hS2: ∀b,Wa.S b→¬Ab8 β σ k old=some b→Wa'.S b)
  (hb:Cm9 β σ Wa' k bl) (hg: ∀g,Ab8 β σ k bl=some g→Ab8 β σ k old=some g):
  Run W0 M (Af0 st k bl) W β σ a Wa'∧Ah1 st (Af0 st k bl):=by
 have hlook: ∀i bl',look (Af0 st k bl).C i=some bl'→(i=k∧bl'=bl)∨(i≠k∧look st.C i=some bl'):=by
  intro i bl' hc
  simp only[Af0,Ab4] at hc
  split at hc
  ·rename_i he;exact .inl ⟨he.symm,(Option.some.inj hc).symm⟩
  ·rename_i hne;exact .inr ⟨fun e=>hne e.symm,hc⟩
 have hS0: ∀g,Ab8 β σ k old=some g→¬W0.S g:=fun g e hs=>by have:=h.b0 g hs;have:=h.fresh k old g hold e;omega
 refine⟨⟨⟨h.rel.defers,h.rel.size,h.rel.T,fun i bl' hc=>?_,?_,h.rel.dom⟩,?_,?_,?_,?_,?_,h.b0,?_,?_⟩,?_⟩
 ·rcases hlook i bl' hc with⟨rfl,rfl⟩ | ⟨hne,hc'⟩
  ·exact hb
  ·refine(h.rel.C i bl' hc').same (n:=i+1) (fun _ _=>⟨rfl,rfl⟩) (Nat.lt_succ_self i) fun g hg'=>?_
   have hs:=Ca6 (h.rel.C i bl' hc') hg'
   have hno:¬Ab8 β σ k old=some g:=fun e=>h.rel.inj i k bl' old g hne hc' hold hg' e
   exact⟨hk.block g (h.lt g hs) hno,hS2 g hs hno⟩
 ·intro i i' b1 b2 g hne h1 h2 hg1 hg2
  rcases hlook i b1 h1 with⟨rfl,rfl⟩ | ⟨hn1,hc1⟩<;>rcases hlook i' b2 h2 with⟨rfl,rfl⟩ | ⟨hn2,hc2⟩
  ·exact hne rfl
  ·exact h.rel.inj i i' old b2 g hne hold hc2 (hg g hg1) hg2
  ·exact h.rel.inj i i' b1 old g hne hc1 hold hg1 (hg g hg2)
  ·exact h.rel.inj i i' b1 b2 g hne hc1 hc2 hg1 hg2
 ·refine h.ext.trans ⟨hk.size,fun b hb1 hb2=>⟨hk.block b hb1 fun e=>hb2 (Ca6 (h.rel.C k old hold) e),fun hs=>hb2 (hS1 b hs)⟩⟩
 ·exact h.Ai1.then hk fun i hi=>.inr (h.fresh k old i hold hi)
 ·exact fun b hb=>h.priv b (hS1 b hb)
 ·exact fun b hb=>Nat.lt_of_lt_of_le (h.lt b (hS1 b hb)) hk.size
 ·exact fun b hb=>hS2 b (h.s0 b hb) fun e=>hS0 b e hb
 ·intro i bl' hc
  rcases hlook i bl' hc with⟨rfl,_⟩ | ⟨_,hc'⟩
  ·exact h.nC _ _ hold
  ·exact h.nC _ _ hc'
 ·intro i bl' g hc hg'
  rcases hlook i bl' hc with⟨rfl,rfl⟩ | ⟨_,hc'⟩
  ·exact h.fresh i old g hold (hg g hg')
  ·exact h.fresh i bl' g hc' hg'
 ·refine⟨Nat.le_refl _,rfl,[k],rfl,fun i hi hn=>?_⟩
  simp only[Af0,Ab4]
  rw[if_neg (by simpa using fun e=>hn (by simp[e]))]
end Go.SX
/- The symbolic evaluator: effects are sound. -/
namespace Go.SX
variable {P:Program} {tt:List (Nat×TyI)} {W0:PW} {M:Nat→Prop}
theorem Own.Er0 {W:PW} {t:TypeId} {sz:Nat} {v:Value} {xs:List (List Value)} (h:Ai0 W.w t sz v xs) (hS: ∀g,v.ownBlock=some g→¬W.S g): ∃s:Sl,v=s.v∧Own W t sz s xs:=by
 obtain⟨hl,ho⟩:=h
 rcases ho.2 with⟨rfl,h0⟩ | ⟨g,cap,cur,rfl,hr⟩
 ·exact⟨⟨none,0,0⟩,rfl,⟨hl,ho⟩,hS⟩
 ·exact⟨⟨_,_,_⟩,rfl,⟨hl,ho⟩,hS⟩
theorem Cw9 {k:Nat} {st:SS} {W Wa:PW} {β:Nat→Nat} {σ:Nat→Value} {a:Act} {K:Value→SS→PW→Prop} (h:pub W0 k st W K) (hR:Run W0 M st W β σ a Wa):
  ∃v st' W' Wa',K v st' W'∧σ k=v∧Wa'.w=Wa.w∧Run W0 M st' W' β σ a Wa'∧st'.T=st.T∧Ah1 st st':=by
 unfold pub at h
 split at h
 ·rename_i t sz xs hC
  obtain⟨hO,hS⟩:=hR.rel.C _ _ hC
  have hr:=Run.set (Wa':=⟨Wa.w,fun b=>Wa.S b∧¬(σ k).ownBlock=some b⟩) (bl:=.pub (σ k)) hR hC (Am7.refl _ _) (fun b hb=>hb.1) (fun b hb hn=>⟨hb,by simpa[Ab8] using hn⟩) rfl (by simp[Ab8])
  obtain⟨s,hs,hown⟩:=Own.Er0 (W:=⟨Wa.w,fun b=>Wa.S b∧¬(σ k).ownBlock=some b⟩) hO (fun g hg hn=>hn.2 hg)
  refine⟨s.v,_,_,⟨Wa.w,fun b=>Wa.S b∧¬(σ k).ownBlock=some b⟩,h s _ hr.1.ext hown (fun g hg=>?_),hs,rfl,?_,rfl,?_⟩
  ·refine⟨hR.fresh k _ g hC (by simpa[Ab8,hs] using hg),fun hlt=>Classical.byContradiction fun hn=>(hR.ext.Ai1 g hlt hn).2 (hS g (by rw[hs];exact hg))⟩
  ·have:=hr.1.here
   rw[hs] at this
   rw[hs]
   exact this
  ·have:=hr.2
   rw[hs] at this
   exact this
 ·rename_i x hC
  exact⟨x,st,W,Wa,h,hR.rel.C _ _ hC,rfl,hR,rfl,Ah1.refl _⟩
 ·exact h.elim
def Ax6 (st:SS) (β:Nat→Nat) (σ:Nat→Value) (g:Nat):Prop:=∀k bl,look st.C k=some bl→Ab8 β σ k bl≠some g
theorem Es3 {l:List Value} (h:Fn3 l=true): ∀u∈l,u.oneCell'=true:=fun u hu=>List.all_eq_true.1 h u hu
theorem Cb2 (cs:List Value):(cs.map fun c=>[c]).flatten=cs:=by
 induction cs with
 | nil=>rfl
 | cons c r ih=>simp[ih]
theorem Ce5 {k n:Nat} {st:SS} {W Wa:PW} {β:Nat→Nat} {σ:Nat→Value} {a:Act} {K:Value→SS→PW→Prop} (h:Fs3 W0 k n st W K) (hR:Run W0 M st W β σ a Wa):
  ∃v st' W' Wa',K v st' W'∧SV.val β σ (.bs k n)=v∧Wa'.w=Wa.w∧Run W0 M st' W' β σ a Wa'∧st'.T=st.T∧Ah1 st st'∧∀g,Ax6 st β σ g→Wa.S g→Ax6 st' β σ g∧Wa'.S g:=by
 unfold Fs3 at h
 split at h
 ·rename_i cs hC
  split at h
  ·rename_i hb1 hb2
   obtain rfl:=Nat.eq_of_beq_eq_true hb1
   simp only[Bool.and_eq_true] at hb2
   obtain⟨⟨hb2,hb3⟩,hb4⟩:=hb2
   have hb2:1≤cs.length:=Nat.le_of_ble_eq_true hb2
   have hb3:cs.length≤1000:=Nat.le_of_ble_eq_true hb3
   obtain⟨⟨t,hh⟩,hS⟩:=hR.rel.C _ _ hC
   have hr:=Run.set (Wa':=⟨Wa.w,fun b=>Wa.S b∧¬b=β k⟩) (bl:=.dead) hR hC (Am7.refl _ _) (fun b hb=>hb.1) (fun b hb hn=>⟨hb,fun e=>hn (by simp[Ab8,e])⟩) trivial (by simp[Ab8])
   have hrow:Row ⟨Wa.w,fun b=>Wa.S b∧¬b=β k⟩ t 1 ⟨some ⟨β k,0,none⟩,cs.length,cs.length⟩ (cs.map fun c=>[c]):=by
    refine⟨by simp,Nat.le_refl _,by show cs.length≤_;simp only[maxLen];omega,fun x hx=>?_,.inr ⟨β k,0,cs.toArray,(0,0),rfl,fun h=>h.2 rfl,hh,fun j v hj=>?_⟩⟩
    ·obtain⟨c,hc,rfl⟩:=List.mem_map.1 hx
     exact⟨rfl,fun u hu=>by rw[List.mem_singleton.1 hu];exact Es3 hb4 c hc⟩
    ·rw[Cb2] at hj
     simpa using hj
   refine⟨_,_,_,⟨Wa.w,fun b=>Wa.S b∧¬b=β k⟩,h ⟨some ⟨β k,0,none⟩,cs.length,cs.length⟩ _ hr.1.ext ⟨t,hrow⟩ (fun g hg=>?_),rfl,rfl,hr.1.here,rfl,hr.2,fun g h1 h2=>⟨?_,h2,?_⟩⟩
   ·have hg:β k=g:=by simpa[Value.ownBlock] using hg
    subst hg
    exact⟨hR.fresh k _ _ hC rfl,fun hlt=>Classical.byContradiction fun hn=>(hR.ext.Ai1 _ hlt hn).2 hS⟩
   ·intro i bl hc
    simp only[Af0,Ab4] at hc
    split at hc
    ·obtain rfl:=Option.some.inj hc
     simp[Ab8]
    ·exact h1 i bl hc
   ·rintro rfl
    exact h1 k _ hC rfl
  ·exact h.elim
 ·exact h.elim
theorem Il5 {k:Nat} {st:SS} {W Wa:PW} {β:Nat→Nat} {σ:Nat→Value} {a:Act} {K:Value→SS→PW→Prop} (h:Jd4 W0 k st W K) (hR:Run W0 M st W β σ a Wa):
  ∃v st' W' Wa',K v st' W'∧SV.val β σ (.p k 0)=v∧Wa'.w=Wa.w∧Run W0 M st' W' β σ a Wa'∧st'.T=st.T∧Ah1 st st'∧∀g,Ax6 st β σ g→Wa.S g→Ax6 st' β σ g∧Wa'.S g:=by
 unfold Jd4 at h
 split at h
 ·rename_i cs hC
  obtain⟨⟨t,hh⟩,hS⟩:=hR.rel.C _ _ hC
  have hr:=Run.set (Wa':=⟨Wa.w,fun b=>Wa.S b∧¬b=β k⟩) (bl:=.pbx (some ⟨β k,0,none⟩)) hR hC (Am7.refl _ _) (fun b hb=>hb.1) (fun b hb hn=>⟨hb,fun e=>hn (by simp[Ab8,e])⟩) rfl (by simp[Ab8])
  have hel:Aa7 ⟨Wa.w,fun b=>Wa.S b∧¬b=β k⟩ ⟨some ⟨β k,0,none⟩,1,1⟩ 1 0 0 cs:=⟨β k,0,cs.toArray,t,(0,0),rfl,fun h=>h.2 rfl,hh,fun j v hj=>by simpa using hj⟩
  refine⟨_,_,_,⟨Wa.w,fun b=>Wa.S b∧¬b=β k⟩,h (some ⟨β k,0,none⟩) _ hr.1.ext hel (fun g hg=>?_),rfl,rfl,hr.1.here,rfl,hr.2,fun g h1 h2=>⟨?_,h2,?_⟩⟩
  ·have hg:β k=g:=by simpa[Value.ownBlock] using hg
   subst hg
   exact⟨hR.fresh k _ _ hC rfl,fun hlt=>Classical.byContradiction fun hn=>(hR.ext.Ai1 _ hlt hn).2 hS⟩
  ·intro i bl hc
   simp only[Af0,Ab4] at hc
   split at hc
   ·obtain rfl:=Option.some.inj hc
    simp[Ab8]
   ·exact h1 i bl hc
  ·rintro rfl
   exact h1 k _ hC rfl
 ·rename_i r hC
  have hr:r=some ⟨β k,0,none⟩:=hR.rel.C _ _ hC
  exact⟨_,st,W,Wa,h,by rw[hr];rfl,rfl,hR,rfl,Ah1.refl _,fun g h1 h2=>⟨h1,h2⟩⟩
 ·exact h.elim
theorem Ah3 {x:Operand} {st:SS} {W Wa:PW} {β:Nat→Nat} {σ:Nat→Value} {a:Act} {K:Value→SS→PW→Prop} (h:evP W0 x st W K) (hR:Run W0 M st W β σ a Wa):
  ∃v st' W' Wa',K v st' W'∧a.eval x=v∧Wa'.w=Wa.w∧Run W0 M st' W' β σ a Wa'∧st'.T=st.T∧Ah1 st st':=by
 obtain⟨s,hs,h1⟩:=Ac8 (W:=W) h
 have he:=(h1 β σ a Wa hR.rel hR.ext).1
 have plain: ∀{s},toV st s (fun v=>K v st W)→a.eval x=s.val β σ→∃v st' W' Wa',K v st' W'∧a.eval x=v∧Wa'.w=Wa.w∧Run W0 M st' W' β σ a Wa'∧st'.T=st.T∧Ah1 st st':=by
  intro s hs he
  obtain⟨v,hv,h2⟩:=Av9 (W:=W) hs
  exact⟨v,st,W,Wa,hv,he.trans (h2 β σ a Wa hR.rel hR.ext),rfl,hR,rfl,Ah1.refl _⟩
 cases s with
 | o k=>
  obtain⟨v,st',W',Wa',hK,hv,hrest⟩:=Cw9 hs hR
  exact⟨v,st',W',Wa',hK,he.trans hv,hrest⟩
 | bs k n=>
  obtain⟨v,st',W',Wa',hK,hv,h1,h2,h3,h4,_⟩:=Ce5 hs hR
  exact⟨v,st',W',Wa',hK,he.trans hv,h1,h2,h3,h4⟩
 | p k off=>
  cases off with
  | zero=>
   obtain⟨v,st',W',Wa',hK,hv,h1,h2,h3,h4,_⟩:=Il5 hs hR
   exact⟨v,st',W',Wa',hK,he.trans hv,h1,h2,h3,h4⟩
  | succ off=>exact hs.elim
 | _=>exact plain hs he
theorem Bh0: ∀{l:List Operand} {st:SS} {W Wa:PW} {β:Nat→Nat} {σ:Nat→Value} {a:Act} {K:List Value→SS→PW→Prop} (_:Fh7 W0 l st W K) (_:Run W0 M st W β σ a Wa),
  ∃vs st' W' Wa',K vs st' W'∧l.map a.eval=vs∧Wa'.w=Wa.w∧Run W0 M st' W' β σ a Wa'∧st'.T=st.T∧Ah1 st st'
 | [],st,W,Wa,β,σ,a,K,h,hR=>⟨[],st,W,Wa,h,rfl,rfl,hR,rfl,Ah1.refl _⟩
 | x :: r,st,W,Wa,β,σ,a,K,h,hR=>by
  obtain⟨v,st1,W1,Wa1,h1,he,hw,hR1,hT,hD⟩:=Ah3 h hR
  obtain⟨vs,st2,W2,Wa2,h2,he2,hw2,hR2,hT2,hD2⟩:=Bh0 (l:=r) h1 hR1
  exact⟨v :: vs,st2,W2,Wa2,h2,by simp[he,he2],hw2.trans hw,hR2,hT2.trans hT,hD.trans hD2⟩
theorem Ax6.set {st:SS} {β:Nat→Nat} {σ:Nat→Value} {g k:Nat} {bl:Blk} (h:Ax6 st β σ g) (hb:Ab8 β σ k bl≠some g):Ax6 (Af0 st k bl) β σ g:=by
 intro i bl' hc
 simp only[Af0,Ab4] at hc
 split at hc
 ·rename_i he;subst he;obtain rfl:=Option.some.inj hc;exact hb
 ·exact h i bl' hc
theorem Cd7 {x:Operand} {st:SS} {W Wa:PW} {β:Nat→Nat} {σ:Nat→Value} {a:Act} {K:Value→SS→PW→Prop} (h:evP W0 x st W K) (hR:Run W0 M st W β σ a Wa):
  ∃v st' W' Wa',K v st' W'∧a.eval x=v∧Wa'.w=Wa.w∧Run W0 M st' W' β σ a Wa'∧st'.T=st.T∧Ah1 st st'∧(∀g,Ax6 st β σ g→Wa.S g→Ax6 st' β σ g∧Wa'.S g):=by
 obtain⟨s,hs,h1⟩:=Ac8 (W:=W) h
 have he:=(h1 β σ a Wa hR.rel hR.ext).1
 have plain: ∀{s},toV st s (fun v=>K v st W)→a.eval x=s.val β σ→∃v st' W' Wa',K v st' W'∧a.eval x=v∧Wa'.w=Wa.w∧Run W0 M st' W' β σ a Wa'∧st'.T=st.T∧Ah1 st st'∧(∀g,Ax6 st β σ g→Wa.S g→Ax6 st' β σ g∧Wa'.S g):=by
  intro s hs he
  obtain⟨v,hv,h2⟩:=Av9 (W:=W) hs
  exact⟨v,st,W,Wa,hv,he.trans (h2 β σ a Wa hR.rel hR.ext),rfl,hR,rfl,Ah1.refl _,fun g h1 h2=>⟨h1,h2⟩⟩
 cases s with
 | o k=>
  simp only[pub] at hs
  split at hs
  ·rename_i t sz xs hC
   obtain⟨hO,hS⟩:=hR.rel.C _ _ hC
   have hr:=Run.set (Wa':=⟨Wa.w,fun b=>Wa.S b∧¬(σ k).ownBlock=some b⟩) (bl:=.pub (σ k)) hR hC (Am7.refl _ _) (fun b hb=>hb.1) (fun b hb hn=>⟨hb,by simpa[Ab8] using hn⟩) rfl (by simp[Ab8])
   obtain⟨s,hs',hown⟩:=Own.Er0 (W:=⟨Wa.w,fun b=>Wa.S b∧¬(σ k).ownBlock=some b⟩) hO (fun g hg hn=>hn.2 hg)
   have hr1:=hr.1.here
   have hr2:=hr.2
   have hr3:=hr.1.ext
   have hfree: ∀g,Ax6 st β σ g→Wa.S g→Ax6 (Af0 st k (.pub (σ k))) β σ g∧(Wa.S g∧¬(σ k).ownBlock=some g):=fun g h1 h2=>⟨h1.set (by simp[Ab8]),h2,fun e=>h1 k _ hC (by simpa[Ab8] using e)⟩
   have hfr: ∀g,(σ k).ownBlock=some g→W0.w.heap.size≤g∧(g<W.w.heap.size→W.S g):=fun g hg=>⟨hR.fresh k (.row t sz xs) g hC (by simpa[Ab8] using hg),fun hlt=>Classical.byContradiction fun hn=>(hR.ext.Ai1 g hlt hn).2 (hS g hg)⟩
   rw[hs'] at hr1 hr2 hr3 hown hfree hfr
   exact⟨s.v,_,_,⟨Wa.w,fun b=>Wa.S b∧¬s.v.ownBlock=some b⟩,hs s _ hr3 hown (fun g hg=>hfr g hg),he.trans hs',rfl,hr1,rfl,hr2,hfree⟩
  ·rename_i x' hC
   exact⟨x',st,W,Wa,hs,he.trans (hR.rel.C _ _ hC),rfl,hR,rfl,Ah1.refl _,fun g h1 h2=>⟨h1,h2⟩⟩
  ·exact hs.elim
 | bs k n=>
  obtain⟨v,st',W',Wa',hK,hv,h1,h2,h3,h4,h5⟩:=Ce5 hs hR
  exact⟨v,st',W',Wa',hK,he.trans hv,h1,h2,h3,h4,h5⟩
 | p k off=>
  cases off with
  | zero=>
   obtain⟨v,st',W',Wa',hK,hv,h1,h2,h3,h4,h5⟩:=Il5 hs hR
   exact⟨v,st',W',Wa',hK,he.trans hv,h1,h2,h3,h4,h5⟩
  | succ off=>exact hs.elim
 | _=>exact plain hs he
theorem Bb3: ∀{l:List Operand} {st:SS} {W Wa:PW} {β:Nat→Nat} {σ:Nat→Value} {a:Act} {K:List Value→SS→PW→Prop} (_:Fh7 W0 l st W K) (_:Run W0 M st W β σ a Wa),
  ∃vs st' W' Wa',K vs st' W'∧l.map a.eval=vs∧Wa'.w=Wa.w∧Run W0 M st' W' β σ a Wa'∧st'.T=st.T∧Ah1 st st'∧∀g,Ax6 st β σ g→Wa.S g→Ax6 st' β σ g∧Wa'.S g
 | [],st,W,Wa,β,σ,a,K,h,hR=>⟨[],st,W,Wa,h,rfl,rfl,hR,rfl,Ah1.refl _,fun _ h1 h2=>⟨h1,h2⟩⟩
 | x :: r,st,W,Wa,β,σ,a,K,h,hR=>by
  obtain⟨v,st1,W1,Wa1,h1,he,hw,hR1,hT,hD,hF⟩:=Cd7 h hR
  obtain⟨vs,st2,W2,Wa2,h2,he2,hw2,hR2,hT2,hD2,hF2⟩:=Bb3 (l:=r) h1 hR1
  exact⟨v :: vs,st2,W2,Wa2,h2,by simp[he,he2],hw2.trans hw,hR2,hT2.trans hT,hD.trans hD2,fun g g1 g2=>let k:=hF g g1 g2;hF2 g k.1 k.2⟩
def Res (W0:PW) (M:Nat→Prop) (st:SS) (β:Nat→Nat) (σ:Nat→Value) (a:Act) (o:Oper) (K:SV→SS→PW→Prop) (a':Act) (w':World):Prop:=
 ∃s β' σ' st' W' Wa',Wa'.w=w'∧a'=a.put o.dst (s.val β' σ')∧Run W0 M st' W' β' σ' a Wa'∧Az7 st'.nx β' σ' s∧st'.T=st.T∧K s st' W'∧Ah1 st st'∧∀k,k<st.nx→β' k=β k∧σ' k=σ k
def Az0 (P:Program) (W0:PW) (M:Nat→Prop) (st:SS) (W:PW) (o:Oper) (K:SV→SS→PW→Prop):Prop:=
 ∀β σ a Wa Q,Run W0 M st W β σ a Wa→o.wp P a Wa.w (Res W0 M st β σ a o K) Q
theorem Ae1 {o:Oper} {a:Act} {w w':World} {v:Value} {next:Act→World→Prop} {Q:Exit→Act→World→Prop} (h:(execOp a.eval o).run P w = .ok (.value v) w') (hn:next (a.put o.dst v) w'):o.wp P a w next Q:=by
 unfold Oper.wp
 rw[h]
 exact hn
theorem Ay3 {o:Oper} {a:Act} {w w':World} {next:Act→World→Prop} {Q:Exit→Act→World→Prop} (h:(execOp a.eval o).run P w = .ok .skip w') (hn:next (a.put o.dst undef) w'):o.wp P a w next Q:=by
 unfold Oper.wp
 rw[h]
 exact hn
theorem Ab2 {β:Nat→Nat} {σ:Nat→Value} {n:Nat} : ∀k,k<n→β k=β k∧σ k=σ k:=fun _ _=>⟨rfl,rfl⟩
end Go.SX
/- The symbolic evaluator: effects are sound, one by one. -/
namespace Go.SX
variable {P:Program} {tt:List (Nat×TyI)} {W0:PW} {M:Nat→Prop}
theorem Al5: ∀(l cs:List Value) (o:Nat),o+l.length≤cs.length→Aj6 cs o l=cs.take o ++ l ++ cs.drop (o+l.length)
 | [],cs,o,_=>by simp[Aj6]
 | x :: r,cs,o,h=>by
  simp only[List.length_cons] at h
  rw[Aj6,Al5 r _ _ (by simp;omega)]
  have hlt:o<cs.length:=by omega
  rw[List.set_eq_take_append_cons_drop,if_pos hlt]
  have e1:(List.take o cs ++ x :: List.drop (o+1) cs).take o.succ=cs.take o ++ [x]:=by
   rw[List.take_append,List.length_take]
   have:List.take (o+1) (List.take o cs)=List.take o cs:=List.take_of_length_le (by simp;omega)
   simp[show min o cs.length=o by omega,this]
  have e2:(List.take o cs ++ x :: List.drop (o+1) cs).drop (o.succ+r.length)=cs.drop (o+(x :: r).length):=by
   rw[List.drop_append,List.length_take,show min o cs.length=o by omega,List.drop_of_length_le (by simp;omega)]
   simp only[List.nil_append,List.length_cons]
   rw[show o.succ+r.length-o=r.length+1 by omega,List.drop_succ_cons,List.drop_drop]
   congr 1
   omega
  rw[e1,e2]
  simp
theorem Bd5 {l:List Value} (h:Ed1 l=true): ∀u∈l,u.oneCell'=true:=List.all_eq_true.1 h
theorem Ap5 {sz:Nat} : ∀{xs:List (List Value)} (_: ∀x∈xs,x.length=sz) {i:Nat} (_:i<xs.length) {l:List Value} (_:l.length=sz),(xs.set i l).flatten=Aj6 xs.flatten (i*sz) l
 | [],_,i,h,_,_=>by simp at h
 | x :: r,hl,0,_,l,h=>by
  rw[Al5 _ _ _ (by simp[h,hl x (by simp)])]
  simp[h,hl x (by simp)]
 | x :: r,hl,i+1,hi,l,h=>by
  have hx:=hl x (by simp)
  have hr: ∀y∈r,y.length=sz:=fun y hy=>hl y (by simp[hy])
  have hi':i<r.length:=by simpa using hi
  have hlen:r.flatten.length=r.length*sz:=by
   clear hi hi' hl h
   induction r with
   | nil=>simp
   | cons y r ih=>simp only[List.flatten_cons,List.length_append,List.length_cons,ih (fun z hz=>hr z (by simp[hz])),hr y (by simp),Nat.add_mul];omega
  have hle:i*sz+sz≤r.flatten.length:=by rw[hlen,←Nat.succ_mul];exact Nat.mul_le_mul_right _ hi'
  simp only[List.set_cons_succ,List.flatten_cons,Ap5 hr hi' h]
  rw[Al5 _ _ _ (by omega),Al5 _ _ _ (by simp only[List.length_append,hx,h,Nat.add_mul];omega)]
  have h1:List.take ((i+1)*sz) x=x:=List.take_of_length_le (by rw[hx,Nat.add_mul];omega)
  have h2:List.drop ((i+1)*sz+l.length) x = []:=List.drop_of_length_le (by rw[hx,Nat.add_mul];omega)
  rw[List.take_append,List.drop_append,h1,h2,hx,show(i+1)*sz-sz=i*sz by rw[Nat.add_mul];omega,show(i+1)*sz+l.length-sz=i*sz+l.length by rw[Nat.add_mul];omega]
  simp
theorem Ac0 {sz:Nat} {xs:List (List Value)} (h: ∀x∈xs,x.length=sz):xs.flatten.length=xs.length*sz:=by
 induction xs with
 | nil=>simp
 | cons y r ih=>simp only[List.flatten_cons,List.length_append,List.length_cons,ih (fun z hz=>h z (by simp[hz])),h y (by simp),Nat.add_mul];omega
theorem Fk5 {α:Type} (n:Nat) (x:α):rep n x=List.replicate n x:=by
 induction n with
 | zero=>rfl
 | succ n ih=>simp[rep,ih,List.replicate_succ]
theorem Dc3 (z:Array Value) (n:Nat) (hz:0<z.size):(madeCells z (n*z.size)).toList=(List.replicate n z.toList).flatten:=by
 have hl: ∀x∈List.replicate n z.toList,x.length=z.size:=by intro x hx;rw[List.eq_of_mem_replicate hx];simp
 apply List.ext_getElem?
 intro j
 by_cases hj:j<n*z.size
 ·have hq:j/z.size<n:=Nat.div_lt_of_lt_mul (by rw[Nat.mul_comm];exact hj)
  have hr:j%z.size<z.size:=Nat.mod_lt _ hz
  have hf:=Ao8 hl (i:=j/z.size) (x:=z.toList) (by simp[hq]) (j:=j%z.size) (v:=z[j%z.size]) (by simp[hr])
  rw[show j/z.size*z.size+j%z.size=j by rw[Nat.mul_comm];exact Nat.div_add_mod _ _] at hf
  rw[hf]
  simp[madeCells,hj,hr]
 ·rw[List.getElem?_eq_none (by simp[size_madeCells];omega),List.getElem?_eq_none (by rw[Ac0 hl];simp;omega)]
section
variable {st:SS} {W:PW} {o:Oper} {K:SV→SS→PW→Prop}
theorem Ek0 (hT:Ac6 P tt) (hF:Ae7 tt) (h:fl tt st W o.op fun s=>K s st W):Az0 P W0 M st W o K:=by
 intro β σ a Wa Q hR
 obtain⟨s,hK,h1⟩:=Bo1 hT hF h
 obtain⟨hr,hok⟩:=h1 β σ a Wa hR.rel hR.ext
 exact Ae1 hr ⟨s,β,σ,st,W,Wa,rfl,rfl,hR,hok,rfl,hK,Ah1.refl _,Ab2⟩
theorem Res.of {β:Nat→Nat} {σ:Nat→Value} {a:Act} {st1:SS} {a':Act} {w':World} (hT:st1.T=st.T) (hD:Ah1 st st1) (h:Res W0 M st1 β σ a o K a' w'):Res W0 M st β σ a o K a' w':=by
 obtain⟨s,β',σ',st',W',Wa',h1,h2,h3,h4,h5,h6,h7,h8⟩:=h
 exact⟨s,β',σ',st',W',Wa',h1,h2,h3,h4,h5.trans hT,h6,hD.trans h7,fun k hk=>h8 k (Nat.lt_of_lt_of_le hk hD.nx)⟩
theorem Di7 {Wa:PW} {β:Nat→Nat} {σ:Nat→Value} {a:Act} (hR:Run W0 M st W β σ a Wa) (cs:List Value) (t:TypeId):
  let Wa':PW:=⟨Wa.w.alloc (.cells cs.toArray t),fun b=>Wa.S b∨b=Wa.w.heap.size⟩
  Run W0 M (Ac4 st (.box cs)) W (upd β st.nx Wa.w.heap.size) (upd σ st.nx undef) a Wa'∧Ah1 st (Ac4 st (.box cs))∧
   (∀k,k<st.nx→upd β st.nx Wa.w.heap.size k=β k∧upd σ st.nx undef k=σ k):=by
 refine Run.new hR (Am7.alloc _ _ _) (fun b=>?_) ?_ ?_
 ·simp[Ab8,upd,eq_comm]
 ·refine⟨⟨t,?_⟩,?_⟩
  ·simp only[upd,if_true];exact heap_alloc_new _ _
  ·simp[upd]
 ·intro g hg
  simp only[Ab8,upd,if_true,Option.some.injEq] at hg
  subst hg
  simp
theorem Ei7 {Wa:PW} {β:Nat→Nat} {σ:Nat→Value} {a:Act} (hR:Run W0 M st W β σ a Wa) {e sz:Nat} {xs:List (List Value)} {cs:Array Value} {n:Nat} (hl: ∀x∈xs,x.length=sz∧∀u∈x,u.oneCell'=true)
  (hn:xs.length=n) (hm:n≤maxLen) (hc:cs.toList=xs.flatten):
  let v:=Value.slice (some ⟨Wa.w.heap.size,0,none⟩) n n
  let Wa':PW:=⟨Wa.w.alloc (.cells cs e),fun b=>Wa.S b∨b=Wa.w.heap.size⟩
  Run W0 M (Ac4 st (.row e sz xs)) W (upd β st.nx 0) (upd σ st.nx v) a Wa'∧Ah1 st (Ac4 st (.row e sz xs))∧(∀k,k<st.nx→upd β st.nx 0 k=β k∧upd σ st.nx v k=σ k):=by
 have hsz:cs.size=n*sz:=by
  rw[←Array.length_toList,hc,Ac0 (fun x hx=>(hl x hx).1),hn]
 refine Run.new hR (Am7.alloc _ _ _) (fun b=>?_) ?_ ?_
 ·simp[Ab8,upd,Value.ownBlock,eq_comm]
 ·refine⟨⟨hl,?_⟩,?_⟩
  ·simp only[upd,if_true]
   refine⟨Ac0 (fun x hx=>(hl x hx).1),.inr ⟨Wa.w.heap.size,n,cs,by rw[hn],Nat.zero_le _,heap_alloc_new _ _,by omega,hm,hsz,?_⟩⟩
   rw[hc,List.take_of_length_le]
   rw[Ac0 (fun x hx=>(hl x hx).1)]
   omega
  ·intro g hg
   simp only[upd,if_true,Value.ownBlock,Option.some.injEq] at hg
   exact .inr hg.symm
 ·intro g hg
  simp only[Ab8,upd,if_true,Value.ownBlock,Option.some.injEq] at hg
  subst hg
  simp
theorem Ef5 (hT:Ac6 P tt) {t:TypeId} {i:TyI} (ho:o.op = .alloc t) (hi:look tt t=some i) (h:K (.p st.nx 0) (Ac4 st (.box i.zv.cells.toList)) W):Az0 P W0 M st W o K:=by
 intro β σ a Wa Q hR
 have hg:=hT.Aq3 hi
 obtain⟨h1,h2,h3⟩:=Di7 hR i.zv.cells.toList t
 refine Ae1 (v:=.pointer (some ⟨Wa.w.heap.size,0,none⟩)) ?_ ⟨.p st.nx 0,_,_,_,W,_,rfl,?_,h1,Nat.lt_succ_self _,rfl,h,h2,h3⟩
 ·simp[execOp,ho,Instr.alloc,hg.zero,newVar,newRow]
 ·simp[SV.val,upd]
theorem Fg1 {t:TypeId} {x:Operand} (ho:o.op = .box t x) (h:evP W0 x st W fun v st W=>K (.p st.nx 0) (Ac4 st (.box (Ac7 v))) W):Az0 P W0 M st W o K:=by
 intro β σ a Wa Q hR
 obtain⟨v,st1,W1,Wa1,hK,he,hw,hR1,hT1,hD1⟩:=Ah3 h hR
 obtain⟨h1,h2,h3⟩:=Di7 hR1 (Ac7 v) t
 have hc:(Ac7 v).toArray=v.cells:=by apply Array.ext';simp[Av1]
 rw[hc,hw] at h1
 refine Ae1 (v:=.pointer (some ⟨Wa.w.heap.size,0,none⟩)) ?_ (Res.of hT1 hD1 ⟨.p st1.nx 0,_,_,_,W1,_,rfl,?_,h1,Nat.lt_succ_self _,rfl,hK,h2,by rw[hw] at h3;exact h3⟩)
 ·simp[execOp,ho,he,Instr.box,newVar,newRow]
 ·simp[SV.val,upd]
theorem Ep5 (hT:Ac6 P tt) (hF:Ae7 tt) {t:TypeId} {parts:Array (Nat×Operand)} {i:TyI} (ho:o.op = .build t parts) (hi:look tt t=some i) (hagg:i.agg=true)
  (h:Fh7 W0 (parts.toList.map (·.2)) st W fun _ st W=>Bq2 st (placeOf tt i) parts.toList i.zv.cells.toList fun cs=>K (.v (.agg cs.toArray)) st W):Az0 P W0 M st W o K:=by
 intro β σ a Wa Q hR
 obtain⟨vs,st1,W1,Wa1,hK,he,hw,hR1,hT1,hD1⟩:=Bh0 h hR
 obtain⟨cs,hK2,h1⟩:=Ba6 (W:=W1) hT hF hi hagg hK
 refine Ae1 (v:=.agg cs.toArray) ?_ (Res.of hT1 hD1 ⟨.v (.agg cs.toArray),β,σ,st1,W1,Wa1,hw,rfl,hR1,trivial,rfl,hK2,Ah1.refl _,Ab2⟩)
 have hb:(Instr.build t (parts.map fun(i,x)=>(i,a.eval x))).run P Wa1.w = .ok (.agg cs.toArray) Wa1.w:=h1 β σ a Wa1 hR1.rel hR1.ext
 rw[hw] at hb
 simp[execOp,ho,hb]
theorem Bl4 {sz:Nat} : ∀{parts:List (Nat×Operand)} {xs:List (List Value)} {st:SS} {W Wa:PW} {β:Nat→Nat} {σ:Nat→Value} {a:Act} {K:List (List Value)→SS→PW→Prop} (_:Dq1 W0 sz parts xs st W K) (_:Run W0 M st W β σ a Wa)
  (_: ∀x∈xs,x.length=sz∧∀u∈x,u.oneCell'=true),
  ∃xs' st' W' Wa',K xs' st' W'∧Wa'.w=Wa.w∧Run W0 M st' W' β σ a Wa'∧st'.T=st.T∧Ah1 st st'∧(∀x∈xs',x.length=sz∧∀u∈x,u.oneCell'=true)∧xs'.length=xs.length∧
   Instr.fill (fun i=>some (i*sz,sz)) xs.flatten.toArray (parts.map fun(i,x)=>(i,a.eval x))=some xs'.flatten.toArray
 | [],xs,st,W,Wa,β,σ,a,K,h,hR,hl=>⟨xs,st,W,Wa,h,rfl,hR,rfl,Ah1.refl _,hl,rfl,rfl⟩
 | (i,x) :: r,xs,st,W,Wa,β,σ,a,K,h,hR,hl=>by
  obtain⟨v,st1,W1,Wa1,h1,he,hw,hR1,hT1,hD1⟩:=Ah3 h hR
  split at h1
  ·rename_i hb1 hb2 hb3
   have hs:(Ac7 v).length=sz:=Nat.eq_of_beq_eq_true hb1
   have hlt:i<xs.length:=Nat.le_of_ble_eq_true hb2
   have hone:=Bd5 hb3
   have hl': ∀x∈xs.set i (Ac7 v),x.length=sz∧∀u∈x,u.oneCell'=true:=by
    intro y hy
    rcases List.mem_or_eq_of_mem_set hy with hy | rfl
    ·exact hl y hy
    ·exact⟨hs,hone⟩
   obtain⟨xs',st2,W2,Wa2,h2,hw2,hR2,hT2,hD2,hl2,hlen2,hf2⟩:=Bl4 (parts:=r) h1 hR1 hl'
   refine⟨xs',st2,W2,Wa2,h2,hw2.trans hw,hR2,hT2.trans hT1,hD1.trans hD2,hl2,by simpa using hlen2,?_⟩
   have hfl:=Ac0 (fun x hx=>(hl x hx).1)
   have hle:i*sz+sz≤xs.flatten.length:=by rw[hfl,←Nat.succ_mul];exact Nat.mul_le_mul_right _ hlt
   simp only[List.map_cons,Instr.fill,he]
   have hcond:¬((decide (v.cells.size≠sz) || decide (i*sz+v.cells.size>xs.flatten.toArray.size))=true):=by
    rw[Bi2,hs]
    simp only[List.size_toArray,ne_eq,not_true_eq_false,decide_false,Bool.false_or,decide_eq_true_eq]
    omega
   rw[if_neg hcond]
   have hf:=Do9 v.cells xs.flatten.toArray (i*sz)
   rw[←hf2]
   congr 1
   apply Array.ext'
   rw[hf,Ap5 (fun x hx=>(hl x hx).1) hlt hs,Av1]
  ·exact h1.elim
theorem Ca0 (hT:Ac6 P tt) {t e len:Nat} {parts:Array (Nat×Operand)} {i j:TyI} (ho:o.op = .buildSlice t len parts) (hi:look tt t=some i) (hu:i.und = .slice e) (hj:look tt e=some j)
  (hb1:len*j.size≤16777216) (hb2:0<j.size) (hb3:Ed1 j.zv.cells.toList=true)
  (h:Dq1 W0 j.size parts.toList (rep len j.zv.cells.toList) st W fun xs st W=>K (.o st.nx) (Ac4 st (.row e j.size xs)) W):Az0 P W0 M st W o K:=by
 intro β σ a Wa Q hR
 obtain⟨_,⟨d,hd,hud⟩,_⟩:=hT.Aq3 hi
 obtain rfl:=Ai6 (hud.trans hu)
 have hgj:=hT.Aq3 hj
 have hzs:j.zv.cells.size=j.size:=hgj.2.2.2.1
 rw[Fk5] at h
 obtain⟨xs,st1,W1,Wa1,hK,hw,hR1,hT1,hD1,hl,hlen,hf⟩:=Bl4 h hR (by
  intro x hx
  rw[List.eq_of_mem_replicate hx]
  exact⟨by simpa using hzs,Bd5 hb3⟩)
 simp only[List.length_replicate] at hlen
 have hmx:len≤maxLen:=by
  have:len*1≤len*j.size:=Nat.mul_le_mul_left _ hb2
  simp only[maxLen];omega
 obtain⟨h1,h2,h3⟩:=Ei7 hR1 (e:=e) (cs:=xs.flatten.toArray) hl hlen hmx (by simp)
 rw[hw] at h1 h3
 refine Ae1 (v:=.slice (some ⟨Wa.w.heap.size,0,none⟩) len len) ?_ (Res.of hT1 hD1 ⟨.o st1.nx,_,_,_,W1,_,rfl,?_,h1,Nat.lt_succ_self _,rfl,hK,h2,h3⟩)
 ·simp only[Array.toList_map] at hf
  have hlim:¬(2^24<len*j.size):=by simpa using hb1
  by_cases h0:len*j.size=0
  ·have hl0:len=0:=by
    rcases Nat.mul_eq_zero.1 h0 with h | h
    ·exact h
    ·omega
   subst hl0
   simp only[List.replicate_zero,List.flatten_nil] at hf
   simp[execOp,ho,Instr.buildSlice,run_underlying hd,hgj.sizeOf,Array.range_zero',hf,newRow]
  ·have hcells:(Array.range (len*j.size)).map (j.zv.cells[· % j.zv.cells.size]!)=(List.replicate len j.zv.cells.toList).flatten.toArray:=by
    have:=Dc3 j.zv.cells len (by omega)
    rw[hzs] at this
    apply Array.ext'
    rw[←this]
    simp[madeCells,hzs]
   simp[execOp,ho,Instr.buildSlice,run_underlying hd,hgj.sizeOf,hlim,h0,hgj.zero,hcells,hf,newRow]
 ·simp[SV.val,upd]
theorem Co1 (hT:Ac6 P tt) {t e:Nat} {l c:Operand} {i j:TyI} (ho:o.op = .makeSlice t l c) (hi:look tt t=some i) (hu:i.und = .slice e) (hj:look tt e=some j)
  (hb1:0<j.size) (hb2:0<j.bytes) (hb3:Ed1 j.zv.cells.toList=true)
  (h:evI st l fun _ n=>evI st c fun _ m=>(m=n∧0≤n∧n*(j.bytes:Int)≤281474976710656)∧K (.o st.nx) (Ac4 st (.row e j.size (List.replicate n.toNat j.zv.cells.toList))) W):Az0 P W0 M st W o K:=by
 intro β σ a Wa Q hR
 obtain⟨_,⟨d,hd,hud⟩,_⟩:=hT.Aq3 hi
 obtain rfl:=Ai6 (hud.trans hu)
 have hgj:=hT.Aq3 hj
 have hzs:j.zv.cells.size=j.size:=hgj.2.2.2.1
 obtain⟨k1,n,h1,e1⟩:=Ag6 (W:=W) h
 obtain⟨k2,m,⟨⟨rfl,h0,hby⟩,hK⟩,e2⟩:=Ag6 (W:=W) h1
 have hm:m.toNat≤maxLen:=by
  have hb:(1:Int)≤j.bytes:=by omega
  have:m*1≤m*(j.bytes:Int):=Int.mul_le_mul_of_nonneg_left hb h0
  simp only[maxLen];omega
 obtain⟨hr1,hr2,hr3⟩:=Ei7 hR (e:=e) (cs:=madeCells j.zv.cells (m.toNat*j.size)) (n:=m.toNat) (xs:=List.replicate m.toNat j.zv.cells.toList) (sz:=j.size)
  (by intro x hx;rw[List.eq_of_mem_replicate hx];exact⟨by simpa using hzs,Bd5 hb3⟩) (by simp) hm (by rw[←hzs];exact Dc3 _ _ (by omega))
 refine Ae1 (v:=.slice (some ⟨Wa.w.heap.size,0,none⟩) m.toNat m.toNat) ?_ ⟨.o st.nx,_,_,_,W,_,rfl,?_,hr1,Nat.lt_succ_self _,rfl,hK,hr2,hr3⟩
 ·obtain⟨⟨inf,hinf,hsz,hbyt,hz⟩,_⟩:=hgj
  have:=run_make (P:=P) Wa.w t e inf j.zv hd hinf hz k1 k2 m m h0 (Int.le_refl _) (by rw[hbyt,Int.mul_comm];exact hby) (by simp only[maxLen] at hm;omega)
  simp[execOp,ho,e1 β σ a Wa hR.rel hR.ext,e2 β σ a Wa hR.rel hR.ext,this,hsz]
 ·simp[SV.val,upd]
end
end Go.SX
