/- Intervals, domains, models in memory. -/
import Derived.Test.YtnlmddaakeigdaaGreatDoorLib4
import Derived.Test.YtnlmddaakeigdaaGreatDoorLib2
set_option linter.unusedVariables false
set_option linter.unusedSimpArgs false
set_option linter.unusedVariables false
namespace Go.SX
theorem cmpQ_lt {a b:Rat} :cmpQ a b<0↔a<b:=by
 unfold cmpQ
 split
 ·simp[*]
 ·split<;>simp_all
theorem cmpQ_gt {a b:Rat} :0<cmpQ a b↔b<a:=by
 unfold cmpQ
 split
 ·grind
 ·split
  ·rename_i h1 h2
   subst h2
   grind
  ·rename_i h1 h2
   constructor
   ·intro _
    exact Rat.not_le.1 fun h=>(Rat.le_iff_lt_or_eq.1 h).elim h1 h2
   ·intro _;omega
theorem cmpQ_ge {a b:Rat} :0≤cmpQ a b↔b≤a:=by rw[←Int.not_lt,cmpQ_lt,Rat.not_lt]
def SpV (tu:TypeId) (W:PW) (l:List Value) (x:Iv):Prop:=∃(s:Sl) (b:Bool) (t s':Sl) (b':Bool) (t':Sl),l = [s.v,.bool b,t.v,s'.v,.bool b',t'.v]∧IsRat tu W s b t x.1∧IsRat tu W s' b' t' x.2
def RSpV (tu:TypeId) (W:PW) (l:List Value) (x:Iv):Prop:=∃(b:Bool) (s t:Sl) (b':Bool) (s' t':Sl),l = [.bool b,s.v,t.v,.bool b',s'.v,t'.v]∧IsRefQ tu W b s t x.1∧IsRefQ tu W b' s' t' x.2
theorem SpV.ext {tu:TypeId} {W W':PW} {l:List Value} {x:Iv} (h:SpV tu W l x) (hE:Ext W W'):SpV tu W' l x:=let⟨s,b,t,s',b',t',e,h1,h2⟩:=h;⟨s,b,t,s',b',t',e,h1.ext hE,h2.ext hE⟩
theorem RSpV.ext {tu:TypeId} {W W':PW} {l:List Value} {x:Iv} (h:RSpV tu W l x) (hE:Ext W W'):RSpV tu W' l x:=let⟨s,b,t,s',b',t',e,h1,h2⟩:=h;⟨s,b,t,s',b',t',e,h1.ext hE,h2.ext hE⟩
theorem SpV.mk {tu:TypeId} {W:PW} {s t s' t':Sl} {b b':Bool} {x:Iv} (h1:IsRat tu W s b t x.1) (h2:IsRat tu W s' b' t' x.2):SpV tu W [s.v,.bool b,t.v,s'.v,.bool b',t'.v] x:=⟨s,b,t,s',b',t',rfl,h1,h2⟩
theorem RSpV.mk {tu:TypeId} {W:PW} {s t s' t':Sl} {b b':Bool} {x:Iv} (h1:IsRefQ tu W b s t x.1) (h2:IsRefQ tu W b' s' t' x.2):RSpV tu W [.bool b,s.v,t.v,.bool b',s'.v,t'.v] x:=⟨b,s,t,b',s',t',rfl,h1,h2⟩
theorem SpV.zero {tu:TypeId} (W:PW):SpV tu W [.slice none 0 0,.bool false,.slice none 0 0,.slice none 0 0,.bool false,.slice none 0 0] (0,0):=⟨⟨none,0,0⟩,false,⟨none,0,0⟩,⟨none,0,0⟩,false,⟨none,0,0⟩,rfl,isRat_zero W,isRat_zero W⟩
theorem RSpV.zero {tu:TypeId} (W:PW):RSpV tu W [.bool false,.slice none 0 0,.slice none 0 0,.bool false,.slice none 0 0,.slice none 0 0] (0,0):=⟨false,⟨none,0,0⟩,⟨none,0,0⟩,false,⟨none,0,0⟩,⟨none,0,0⟩,rfl,isRQ_zero W,isRQ_zero W⟩
def IvS (k:Nat) (x:Iv):Prop:=Sz k x.1∧Sz k x.2
end Go.SX

/- Squares and boxes in memory. -/
set_option linter.unusedVariables false
namespace Go.SX
structure SqP where
 w:Rat
 g:Int
 q:List Tm
def SqX (tu tt:TypeId) (W:PW) (x:List Value) (s:SqP):Prop:=∃(s1:Sl) (b:Bool) (s2 sp:Sl),x = [s1.v,.bool b,s2.v,.int .i64 s.g,sp.v]∧IsRat tu W s1 b s2 s.w∧IsPoly tu tt W sp s.q
def RSqX (tu tt:TypeId) (W:PW) (x:List Value) (s:SqP):Prop:=∃(b:Bool) (s1 s2 sp:Sl),x = [.bool b,s1.v,s2.v,.int .i64 s.g,sp.v]∧IsRefQ tu W b s1 s2 s.w∧IsRPoly tu tt W sp s.q
theorem SqX.ext {tu tt:TypeId} {W W':PW} {x:List Value} {s:SqP} (h:SqX tu tt W x s) (hE:Ext W W'):SqX tu tt W' x s:=let⟨s1,b,s2,sp,e,h1,h2⟩:=h;⟨s1,b,s2,sp,e,h1.ext hE,h2.ext hE⟩
theorem RSqX.ext {tu tt:TypeId} {W W':PW} {x:List Value} {s:SqP} (h:RSqX tu tt W x s) (hE:Ext W W'):RSqX tu tt W' x s:=let⟨s1,b,s2,sp,e,h1,h2⟩:=h;⟨s1,b,s2,sp,e,h1.ext hE,h2.ext hE⟩
def LstA {α:Type} (R:PW→List Value→α→Prop) (sz:Nat) (W:PW) (s:Sl) (l:List α):Prop:=∃xs,RowA W sz s xs∧All2 (R W) xs l
theorem LstA.ext {α:Type} {R:PW→List Value→α→Prop} {sz:Nat} (hR: ∀{W W':PW} {x:List Value} {a:α},R W x a→Ext W W'→R W' x a) {W W':PW} {s:Sl} {l:List α} (h:LstA R sz W s l) (hE:Ext W W'):LstA R sz W' s l:=let⟨xs,⟨t,h1⟩,h2⟩:=h;⟨xs,⟨t,h1.ext hE⟩,h2.mono fun _ _ h=>hR h hE⟩
theorem LstA.n {α:Type} {R:PW→List Value→α→Prop} {sz:Nat} {W:PW} {s:Sl} {l:List α} (h:LstA R sz W s l):s.n=l.length:=let⟨xs,⟨_,h1⟩,h2⟩:=h;h1.1.trans h2.len
theorem LstA.inB {α:Type} {R:PW→List Value→α→Prop} {sz:Nat} {W:PW} {s:Sl} {l:List α} (h:LstA R sz W s l) {i:Int} (h0:0≤i) (h1:i<(l.length:Int)):SX.inB s i:=let⟨xs,⟨_,h2⟩,h3⟩:=h;h2.inB h0 (by rw[h3.len];exact h1)
theorem LstA.at {α:Type} {R:PW→List Value→α→Prop} {sz:Nat} {W:PW} {s:Sl} {l:List α} (h:LstA R sz W s l) {i:Nat} (hi:i<l.length): ∃x,R W x l[i]∧∀(off:Nat) {m:List Value},(x.drop off).take m.length=m→ElemAt W s sz i off m:=by
 obtain⟨xs,⟨t,h1⟩,h2⟩:=h
 obtain⟨x,hx,hr⟩:=h2.get (List.getElem?_eq_getElem hi)
 exact⟨x,hr,fun off m hm=>h1.part hx off hm⟩
theorem LstA.nil {α:Type} {R:PW→List Value→α→Prop} {sz:Nat} (W:PW):LstA R sz W ⟨none,0,0⟩ ([]:List α):=⟨[],⟨0,rfl,Nat.le_refl _,Nat.zero_le _,fun x h=>by simp at h,.inl rfl⟩,trivial⟩
abbrev IsSqs (tu tt:TypeId):=LstA (SqX tu tt) 5
abbrev RIsSqs (tu tt:TypeId):=LstA (RSqX tu tt) 5
abbrev IsBox (tu:TypeId):=LstA (SpV tu) 6
abbrev RIsBox (tu:TypeId):=LstA (RSpV tu) 6
theorem IsSqs.ext {tu tt:TypeId} {W W':PW} {s:Sl} {l:List SqP} (h:IsSqs tu tt W s l) (hE:Ext W W'):IsSqs tu tt W' s l:=LstA.ext (R:=SqX tu tt) (fun h=>SqX.ext h) h hE
theorem RIsSqs.ext {tu tt:TypeId} {W W':PW} {s:Sl} {l:List SqP} (h:RIsSqs tu tt W s l) (hE:Ext W W'):RIsSqs tu tt W' s l:=LstA.ext (R:=RSqX tu tt) (fun h=>RSqX.ext h) h hE
theorem IsBox.ext {tu:TypeId} {W W':PW} {s:Sl} {l:List Iv} (h:IsBox tu W s l) (hE:Ext W W'):IsBox tu W' s l:=LstA.ext (R:=SpV tu) (fun h=>SpV.ext h) h hE
theorem RIsBox.ext {tu:TypeId} {W W':PW} {s:Sl} {l:List Iv} (h:RIsBox tu W s l) (hE:Ext W W'):RIsBox tu W' s l:=LstA.ext (R:=RSpV tu) (fun h=>RSpV.ext h) h hE
def BoxOK (bs:List Iv):Prop:=(1≤bs.length∧bs.length≤3)∧∀x∈bs,x.1<x.2
instance (bs:List Iv):Decidable (BoxOK bs):=by unfold BoxOK;infer_instance
end Go.SX
