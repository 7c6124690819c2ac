/- A box' sides, and numbers, laid into three places. -/
import Derived.Test.YtjkkidjbppphpaaGreatDoorLib5
set_option linter.unusedVariables false
set_option linter.unusedSimpArgs false
namespace Go.SX
def QtV (tu:TypeId) (W:PW) (l:List Value) (q:Rat):Prop:=∃(s:Sl) (b:Bool) (t:Sl),l = [s.v,.bool b,t.v]∧Ab3 tu W s b t q
theorem QtV.ext {tu:TypeId} {W W':PW} {l:List Value} {q:Rat} (h:QtV tu W l q) (hE:Ext W W'):QtV tu W' l q:=let⟨s,b,t,e,h⟩:=h;⟨s,b,t,e,h.ext hE⟩
def Bm3 (bs:List Iv) (i:Nat):Iv:=bs.getD i (0,0)
def z9:List Value:=[.slice none 0 0,.bool false,.slice none 0 0,.slice none 0 0,.bool false,.slice none 0 0,.slice none 0 0,.bool false,.slice none 0 0]
def NmV (tu:TypeId) (W:PW) (l:List Value) (q:Nat→Rat):Prop:=∃(s0:Sl) (b0:Bool) (t0 s1:Sl) (b1:Bool) (t1 s2:Sl) (b2:Bool) (t2:Sl),l = [s0.v,.bool b0,t0.v,s1.v,.bool b1,t1.v,s2.v,.bool b2,t2.v]∧Ab3 tu W s0 b0 t0 (q 0)∧Ab3 tu W s1 b1 t1 (q 1)∧Ab3 tu W s2 b2 t2 (q 2)
theorem NmV.mk {tu:TypeId} {W:PW} {s0 t0 s1 t1 s2 t2:Sl} {b0 b1 b2:Bool} {q:Nat→Rat} (h0:Ab3 tu W s0 b0 t0 (q 0)) (h1:Ab3 tu W s1 b1 t1 (q 1)) (h2:Ab3 tu W s2 b2 t2 (q 2)):NmV tu W [s0.v,.bool b0,t0.v,s1.v,.bool b1,t1.v,s2.v,.bool b2,t2.v] q:=⟨s0,b0,t0,s1,b1,t1,s2,b2,t2,rfl,h0,h1,h2⟩
theorem NmV.three {tu:TypeId} {W:PW} {s0 t0 s1 t1 s2 t2:Sl} {b0 b1 b2:Bool} {q:Nat→Rat} (h:NmV tu W [s0.v,.bool b0,t0.v,s1.v,.bool b1,t1.v,s2.v,.bool b2,t2.v] q):Ab3 tu W s0 b0 t0 (q 0)∧Ab3 tu W s1 b1 t1 (q 1)∧Ab3 tu W s2 b2 t2 (q 2):=by
 obtain⟨_,_,_,_,_,_,_,_,_,e,k⟩:=h
 simp only[List.cons.injEq,Value.bool.injEq,and_true] at e
 obtain⟨e1,e2,e3,e4,e5,e6,e7,e8,e9⟩:=e
 rw[Sl.Ck0 e1,e2,Sl.Ck0 e3,Sl.Ck0 e4,e5,Sl.Ck0 e6,Sl.Ck0 e7,e8,Sl.Ck0 e9]
 exact k
theorem Fa0 {bs:List Iv} {i:Nat} (h:bs.length≤i):Bm3 bs i=(0,0):=by
 unfold Bm3
 rw[List.getD_eq_getElem?_getD,List.getElem?_eq_none h]
 rfl
theorem Fi1 {bs:List Iv} {i:Nat} (h:i<bs.length):Bm3 bs i=bs[i]:=by
 unfold Bm3
 rw[List.getD_eq_getElem?_getD,List.getElem?_eq_getElem h]
 rfl
end Go.SX
