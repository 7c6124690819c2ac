import Derived.Test.YtkgeopnakkcdoaaGreatDoorLib5
set_option linter.unusedVariables false
set_option linter.unusedSimpArgs false
namespace Go.SX
variable {W W':PW}{b0 b1 b2:Bool}{bs:List Iv}{i:Nat}{l:List Value}{q:Nat->Rat}{s0 s1 s2 t0 t1 t2:Sl}{tu:TypeId}{ys:List (List Value)}
def QtV (tu:TypeId) (W:PW) (l:List Value) (q:Rat):Prop:=∃(s:Sl) (b:Bool) (t:Sl),l = [s.v,.bool b,t.v]/\Ab3 tu W s b t q
theorem QtV.ext {q:Rat}(h:QtV tu W l q)(a:Ext W W'):QtV tu W' l q:=let⟨s,b,t,e,h⟩:=h;⟨s,b,t,e,h.ext a⟩
abbrev Hq6 (tu:TypeId):=Dr1 (QtV tu) 3
def Bm3 (bs:List Iv) (i:Nat):Iv:=bs.getD i (0,0)
def Ga6 (x:Iv):Rat:=(x.1+x.2)/2
def He4 (x y:Iv):Iv:=(x.1-y.2,x.2-y.1)
def z18:List Value:=[.slice none 0 0,.bool false,.slice none 0 0,.slice none 0 0,.bool false,.slice none 0 0,.slice none 0 0,.bool false,.slice none 0 0,.slice none 0 0,.bool false,.slice none 0 0,.slice none 0 0,.bool false,.slice none 0 0,.slice none 0 0,.bool false,.slice none 0 0]
def z9:List Value:=[.slice none 0 0,.bool false,.slice none 0 0,.slice none 0 0,.bool false,.slice none 0 0,.slice none 0 0,.bool false,.slice none 0 0]
theorem Eq8 {cs:List Value}(h:l.length=cs.length):Aj6 cs 0 l=l:=by rw[Al5 _ _ _ (by omega),Nat.zero_add,h];simp
theorem Br4 (h:An5 (SpV tu W) ys bs):DmV tu W (Aj6 z18 0 (List.take 3 ys).flatten) (Bm3 bs):=by
 rcases ys with _ | ⟨m,_ | ⟨n,_ | ⟨o,ys⟩⟩⟩<;>rcases bs with _ | ⟨b0,_ | ⟨b1,_ | ⟨b2,bs⟩⟩⟩<;>first | exact False.elim h | exact False.elim h.2 | exact False.elim h.2.2 | exact False.elim h.2.2.2 | skip
 ·exact⟨⟨none,0,0⟩,_,⟨none,0,0⟩,⟨none,0,0⟩,_,⟨none,0,0⟩,⟨none,0,0⟩,_,⟨none,0,0⟩,⟨none,0,0⟩,_,⟨none,0,0⟩,⟨none,0,0⟩,_,⟨none,0,0⟩,⟨none,0,0⟩,_,⟨none,0,0⟩,rfl,SpV.zero W,SpV.zero W,SpV.zero W⟩
 ·obtain⟨⟨_,_,_,_,_,_,rfl,h1,a⟩,_⟩:=h
  exact⟨_,_,_,_,_,_,⟨none,0,0⟩,_,⟨none,0,0⟩,⟨none,0,0⟩,_,⟨none,0,0⟩,⟨none,0,0⟩,_,⟨none,0,0⟩,⟨none,0,0⟩,_,⟨none,0,0⟩,rfl,SpV.mk h1 a,SpV.zero W,SpV.zero W⟩
 ·obtain⟨⟨_,_,_,_,_,_,rfl,h1,a⟩,⟨_,_,_,_,_,_,rfl,b,c⟩,_⟩:=h
  exact⟨_,_,_,_,_,_,_,_,_,_,_,_,⟨none,0,0⟩,_,⟨none,0,0⟩,⟨none,0,0⟩,_,⟨none,0,0⟩,rfl,SpV.mk h1 a,SpV.mk b c,SpV.zero W⟩
 ·obtain⟨⟨s0,d,t0,s1,c1,t1,rfl,h1,a⟩,⟨s2,c2,t2,s3,e,t3,rfl,b,c⟩,⟨s4,f,t4,g,c5,t5,rfl,j,k⟩,_⟩:=h
  rw[Eq8]
  ·exact⟨s0,d,t0,s1,c1,t1,s2,c2,t2,s3,e,t3,s4,f,t4,g,c5,t5,rfl,SpV.mk h1 a,SpV.mk b c,SpV.mk j k⟩
  ·rfl
theorem DmV.shp {b:Nat->Iv}(h:DmV tu W l b):Ai7 [.slice,.bool,.slice,.slice,.bool,.slice,.slice,.bool,.slice,.slice,.bool,.slice,.slice,.bool,.slice,.slice,.bool,.slice] l=true:=by
 obtain⟨_,_,_,_,_,_,_,_,_,_,_,_,_,_,_,_,_,_,rfl,_⟩:=h;rfl
def NmV (tu:TypeId) (W:PW) (l:List Value) (q:Nat->Rat):Prop:=∃(s0:Sl) (b0:Bool) (t0 s1:Sl) (b1:Bool) (t1 s2:Sl) (b2:Bool) (t2:Sl),l = [s0.v,.bool b0,t0.v,s1.v,.bool b1,t1.v,s2.v,.bool b2,t2.v]/\Ab3 tu W s0 b0 t0 (q 0)/\Ab3 tu W s1 b1 t1 (q 1)/\Ab3 tu W s2 b2 t2 (q 2)
theorem NmV.ext (h:NmV tu W l q)(a:Ext W W'):NmV tu W' l q:=let⟨s0,b0,t0,s1,b1,t1,s2,b2,t2,e,h1,b,c⟩:=h;⟨s0,b0,t0,s1,b1,t1,s2,b2,t2,e,h1.ext a,b.ext a,c.ext a⟩
theorem NmV.mk (a:Ab3 tu W s0 b0 t0 (q 0))(h1:Ab3 tu W s1 b1 t1 (q 1))(b:Ab3 tu W s2 b2 t2 (q 2)):NmV tu W [s0.v,.bool b0,t0.v,s1.v,.bool b1,t1.v,s2.v,.bool b2,t2.v] q:=⟨s0,b0,t0,s1,b1,t1,s2,b2,t2,rfl,a,h1,b⟩
theorem NmV.shp (h:NmV tu W l q):Ai7 [.slice,.bool,.slice,.slice,.bool,.slice,.slice,.bool,.slice] l=true:=by
 obtain⟨_,_,_,_,_,_,_,_,_,rfl,_⟩:=h;rfl
theorem NmV.three (h:NmV tu W [s0.v,.bool b0,t0.v,s1.v,.bool b1,t1.v,s2.v,.bool b2,t2.v] q):Ab3 tu W s0 b0 t0 (q 0)/\Ab3 tu W s1 b1 t1 (q 1)/\Ab3 tu W s2 b2 t2 (q 2):=by
 obtain⟨_,_,_,_,_,_,_,_,_,e,k⟩:=h;simp only[List.cons.injEq,Value.bool.injEq,and_true] at e;obtain⟨a,b,c,d,f,g,j,m,n⟩:=e;rw[Sl.Ck0 a,b,Sl.Ck0 c,Sl.Ck0 d,f,Sl.Ck0 g,Sl.Ck0 j,m,Sl.Ck0 n];exact k
theorem NmV.box {j:Nat}(h:NmV tu W l q)(d:j<3): ∃(s:Sl) (b:Bool) (t:Sl),As9 l (0+Int.toNat (j:Int)*3+0) [s.v,.bool b,t.v]/\Ab3 tu W s b t (q j):=by
 obtain⟨s0,b0,t0,s1,b1,t1,s2,b2,t2,rfl,a,h1,c⟩:=h;rcases(by omega:j=0\/j=1\/j=2) with rfl | rfl | rfl
 ·exact⟨_,_,_,⟨by simp,rfl⟩,a⟩
 ·exact⟨_,_,_,⟨by simp,rfl⟩,h1⟩
 ·exact⟨_,_,_,⟨by simp,rfl⟩,c⟩
theorem Hn3 {qs:List Rat}(h:An5 (QtV tu W) ys qs):NmV tu W (Aj6 z9 0 (List.take 3 ys).flatten) (λ i=>qs.getD i 0):=by
 rcases ys with _ | ⟨c,_ | ⟨d,_ | ⟨e,ys⟩⟩⟩<;>rcases qs with _ | ⟨b0,_ | ⟨b1,_ | ⟨b2,bs⟩⟩⟩<;>first | exact False.elim h | exact False.elim h.2 | exact False.elim h.2.2 | exact False.elim h.2.2.2 | skip
 ·exact⟨⟨none,0,0⟩,_,⟨none,0,0⟩,⟨none,0,0⟩,_,⟨none,0,0⟩,⟨none,0,0⟩,_,⟨none,0,0⟩,rfl,Ar9 W,Ar9 W,Ar9 W⟩
 ·obtain⟨⟨_,_,_,rfl,h1⟩,_⟩:=h
  exact⟨_,_,_,⟨none,0,0⟩,_,⟨none,0,0⟩,⟨none,0,0⟩,_,⟨none,0,0⟩,rfl,h1,Ar9 W,Ar9 W⟩
 ·obtain⟨⟨_,_,_,rfl,h1⟩,⟨_,_,_,rfl,a⟩,_⟩:=h
  exact⟨_,_,_,_,_,_,⟨none,0,0⟩,_,⟨none,0,0⟩,rfl,h1,a,Ar9 W⟩
 ·obtain⟨⟨_,_,_,rfl,h1⟩,⟨_,_,_,rfl,a⟩,⟨_,_,_,rfl,b⟩,_⟩:=h
  exact⟨_,_,_,_,_,_,_,_,_,rfl,h1,a,b⟩
theorem Fa0 (h:bs.length<=i):Bm3 bs i=(0,0):=by
 unfold Bm3;rw[List.getD_eq_getElem?_getD,List.getElem?_eq_none h];rfl
theorem Fi1 (h:i<bs.length):Bm3 bs i=bs[i]:=by
 unfold Bm3;rw[List.getD_eq_getElem?_getD,List.getElem?_eq_getElem h];rfl
theorem Ep8 {k:Nat}(h: ∀x∈bs,IvS k x)(i:Nat):BdI (2*k+1) (Bm3 bs i):=by
 by_cases hi:i<bs.length
 ·rw[Fi1 hi]
  exact BdI.Co7 (h _ (List.getElem_mem hi))
 ·rw[Fa0 (by omega)]
  exact BdI.zero (by omega)
end Go.SX
