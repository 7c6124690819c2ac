/- cinctureref1: PolyAdd, PolyScale, PolySub, Var, Const, PolySame. -/
import Derived.Test.YtjkkidjbppphpaaGreatDoorW8
import Derived.Test.YtjkkidjbppphpaaGreatDoorR12
import Derived.Test.YtjkkidjbppphpaaGreatDoorR10
import Derived.Test.YtjkkidjbppphpaaGreatDoorLib5
import Derived.Test.YtjkkidjbppphpaaGreatDoorLib4
import Derived.Test.YtjkkidjbppphpaaGreatDoorR15
set_option linter.unusedVariables false
set_option linter.unusedSimpArgs false
set_option maxRecDepth 100000
namespace Go.Proofs.YtjkkidjbppphpaaGreatDoor
open Go Go.SX
end Go.Proofs.YtjkkidjbppphpaaGreatDoor
/- cinctureref1.PolyMul. -/
namespace Go.Proofs.YtjkkidjbppphpaaGreatDoor
open Go Go.SX
end Go.Proofs.YtjkkidjbppphpaaGreatDoor
/- poly.Compose, cinctureref1.Compose. -/
namespace Go.Proofs.YtjkkidjbppphpaaGreatDoor
open Go Go.SX
def cst (r:Rat):List Tm:=Ag2 [(⟨0,0,0⟩,r)]
end Go.Proofs.YtjkkidjbppphpaaGreatDoor
/- box.Right, gram.side, gram.Sum, and the reference's. -/
namespace Go.Proofs.YtjkkidjbppphpaaGreatDoor
open Go Go.SX
def brI (W0:PW) (bs:List Iv) (L:List PL) (W:PW):Prop:=match L with
 | [.val (.int .i64 i)]=>∃j:Nat,i=(j:Int)∧j≤bs.length∧Ext W0 W∧∀x∈bs.take j,x.1<x.2
 | _=>False
theorem Ey3 {bs:List Iv} {j:Nat} (hj:j<bs.length) (h: ∀x∈bs.take j,x.1<x.2) (h2:bs[j].1<bs[j].2): ∀x∈bs.take (j+1),x.1<x.2:=fun x hx=>by
 rw[List.take_succ_eq_append_getElem hj,List.mem_append,List.mem_singleton] at hx
 rcases hx with hx | rfl
 ·exact h x hx
 ·exact h2
theorem Dk1 {W0:PW} {M:Nat→Prop} {s:Sl} {bs:List Iv} {k:Nat} (h:Bc3 284 W0 s bs) (hk: ∀x∈bs,IvS k x) (hk2:k≤1048576) (hl:bs.length≤1048576):
  Aa0 Tryz.prog 98 [s.v] W0 M fun v W'=>v = .bool (decide (Cn7 bs))∧True:=by
 apply Ck4
 have hn:=h.n
 refine⟨brI W0 bs,cn1 bs.length,⟨0,rfl,Nat.zero_le _,Ext.refl _,fun x hx=>(by cases hx)⟩,?_⟩
 rintro i3 W4 ⟨j,rfl,hj,hE4,hall⟩
 have h4:=Bc3.ext h hE4
 refine⟨fun hlt=>?_,fun hge=>?_⟩
 ·have hjl:j<bs.length:=by omega
  obtain⟨x,hx,hel⟩:=h4.at hjl
  obtain⟨s5,b6,s7,s8,b9,s10,rfl,q1,q2⟩:=hx
  have hz:=hk _ (List.getElem_mem hjl)
  refine⟨h4.inB (by omega) (by omega),s5,b6,s7,s8,b9,s10,hel 0 rfl,Aj2 q1 q2 hz.1 hz.2 (by omega) (by omega) fun W12 hE12 _=>⟨_,rfl,fun h0 W14 _=>⟨?_,trivial⟩,fun h0=>⟨by unfold I64;omega,⟨j+1,by push_cast;rfl,by omega,hE4.trans hE12,Ey3 hjl hall (At6.1 (by omega))⟩,?_⟩⟩⟩
  ·rw[decide_eq_false fun e=>Rat.not_lt.2 (El9.1 h0) (e.2 _ (List.getElem_mem hjl))]
  ·show bs.length-Int.toNat ((j:Int)+1)<bs.length-Int.toNat (j:Int)
   omega
 ·have:j=bs.length:=by omega
  subst this
  rw[List.take_length] at hall
  refine⟨fun h1 W15 _=>⟨?_,trivial⟩,fun h1 W16 _=>⟨?_,trivial⟩⟩
  ·congr 1
   rw[decide_eq_decide]
   exact⟨fun h=>⟨⟨by omega,by omega⟩,hall⟩,fun h=>by have:=h.1.2;omega⟩
  ·rw[decide_eq_false fun e=>by have:=e.1.1;omega]
theorem Cm2 {W0 W:PW} {M:Nat→Prop} {s:Sl} {bs:List Iv} {k:Nat} {K:Value→PW→Prop} (h:Bc3 284 W s bs) (hk: ∀x∈bs,IvS k x) (hk2:k≤1048576) (hl:bs.length≤1048576) (kont: ∀(W':PW),Ext W W'→(True)→K (.bool (decide (Cn7 bs))) W'):
  Aa1 Tryz.prog W0 M 98 [s.v] W K:=
 Aa2 (fun W' hE=>Dk1 (M:=fun _=>False) (h.ext hE) hk hk2 hl) (fun W' v W'' hE hE' hP=>by
  obtain⟨rfl,h⟩:=hP
  exact kont W'' (hE.trans hE') h)
def Gm5 (x:Iv) (i:Int):List Tm:=Ag2 (Dc6 i ++ pmap (cst x.1) (-1))
def Gm9 (x:Iv) (i:Int):List Tm:=Ag2 (cst x.2 ++ pmap (Dc6 i) (-1))
def Gg6 (x:Iv) (i:Int):List Tm:=Ag2 (An8 (Gm5 x i) (Gm9 x i))
theorem Gv3 (q:Rat):Gk4 0 (cst q):=Gk4.norm fun t ht=>by
 rw[List.mem_singleton.1 ht]
 exact⟨(by decide:(⟨0,0,0⟩:Mon).ok),Int.le_refl 0,Int.le_refl 0,Int.le_refl 0⟩
theorem Gs1 {e:Int} {p:List Tm} (h:Gk4 e p) (r:Rat):Gk4 e (pmap p r):=fun t ht=>by
 obtain⟨u,hu,rfl⟩:=List.mem_map.1 ht
 exact h u hu
theorem Gk4.le {e e':Int} {p:List Tm} (h:Gk4 e p) (he:e≤e'):Gk4 e' p:=fun t ht=>by
 have:=h t ht
 exact⟨this.1,by omega,by omega,by omega⟩
theorem Gv8 (i:Int):Gk4 1 (Dc6 i):=fun t ht=>by
 unfold Dc6 at ht
 split at ht
 ·rw[List.mem_singleton.1 ht]
  dsimp only
  unfold Da3
  (repeat' split)<;>decide
 ·cases ht
theorem Gs7 (i:Int):Bd 4 (Dc6 i):=by
 unfold Dc6
 split
 ·exact Cq4 (Sz.one (Nat.le_refl 1))
 ·exact⟨1,0,trivial,by decide,by rw[Ax0];omega,by rw[Ag9];omega⟩
theorem Gi4 (i:Int):(Dc6 i).length≤1:=by unfold Dc6;split<;>simp
theorem Gi5 (q:Rat):(cst q).length≤1:=El2 [((⟨0,0,0⟩:Mon),q)]
theorem Gl5 {q:Rat} (hq:Sz 4000 q):Bd 4003 (cst q):=(Cq4 hq).norm
theorem Gn2 {x:Iv} (h:IvS 4000 x) (i:Int):Bd 4009 (Gm5 x i)∧Gk4 1 (Gm5 x i)∧(Gm5 x i).length≤2:=by
 refine⟨((Gs7 i).append (Bd.pmap (Gl5 h.1) Fn8)).norm.mono (by omega),Gk4.norm ((Gv8 i).append (Gs1 ((Gv3 x.1).le (by omega)) _)),?_⟩
 have h1:=El2 (Dc6 i ++ pmap (cst x.1) (-1))
 have h2:=Gi4 i
 have h3:=Gi5 x.1
 rw[List.length_append,Ew2] at h1
 unfold Gm5
 omega
theorem Gl6 {x:Iv} (h:IvS 4000 x) (i:Int):Bd 4009 (Gm9 x i)∧Gk4 1 (Gm9 x i)∧(Gm9 x i).length≤2:=by
 refine⟨((Gl5 h.2).append (Bd.pmap (Gs7 i) Fn8)).norm.mono (by omega),Gk4.norm (((Gv3 x.2).le (by omega)).append (Gs1 (Gv8 i) _)),?_⟩
 have h1:=El2 (cst x.2 ++ pmap (Dc6 i) (-1))
 have h2:=Gi4 i
 have h3:=Gi5 x.2
 rw[List.length_append,Ew2] at h1
 unfold Gm9
 omega
theorem Gq9 {x:Iv} (h:IvS 4000 x) (i:Int):Ct4 (Gm5 x i) (Gm9 x i):=Gx3 (Gn2 h i).2.1 (Gl6 h i).2.1 (by omega)
theorem Gv1 {x:Iv} (h:IvS 4000 x) (i:Int):Bd 8018 (Gg6 x i)∧(Gg6 x i).length≤4:=by
 obtain⟨a1,a2,a3⟩:=Gn2 h i
 obtain⟨b1,b2,b3⟩:=Gl6 h i
 refine⟨(a1.Ff3 b1).norm,?_⟩
 have h1:=El2 (An8 (Gm5 x i) (Gm9 x i))
 have h2:=Nat.mul_le_mul a3 b3
 rw[Eb1] at h1
 unfold Gg6
 omega
theorem Gr1 {W0:PW} {M:Nat→Prop} {s:Sl} {bs:List Iv} {i:Nat} (h:Bc3 284 W0 s bs) (hi:i<bs.length) (hk: ∀x∈bs,IvS 4000 x):
  Aa0 Tryz.prog 107 [s.v,.int .i64 (i:Int)] W0 M fun v W'=>∃(s':Sl),v = .agg ⟨[Sl.v s']⟩∧Ab0 284 165 W' s' (Gg6 (bs.getD i (0,0)) i):=by
 have hg:bs.getD i (0,0)=bs[i]:=by rw[List.getD_eq_getElem?_getD,List.getElem?_eq_getElem hi];rfl
 rw[hg]
 apply Gn1
 refine Cr4 fun s3 W2 hE2 h2=>⟨s3,rfl,?_⟩
 have hb:=Bc3.ext h hE2
 obtain⟨x,hx,hel⟩:=hb.at hi
 obtain⟨s4,b5,s6,s7,b8,s9,rfl,q1,q2⟩:=hx
 have hz:=hk _ (List.getElem_mem hi)
 have hib:=hb.inB (i:=(i:Int)) (by omega) (by omega)
 refine⟨hib,s4,b5,s6,hel 0 rfl,hib,s7,b8,s9,hel 3 rfl,Gf5 q1 hz.1 (by omega) fun s12 W11 hE11 h11=>⟨s12,rfl,hE11,?_⟩⟩
 refine Db2 (k:=5000) (h2.ext hE11) h11 ((Gs7 _).mono (by omega)) ((Gl5 hz.1).mono (by omega)) (by omega) (by have:=Gi4 (i:Int);omega) (by have:=Gi5 bs[i].1;unfold cst at this;omega) fun s15 W14 hE14 h14=>⟨s15,rfl,hE14,?_⟩
 refine Gf5 (q2.ext (hE11.trans hE14)) hz.2 (by omega) fun s18 W17 hE17 h17=>⟨s18,rfl,?_⟩
 refine Db2 (k:=5000) h17 (h2.ext (hE11.trans (hE14.trans hE17))) ((Gl5 hz.2).mono (by omega)) ((Gs7 _).mono (by omega)) (by omega) (by have:=Gi5 bs[i].2;unfold cst at this;omega) (by have:=Gi4 (i:Int);omega) fun s21 W20 hE20 h20=>⟨s21,rfl,?_⟩
 obtain⟨a1,a2,a3⟩:=Gn2 hz (i:Int)
 obtain⟨c1,c2,c3⟩:=Gl6 hz (i:Int)
 have hm:=Nat.mul_le_mul a3 c3
 have h14:Ab0 284 165 W14 s15 (Gm5 bs[i] i):=h14
 have h20:Ab0 284 165 W20 s21 (Gm9 bs[i] i):=h20
 refine Ct0 (h14.ext (hE17.trans hE20)) h20 a1 c1 (by omega) (by omega) (by omega) (by omega) fun s24 W23 hE23 h23=>⟨s24,_,rfl,fun W26 hE26=>⟨s24,rfl,?_⟩⟩
 rw[Gn4 (Gq9 hz i)] at h23
 exact h23.ext hE26
theorem Gm2 {W0 W:PW} {M:Nat→Prop} {s:Sl} {bs:List Iv} {i:Nat} {K:Value→PW→Prop} (h:Bc3 284 W s bs) (hi:i<bs.length) (hk: ∀x∈bs,IvS 4000 x) (kont: ∀(s':Sl) (W':PW),Ext W W'→(Ab0 284 165 W' s' (Gg6 (bs.getD i (0,0)) i))→K (.agg ⟨[Sl.v s']⟩) W'):
  Aa1 Tryz.prog W0 M 107 [s.v,.int .i64 (i:Int)] W K:=
 Aa2 (fun W' hE=>Gr1 (M:=fun _=>False) (h.ext hE) hi hk) (fun W' v W'' hE hE' hP=>by
  obtain⟨s',rfl,h⟩:=hP
  exact kont s' W'' (hE.trans hE') h)
theorem Gp2 {p q:List Tm} (h:Ct4 p q):POk (Ag2 (An8 p q)):=POk.norm fun t ht=>by
 obtain⟨a,ha,hm⟩:=List.mem_flatMap.1 ht
 obtain⟨b,hb,rfl⟩:=List.mem_map.1 hm
 exact h a ha b hb
def Gg5 (bs:List Iv) (s:SqP):Option (List Tm):=
 if Ct4 s.q s.q then(if 0<s.g then(if Ct4 (Ag2 (An8 s.q s.q)) (Gg6 (bs.getD (s.g-1).toNat (0,0)) ((s.g-1).toNat:Int)) then some (Ag2 (An8 (Ag2 (An8 s.q s.q)) (Gg6 (bs.getD (s.g-1).toNat (0,0)) ((s.g-1).toNat:Int)))) else none) else some (Ag2 (An8 s.q s.q))) else none
def Gf2 (bs:List Iv) (a:Option (List Tm)) (s:SqP):Option (List Tm):=match a,Gg5 bs s with
 | some a,some p=>some (Ag2 (a ++ Ag2 (pmap p s.w)))
 | _,_=>none
def Fj5 (l:List SqP) (bs:List Iv):Prop:=Cn7 bs∧∀s∈l,0≤s.g∧s.g≤(bs.length:Int)
instance (l:List SqP) (bs:List Iv):Decidable (Fj5 l bs):=by unfold Fj5;infer_instance
def Gt5 (l:List SqP) (bs:List Iv):Option (List Tm):=if Fj5 l bs then l.foldl (Gf2 bs) (some []) else none
theorem Gj3 {bs:List Iv} (a:Option (List Tm)) {s:SqP} (h:Gg5 bs s=none):Gf2 bs a s=none:=by
 unfold Gf2
 rw[h]
 cases a<;>rfl
theorem Gr6 (bs:List Iv): ∀l:List SqP,l.foldl (Gf2 bs) none=none
 | []=>rfl
 | s :: l=>by rw[List.foldl_cons];exact Gr6 bs l
theorem Gi2 {l:List SqP} {bs:List Iv} (h:¬Fj5 l bs):Gt5 l bs=none:=if_neg h
theorem Go2 {l:List SqP} {bs:List Iv} {j:Nat} (hj:j<l.length) (h:Gg5 bs l[j]=none):Gt5 l bs=none:=by
 unfold Gt5
 split
 ·rw[←List.take_append_drop (j+1) l,List.foldl_append,List.take_succ_eq_append_getElem hj,List.foldl_append,List.foldl_cons,List.foldl_nil]
  rw[Gj3 _ h,Gr6]
 ·rfl
structure Gz9 (K w:Nat) (l:List SqP):Prop where
 bd: ∀s∈l,Bd K s.q∧s.q.length≤64∧Av6 s.q∧POk s.q
 ws: ∀s∈l,Sz w s.w
 len:l.length≤12
 K1:K≤2000000
 w1:w≤500000
 tot:l.length*(2*K+w+8019)≤27048114
theorem Gu8 {K w:Nat} {l:List SqP} {bs:List Iv} (hl:Gz9 K w l) (hk: ∀x∈bs,IvS 4000 x) {s:SqP} (hs:s∈l) {p:List Tm} (h:Gg5 bs s=some p):Bd (2*K+8018) p∧p.length≤16384∧POk p:=by
 obtain⟨h1,h2,h3,h4⟩:=hl.bd s hs
 have hsd:IvS 4000 (bs.getD (s.g-1).toNat (0,0)):=by
  rw[List.getD_eq_getElem?_getD]
  cases e:bs[(s.g-1).toNat]? with
  | none=>exact⟨Sz.zero (by omega),Sz.zero (by omega)⟩
  | some x=>exact hk x (List.mem_of_getElem? e)
 have hsb:=Gv1 hsd ((s.g-1).toNat:Int)
 have hq:=(h1.Ff3 h1).norm
 have hql:=El2 (An8 s.q s.q)
 have hm:=Nat.mul_le_mul h2 h2
 rw[Eb1] at hql
 unfold Gg5 at h
 split at h
 ·rename_i hM
  split at h
  ·split at h
   ·rename_i hM2
    simp only[Option.some.injEq] at h
    subst h
    have hl2:=El2 (An8 (Ag2 (An8 s.q s.q)) (Gg6 (bs.getD (s.g-1).toNat (0,0)) ((s.g-1).toNat:Int)))
    have hm2:=Nat.mul_le_mul (show(Ag2 (An8 s.q s.q)).length≤4096 by omega) hsb.2
    rw[Eb1] at hl2
    exact⟨(hq.Ff3 hsb.1).norm.mono (by omega),by omega,Gp2 hM2⟩
   ·cases h
  ·simp only[Option.some.injEq] at h
   subst h
   exact⟨hq.mono (by omega),by omega,Gp2 hM⟩
 ·cases h
theorem Gu4 {K w:Nat} {l:List SqP} {bs:List Iv} (hl:Gz9 K w l) (hk: ∀x∈bs,IvS 4000 x): ∀{j:Nat} {a:List Tm},j≤l.length→(l.take j).foldl (Gf2 bs) (some [])=some a→Bd (1+j*(2*K+w+8019)) a∧Av6 a∧POk a
 | 0,a,_,h=>by
  simp only[List.take_zero,List.foldl_nil,Option.some.injEq] at h
  subst h
  exact⟨⟨1,0,trivial,by decide,by rw[Ax0];omega,by rw[Ag9];omega⟩,Av6.nil,fun t ht=>(by cases ht)⟩
 | j+1,a,hj,h=>by
  have hjl:j<l.length:=by omega
  rw[List.take_succ_eq_append_getElem hjl,List.foldl_append,List.foldl_cons,List.foldl_nil] at h
  cases e:(l.take j).foldl (Gf2 bs) (some []) with
  | none=>rw[e] at h;cases h
  | some a0=>
   rw[e] at h
   unfold Gf2 at h
   split at h
   ·rename_i a' p h1 h2
    cases h1
    simp only[Option.some.injEq] at h
    subst h
    obtain⟨b1,b2,b3⟩:=Gu4 hl hk (by omega) e
    obtain⟨c1,c2,c3⟩:=Gu8 hl hk (List.getElem_mem hjl) h2
    refine⟨(b1.append (Bd.pmap c1 (hl.ws _ (List.getElem_mem hjl))).norm).norm.mono ?_,Ce8 _,POk.norm (b3.append (POk.norm fun t ht=>?_))⟩
    ·rw[Nat.add_mul];omega
    ·obtain⟨u,hu,rfl⟩:=List.mem_map.1 ht
     exact c3 u hu
   ·cases h
def suG (W0:PW) (l:List SqP) (m:Int) (L:List PL) (W:PW):Prop:=match L with
 | .val (.int .i64 i) :: _=>∃j:Nat,i=(j:Int)∧j≤l.length∧Ext W0 W∧∀s∈l.take j,0≤s.g∧s.g≤m
 | _=>False
theorem Gz6 {l:List SqP} {m:Int} {j:Nat} (hj:j<l.length) (h: ∀s∈l.take j,0≤s.g∧s.g≤m) (h2:0≤l[j].g∧l[j].g≤m): ∀s∈l.take (j+1),0≤s.g∧s.g≤m:=fun x hx=>by
 rw[List.take_succ_eq_append_getElem hj,List.mem_append,List.mem_singleton] at hx
 rcases hx with hx | rfl
 ·exact h x hx
 ·exact h2
def suS (W0:PW) (l:List SqP) (bs:List Iv) (L:List PL) (W:PW):Prop:=match L with
 | [.val (.int .i64 i),_,.cells [.slice A m c]]=>∃(j:Nat) (a:List Tm),i=(j:Int)∧j≤l.length∧Ext W0 W∧(l.take j).foldl (Gf2 bs) (some [])=some a∧Ab0 284 165 W ⟨A,m,c⟩ a
 | _=>False
theorem Gy7 {l:List SqP} {bs:List Iv} {j:Nat} {a p:List Tm} (hj:j<l.length) (h:(l.take j).foldl (Gf2 bs) (some [])=some a) (hp:Gg5 bs l[j]=some p):(l.take (j+1)).foldl (Gf2 bs) (some [])=some (Ag2 (a ++ Ag2 (pmap p l[j].w))):=by
 rw[List.take_succ_eq_append_getElem hj,List.foldl_append,List.foldl_cons,List.foldl_nil,h]
 unfold Gf2
 rw[hp]
theorem Gt4 {W0:PW} {M:Nat→Prop} {s sb:Sl} {l:List SqP} {bs:List Iv} {kb w:Nat} (h:SX.Gf7 284 165 W0 s l) (hb:Bc3 284 W0 sb bs) (hl:Gz9 kb w l) (hk: ∀x∈bs,IvS 4000 x) (hbl:bs.length≤1048576):
  Aa0 Tryz.prog 37 [s.v,sb.v] W0 M fun v W'=>∃(s':Sl),v = .tuple ⟨[.agg ⟨[Sl.v s']⟩,.bool (Gt5 l bs).isSome]⟩∧Ab0 284 165 W' s' ((Gt5 l bs).getD []):=by
 apply Gn7
 have hn:=h.n
 have hbn:=hb.n
 have hll:=hl.len
 have hK:=hl.K1
 have hw:=hl.w1
 have htot:=hl.tot
 have bad:Gt5 l bs=none→∀W':PW,∃s':Sl,(Value.tuple ⟨[.agg ⟨[.slice none 0 0]⟩,.bool false]⟩) = .tuple ⟨[.agg ⟨[Sl.v s']⟩,.bool (Gt5 l bs).isSome]⟩∧Ab0 284 165 W' s' ((Gt5 l bs).getD []):=fun hb W'=>by rw[hb];exact⟨⟨none,0,0⟩,rfl,Ab0.nil W'⟩
 refine Cm2 hb hk (by omega) hbl fun W2 hE2 _=>⟨_,rfl,fun hno W4 _=>bad (Gi2 fun e=>?_) W4,fun hyes=>?_⟩
 ·have:¬Cn7 bs:=by simpa using hno
  exact this e.1
 have hBox:Cn7 bs:=by simpa using hyes
 refine⟨suG W2 l bs.length,cn1 l.length,⟨0,rfl,Nat.zero_le _,Ext.refl _,fun x hx=>(by cases hx)⟩,?_⟩
 rintro s7 i8 W9 ⟨j,rfl,hj,hE9,hall⟩
 have h9:=Gf7.ext h (hE2.trans hE9)
 refine⟨fun hlt=>?_,fun hge=>?_⟩
 ·have hjl:j<l.length:=by omega
  have hmem:=List.getElem_mem hjl
  obtain⟨x,⟨s10,b11,s12,s14,rfl,_,_⟩,hel⟩:=h9.at hjl
  refine⟨h9.inB (by omega) (by omega),s10,b11,s12,_,s14,hel 0 rfl,fun hneg W15 _=>bad (Gi2 fun e=>by have:=(e.2 _ hmem).1;omega) W15,fun hnn=>⟨fun hgt W16 _=>bad (Gi2 fun e=>by have:=(e.2 _ hmem).2;omega) W16,fun hle=>⟨by unfold I64;omega,⟨j+1,by push_cast;rfl,by omega,hE9,Gz6 hjl hall ⟨by omega,by omega⟩⟩,?_⟩⟩⟩
  show l.length-Int.toNat ((j:Int)+1)<l.length-Int.toNat (j:Int)
  omega
 have:j=l.length:=by omega
 subst this
 rw[List.take_length] at hall
 have hOK:Fj5 l bs:=⟨hBox,hall⟩
 have hsum:Gt5 l bs=l.foldl (Gf2 bs) (some []):=if_pos hOK
 refine⟨suS W9 l bs,cn1 l.length,⟨0,[],rfl,Nat.zero_le _,Ext.refl _,rfl,Ab0.nil W9⟩,?_⟩
 rintro s19 s20 i21 W22 ⟨j,a,rfl,hj,hE22,ha,hA⟩
 have hA:Ab0 284 165 W22 s20 a:=hA
 have E22:=(hE2.trans hE9).trans hE22
 have h22:=Gf7.ext h E22
 refine⟨fun hlt=>?_,fun hge W60 hE60=>⟨s20,?_,?_⟩⟩
 ·have hjl:j<l.length:=by omega
  have hmem:=List.getElem_mem hjl
  obtain⟨x,⟨s23,b24,s25,s27,rfl,qw,qp⟩,hel⟩:=h22.at hjl
  obtain⟨q1,q2,q3,q4⟩:=hl.bd _ hmem
  have qz:=hl.ws _ hmem
  have hm:=Nat.mul_le_mul q2 q2
  obtain⟨a1,a2,a3⟩:=Gu4 hl hk hj ha
  have haL:=a2.len a3
  have hj6:=Nat.mul_le_mul_right (2*kb+w+8019) (show j≤l.length by omega)
  have hmu:l.length-Int.toNat ((j:Int)+1)<l.length-Int.toNat (j:Int):=by omega
  have fin: ∀{p:List Tm} {sp:Sl} {W:PW},Gg5 bs l[j]=some p→Ext W22 W→Ab0 284 165 W sp p→Aa1 Tryz.prog W0 M 26 [.agg ⟨[sp.v]⟩,.agg ⟨[s23.v,.bool b24,s25.v]⟩] W fun v40 W41=>∃s42:Sl,v40 = .agg ⟨[s42.v]⟩∧Aa1 Tryz.prog W0 M 25 [.agg ⟨[s20.v]⟩,.agg ⟨[s42.v]⟩] W41 fun v43 W44=>∃s45:Sl,v43 = .agg ⟨[s45.v]⟩∧I64 ((j:Int)+1)∧stp (suS W9 l bs) (cn1 l.length) [.val (.int .i64 ((j:Int)+1)),.cells [s19.v],.cells [s45.v]] W44 [.val (.int .i64 (j:Int)),.cells [s19.v],.cells [s20.v]] W22:=fun {p sp W} hp hE hP=>by
   obtain⟨p1,p2,p3⟩:=Gu8 hl hk hmem hp
   have hpb:=Bd.pmap p1 qz
   have hpl:=Ew2 p l[j].w
   have hpl2:=El2 (pmap p l[j].w)
   refine Cb0 hP (qw.ext hE) p1 qz (by omega) (by omega) (by omega) fun s42 W41 hE41 h41=>⟨s42,rfl,?_⟩
   refine Cw8 (k:=30000000) (hA.ext (hE.trans hE41)) h41 (a1.mono (by omega)) (hpb.norm.mono (by omega)) (by omega) (by omega) (by omega) fun s45 W44 hE44 h44=>⟨s45,rfl,by unfold I64;omega,⟨j+1,_,by push_cast;rfl,by omega,hE22.trans (hE.trans (hE41.trans hE44)),Gy7 hjl ha hp,h44⟩,hmu⟩
  refine⟨h22.inB (by omega) (by omega),s23,b24,s25,_,s27,hel 0 rfl,Ct0 qp qp q1 q1 (by omega) (by omega) (by omega) (by omega) fun s30 W29 hE29 h29=>⟨s30,_,rfl,fun hM=>?_,fun hM=>⟨fun _ W53 _=>bad (Go2 hjl ?_) W53,fun e=>absurd e (by rw[hM];decide)⟩⟩⟩
  ·have hM:Ct4 l[j].q l[j].q:=of_decide_eq_true hM
   rw[Gn4 hM] at h29
   have hpb:=(q1.Ff3 q1).norm
   have hpl:=El2 (An8 l[j].q l[j].q)
   rw[Eb1] at hpl
   refine⟨fun hg=>⟨by unfold I64;have:=(hall _ hmem).2;omega,?_⟩,fun hg=>⟨fun e=>absurd e (by simp[hM]),fun _=>fin (by unfold Gg5;rw[if_pos hM,if_neg hg]) hE29 h29⟩⟩
   have hgl:=(hall _ hmem).2
   obtain⟨i,hi⟩:=Int.eq_ofNat_of_zero_le (show 0≤l[j].g-1 by omega)
   have hib:i<bs.length:=by omega
   rw[hi]
   have hsd:IvS 4000 (bs.getD i (0,0)):=by rw[List.getD_eq_getElem?_getD,List.getElem?_eq_getElem hib];exact hk _ (List.getElem_mem hib)
   have hsb:=Gv1 hsd (i:Int)
   have hm2:=Nat.mul_le_mul (show(Ag2 (An8 l[j].q l[j].q)).length≤4096 by omega) hsb.2
   refine Gm2 (Bc3.ext hb (E22.trans hE29)) hib hk fun s34 W33 hE33 h33=>⟨s34,rfl,?_⟩
   refine Ct0 (k:=5000000) (h29.ext hE33) h33 (hpb.mono (by omega)) (hsb.1.mono (by omega)) (by omega) (by omega) (by omega) (by omega) fun s37 W36 hE36 h36=>⟨s37,_,rfl,fun hno W39 _=>bad (Go2 hjl ?_) W39,fun hyes=>?_⟩
   ·have hno:¬Ct4 (Ag2 (An8 l[j].q l[j].q)) (Gg6 (bs.getD i (0,0)) i):=by simpa using hno
    unfold Gg5
    rw[if_pos hM,if_pos hg,hi,Int.toNat_natCast,if_neg hno]
   ·have hyes:Ct4 (Ag2 (An8 l[j].q l[j].q)) (Gg6 (bs.getD i (0,0)) i):=by simpa using hyes
    rw[Gn4 hyes] at h36
    exact fin (by unfold Gg5;rw[if_pos hM,if_pos hg,hi,Int.toNat_natCast,if_pos hyes]) (hE29.trans (hE33.trans hE36)) h36
  ·have hM:¬Ct4 l[j].q l[j].q:=of_decide_eq_false hM
   unfold Gg5
   rw[if_neg hM]
 ·have:j=l.length:=by omega
  subst this
  rw[List.take_length] at ha
  rw[hsum,ha]
  rfl
 ·have:j=l.length:=by omega
  subst this
  rw[List.take_length] at ha
  rw[hsum,ha]
  exact hA.ext hE60
theorem Gp1 {W0 W:PW} {M:Nat→Prop} {s sb:Sl} {l:List SqP} {bs:List Iv} {kb w:Nat} {K:Value→PW→Prop} (h:SX.Gf7 284 165 W s l) (hb:Bc3 284 W sb bs) (hl:Gz9 kb w l) (hk: ∀x∈bs,IvS 4000 x) (hbl:bs.length≤1048576) (kont: ∀(s':Sl) (W':PW),Ext W W'→(Ab0 284 165 W' s' ((Gt5 l bs).getD []))→K (.tuple ⟨[.agg ⟨[Sl.v s']⟩,.bool (Gt5 l bs).isSome]⟩) W'):
  Aa1 Tryz.prog W0 M 37 [s.v,sb.v] W K:=
 Aa2 (fun W' hE=>Gt4 (M:=fun _=>False) (h.ext hE) (hb.ext hE) hl hk hbl) (fun W' v W'' hE hE' hP=>by
  obtain⟨s',rfl,h⟩:=hP
  exact kont s' W'' (hE.trans hE') h)
end Go.Proofs.YtjkkidjbppphpaaGreatDoor
/- poly.Diff, cinctureref1.Diff; cincturelaw8.PolyDiffs. -/
namespace Go.Proofs.YtjkkidjbppphpaaGreatDoor
open Go Go.SX
end Go.Proofs.YtjkkidjbppphpaaGreatDoor
