/- Texts of numbers are read: where a byte stands, whole.Parse, rat.Parse. -/
import Derived.Test.YtahohahjnhfedaaGreatDoorW3
import Derived.Test.YtahohahjnhfedaaGreatDoorLib2
import Derived.Shelf.Strings.Search1
import Derived.Test.YtahohahjnhfedaaGreatDoorR4
set_option linter.unusedVariables false
set_option linter.unusedSimpArgs false
set_option maxRecDepth 100000
namespace Go.Proofs.YtahohahjnhfedaaGreatDoor
open Go Go.SX
theorem Bs3 (s:ByteArray) (c:Int) (w:World):Calls Tryz.prog 153 #[.string s,.int .u8 c] w fun e w'=>e = .returned (.int .i64 (firstIdx s c.toNat.toUInt8))∧w'=w:=by
 go_enter Tryz.func153,Tryz.ntmps153
 go_wp2
 rw[run_callFunc_extern Tryz.func167 (by kernel_rfl) (by kernel_rfl) (by kernel_rfl) (e:=Extern.BytealgIndexByte.indexByte) (by kernel_rfl),run_indexByte_string]
 simp only[Result.andThen]
 rw[Oper.upon_value]
 go_wp2
 go_ret
 exact⟨rfl,rfl⟩
theorem Cc5 {W0:PW} {M:Nat→Prop} {a:ByteArray} {c:Nat} (hc:c<256):
  Aa0 Tryz.prog 153 [.string a,.int .u8 (c:Int)] W0 M fun v W'=>v = .int .i64 (Cx6 (Al7 a c a.size 0))∧True:=by
 refine⟨⟨_,Tryz.func153,by kernel_rfl,by kernel_rfl⟩,fun _=>(Bs3 a c W0.w).mono ?_⟩
 rintro e w' ⟨rfl,rfl⟩
 refine⟨_,rfl,Am7.refl _ _,?_,trivial⟩
 rw[Int.toNat_natCast,Bm2 hc]
theorem Bm6 {W0 W:PW} {M:Nat→Prop} {a:ByteArray} {c:Nat} {K:Value→PW→Prop} (hc:c<256) (kont: ∀(W':PW),Ext W W'→(True)→K (.int .i64 (Cx6 (Al7 a c a.size 0))) W'):
  Aa1 Tryz.prog W0 M 153 [.string a,.int .u8 (c:Int)] W K:=
 Aa2 (fun W' hE=>Cc5 (M:=fun _=>False) hc) (fun W' v W'' hE hE' hP=>by
  obtain⟨rfl,h⟩:=hP
  exact kont W'' (hE.trans hE') h)
def Az4:ByteArray:=⟨⟨[47]⟩⟩
theorem Ea8 {W0:PW} {M:Nat→Prop} {a:ByteArray} :
  Aa0 Tryz.prog 132 [.string a,.string Az4] W0 M fun v W'=>v = .int .i64 (Cx6 (Ak5 a))∧True:=by
 apply Am3
 refine⟨fun h=>(by simp[Az4,ByteArray.size] at h),fun _=>⟨?_,?_⟩⟩
 ·rintro rfl W7 _
  have e:Cx6 (Ak5 Az4)=0:=by decide
  rw[e]
  exact⟨rfl,trivial⟩
 ·refine fun hne=>⟨fun _=>⟨⟨by decide,by decide⟩,?_⟩,fun h=>(by exact absurd (by decide) h)⟩
  have e:Ae2 Az4 0=((47:Nat):Int):=by decide
  rw[e]
  exact Bm6 (by decide) fun W9 hE9 _=>⟨_,rfl,fun W11 hE11=>⟨rfl,trivial⟩⟩
theorem Ct6 {W0 W:PW} {M:Nat→Prop} {a:ByteArray} {K:Value→PW→Prop} (kont: ∀(W':PW),Ext W W'→(True)→K (.int .i64 (Cx6 (Ak5 a))) W'):
  Aa1 Tryz.prog W0 M 132 [.string a,.string Az4] W K:=
 Aa2 (fun W' hE=>Ea8 (M:=fun _=>False) ) (fun W' v W'' hE hE' hP=>by
  obtain⟨rfl,h⟩:=hP
  exact kont W'' (hE.trans hE') h)
def Ds6 (a:ByteArray):ByteArray×ByteArray×Bool:=match Ak5 a with
 | some i=>(a.extract 0 i,a.extract (i+1) a.size,true)
 | none=>(a,⟨⟨[]⟩⟩,false)
theorem Ex8 {W0:PW} {M:Nat→Prop} {a:ByteArray} (hs:a.size≤1099511627776):
  Aa0 Tryz.prog 96 [.string a,.string Az4] W0 M fun v W'=>v = .tuple #[.string (Ds6 a).1,.string (Ds6 a).2.1,.bool (Ds6 a).2.2]∧True:=by
 apply Ao4
 refine Ct6 fun W2 hE2 _=>⟨_,rfl,?_⟩
 have e1:(ByteArray.size Az4:Int)=1:=by decide
 rw[e1]
 unfold Ds6
 cases h:Ak5 a with
 | none=>exact⟨fun h=>(by simp only[Cx6] at h;omega),fun _ W5 _=>⟨rfl,trivial⟩⟩
 | some i=>
  have:=Aq6 _ _ h
  refine⟨fun _=>⟨?_,?_,?_,fun W4 _=>⟨?_,trivial⟩⟩,fun h=>(by simp only[Cx6] at h;omega)⟩
  ·simp only[Cx6];omega
  ·simp only[Cx6];unfold I64;omega
  ·simp only[Cx6];omega
  ·simp only[Cx6]
   rw[Int.toNat_natCast,Int.toNat_natCast,show Int.toNat ((i:Int)+1)=i+1 by omega]
theorem Dv7 {W0 W:PW} {M:Nat→Prop} {a:ByteArray} {K:Value→PW→Prop} (hs:a.size≤1099511627776) (kont: ∀(W':PW),Ext W W'→(True)→K (.tuple #[.string (Ds6 a).1,.string (Ds6 a).2.1,.bool (Ds6 a).2.2]) W'):
  Aa1 Tryz.prog W0 M 96 [.string a,.string Az4] W K:=
 Aa2 (fun W' hE=>Ex8 (M:=fun _=>False) hs) (fun W' v W'' hE hE' hP=>by
  obtain⟨rfl,h⟩:=hP
  exact kont W'' (hE.trans hE') h)
theorem Ef8 {W0:PW} {M:Nat→Prop} {a:ByteArray} (hs:a.size≤1099511627776):
  Aa0 Tryz.prog 56 [.string a,.string Az4] W0 M fun v W'=>v = .tuple #[.string (Ds6 a).1,.string (Ds6 a).2.1,.bool (Ds6 a).2.2]∧True:=by
 apply Bp4
 exact Dv7 hs fun W2 hE2 _=>⟨_,_,_,rfl,fun W6 hE6=>⟨rfl,trivial⟩⟩
theorem Dk5 {W0 W:PW} {M:Nat→Prop} {a:ByteArray} {K:Value→PW→Prop} (hs:a.size≤1099511627776) (kont: ∀(W':PW),Ext W W'→(True)→K (.tuple #[.string (Ds6 a).1,.string (Ds6 a).2.1,.bool (Ds6 a).2.2]) W'):
  Aa1 Tryz.prog W0 M 56 [.string a,.string Az4] W K:=
 Aa2 (fun W' hE=>Ef8 (M:=fun _=>False) hs) (fun W' v W'' hE hE' hP=>by
  obtain⟨rfl,h⟩:=hP
  exact kont W'' (hE.trans hE') h)
theorem Em1 {α:Type} {o:Option α} (h:o=none):er o=2:=by rw[h];rfl
theorem Ey7 {α:Type} {o:Option α} (h:er o≠0):o=none:=by
 cases o with
 | none=>rfl
 | some x=>exact absurd rfl h
theorem Ej7 {α:Type} {o:Option α} (h:¬er o≠0): ∃x,o=some x:=by
 cases o with
 | none=>exact absurd (by show(2:Int)≠0;decide) h
 | some x=>exact⟨x,rfl⟩
theorem By0 {t:TypeId} (W:PW):Ab5 t W ⟨none,0,0⟩ false 0:=⟨Af6 W,by decide⟩
theorem Cg7 {W0:PW} {M:Nat→Prop} {a:ByteArray} (hs:a.size≤1099511627776):
  Aa0 Tryz.prog 57 [.string a] W0 M fun v W'=>∃(s':Sl),∃(b':Bool),v = .tuple #[.agg #[Sl.v s',.bool b'],.int .i64 (er (Ac3 a))]∧Ab5 141 W' s' b' ((Ac3 a).getD 0):=by
 apply Bq5
 have bad:Ac3 a=none→∀W':PW,∃(s':Sl) (b':Bool),(Value.tuple #[.agg #[.slice none 0 0,.bool false],.int .i64 2]) = .tuple #[.agg #[Sl.v s',.bool b'],.int .i64 (er (Ac3 a))]∧Ab5 141 W' s' b' ((Ac3 a).getD 0):=by
  intro h W'
  rw[h]
  exact⟨⟨none,0,0⟩,false,rfl,By0 W'⟩
 have hs0:Ae2 a 0=(sb a 0:Int):=Ao5 a 0
 have hp0:¬(0<a.size∧sb a 0=45)→Ac3 a=(Ad2 a).map fun x=>(x:Int):=fun h=>by unfold Ac3;rw[if_neg h]
 have hp1:(0<a.size∧sb a 0=45)→Ac3 a=match Ad2 (a.extract 1 a.size) with
  | some x=>if x=0 then none else some (-(x:Int))
  | none=>none:=fun h=>by unfold Ac3;rw[if_pos h];rfl
 refine⟨fun hz=>?_,fun hz=>?_⟩
 ·have hz':=Bi0.1 hz
  refine⟨by omega,fun l W=>match l with | [.val (.string u)]=>u=if sb a 0=45 then a.extract 1 a.size else a | _=>False,⟨fun h=>⟨by omega,?_⟩,fun h=>?_⟩,?_⟩
  ·show _=_
   rw[if_pos (by omega)];rfl
  ·show _=_
   rw[if_neg (by omega)]
  rintro t2 W3 rfl
  refine Au3 fun s6 W5 hE5 h6=>⟨s6,_,rfl,fun l W=>match l with | [.cells _]=>Ext W5 W∧(Ad2 (if sb a 0=45 then a.extract 1 a.size else a)).isSome=true∧(sb a 0=45→Ad2 (a.extract 1 a.size)≠some 0) | _=>False,⟨fun hne=>fun W9 _=>?_,fun heq=>⟨fun h45=>?_,fun h45=>?_⟩⟩,?_⟩
  ·have hn:=Ey7 hne
   apply bad
   by_cases h45:sb a 0=45
   ·rw[if_pos h45] at hn
    rw[hp1 ⟨by omega,h45⟩,hn]
   ·rw[if_neg h45] at hn
    rw[hp0 (by omega),hn];rfl
  ·have h45':sb a 0=45:=by omega
   obtain⟨x,hx⟩:=Ej7 heq
   rw[if_pos h45'] at hx h6
   rw[hx] at h6
   have hnl:=Ap1 hx
   refine Ac9 h6 (by show nl x≤_;omega) fun W11 hE11 _=>⟨_,rfl,fun h0 W13 _=>?_,fun h0=>⟨hE11,?_,fun _=>?_⟩⟩
   ·have:x=0:=Ag3.1 (by simpa using h0)
    apply bad
    rw[hp1 ⟨by omega,h45'⟩,hx]
    simp[this]
   ·rw[if_pos h45',hx];rfl
   ·rw[hx]
    intro e
    cases e
    exact h0 rfl
  ·obtain⟨x,hx⟩:=Ej7 heq
   exact⟨Ext.refl _,by rw[hx];rfl,fun h=>absurd h (by omega)⟩
  rintro s15 b16 W17 ⟨hE17,hsome,hn0⟩
  obtain⟨x,hx⟩:=Option.isSome_iff_exists.1 hsome
  rw[hx] at h6
  have h6:Aa6 141 W5 s6 x:=h6
  have hnl:=Ap1 hx
  refine Ad6 (h6.ext hE17) (by omega) fun s20 b21 W19 hE19 h20=>⟨s20,b21,rfl,fun W22 hE22=>?_⟩
  by_cases h45:sb a 0=45
  ·rw[if_pos h45] at hx
   rw[if_pos (by rw[hs0];simp[h45])] at h20
   have hx0:x≠0:=fun e=>hn0 h45 (by rw[hx,e])
   have hpe:Ac3 a=some (-(x:Int)):=by
    rw[hp1 ⟨by omega,h45⟩,hx]
    simp[hx0]
   rw[hpe]
   exact⟨s20,b21,rfl,h20.ext hE22⟩
  ·rw[if_neg h45] at hx
   rw[if_neg (by rw[hs0];simp;omega)] at h20
   have hpe:Ac3 a=some (x:Int):=by
    rw[hp0 (by omega),hx];rfl
   rw[hpe]
   exact⟨s20,b21,rfl,h20.ext hE22⟩
 ·have hz':a.size=0:=Decidable.byContradiction fun h=>hz (Bi0.2 h)
  have hpn:Ad2 a=none:=Bh4 fun h=>h.1 hz'
  have hpi:Ac3 a=none:=by rw[hp0 (by omega),hpn];rfl
  refine⟨fun l W=>match l with | [.val (.string u)]=>u=a | _=>False,rfl,?_⟩
  rintro t24 W25 rfl
  refine Au3 fun s6 W5 hE5 h6=>⟨s6,_,rfl,fun l W=>False,⟨fun _=>fun W9 _=>bad hpi W9,fun h=>absurd (Em1 hpn) (by omega)⟩,fun _ _ _ h=>h.elim⟩
theorem Aw8 {W0 W:PW} {M:Nat→Prop} {a:ByteArray} {K:Value→PW→Prop} (hs:a.size≤1099511627776) (kont: ∀(s':Sl) (b':Bool) (W':PW),Ext W W'→(Ab5 141 W' s' b' ((Ac3 a).getD 0))→K (.tuple #[.agg #[Sl.v s',.bool b'],.int .i64 (er (Ac3 a))]) W'):
  Aa1 Tryz.prog W0 M 57 [.string a] W K:=
 Aa2 (fun W' hE=>Cg7 (M:=fun _=>False) hs) (fun W' v W'' hE hE' hP=>by
  obtain⟨s',b',rfl,h⟩:=hP
  exact kont s' b' W'' (hE.trans hE') h)
theorem Br3 {d:Nat} {n:Int} (h:¬(d<2∨Nat.gcd d n.natAbs≠1)):(mkRat n d).num=n∧dn (mkRat n d)=d:=by
 have hg:Nat.gcd d n.natAbs=1:=Decidable.byContradiction fun e=>h (.inr e)
 have hd:¬d<2:=fun e=>h (.inl e)
 have h1:(mkRat n d).num=n:=by
  rw[Rat.num_mkRat,if_neg (by omega),hg];simp
 have h2:(mkRat n d).den=d:=by
  rw[Rat.den_mkRat,if_neg (by omega)]
  rw[Nat.gcd_comm,Nat.gcd_comm] at *
  rw[hg];simp
 refine⟨h1,?_⟩
 unfold dn
 rw[h2,if_neg (by omega)]
theorem Dc9 {W0:PW} {M:Nat→Prop} {a:ByteArray} (hs:a.size≤1099511627776):
  Aa0 Tryz.prog 20 [.string a] W0 M fun v W'=>∃(s':Sl),∃(b':Bool),∃(t':Sl),v = .tuple #[.agg #[Sl.v s',.bool b',Sl.v t'],.int .i64 (er (Ab7 a))]∧Ab3 141 W' s' b' t' ((Ab7 a).getD 0):=by
 apply Cm5
 have bad:Ab7 a=none→∀W':PW,∃(s':Sl) (b':Bool) (t':Sl),(Value.tuple #[.agg #[.slice none 0 0,.bool false,.slice none 0 0],.int .i64 2]) = .tuple #[.agg #[Sl.v s',.bool b',Sl.v t'],.int .i64 (er (Ab7 a))]∧Ab3 141 W' s' b' t' ((Ab7 a).getD 0):=by
  intro h W'
  rw[h]
  exact⟨⟨none,0,0⟩,false,⟨none,0,0⟩,rfl,Ef0 W'⟩
 have hint: ∀(W:PW) (s8:Sl) (b9:Bool) (n:Int),Ab5 141 W s8 b9 n→Ab3 141 W s8 b9 ⟨none,0,0⟩ (n:Rat):=by
  intro W s8 b9 n h
  refine⟨by rw[Rat.num_intCast];exact h,?_⟩
  have:dn (n:Rat)=0:=Aq0.2 (Rat.den_intCast n)
  rw[this]
  exact Af6 W
 refine Dk5 (a:=a) hs fun W2 hE2 _=>⟨_,_,_,rfl,?_⟩
 unfold Ds6
 cases hsl:Ak5 a with
 | none=>
  have hq:Ab7 a=(Ac3 a).map fun(z:Int)=>(z:Rat):=by unfold Ab7;rw[hsl]
  refine Aw8 hs fun s8 b9 W7 hE7 h8=>⟨s8,b9,_,rfl,fun _ _=>False,⟨fun hne=>fun W12 hE12=>?_,fun heq=>⟨fun _ W13 hE13=>?_,fun h=>(by cases h)⟩⟩,fun _ _ _ _ h=>h.elim⟩
  ·have hn:=Ey7 hne
   rw[hn] at h8
   rw[hq,hn]
   exact⟨s8,b9,⟨none,0,0⟩,rfl,hint _ _ _ 0 (h8.ext hE12)⟩
  ·obtain⟨n,hn⟩:=Ej7 heq
   rw[hn] at h8
   rw[hq,hn]
   exact⟨s8,b9,⟨none,0,0⟩,rfl,hint _ _ _ n (h8.ext hE13)⟩
 | some i=>
  have hi:=Aq6 _ _ hsl
  have hq:Ab7 a=match Ac3 (a.extract 0 i),Ad2 (a.extract (i+1) a.size) with
   | some n,some d=>if d<2∨Nat.gcd d n.natAbs≠1 then none else some (mkRat n d)
   | _,_=>none:=by unfold Ab7;rw[hsl];rfl
  dsimp only
  refine Aw8 (by rw[ByteArray.size_extract];omega) fun s8 b9 W7 hE7 h8=>⟨s8,b9,_,rfl,fun l W=>Ext W7 W∧∃n,Ac3 (a.extract 0 i)=some n,⟨fun hne=>fun W12 hE12=>?_,fun heq=>⟨fun h=>(by cases h),fun _=>⟨Ext.refl _,Ej7 heq⟩⟩⟩,?_⟩
  ·have hn:=Ey7 hne
   rw[hn] at h8
   rw[Em1 hn,hq,hn]
   exact⟨s8,b9,⟨none,0,0⟩,rfl,hint _ _ _ 0 (h8.ext hE12)⟩
  rintro s14 b15 s16 W17 ⟨hE17,n,hn⟩
  rw[hn] at hq h8
  have hnn:=Be9 hn
  have h8:Ab5 141 W17 s8 b9 n:=h8.ext hE17
  refine Au3 fun s20 W19 hE19 h20=>⟨s20,_,rfl,fun l W=>Ext W19 W∧∃d,Ad2 (a.extract (i+1) a.size)=some d∧¬(d<2∨Nat.gcd d n.natAbs≠1),⟨fun hne=>fun W23 _=>bad ?_ W23,fun heq=>?_⟩,?_⟩
  ·rw[hq,Ey7 hne]
  ·obtain⟨d,hd⟩:=Ej7 heq
   rw[hd] at hq h20
   have hdn:=Ap1 hd
   have h20:Aa6 141 W19 s20 d:=h20
   refine Ac9 h20 (by omega) fun W35 hE35 _=>⟨_,rfl,fun hlt=>fun W37 _=>bad ?_ W37,fun hge=>?_⟩
   ·have:d<2:=Ah4.1 (by omega)
    rw[hq]
    simp[this]
   ·have hd2:¬d<2:=fun h=>hge (by have:=Ah4.2 h;omega)
    refine Ag5 ((h8.ext hE19).ext hE35) fun s40 W39 hE39 h40=>⟨s40,rfl,?_⟩
    refine Bu2 ((h20.ext hE35).ext hE39) h40 (by omega) (by omega) fun s43 W42 hE42 h43=>⟨s43,rfl,?_⟩
    have hgn:nl (Nat.gcd d n.natAbs)≤4000:=Nat.le_trans (Ad1 (Nat.gcd_le_left _ (by omega))) hdn
    refine Ac9 h43 (by omega) fun W45 hE45 _=>⟨_,rfl,fun hlt W47 _=>bad ?_ W47,fun hge2=>⟨((hE35.trans hE39).trans hE42).trans hE45,d,hd,?_⟩⟩
    ·have:Nat.gcd d n.natAbs≠1:=fun e=>by
      rw[e] at hlt
      exact absurd hlt (by decide)
     rw[hq]
     simp[this]
    ·rintro(h | h)
     ·exact hd2 h
     ·have h0:Nat.gcd d n.natAbs≠0:=fun e=>by
       have:=(Nat.gcd_eq_zero_iff.1 e).1
       omega
      have:Nat.gcd d n.natAbs<2:=Ah4.1 (by omega)
      omega
  ·rintro s48 b49 s50 W51 ⟨hE51,d,hd,hc⟩ W52 hE52
   rw[hd] at hq h20
   have hqe:Ab7 a=some (mkRat n d):=by rw[hq];exact if_neg hc
   rw[hqe]
   have hm:=Br3 hc
   refine⟨s8,b9,s20,rfl,?_,?_⟩
   ·show Ab5 _ _ _ _ (mkRat n d).num
    rw[hm.1]
    exact((h8.ext hE19).ext hE51).ext hE52
   ·show Aa6 _ _ _ (dn (mkRat n d))
    rw[hm.2]
    exact(h20.ext hE51).ext hE52
theorem As8 {W0 W:PW} {M:Nat→Prop} {a:ByteArray} {K:Value→PW→Prop} (hs:a.size≤1099511627776) (kont: ∀(s':Sl) (b':Bool) (t':Sl) (W':PW),Ext W W'→(Ab3 141 W' s' b' t' ((Ab7 a).getD 0))→K (.tuple #[.agg #[Sl.v s',.bool b',Sl.v t'],.int .i64 (er (Ab7 a))]) W'):
  Aa1 Tryz.prog W0 M 20 [.string a] W K:=
 Aa2 (fun W' hE=>Dc9 (M:=fun _=>False) hs) (fun W' v W'' hE hE' hP=>by
  obtain⟨s',b',t',rfl,h⟩:=hP
  exact kont s' b' t' W'' (hE.trans hE') h)
end Go.Proofs.YtahohahjnhfedaaGreatDoor
/- cinctureref1: natural numbers: trim, NatOf, CmpNat, Bits, AddNat, SubNat. -/
namespace Go.Proofs.YtahohahjnhfedaaGreatDoor
open Go Go.SX
theorem Cx7 {n:Nat} (h:n<18446744073709551616):bits .and .u64 (n:Int) 4294967295=((n%B:Nat):Int):=by
 have e:((4294967295:Nat):Int)=4294967295:=rfl
 rw[←e,u64_and_nat _ _ h (by decide)]
 congr 1
 exact Nat.and_two_pow_sub_one_eq_mod n 32
def rtI (W0:PW) (l0:List Nat) (l:List PL) (W:PW):Prop:=
 match l with
 | [.val (.int .i64 k)]=>Ext W0 W∧∃k':Nat,k=(k':Int)∧k'≤l0.length∧val (l0.take k')=val l0
 | _=>False
def rtM (l:List PL) (W:PW):Nat:=
 match l with
 | [.val (.int .i64 k)]=>k.toNat
 | _=>0
theorem Bt5 {W0:PW} {M:Nat→Prop} {s:Sl} {l:List Nat} (h:Row W0 141 1 s (cel l)) (hd:Dig l) (hl:l.length≤1099511627776):
  Aa0 Tryz.prog 94 [s.v] W0 M fun v W'=>∃(k:Nat),v = .slice s.A k s.c∧k≤l.length∧dg (val l)=l.take k:=by
 apply Cl7
 have hn:s.n=l.length:=Ad4.n h
 have hnc:s.n≤s.c:=h.2.1
 have fin: ∀(k:Nat),k≤l.length→val (l.take k)=val l→Trim (l.take k)→∃k':Nat,Sl.v (Sl.cut {A:=Sl.A s,n:=Sl.n s,c:=Sl.c s } (TyI.size Ld1) (Int.toNat 0) (Int.toNat (k:Int))) = .slice s.A k' s.c∧k'≤l.length∧dg (val l)=l.take k':=by
  intro k hk hv ht
  rw[show Int.toNat 0=0 from rfl,show TyI.size Ld1=1 from rfl,Sl.Ar0,Int.toNat_natCast]
  exact⟨k,rfl,hk,by rw[←hv,Bk0 (hd.take k) ht]⟩
 refine⟨rtI W0 l,rtM,⟨Ext.refl _,l.length,by omega,Nat.le_refl _,by rw[List.take_length]⟩,?_⟩
 rintro i3 W4 ⟨hE4,k,rfl,hk,hv⟩
 have h4:Ad4 141 W4 s l:=Row.ext h hE4
 refine⟨fun hpos=>?_,fun hz=>⟨by omega,fun W7 hE7=>fin k hk hv ?_⟩⟩
 ·have hk1:k-1<l.length:=by omega
  have e1:((k:Int)-1)=((k-1:Nat):Int):=by omega
  rw[e1]
  refine⟨by unfold I64;omega,Ad4.inB h4 (by omega) (by omega),((l[k-1]:Nat):Int),by rw[Int.toNat_natCast];exact Ad4.at h4 hk1,fun h0=>⟨by unfold I64;omega,⟨hE4,k-1,rfl,by omega,?_⟩,?_⟩,fun h0=>⟨by omega,fun W6 hE6=>fin k hk hv ?_⟩⟩
  ·have:=Aa4 hk1
   rw[show k-1+1=k by omega,hv,show l[k-1]=0 by omega,Nat.mul_zero,Nat.add_zero] at this
   exact this.symm
  ·show Int.toNat ((k-1:Nat):Int)<Int.toNat (k:Int)
   omega
  ·unfold Trim
   rw[List.getLast?_eq_getElem?,List.length_take,Nat.min_eq_left hk,List.getElem?_take,if_pos (by omega),List.getElem?_eq_getElem hk1]
   intro e
   have:=Option.some.inj e
   omega
 ·have:k=0:=by omega
  subst this
  exact fun h=>by simp at h
theorem Cm7 {W0 W:PW} {M:Nat→Prop} {s:Sl} {l:List Nat} {K:Value→PW→Prop} (h:Row W 141 1 s (cel l)) (hd:Dig l) (hl:l.length≤1099511627776) (kont: ∀(k:Nat) (W':PW),Ext W W'→(k≤l.length∧dg (val l)=l.take k)→K (.slice s.A k s.c) W'):
  Aa1 Tryz.prog W0 M 94 [s.v] W K:=
 Aa2 (fun W' hE=>Bt5 (M:=fun _=>False) (h.ext hE) hd hl) (fun W' v W'' hE hE' hP=>by
  obtain⟨k,rfl,h⟩:=hP
  exact kont k W'' (hE.trans hE') h)
theorem Dy6 {W0:PW} {M:Nat→Prop} {s:Sl} {l:List Nat} (h:Row W0 141 1 s (cel l)) (hd:Dig l) (hl:l.length≤1099511627776):
  Aa0 Tryz.prog 94 [s.v] W0 M fun v W'=>∃(s':Sl),v=Sl.v s'∧Aa6 141 W' s' (val l):=by
 have hp:Cd9 Tryz.prog 94 [s.v] W0 (fun v W'=>∃s':Sl,v=Sl.v s'∧Aa6 141 W' s' (val l)):=Cd9.mono (Bt5 h hd hl) fun v W' hE ⟨k,hv,hk,he⟩=>⟨⟨s.A,k,s.c⟩,hv,by
  show Ad4 141 W' _ (dg (val l))
  rw[he]
  exact Row.ext (Ad4.take h hk) hE⟩
 exact Aa0.mono hp (fun _ h=>h.elim) fun _ _ _ h=>h
theorem An1 {W0 W:PW} {M:Nat→Prop} {s:Sl} {l:List Nat} {K:Value→PW→Prop} (h:Row W 141 1 s (cel l)) (hd:Dig l) (hl:l.length≤1099511627776) (kont: ∀(s':Sl) (W':PW),Ext W W'→(Aa6 141 W' s' (val l))→K (Sl.v s') W'):
  Aa1 Tryz.prog W0 M 94 [s.v] W K:=
 Aa2 (fun W' hE=>Dy6 (M:=fun _=>False) (h.ext hE) hd hl) (fun W' v W'' hE hE' hP=>by
  obtain⟨s',rfl,h⟩:=hP
  exact kont s' W'' (hE.trans hE') h)
theorem Dn8 {W0:PW} {M:Nat→Prop} {x:Nat} (hx:x<B*B):
  Aa0 Tryz.prog 52 [.int .u64 (x:Int)] W0 M fun v W'=>∃(s':Sl),v=Sl.v s'∧Aa6 141 W' s' x:=by
 apply Cb7
 intro s1 W2 hE2 hO hnew
 rw[Cx7 (by unfold B at hx;omega),Ao0,Ab9,Ab9,Nat.mod_mod] at hO
 have hO:Go.SX.Own W2 141 1 s1 (cel [x%B,x/B%B]):=hO
 have hb:x/B<B:=(Nat.div_lt_iff_lt_mul Ad3).2 hx
 rw[Nat.mod_eq_of_lt hb] at hO
 have hd:Dig [x%B,x/B]:=Dig.cons (Nat.mod_lt _ Ad3) (Dig.cons hb Dig.nil)
 refine An1 hO.row hd (by simp) fun s' W5 hE5 hs=>⟨s',rfl,fun W7 hE7=>⟨s',rfl,?_⟩⟩
 have e:val [x%B,x/B]=x:=by simp only[val];have:=Nat.mod_add_div x B;omega
 rw[e] at hs
 exact hs.ext hE7
theorem Ae0 {W0 W:PW} {M:Nat→Prop} {x:Nat} {K:Value→PW→Prop} (hx:x<B*B) (kont: ∀(s':Sl) (W':PW),Ext W W'→(Aa6 141 W' s' x)→K (Sl.v s') W'):
  Aa1 Tryz.prog W0 M 52 [.int .u64 (x:Int)] W K:=
 Aa2 (fun W' hE=>Dn8 (M:=fun _=>False) hx) (fun W' v W'' hE hE' hP=>by
  obtain⟨s',rfl,h⟩:=hP
  exact kont s' W'' (hE.trans hE') h)
theorem Cd8 {x y:Nat} (h:nl x<nl y):x<y:=by
 apply Nat.lt_of_not_le
 intro hle
 have:=Ad1 hle
 omega
def cmI (x y:Nat) (W0:PW) (l:List PL) (W:PW):Prop:=
 match l with
 | [.val (.int .i64 k)]=>Ext W0 W∧∃k':Nat,k=(k':Int)-1∧k'≤nl x∧(dg x).drop k'=(dg y).drop k'
 | _=>False
def cmM (l:List PL) (W:PW):Nat:=
 match l with
 | [.val (.int .i64 k)]=>(k+1).toNat
 | _=>0
theorem Ek1 {W0:PW} {M:Nat→Prop} {s t:Sl} {x y:Nat} (h1:Aa6 141 W0 s x) (h2:Aa6 141 W0 t y) (hx:nl x≤1099511627776):
  Aa0 Tryz.prog 54 [s.v,t.v] W0 M fun v W'=>v = .int .i64 (Dt2 x y)∧True:=by
 apply Bs6
 have n1:=h1.n
 have n2:=h2.n
 have hlx:(dg x).length=nl x:=rfl
 have hly:(dg y).length=nl y:=rfl
 refine⟨fun hne=>⟨fun hlt W1 _=>?_,fun hge W2 _=>?_⟩,fun heq=>⟨by unfold I64;omega,cmI x y W0,cmM,⟨Ext.refl _,nl x,by omega,Nat.le_refl _,?_⟩,?_⟩⟩
 ·rw[Al0 (Cd8 (by omega))];exact⟨rfl,trivial⟩
 ·rw[Aj4 (Cd8 (by omega))];exact⟨rfl,trivial⟩
 ·rw[List.drop_of_length_le (by omega),List.drop_of_length_le (by omega)]
 rintro i5 W6 ⟨hE6,k,rfl,hk,hdr⟩
 have ha:=h1.ext hE6
 have hb:=h2.ext hE6
 refine⟨fun h0=>?_,fun h0 W13 _=>?_⟩
 ·have ei:(k:Int)-1=((k-1:Nat):Int):=by omega
  have hka:k-1<(dg x).length:=by omega
  have hkb:k-1<(dg y).length:=by omega
  have hdr':(dg x).drop (k-1+1)=(dg y).drop (k-1+1):=by rw[show k-1+1=k by omega];exact hdr
  rw[ei]
  have ia:=Ad4.inB ha (i:=((k-1:Nat):Int)) (by omega) (by omega)
  have ib:=Ad4.inB hb (i:=((k-1:Nat):Int)) (by omega) (by omega)
  have ea:=Ad4.at ha hka
  have eb:=Ad4.at hb hkb
  refine⟨ia,(((dg x)[k-1]:Nat):Int),ea,ib,(((dg y)[k-1]:Nat):Int),eb,fun hlt W9 _=>?_,fun hge=>⟨ia,(((dg x)[k-1]:Nat):Int),ea,ib,(((dg y)[k-1]:Nat):Int),eb,fun hlt W12 _=>?_,fun hge2=>⟨by unfold I64;omega,⟨hE6,k-1,by omega,by omega,?_⟩,?_⟩⟩⟩
  ·have:=Cj5 (Ad8 x) hka hkb hdr' (by omega)
   rw[Ac5,Ac5] at this
   rw[Al0 this];exact⟨rfl,trivial⟩
  ·have:=Cj5 (Ad8 y) hkb hka hdr'.symm (by omega)
   rw[Ac5,Ac5] at this
   rw[Aj4 this];exact⟨rfl,trivial⟩
  ·rw[List.drop_eq_getElem_cons hka,List.drop_eq_getElem_cons hkb,hdr']
   congr 1
   omega
  ·show Int.toNat (((k-1:Nat):Int)-1+1)<Int.toNat (((k-1:Nat):Int)+1)
   omega
 ·have:k=0:=by omega
  subst this
  have:x=y:=by
   rw[List.drop_zero,List.drop_zero] at hdr
   rw[←Ac5 x,hdr,Ac5]
  subst this
  rw[Ap9];exact⟨rfl,trivial⟩
theorem Aj3 {W0 W:PW} {M:Nat→Prop} {s t:Sl} {x y:Nat} {K:Value→PW→Prop} (h1:Aa6 141 W s x) (h2:Aa6 141 W t y) (hx:nl x≤1099511627776) (kont: ∀(W':PW),Ext W W'→(True)→K (.int .i64 (Dt2 x y)) W'):
  Aa1 Tryz.prog W0 M 54 [s.v,t.v] W K:=
 Aa2 (fun W' hE=>Ek1 (M:=fun _=>False) (h1.ext hE) (h2.ext hE) hx) (fun W' v W'' hE hE' hP=>by
  obtain⟨rfl,h⟩:=hP
  exact kont W'' (hE.trans hE') h)
def rbI (N:Nat) (W0:PW) (l:List PL) (W:PW):Prop:=
 match l with
 | [.val (.int .i64 n),.val (.int .u32 v)]=>Ext W0 W∧∃n' v':Nat,n=(n':Int)∧v=(v':Int)∧n'+Aj9 v'=N
 | _=>False
def rbM (l:List PL) (W:PW):Nat:=
 match l with
 | [_,.val (.int .u32 v)]=>v.toNat
 | _=>0
theorem Cy4 {v:Nat} (h:0<v):Aj9 v=Aj9 (v/2)+1:=by
 by_cases h2:2≤v
 ·have:=Bg3 (x:=v) 1 (by simpa using h2)
  rw[this]
  simp
  omega
 ·have:v=1:=by omega
  subst this
  decide
theorem Ea0 {W0:PW} {M:Nat→Prop} {s:Sl} {x:Nat} (h:Aa6 141 W0 s x) (hx:nl x≤274877906944):
  Aa0 Tryz.prog 91 [s.v] W0 M fun v W'=>v = .int .i64 ((Aj9 x:Nat):Int)∧True:=by
 apply Ci5
 have hn:=h.n
 have hlx:(dg x).length=nl x:=rfl
 refine⟨fun h0 W1 _=>?_,fun h0=>?_⟩
 ·have:x=0:=Ad0.1 (by omega)
  subst this
  exact⟨rfl,trivial⟩
 ·have hx0:x≠0:=fun e=>h0 (by rw[hn,e,Ag9];rfl)
  obtain⟨hk,ht,hB,hv⟩:=Bt4 hx0
  have e1:((s.n:Int)-1)=((nl x-1:Nat):Int):=by omega
  rw[e1]
  have hb:Aj9 x=32*(nl x-1)+Aj9 (dg x)[nl x-1]:=by
   conv=>lhs;rw[hv]
   exact Do4 (Ae6 (Ad8 x) _) ht
  refine⟨by unfold I64;omega,by unfold I64;omega,by unfold I64;omega,Ad4.inB h (by omega) (by omega),(((dg x)[nl x-1]:Nat):Int),by rw[Int.toNat_natCast];exact Ad4.at h hk,rbI (Aj9 x) W0,rbM,⟨Ext.refl _,32*(nl x-1),_,by push_cast;rfl,rfl,hb.symm⟩,?_⟩
  rintro i5 i6 W7 ⟨hE7,n,v,rfl,rfl,hs⟩
  have hbl:Aj9 (dg x)[nl x-1]≤32:=Bb9 hB
  refine⟨fun hpos=>⟨?_,⟨hE7,n+1,v/2,by push_cast;rfl,?_,?_⟩,?_⟩,fun hz W8 _=>?_⟩
  ·have:=Cy4 (v:=v) (by omega)
   unfold I64
   omega
  ·exact Ay2 v 1
  ·have:=Cy4 (v:=v) (by omega)
   omega
  ·have e:=Ay2 v 1
   show Int.toNat (Ah0 (v:Int) 1)<Int.toNat (v:Int)
   rw[e]
   omega
  ·have:v=0:=by omega
   subst this
   have:n=Aj9 x:=by rw[Eq1] at hs;omega
   subst this
   exact⟨rfl,trivial⟩
theorem Bj8 {W0 W:PW} {M:Nat→Prop} {s:Sl} {x:Nat} {K:Value→PW→Prop} (h:Aa6 141 W s x) (hx:nl x≤274877906944) (kont: ∀(W':PW),Ext W W'→(True)→K (.int .i64 ((Aj9 x:Nat):Int)) W'):
  Aa1 Tryz.prog W0 M 91 [s.v] W K:=
 Aa2 (fun W' hE=>Ea0 (M:=fun _=>False) (h.ext hE) hx) (fun W' v W'' hE hE' hP=>by
  obtain⟨rfl,h⟩:=hP
  exact kont W'' (hE.trans hE') h)
theorem Ay7 (l:List Nat) (k:Nat):val (l.take (k+1))=val (l.take k)+B^k*(l[k]?.getD 0):=by
 by_cases h:k<l.length
 ·rw[Aa4 h,List.getElem?_eq_getElem h];rfl
 ·rw[Dm7 (by omega),List.getElem?_eq_none (by omega)]
  simp
theorem El4 {W0:PW} {M:Nat→Prop} {s t:Sl} {x y:Nat} (h1:Aa6 141 W0 s x) (h2:Aa6 141 W0 t y) (hx:nl x≤549755813888) (hy:nl y≤549755813888):
  Aa0 Tryz.prog 131 [s.v,t.v] W0 M fun v W'=>∃(s':Sl),v=Sl.v s'∧Aa6 141 W' s' (x+y):=by
 apply Bu5
 have n1:=h1.n
 have n2:=h2.n
 have hlx:(dg x).length=nl x:=rfl
 have hly:(dg y).length=nl y:=rfl
 obtain⟨m,hm⟩: ∃m,max (nl x) (nl y)=m:=⟨_,rfl⟩
 have em:mx (s.n:Int) (t.n:Int)=(m:Int):=by unfold mx;split<;>omega
 unfold Bl3
 simp only[em]
 refine⟨by unfold I64;omega,⟨trivial,by omega,by omega⟩,fun l W=>match l with
  | [.val (.int .u64 c),.val (.int .i64 k),.row xs]=>Ext W0 W∧∃(c' k':Nat) (zs:List Nat),c=(c':Int)∧k=(k':Int)∧xs=cel zs∧k'≤m+1∧zs.length=m+1∧Dig zs∧
   val (zs.take k')+B^k'*c'=val ((dg x).take k')+val ((dg y).take k')∧c'≤1
  | _=>False,fun l _=>match l with | [_,.val (.int .i64 k),_]=>m+1-k.toNat | _=>0,?_,?_⟩
 ·refine⟨Ext.refl _,0,0,List.replicate (m+1) 0,rfl,rfl,?_,by omega,by simp,fun d hd=>?_,by simp[val],by omega⟩
  ·rw[show Int.toNat ((m:Int)+1)=m+1 by omega];exact Ae3 _
  ·rw[(List.mem_replicate.1 hd).2];decide
 rintro l3 i4 i5 W6 ⟨hE6,c,k,zs,rfl,rfl,rfl,hk,hz,hdz,hv,hc⟩
 have ha:=h1.ext hE6
 have hb:=h2.ext hE6
 rw[Aa5]
 have hw: ∀da db:Nat,da<B→db<B→c+da+db<2*B∧c+da+db<18446744073709551616:=by
  intro da db h1 h2
  unfold B at *
  omega
 have step: ∀da db:Nat,(dg x)[k]?.getD 0=da→(dg y)[k]?.getD 0=db→da<B→db<B→k<m+1→val ((zs.set k ((c+da+db)%B)).take (k+1))+B^(k+1)*((c+da+db)/B)=val ((dg x).take (k+1))+val ((dg y).take (k+1))∧(c+da+db)/B≤1:=by
  intro da db hda hdb hA hB hkm
  rw[Ac1 (by omega),Ay7 (dg x),Ay7 (dg y),hda,hdb,Nat.pow_succ]
  refine⟨Bo5 hv,?_⟩
  have:=(Nat.div_lt_iff_lt_mul Ad3).2 (hw da db hA hB).1
  omega
 have nxt: ∀(da db:Nat),(dg x)[k]?.getD 0=da→(dg y)[k]?.getD 0=db→da<B→db<B→k<m+1→∃(c' k':Nat) (zs':List Nat),(((c+da+db)/B:Nat):Int)=(c':Int)∧((k:Int)+1)=(k':Int)∧(cel zs).set k [.int .u32 (((c+da+db)%B:Nat):Int)]=cel zs'∧k'≤m+1∧zs'.length=m+1∧Dig zs'∧
   val (zs'.take k')+B^k'*c'=val ((dg x).take k')+val ((dg y).take k')∧c'≤1:=by
  intro da db hda hdb hA hB hkm
  obtain⟨e1,e2⟩:=step da db hda hdb hA hB hkm
  exact⟨_,k+1,_,rfl,by push_cast;rfl,Ae9 ..,by omega,by simpa using hz,hdz.set (Nat.mod_lt _ Ad3),e1,e2⟩
 refine⟨fun hlt=>?_,fun hge s10 W11 hE11 hO hnew=>?_⟩
 ·have hkm:k<m+1:=by omega
  have hmeas: ∀z:Int,z=(k:Int)+1→m+1-z.toNat<m+1-Int.toNat (k:Int):=by intro z hz;omega
  have e0:Int.toNat (k:Int)=k:=rfl
  refine⟨fun hlta=>?_,fun hgea=>?_⟩
  ·have hka:k<(dg x).length:=by omega
   have da:=(Ad8 x).at hka
   obtain⟨u,hu⟩: ∃u,(dg x)[k]=u:=⟨_,rfl⟩
   have hu':(dg x)[k]?.getD 0=u:=by rw[List.getElem?_eq_getElem hka,hu];rfl
   rw[hu] at da
   have eu:IntKind.wrap .u64 (u:Int)=(u:Int):=Ab1 (by unfold B at da;omega)
   refine⟨Ad4.inB ha (by omega) (by omega),(u:Int),by rw[←hu];exact Ad4.at ha hka,fun hltb=>?_,fun hgeb=>?_⟩
   ·have hkb:k<(dg y).length:=by omega
    have db:=(Ad8 y).at hkb
    obtain⟨v,hv'⟩: ∃v,(dg y)[k]=v:=⟨_,rfl⟩
    have hv2:(dg y)[k]?.getD 0=v:=by rw[List.getElem?_eq_getElem hkb,hv'];rfl
    rw[hv'] at db
    have ev:IntKind.wrap .u64 (v:Int)=(v:Int):=Ab1 (by unfold B at db;omega)
    have w1:=hw u v da db
    have e:IntKind.wrap .u64 (IntKind.wrap .u64 ((c:Int)+IntKind.wrap .u64 (u:Int))+IntKind.wrap .u64 (v:Int))=((c+u+v:Nat):Int):=by
     rw[eu,ev,←Int.natCast_add,Ab1 (by omega),←Int.natCast_add,Ab1 (by omega)]
    refine⟨Ad4.inB hb (by omega) (by omega),(v:Int),by rw[←hv'];exact Ad4.at hb hkb,⟨by omega,by omega⟩,by omega,by unfold I64;omega,?_,hmeas _ rfl⟩
    rw[e,Ao0,Cx7 w1.2,Ab9,Nat.mod_mod,e0]
    exact⟨hE6,nxt u v hu' hv2 da db hkm⟩
   ·have hv2:(dg y)[k]?.getD 0=0:=by rw[List.getElem?_eq_none (by omega)];rfl
    have w1:=hw u 0 da Ad3
    have e:IntKind.wrap .u64 ((c:Int)+IntKind.wrap .u64 (u:Int))=((c+u+0:Nat):Int):=by
     rw[eu,←Int.natCast_add,Ab1 (by omega)];rfl
    refine⟨⟨by omega,by omega⟩,by omega,by unfold I64;omega,?_,hmeas _ rfl⟩
    rw[e,Ao0,Cx7 w1.2,Ab9,Nat.mod_mod,e0]
    exact⟨hE6,nxt u 0 hu' hv2 da Ad3 hkm⟩
  ·have hu':(dg x)[k]?.getD 0=0:=by rw[List.getElem?_eq_none (by omega)];rfl
   refine⟨fun hltb=>?_,fun hgeb=>?_⟩
   ·have hkb:k<(dg y).length:=by omega
    have db:=(Ad8 y).at hkb
    obtain⟨v,hv'⟩: ∃v,(dg y)[k]=v:=⟨_,rfl⟩
    have hv2:(dg y)[k]?.getD 0=v:=by rw[List.getElem?_eq_getElem hkb,hv'];rfl
    rw[hv'] at db
    have ev:IntKind.wrap .u64 (v:Int)=(v:Int):=Ab1 (by unfold B at db;omega)
    have w1:=hw 0 v Ad3 db
    have e:IntKind.wrap .u64 ((c:Int)+IntKind.wrap .u64 (v:Int))=((c+0+v:Nat):Int):=by
     rw[ev,←Int.natCast_add,Ab1 (by omega)];rfl
    refine⟨Ad4.inB hb (by omega) (by omega),(v:Int),by rw[←hv'];exact Ad4.at hb hkb,⟨by omega,by omega⟩,by omega,by unfold I64;omega,?_,hmeas _ rfl⟩
    rw[e,Ao0,Cx7 w1.2,Ab9,Nat.mod_mod,e0]
    exact⟨hE6,nxt 0 v hu' hv2 Ad3 db hkm⟩
   ·have hv2:(dg y)[k]?.getD 0=0:=by rw[List.getElem?_eq_none (by omega)];rfl
    have w1:=hw 0 0 Ad3 Ad3
    have e:(c:Int)=((c+0+0:Nat):Int):=rfl
    refine⟨⟨by omega,by omega⟩,by omega,by unfold I64;omega,?_,hmeas _ rfl⟩
    rw[e,Ao0,Cx7 w1.2,Ab9,Nat.mod_mod,e0]
    exact⟨hE6,nxt 0 0 hu' hv2 Ad3 Ad3 hkm⟩
 ·have hkm:k=m+1:=by omega
  subst hkm
  have hX:val zs=x+y:=by
   have hlt:=Ax5 (Ad8 x)
   have hlt2:=Ax5 (Ad8 y)
   rw[show(dg x).take (m+1)=dg x from List.take_of_length_le (by omega),show(dg y).take (m+1)=dg y from List.take_of_length_le (by omega),Ac5,Ac5,←hz,List.take_length] at hv
   rw[Ac5,hlx] at hlt
   rw[Ac5,hly] at hlt2
   have p1:B^nl x≤B^m:=Nat.pow_le_pow_right Ad3 (by omega)
   have p2:B^nl y≤B^m:=Nat.pow_le_pow_right Ad3 (by omega)
   have p3:B^zs.length=B^m*B:=by rw[hz,Nat.pow_succ]
   have p4:B^m*2≤B^m*B:=Nat.mul_le_mul_left _ (by decide)
   have hc0:c=0:=by
    rcases(show c=0∨c=1 by omega) with h | h
    ·exact h
    ·subst h;omega
   subst hc0
   rw[Nat.mul_zero] at hv;omega
  refine An1 hO.row hdz (by omega) fun s' W14 hE14 h=>⟨s',rfl,fun W16 hE16=>⟨s',rfl,?_⟩⟩
  rw[hX] at h
  exact h.ext hE16
theorem Bz0 {W0 W:PW} {M:Nat→Prop} {s t:Sl} {x y:Nat} {K:Value→PW→Prop} (h1:Aa6 141 W s x) (h2:Aa6 141 W t y) (hx:nl x≤549755813888) (hy:nl y≤549755813888) (kont: ∀(s':Sl) (W':PW),Ext W W'→(Aa6 141 W' s' (x+y))→K (Sl.v s') W'):
  Aa1 Tryz.prog W0 M 131 [s.v,t.v] W K:=
 Aa2 (fun W' hE=>El4 (M:=fun _=>False) (h1.ext hE) (h2.ext hE) hx hy) (fun W' v W'' hE hE' hP=>by
  obtain⟨s',rfl,h⟩:=hP
  exact kont s' W'' (hE.trans hE') h)
theorem Er4 {W0:PW} {M:Nat→Prop} {s t:Sl} {x y:Nat} (h1:Aa6 141 W0 s x) (h2:Aa6 141 W0 t y) (hx:nl x≤549755813888) (hle:y≤x):
  Aa0 Tryz.prog 130 [s.v,t.v] W0 M fun v W'=>∃(s':Sl),v=Sl.v s'∧Aa6 141 W' s' (x-y):=by
 apply Bu0
 have n1:=h1.n
 have n2:=h2.n
 have hnl:=Ad1 hle
 have hlx:(dg x).length=nl x:=rfl
 have hly:(dg y).length=nl y:=rfl
 refine⟨⟨rfl,by omega,by omega⟩,Ft7 x y W0,Fr6 x,?_,?_⟩
 ·refine⟨Ext.refl _,0,0,List.replicate (nl x) 0,rfl,rfl,?_,by omega,by simp,fun d hd=>?_,by simp[val],by omega⟩
  ·rw[show Int.toNat (s.n:Int)=nl x by omega];exact Ae3 _
  ·rw[(List.mem_replicate.1 hd).2];decide
 rintro l3 i4 i5 W6 ⟨hE6,c,k,zs,rfl,rfl,rfl,hk,hz,hdz,hv,hc⟩
 have ha:=h1.ext hE6
 have hb:=h2.ext hE6
 rw[Aa5]
 have e0:Int.toNat (k:Int)=k:=rfl
 have hmeas:k<nl x→∀z:Int,z=(k:Int)+1→nl x-z.toNat<nl x-Int.toNat (k:Int):=by intro hk z hz;omega
 have nxt: ∀(u v d neg:Nat),(dg x)[k]?.getD 0=u→(dg y)[k]?.getD 0=v→d+c+v=u+B*neg→d<B→neg≤1→k<nl x→∃(c' k':Nat) (zs':List Nat),(neg:Int)=(c':Int)∧((k:Int)+1)=(k':Int)∧(cel zs).set k [.int .u32 (d:Int)]=cel zs'∧k'≤nl x∧zs'.length=nl x∧Dig zs'∧
   val (zs'.take k')+val ((dg y).take k')=val ((dg x).take k')+B^k'*c'∧c'≤1:=by
  intro u v d neg hu hv2 hs hd hneg hkx
  refine⟨neg,k+1,_,rfl,by push_cast;rfl,Ae9 ..,by omega,by simpa using hz,hdz.set hd,?_,hneg⟩
  rw[Ac1 (by omega),Ay7 (dg x),Ay7 (dg y),hu,hv2,Nat.pow_succ]
  exact Di1 (low:=0) hv hs
 refine⟨fun hlt=>?_,fun hge s13 W14 hE14 hO hnew=>?_⟩
 ·have hka:k<(dg x).length:=by omega
  have da:=(Ad8 x).at hka
  obtain⟨u,hu⟩: ∃u,(dg x)[k]=u:=⟨_,rfl⟩
  have hu':(dg x)[k]?.getD 0=u:=by rw[List.getElem?_eq_getElem hka,hu];rfl
  have ea:Aa7 W6 s 1 k 0 [.int .u32 (u:Int)]:=by rw[←hu];exact Ad4.at ha hka
  have ia:=Ad4.inB ha (i:=(k:Int)) (by omega) (by omega)
  rw[hu] at da
  have dA:u<4294967296:=da
  have eu:IntKind.wrap .u64 (u:Int)=(u:Int):=Ab1 (by omega)
  refine⟨fun hltb=>?_,fun hgeb=>?_⟩
  ·have hkb:k<(dg y).length:=by omega
   have db:=(Ad8 y).at hkb
   obtain⟨v,hv'⟩: ∃v,(dg y)[k]=v:=⟨_,rfl⟩
   have hv2:(dg y)[k]?.getD 0=v:=by rw[List.getElem?_eq_getElem hkb,hv'];rfl
   rw[hv'] at db
   have dB:v<4294967296:=db
   have ev:IntKind.wrap .u64 (v:Int)=(v:Int):=Ab1 (by omega)
   have es:IntKind.wrap .u64 ((c:Int)+IntKind.wrap .u64 (v:Int))=((c+v:Nat):Int):=by rw[ev,←Int.natCast_add,Ab1 (by omega)]
   refine⟨Ad4.inB hb (by omega) (by omega),(v:Int),by rw[←hv'];exact Ad4.at hb hkb,ia,(u:Int),ea,?_⟩
   rw[es,eu]
   refine⟨fun hbw=>⟨⟨by omega,by omega⟩,by omega,by unfold I64;omega,?_,hmeas (by omega) _ rfl⟩,fun hbw=>⟨⟨by omega,by omega⟩,by omega,by unfold I64;omega,?_,hmeas (by omega) _ rfl⟩⟩
   ·have e:IntKind.wrap .u32 (IntKind.wrap .u64 (IntKind.wrap .u64 ((u:Int)+4294967296)-((c+v:Nat):Int)))=((u+4294967296-(c+v):Nat):Int):=by
     rw[wrap64 (z:=(u:Int)+4294967296) (by omega) (by omega),wrap64 (by omega) (by omega),show(u:Int)+4294967296-((c+v:Nat):Int)=((u+4294967296-(c+v):Nat):Int) by omega,Ab9,Nat.mod_eq_of_lt (by unfold B;omega)]
    rw[e,e0]
    exact⟨hE6,nxt u v _ 1 hu' hv2 (by unfold B;omega) (by unfold B;omega) (Nat.le_refl _) (by omega)⟩
   ·have e:IntKind.wrap .u32 (IntKind.wrap .u64 ((u:Int)-((c+v:Nat):Int)))=((u-(c+v):Nat):Int):=by
     rw[wrap64 (by omega) (by omega),show(u:Int)-((c+v:Nat):Int)=((u-(c+v):Nat):Int) by omega,Ab9,Nat.mod_eq_of_lt (by unfold B;omega)]
    rw[e,e0]
    exact⟨hE6,nxt u v _ 0 hu' hv2 (by omega) (by unfold B;omega) (Nat.zero_le _) (by omega)⟩
  ·have hv2:(dg y)[k]?.getD 0=0:=by rw[List.getElem?_eq_none (by omega)];rfl
   refine⟨ia,(u:Int),ea,?_⟩
   rw[eu]
   refine⟨fun hbw=>⟨⟨by omega,by omega⟩,by omega,by unfold I64;omega,?_,hmeas (by omega) _ rfl⟩,fun hbw=>⟨⟨by omega,by omega⟩,by omega,by unfold I64;omega,?_,hmeas (by omega) _ rfl⟩⟩
   ·have e:IntKind.wrap .u32 (IntKind.wrap .u64 (IntKind.wrap .u64 ((u:Int)+4294967296)-(c:Int)))=((u+4294967296-c:Nat):Int):=by
     rw[wrap64 (z:=(u:Int)+4294967296) (by omega) (by omega),wrap64 (by omega) (by omega),show(u:Int)+4294967296-(c:Int)=((u+4294967296-c:Nat):Int) by omega,Ab9,Nat.mod_eq_of_lt (by unfold B;omega)]
    rw[e,e0]
    exact⟨hE6,nxt u 0 _ 1 hu' hv2 (by unfold B;omega) (by unfold B;omega) (Nat.le_refl _) (by omega)⟩
   ·have e:IntKind.wrap .u32 (IntKind.wrap .u64 ((u:Int)-(c:Int)))=((u-c:Nat):Int):=by
     rw[wrap64 (by omega) (by omega),show(u:Int)-(c:Int)=((u-c:Nat):Int) by omega,Ab9,Nat.mod_eq_of_lt (by unfold B;omega)]
    rw[e,e0]
    exact⟨hE6,nxt u 0 _ 0 hu' hv2 (by omega) (by unfold B;omega) (Nat.zero_le _) (by omega)⟩
 ·have hkx:k=nl x:=by omega
  subst hkx
  rw[show(dg x).take (nl x)=dg x from List.take_of_length_le (Nat.le_refl _),show(dg y).take (nl x)=dg y from List.take_of_length_le (by omega),Ac5,Ac5,←hz,List.take_length] at hv
  have hzB:=Ax5 hdz
  have hc0:c=0:=by
   rcases(show c=0∨c=1 by omega) with h | h
   ·exact h
   ·subst h;omega
  subst hc0
  have e:val zs=x-y:=by rw[Nat.mul_zero] at hv;omega
  refine An1 hO.row hdz (by omega) fun s' W17 hE17 h=>⟨s',rfl,fun W19 hE19=>⟨s',rfl,?_⟩⟩
  rw[e] at h
  exact h.ext hE19
theorem Bc2 {W0 W:PW} {M:Nat→Prop} {s t:Sl} {x y:Nat} {K:Value→PW→Prop} (h1:Aa6 141 W s x) (h2:Aa6 141 W t y) (hx:nl x≤549755813888) (hle:y≤x) (kont: ∀(s':Sl) (W':PW),Ext W W'→(Aa6 141 W' s' (x-y))→K (Sl.v s') W'):
  Aa1 Tryz.prog W0 M 130 [s.v,t.v] W K:=
 Aa2 (fun W' hE=>Er4 (M:=fun _=>False) (h1.ext hE) (h2.ext hE) hx hle) (fun W' v W'' hE hE' hP=>by
  obtain⟨s',rfl,h⟩:=hP
  exact kont s' W'' (hE.trans hE') h)
end Go.Proofs.YtahohahjnhfedaaGreatDoor
/- cinctureref1: Shl, DivNat, Gcd, the texts of numbers. -/
namespace Go.Proofs.YtahohahjnhfedaaGreatDoor
open Go Go.SX
theorem Ed7 {W0:PW} {M:Nat→Prop} {s:Sl} {x k:Nat} (h:Aa6 141 W0 s x) (hx:nl x≤274877906944) (hk:k≤68719476736):
  Aa0 Tryz.prog 129 [s.v,.int .i64 (k:Int)] W0 M fun v W'=>∃(s':Sl),v=Sl.v s'∧Aa6 141 W' s' (x*2^k):=by
 apply Cx1
 have hn:=h.n
 have hl:(dg x).length=nl x:=rfl
 unfold Cs0
 simp only[Eg1 (show k≤1099511627776 by omega),Em5,Ab1 (show k%32<18446744073709551616 by omega)]
 obtain⟨N,hN⟩: ∃N,k/32=N:=⟨_,rfl⟩
 obtain⟨sh,hsh⟩: ∃sh,k%32=sh:=⟨_,rfl⟩
 have hs32:sh<32:=by omega
 have hN2:N≤2147483648:=by omega
 have hkk:k=32*N+sh:=by omega
 rw[hN,hsh]
 have hpw:=Fd1 hs32
 refine⟨by decide,by unfold I64;omega,by unfold I64;omega,⟨trivial,by omega,by omega⟩,Ft8 x N sh W0,Fu1 x,?_,?_⟩
 ·refine⟨Ext.refl _,0,List.replicate (nl x+N+1) 0,rfl,?_,by omega,by simp,fun d hd=>?_,by simp[val,Ao6],fun j hj _=>by simp,fun hj=>by simp;exact Nat.two_pow_pos sh⟩
  ·rw[show Int.toNat ((s.n:Int)+(N:Int)+1)=nl x+N+1 by omega];exact Ae3 _
  ·rw[(List.mem_replicate.1 hd).2];decide
 rintro l3 i4 W5 ⟨hE5,i,zs,rfl,rfl,hi,hz,hdz,hv,h0,hp⟩
 have h5:=h.ext hE5
 refine⟨fun hlt=>?_,fun hge s8 W9 hE9 hO hf=>?_⟩
 ·have hia:i<(dg x).length:=by omega
  have hxB:=(Ad8 x).at hia
  obtain⟨d,hd⟩: ∃d,(dg x)[i]=d:=⟨_,rfl⟩
  have hiz:N+i<zs.length:=by omega
  have hiz1:N+i+1<zs.length:=by omega
  have hpi:=hp hiz
  obtain⟨p,hpp⟩: ∃p,zs[N+i]=p:=⟨_,rfl⟩
  have hmul:d*2^sh<18446744073709551616:=by
   rw[hd] at hxB
   have:=Nat.mul_le_mul (Nat.le_of_lt hxB) hpw
   unfold B at this
   omega
  have ed:IntKind.wrap .u64 ((d:Nat):Int)=(d:Int):=Ab1 (by rw[hd] at hxB;unfold B at hxB;omega)
  have ei:(i:Int)+(N:Int)=((N+i:Nat):Int):=by omega
  have lo:=Fc9 (v:=d) hs32
  have hloB:(d*2^sh)%B<B:=Nat.mod_lt _ Ad3
  have hjoin:p+(d*2^sh)%B<B:=by
   have e1:B=2^sh*2^(32-sh):=by rw[←Nat.pow_add,show sh+(32-sh)=32 by omega];rfl
   have e2:=Nat.mod_add_div ((d*2^sh)%B) (2^sh)
   rw[lo,Nat.zero_add] at e2
   rw[hpp] at hpi
   generalize (d*2^sh)%B/2^sh=q at e2
   have:q<2^(32-sh):=by
    apply Nat.lt_of_mul_lt_mul_left (a:=2^sh)
    rw[e2,←e1];exact hloB
   have:=Nat.mul_le_mul_left (2^sh) (show q+1≤2^(32-sh) from this)
   rw[Nat.mul_add,e2,←e1] at this
   omega
  have hhi:d*2^sh/B<2^sh:=by
   rw[Nat.div_lt_iff_lt_mul Ad3,Nat.mul_comm]
   rw[hd] at hxB
   exact Nat.mul_lt_mul_of_pos_left hxB (Nat.two_pow_pos sh)
  have hhiB:d*2^sh/B<B:=by unfold B at *;omega
  have eor:bits .or .u32 (p:Int) (((d*2^sh%B:Nat)):Int)=((p+d*2^sh%B:Nat):Int):=by
   rw[u32_or_nat _ _ (by unfold B at *;omega) (by unfold B at *;omega),Nat.or_comm,nat_join sh _ _ lo (by rw[←hpp];exact hpi),Nat.add_comm]
  have hset:List.length (List.set (cel zs) (N+i) [Value.int .u32 ((p+d*2^sh%B:Nat):Int)])=zs.length:=by simp[Aa5]
  refine⟨Ad4.inB h5 (by omega) (by omega),(d:Int),by rw[←hd];exact Ad4.at h5 hia,by decide,⟨by omega,by show(sh:Int)≤64;omega⟩,by decide,by unfold I64;omega,⟨by omega,by rw[Aa5];omega⟩,(p:Int),?_⟩
  rw[ei,show Int.toNat ((N+i:Nat):Int)=N+i from rfl,show Int.toNat ((sh:Nat):Int)=sh from rfl,ed,Dr8 hmul,Ao0,Cx7 hmul,Ab9,Ab9,Nat.mod_mod,eor,Nat.mod_eq_of_lt hhiB,hset]
  have e3:(zs.set (N+i) (p+d*2^sh%B))[N+i+1]'(by simpa using hiz1)=0:=by
   rw[List.getElem_set_ne (by omega)];exact h0 _ hiz1 (by omega)
  have eor2:bits .or .u32 ((0:Nat):Int) ((d*2^sh/B:Nat):Int)=((d*2^sh/B:Nat):Int):=by
   rw[u32_or_nat _ _ (by decide) (by unfold B at *;omega),Nat.zero_or]
  have e4:Int.toNat (((N+i:Nat):Int)+1)=N+i+1:=by omega
  refine⟨⟨_,Au0 hiz,by rw[hpp];rfl⟩,⟨by omega,by rw[Aa5];omega⟩,by rw[Aa5];omega,by decide,by unfold I64;omega,by unfold I64;omega,⟨by omega,by omega⟩,((0:Nat):Int),?_,⟨by omega,by omega⟩,by omega,by unfold I64;omega,?_,?_⟩
  ·rw[Ae9,e4]
   exact⟨_,Au0 (by simpa using hiz1),by rw[e3];rfl⟩
  ·rw[Ae9,e4,eor2,Ae9]
   refine⟨hE5,i+1,_,by push_cast;rfl,rfl,by omega,by simpa using hz,(hdz.set hjoin).set hhiB,?_,fun j hj hlt=>?_,fun hj=>?_⟩
   ·have e1:=Bh5 zs (k:=N+i) (p+d*2^sh%B) hiz
    have e2:=Bh5 (zs.set (N+i) (p+d*2^sh%B)) (k:=N+i+1) (d*2^sh/B) (by simpa using hiz1)
    have e3:(zs.set (N+i) (p+d*2^sh%B))[N+i+1]'(by simpa using hiz1)=0:=by
     rw[List.getElem_set_ne (by omega)];exact h0 _ hiz1 (by omega)
    rw[e3] at e2
    rw[hpp] at e1
    rw[Aa4 hia,hd]
    have e4:=Nat.mod_add_div (d*2^sh) B
    rw[Nat.mul_zero,Nat.add_zero,Nat.pow_succ] at e2
    rw[e2]
    have e5:B^N*2^sh*(val ((dg x).take i)+B^i*d)=val zs+B^(N+i)*(d*2^sh):=by
     rw[hv,Nat.pow_add]
     generalize B^N=a
     generalize B^i=b
     generalize 2^sh=c
     grind
    have e6:B^(N+i)*(d*2^sh)=B^(N+i)*(d*2^sh%B)+B^(N+i)*B*(d*2^sh/B):=by
     conv=>lhs;rw[←e4]
     rw[Nat.mul_add,Nat.mul_assoc]
    rw[e5,e6]
    generalize d*2^sh%B=z1 at *
    generalize d*2^sh/B=z2 at *
    generalize B^(N+i)=bb at *
    have:bb*(p+z1)=bb*p+bb*z1:=Nat.mul_add ..
    omega
   ·rw[List.getElem_set_ne (by omega),List.getElem_set_ne (by omega)]
    exact h0 j (by simpa using hj) (by omega)
   ·simp only[show N+(i+1)=N+i+1 by omega]
    rw[List.getElem_set_self]
    exact hhi
  ·show nl x-Int.toNat ((i:Int)+1)<nl x-Int.toNat (i:Int)
   omega
 ·have:i=nl x:=by omega
  subst this
  have e:val zs=x*2^k:=by
   rw[hv,←hl,List.take_length,Ac5,Bp0,←Nat.pow_add,←hkk,Nat.mul_comm]
  refine An1 hO.row hdz (by omega) fun s' W12 hE12 h1=>⟨s',rfl,fun W14 hE14=>⟨s',rfl,?_⟩⟩
  rw[e] at h1
  exact h1.ext hE14
theorem Bt0 {W0 W:PW} {M:Nat→Prop} {s:Sl} {x k:Nat} {K:Value→PW→Prop} (h:Aa6 141 W s x) (hx:nl x≤274877906944) (hk:k≤68719476736) (kont: ∀(s':Sl) (W':PW),Ext W W'→(Aa6 141 W' s' (x*2^k))→K (Sl.v s') W'):
  Aa1 Tryz.prog W0 M 129 [s.v,.int .i64 (k:Int)] W K:=
 Aa2 (fun W' hE=>Ed7 (M:=fun _=>False) (h.ext hE) hx hk) (fun W' v W'' hE hE' hP=>by
  obtain⟨s',rfl,h⟩:=hP
  exact kont s' W'' (hE.trans hE') h)
theorem Fn0 {k n:Nat} (h:k<32*n):nl (2^k)≤n:=Bc6 (by rw[Bp0];exact Nat.pow_lt_pow_right (by decide) h)
theorem Eg0 {x:Nat} (h:x≠0):2^(Aj9 x-1)≤x∧x<2^Aj9 x∧1≤Aj9 x:=by
 obtain⟨n,e,h1,h2⟩:=Ax2 h
 rw[e]
 exact⟨h1,h2,by omega⟩
theorem Dm3 (x:Nat):Aj9 x≤32*nl x:=Bb9 (by rw[←Bp0];exact Bb4 x)
theorem Ep1 {W0:PW} {M:Nat→Prop} {s t:Sl} {x y:Nat} (h1:Aa6 141 W0 s x) (h2:Aa6 141 W0 t y) (hx:nl x≤1073741824) (hy:nl y≤1073741824) (hy0:y≠0):
  Aa0 Tryz.prog 95 [s.v,t.v] W0 M fun v W'=>∃(q:Sl),∃(r:Sl),v = .tuple #[Sl.v q,Sl.v r]∧Aa6 141 W' q (x/y)∧Aa6 141 W' r (x%y):=by
 apply By5
 have bx:=Dm3 x
 have by':=Dm3 y
 refine Bj8 h1 (by omega) fun W2 hE2 _=>⟨_,rfl,Bj8 (h2.ext hE2) (by omega) fun W5 hE5 _=>⟨_,rfl,by unfold I64;omega,?_⟩⟩
 refine⟨fun l W=>match l with
  | [.val (.slice A n c),.val (.slice A' n' c'),.val (.int .i64 i)]=>Ext W5 W∧∃q r,Aa6 141 W ⟨A,n,c⟩ r∧Aa6 141 W ⟨A',n',c'⟩ q∧x=y*q+r∧r<y*2^(i+1).toNat∧i≤68719476736
  | _=>False,fun l _=>match l with | [_,_,.val (.int .i64 i)]=>(i+1).toNat | _=>0,⟨Ext.refl _,0,x,(h1.ext hE2).ext hE5,Af6 W5,by simp,?_,by omega⟩,?_⟩
 ·have e2:=Eg0 hy0
  by_cases h0:x=0
  ·subst h0
   exact Nat.mul_pos (by omega) (Nat.two_pow_pos _)
  ·have e1:=Eg0 h0
   by_cases hb:Aj9 y≤Aj9 x
   ·rw[show Int.toNat ((Aj9 x:Int)-(Aj9 y:Int)+1)=Aj9 x-Aj9 y+1 by omega]
    have p:2^Aj9 x=2^(Aj9 y-1)*2^(Aj9 x-Aj9 y+1):=by rw[←Nat.pow_add];congr 1;omega
    have:=Nat.mul_le_mul_right (2^(Aj9 x-Aj9 y+1)) e2.1
    omega
   ·rw[show Int.toNat ((Aj9 x:Int)-(Aj9 y:Int)+1)=0 by omega]
    have p:2^Aj9 x≤2^(Aj9 y-1):=Nat.pow_le_pow_right (by decide) (by omega)
    omega
 rintro s9 s10 i11 W12 ⟨hE12,q,r,hr,hq,hxy,hlt,hi⟩
 have hr:Aa6 141 W12 s9 r:=hr
 have hq:Aa6 141 W12 s10 q:=hq
 have hrx:r≤x:=by omega
 have nr:=Ad1 hrx
 have hqx:q≤x:=by
  have:1*q≤y*q:=Nat.mul_le_mul_right _ (by omega)
  omega
 have nq:=Ad1 hqx
 refine⟨fun h0=>?_,fun h0 W31 hE31=>⟨s10,s9,rfl,?_⟩⟩
 ·obtain⟨k,rfl⟩:=Int.eq_ofNat_of_zero_le h0
  have e1:Int.toNat ((k:Int)+1)=k+1:=by omega
  rw[e1,Nat.pow_succ] at hlt
  have hym:nl (y*2^k)≤1099511627776:=by
   have h2k:nl (2^k)≤68719476737:=Fn0 (by omega)
   have:=Ae5 y (2^k)
   omega
  refine Bt0 (((h2.ext hE2).ext hE5).ext hE12) (by omega) (by omega) fun s15 W14 hE14 h15=>⟨s15,rfl,?_⟩
  refine Aj3 h15 (hr.ext hE14) hym fun W17 hE17 _=>⟨_,rfl,fun hle=>?_,fun hgt=>⟨by unfold I64;omega,⟨(hE12.trans hE14).trans hE17,q,r,(hr.ext hE14).ext hE17,(hq.ext hE14).ext hE17,hxy,?_,by omega⟩,?_⟩⟩
  ·have hle':y*2^k≤r:=by
    apply Nat.le_of_not_lt
    intro h
    rw[Aj4 h] at hle
    omega
   have h2kx:2^k≤x:=by
    have:1*2^k≤y*2^k:=Nat.mul_le_mul_right _ (by omega)
    omega
   have n2k:=Ad1 h2kx
   refine Bc2 ((hr.ext hE14).ext hE17) (h15.ext hE17) (by omega) hle' fun s21 W20 hE20 h21=>⟨s21,rfl,?_⟩
   refine Ae0 (x:=1) (by decide) fun s24 W23 hE23 h24=>⟨s24,rfl,?_⟩
   refine Bt0 h24 (by rw[Ax0];omega) (by omega) fun s27 W26 hE26 h27=>⟨s27,rfl,?_⟩
   rw[Nat.one_mul] at h27
   refine Bz0 (((((hq.ext hE14).ext hE17).ext hE20).ext hE23).ext hE26) h27 (by omega) (by omega) fun s30 W29 hE29 h30=>⟨s30,rfl,by unfold I64;omega,⟨((((((hE12.trans hE14).trans hE17).trans hE20).trans hE23).trans hE26).trans hE29),q+2^k,r-y*2^k,((h21.ext hE23).ext hE26).ext hE29,h30,?_,?_,by omega⟩,?_⟩
   ·rw[Nat.mul_add];omega
   ·rw[show Int.toNat ((k:Int)-1+1)=k by omega]
    have:y*(2^k*2)=y*2^k*2:=by rw[Nat.mul_assoc]
    omega
   ·show Int.toNat ((k:Int)-1+1)<Int.toNat ((k:Int)+1)
    omega
  ·rw[show Int.toNat ((k:Int)-1+1)=k by omega]
   apply Nat.lt_of_not_le
   intro h
   apply hgt
   rcases Nat.lt_or_eq_of_le h with h | h
   ·rw[Al0 h];omega
   ·rw[h,Ap9];omega
  ·show Int.toNat ((k:Int)-1+1)<Int.toNat ((k:Int)+1)
   omega
 ·rw[show Int.toNat (i11+1)=0 by omega,Nat.pow_zero,Nat.mul_one] at hlt
  have e1:x/y=q:=by rw[hxy,Nat.mul_add_div (by omega),Nat.div_eq_of_lt hlt,Nat.add_zero]
  have e2:x%y=r:=by rw[hxy,Nat.mul_add_mod,Nat.mod_eq_of_lt hlt]
  rw[e1,e2]
  exact⟨hq.ext hE31,hr.ext hE31⟩
theorem Ba8 {W0 W:PW} {M:Nat→Prop} {s t:Sl} {x y:Nat} {K:Value→PW→Prop} (h1:Aa6 141 W s x) (h2:Aa6 141 W t y) (hx:nl x≤1073741824) (hy:nl y≤1073741824) (hy0:y≠0) (kont: ∀(q:Sl) (r:Sl) (W':PW),Ext W W'→(Aa6 141 W' q (x/y)∧Aa6 141 W' r (x%y))→K (.tuple #[Sl.v q,Sl.v r]) W'):
  Aa1 Tryz.prog W0 M 95 [s.v,t.v] W K:=
 Aa2 (fun W' hE=>Ep1 (M:=fun _=>False) (h1.ext hE) (h2.ext hE) hx hy hy0) (fun W' v W'' hE hE' hP=>by
  obtain⟨q,r,rfl,h⟩:=hP
  exact kont q r W'' (hE.trans hE') h)
def rgI (x y:Nat) (W0:PW) (l:List PL) (W:PW):Prop:=
 match l with
 | [.val (.slice A n c),.val (.slice A' n' c')]=>Ext W0 W∧∃a b,Aa6 141 W ⟨A,n,c⟩ a∧Aa6 141 W ⟨A',n',c'⟩ b∧Nat.gcd a b=Nat.gcd x y∧nl a≤1073741824∧nl b≤1073741824
 | _=>False
noncomputable def rgM (l:List PL) (W:PW):Nat:=
 match l with
 | [_,.val (.slice A' n' c')]=>slN W 141 ⟨A',n',c'⟩
 | _=>0
theorem Ee0 {W0:PW} {M:Nat→Prop} {s t:Sl} {x y:Nat} (h1:Aa6 141 W0 s x) (h2:Aa6 141 W0 t y) (hx:nl x≤1073741824) (hy:nl y≤1073741824):
  Aa0 Tryz.prog 55 [s.v,t.v] W0 M fun v W'=>∃(s':Sl),v=Sl.v s'∧Aa6 141 W' s' (Nat.gcd x y):=by
 apply Dc2
 refine⟨rgI x y W0,rgM,⟨Ext.refl _,x,y,h1,h2,rfl,hx,hy⟩,?_⟩
 rintro s3 s4 W5 ⟨hE5,a,b,ha,hb,hg,na,nb⟩
 have ha:Aa6 141 W5 s3 a:=ha
 have hb:Aa6 141 W5 s4 b:=hb
 have n4:=hb.n
 refine⟨fun hpos=>?_,fun hz W10 hE10=>⟨s3,rfl,?_⟩⟩
 ·have hb0:b≠0:=fun e=>by subst e;rw[Ag9] at n4;omega
  refine Ba8 ha hb na nb hb0 fun s8 s9 W7 hE7 ⟨h8,h9⟩=>⟨s8,s9,rfl,⟨hE5.trans hE7,b,a%b,hb.ext hE7,h9,?_,nb,?_⟩,?_⟩
  ·rw[Bo4];exact hg
  ·exact Nat.le_trans (Ad1 (Nat.le_of_lt (Nat.mod_lt _ (by omega)))) nb
  ·show slN W7 _ s9<slN W5 _ s4
   rw[Bl5 h9,Bl5 hb]
   exact Nat.mod_lt _ (by omega)
 ·have:b=0:=Ad0.1 (by omega)
  subst this
  rw[Nat.gcd_zero_right] at hg
  rw[←hg]
  exact ha.ext hE10
theorem Bv8 {W0 W:PW} {M:Nat→Prop} {s t:Sl} {x y:Nat} {K:Value→PW→Prop} (h1:Aa6 141 W s x) (h2:Aa6 141 W t y) (hx:nl x≤1073741824) (hy:nl y≤1073741824) (kont: ∀(s':Sl) (W':PW),Ext W W'→(Aa6 141 W' s' (Nat.gcd x y))→K (Sl.v s') W'):
  Aa1 Tryz.prog W0 M 55 [s.v,t.v] W K:=
 Aa2 (fun W' hE=>Ee0 (M:=fun _=>False) (h1.ext hE) (h2.ext hE) hx hy) (fun W' v W'' hE hE' hP=>by
  obtain⟨s',rfl,h⟩:=hP
  exact kont s' W'' (hE.trans hE') h)
end Go.Proofs.YtahohahjnhfedaaGreatDoor
