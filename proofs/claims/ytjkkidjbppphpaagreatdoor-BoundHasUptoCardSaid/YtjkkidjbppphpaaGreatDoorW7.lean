/- Texts of numbers are read: where a byte stands, whole.Parse, rat.Parse. -/
import Derived.Test.YtjkkidjbppphpaaGreatDoorW6
import Derived.Test.YtjkkidjbppphpaaGreatDoorLib2
import Derived.Shelf.Strings.Search1
import Derived.Test.YtjkkidjbppphpaaGreatDoorR4
set_option linter.unusedVariables false
set_option linter.unusedSimpArgs false
set_option maxRecDepth 100000
set_option linter.unusedVariables false
set_option linter.unusedSimpArgs false
namespace Go.Proofs.YtjkkidjbppphpaaGreatDoor
open Go Go.SX
theorem indexByte_calls (s:ByteArray) (c:Int) (w:World):Calls Go.Proofs.Tryz.prog 270 #[.string s,.int .u8 c] w fun e w'=>e = .returned (.int .i64 (firstIdx s c.toNat.toUInt8))∧w'=w:=by
 go_enter Go.Proofs.Tryz.func270,Go.Proofs.Tryz.ntmps270
 go_wp2
 rw[run_callFunc_extern Go.Proofs.Tryz.func279 (by kernel_rfl) (by kernel_rfl) (by kernel_rfl) (e:=Extern.BytealgIndexByte.indexByte) (by kernel_rfl),run_indexByte_string]
 simp only[Result.andThen]
 rw[Oper.upon_value]
 go_wp2
 go_ret
 exact⟨rfl,rfl⟩
theorem slIndexByte_ok {W0:PW} {M:Nat→Prop} {a:ByteArray} {c:Nat} (hc:c<256):
  PCallsM Go.Proofs.Tryz.prog 270 [.string a,.int .u8 (c:Int)] W0 M fun v W'=>v = .int .i64 (posI (firstAt a c a.size 0))∧True:=by
 refine⟨⟨_,Go.Proofs.Tryz.func270,by kernel_rfl,by kernel_rfl⟩,fun _=>(indexByte_calls a c W0.w).mono ?_⟩
 rintro e w' ⟨rfl,rfl⟩
 refine⟨_,rfl,Keep.refl _ _,?_,trivial⟩
 rw[Int.toNat_natCast,firstIdx_firstAt hc]
theorem slIndexByte_call {W0 W:PW} {M:Nat→Prop} {a:ByteArray} {c:Nat} {K:Value→PW→Prop} (hc:c<256) (kont: ∀(W':PW),Ext W W'→(True)→K (.int .i64 (posI (firstAt a c a.size 0))) W'):
  callN Go.Proofs.Tryz.prog W0 M 270 [.string a,.int .u8 (c:Int)] W K:=
 callN_of (fun W' hE=>slIndexByte_ok (M:=fun _=>False) hc) (fun W' v W'' hE hE' hP=>by
  obtain⟨rfl,h⟩:=hP
  exact kont W'' (hE.trans hE') h)
def slashB:ByteArray:=⟨⟨[47]⟩⟩
theorem slIndex_ok {W0:PW} {M:Nat→Prop} {a:ByteArray} :
  PCallsM Go.Proofs.Tryz.prog 256 [.string a,.string slashB] W0 M fun v W'=>v = .int .i64 (posI (slashAt a))∧True:=by
 apply callinternal_stringslite_Index
 refine⟨fun h=>(by simp[slashB,ByteArray.size] at h),fun _=>⟨?_,?_⟩⟩
 ·rintro rfl W7 _
  have e:posI (slashAt slashB)=0:=by decide
  rw[e]
  exact⟨rfl,trivial⟩
 ·refine fun hne=>⟨fun _=>⟨⟨by decide,by decide⟩,?_⟩,fun h=>(by exact absurd (by decide) h)⟩
  have e:sbyte slashB 0=((47:Nat):Int):=by decide
  rw[e]
  exact slIndexByte_call (by decide) fun W9 hE9 _=>⟨_,rfl,fun W11 hE11=>⟨rfl,trivial⟩⟩
theorem slIndex_call {W0 W:PW} {M:Nat→Prop} {a:ByteArray} {K:Value→PW→Prop} (kont: ∀(W':PW),Ext W W'→(True)→K (.int .i64 (posI (slashAt a))) W'):
  callN Go.Proofs.Tryz.prog W0 M 256 [.string a,.string slashB] W K:=
 callN_of (fun W' hE=>slIndex_ok (M:=fun _=>False) ) (fun W' v W'' hE hE' hP=>by
  obtain⟨rfl,h⟩:=hP
  exact kont W'' (hE.trans hE') h)
def cutB (a:ByteArray):ByteArray×ByteArray×Bool:=match slashAt a with
 | some i=>(a.extract 0 i,a.extract (i+1) a.size,true)
 | none=>(a,⟨⟨[]⟩⟩,false)
theorem slCut_ok {W0:PW} {M:Nat→Prop} {a:ByteArray} (hs:a.size≤1099511627776):
  PCallsM Go.Proofs.Tryz.prog 232 [.string a,.string slashB] W0 M fun v W'=>v = .tuple #[.string (cutB a).1,.string (cutB a).2.1,.bool (cutB a).2.2]∧True:=by
 apply callinternal_stringslite_Cut
 refine slIndex_call fun W2 hE2 _=>⟨_,rfl,?_⟩
 have e1:(ByteArray.size slashB:Int)=1:=by decide
 rw[e1]
 unfold cutB
 cases h:slashAt a with
 | none=>exact⟨fun h=>(by simp only[posI] at h;omega),fun _ W5 _=>⟨rfl,trivial⟩⟩
 | some i=>
  have:=firstAt_spec _ _ h
  refine⟨fun _=>⟨?_,?_,?_,fun W4 _=>⟨?_,trivial⟩⟩,fun h=>(by simp only[posI] at h;omega)⟩
  ·simp only[posI];omega
  ·simp only[posI];unfold I64;omega
  ·simp only[posI];omega
  ·simp only[posI]
   rw[Int.toNat_natCast,Int.toNat_natCast,show Int.toNat ((i:Int)+1)=i+1 by omega]
theorem slCut_call {W0 W:PW} {M:Nat→Prop} {a:ByteArray} {K:Value→PW→Prop} (hs:a.size≤1099511627776) (kont: ∀(W':PW),Ext W W'→(True)→K (.tuple #[.string (cutB a).1,.string (cutB a).2.1,.bool (cutB a).2.2]) W'):
  callN Go.Proofs.Tryz.prog W0 M 232 [.string a,.string slashB] W K:=
 callN_of (fun W' hE=>slCut_ok (M:=fun _=>False) hs) (fun W' v W'' hE hE' hP=>by
  obtain⟨rfl,h⟩:=hP
  exact kont W'' (hE.trans hE') h)
theorem strCut_ok {W0:PW} {M:Nat→Prop} {a:ByteArray} (hs:a.size≤1099511627776):
  PCallsM Go.Proofs.Tryz.prog 191 [.string a,.string slashB] W0 M fun v W'=>v = .tuple #[.string (cutB a).1,.string (cutB a).2.1,.bool (cutB a).2.2]∧True:=by
 apply callstrings_Cut
 exact slCut_call hs fun W2 hE2 _=>⟨_,_,_,rfl,fun W6 hE6=>⟨rfl,trivial⟩⟩
theorem strCut_call {W0 W:PW} {M:Nat→Prop} {a:ByteArray} {K:Value→PW→Prop} (hs:a.size≤1099511627776) (kont: ∀(W':PW),Ext W W'→(True)→K (.tuple #[.string (cutB a).1,.string (cutB a).2.1,.bool (cutB a).2.2]) W'):
  callN Go.Proofs.Tryz.prog W0 M 191 [.string a,.string slashB] W K:=
 callN_of (fun W' hE=>strCut_ok (M:=fun _=>False) hs) (fun W' v W'' hE hE' hP=>by
  obtain⟨rfl,h⟩:=hP
  exact kont W'' (hE.trans hE') h)
theorem er_none {α:Type} {o:Option α} (h:o=none):er o=2:=by rw[h];rfl
theorem er_ne {α:Type} {o:Option α} (h:er o≠0):o=none:=by
 cases o with
 | none=>rfl
 | some x=>exact absurd rfl h
theorem er_eq {α:Type} {o:Option α} (h:¬er o≠0): ∃x,o=some x:=by
 cases o with
 | none=>exact absurd (by show(2:Int)≠0;decide) h
 | some x=>exact⟨x,rfl⟩
theorem isInt_nil {t:TypeId} (W:PW):IsInt t W ⟨none,0,0⟩ false 0:=⟨isNat_nil W,by decide⟩
theorem wholeParse_ok {W0:PW} {M:Nat→Prop} {a:ByteArray} (hs:a.size≤1099511627776):
  PCallsM Go.Proofs.Tryz.prog 192 [.string a] W0 M fun v W'=>∃(s':Sl),∃(b':Bool),v = .tuple #[.agg #[Sl.v s',.bool b'],.int .i64 (er (parseI a))]∧IsInt 284 W' s' b' ((parseI a).getD 0):=by
 apply callwhole_Parse
 have bad:parseI a=none→∀W':PW,∃(s':Sl) (b':Bool),(Value.tuple #[.agg #[.slice none 0 0,.bool false],.int .i64 2]) = .tuple #[.agg #[Sl.v s',.bool b'],.int .i64 (er (parseI a))]∧IsInt 284 W' s' b' ((parseI a).getD 0):=by
  intro h W'
  rw[h]
  exact⟨⟨none,0,0⟩,false,rfl,isInt_nil W'⟩
 have hs0:sbyte a 0=(sb a 0:Int):=sbyte_sb a 0
 have hp0:¬(0<a.size∧sb a 0=45)→parseI a=(parseN a).map fun x=>(x:Int):=fun h=>by unfold parseI;rw[if_neg h]
 have hp1:(0<a.size∧sb a 0=45)→parseI a=match parseN (a.extract 1 a.size) with
  | some x=>if x=0 then none else some (-(x:Int))
  | none=>none:=fun h=>by unfold parseI;rw[if_pos h];rfl
 refine⟨fun hz=>?_,fun hz=>?_⟩
 ·have hz':=size_ne.1 hz
  refine⟨by omega,fun l W=>match l with | [.val (.string u)]=>u=if sb a 0=45 then a.extract 1 a.size else a | _=>False,⟨fun h=>⟨by omega,?_⟩,fun h=>?_⟩,?_⟩
  ·show _=_
   rw[if_pos (by omega)];rfl
  ·show _=_
   rw[if_neg (by omega)]
  rintro t2 W3 rfl
  refine natParse_call fun s6 W5 hE5 h6=>⟨s6,_,rfl,fun l W=>match l with | [.cells _]=>Ext W5 W∧(parseN (if sb a 0=45 then a.extract 1 a.size else a)).isSome=true∧(sb a 0=45→parseN (a.extract 1 a.size)≠some 0) | _=>False,⟨fun hne=>fun W9 _=>?_,fun heq=>⟨fun h45=>?_,fun h45=>?_⟩⟩,?_⟩
  ·have hn:=er_ne hne
   apply bad
   by_cases h45:sb a 0=45
   ·rw[if_pos h45] at hn
    rw[hp1 ⟨by omega,h45⟩,hn]
   ·rw[if_neg h45] at hn
    rw[hp0 (by omega),hn];rfl
  ·have h45':sb a 0=45:=by omega
   obtain⟨x,hx⟩:=er_eq heq
   rw[if_pos h45'] at hx h6
   rw[hx] at h6
   have hnl:=parseN_nl hx
   refine natBits_call h6 (by show nl x≤_;omega) fun W11 hE11 _=>⟨_,rfl,fun h0 W13 _=>?_,fun h0=>⟨hE11,?_,fun _=>?_⟩⟩
   ·have:x=0:=blen_eq_zero.1 (by simpa using h0)
    apply bad
    rw[hp1 ⟨by omega,h45'⟩,hx]
    simp[this]
   ·rw[if_pos h45',hx];rfl
   ·rw[hx]
    intro e
    cases e
    exact h0 rfl
  ·obtain⟨x,hx⟩:=er_eq heq
   exact⟨Ext.refl _,by rw[hx];rfl,fun h=>absurd h (by omega)⟩
  rintro s15 b16 W17 ⟨hE17,hsome,hn0⟩
  obtain⟨x,hx⟩:=Option.isSome_iff_exists.1 hsome
  rw[hx] at h6
  have h6:IsNat 284 W5 s6 x:=h6
  have hnl:=parseN_nl hx
  refine wholeFrom_call (h6.ext hE17) (by omega) fun s20 b21 W19 hE19 h20=>⟨s20,b21,rfl,fun W22 hE22=>?_⟩
  by_cases h45:sb a 0=45
  ·rw[if_pos h45] at hx
   rw[if_pos (by rw[hs0];simp[h45])] at h20
   have hx0:x≠0:=fun e=>hn0 h45 (by rw[hx,e])
   have hpe:parseI a=some (-(x:Int)):=by
    rw[hp1 ⟨by omega,h45⟩,hx]
    simp[hx0]
   rw[hpe]
   exact⟨s20,b21,rfl,h20.ext hE22⟩
  ·rw[if_neg h45] at hx
   rw[if_neg (by rw[hs0];simp;omega)] at h20
   have hpe:parseI a=some (x:Int):=by
    rw[hp0 (by omega),hx];rfl
   rw[hpe]
   exact⟨s20,b21,rfl,h20.ext hE22⟩
 ·have hz':a.size=0:=Decidable.byContradiction fun h=>hz (size_ne.2 h)
  have hpn:parseN a=none:=parseN_bad fun h=>h.1 hz'
  have hpi:parseI a=none:=by rw[hp0 (by omega),hpn];rfl
  refine⟨fun l W=>match l with | [.val (.string u)]=>u=a | _=>False,rfl,?_⟩
  rintro t24 W25 rfl
  refine natParse_call fun s6 W5 hE5 h6=>⟨s6,_,rfl,fun l W=>False,⟨fun _=>fun W9 _=>bad hpi W9,fun h=>absurd (er_none hpn) (by omega)⟩,fun _ _ _ h=>h.elim⟩
theorem wholeParse_call {W0 W:PW} {M:Nat→Prop} {a:ByteArray} {K:Value→PW→Prop} (hs:a.size≤1099511627776) (kont: ∀(s':Sl) (b':Bool) (W':PW),Ext W W'→(IsInt 284 W' s' b' ((parseI a).getD 0))→K (.tuple #[.agg #[Sl.v s',.bool b'],.int .i64 (er (parseI a))]) W'):
  callN Go.Proofs.Tryz.prog W0 M 192 [.string a] W K:=
 callN_of (fun W' hE=>wholeParse_ok (M:=fun _=>False) hs) (fun W' v W'' hE hE' hP=>by
  obtain⟨s',b',rfl,h⟩:=hP
  exact kont s' b' W'' (hE.trans hE') h)
theorem dvd_coprime {d:Nat} {n:Int} (h:¬(d<2∨Nat.gcd d n.natAbs≠1)):(mkRat n d).num=n∧dn (mkRat n d)=d:=by
 have hg:Nat.gcd d n.natAbs=1:=Decidable.byContradiction fun e=>h (.inr e)
 have hd:¬d<2:=fun e=>h (.inl e)
 have h1:(mkRat n d).num=n:=by
  rw[Rat.num_mkRat,if_neg (by omega),hg];simp
 have h2:(mkRat n d).den=d:=by
  rw[Rat.den_mkRat,if_neg (by omega)]
  rw[Nat.gcd_comm,Nat.gcd_comm] at *
  rw[hg];simp
 refine⟨h1,?_⟩
 unfold dn
 rw[h2,if_neg (by omega)]
theorem ratParse_ok {W0:PW} {M:Nat→Prop} {a:ByteArray} (hs:a.size≤1099511627776):
  PCallsM Go.Proofs.Tryz.prog 113 [.string a] W0 M fun v W'=>∃(s':Sl),∃(b':Bool),∃(t':Sl),v = .tuple #[.agg #[Sl.v s',.bool b',Sl.v t'],.int .i64 (er (parseQ a))]∧IsRat 284 W' s' b' t' ((parseQ a).getD 0):=by
 apply callrat_Parse
 have bad:parseQ a=none→∀W':PW,∃(s':Sl) (b':Bool) (t':Sl),(Value.tuple #[.agg #[.slice none 0 0,.bool false,.slice none 0 0],.int .i64 2]) = .tuple #[.agg #[Sl.v s',.bool b',Sl.v t'],.int .i64 (er (parseQ a))]∧IsRat 284 W' s' b' t' ((parseQ a).getD 0):=by
  intro h W'
  rw[h]
  exact⟨⟨none,0,0⟩,false,⟨none,0,0⟩,rfl,isRat_nil W'⟩
 have hint: ∀(W:PW) (s8:Sl) (b9:Bool) (n:Int),IsInt 284 W s8 b9 n→IsRat 284 W s8 b9 ⟨none,0,0⟩ (n:Rat):=by
  intro W s8 b9 n h
  refine⟨by rw[Rat.num_intCast];exact h,?_⟩
  have:dn (n:Rat)=0:=dn_zero_iff.2 (Rat.den_intCast n)
  rw[this]
  exact isNat_nil W
 refine strCut_call (a:=a) hs fun W2 hE2 _=>⟨_,_,_,rfl,?_⟩
 unfold cutB
 cases hsl:slashAt a with
 | none=>
  have hq:parseQ a=(parseI a).map fun(z:Int)=>(z:Rat):=by unfold parseQ;rw[hsl]
  refine wholeParse_call hs fun s8 b9 W7 hE7 h8=>⟨s8,b9,_,rfl,fun _ _=>False,⟨fun hne=>fun W12 hE12=>?_,fun heq=>⟨fun _ W13 hE13=>?_,fun h=>(by cases h)⟩⟩,fun _ _ _ _ h=>h.elim⟩
  ·have hn:=er_ne hne
   rw[hn] at h8
   rw[hq,hn]
   exact⟨s8,b9,⟨none,0,0⟩,rfl,hint _ _ _ 0 (h8.ext hE12)⟩
  ·obtain⟨n,hn⟩:=er_eq heq
   rw[hn] at h8
   rw[hq,hn]
   exact⟨s8,b9,⟨none,0,0⟩,rfl,hint _ _ _ n (h8.ext hE13)⟩
 | some i=>
  have hi:=firstAt_spec _ _ hsl
  have hq:parseQ a=match parseI (a.extract 0 i),parseN (a.extract (i+1) a.size) with
   | some n,some d=>if d<2∨Nat.gcd d n.natAbs≠1 then none else some (mkRat n d)
   | _,_=>none:=by unfold parseQ;rw[hsl];rfl
  dsimp only
  refine wholeParse_call (by rw[ByteArray.size_extract];omega) fun s8 b9 W7 hE7 h8=>⟨s8,b9,_,rfl,fun l W=>Ext W7 W∧∃n,parseI (a.extract 0 i)=some n,⟨fun hne=>fun W12 hE12=>?_,fun heq=>⟨fun h=>(by cases h),fun _=>⟨Ext.refl _,er_eq heq⟩⟩⟩,?_⟩
  ·have hn:=er_ne hne
   rw[hn] at h8
   rw[er_none hn,hq,hn]
   exact⟨s8,b9,⟨none,0,0⟩,rfl,hint _ _ _ 0 (h8.ext hE12)⟩
  rintro s14 b15 s16 W17 ⟨hE17,n,hn⟩
  rw[hn] at hq h8
  have hnn:=parseI_nl hn
  have h8:IsInt 284 W17 s8 b9 n:=h8.ext hE17
  refine natParse_call fun s20 W19 hE19 h20=>⟨s20,_,rfl,fun l W=>Ext W19 W∧∃d,parseN (a.extract (i+1) a.size)=some d∧¬(d<2∨Nat.gcd d n.natAbs≠1),⟨fun hne=>fun W23 _=>bad ?_ W23,fun heq=>?_⟩,?_⟩
  ·rw[hq,er_ne hne]
  ·obtain⟨d,hd⟩:=er_eq heq
   rw[hd] at hq h20
   have hdn:=parseN_nl hd
   have h20:IsNat 284 W19 s20 d:=h20
   refine natBits_call h20 (by omega) fun W35 hE35 _=>⟨_,rfl,fun hlt=>fun W37 _=>bad ?_ W37,fun hge=>?_⟩
   ·have:d<2:=blen_lt_two.1 (by omega)
    rw[hq]
    simp[this]
   ·have hd2:¬d<2:=fun h=>hge (by have:=blen_lt_two.2 h;omega)
    refine wholeAbs_call ((h8.ext hE19).ext hE35) fun s40 W39 hE39 h40=>⟨s40,rfl,?_⟩
    refine natGcd_call ((h20.ext hE35).ext hE39) h40 (by omega) (by omega) fun s43 W42 hE42 h43=>⟨s43,rfl,?_⟩
    have hgn:nl (Nat.gcd d n.natAbs)≤4000:=Nat.le_trans (nl_mono (Nat.gcd_le_left _ (by omega))) hdn
    refine natBits_call h43 (by omega) fun W45 hE45 _=>⟨_,rfl,fun hlt W47 _=>bad ?_ W47,fun hge2=>⟨((hE35.trans hE39).trans hE42).trans hE45,d,hd,?_⟩⟩
    ·have:Nat.gcd d n.natAbs≠1:=fun e=>by
      rw[e] at hlt
      exact absurd hlt (by decide)
     rw[hq]
     simp[this]
    ·rintro(h | h)
     ·exact hd2 h
     ·have h0:Nat.gcd d n.natAbs≠0:=fun e=>by
       have:=(Nat.gcd_eq_zero_iff.1 e).1
       omega
      have:Nat.gcd d n.natAbs<2:=blen_lt_two.1 (by omega)
      omega
  ·rintro s48 b49 s50 W51 ⟨hE51,d,hd,hc⟩ W52 hE52
   rw[hd] at hq h20
   have hqe:parseQ a=some (mkRat n d):=by rw[hq];exact if_neg hc
   rw[hqe]
   have hm:=dvd_coprime hc
   refine⟨s8,b9,s20,rfl,?_,?_⟩
   ·show IsInt _ _ _ _ (mkRat n d).num
    rw[hm.1]
    exact((h8.ext hE19).ext hE51).ext hE52
   ·show IsNat _ _ _ (dn (mkRat n d))
    rw[hm.2]
    exact(h20.ext hE51).ext hE52
theorem ratParse_call {W0 W:PW} {M:Nat→Prop} {a:ByteArray} {K:Value→PW→Prop} (hs:a.size≤1099511627776) (kont: ∀(s':Sl) (b':Bool) (t':Sl) (W':PW),Ext W W'→(IsRat 284 W' s' b' t' ((parseQ a).getD 0))→K (.tuple #[.agg #[Sl.v s',.bool b',Sl.v t'],.int .i64 (er (parseQ a))]) W'):
  callN Go.Proofs.Tryz.prog W0 M 113 [.string a] W K:=
 callN_of (fun W' hE=>ratParse_ok (M:=fun _=>False) hs) (fun W' v W'' hE hE' hP=>by
  obtain⟨s',b',t',rfl,h⟩:=hP
  exact kont s' b' t' W'' (hE.trans hE') h)
end Go.Proofs.YtjkkidjbppphpaaGreatDoor

/- cinctureref1: natural numbers: trim, NatOf, CmpNat, Bits, AddNat, SubNat. -/
set_option maxRecDepth 100000
set_option linter.unusedVariables false
set_option linter.unusedSimpArgs false
namespace Go.Proofs.YtjkkidjbppphpaaGreatDoor
open Go Go.SX
theorem and32 {n:Nat} (h:n<18446744073709551616):bits .and .u64 (n:Int) 4294967295=((n%B:Nat):Int):=by
 have e:((4294967295:Nat):Int)=4294967295:=rfl
 rw[←e,u64_and_nat _ _ h (by decide)]
 congr 1
 exact Nat.and_two_pow_sub_one_eq_mod n 32
def rtI (W0:PW) (l0:List Nat) (l:List PL) (W:PW):Prop:=
 match l with
 | [.val (.int .i64 k)]=>Ext W0 W∧∃k':Nat,k=(k':Int)∧k'≤l0.length∧val (l0.take k')=val l0
 | _=>False
def rtM (l:List PL) (W:PW):Nat:=
 match l with
 | [.val (.int .i64 k)]=>k.toNat
 | _=>0
theorem refTrimK_ok {W0:PW} {M:Nat→Prop} {s:Sl} {l:List Nat} (h:Row W0 284 1 s (cel l)) (hd:Dig l) (hl:l.length≤1099511627776):
  PCallsM Go.Proofs.Tryz.prog 225 [s.v] W0 M fun v W'=>∃(k:Nat),v = .slice s.A k s.c∧k≤l.length∧dg (val l)=l.take k:=by
 apply callref1_trim
 have hn:s.n=l.length:=Digs.n h
 have hnc:s.n≤s.c:=h.2.1
 have fin: ∀(k:Nat),k≤l.length→val (l.take k)=val l→Trim (l.take k)→∃k':Nat,Sl.v (Sl.cut {A:=Sl.A s,n:=Sl.n s,c:=Sl.c s } (TyI.size ty284) (Int.toNat 0) (Int.toNat (k:Int))) = .slice s.A k' s.c∧k'≤l.length∧dg (val l)=l.take k':=by
  intro k hk hv ht
  rw[show Int.toNat 0=0 from rfl,show TyI.size ty284=1 from rfl,Sl.cut_zero,Int.toNat_natCast]
  exact⟨k,rfl,hk,by rw[←hv,dg_val (hd.take k) ht]⟩
 refine⟨rtI W0 l,rtM,⟨Ext.refl _,l.length,by omega,Nat.le_refl _,by rw[List.take_length]⟩,?_⟩
 rintro i3 W4 ⟨hE4,k,rfl,hk,hv⟩
 have h4:Digs 284 W4 s l:=Row.ext h hE4
 refine⟨fun hpos=>?_,fun hz=>⟨by omega,fun W7 hE7=>fin k hk hv ?_⟩⟩
 ·have hk1:k-1<l.length:=by omega
  have e1:((k:Int)-1)=((k-1:Nat):Int):=by omega
  rw[e1]
  refine⟨by unfold I64;omega,Digs.inB h4 (by omega) (by omega),((l[k-1]:Nat):Int),by rw[Int.toNat_natCast];exact Digs.at h4 hk1,fun h0=>⟨by unfold I64;omega,⟨hE4,k-1,rfl,by omega,?_⟩,?_⟩,fun h0=>⟨by omega,fun W6 hE6=>fin k hk hv ?_⟩⟩
  ·have:=val_take_succ hk1
   rw[show k-1+1=k by omega,hv,show l[k-1]=0 by omega,Nat.mul_zero,Nat.add_zero] at this
   exact this.symm
  ·show Int.toNat ((k-1:Nat):Int)<Int.toNat (k:Int)
   omega
  ·unfold Trim
   rw[List.getLast?_eq_getElem?,List.length_take,Nat.min_eq_left hk,List.getElem?_take,if_pos (by omega),List.getElem?_eq_getElem hk1]
   intro e
   have:=Option.some.inj e
   omega
 ·have:k=0:=by omega
  subst this
  exact fun h=>by simp at h
theorem refTrimK_call {W0 W:PW} {M:Nat→Prop} {s:Sl} {l:List Nat} {K:Value→PW→Prop} (h:Row W 284 1 s (cel l)) (hd:Dig l) (hl:l.length≤1099511627776) (kont: ∀(k:Nat) (W':PW),Ext W W'→(k≤l.length∧dg (val l)=l.take k)→K (.slice s.A k s.c) W'):
  callN Go.Proofs.Tryz.prog W0 M 225 [s.v] W K:=
 callN_of (fun W' hE=>refTrimK_ok (M:=fun _=>False) (h.ext hE) hd hl) (fun W' v W'' hE hE' hP=>by
  obtain⟨k,rfl,h⟩:=hP
  exact kont k W'' (hE.trans hE') h)
theorem refTrim_ok {W0:PW} {M:Nat→Prop} {s:Sl} {l:List Nat} (h:Row W0 284 1 s (cel l)) (hd:Dig l) (hl:l.length≤1099511627776):
  PCallsM Go.Proofs.Tryz.prog 225 [s.v] W0 M fun v W'=>∃(s':Sl),v=Sl.v s'∧IsNat 284 W' s' (val l):=by
 have hp:PCalls Go.Proofs.Tryz.prog 225 [s.v] W0 (fun v W'=>∃s':Sl,v=Sl.v s'∧IsNat 284 W' s' (val l)):=PCalls.mono (refTrimK_ok h hd hl) fun v W' hE ⟨k,hv,hk,he⟩=>⟨⟨s.A,k,s.c⟩,hv,by
  show Digs 284 W' _ (dg (val l))
  rw[he]
  exact Row.ext (Digs.take h hk) hE⟩
 exact PCallsM.mono hp (fun _ h=>h.elim) fun _ _ _ h=>h
theorem refTrim_call {W0 W:PW} {M:Nat→Prop} {s:Sl} {l:List Nat} {K:Value→PW→Prop} (h:Row W 284 1 s (cel l)) (hd:Dig l) (hl:l.length≤1099511627776) (kont: ∀(s':Sl) (W':PW),Ext W W'→(IsNat 284 W' s' (val l))→K (Sl.v s') W'):
  callN Go.Proofs.Tryz.prog W0 M 225 [s.v] W K:=
 callN_of (fun W' hE=>refTrim_ok (M:=fun _=>False) (h.ext hE) hd hl) (fun W' v W'' hE hE' hP=>by
  obtain⟨s',rfl,h⟩:=hP
  exact kont s' W'' (hE.trans hE') h)
theorem refNatOf_ok {W0:PW} {M:Nat→Prop} {x:Nat} (hx:x<B*B):
  PCallsM Go.Proofs.Tryz.prog 167 [.int .u64 (x:Int)] W0 M fun v W'=>∃(s':Sl),v=Sl.v s'∧IsNat 284 W' s' x:=by
 apply callref1_NatOf
 intro s1 W2 hE2 hO hnew
 rw[and32 (by unfold B at hx;omega),ishr32,wrap32n,wrap32n,Nat.mod_mod] at hO
 have hO:Go.SX.Own W2 284 1 s1 (cel [x%B,x/B%B]):=hO
 have hb:x/B<B:=(Nat.div_lt_iff_lt_mul B_pos).2 hx
 rw[Nat.mod_eq_of_lt hb] at hO
 have hd:Dig [x%B,x/B]:=Dig.cons (Nat.mod_lt _ B_pos) (Dig.cons hb Dig.nil)
 refine refTrim_call hO.row hd (by simp) fun s' W5 hE5 hs=>⟨s',rfl,fun W7 hE7=>⟨s',rfl,?_⟩⟩
 have e:val [x%B,x/B]=x:=by simp only[val];have:=Nat.mod_add_div x B;omega
 rw[e] at hs
 exact hs.ext hE7
theorem refNatOf_call {W0 W:PW} {M:Nat→Prop} {x:Nat} {K:Value→PW→Prop} (hx:x<B*B) (kont: ∀(s':Sl) (W':PW),Ext W W'→(IsNat 284 W' s' x)→K (Sl.v s') W'):
  callN Go.Proofs.Tryz.prog W0 M 167 [.int .u64 (x:Int)] W K:=
 callN_of (fun W' hE=>refNatOf_ok (M:=fun _=>False) hx) (fun W' v W'' hE hE' hP=>by
  obtain⟨s',rfl,h⟩:=hP
  exact kont s' W'' (hE.trans hE') h)
theorem val_lt_len {x y:Nat} (h:nl x<nl y):x<y:=by
 apply Nat.lt_of_not_le
 intro hle
 have:=nl_mono hle
 omega
def cmI (x y:Nat) (W0:PW) (l:List PL) (W:PW):Prop:=
 match l with
 | [.val (.int .i64 k)]=>Ext W0 W∧∃k':Nat,k=(k':Int)-1∧k'≤nl x∧(dg x).drop k'=(dg y).drop k'
 | _=>False
def cmM (l:List PL) (W:PW):Nat:=
 match l with
 | [.val (.int .i64 k)]=>(k+1).toNat
 | _=>0
theorem refCmp_ok {W0:PW} {M:Nat→Prop} {s t:Sl} {x y:Nat} (h1:IsNat 284 W0 s x) (h2:IsNat 284 W0 t y) (hx:nl x≤1099511627776):
  PCallsM Go.Proofs.Tryz.prog 189 [s.v,t.v] W0 M fun v W'=>v = .int .i64 (cmpN x y)∧True:=by
 apply callref1_CmpNat
 have n1:=h1.n
 have n2:=h2.n
 have hlx:(dg x).length=nl x:=rfl
 have hly:(dg y).length=nl y:=rfl
 refine⟨fun hne=>⟨fun hlt W1 _=>?_,fun hge W2 _=>?_⟩,fun heq=>⟨by unfold I64;omega,cmI x y W0,cmM,⟨Ext.refl _,nl x,by omega,Nat.le_refl _,?_⟩,?_⟩⟩
 ·rw[cmpN_lt (val_lt_len (by omega))];exact⟨rfl,trivial⟩
 ·rw[cmpN_gt (val_lt_len (by omega))];exact⟨rfl,trivial⟩
 ·rw[List.drop_of_length_le (by omega),List.drop_of_length_le (by omega)]
 rintro i5 W6 ⟨hE6,k,rfl,hk,hdr⟩
 have ha:=h1.ext hE6
 have hb:=h2.ext hE6
 refine⟨fun h0=>?_,fun h0 W13 _=>?_⟩
 ·have ei:(k:Int)-1=((k-1:Nat):Int):=by omega
  have hka:k-1<(dg x).length:=by omega
  have hkb:k-1<(dg y).length:=by omega
  have hdr':(dg x).drop (k-1+1)=(dg y).drop (k-1+1):=by rw[show k-1+1=k by omega];exact hdr
  rw[ei]
  have ia:=Digs.inB ha (i:=((k-1:Nat):Int)) (by omega) (by omega)
  have ib:=Digs.inB hb (i:=((k-1:Nat):Int)) (by omega) (by omega)
  have ea:=Digs.at ha hka
  have eb:=Digs.at hb hkb
  refine⟨ia,(((dg x)[k-1]:Nat):Int),ea,ib,(((dg y)[k-1]:Nat):Int),eb,fun hlt W9 _=>?_,fun hge=>⟨ia,(((dg x)[k-1]:Nat):Int),ea,ib,(((dg y)[k-1]:Nat):Int),eb,fun hlt W12 _=>?_,fun hge2=>⟨by unfold I64;omega,⟨hE6,k-1,by omega,by omega,?_⟩,?_⟩⟩⟩
  ·have:=val_top (dig_dg x) hka hkb hdr' (by omega)
   rw[val_dg,val_dg] at this
   rw[cmpN_lt this];exact⟨rfl,trivial⟩
  ·have:=val_top (dig_dg y) hkb hka hdr'.symm (by omega)
   rw[val_dg,val_dg] at this
   rw[cmpN_gt this];exact⟨rfl,trivial⟩
  ·rw[List.drop_eq_getElem_cons hka,List.drop_eq_getElem_cons hkb,hdr']
   congr 1
   omega
  ·show Int.toNat (((k-1:Nat):Int)-1+1)<Int.toNat (((k-1:Nat):Int)+1)
   omega
 ·have:k=0:=by omega
  subst this
  have:x=y:=by
   rw[List.drop_zero,List.drop_zero] at hdr
   rw[←val_dg x,hdr,val_dg]
  subst this
  rw[cmpN_eq];exact⟨rfl,trivial⟩
theorem refCmp_call {W0 W:PW} {M:Nat→Prop} {s t:Sl} {x y:Nat} {K:Value→PW→Prop} (h1:IsNat 284 W s x) (h2:IsNat 284 W t y) (hx:nl x≤1099511627776) (kont: ∀(W':PW),Ext W W'→(True)→K (.int .i64 (cmpN x y)) W'):
  callN Go.Proofs.Tryz.prog W0 M 189 [s.v,t.v] W K:=
 callN_of (fun W' hE=>refCmp_ok (M:=fun _=>False) (h1.ext hE) (h2.ext hE) hx) (fun W' v W'' hE hE' hP=>by
  obtain⟨rfl,h⟩:=hP
  exact kont W'' (hE.trans hE') h)
def rbI (N:Nat) (W0:PW) (l:List PL) (W:PW):Prop:=
 match l with
 | [.val (.int .i64 n),.val (.int .u32 v)]=>Ext W0 W∧∃n' v':Nat,n=(n':Int)∧v=(v':Int)∧n'+blen v'=N
 | _=>False
def rbM (l:List PL) (W:PW):Nat:=
 match l with
 | [_,.val (.int .u32 v)]=>v.toNat
 | _=>0
theorem blen_half {v:Nat} (h:0<v):blen v=blen (v/2)+1:=by
 by_cases h2:2≤v
 ·have:=blen_shift (x:=v) 1 (by simpa using h2)
  rw[this]
  simp
  omega
 ·have:v=1:=by omega
  subst this
  decide
theorem refBits_ok {W0:PW} {M:Nat→Prop} {s:Sl} {x:Nat} (h:IsNat 284 W0 s x) (hx:nl x≤274877906944):
  PCallsM Go.Proofs.Tryz.prog 227 [s.v] W0 M fun v W'=>v = .int .i64 ((blen x:Nat):Int)∧True:=by
 apply callref1_Bits
 have hn:=h.n
 have hlx:(dg x).length=nl x:=rfl
 refine⟨fun h0 W1 _=>?_,fun h0=>?_⟩
 ·have:x=0:=nl_eq_zero.1 (by omega)
  subst this
  exact⟨rfl,trivial⟩
 ·have hx0:x≠0:=fun e=>h0 (by rw[hn,e,nl_zero];rfl)
  obtain⟨hk,ht,hB,hv⟩:=dg_top hx0
  have e1:((s.n:Int)-1)=((nl x-1:Nat):Int):=by omega
  rw[e1]
  have hb:blen x=32*(nl x-1)+blen (dg x)[nl x-1]:=by
   conv=>lhs;rw[hv]
   exact blen_val (val_take_lt (dig_dg x) _) ht
  refine⟨by unfold I64;omega,by unfold I64;omega,by unfold I64;omega,Digs.inB h (by omega) (by omega),(((dg x)[nl x-1]:Nat):Int),by rw[Int.toNat_natCast];exact Digs.at h hk,rbI (blen x) W0,rbM,⟨Ext.refl _,32*(nl x-1),_,by push_cast;rfl,rfl,hb.symm⟩,?_⟩
  rintro i5 i6 W7 ⟨hE7,n,v,rfl,rfl,hs⟩
  have hbl:blen (dg x)[nl x-1]≤32:=blen_le hB
  refine⟨fun hpos=>⟨?_,⟨hE7,n+1,v/2,by push_cast;rfl,?_,?_⟩,?_⟩,fun hz W8 _=>?_⟩
  ·have:=blen_half (v:=v) (by omega)
   unfold I64
   omega
  ·exact ishr_nat v 1
  ·have:=blen_half (v:=v) (by omega)
   omega
  ·have e:=ishr_nat v 1
   show Int.toNat (ishr (v:Int) 1)<Int.toNat (v:Int)
   rw[e]
   omega
  ·have:v=0:=by omega
   subst this
   have:n=blen x:=by rw[blen_zero] at hs;omega
   subst this
   exact⟨rfl,trivial⟩
theorem refBits_call {W0 W:PW} {M:Nat→Prop} {s:Sl} {x:Nat} {K:Value→PW→Prop} (h:IsNat 284 W s x) (hx:nl x≤274877906944) (kont: ∀(W':PW),Ext W W'→(True)→K (.int .i64 ((blen x:Nat):Int)) W'):
  callN Go.Proofs.Tryz.prog W0 M 227 [s.v] W K:=
 callN_of (fun W' hE=>refBits_ok (M:=fun _=>False) (h.ext hE) hx) (fun W' v W'' hE hE' hP=>by
  obtain⟨rfl,h⟩:=hP
  exact kont W'' (hE.trans hE') h)
theorem val_take_q (l:List Nat) (k:Nat):val (l.take (k+1))=val (l.take k)+B^k*(l[k]?.getD 0):=by
 by_cases h:k<l.length
 ·rw[val_take_succ h,List.getElem?_eq_getElem h];rfl
 ·rw[take_ge (by omega),List.getElem?_eq_none (by omega)]
  simp
theorem refAdd_ok {W0:PW} {M:Nat→Prop} {s t:Sl} {x y:Nat} (h1:IsNat 284 W0 s x) (h2:IsNat 284 W0 t y) (hx:nl x≤549755813888) (hy:nl y≤549755813888):
  PCallsM Go.Proofs.Tryz.prog 243 [s.v,t.v] W0 M fun v W'=>∃(s':Sl),v=Sl.v s'∧IsNat 284 W' s' (x+y):=by
 apply callref1_AddNat
 have n1:=h1.n
 have n2:=h2.n
 have hlx:(dg x).length=nl x:=rfl
 have hly:(dg y).length=nl y:=rfl
 obtain⟨m,hm⟩: ∃m,max (nl x) (nl y)=m:=⟨_,rfl⟩
 have em:mx (s.n:Int) (t.n:Int)=(m:Int):=by unfold mx;split<;>omega
 unfold Rref1_AddNat
 simp only[em]
 refine⟨by unfold I64;omega,⟨trivial,by omega,by omega⟩,fun l W=>match l with
  | [.val (.int .u64 c),.val (.int .i64 k),.row xs]=>Ext W0 W∧∃(c' k':Nat) (zs:List Nat),c=(c':Int)∧k=(k':Int)∧xs=cel zs∧k'≤m+1∧zs.length=m+1∧Dig zs∧
   val (zs.take k')+B^k'*c'=val ((dg x).take k')+val ((dg y).take k')∧c'≤1
  | _=>False,fun l _=>match l with | [_,.val (.int .i64 k),_]=>m+1-k.toNat | _=>0,?_,?_⟩
 ·refine⟨Ext.refl _,0,0,List.replicate (m+1) 0,rfl,rfl,?_,by omega,by simp,fun d hd=>?_,by simp[val],by omega⟩
  ·rw[show Int.toNat ((m:Int)+1)=m+1 by omega];exact cel_replicate _
  ·rw[(List.mem_replicate.1 hd).2];decide
 rintro l3 i4 i5 W6 ⟨hE6,c,k,zs,rfl,rfl,rfl,hk,hz,hdz,hv,hc⟩
 have ha:=h1.ext hE6
 have hb:=h2.ext hE6
 rw[cel_length]
 have hw: ∀da db:Nat,da<B→db<B→c+da+db<2*B∧c+da+db<18446744073709551616:=by
  intro da db h1 h2
  unfold B at *
  omega
 have step: ∀da db:Nat,(dg x)[k]?.getD 0=da→(dg y)[k]?.getD 0=db→da<B→db<B→k<m+1→val ((zs.set k ((c+da+db)%B)).take (k+1))+B^(k+1)*((c+da+db)/B)=val ((dg x).take (k+1))+val ((dg y).take (k+1))∧(c+da+db)/B≤1:=by
  intro da db hda hdb hA hB hkm
  rw[val_set_take (by omega),val_take_q (dg x),val_take_q (dg y),hda,hdb,Nat.pow_succ]
  refine⟨add_step hv,?_⟩
  have:=(Nat.div_lt_iff_lt_mul B_pos).2 (hw da db hA hB).1
  omega
 have nxt: ∀(da db:Nat),(dg x)[k]?.getD 0=da→(dg y)[k]?.getD 0=db→da<B→db<B→k<m+1→∃(c' k':Nat) (zs':List Nat),(((c+da+db)/B:Nat):Int)=(c':Int)∧((k:Int)+1)=(k':Int)∧(cel zs).set k [.int .u32 (((c+da+db)%B:Nat):Int)]=cel zs'∧k'≤m+1∧zs'.length=m+1∧Dig zs'∧
   val (zs'.take k')+B^k'*c'=val ((dg x).take k')+val ((dg y).take k')∧c'≤1:=by
  intro da db hda hdb hA hB hkm
  obtain⟨e1,e2⟩:=step da db hda hdb hA hB hkm
  exact⟨_,k+1,_,rfl,by push_cast;rfl,cel_set ..,by omega,by simpa using hz,hdz.set (Nat.mod_lt _ B_pos),e1,e2⟩
 refine⟨fun hlt=>?_,fun hge s10 W11 hE11 hO hnew=>?_⟩
 ·have hkm:k<m+1:=by omega
  have hmeas: ∀z:Int,z=(k:Int)+1→m+1-z.toNat<m+1-Int.toNat (k:Int):=by intro z hz;omega
  have e0:Int.toNat (k:Int)=k:=rfl
  refine⟨fun hlta=>?_,fun hgea=>?_⟩
  ·have hka:k<(dg x).length:=by omega
   have da:=(dig_dg x).at hka
   obtain⟨u,hu⟩: ∃u,(dg x)[k]=u:=⟨_,rfl⟩
   have hu':(dg x)[k]?.getD 0=u:=by rw[List.getElem?_eq_getElem hka,hu];rfl
   rw[hu] at da
   have eu:IntKind.wrap .u64 (u:Int)=(u:Int):=wrap64n (by unfold B at da;omega)
   refine⟨Digs.inB ha (by omega) (by omega),(u:Int),by rw[←hu];exact Digs.at ha hka,fun hltb=>?_,fun hgeb=>?_⟩
   ·have hkb:k<(dg y).length:=by omega
    have db:=(dig_dg y).at hkb
    obtain⟨v,hv'⟩: ∃v,(dg y)[k]=v:=⟨_,rfl⟩
    have hv2:(dg y)[k]?.getD 0=v:=by rw[List.getElem?_eq_getElem hkb,hv'];rfl
    rw[hv'] at db
    have ev:IntKind.wrap .u64 (v:Int)=(v:Int):=wrap64n (by unfold B at db;omega)
    have w1:=hw u v da db
    have e:IntKind.wrap .u64 (IntKind.wrap .u64 ((c:Int)+IntKind.wrap .u64 (u:Int))+IntKind.wrap .u64 (v:Int))=((c+u+v:Nat):Int):=by
     rw[eu,ev,←Int.natCast_add,wrap64n (by omega),←Int.natCast_add,wrap64n (by omega)]
    refine⟨Digs.inB hb (by omega) (by omega),(v:Int),by rw[←hv'];exact Digs.at hb hkb,⟨by omega,by omega⟩,by omega,by unfold I64;omega,?_,hmeas _ rfl⟩
    rw[e,ishr32,and32 w1.2,wrap32n,Nat.mod_mod,e0]
    exact⟨hE6,nxt u v hu' hv2 da db hkm⟩
   ·have hv2:(dg y)[k]?.getD 0=0:=by rw[List.getElem?_eq_none (by omega)];rfl
    have w1:=hw u 0 da B_pos
    have e:IntKind.wrap .u64 ((c:Int)+IntKind.wrap .u64 (u:Int))=((c+u+0:Nat):Int):=by
     rw[eu,←Int.natCast_add,wrap64n (by omega)];rfl
    refine⟨⟨by omega,by omega⟩,by omega,by unfold I64;omega,?_,hmeas _ rfl⟩
    rw[e,ishr32,and32 w1.2,wrap32n,Nat.mod_mod,e0]
    exact⟨hE6,nxt u 0 hu' hv2 da B_pos hkm⟩
  ·have hu':(dg x)[k]?.getD 0=0:=by rw[List.getElem?_eq_none (by omega)];rfl
   refine⟨fun hltb=>?_,fun hgeb=>?_⟩
   ·have hkb:k<(dg y).length:=by omega
    have db:=(dig_dg y).at hkb
    obtain⟨v,hv'⟩: ∃v,(dg y)[k]=v:=⟨_,rfl⟩
    have hv2:(dg y)[k]?.getD 0=v:=by rw[List.getElem?_eq_getElem hkb,hv'];rfl
    rw[hv'] at db
    have ev:IntKind.wrap .u64 (v:Int)=(v:Int):=wrap64n (by unfold B at db;omega)
    have w1:=hw 0 v B_pos db
    have e:IntKind.wrap .u64 ((c:Int)+IntKind.wrap .u64 (v:Int))=((c+0+v:Nat):Int):=by
     rw[ev,←Int.natCast_add,wrap64n (by omega)];rfl
    refine⟨Digs.inB hb (by omega) (by omega),(v:Int),by rw[←hv'];exact Digs.at hb hkb,⟨by omega,by omega⟩,by omega,by unfold I64;omega,?_,hmeas _ rfl⟩
    rw[e,ishr32,and32 w1.2,wrap32n,Nat.mod_mod,e0]
    exact⟨hE6,nxt 0 v hu' hv2 B_pos db hkm⟩
   ·have hv2:(dg y)[k]?.getD 0=0:=by rw[List.getElem?_eq_none (by omega)];rfl
    have w1:=hw 0 0 B_pos B_pos
    have e:(c:Int)=((c+0+0:Nat):Int):=rfl
    refine⟨⟨by omega,by omega⟩,by omega,by unfold I64;omega,?_,hmeas _ rfl⟩
    rw[e,ishr32,and32 w1.2,wrap32n,Nat.mod_mod,e0]
    exact⟨hE6,nxt 0 0 hu' hv2 B_pos B_pos hkm⟩
 ·have hkm:k=m+1:=by omega
  subst hkm
  have hX:val zs=x+y:=by
   have hlt:=val_lt (dig_dg x)
   have hlt2:=val_lt (dig_dg y)
   rw[show(dg x).take (m+1)=dg x from List.take_of_length_le (by omega),show(dg y).take (m+1)=dg y from List.take_of_length_le (by omega),val_dg,val_dg,←hz,List.take_length] at hv
   rw[val_dg,hlx] at hlt
   rw[val_dg,hly] at hlt2
   have p1:B^nl x≤B^m:=Nat.pow_le_pow_right B_pos (by omega)
   have p2:B^nl y≤B^m:=Nat.pow_le_pow_right B_pos (by omega)
   have p3:B^zs.length=B^m*B:=by rw[hz,Nat.pow_succ]
   have p4:B^m*2≤B^m*B:=Nat.mul_le_mul_left _ (by decide)
   have hc0:c=0:=by
    rcases(show c=0∨c=1 by omega) with h | h
    ·exact h
    ·subst h;omega
   subst hc0
   rw[Nat.mul_zero] at hv;omega
  refine refTrim_call hO.row hdz (by omega) fun s' W14 hE14 h=>⟨s',rfl,fun W16 hE16=>⟨s',rfl,?_⟩⟩
  rw[hX] at h
  exact h.ext hE16
theorem refAdd_call {W0 W:PW} {M:Nat→Prop} {s t:Sl} {x y:Nat} {K:Value→PW→Prop} (h1:IsNat 284 W s x) (h2:IsNat 284 W t y) (hx:nl x≤549755813888) (hy:nl y≤549755813888) (kont: ∀(s':Sl) (W':PW),Ext W W'→(IsNat 284 W' s' (x+y))→K (Sl.v s') W'):
  callN Go.Proofs.Tryz.prog W0 M 243 [s.v,t.v] W K:=
 callN_of (fun W' hE=>refAdd_ok (M:=fun _=>False) (h1.ext hE) (h2.ext hE) hx hy) (fun W' v W'' hE hE' hP=>by
  obtain⟨s',rfl,h⟩:=hP
  exact kont s' W'' (hE.trans hE') h)
theorem refSub_ok {W0:PW} {M:Nat→Prop} {s t:Sl} {x y:Nat} (h1:IsNat 284 W0 s x) (h2:IsNat 284 W0 t y) (hx:nl x≤549755813888) (hle:y≤x):
  PCallsM Go.Proofs.Tryz.prog 244 [s.v,t.v] W0 M fun v W'=>∃(s':Sl),v=Sl.v s'∧IsNat 284 W' s' (x-y):=by
 apply callref1_SubNat
 have n1:=h1.n
 have n2:=h2.n
 have hnl:=nl_mono hle
 have hlx:(dg x).length=nl x:=rfl
 have hly:(dg y).length=nl y:=rfl
 refine⟨⟨rfl,by omega,by omega⟩,subI x y W0,addM x,?_,?_⟩
 ·refine⟨Ext.refl _,0,0,List.replicate (nl x) 0,rfl,rfl,?_,by omega,by simp,fun d hd=>?_,by simp[val],by omega⟩
  ·rw[show Int.toNat (s.n:Int)=nl x by omega];exact cel_replicate _
  ·rw[(List.mem_replicate.1 hd).2];decide
 rintro l3 i4 i5 W6 ⟨hE6,c,k,zs,rfl,rfl,rfl,hk,hz,hdz,hv,hc⟩
 have ha:=h1.ext hE6
 have hb:=h2.ext hE6
 rw[cel_length]
 have e0:Int.toNat (k:Int)=k:=rfl
 have hmeas:k<nl x→∀z:Int,z=(k:Int)+1→nl x-z.toNat<nl x-Int.toNat (k:Int):=by intro hk z hz;omega
 have nxt: ∀(u v d neg:Nat),(dg x)[k]?.getD 0=u→(dg y)[k]?.getD 0=v→d+c+v=u+B*neg→d<B→neg≤1→k<nl x→∃(c' k':Nat) (zs':List Nat),(neg:Int)=(c':Int)∧((k:Int)+1)=(k':Int)∧(cel zs).set k [.int .u32 (d:Int)]=cel zs'∧k'≤nl x∧zs'.length=nl x∧Dig zs'∧
   val (zs'.take k')+val ((dg y).take k')=val ((dg x).take k')+B^k'*c'∧c'≤1:=by
  intro u v d neg hu hv2 hs hd hneg hkx
  refine⟨neg,k+1,_,rfl,by push_cast;rfl,cel_set ..,by omega,by simpa using hz,hdz.set hd,?_,hneg⟩
  rw[val_set_take (by omega),val_take_q (dg x),val_take_q (dg y),hu,hv2,Nat.pow_succ]
  exact sub_alg (low:=0) hv hs
 refine⟨fun hlt=>?_,fun hge s13 W14 hE14 hO hnew=>?_⟩
 ·have hka:k<(dg x).length:=by omega
  have da:=(dig_dg x).at hka
  obtain⟨u,hu⟩: ∃u,(dg x)[k]=u:=⟨_,rfl⟩
  have hu':(dg x)[k]?.getD 0=u:=by rw[List.getElem?_eq_getElem hka,hu];rfl
  have ea:ElemAt W6 s 1 k 0 [.int .u32 (u:Int)]:=by rw[←hu];exact Digs.at ha hka
  have ia:=Digs.inB ha (i:=(k:Int)) (by omega) (by omega)
  rw[hu] at da
  have dA:u<4294967296:=da
  have eu:IntKind.wrap .u64 (u:Int)=(u:Int):=wrap64n (by omega)
  refine⟨fun hltb=>?_,fun hgeb=>?_⟩
  ·have hkb:k<(dg y).length:=by omega
   have db:=(dig_dg y).at hkb
   obtain⟨v,hv'⟩: ∃v,(dg y)[k]=v:=⟨_,rfl⟩
   have hv2:(dg y)[k]?.getD 0=v:=by rw[List.getElem?_eq_getElem hkb,hv'];rfl
   rw[hv'] at db
   have dB:v<4294967296:=db
   have ev:IntKind.wrap .u64 (v:Int)=(v:Int):=wrap64n (by omega)
   have es:IntKind.wrap .u64 ((c:Int)+IntKind.wrap .u64 (v:Int))=((c+v:Nat):Int):=by rw[ev,←Int.natCast_add,wrap64n (by omega)]
   refine⟨Digs.inB hb (by omega) (by omega),(v:Int),by rw[←hv'];exact Digs.at hb hkb,ia,(u:Int),ea,?_⟩
   rw[es,eu]
   refine⟨fun hbw=>⟨⟨by omega,by omega⟩,by omega,by unfold I64;omega,?_,hmeas (by omega) _ rfl⟩,fun hbw=>⟨⟨by omega,by omega⟩,by omega,by unfold I64;omega,?_,hmeas (by omega) _ rfl⟩⟩
   ·have e:IntKind.wrap .u32 (IntKind.wrap .u64 (IntKind.wrap .u64 ((u:Int)+4294967296)-((c+v:Nat):Int)))=((u+4294967296-(c+v):Nat):Int):=by
     rw[wrap64 (z:=(u:Int)+4294967296) (by omega) (by omega),wrap64 (by omega) (by omega),show(u:Int)+4294967296-((c+v:Nat):Int)=((u+4294967296-(c+v):Nat):Int) by omega,wrap32n,Nat.mod_eq_of_lt (by unfold B;omega)]
    rw[e,e0]
    exact⟨hE6,nxt u v _ 1 hu' hv2 (by unfold B;omega) (by unfold B;omega) (Nat.le_refl _) (by omega)⟩
   ·have e:IntKind.wrap .u32 (IntKind.wrap .u64 ((u:Int)-((c+v:Nat):Int)))=((u-(c+v):Nat):Int):=by
     rw[wrap64 (by omega) (by omega),show(u:Int)-((c+v:Nat):Int)=((u-(c+v):Nat):Int) by omega,wrap32n,Nat.mod_eq_of_lt (by unfold B;omega)]
    rw[e,e0]
    exact⟨hE6,nxt u v _ 0 hu' hv2 (by omega) (by unfold B;omega) (Nat.zero_le _) (by omega)⟩
  ·have hv2:(dg y)[k]?.getD 0=0:=by rw[List.getElem?_eq_none (by omega)];rfl
   refine⟨ia,(u:Int),ea,?_⟩
   rw[eu]
   refine⟨fun hbw=>⟨⟨by omega,by omega⟩,by omega,by unfold I64;omega,?_,hmeas (by omega) _ rfl⟩,fun hbw=>⟨⟨by omega,by omega⟩,by omega,by unfold I64;omega,?_,hmeas (by omega) _ rfl⟩⟩
   ·have e:IntKind.wrap .u32 (IntKind.wrap .u64 (IntKind.wrap .u64 ((u:Int)+4294967296)-(c:Int)))=((u+4294967296-c:Nat):Int):=by
     rw[wrap64 (z:=(u:Int)+4294967296) (by omega) (by omega),wrap64 (by omega) (by omega),show(u:Int)+4294967296-(c:Int)=((u+4294967296-c:Nat):Int) by omega,wrap32n,Nat.mod_eq_of_lt (by unfold B;omega)]
    rw[e,e0]
    exact⟨hE6,nxt u 0 _ 1 hu' hv2 (by unfold B;omega) (by unfold B;omega) (Nat.le_refl _) (by omega)⟩
   ·have e:IntKind.wrap .u32 (IntKind.wrap .u64 ((u:Int)-(c:Int)))=((u-c:Nat):Int):=by
     rw[wrap64 (by omega) (by omega),show(u:Int)-(c:Int)=((u-c:Nat):Int) by omega,wrap32n,Nat.mod_eq_of_lt (by unfold B;omega)]
    rw[e,e0]
    exact⟨hE6,nxt u 0 _ 0 hu' hv2 (by omega) (by unfold B;omega) (Nat.zero_le _) (by omega)⟩
 ·have hkx:k=nl x:=by omega
  subst hkx
  rw[show(dg x).take (nl x)=dg x from List.take_of_length_le (Nat.le_refl _),show(dg y).take (nl x)=dg y from List.take_of_length_le (by omega),val_dg,val_dg,←hz,List.take_length] at hv
  have hzB:=val_lt hdz
  have hc0:c=0:=by
   rcases(show c=0∨c=1 by omega) with h | h
   ·exact h
   ·subst h;omega
  subst hc0
  have e:val zs=x-y:=by rw[Nat.mul_zero] at hv;omega
  refine refTrim_call hO.row hdz (by omega) fun s' W17 hE17 h=>⟨s',rfl,fun W19 hE19=>⟨s',rfl,?_⟩⟩
  rw[e] at h
  exact h.ext hE19
theorem refSub_call {W0 W:PW} {M:Nat→Prop} {s t:Sl} {x y:Nat} {K:Value→PW→Prop} (h1:IsNat 284 W s x) (h2:IsNat 284 W t y) (hx:nl x≤549755813888) (hle:y≤x) (kont: ∀(s':Sl) (W':PW),Ext W W'→(IsNat 284 W' s' (x-y))→K (Sl.v s') W'):
  callN Go.Proofs.Tryz.prog W0 M 244 [s.v,t.v] W K:=
 callN_of (fun W' hE=>refSub_ok (M:=fun _=>False) (h1.ext hE) (h2.ext hE) hx hle) (fun W' v W'' hE hE' hP=>by
  obtain⟨s',rfl,h⟩:=hP
  exact kont s' W'' (hE.trans hE') h)
end Go.Proofs.YtjkkidjbppphpaaGreatDoor
