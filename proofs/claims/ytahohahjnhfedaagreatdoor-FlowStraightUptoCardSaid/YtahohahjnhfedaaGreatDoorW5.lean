/- cinctureref1: the texts of numbers; cincturelaw3.Num. -/
import Derived.Test.YtahohahjnhfedaaGreatDoorW4
import Derived.Test.YtahohahjnhfedaaGreatDoorLib2
import Derived.Test.YtahohahjnhfedaaGreatDoorR6
import Derived.Test.YtahohahjnhfedaaGreatDoorR5
import Derived.Test.YtahohahjnhfedaaGreatDoorLib3
set_option linter.unusedVariables false
set_option linter.unusedSimpArgs false
set_option maxRecDepth 100000
namespace Go.Proofs.YtahohahjnhfedaaGreatDoor
open Go Go.SX
theorem Ey6 {us ws:List Nat} {c' b c:Nat} (ht:Trim us) (hd:Dig us) (hl:ws.length=us.length) (hw:Dig ws) (hc:c'<B) (hb:0<b) (h:val ws+B^ws.length*c'=val us*b+c):dg (val us*b+c)=if c'=0 then ws else ws ++ [c']:=by
 rw[←h]
 split
 ·rename_i h0
  subst h0
  rw[Nat.mul_zero,Nat.add_zero] at h⊢
  by_cases hn:ws = []
  ·subst hn;exact Ae8
  ·refine Bk0 hw (Ek5 hw hn ?_)
   have hun:us≠[]:=fun e=>hn (List.eq_nil_of_length_eq_zero (by rw[hl,e];rfl))
   rw[h,hl]
   have h1:=Ee4 hun ht
   have h2:val us*1≤val us*b:=Nat.mul_le_mul_left _ hb
   omega
 ·rename_i h0
  rw[show val ws+B^ws.length*c'=val (ws ++ [c']) by rw[Ag8];simp[val]]
  exact Bk0 (hw.append (Dig.cons hc Dig.nil)) (Cx9 h0)
theorem Fq2 {a:ByteArray} {k:Nat} (h1:48≤sb a k) (h2:sb a k≤57):IntKind.wrap .u64 (IntKind.wrap .u8 (Ae2 a k-48))=((sb a k-48:Nat):Int):=by
 rw[Ao5,Du1 (by omega) (by omega),show((sb a k:Int)-48)=((sb a k-48:Nat):Int) by omega,Ab1 (by omega)]
def rnI (us:List Nat) (c0:Nat) (W22:PW) (l:List PL) (W:PW):Prop:=
 match l with
 | [.val (.int .u64 c),.val (.int .i64 k),.row xs]=>Ext W22 W∧∃(c' k':Nat) (ws:List Nat),c=(c':Int)∧k=(k':Int)∧xs=cel ws∧ws.length=us.length∧Dig ws∧c'<B∧k'≤us.length∧
   val (ws.take k')+B^k'*c'=val (us.take k')*10+c0∧ws.drop k'=us.drop k'
 | _=>False
def rnM (n:Nat) (l:List PL) (W:PW):Nat:=
 match l with
 | [_,.val (.int .i64 k),_]=>n-k.toNat
 | _=>0
theorem Cc7 {W0:PW} {M:Nat→Prop} {a:ByteArray} :
  Aa0 Tryz.prog 53 [.string a] W0 M fun v W'=>∃(s':Sl),v = .tuple #[Sl.v s',.bool (Ad2 a).isSome]∧Aa6 141 W' s' ((Ad2 a).getD 0):=by
 apply Bi5
 have bad:¬Cv5 a→∀W':PW,∃s':Sl,(Value.tuple #[.slice none 0 0,.bool false]) = .tuple #[Sl.v s',.bool (Ad2 a).isSome]∧Aa6 141 W' s' ((Ad2 a).getD 0):=by
  intro h W'
  rw[Bh4 h]
  exact⟨⟨none,0,0⟩,rfl,Af6 W'⟩
 have hs0:Ae2 a 0=(sb a 0:Int):=Ao5 a 0
 refine⟨fun l W=>Ext W0 W∧a.size≠0∧a.size≤4000∧¬(sb a 0=48∧1<a.size),⟨fun h=>fun W2 _=>bad ?_ W2,fun h=>⟨fun hl=>fun W2 _=>bad ?_ W2,fun hl=>⟨?_,fun h0=>⟨fun h1 W6 _=>bad ?_ W6,fun h1=>?_⟩,fun h0=>?_⟩⟩⟩,?_⟩
 ·rintro⟨h1,_⟩
  omega
 ·rintro⟨_,h1,_⟩
  omega
 ·omega
 ·rintro⟨_,_,h2,_⟩
  exact h2 ⟨by omega,by omega⟩
 ·exact⟨Ext.refl _,by omega,by omega,by omega⟩
 ·exact⟨Ext.refl _,by omega,by omega,by omega⟩
 rintro W8 ⟨hE8,hz,h4,h48⟩
 refine⟨fun l W=>match l with | [.row xs,.val (.int .i64 i)]=>Ext W0 W∧(∃k:Nat,i=(k:Int)∧k≤a.size∧(∀j,j<k→48≤sb a j∧sb a j≤57)∧xs=cel (dg (dv a k))) | _=>False,
  fun l _=>match l with | [_,.val (.int .i64 i)]=>a.size-i.toNat | _=>0,⟨hE8,0,rfl,Nat.zero_le _,fun j h=>(by omega),by rw[show dv a 0=0 from rfl,Ae8];rfl⟩,?_⟩
 rintro l11 i12 W13 ⟨hE13,k,rfl,hk,hdk,rfl⟩
 have hsk:Ae2 a (Int.toNat (k:Int))=(sb a k:Int):=Ao5 a k
 refine⟨fun hlt=>⟨fun l W=>Ext W13 W∧48≤sb a k∧sb a k≤57,⟨by omega,fun hb=>fun W17 _=>bad ?_ W17,fun hb=>⟨by omega,fun hb2 W18 _=>bad ?_ W18,fun hb2=>⟨Ext.refl _,by omega,by omega⟩⟩⟩,?_⟩,fun hge s30 W31 hE31 hO hnew W33 hE33=>?_⟩
 ·rintro⟨_,_,_,h⟩
  have:=h k (by omega)
  omega
 ·rintro⟨_,_,_,h⟩
  have:=h k (by omega)
  omega
 ·rintro t17 i18 b19 t20 i21 W22 ⟨hE22,hb1,hb2⟩
  have hnl:=Fn5 hdk (by omega)
  have hul:(dg (dv a k)).length=nl (dv a k):=rfl
  obtain⟨us,hus⟩: ∃us,dg (dv a k)=us:=⟨_,rfl⟩
  have hud:Dig us:=hus ▸ Ad8 _
  have hut:Trim us:=hus ▸ Df1 _
  have huv:val us=dv a k:=by rw[←hus,Ac5]
  rw[hus] at hul
  refine⟨by omega,?_⟩
  rw[show Int.toNat (k:Int)=k from rfl,Fq2 hb1 hb2,hus]
  refine⟨rnI us (sb a k-48) W22,rnM us.length,⟨Ext.refl _,_,0,us,rfl,rfl,rfl,rfl,hud,by unfold B;omega,Nat.zero_le _,by simp[val],rfl⟩,?_⟩
  rintro l25 i26 i27 W28 ⟨hE28,c,j,ws,rfl,rfl,rfl,hwl,hwd,hcB,hj,hv,hdr⟩
  rw[Aa5]
  refine⟨fun hlt2=>?_,fun hge2=>?_⟩
  ·have hju:j<us.length:=by omega
   have hjw:j<ws.length:=by omega
   have hwj:ws[j]=us[j]:=by
    have:=congrArg (fun l=>l[0]?) hdr
    simpa[List.getElem?_drop,hju,hjw] using this
   have hdj:=hud.at hju
   have hcl:=Ds7 (b:=10) hcB hdj (by decide)
   have e:IntKind.wrap .u64 ((c:Int)+IntKind.wrap .u64 (IntKind.wrap .u64 ((us[j]:Nat):Int)*10))=((c+us[j]*10:Nat):Int):=by
    rw[Ab1 (n:=us[j]) (by unfold B at hdj;omega),show((us[j]:Nat):Int)*10=((us[j]*10:Nat):Int) by push_cast;rfl,Ab1 (n:=us[j]*10) (by omega),←Int.natCast_add,Ab1 hcl.2]
   refine⟨by omega,((us[j]:Nat):Int),⟨_,Au0 hjw,by rw[hwj];rfl⟩,by omega,by omega,by unfold I64;omega,?_,?_⟩
   ·rw[e,Ao0,Cx7 hcl.2,Ab9,Nat.mod_mod,show Int.toNat (j:Int)=j from rfl,Ae9]
    refine⟨hE28,_,j+1,_,rfl,by push_cast;rfl,rfl,by simpa using hwl,hwd.set (Nat.mod_lt _ Ad3),hcl.1,by omega,?_,?_⟩
    ·rw[Ac1 hjw,Aa4 hju,Nat.pow_succ]
     exact grow_step hv
    ·rw[Ah5 (by omega)]
     have:=congrArg (fun l=>l.drop 1) hdr
     simpa using this
   ·show us.length-Int.toNat ((j:Int)+1)<us.length-Int.toNat (j:Int)
    omega
  ·have hju:j=us.length:=by omega
   subst hju
   rw[←hwl,List.take_length,hwl,List.take_length] at hv
   have hf:=Ey6 hut hud hwl hwd hcB (b:=10) (by decide) (by rw[hwl];exact hv)
   have hdig: ∀j,j<k+1→48≤sb a j∧sb a j≤57:=by
    intro j hj
    by_cases e:j=k
    ·subst e;exact⟨hb1,hb2⟩
    ·exact hdk j (by omega)
   have edv:dv a (k+1)=val us*10+(sb a k-48):=by rw[huv];rfl
   have hm:a.size-Int.toNat ((k:Int)+1)<a.size-Int.toNat (k:Int):=by omega
   refine⟨fun hpos=>⟨by simp;omega,by unfold I64;omega,⟨(hE13.trans hE22).trans hE28,k+1,by push_cast;rfl,by omega,hdig,?_⟩,hm⟩,fun hz=>⟨by unfold I64;omega,⟨(hE13.trans hE22).trans hE28,k+1,by push_cast;rfl,by omega,hdig,?_⟩,hm⟩⟩
   ·rw[edv,hf,if_neg (by omega),Ab9,Nat.mod_eq_of_lt hcB,←Bh9];rfl
   ·rw[edv,hf,if_pos (by omega)]
 ·have hk':k=a.size:=by omega
  subst hk'
  have hg:Cv5 a:=⟨hz,h4,h48,hdk⟩
  rw[Bu4 hg]
  exact⟨s30,rfl,(hO.ext hE33).row⟩
theorem Aj1 {W0 W:PW} {M:Nat→Prop} {a:ByteArray} {K:Value→PW→Prop} (kont: ∀(s':Sl) (W':PW),Ext W W'→(Aa6 141 W' s' ((Ad2 a).getD 0))→K (.tuple #[Sl.v s',.bool (Ad2 a).isSome]) W'):
  Aa1 Tryz.prog W0 M 53 [.string a] W K:=
 Aa2 (fun W' hE=>Cc7 (M:=fun _=>False) ) (fun W' v W'' hE hE' hP=>by
  obtain⟨s',rfl,h⟩:=hP
  exact kont s' W'' (hE.trans hE') h)
theorem Dv5 {t:TypeId} (W:PW):Ab6 t W false ⟨none,0,0⟩ ⟨none,0,0⟩ 0:=⟨By0 W,.inr ⟨rfl,Af6 W⟩⟩
theorem Cd1 {W0:PW} {M:Nat→Prop} {a:ByteArray} :
  Aa0 Tryz.prog 51 [.string a] W0 M fun v W'=>∃(b':Bool),∃(s':Sl),v = .tuple #[.agg #[.bool b',Sl.v s'],.bool (Ac3 a).isSome]∧Ab5 141 W' s' b' ((Ac3 a).getD 0):=by
 apply Bi8
 have bad:Ac3 a=none→∀W':PW,∃(b':Bool) (s':Sl),(Value.tuple #[.agg #[.bool false,.slice none 0 0],.bool false]) = .tuple #[.agg #[.bool b',Sl.v s'],.bool (Ac3 a).isSome]∧Ab5 141 W' s' b' ((Ac3 a).getD 0):=by
  intro h W'
  rw[h]
  exact⟨false,⟨none,0,0⟩,rfl,By0 W'⟩
 have hs0:Ae2 a 0=(sb a 0:Int):=Ao5 a 0
 have hp0:¬(0<a.size∧sb a 0=45)→Ac3 a=(Ad2 a).map fun x=>(x:Int):=fun h=>by unfold Ac3;rw[if_neg h]
 have hp1:(0<a.size∧sb a 0=45)→Ac3 a=match Ad2 (a.extract 1 a.size) with
  | some x=>if x=0 then none else some (-(x:Int))
  | none=>none:=fun h=>by unfold Ac3;rw[if_pos h];rfl
 have plain:¬(0<a.size∧sb a 0=45)→∀(s:Sl) (W W':PW),Aa6 141 W s ((Ad2 a).getD 0)→Ext W W'→∃(b':Bool) (s':Sl),(Value.tuple #[.agg #[.bool false,Sl.v s],.bool (Ad2 a).isSome]) = .tuple #[.agg #[.bool b',Sl.v s'],.bool (Ac3 a).isSome]∧Ab5 141 W' s' b' ((Ac3 a).getD 0):=by
  intro h s W W' hs hE
  rw[hp0 h]
  refine⟨false,s,?_,?_⟩
  ·cases Ad2 a<;>rfl
  ·have e:(((Ad2 a).map fun x=>(x:Int)).getD 0)=(((Ad2 a).getD 0:Nat):Int):=by cases Ad2 a<;>rfl
   rw[e]
   exact⟨by rw[Int.natAbs_natCast];exact hs.ext hE,by rw[decide_eq_false (by omega)]⟩
 refine⟨fun hz=>⟨by omega,fun h45=>⟨by omega,?_⟩,fun h45=>?_⟩,fun hz=>?_⟩
 ·have hc:0<a.size∧sb a 0=45:=⟨by omega,by omega⟩
  rw[show Int.toNat (a.size:Int)=a.size from rfl]
  refine Aj1 fun s3 W2 hE2 h3=>⟨s3,_,rfl,?_⟩
  have n3:=h3.n
  cases hp:Ad2 (a.extract 1 a.size) with
  | none=>
   refine⟨fun _ W5 _=>bad ?_ W5,fun h=>(by cases h)⟩
   rw[hp1 hc,hp]
  | some x=>
   rw[hp] at h3 n3
   have h3:Aa6 141 W2 s3 x:=h3
   have n3:s3.n=nl x:=n3
   refine⟨fun h=>(by cases h),fun _=>⟨fun h0 W7 _=>bad ?_ W7,fun h0 W8 hE8=>?_⟩⟩
   ·have:x=0:=Ad0.1 (by omega)
    rw[hp1 hc,hp]
    simp[this]
   ·have hx0:x≠0:=fun e=>h0 (by rw[n3,e,Ag9];rfl)
    have hpe:Ac3 a=some (-(x:Int)):=by
     rw[hp1 hc,hp]
     simp[hx0]
    rw[hpe]
    refine⟨true,s3,rfl,?_,?_⟩
    ·show Aa6 _ _ _ (-(x:Int)).natAbs
     rw[Int.natAbs_neg,Int.natAbs_natCast]
     exact h3.ext hE8
    ·show true=decide (-(x:Int)<0)
     rw[decide_eq_true (by omega)]
 ·have hc:¬(0<a.size∧sb a 0=45):=by omega
  exact Aj1 fun s11 W10 hE10 h11=>⟨s11,_,rfl,fun W13 hE13=>plain hc s11 W10 W13 h11 hE13⟩
 ·have hc:¬(0<a.size∧sb a 0=45):=by omega
  exact Aj1 fun s11 W10 hE10 h11=>⟨s11,_,rfl,fun W13 hE13=>plain hc s11 W10 W13 h11 hE13⟩
theorem Au4 {W0 W:PW} {M:Nat→Prop} {a:ByteArray} {K:Value→PW→Prop} (kont: ∀(b':Bool) (s':Sl) (W':PW),Ext W W'→(Ab5 141 W' s' b' ((Ac3 a).getD 0))→K (.tuple #[.agg #[.bool b',Sl.v s'],.bool (Ac3 a).isSome]) W'):
  Aa1 Tryz.prog W0 M 51 [.string a] W K:=
 Aa2 (fun W' hE=>Cd1 (M:=fun _=>False) ) (fun W' v W'' hE hE' hP=>by
  obtain⟨b',s',rfl,h⟩:=hP
  exact kont b' s' W'' (hE.trans hE') h)
theorem Bl0 {a:ByteArray} {k:Nat} (h:k<a.size):Al7 a 47 (a.size-k) k=if sb a k=47 then some k else Al7 a 47 (a.size-(k+1)) (k+1):=by
 rw[show a.size-k=(a.size-(k+1))+1 by omega]
 rfl
theorem Ca3 {W0:PW} {M:Nat→Prop} {a:ByteArray} (hs:a.size≤1099511627776):
  Aa0 Tryz.prog 19 [.string a] W0 M fun v W'=>∃(b':Bool),∃(s':Sl),∃(t':Sl),v = .tuple #[.agg #[.bool b',Sl.v s',Sl.v t'],.bool (Ab7 a).isSome]∧Ab6 141 W' b' s' t' ((Ab7 a).getD 0):=by
 apply Bj0
 have bad:Ab7 a=none→∀W':PW,∃(b':Bool) (s' t':Sl),(Value.tuple #[.agg #[.bool false,.slice none 0 0,.slice none 0 0],.bool false]) = .tuple #[.agg #[.bool b',Sl.v s',Sl.v t'],.bool (Ab7 a).isSome]∧Ab6 141 W' b' s' t' ((Ab7 a).getD 0):=by
  intro h W'
  rw[h]
  exact⟨false,⟨none,0,0⟩,⟨none,0,0⟩,rfl,Dv5 W'⟩
 refine⟨fun l W=>match l with | [.val (.int .i64 i)]=>Ext W0 W∧i=Cx6 (Ak5 a) | _=>False,⟨fun l W=>match l with
  | [.val (.int .i64 p),.val (.int .i64 i)]=>Ext W0 W∧∃k:Nat,i=(k:Int)∧k≤a.size∧((p = -1∧Ak5 a=Al7 a 47 (a.size-k) k)∨(0≤p∧p=Cx6 (Ak5 a)))
  | _=>False,fun l _=>match l with | [_,.val (.int .i64 i)]=>a.size-i.toNat | _=>0,⟨Ext.refl _,0,rfl,Nat.zero_le _,.inl ⟨rfl,rfl⟩⟩,?_⟩,?_⟩
 ·rintro i4 i5 W6 ⟨hE6,k,rfl,hk,hcase⟩
  have hsk:Ae2 a (Int.toNat (k:Int))=(sb a k:Int):=Ao5 a k
  refine⟨fun hlt=>⟨fun hneg=>⟨by omega,fun h47=>?_,fun h47=>?_⟩,fun hpos=>⟨hE6,?_⟩⟩,fun hge=>⟨hE6,?_⟩⟩
  ·have hm:a.size-Int.toNat ((k:Int)+1)<a.size-Int.toNat (k:Int):=by omega
   refine⟨by unfold I64;omega,⟨hE6,k+1,by push_cast;rfl,by omega,.inr ⟨by omega,?_⟩⟩,hm⟩
   rcases hcase with⟨_,h⟩ | ⟨h,_⟩
   ·rw[h,Bl0 (by omega),if_pos (by omega)];rfl
   ·omega
  ·have hm:a.size-Int.toNat ((k:Int)+1)<a.size-Int.toNat (k:Int):=by omega
   refine⟨by unfold I64;omega,⟨hE6,k+1,by push_cast;rfl,by omega,.inl ?_⟩,hm⟩
   rcases hcase with⟨h0,h⟩ | ⟨h,_⟩
   ·refine⟨h0,?_⟩
    rw[h,Bl0 (by omega),if_neg (by omega)]
   ·omega
  ·rcases hcase with⟨h0,h⟩ | ⟨_,h⟩
   ·omega
   ·exact h
  ·rcases hcase with⟨h0,h⟩ | ⟨_,h⟩
   ·rw[h0,h,show a.size-k=0 by omega];rfl
   ·exact h
 rintro i7 W8 ⟨hE8,rfl⟩
 cases hsl:Ak5 a with
 | none=>
  have hq:Ab7 a=(Ac3 a).map fun(z:Int)=>(z:Rat):=by unfold Ab7;rw[hsl]
  refine⟨fun _=>Au4 fun b11 s12 W10 hE10 h12=>⟨b11,s12,_,rfl,Ae0 (x:=1) (by decide) fun s16 W15 hE15 h16=>⟨s16,rfl,fun W17 hE17=>⟨b11,s12,s16,?_,?_⟩⟩⟩,fun h=>(by exact absurd (by decide) h)⟩
  ·rw[hq]
   cases Ac3 a<;>rfl
  ·have e:(Ab7 a).getD 0=(((Ac3 a).getD 0:Int):Rat):=by
    rw[hq]
    cases Ac3 a<;>rfl
   rw[e]
   exact⟨by rw[Rat.num_intCast];exact(h12.ext hE15).ext hE17,.inl (by rw[Rat.den_intCast];exact h16.ext hE17)⟩
 | some i=>
  have hi:=Aq6 _ _ hsl
  have hq:Ab7 a=match Ac3 (a.extract 0 i),Ad2 (a.extract (i+1) a.size) with
   | some n,some d=>if d<2∨Nat.gcd d n.natAbs≠1 then none else some (mkRat n d)
   | _,_=>none:=by unfold Ab7;rw[hsl];rfl
  show(((i:Nat):Int)<0→_)∧(¬((i:Nat):Int)<0→_)
  refine⟨fun h=>(by omega),fun _=>⟨by simp only[Cx6];omega,?_⟩⟩
  simp only[Cx6]
  rw[show Int.toNat (i:Int)=i from rfl,show Int.toNat ((i:Int)+1)=i+1 by omega,show Int.toNat (a.size:Int)=a.size from rfl]
  refine Au4 fun b20 s21 W19 hE19 h21=>⟨b20,s21,_,rfl,by unfold I64;omega,by omega,Aj1 fun s25 W24 hE24 h25=>⟨s25,_,rfl,?_⟩⟩
  have h21:=h21.ext hE24
  cases hn:Ac3 (a.extract 0 i) with
  | none=>
   have hqn:Ab7 a=none:=by rw[hq,hn]
   exact⟨fun _ _=>False,⟨fun _ W28 _=>bad hqn W28,fun h=>(by cases h)⟩,fun _ _ _ _ h=>h.elim⟩
  | some n=>
   cases hd:Ad2 (a.extract (i+1) a.size) with
   | none=>
    have hqn:Ab7 a=none:=by rw[hq,hn,hd]
    exact⟨fun _ _=>False,⟨fun h=>(by cases h),fun _=>⟨fun _ W56 _=>bad hqn W56,fun h=>(by cases h)⟩⟩,fun _ _ _ _ h=>h.elim⟩
   | some d=>
    rw[hn,hd] at hq
    rw[hn] at h21
    rw[hd] at h25
    have h21:Ab5 141 W24 s21 b20 n:=h21
    have h25:Aa6 141 W24 s25 d:=h25
    have hnn:=Be9 hn
    have hdn:=Ap1 hd
    have hone:nl 1≤1099511627776:=by rw[Ax0];omega
    refine⟨fun l W=>Ext W24 W∧¬(d<2∨Nat.gcd d n.natAbs≠1),⟨fun h=>(by cases h),fun _=>⟨fun h=>(by cases h),fun _=>?_⟩⟩,?_⟩
    ·refine Ae0 (x:=1) (by decide) fun s69 W68 hE68 h69=>⟨s69,rfl,Aj3 (h25.ext hE68) h69 (by omega) fun W71 hE71 _=>⟨_,rfl,fun hle W73 _=>bad ?_ W73,fun hgt=>?_⟩⟩
     ·have:d<2:=by
       apply Nat.lt_of_not_le
       intro h
       rw[Aj4 (by omega)] at hle
       omega
      rw[hq]
      simp[this]
     ·have hd2:¬d<2:=by
       intro h
       apply hgt
       rcases(show d<1∨d=1 by omega) with h | h
       ·rw[Al0 h];omega
       ·rw[h,Ap9];omega
      refine Bv8 ((h25.ext hE68).ext hE71) ((h21.ext hE68).ext hE71).1 (by omega) (by omega) fun s76 W75 hE75 h76=>⟨s76,rfl,Ae0 (x:=1) (by decide) fun s79 W78 hE78 h79=>⟨s79,rfl,Aj3 (h76.ext hE78) h79 (Nat.le_trans (Ad1 (Nat.gcd_le_left _ (by omega))) (by omega)) fun W81 hE81 _=>⟨_,rfl,fun hne W83 _=>bad ?_ W83,fun heq=>⟨((((hE68.trans hE71).trans hE75).trans hE78).trans hE81),?_⟩⟩⟩⟩
      ·have:Nat.gcd d n.natAbs≠1:=fun e=>by
        rw[e,Ap9] at hne
        exact hne rfl
       rw[hq]
       simp[this]
      ·rintro(h | h)
       ·exact hd2 h
       ·rcases Nat.lt_or_gt_of_ne h with h | h
        ·rw[Al0 h] at heq;omega
        ·rw[Aj4 h] at heq;omega
    ·rintro b84 s85 s86 W87 ⟨hE87,hc⟩ W88 hE88
     have hqe:Ab7 a=some (mkRat n d):=by rw[hq];exact if_neg hc
     have hm:=Br3 hc
     have hden:(mkRat n d).den=d:=by
      have h2:dn (mkRat n d)≠0:=by rw[hm.2];omega
      rw[←Cl4 h2,hm.2]
     rw[hqe]
     refine⟨b20,s21,s25,rfl,?_,.inl ?_⟩
     ·show Ab5 _ _ _ _ (mkRat n d).num
      rw[hm.1]
      exact(h21.ext hE87).ext hE88
     ·show Aa6 _ _ _ (mkRat n d).den
      rw[hden]
      exact(h25.ext hE87).ext hE88
theorem An7 {W0 W:PW} {M:Nat→Prop} {a:ByteArray} {K:Value→PW→Prop} (hs:a.size≤1099511627776) (kont: ∀(b':Bool) (s':Sl) (t':Sl) (W':PW),Ext W W'→(Ab6 141 W' b' s' t' ((Ab7 a).getD 0))→K (.tuple #[.agg #[.bool b',Sl.v s',Sl.v t'],.bool (Ab7 a).isSome]) W'):
  Aa1 Tryz.prog W0 M 19 [.string a] W K:=
 Aa2 (fun W' hE=>Ca3 (M:=fun _=>False) hs) (fun W' v W'' hE hE' hP=>by
  obtain⟨b',s',t',rfl,h⟩:=hP
  exact kont b' s' t' W'' (hE.trans hE') h)
def Gp3 (a:ByteArray):Option Rat:=if a.size≤100 then Ab7 a else none
theorem Gt8 {W0:PW} {M:Nat→Prop} {a:ByteArray} (hs:a.size≤1099511627776):
  Aa0 Tryz.prog 5 [.string a] W0 M fun v W'=>∃(s:Sl),∃(b:Bool),∃(t:Sl),∃(b':Bool),∃(s':Sl),∃(t':Sl),v = .tuple #[.agg #[Sl.v s,.bool b,Sl.v t],.agg #[.bool b',Sl.v s',Sl.v t'],.bool (Gp3 a).isSome]∧Ab3 141 W' s b t ((Gp3 a).getD 0)∧Ab6 141 W' b' s' t' ((Gp3 a).getD 0):=by
 apply Gp5
 have bad:Gp3 a=none→∀W':PW,∃(s:Sl) (b:Bool) (t:Sl) (b':Bool) (s' t':Sl),(Value.tuple #[.agg #[.slice none 0 0,.bool false,.slice none 0 0],.agg #[.bool false,.slice none 0 0,.slice none 0 0],.bool false]) = .tuple #[.agg #[Sl.v s,.bool b,Sl.v t],.agg #[.bool b',Sl.v s',Sl.v t'],.bool (Gp3 a).isSome]∧Ab3 141 W' s b t ((Gp3 a).getD 0)∧Ab6 141 W' b' s' t' ((Gp3 a).getD 0):=by
  intro h W'
  rw[h]
  exact⟨⟨none,0,0⟩,false,⟨none,0,0⟩,false,⟨none,0,0⟩,⟨none,0,0⟩,rfl,Ef0 W',Dv5 W'⟩
 refine An7 hs fun b3 s4 s5 W2 hE2 h4=>⟨b3,s4,s5,_,rfl,?_⟩
 cases hq:Ab7 a with
 | none=>
  have hn:Gp3 a=none:=by unfold Gp3;rw[hq];split<;>rfl
  exact⟨fun _ W7 _=>bad hn W7,fun h=>(by cases h)⟩
 | some q=>
  refine⟨fun h=>(by cases h),fun _=>⟨fun hlt W15 _=>bad ?_ W15,fun hge=>?_⟩⟩
  ·unfold Gp3
   rw[if_neg (by omega)]
  ·have hn:Gp3 a=some q:=by
    unfold Gp3
    rw[if_pos (by omega),hq]
   rw[hn]
   refine As8 hs fun s18 b19 s20 W17 hE17 h18=>⟨s18,b19,s20,_,rfl,fun W22 hE22=>⟨s18,b19,s20,b3,s4,s5,rfl,?_,?_⟩⟩
   ·rw[hq] at h18
    exact h18.ext hE22
   ·rw[hq] at h4
    exact(h4.ext hE17).ext hE22
theorem Go0 {W0 W:PW} {M:Nat→Prop} {a:ByteArray} {K:Value→PW→Prop} (hs:a.size≤1099511627776) (kont: ∀(s:Sl) (b:Bool) (t:Sl) (b':Bool) (s':Sl) (t':Sl) (W':PW),Ext W W'→(Ab3 141 W' s b t ((Gp3 a).getD 0)∧Ab6 141 W' b' s' t' ((Gp3 a).getD 0))→K (.tuple #[.agg #[Sl.v s,.bool b,Sl.v t],.agg #[.bool b',Sl.v s',Sl.v t'],.bool (Gp3 a).isSome]) W'):
  Aa1 Tryz.prog W0 M 5 [.string a] W K:=
 Aa2 (fun W' hE=>Gt8 (M:=fun _=>False) hs) (fun W' v W'' hE hE' hP=>by
  obtain⟨s,b,t,b',s',t',rfl,h⟩:=hP
  exact kont s b t b' s' t' W'' (hE.trans hE') h)
end Go.Proofs.YtahohahjnhfedaaGreatDoor
/- cinctureref1: whole numbers and quotients. -/
namespace Go.Proofs.YtahohahjnhfedaaGreatDoor
open Go Go.SX
theorem Am1 {t:TypeId} {W:PW} {s:Sl} {x:Nat} (h:Aa6 t W s x):Ab5 t W s false (x:Int):=⟨by rw[Int.natAbs_natCast];exact h,by symm;exact decide_eq_false (by omega)⟩
def Fv0 (x y:Nat) (W0:PW) (l:List PL) (W:PW):Prop:=
 match l with
 | [.val (.int .i64 i),.row l3]=>Ext W0 W∧∃(k:Nat) (zs:List Nat),i=(k:Int)∧l3=cel zs∧k≤nl x∧zs.length=nl x+nl y+1∧Dig zs∧val zs=val ((dg x).take k)*y∧∀j (h:j<zs.length),k+nl y≤j→zs[j]=0
 | _=>False
def Fv4 (x y k d v0:Nat) (W0:PW) (l:List PL) (W:PW):Prop:=
 match l with
 | [.val (.int .u64 c),.val (.int .i64 i),.row l3]=>Ext W0 W∧∃(c' j:Nat) (zs:List Nat),c=(c':Int)∧i=(j:Int)∧l3=cel zs∧j≤nl y∧c'<B∧zs.length=nl x+nl y+1∧Dig zs∧val zs+B^(k+j)*c'=v0+B^k*(d*val ((dg y).take j))∧∀i (h:i<zs.length),k+nl y≤i→zs[i]=0
 | _=>False
def Fu0 (n:Nat) (l:List PL) (W:PW):Nat:=
 match l with
 | .val (.int .i64 i) :: _=>n-i.toNat
 | _ :: .val (.int .i64 i) :: _=>n-i.toNat
 | _=>0
theorem El6 {W0:PW} {M:Nat→Prop} {s t:Sl} {x y:Nat} (h1:Aa6 141 W0 s x) (h2:Aa6 141 W0 t y) (hx:nl x≤274877906944) (hy:nl y≤274877906944):
  Aa0 Tryz.prog 123 [s.v,t.v] W0 M fun v W'=>∃(s':Sl),v=Sl.v s'∧Aa6 141 W' s' (x*y):=by
 apply Bt6
 have hs:=h1.n
 have ht:=h2.n
 have lx:(dg x).length=nl x:=rfl
 have ly:(dg y).length=nl y:=rfl
 refine⟨by unfold I64;omega,by unfold I64;omega,⟨rfl,by omega,by omega⟩,Fv0 x y W0,Fu0 (nl x),⟨Ext.refl _,0,List.replicate (nl x+nl y+1) 0,rfl,?_,by omega,by simp,fun d hd=>?_,by simp[val,Ao6],fun j h _=>by simp⟩,?_⟩
 ·rw[show Int.toNat ((s.n:Int)+(t.n:Int)+1)=nl x+nl y+1 by omega];exact Ae3 _
 ·rw[(List.mem_replicate.1 hd).2];decide
 rintro l3 i4 W5 ⟨hE5,k,zs,rfl,rfl,hk,hz,hdz,hv,h0⟩
 refine⟨fun hlt=>?_,fun hge s15 W16 hE16 hO hf=>?_⟩
 ·have hka:k<(dg x).length:=by omega
  have hdB:=(Ad8 x).at hka
  obtain⟨d,hd⟩: ∃d,(dg x)[k]=d:=⟨_,rfl⟩
  rw[hd] at hdB
  refine⟨Fv4 x y k d (val zs) W5,Fu0 (nl y),⟨Ext.refl _,0,0,zs,rfl,rfl,rfl,by omega,by decide,hz,hdz,by simp[val],h0⟩,?_⟩
  rintro l8 i9 i10 W11 ⟨hE11,c,j,ws,rfl,rfl,rfl,hj,hc,hw,hdw,hvw,h0w⟩
  have e1:(k:Int)+(j:Int)=((k+j:Nat):Int):=by omega
  refine⟨fun hlt2=>?_,fun hge2=>?_⟩
  ·have hjb:j<(dg y).length:=by omega
   have heB:=(Ad8 y).at hjb
   obtain⟨e,he⟩: ∃e,(dg y)[j]=e:=⟨_,rfl⟩
   rw[he] at heB
   have hkj:k+j<ws.length:=by omega
   have hpB:=hdw.at hkj
   obtain⟨p,hp⟩: ∃p,ws[k+j]=p:=⟨_,rfl⟩
   rw[hp] at hpB
   have m1:d*e≤4294967295*4294967295:=Nat.mul_le_mul (by unfold B at hdB;omega) (by unfold B at heB;omega)
   obtain⟨m,hm⟩: ∃m,d*e=m:=⟨_,rfl⟩
   have hcell:Ck3 (cel ws) (k+j) 0 [.int .u32 (p:Int)]:=⟨_,Au0 hkj,by rw[hp];rfl⟩
   have w1:IntKind.wrap .u64 (d:Int)=(d:Int):=Ab1 (by unfold B at hdB;omega)
   have w2:IntKind.wrap .u64 (e:Int)=(e:Int):=Ab1 (by unfold B at heB;omega)
   have w3:IntKind.wrap .u64 (p:Int)=(p:Int):=Ab1 (by unfold B at hpB;omega)
   have w4:(d:Int)*(e:Int)=(m:Int):=by rw[←hm];push_cast;rfl
   have tB:c+(m+p)<18446744073709551616:=by unfold B at hc hpB;omega
   have w5:IntKind.wrap .u64 ((c:Int)+IntKind.wrap .u64 (IntKind.wrap .u64 ((m:Nat):Int)+(p:Int)))=((c+(m+p):Nat):Int):=by
    rw[Ab1 (n:=m) (by omega),show((m:Nat):Int)+(p:Int)=((m+p:Nat):Int) by omega,Ab1 (n:=m+p) (by omega),show(c:Int)+((m+p:Nat):Int)=((c+(m+p):Nat):Int) by omega,Ab1 tB]
   rw[e1]
   refine⟨Ad4.inB (h1.ext (hE5.trans hE11)) (by omega) (by omega),(d:Int),by rw[←hd];exact Ad4.at (h1.ext (hE5.trans hE11)) hka,Ad4.inB (h2.ext (hE5.trans hE11)) (by omega) (by omega),(e:Int),by rw[←he];exact Ad4.at (h2.ext (hE5.trans hE11)) hjb,by unfold I64;omega,⟨by omega,by rw[Aa5];omega⟩,(p:Int),hcell,by unfold I64;omega,⟨by omega,by rw[Aa5];omega⟩,by rw[Aa5];exact hkj,by unfold I64;omega,?_⟩
   rw[w1,w2,w3,w4,w5,Cx7 tB,Ab9,Nat.mod_mod,Ao0,show Int.toNat ((k+j:Nat):Int)=k+j from rfl,Ae9]
   refine⟨⟨hE11,(c+(m+p))/B,j+1,_,rfl,by push_cast;rfl,rfl,by omega,?_,by simpa using hw,hdw.set (Nat.mod_lt _ Ad3),?_,fun i hi hge=>?_⟩,?_⟩
   ·rw[Nat.div_lt_iff_lt_mul Ad3]
    unfold B at *
    omega
   ·have q1:=Bh5 ws (k:=k+j) ((c+(m+p))%B) hkj
    rw[hp] at q1
    have q2:=Nat.mod_add_div (c+(m+p)) B
    rw[Aa4 hjb,he,show k+(j+1)=k+j+1 by omega,Nat.pow_succ,Nat.mul_add,Nat.mul_add,←Nat.mul_assoc,←Nat.mul_assoc,←Nat.mul_assoc]
    have q3:B^k*d*B^j*e=B^(k+j)*m:=by rw[Nat.pow_add,←hm];grind
    rw[q3]
    rw[←Nat.mul_assoc] at hvw
    have q4:B^(k+j)*((c+(m+p))%B)+B^(k+j)*B*((c+(m+p))/B)=B^(k+j)*(c+(m+p)):=by
     conv=>rhs;rw[←q2]
     rw[Nat.mul_add,Nat.mul_assoc]
    rw[Nat.mul_add,Nat.mul_add] at q4
    generalize B^(k+j)*((c+(m+p))%B)=z1 at *
    generalize B^(k+j)*B*((c+(m+p))/B)=z2 at *
    generalize B^(k+j)*c=z3 at *
    generalize B^(k+j)*m=z4 at *
    generalize B^(k+j)*p=z5 at *
    omega
   ·rw[List.getElem_set_ne (by omega)]
    exact h0w i (by simpa using hi) hge
   ·show nl y-Int.toNat ((j:Int)+1)<nl y-Int.toNat (j:Int)
    omega
  ·have hjy:j=nl y:=by omega
   subst hjy
   have hkl:k+nl y<ws.length:=by omega
   have e2:(k:Int)+(t.n:Int)=((k+nl y:Nat):Int):=by omega
   rw[e2]
   have hz0:=h0w (k+nl y) hkl (Nat.le_refl _)
   refine⟨by unfold I64;omega,⟨by omega,by rw[Aa5];omega⟩,by rw[Aa5];exact hkl,by unfold I64;omega,?_⟩
   rw[Ab9,Nat.mod_eq_of_lt hc,show Int.toNat ((k+nl y:Nat):Int)=k+nl y from rfl,Ae9]
   refine⟨⟨hE5.trans hE11,k+1,_,by push_cast;rfl,rfl,by omega,by simpa using hw,hdw.set hc,?_,fun i hi hge=>?_⟩,?_⟩
   ·have q1:=Bh5 ws (k:=k+nl y) c hkl
    rw[hz0,Nat.mul_zero,Nat.add_zero] at q1
    rw[←ly,List.take_length,Ac5,ly] at hvw
    rw[q1,hvw,Aa4 hka,hd,hv,Nat.add_mul,Nat.mul_assoc]
   ·rw[List.getElem_set_ne (by omega)]
    exact h0w i (by simpa using hi) (by omega)
   ·show nl x-Int.toNat ((k:Int)+1)<nl x-Int.toNat (k:Int)
    omega
 ·have hkx:k=nl x:=by omega
  subst hkx
  rw[←lx,List.take_length,Ac5] at hv
  refine An1 hO.row hdz (by omega) fun s' W19 hE19 h19=>⟨s',rfl,fun W21 hE21=>⟨s',rfl,?_⟩⟩
  rw[hv] at h19
  exact h19.ext hE21
theorem Bb0 {W0 W:PW} {M:Nat→Prop} {s t:Sl} {x y:Nat} {K:Value→PW→Prop} (h1:Aa6 141 W s x) (h2:Aa6 141 W t y) (hx:nl x≤274877906944) (hy:nl y≤274877906944) (kont: ∀(s':Sl) (W':PW),Ext W W'→(Aa6 141 W' s' (x*y))→K (Sl.v s') W'):
  Aa1 Tryz.prog W0 M 123 [s.v,t.v] W K:=
 Aa2 (fun W' hE=>El6 (M:=fun _=>False) (h1.ext hE) (h2.ext hE) hx hy) (fun W' v W'' hE hE' hP=>by
  obtain⟨s',rfl,h⟩:=hP
  exact kont s' W'' (hE.trans hE') h)
theorem El0 {W0:PW} {M:Nat→Prop} {s:Sl} :
  Aa0 Tryz.prog 88 [s.v] W0 M fun v W'=>v = .agg #[.bool false,s.v]∧True:=by
 apply Cz3
 exact fun W hE=>⟨rfl,trivial⟩
theorem Ak8 {W0 W:PW} {M:Nat→Prop} {s:Sl} {K:Value→PW→Prop} (kont: ∀(W':PW),Ext W W'→(True)→K (.agg #[.bool false,s.v]) W'):
  Aa1 Tryz.prog W0 M 88 [s.v] W K:=
 Aa2 (fun W' hE=>El0 (M:=fun _=>False) ) (fun W' v W'' hE hE' hP=>by
  obtain⟨rfl,h⟩:=hP
  exact kont W'' (hE.trans hE') h)
theorem Ec9 {W0:PW} {M:Nat→Prop} {b:Bool} {s:Sl} {x:Nat} (h:Aa6 141 W0 s x):
  Aa0 Tryz.prog 122 [.bool b,s.v] W0 M fun v W'=>∃(b':Bool),v = .agg #[.bool b',s.v]∧Ab5 141 W' s b' (if b=true then -(x:Int) else(x:Int)):=by
 apply Bn3
 have hn:=h.n
 refine⟨fun hb W1 hE=>⟨_,rfl,?_⟩,fun hb W2 hE=>⟨_,rfl,?_⟩⟩
 ·rw[if_pos hb]
  refine⟨by rw[Int.natAbs_neg,Int.natAbs_natCast];exact h.ext hE,decide_eq_decide.2 ⟨fun h=>?_,fun h=>?_⟩⟩
  ·have:x≠0:=fun e=>by rw[e,Ag9] at hn;omega
   omega
  ·have:nl x≠0:=fun e=>by rw[Ad0] at e;omega
   omega
 ·rw[if_neg (by simp[hb])]
  exact Am1 (h.ext hE)
theorem Aj7 {W0 W:PW} {M:Nat→Prop} {b:Bool} {s:Sl} {x:Nat} {K:Value→PW→Prop} (h:Aa6 141 W s x) (kont: ∀(b':Bool) (W':PW),Ext W W'→(Ab5 141 W' s b' (if b=true then -(x:Int) else(x:Int)))→K (.agg #[.bool b',s.v]) W'):
  Aa1 Tryz.prog W0 M 122 [.bool b,s.v] W K:=
 Aa2 (fun W' hE=>Ec9 (M:=fun _=>False) (h.ext hE)) (fun W' v W'' hE hE' hP=>by
  obtain⟨b',rfl,h⟩:=hP
  exact kont b' W'' (hE.trans hE') h)
theorem Di6 {W0:PW} {M:Nat→Prop} {z:Int} (hz:I64 z):
  Aa0 Tryz.prog 69 [.int .i64 z] W0 M fun v W'=>∃(b':Bool),∃(s':Sl),v = .agg #[.bool b',Sl.v s']∧Ab5 141 W' s' b' z:=by
 apply Ca7
 unfold I64 at hz
 refine⟨fun h=>⟨by unfold I64;omega,by unfold I64;omega,?_⟩,fun h=>?_⟩
 ·obtain⟨n,hn⟩: ∃n:Nat,z = -(n:Int):=⟨z.natAbs,by omega⟩
  subst hn
  rw[wrap64 (z:=0-(-(n:Int)+1)) (by omega) (by omega),show(0-(-(n:Int)+1)+1)=(n:Int) by omega,Ab1 (by omega)]
  refine Ae0 (by unfold B;omega) fun s3 W2 hE2 h3=>⟨s3,rfl,fun W4 hE4=>⟨true,s3,rfl,by rw[Int.natAbs_neg,Int.natAbs_natCast];exact h3.ext hE4,by symm;exact decide_eq_true h⟩⟩
 ·obtain⟨n,rfl⟩:=Int.eq_ofNat_of_zero_le (by omega:0≤z)
  rw[Ab1 (by omega)]
  exact Ae0 (by unfold B;omega) fun s3 W2 hE2 h3=>⟨s3,rfl,fun W4 hE4=>⟨false,s3,rfl,Am1 (h3.ext hE4)⟩⟩
theorem Cj2 {W0 W:PW} {M:Nat→Prop} {z:Int} {K:Value→PW→Prop} (hz:I64 z) (kont: ∀(b':Bool) (s':Sl) (W':PW),Ext W W'→(Ab5 141 W' s' b' z)→K (.agg #[.bool b',Sl.v s']) W'):
  Aa1 Tryz.prog W0 M 69 [.int .i64 z] W K:=
 Aa2 (fun W' hE=>Di6 (M:=fun _=>False) hz) (fun W' v W'' hE hE' hP=>by
  obtain⟨b',s',rfl,h⟩:=hP
  exact kont b' s' W'' (hE.trans hE') h)
theorem Dt9 {W0:PW} {M:Nat→Prop} {s:Sl} {b:Bool} {z:Int} (h:Ab5 141 W0 s b z):
  Aa0 Tryz.prog 109 [.agg #[.bool b,s.v]] W0 M fun v W'=>v = .int .i64 (By8 z)∧True:=by
 apply Cn4
 have hn:=h.1.n
 have hb:=h.2
 refine⟨fun h0 W hE=>⟨?_,trivial⟩,fun h0=>⟨fun hb1 W hE=>⟨?_,trivial⟩,fun hb1 W hE=>⟨?_,trivial⟩⟩⟩
 ·have:z.natAbs=0:=Ad0.1 (by omega)
  have:z=0:=by omega
  subst this
  rfl
 ·have:z<0:=of_decide_eq_true (hb ▸ hb1)
  rw[By8,if_pos this]
 ·have h1:¬z<0:=of_decide_eq_false (hb ▸ hb1)
  have h2:z≠0:=fun e=>by subst e;rw[Int.natAbs_zero,Ag9] at hn;omega
  rw[By8,if_neg h1,if_neg h2]
theorem Aq7 {W0 W:PW} {M:Nat→Prop} {s:Sl} {b:Bool} {z:Int} {K:Value→PW→Prop} (h:Ab5 141 W s b z) (kont: ∀(W':PW),Ext W W'→(True)→K (.int .i64 (By8 z)) W'):
  Aa1 Tryz.prog W0 M 109 [.agg #[.bool b,s.v]] W K:=
 Aa2 (fun W' hE=>Dt9 (M:=fun _=>False) (h.ext hE)) (fun W' v W'' hE hE' hP=>by
  obtain⟨rfl,h⟩:=hP
  exact kont W'' (hE.trans hE') h)
theorem Ed6 {W0:PW} {M:Nat→Prop} {s:Sl} {b:Bool} {z:Int} (h:Ab5 141 W0 s b z):
  Aa0 Tryz.prog 151 [.agg #[.bool b,s.v]] W0 M fun v W'=>∃(b':Bool),v = .agg #[.bool b',Sl.v s]∧Ab5 141 W' s b' (-z):=by
 apply Bw5
 have hb:=h.2
 refine Aj7 h.1 fun b3 W2 hE2 h3=>⟨b3,s,rfl,fun W5 hE5=>⟨b3,rfl,?_⟩⟩
 have e:(if(!b)=true then -(z.natAbs:Int) else(z.natAbs:Int)) = -z:=by
  cases b
  ·rw[if_pos (by rfl)]
   have:=of_decide_eq_false hb.symm
   omega
  ·rw[if_neg (by decide)]
   have:=of_decide_eq_true hb.symm
   omega
 rw[e] at h3
 exact h3.ext hE5
theorem Bb6 {W0 W:PW} {M:Nat→Prop} {s:Sl} {b:Bool} {z:Int} {K:Value→PW→Prop} (h:Ab5 141 W s b z) (kont: ∀(b':Bool) (W':PW),Ext W W'→(Ab5 141 W' s b' (-z))→K (.agg #[.bool b',Sl.v s]) W'):
  Aa1 Tryz.prog W0 M 151 [.agg #[.bool b,s.v]] W K:=
 Aa2 (fun W' hE=>Ed6 (M:=fun _=>False) (h.ext hE)) (fun W' v W'' hE hE' hP=>by
  obtain⟨b',rfl,h⟩:=hP
  exact kont b' W'' (hE.trans hE') h)
theorem Dx6 {W0:PW} {M:Nat→Prop} {s t:Sl} {b c:Bool} {z w:Int} (h1:Ab5 141 W0 s b z) (h2:Ab5 141 W0 t c w) (hz:nl z.natAbs≤274877906944) (hw:nl w.natAbs≤274877906944):
  Aa0 Tryz.prog 144 [.agg #[.bool b,s.v],.agg #[.bool c,t.v]] W0 M fun v W'=>∃(b':Bool),∃(s':Sl),v = .agg #[.bool b',Sl.v s']∧Ab5 141 W' s' b' (z+w):=by
 apply Bv0
 have hb:=Ce6 h1.2
 have hc:=Ce6 h2.2
 refine⟨fun hbc=>?_,fun hbc=>?_⟩
 ·refine Bz0 h1.1 h2.1 (by omega) (by omega) fun s3 W2 hE2 h3=>⟨s3,rfl,Aj7 h3 fun b6 W5 hE5 h6=>⟨b6,s3,rfl,fun W8 hE8=>⟨b6,s3,rfl,?_⟩⟩⟩
  have e:(if b=true then -((z.natAbs+w.natAbs:Nat):Int) else((z.natAbs+w.natAbs:Nat):Int))=z+w:=by
   rw[←hbc] at hc
   cases b<;>simp at hb hc⊢<;>omega
  rw[e] at h6
  exact h6.ext hE8
 ·refine Aj3 h1.1 h2.1 (by omega) fun W10 hE10 _=>⟨_,rfl,fun hle=>?_,fun hle=>?_⟩
  ·have hle':w.natAbs≤z.natAbs:=Nat.le_of_not_lt fun h=>by rw[Al0 h] at hle;omega
   refine Bc2 (h1.1.ext hE10) (h2.1.ext hE10) (by omega) hle' fun s11 W13 hE13 h11=>⟨s11,rfl,Aj7 h11 fun b17 W16 hE16 h17=>⟨b17,s11,rfl,fun W19 hE19=>⟨b17,s11,rfl,?_⟩⟩⟩
   have e:(if b=true then -((z.natAbs-w.natAbs:Nat):Int) else((z.natAbs-w.natAbs:Nat):Int))=z+w:=by
    cases b<;>cases c<;>simp at hbc hb hc⊢<;>omega
   rw[e] at h17
   exact h17.ext hE19
  ·have hle':z.natAbs≤w.natAbs:=Nat.le_of_not_lt fun h=>by rw[Aj4 h] at hle;omega
   refine Bc2 (h2.1.ext hE10) (h1.1.ext hE10) (by omega) hle' fun s11 W13 hE13 h11=>⟨s11,rfl,Aj7 h11 fun b17 W16 hE16 h17=>⟨b17,s11,rfl,fun W19 hE19=>⟨b17,s11,rfl,?_⟩⟩⟩
   have hlt:z.natAbs<w.natAbs:=Nat.lt_of_not_le fun h=>hle (by
    rcases Nat.lt_or_eq_of_le h with h | h
    ·rw[Aj4 h];omega
    ·rw[h,Ap9];omega)
   have e:(if c=true then -((w.natAbs-z.natAbs:Nat):Int) else((w.natAbs-z.natAbs:Nat):Int))=z+w:=by
    cases b<;>cases c<;>simp at hbc hb hc⊢<;>omega
   rw[e] at h17
   exact h17.ext hE19
theorem Bl7 {W0 W:PW} {M:Nat→Prop} {s t:Sl} {b c:Bool} {z w:Int} {K:Value→PW→Prop} (h1:Ab5 141 W s b z) (h2:Ab5 141 W t c w) (hz:nl z.natAbs≤274877906944) (hw:nl w.natAbs≤274877906944) (kont: ∀(b':Bool) (s':Sl) (W':PW),Ext W W'→(Ab5 141 W' s' b' (z+w))→K (.agg #[.bool b',Sl.v s']) W'):
  Aa1 Tryz.prog W0 M 144 [.agg #[.bool b,s.v],.agg #[.bool c,t.v]] W K:=
 Aa2 (fun W' hE=>Dx6 (M:=fun _=>False) (h1.ext hE) (h2.ext hE) hz hw) (fun W' v W'' hE hE' hP=>by
  obtain⟨b',s',rfl,h⟩:=hP
  exact kont b' s' W'' (hE.trans hE') h)
theorem Dw8 {W0:PW} {M:Nat→Prop} {s t:Sl} {b c:Bool} {z w:Int} (h1:Ab5 141 W0 s b z) (h2:Ab5 141 W0 t c w) (hz:nl z.natAbs≤274877906944) (hw:nl w.natAbs≤274877906944):
  Aa0 Tryz.prog 121 [.agg #[.bool b,s.v],.agg #[.bool c,t.v]] W0 M fun v W'=>∃(b':Bool),∃(s':Sl),v = .agg #[.bool b',Sl.v s']∧Ab5 141 W' s' b' (z-w):=by
 apply Bs2
 exact Bb6 h2 fun b3 W2 hE2 h3=>⟨b3,t,rfl,Bl7 (h1.ext hE2) h3 hz (by rw[Int.natAbs_neg];exact hw) fun b7 s8 W6 hE6 h7=>⟨b7,s8,rfl,fun W9 hE9=>⟨b7,s8,rfl,by rw[Int.sub_eq_add_neg];exact h7.ext hE9⟩⟩⟩
theorem Cz4 {W0 W:PW} {M:Nat→Prop} {s t:Sl} {b c:Bool} {z w:Int} {K:Value→PW→Prop} (h1:Ab5 141 W s b z) (h2:Ab5 141 W t c w) (hz:nl z.natAbs≤274877906944) (hw:nl w.natAbs≤274877906944) (kont: ∀(b':Bool) (s':Sl) (W':PW),Ext W W'→(Ab5 141 W' s' b' (z-w))→K (.agg #[.bool b',Sl.v s']) W'):
  Aa1 Tryz.prog W0 M 121 [.agg #[.bool b,s.v],.agg #[.bool c,t.v]] W K:=
 Aa2 (fun W' hE=>Dw8 (M:=fun _=>False) (h1.ext hE) (h2.ext hE) hz hw) (fun W' v W'' hE hE' hP=>by
  obtain⟨b',s',rfl,h⟩:=hP
  exact kont b' s' W'' (hE.trans hE') h)
theorem Ec2 {W0:PW} {M:Nat→Prop} {s t:Sl} {b c:Bool} {z w:Int} (h1:Ab5 141 W0 s b z) (h2:Ab5 141 W0 t c w) (hz:nl z.natAbs≤274877906944) (hw:nl w.natAbs≤274877906944):
  Aa0 Tryz.prog 87 [.agg #[.bool b,s.v],.agg #[.bool c,t.v]] W0 M fun v W'=>∃(b':Bool),∃(s':Sl),v = .agg #[.bool b',Sl.v s']∧Ab5 141 W' s' b' (z*w):=by
 apply Bq1
 have hb:=h1.2
 have hc:=h2.2
 refine Bb0 h1.1 h2.1 hz hw fun s3 W2 hE2 h3=>⟨s3,rfl,Aj7 h3 fun b6 W5 hE5 h6=>⟨b6,s3,rfl,fun W8 hE8=>⟨b6,s3,rfl,?_⟩⟩⟩
 have e:(if(decide (b≠c))=true then -((z.natAbs*w.natAbs:Nat):Int) else((z.natAbs*w.natAbs:Nat):Int))=z*w:=by
  rw[←Int.natAbs_mul]
  rcases Int.lt_or_le z 0 with h | h<;>rcases Int.lt_or_le w 0 with h' | h'
  ·rw[decide_eq_true h] at hb
   rw[decide_eq_true h'] at hc
   subst hb hc
   have:=Int.mul_pos_of_neg_of_neg h h'
   simp
   omega
  ·rw[decide_eq_true h] at hb
   rw[decide_eq_false (by omega)] at hc
   subst hb hc
   have:=Int.mul_nonneg (show 0≤-z by omega) h'
   rw[Int.neg_mul] at this
   simp
   omega
  ·rw[decide_eq_false (by omega)] at hb
   rw[decide_eq_true h'] at hc
   subst hb hc
   have:=Int.mul_nonneg h (show 0≤-w by omega)
   rw[Int.mul_neg] at this
   simp
   omega
  ·rw[decide_eq_false (by omega)] at hb
   rw[decide_eq_false (by omega)] at hc
   subst hb hc
   have:=Int.mul_nonneg h h'
   simp
   omega
 rw[e] at h6
 exact h6.ext hE8
theorem Am2 {W0 W:PW} {M:Nat→Prop} {s t:Sl} {b c:Bool} {z w:Int} {K:Value→PW→Prop} (h1:Ab5 141 W s b z) (h2:Ab5 141 W t c w) (hz:nl z.natAbs≤274877906944) (hw:nl w.natAbs≤274877906944) (kont: ∀(b':Bool) (s':Sl) (W':PW),Ext W W'→(Ab5 141 W' s' b' (z*w))→K (.agg #[.bool b',Sl.v s']) W'):
  Aa1 Tryz.prog W0 M 87 [.agg #[.bool b,s.v],.agg #[.bool c,t.v]] W K:=
 Aa2 (fun W' hE=>Ec2 (M:=fun _=>False) (h1.ext hE) (h2.ext hE) hz hw) (fun W' v W'' hE hE' hP=>by
  obtain⟨b',s',rfl,h⟩:=hP
  exact kont b' s' W'' (hE.trans hE') h)
theorem Dx8 {W0:PW} {M:Nat→Prop} {s t:Sl} {b c:Bool} {z w:Int} (h1:Ab5 141 W0 s b z) (h2:Ab5 141 W0 t c w) (hz:nl z.natAbs≤274877906944) (hw:nl w.natAbs≤274877906944):
  Aa0 Tryz.prog 86 [.agg #[.bool b,s.v],.agg #[.bool c,t.v]] W0 M fun v W'=>v = .int .i64 (As4 z w)∧True:=by
 apply By7
 refine Cz4 h1 h2 hz hw fun b3 s4 W2 hE2 h3=>⟨b3,s4,rfl,Aq7 h3 fun W6 hE6 _=>⟨_,rfl,fun W8 hE8=>⟨?_,trivial⟩⟩⟩
 have:As4 z w=By8 (z-w):=by
  unfold As4 By8
  split<;>split<;>(try split)<;>(try split)<;>first | rfl | omega
 rw[this]
theorem Cv9 {W0 W:PW} {M:Nat→Prop} {s t:Sl} {b c:Bool} {z w:Int} {K:Value→PW→Prop} (h1:Ab5 141 W s b z) (h2:Ab5 141 W t c w) (hz:nl z.natAbs≤274877906944) (hw:nl w.natAbs≤274877906944) (kont: ∀(W':PW),Ext W W'→(True)→K (.int .i64 (As4 z w)) W'):
  Aa1 Tryz.prog W0 M 86 [.agg #[.bool b,s.v],.agg #[.bool c,t.v]] W K:=
 Aa2 (fun W' hE=>Dx8 (M:=fun _=>False) (h1.ext hE) (h2.ext hE) hz hw) (fun W' v W'' hE hE' hP=>by
  obtain⟨rfl,h⟩:=hP
  exact kont W'' (hE.trans hE') h)
end Go.Proofs.YtahohahjnhfedaaGreatDoor
/- cinctureref1: quotients. -/
namespace Go.Proofs.YtahohahjnhfedaaGreatDoor
open Go Go.SX
theorem El5 {W0:PW} {M:Nat→Prop} {b:Bool} {s t:Sl} {q:Rat} (h:Ab6 141 W0 b s t q):
  Aa0 Tryz.prog 89 [.agg #[.bool b,s.v,t.v]] W0 M fun v W'=>∃(s':Sl),v=Sl.v s'∧Aa6 141 W' s' q.den:=by
 apply Cq5
 refine⟨fun h0=>?_,fun h0 W5 hE5=>⟨t,rfl,?_⟩⟩
 ·refine Ae0 (x:=1) (by decide) fun s3 W2 hE2 h3=>⟨s3,rfl,fun W4 hE4=>⟨s3,rfl,?_⟩⟩
  have:q.den=1:=by
   rcases h.2 with h | h
   ·have:=h.n
    have:=Ad0.1 (show nl q.den=0 by omega)
    exact absurd this q.den_nz
   ·exact h.1
  rw[this]
  exact h3.ext hE4
 ·rcases h.2 with h | h
  ·exact h.ext hE5
  ·have:=h.2.n
   rw[Ag9] at this
   omega
theorem Ag4 {W0 W:PW} {M:Nat→Prop} {b:Bool} {s t:Sl} {q:Rat} {K:Value→PW→Prop} (h:Ab6 141 W b s t q) (kont: ∀(s':Sl) (W':PW),Ext W W'→(Aa6 141 W' s' q.den)→K (Sl.v s') W'):
  Aa1 Tryz.prog W0 M 89 [.agg #[.bool b,s.v,t.v]] W K:=
 Aa2 (fun W' hE=>El5 (M:=fun _=>False) (h.ext hE)) (fun W' v W'' hE hE' hP=>by
  obtain⟨s',rfl,h⟩:=hP
  exact kont s' W'' (hE.trans hE') h)
theorem Dn9 {W0:PW} {M:Nat→Prop} {z:Int} (hz:I64 z):
  Aa0 Tryz.prog 26 [.int .i64 z] W0 M fun v W'=>∃(b':Bool),∃(s':Sl),∃(t':Sl),v = .agg #[.bool b',Sl.v s',Sl.v t']∧Ab6 141 W' b' s' t' (z:Rat):=by
 apply Ca8
 exact Cj2 hz fun b3 s4 W2 hE2 h3=>⟨b3,s4,rfl,Ae0 (x:=1) (by decide) fun s7 W6 hE6 h7=>⟨s7,rfl,fun W8 hE8=>⟨b3,s4,s7,rfl,(h3.ext hE6).ext hE8,.inl (h7.ext hE8)⟩⟩⟩
theorem Ak1 {W0 W:PW} {M:Nat→Prop} {z:Int} {K:Value→PW→Prop} (hz:I64 z) (kont: ∀(b':Bool) (s':Sl) (t':Sl) (W':PW),Ext W W'→(Ab6 141 W' b' s' t' (z:Rat))→K (.agg #[.bool b',Sl.v s',Sl.v t']) W'):
  Aa1 Tryz.prog W0 M 26 [.int .i64 z] W K:=
 Aa2 (fun W' hE=>Dn9 (M:=fun _=>False) hz) (fun W' v W'' hE hE' hP=>by
  obtain⟨b',s',t',rfl,h⟩:=hP
  exact kont b' s' t' W'' (hE.trans hE') h)
theorem Av7 (x y:Nat):Dt2 x y=0↔x=y:=by
 rcases Nat.lt_trichotomy x y with h | h | h
 ·rw[Al0 h];omega
 ·rw[h,Ap9];simp
 ·rw[Aj4 h];omega
theorem Ew5 {z:Int} {g:Nat} {b:Bool} (hb:b=decide (z<0)) (hg:g∣z.natAbs):(if b=true then -((z.natAbs/g:Nat):Int) else((z.natAbs/g:Nat):Int))=z/(g:Int):=by
 rcases Int.lt_trichotomy z 0 with h | h | h
 ·have:=Dn4 (z:=z) (by omega) hg
  rw[By8,if_pos h] at this
  rw[hb,decide_eq_true h]
  exact this
 ·subst h
  rw[hb]
  simp
 ·have:=Dn4 (z:=z) (by omega) hg
  have e:By8 z=1:=by unfold By8;rw[if_neg (show ¬z<0 by omega),if_neg (show ¬z=0 by omega)]
  rw[e] at this
  rw[hb,decide_eq_false (by omega)]
  exact this
theorem Es5 {W0:PW} {M:Nat→Prop} {s t:Sl} {b c:Bool} {z w:Int} (h1:Ab5 141 W0 s b z) (h2:Ab5 141 W0 t c w) (hz:nl z.natAbs≤1073741824) (hw:nl w.natAbs≤1073741824) (hw0:w≠0):
  Aa0 Tryz.prog 143 [.agg #[.bool b,s.v],.agg #[.bool c,t.v]] W0 M fun v W'=>∃(b':Bool),∃(s':Sl),∃(t':Sl),v = .agg #[.bool b',Sl.v s',Sl.v t']∧Ab6 141 W' b' s' t' (Rat.divInt z w):=by
 apply Bz2
 refine⟨fun l W=>match l with
  | [.cells [.bool b,.slice A n k],.cells [.bool c,.slice A' n' k']]=>∃(x:Int) (y:Nat),Ab5 141 W ⟨A,n,k⟩ b x∧Aa6 141 W ⟨A',n',k'⟩ y∧x.natAbs=z.natAbs∧y=w.natAbs∧mkRat x y=Rat.divInt z w
  | _=>False,⟨fun hc=>?_,fun hc=>⟨z,w.natAbs,h1,h2.1,rfl,rfl,?_⟩⟩,?_⟩
 ·refine Bb6 h1 fun b4 W3 hE3 h4=>⟨b4,s,rfl,Bb6 (h2.ext hE3) fun b8 W7 hE7 h8=>⟨b8,t,rfl,-z,w.natAbs,h4.ext hE7,(h2.1.ext hE3).ext hE7,by simp,rfl,?_⟩⟩
  have:w<0:=of_decide_eq_true (h2.2 ▸ hc)
  obtain⟨n,hn⟩: ∃n:Nat,w = -(n:Int):=⟨w.natAbs,by omega⟩
  subst hn
  rw[Int.natAbs_neg,Int.natAbs_natCast,Rat.divInt_neg',Rat.divInt_ofNat]
 ·have:¬w<0:=of_decide_eq_false (h2.2 ▸ hc)
  obtain⟨n,rfl⟩:=Int.eq_ofNat_of_zero_le (by omega:0≤w)
  rw[Int.natAbs_natCast,Rat.divInt_ofNat]
 rintro b10 s11 b12 s13 W14 ⟨x,y,hx,hy,hxz,hyw,hq⟩
 have hx:Ab5 141 W14 s11 b10 x:=hx
 have hy:Aa6 141 W14 s13 y:=hy
 have hy0:y≠0:=by omega
 have hnx:nl x.natAbs≤1073741824:=by rw[hxz];exact hz
 have hny:nl y≤1073741824:=by rw[hyw];exact hw
 rw[←hq]
 have hnum:(mkRat x y).num=x/((Nat.gcd y x.natAbs:Nat):Int):=by rw[Rat.num_mkRat,if_neg hy0]
 have hden:(mkRat x y).den=y/Nat.gcd y x.natAbs:=by rw[Rat.den_mkRat,if_neg hy0]
 refine Ae0 (x:=1) (by decide) fun s17 W16 hE16 h17=>⟨s17,rfl,Aj3 (hy.ext hE16) h17 (by omega) fun W19 hE19 _=>⟨_,rfl,fun h0 W21 hE21=>⟨b10,s11,s13,rfl,?_,?_⟩,fun h0=>?_⟩⟩
 ·have hE:=(hE16.trans hE19).trans hE21
  have:y=1:=(Av7 y 1).1 h0
  subst this
  rw[hnum,Nat.gcd_one_left]
  simpa using hx.ext hE
 ·have hE:=(hE16.trans hE19).trans hE21
  have:y=1:=(Av7 y 1).1 h0
  subst this
  rw[hden,Nat.gcd_one_left]
  exact .inl (hy.ext hE)
 have hEa:=hE16.trans hE19
 have hgy:Nat.gcd y x.natAbs≤y:=Nat.gcd_le_left _ (by omega)
 have hg0:Nat.gcd y x.natAbs≠0:=by
  have:=Nat.gcd_pos_of_pos_left x.natAbs (show 0<y by omega)
  omega
 have hgn:nl (Nat.gcd y x.natAbs)≤1073741824:=Nat.le_trans (Ad1 hgy) hny
 refine Bv8 (hy.ext hEa) (hx.1.ext hEa) (by omega) (by omega) fun s24 W23 hE23 h24=>⟨s24,rfl,Ae0 (x:=1) (by decide) fun s27 W26 hE26 h27=>⟨s27,rfl,Aj3 (h24.ext hE26) h27 (by omega) fun W29 hE29 _=>⟨_,rfl,fun hne=>?_,fun heq W44 hE44=>⟨b10,s11,s13,rfl,?_⟩⟩⟩⟩
 ·have hEb:=(hEa.trans hE23).trans (hE26.trans hE29)
  have h24':=h24.ext (hE26.trans hE29)
  refine Ba8 (hx.1.ext hEb) h24' (by omega) hgn hg0 fun s33 s34 W32 hE32 ⟨h33,_⟩=>⟨s33,s34,rfl,Ba8 (hy.ext (hEb.trans hE32)) (h24'.ext hE32) hny hgn hg0 fun s37 s38 W36 hE36 ⟨h37,_⟩=>⟨s37,s38,rfl,Aj7 (h33.ext hE36) fun b41 W40 hE40 h41=>⟨b41,s33,rfl,fun W43 hE43=>⟨b41,s33,s37,rfl,?_,.inl ?_⟩⟩⟩⟩
  ·rw[Ew5 hx.2 (Nat.gcd_dvd_right y x.natAbs),←hnum] at h41
   exact h41.ext hE43
  ·rw[hden]
   exact(h37.ext hE40).ext hE43
 ·have hE:=(hEa.trans hE23).trans ((hE26.trans hE29).trans hE44)
  have hg1:Nat.gcd y x.natAbs=1:=(Av7 _ 1).1 (Classical.not_not.1 heq)
  refine⟨?_,.inl ?_⟩
  ·rw[hnum,hg1]
   simpa using hx.ext hE
  ·rw[hden,hg1,Nat.div_one]
   exact hy.ext hE
theorem Bp8 {W0 W:PW} {M:Nat→Prop} {s t:Sl} {b c:Bool} {z w:Int} {K:Value→PW→Prop} (h1:Ab5 141 W s b z) (h2:Ab5 141 W t c w) (hz:nl z.natAbs≤1073741824) (hw:nl w.natAbs≤1073741824) (hw0:w≠0) (kont: ∀(b':Bool) (s':Sl) (t':Sl) (W':PW),Ext W W'→(Ab6 141 W' b' s' t' (Rat.divInt z w))→K (.agg #[.bool b',Sl.v s',Sl.v t']) W'):
  Aa1 Tryz.prog W0 M 143 [.agg #[.bool b,s.v],.agg #[.bool c,t.v]] W K:=
 Aa2 (fun W' hE=>Es5 (M:=fun _=>False) (h1.ext hE) (h2.ext hE) hz hw hw0) (fun W' v W'' hE hE' hP=>by
  obtain⟨b',s',t',rfl,h⟩:=hP
  exact kont b' s' t' W'' (hE.trans hE') h)
theorem Ck5 {n k:Nat} (h:nl n≤k):nl (n:Int).natAbs≤k:=by rw[Int.natAbs_natCast];exact h
theorem Bw8 {z w:Int} {k l:Nat} (h:nl z.natAbs≤k) (h':nl w.natAbs≤l):nl (z*w).natAbs≤k+l:=by
 rw[Int.natAbs_mul]
 exact Nat.le_trans (Ae5 _ _) (Nat.add_le_add h h')
theorem Ek4 {p q:Rat} :((p.den*q.den:Nat):Int)≠0:=by
 have:=Nat.mul_pos p.den_pos q.den_pos
 omega
theorem Ec1 {W0:PW} {M:Nat→Prop} {s t s' t':Sl} {b b':Bool} {p q:Rat} {k l:Nat} (h1:Ab6 141 W0 b s t p) (h2:Ab6 141 W0 b' s' t' q) (hp:Sz k p) (hq:Sz l q) (hk:k≤500000000) (hl:l≤500000000):
  Aa0 Tryz.prog 108 [.agg #[.bool b,s.v,t.v],.agg #[.bool b',s'.v,t'.v]] W0 M fun v W'=>∃(c:Bool),∃(r:Sl),∃(u:Sl),v = .agg #[.bool c,Sl.v r,Sl.v u]∧Ab6 141 W' c r u (p+q):=by
 apply Bq8
 have a1:=hp.1
 have a2:=hp.2
 have b1:=hq.1
 have b2:=hq.2
 have m1:=Bw8 a1 (Ck5 b2)
 have m2:=Bw8 b1 (Ck5 a2)
 refine Ag4 h2 fun s3 W2 hE2 h3=>⟨s3,rfl,Ak8 fun W5 hE5 _=>⟨_,_,rfl,Am2 ((h1.1.ext hE2).ext hE5) (Am1 (h3.ext hE5)) (by omega) (by rw[Int.natAbs_natCast];omega) fun b10 s11 W9 hE9 h11=>⟨b10,s11,rfl,?_⟩⟩⟩
 have hEa:=(hE2.trans hE5).trans hE9
 refine Ag4 (h1.ext hEa) fun s14 W13 hE13 h14=>⟨s14,rfl,Ak8 fun W16 hE16 _=>⟨_,_,rfl,Am2 (((h2.1.ext hEa).ext hE13).ext hE16) (Am1 (h14.ext hE16)) (by omega) (by rw[Int.natAbs_natCast];omega) fun b21 s22 W20 hE20 h22=>⟨b21,s22,rfl,?_⟩⟩⟩
 have hEb:=(hE13.trans hE16).trans hE20
 refine Bl7 (h11.ext hEb) h22 (by omega) (by omega) fun b25 s26 W24 hE24 h25=>⟨b25,s26,rfl,?_⟩
 have hEc:=(hEa.trans hEb).trans hE24
 refine Ag4 (h1.ext hEc) fun s29 W28 hE28 h29=>⟨s29,rfl,Ag4 (h2.ext (hEc.trans hE28)) fun s32 W31 hE31 h32=>⟨s32,rfl,Bb0 (h29.ext hE31) h32 (by omega) (by omega) fun s35 W34 hE34 h35=>⟨s35,rfl,Ak8 fun W37 hE37 _=>⟨_,_,rfl,?_⟩⟩⟩⟩
 have hEd:=(hE28.trans hE31).trans (hE34.trans hE37)
 have n1:=Ae5 p.den q.den
 have n2:nl (p.num*↑q.den+q.num*↑p.den).natAbs≤k+l+1:=Nat.le_trans (Ad1 (Int.natAbs_add_le _ _)) (Cw6 m1 (by omega))
 refine Bp8 (h25.ext hEd) (Am1 (h35.ext hE37)) (by omega) (by rw[Int.natAbs_natCast];omega) Ek4 fun b42 s43 s44 W41 hE41 h42=>⟨b42,s43,s44,rfl,fun W45 hE45=>⟨b42,s43,s44,rfl,?_⟩⟩
 rw[Rat.add_def',←Rat.divInt_ofNat]
 exact h42.ext hE45
theorem Bj7 {W0 W:PW} {M:Nat→Prop} {s t s' t':Sl} {b b':Bool} {p q:Rat} {k l:Nat} {K:Value→PW→Prop} (h1:Ab6 141 W b s t p) (h2:Ab6 141 W b' s' t' q) (hp:Sz k p) (hq:Sz l q) (hk:k≤500000000) (hl:l≤500000000) (kont: ∀(c:Bool) (r:Sl) (u:Sl) (W':PW),Ext W W'→(Ab6 141 W' c r u (p+q))→K (.agg #[.bool c,Sl.v r,Sl.v u]) W'):
  Aa1 Tryz.prog W0 M 108 [.agg #[.bool b,s.v,t.v],.agg #[.bool b',s'.v,t'.v]] W K:=
 Aa2 (fun W' hE=>Ec1 (M:=fun _=>False) (h1.ext hE) (h2.ext hE) hp hq hk hl) (fun W' v W'' hE hE' hP=>by
  obtain⟨c,r,u,rfl,h⟩:=hP
  exact kont c r u W'' (hE.trans hE') h)
theorem Dz8 {W0:PW} {M:Nat→Prop} {s t s' t':Sl} {b b':Bool} {p q:Rat} {k l:Nat} (h1:Ab6 141 W0 b s t p) (h2:Ab6 141 W0 b' s' t' q) (hp:Sz k p) (hq:Sz l q) (hk:k≤500000000) (hl:l≤500000000):
  Aa0 Tryz.prog 48 [.agg #[.bool b,s.v,t.v],.agg #[.bool b',s'.v,t'.v]] W0 M fun v W'=>v = .int .i64 (Co4 p q)∧True:=by
 apply Bs0
 have a1:=hp.1
 have a2:=hp.2
 have b1:=hq.1
 have b2:=hq.2
 have m1:=Bw8 a1 (Ck5 b2)
 have m2:=Bw8 b1 (Ck5 a2)
 refine Ag4 h2 fun s3 W2 hE2 h3=>⟨s3,rfl,Ak8 fun W5 hE5 _=>⟨_,_,rfl,Am2 ((h1.1.ext hE2).ext hE5) (Am1 (h3.ext hE5)) (by omega) (by rw[Int.natAbs_natCast];omega) fun b10 s11 W9 hE9 h11=>⟨b10,s11,rfl,?_⟩⟩⟩
 have hEa:=(hE2.trans hE5).trans hE9
 refine Ag4 (h1.ext hEa) fun s14 W13 hE13 h14=>⟨s14,rfl,Ak8 fun W16 hE16 _=>⟨_,_,rfl,Am2 (((h2.1.ext hEa).ext hE13).ext hE16) (Am1 (h14.ext hE16)) (by omega) (by rw[Int.natAbs_natCast];omega) fun b21 s22 W20 hE20 h22=>⟨b21,s22,rfl,?_⟩⟩⟩
 refine Cv9 (((h11.ext hE13).ext hE16).ext hE20) h22 (by omega) (by omega) fun W24 hE24 _=>⟨_,rfl,fun W26 hE26=>⟨?_,trivial⟩⟩
 rw[Dn0]
theorem Ar1 {W0 W:PW} {M:Nat→Prop} {s t s' t':Sl} {b b':Bool} {p q:Rat} {k l:Nat} {K:Value→PW→Prop} (h1:Ab6 141 W b s t p) (h2:Ab6 141 W b' s' t' q) (hp:Sz k p) (hq:Sz l q) (hk:k≤500000000) (hl:l≤500000000) (kont: ∀(W':PW),Ext W W'→(True)→K (.int .i64 (Co4 p q)) W'):
  Aa1 Tryz.prog W0 M 48 [.agg #[.bool b,s.v,t.v],.agg #[.bool b',s'.v,t'.v]] W K:=
 Aa2 (fun W' hE=>Dz8 (M:=fun _=>False) (h1.ext hE) (h2.ext hE) hp hq hk hl) (fun W' v W'' hE hE' hP=>by
  obtain⟨rfl,h⟩:=hP
  exact kont W'' (hE.trans hE') h)
end Go.Proofs.YtahohahjnhfedaaGreatDoor
/- Texts of numbers: slices.Reverse, nat.Text, whole.Text, rat.Text. -/
namespace Go.Proofs.YtahohahjnhfedaaGreatDoor
open Go Go.SX
theorem Own.Fi5 {W:PW} {t:TypeId} {sz:Nat} {s:Sl} {xs:List (List Value)} (h:Go.SX.Own W t sz s xs) {i:Int} (h0:0≤i) (h1:i<(xs.length:Int)):inB s i:=
 ⟨h0,by have:=h.n;omega,Row.some h.row fun e=>by subst e;simp at h1;omega⟩
theorem Own.at1 {W:PW} {t:TypeId} {s:Sl} {xs:List (List Value)} {v:Value} (h:Go.SX.Own W t 1 s xs) {i:Nat} (hi:xs[i]?=some [v]):Aa7 W s 1 i 0 [v]:=Row.elem h.row hi fun j u hj=>by simpa using hj
theorem Ea5 {W0:PW} {s:Sl} {us:List Nat} (h:Go.SX.Own W0 5 1 s (An4 us)) (hl:us.length≤1099511627776):
  Aa0 Tryz.prog 164 [s.v] W0 (fun g=>s.v.ownBlock=some g) fun v W'=>v = .tuple #[]∧Go.SX.Own W' 5 1 s (An4 us.reverse):=by
 apply Ao1
 have hn:s.n=us.length:=by rw[h.n,Ah2]
 have hbl:(An4 us).length=us.length:=Ah2 us
 have one: ∀(z:Int) (u:Value),u∈[Value.int .u8 z]→u.oneCell'=true:=by
  intro z u hu
  rw[List.mem_singleton.1 hu];rfl
 refine⟨by unfold I64;omega,fun l W=>match l with
  | [.val (.int .i64 i),.val (.int .i64 j)]=>∃(k:Nat) (ys:List (List Value)),i=(k:Int)∧j=(us.length:Int)-1-(k:Int)∧Go.SX.Own W 5 1 s ys∧ys.length=us.length∧k≤us.length∧(us.length≤2*k+1∨k<us.length)∧
    ∀a,a<(An4 us).length→ys[a]?=if a<k∨(An4 us).length≤a+k then(An4 us)[(An4 us).length-1-a]? else(An4 us)[a]?
  | _=>False,fun l _=>match l with | [.val (.int .i64 i),_]=>us.length-i.toNat | _=>0,⟨0,An4 us,rfl,by omega,h,hbl,Nat.zero_le _,by omega,fun a ha=>by rw[if_neg (by omega)]⟩,?_⟩
 rintro i3 i4 W5 ⟨k,ys,rfl,rfl,hO,hyl,hk,hk2,hys⟩
 refine⟨fun hlt=>?_,fun hge W10 hE10=>⟨rfl,?_⟩⟩
 ·have hkn:k<us.length-1-k:=by omega
  have ej:(us.length:Int)-1-(k:Int)=((us.length-1-k:Nat):Int):=by omega
  have hjl:us.length-1-k<us.length:=by omega
  have hkl:k<us.length:=by omega
  have e1:(An4 us)[us.length-1-k]?=some [.int .u8 (48+us[us.length-1-k]:Int)]:=by simp[An4,hjl]
  have e2:(An4 us)[k]?=some [.int .u8 (48+us[k]:Int)]:=by simp[An4,hkl]
  have y1:ys[us.length-1-k]?=some [.int .u8 (48+us[us.length-1-k]:Int)]:=by rw[hys _ (by omega),if_neg (by omega),e1]
  have y2:ys[k]?=some [.int .u8 (48+us[k]:Int)]:=by rw[hys _ (by omega),if_neg (by omega),e2]
  rw[ej]
  have ib1:inB s ((us.length-1-k:Nat):Int):=Own.Fi5 hO (by omega) (by omega)
  have ib2:inB s ((k:Nat):Int):=Own.Fi5 hO (by omega) (by omega)
  refine⟨ib1,_,Own.at1 hO y1,ib2,_,Own.at1 hO y2,ib2,?_⟩
  refine Ao7 (j:=k) hO (by omega) rfl (one _) (fun g hg=>.inl hg) fun W8 g hg hw hO8=>⟨ib1,?_⟩
  refine Ao7 (j:=us.length-1-k) hO8 (by rw[List.length_set];omega) rfl (one _) (fun g hg=>.inl hg) fun W9 g' hg' hw' hO9=>⟨by unfold I64;omega,by unfold I64;omega,⟨k+1,_,by push_cast;rfl,by omega,hO9,by simp[hyl],by omega,by omega,?_⟩,?_⟩
  ·have:=Dr2 (xs:=An4 us) (ys:=ys) (by omega) (by omega) (by rw[hbl];exact e1) e2 hys
   rw[hbl] at this⊢
   exact this
  ·show us.length-Int.toNat ((k:Int)+1)<us.length-Int.toNat (k:Int)
   omega
 ·have:=Do5 (xs:=An4 us) (ys:=ys) (k:=k) (by omega) (by omega) hys
  have e:An4 us.reverse=(An4 us).reverse:=by simp[An4]
  rw[e,←this]
  exact hO.ext hE10
theorem Ez1 {a p e r:Nat} (h:a+p*r=e):a+p*(r%10)+p*10*(r/10)=e:=by
 have h1:=Nat.mod_add_div r 10
 have h2:p*(r%10)+p*10*(r/10)=p*(r%10+10*(r/10)):=by grind
 rw[h1] at h2
 omega
theorem Fa1: ∀{l:List Nat} (h:l≠[]) (h0:l[l.length-1]?=some 0),dvl (l.take (l.length-1))=dvl l:=by
 intro l h h0
 have hp:=List.length_pos_iff.2 h
 have e:l=l.take (l.length-1) ++ [0]:=by
  have:=List.dropLast_concat_getLast h
  rw[List.getLast_eq_getElem,List.dropLast_eq_take] at this
  rw[List.getElem?_eq_getElem (by omega)] at h0
  rw[Option.some.inj h0] at this
  exact this.symm
 conv=>rhs;rw[e,Ay5]
 simp[dvl]
theorem Dy5 {W0 : PW} {M : Nat → Prop} {s : Sl} {x : Nat} (h : Aa6 141 W0 s x) (hx : nl x ≤ 100000000) :
    Aa0 Tryz.prog 139 [.agg #[s.v]] W0 M fun v W' => v = .string (En3 x) ∧ True := by
  apply Bn2
  intro W1 hE1
  refine ⟨fun _ => False, _, Ds4 (M := fun _ => False) (Row.ext h hE1) (by show nl x ≤ _; omega), fun _ h => h.elim, ?_⟩
  rintro v W2 hX2 ⟨s3, rfl, hO3, hf3⟩
  refine ⟨s3, rfl, ?_⟩
  have hW01 := hE1.size
  refine ⟨fun l W => match l with
    | [.row l6, .val (.slice A n c)] => W0.w.heap.size ≤ W.w.heap.size ∧ ∃ (ds : List Nat) (y : Nat), l6 = An4 ds ∧ (∀ d ∈ ds, d < 10) ∧ dvl ds + 10 ^ ds.length * y = x ∧ ds.length ≤ 32 * nl x + 9 ∧ nl y ≤ 100000000 ∧ Go.SX.Own W 141 1 ⟨A, n, c⟩ (cel (dg y)) ∧ Aq4 W0 ⟨A, n, c⟩
    | _ => False, fun l W => match l with | [_, .val (.slice A n c)] => slN W 141 ⟨A, n, c⟩ | _ => 0, ⟨Nat.le_trans hW01 hX2.size, [], x, rfl, fun d h => (by simp at h), by simp [dvl], by simp, hx, hO3, fun g hg => Nat.le_trans hW01 (hf3 g hg)⟩, ?_⟩
  rintro l6 s7 W8 ⟨hW8, ds, y, rfl, hds, hxy, hlen, hy, hO8, hF⟩
  have hO8 : Go.SX.Own W8 141 1 s7 (cel (dg y)) := hO8
  have hF : Aq4 W0 s7 := hF
  have hn7 : s7.n = nl y := by have := hO8.n; rw [Aa5] at this; exact this
  refine ⟨fun hpos => ?_, fun hz s21 W22 hE22 hO22 hf22 => ?_⟩
  · have hy0 : y ≠ 0 := fun e => by subst e; rw [Ag9] at hn7; omega
    have hb10 : ds.length < 32 * nl x := by
      have h1 : 10 ^ ds.length * 1 ≤ 10 ^ ds.length * y := Nat.mul_le_mul_left _ (by omega)
      have h2 : 2 ^ ds.length ≤ 10 ^ ds.length := Nat.pow_le_pow_left (by decide) _
      have h3 := Bb4 x
      rw [Bp0] at h3
      exact (Nat.pow_lt_pow_iff_right (by decide : 1 < 2)).1 (by omega)
    have hne : dg y ≠ [] := fun e => hy0 (by rw [← Ac5 y, e]; rfl)
    intro W' hE'
    obtain ⟨g, cs, hm, hg⟩ := (hO8.ext hE').mut hne
    refine ⟨_, _, Bw9 (by' := 1000000000) hm (Ad8 y) (by decide) (by decide) (by show nl y ≤ _; omega), ?_, ?_⟩
    · rintro b rfl
      exact ⟨hm.S, .inr (hF _ hg)⟩
    rintro v W10 hX10 ⟨ws, rfl, hwl, hwd, hwv, hput⟩
    rw [Ac5] at hwv ⊢
    have hO10 : Go.SX.Own W10 141 1 s7 (cel ws) := (hO8.ext hE').put hm hput hwl
    have hW10 : W0.w.heap.size ≤ W10.w.heap.size := Nat.le_trans (Nat.le_trans hW8 hE'.size) hX10.size
    obtain ⟨r0, hr0⟩ : ∃ r0, y % 1000000000 = r0 := ⟨_, rfl⟩
    have hr0lt : r0 < 1000000000 := by omega
    rw [hr0]
    refine ⟨_, rfl, fun l W => match l with
      | [.row l14, .val (.int .u32 i15), .val (.int .i64 i16)] => Ext W10 W ∧ ∃ (es : List Nat) (rr : Nat), l14 = An4 (ds ++ es) ∧ i15 = (rr : Int) ∧ i16 = (es.length : Int) ∧ es.length ≤ 9 ∧ (∀ d ∈ es, d < 10) ∧ dvl es + 10 ^ es.length * rr = r0 ∧ rr ≤ r0
      | _ => False, fun l _ => match l with | [_, _, .val (.int .i64 i)] => 9 - i.toNat | _ => 0, ⟨Ext.refl _, [], r0, by simp, rfl, rfl, by simp, fun d h => (by simp at h), by simp [dvl], Nat.le_refl _⟩, ?_⟩
    rintro l14 i15 i16 W17 ⟨hE17, es, rr, rfl, rfl, rfl, hel, hes, hrr, hrle⟩
    refine ⟨fun hlt => ?_, fun hge => ?_⟩
    · have e1 : Int.tmod (rr : Int) 10 = ((rr % 10 : Nat) : Int) := by rw [Int.tmod_eq_emod_of_nonneg (by omega)]; rfl
      have e2 : IntKind.wrap .u32 (48 + Int.tmod (rr : Int) 10) = ((48 + rr % 10 : Nat) : Int) := by
        rw [e1, show (48 : Int) + ((rr % 10 : Nat) : Int) = ((48 + rr % 10 : Nat) : Int) by push_cast; rfl, Ab9, Nat.mod_eq_of_lt (by unfold B; omega)]
      have e3 : IntKind.wrap .u8 (((48 + rr % 10 : Nat)) : Int) = (48 + ((rr % 10 : Nat) : Int)) := by rw [Du1 (by omega) (by omega)]; push_cast; rfl
      have e4 : IntKind.wrap .u32 (Int.tdiv (rr : Int) 10) = ((rr / 10 : Nat) : Int) := by
        rw [Int.tdiv_eq_ediv_of_nonneg (by omega), show ((rr : Int) / 10) = ((rr / 10 : Nat) : Int) by rfl, Ab9, Nat.mod_eq_of_lt (by unfold B; omega)]
      rw [e2, e3, e4]
      refine ⟨by decide, by rw [Ah2, List.length_append]; simp only [List.length_cons, List.length_nil]; omega, by decide, by unfold I64; omega, ⟨hE17, es ++ [rr % 10], rr / 10, ?_, rfl, by simp, by simp; omega, ?_, ?_, ?_⟩, ?_⟩
      · rw [← List.append_assoc, Bp9 (ds ++ es)]; rfl
      · intro d hd
        rcases List.mem_append.1 hd with h | h
        · exact hes d h
        · rw [List.mem_singleton.1 h]; omega
      · rw [Ay5, List.length_append, List.length_singleton, Nat.pow_succ]
        simp only [dvl, Nat.mul_zero, Nat.add_zero]
        exact Ez1 hrr
      · have : rr / 10 ≤ rr := Nat.div_le_self ..
        omega
      · show 9 - Int.toNat ((es.length : Int) + 1) < 9 - Int.toNat (es.length : Int)
        omega
    · have hel9 : es.length = 9 := by omega
      rw [hel9] at hrr
      have hrr0 : dvl es = r0 := by
        have : rr = 0 := by omega
        rw [this] at hrr
        simpa using hrr
      refine Ba4 (hO10.ext hE17) hwd (by rw [hwl]; show nl y ≤ _; omega) fun s20 W19 hE19 ⟨h20, hb20⟩ => ⟨s20, rfl, ⟨Nat.le_trans (Nat.le_trans hW10 hE17.size) hE19.size, ds ++ es, y / 1000000000, rfl, ?_, ?_, by rw [List.length_append]; omega, Nat.le_trans (Ad1 (Nat.div_le_self ..)) hy, ?_, fun g' hg' => hF g' (hb20 g' hg')⟩, ?_⟩
      · intro d hd
        rcases List.mem_append.1 hd with h | h
        · exact hds d h
        · exact hes d h
      · rw [Ay5, List.length_append, hel9, hrr0, Nat.pow_add, ← hr0]
        have e1 := Nat.mod_add_div y 1000000000
        have e2 : 10 ^ ds.length * (y % 1000000000) + 10 ^ ds.length * 10 ^ 9 * (y / 1000000000) = 10 ^ ds.length * y := by
          conv => rhs; rw [← e1]
          rw [Nat.mul_add, Nat.mul_assoc]
        omega
      · rw [hwv] at h20
        exact h20
      · rw [hwv] at h20
        have i20 : Aa6 141 W19 s20 (y / 1000000000) := h20.row
        have i8 : Aa6 141 W8 s7 y := hO8.row
        show slN W19 _ s20 < slN W8 _ s7
        rw [Bl5 i20, Bl5 i8]
        exact Nat.div_lt_self (by omega) (by decide)
  · have hy0 : y = 0 := Ad0.1 (by omega)
    subst hy0
    rw [Nat.mul_zero, Nat.add_zero] at hxy
    refine ⟨fun l W => match l with
      | [.val (.slice A n c)] => ∃ es : List Nat, Go.SX.Own W 5 1 ⟨A, n, c⟩ (An4 es) ∧ dvl es = x ∧ (∀ d ∈ es, d < 10) ∧ es.length ≤ 32 * nl x + 9 ∧ Aq4 W0 ⟨A, n, c⟩
      | _ => False, fun l _ => match l with | [.val (.slice A n c)] => n | _ => 0, ⟨ds, hO22, hxy, hds, hlen, fun g hg => (hf22 g hg).1⟩, ?_⟩
    rintro s26 W27 ⟨es, hO, hv, hd, hl, hfr⟩
    have hO : Go.SX.Own W27 5 1 s26 (An4 es) := hO
    have hfr : Aq4 W0 s26 := hfr
    have hn : s26.n = es.length := by rw [hO.n, Ah2]
    refine ⟨fun hpos => ?_, fun hz => ⟨fun _ W35 _ => ⟨?_, trivial⟩, fun hne => absurd hz (by omega)⟩⟩
    · have hel : es.length - 1 < es.length := by omega
      have e1 : ((s26.n : Int) - 1) = ((es.length - 1 : Nat) : Int) := by omega
      rw [e1, show Int.toNat ((es.length - 1 : Nat) : Int) = es.length - 1 from rfl]
      have hb : (An4 es)[es.length - 1]? = some [.int .u8 (48 + es[es.length - 1] : Int)] := by simp [An4, hel]
      refine ⟨by unfold I64; omega, Own.Fi5 hO (by omega) (by rw [Ah2]; omega), _, Own.at1 hO hb, fun h48 => ⟨by unfold I64; omega, ⟨by omega, by omega, by have := hO.row.2.1; omega⟩, ?_, ?_⟩, fun h48 => ⟨fun h => absurd h (by omega), fun _ => ?_⟩⟩
      · rw [show Int.toNat 0 = 0 from rfl, show TyI.size ty5 = 1 from rfl, Sl.Ar0]
        have ht := hO.take (k := es.length - 1) (by rw [Ah2]; omega)
        have e0 : es[es.length - 1] = 0 := by omega
        refine ⟨es.take (es.length - 1), by have e : An4 (es.take (es.length - 1)) = (An4 es).take (es.length - 1) := by simp [An4, List.map_take]
                                            rw [e]; exact ht, ?_, fun d hm => hd d (List.mem_of_mem_take hm), by simp; omega, fun g hg => hfr g (Cj9 hg)⟩
        rw [← hv]
        exact Fa1 (fun e => by subst e; simp at hel) (by rw [List.getElem?_eq_getElem hel, e0])
      · rw [show Int.toNat 0 = 0 from rfl, show TyI.size ty5 = 1 from rfl, Sl.Ar0]
        show es.length - 1 < s26.n
        omega
      · intro W' hE'
        refine ⟨_, _, Ea5 (hO.ext hE') (by omega), fun g hg => ⟨(hO.ext hE').2 g hg, .inr (hfr g hg)⟩, ?_⟩
        rintro v W31 hX31 ⟨rfl, hR⟩
        refine ⟨rfl, (es.reverse.map fun (d : Nat) => (48 + (d : Int))), ?_, fun W34 _ => ⟨?_, trivial⟩⟩
        · have := hR.row
          have e : An4 es.reverse = List.map (fun i33 => [Value.int IntKind.u8 i33]) (es.reverse.map fun (d : Nat) => (48 + (d : Int))) := by simp [An4]
          rw [e] at this
          exact this
        · have hlast : es.getLast? ≠ some 0 := by
            rw [List.getLast?_eq_getElem?, List.getElem?_eq_getElem hel]
            intro e
            have := Option.some.inj e
            omega
          have hdec := Eo0 hd hlast
          rw [hv] at hdec
          have hx0 : x ≠ 0 := fun e => by
            rw [e] at hdec
            have : es = [] := by rw [← hdec]; exact Ay1
            subst this
            simp at hel
          unfold En3
          rw [if_neg hx0, hdec]
    · have : es = [] := List.eq_nil_of_length_eq_zero (by omega)
      subst this
      rw [← hv]
      rfl
theorem Av4 {W0 W:PW} {M:Nat→Prop} {s:Sl} {x:Nat} {K:Value→PW→Prop} (h:Aa6 141 W s x) (hx:nl x≤100000000) (kont: ∀(W':PW),Ext W W'→(True)→K (.string (En3 x)) W'):
  Aa1 Tryz.prog W0 M 139 [.agg #[s.v]] W K:=
 Aa2 (fun W' hE=>Dy5 (M:=fun _=>False) (h.ext hE) hx) (fun W' v W'' hE hE' hP=>by
  obtain⟨rfl,h⟩:=hP
  exact kont W'' (hE.trans hE') h)
theorem Ct9 {W0:PW} {M:Nat→Prop} {s:Sl} {b:Bool} {z:Int} (h:Ab5 141 W0 s b z) (hz:nl z.natAbs≤100000000):
  Aa0 Tryz.prog 138 [.agg #[s.v,.bool b]] W0 M fun v W'=>v = .string (Dq2 z)∧True:=by
 apply Bc7
 have hs:=Av8 z.natAbs
 have hb:=h.2
 refine⟨fun ht=>Av4 h.1 hz fun W2 hE2 _=>⟨_,rfl,?_,fun W4 _=>⟨?_,trivial⟩⟩,fun hf=>Av4 h.1 hz fun W6 hE6 _=>⟨_,rfl,fun W8 _=>⟨?_,trivial⟩⟩⟩
 ·show((1:Nat):Int)+_≤_
  omega
 ·have:z<0:=by rw[hb] at ht;exact of_decide_eq_true ht
  unfold Dq2
  rw[if_pos this]
 ·have:¬z<0:=by rw[hb] at hf;exact of_decide_eq_false hf
  unfold Dq2
  rw[if_neg this]
theorem Ba3 {W0 W:PW} {M:Nat→Prop} {s:Sl} {b:Bool} {z:Int} {K:Value→PW→Prop} (h:Ab5 141 W s b z) (hz:nl z.natAbs≤100000000) (kont: ∀(W':PW),Ext W W'→(True)→K (.string (Dq2 z)) W'):
  Aa1 Tryz.prog W0 M 138 [.agg #[s.v,.bool b]] W K:=
 Aa2 (fun W' hE=>Ct9 (M:=fun _=>False) (h.ext hE) hz) (fun W' v W'' hE hE' hP=>by
  obtain⟨rfl,h⟩:=hP
  exact kont W'' (hE.trans hE') h)
theorem Dw2 {W0:PW} {M:Nat→Prop} {s t:Sl} {b:Bool} {q:Rat} {k:Nat} (h:Ab3 141 W0 s b t q) (hq:Sz k q) (hk:k≤100000000):
  Aa0 Tryz.prog 105 [.agg #[s.v,.bool b,t.v]] W0 M fun v W'=>v = .string (Ed0 q)∧True:=by
 apply Bn6
 have hd:=hq.dn
 have h1:=hq.1
 have h2:=hq.2
 have hs1:=Cr1 q.num
 have hs2:=Av8 q.den
 refine Ac9 h.2 (by omega) fun W2 hE2 _=>⟨_,rfl,fun h0=>?_,fun h0=>?_⟩
 ·have hden:q.den=1:=Aq0.1 (Ag3.1 (by omega))
  refine Ba3 (h.1.ext hE2) (by omega) fun W5 hE5 _=>⟨_,rfl,fun W7 _=>⟨?_,trivial⟩⟩
  unfold Ed0
  rw[if_pos hden]
 ·have hdn:dn q≠0:=fun e=>h0 (by rw[e];rfl)
  have hden:q.den≠1:=fun e=>hdn (Aq0.2 e)
  have h2':=h.2
  rw[Cl4 hdn] at h2'
  refine Ba3 (h.1.ext hE2) (by omega) fun W9 hE9 _=>⟨_,rfl,?_,Av4 ((h2'.ext hE2).ext hE9) (by omega) fun W12 hE12 _=>⟨_,rfl,?_,fun W14 _=>⟨?_,trivial⟩⟩⟩
  ·show _+((1:Nat):Int)≤_
   omega
  ·rw[ByteArray.size_append]
   show(((Dq2 q.num).size+1:Nat):Int)+_≤_
   omega
  ·unfold Ed0
   rw[if_neg hden]
theorem Dc4 {W0 W:PW} {M:Nat→Prop} {s t:Sl} {b:Bool} {q:Rat} {k:Nat} {K:Value→PW→Prop} (h:Ab3 141 W s b t q) (hq:Sz k q) (hk:k≤100000000) (kont: ∀(W':PW),Ext W W'→(True)→K (.string (Ed0 q)) W'):
  Aa1 Tryz.prog W0 M 105 [.agg #[s.v,.bool b,t.v]] W K:=
 Aa2 (fun W' hE=>Dw2 (M:=fun _=>False) (h.ext hE) hq hk) (fun W' v W'' hE hE' hP=>by
  obtain⟨rfl,h⟩:=hP
  exact kont W'' (hE.trans hE') h)
end Go.Proofs.YtahohahjnhfedaaGreatDoor
