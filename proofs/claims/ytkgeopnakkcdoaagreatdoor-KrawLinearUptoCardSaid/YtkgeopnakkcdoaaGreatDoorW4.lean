import Derived.Test.YtkgeopnakkcdoaaGreatDoorW3
import Derived.Test.YtkgeopnakkcdoaaGreatDoorLib2
import Derived.Shelf.Strings.Search1
import Derived.Test.YtkgeopnakkcdoaaGreatDoorR3
set_option linter.unusedVariables false
set_option linter.unusedSimpArgs false
set_option maxRecDepth 100000
namespace Go.Proofs.YtkgeopnakkcdoaaGreatDoor
open Go Go.SX
variable {K:Value->PW->Prop}{M:Nat->Prop}{W W0:PW}{a:ByteArray}{α:Type}
theorem Bs3 (s:ByteArray)(c:Int)(w:World):Calls Tryz.prog 254 #[.string s,.int .u8 c] w λ e w'=>e = .returned (.int .i64 (firstIdx s c.toNat.toUInt8))/\w'=w:=by
 go_enter Tryz.func254,Tryz.ntmps254
 go_wp2
 rw[run_callFunc_extern Tryz.func266 (by kernel_rfl) (by kernel_rfl) (by kernel_rfl) (e:=Extern.BytealgIndexByte.indexByte) (by kernel_rfl),run_indexByte_string];simp only[Result.andThen];rw[Oper.upon_value]
 go_wp2
 go_ret
 exact⟨rfl,rfl⟩
theorem Cc5 {c:Nat}(b:c<256):
  Aa0 Tryz.prog 254 [.string a,.int .u8 (c:Int)] W0 M λ v W'=>v = .int .i64 (Cx6 (Al7 a c a.size 0))/\True:=by
 refine⟨⟨_,Tryz.func254,by kernel_rfl,by kernel_rfl⟩,λ _=>(Bs3 a c W0.w).mono ?_⟩;rintro e w' ⟨rfl,rfl⟩;refine⟨_,rfl,Am7.refl _ _,?_,trivial⟩;rw[Int.toNat_natCast,Bm2 b]
theorem Bm6 {c:Nat}(d:c<256)(e: ∀(W':PW),Ext W W'->(True)->K (.int .i64 (Cx6 (Al7 a c a.size 0))) W'):
  Aa1 Tryz.prog W0 M 254 [.string a,.int .u8 (c:Int)] W K:=
 Mi4 (λ _ b=>Cc5 d) fun | _,W',b,⟨rfl,h⟩=>e W' b h
def Az4:ByteArray:=⟨⟨[47]⟩⟩
theorem Ea8:
  Aa0 Tryz.prog 223 [.string a,.string Az4] W0 M λ v W'=>v = .int .i64 (Cx6 (Ak5 a))/\True:=by
 apply Am3;refine⟨λ h=>(by simp[Az4,ByteArray.size] at h),λ _=>⟨?_,?_⟩⟩
 ·rintro rfl b _
  have e:Cx6 (Ak5 Az4)=0:=by decide
  rw[e];exact⟨rfl,trivial⟩
 ·refine λ c=>⟨λ _=>⟨⟨by decide,by decide⟩,?_⟩,λ h=>(by exact absurd (by decide) h)⟩
  have e:Ae2 Az4 0=((47:Nat):Int):=by decide
  rw[e];exact Bm6 (by decide) λ d f _=>⟨_,rfl,λ g i=>⟨rfl,trivial⟩⟩
theorem Ct6 (c: ∀(W':PW),Ext W W'->(True)->K (.int .i64 (Cx6 (Ak5 a))) W'):
  Aa1 Tryz.prog W0 M 223 [.string a,.string Az4] W K:=
 Mi4 (λ _ b=>Ea8 ) fun | _,W',b,⟨rfl,h⟩=>c W' b h
def Ds6 (a:ByteArray):ByteArray×ByteArray×Bool:=match Ak5 a with
 | some i=>(a.extract 0 i,a.extract (i+1) a.size,true)
 | none=>(a,⟨⟨[]⟩⟩,false)
theorem Ex8 (c:a.size<=1099511627776):
  Aa0 Tryz.prog 171 [.string a,.string Az4] W0 M λ v W'=>v = .tuple #[.string (Ds6 a).1,.string (Ds6 a).2.1,.bool (Ds6 a).2.2]/\True:=by
 apply Ao4;refine Ct6 λ d e _=>⟨_,rfl,?_⟩;have b:(ByteArray.size Az4:Int)=1:=by decide
 rw[b];unfold Ds6
 cases h:Ak5 a with
 | none=>exact⟨λ h=>(by simp only[Cx6] at h;omega),λ _ f _=>⟨rfl,trivial⟩⟩
 | some i=>
  have:=Aq6 _ _ h;refine⟨λ _=>⟨?_,?_,?_,λ g _=>⟨?_,trivial⟩⟩,λ h=>(by simp only[Cx6] at h;omega)⟩
  ·simp only[Cx6];omega
  ·simp only[Cx6];unfold I64;omega
  ·simp only[Cx6];omega
  ·simp only[Cx6]
   rw[Int.toNat_natCast,Int.toNat_natCast,show Int.toNat ((i:Int)+1)=i+1 by omega]
theorem Dv7 (c:a.size<=1099511627776)(d: ∀(W':PW),Ext W W'->(True)->K (.tuple #[.string (Ds6 a).1,.string (Ds6 a).2.1,.bool (Ds6 a).2.2]) W'):
  Aa1 Tryz.prog W0 M 171 [.string a,.string Az4] W K:=
 Mi4 (λ _ b=>Ex8 c) fun | _,W',b,⟨rfl,h⟩=>d W' b h
theorem Ef8 (b:a.size<=1099511627776):
  Aa0 Tryz.prog 94 [.string a,.string Az4] W0 M λ v W'=>v = .tuple #[.string (Ds6 a).1,.string (Ds6 a).2.1,.bool (Ds6 a).2.2]/\True:=by
 apply Bp4;exact Dv7 b λ c d _=>⟨_,_,_,rfl,λ e f=>⟨rfl,trivial⟩⟩
theorem Dk5 (c:a.size<=1099511627776)(d: ∀(W':PW),Ext W W'->(True)->K (.tuple #[.string (Ds6 a).1,.string (Ds6 a).2.1,.bool (Ds6 a).2.2]) W'):
  Aa1 Tryz.prog W0 M 94 [.string a,.string Az4] W K:=
 Mi4 (λ _ b=>Ef8 c) fun | _,W',b,⟨rfl,h⟩=>d W' b h
theorem Em1 {o:Option α}(h:o=none):er o=2:=by rw[h];rfl
theorem Ey7 {o:Option α}(h:er o≠0):o=none:=by
 cases o with
 | none=>rfl
 | some x=>exact absurd rfl h
theorem Ej7 {o:Option α}(h:¬er o≠0): ∃x,o=some x:=by
 cases o with
 | none=>exact absurd (by show(2:Int)≠0;decide) h
 | some x=>exact⟨x,rfl⟩
theorem By0 {t:TypeId}(W:PW):Ab5 t W ⟨none,0,0⟩ false 0:=⟨Af6 W,by decide⟩
theorem Cg7 (Q:a.size<=1099511627776):
  Aa0 Tryz.prog 95 [.string a] W0 M λ v W'=>∃(s':Sl),∃(b':Bool),v = .tuple #[.agg #[Sl.v s',.bool b'],.int .i64 (er (Ac3 a))]/\Ab5 257 W' s' b' ((Ac3 a).getD 0):=by
 apply Bq5;have bad:Ac3 a=none->∀W':PW,∃(s':Sl) (b':Bool),(Value.tuple #[.agg #[.slice none 0 0,.bool false],.int .i64 2]) = .tuple #[.agg #[Sl.v s',.bool b'],.int .i64 (er (Ac3 a))]/\Ab5 257 W' s' b' ((Ac3 a).getD 0):=by
  intro h W';rw[h];exact⟨⟨none,0,0⟩,false,rfl,By0 W'⟩
 have A:Ae2 a 0=(sb a 0:Int):=Ao5 a 0;have j:¬(0<a.size/\sb a 0=45)->Ac3 a=(Ad2 a).map λ x=>(x:Int):=λ h=>by unfold Ac3;rw[if_neg h]
 have m:(0<a.size/\sb a 0=45)->Ac3 a=match Ad2 (a.extract 1 a.size) with
  | some x=>if x=0 then none else some (-(x:Int))
  | none=>none:=λ h=>by unfold Ac3;rw[if_pos h];rfl
 refine⟨λ n=>?_,λ n=>?_⟩
 ·have B:=Bi0.1 n
  refine⟨by omega,λ l W=>match l with | [.val (.string u)]=>u=if sb a 0=45 then a.extract 1 a.size else a | _=>False,⟨λ h=>⟨by omega,?_⟩,λ h=>?_⟩,?_⟩
  ·show _=_
   rw[if_pos (by omega)];rfl
  ·show _=_
   rw[if_neg (by omega)]
  rintro t2 R rfl;refine Au3 λ f o F d=>⟨f,_,rfl,λ l W=>match l with | [.cells _]=>Ext o W/\(Ad2 (if sb a 0=45 then a.extract 1 a.size else a)).isSome=true/\(sb a 0=45->Ad2 (a.extract 1 a.size)≠some 0) | _=>False,⟨λ G=>λ C _=>?_,λ heq=>⟨λ c=>?_,λ c=>?_⟩⟩,?_⟩
  ·have g:=Ey7 G
   apply bad
   by_cases c:sb a 0=45
   ·rw[if_pos c] at g
    rw[m ⟨by omega,c⟩,g]
   ·rw[if_neg c] at g
    rw[j (by omega),g];rfl
  ·have p:sb a 0=45:=by omega
   obtain⟨x,b⟩:=Ej7 heq;rw[if_pos p] at b d;rw[b] at d;have H:=Ap1 b;refine Ac9 d (by show nl x<=_;omega) λ S I _=>⟨_,rfl,λ q T _=>?_,λ q=>⟨I,?_,λ _=>?_⟩⟩
   ·have:x=0:=Ag3.1 (by simpa using q)
    apply bad;rw[m ⟨by omega,p⟩,b];simp[this]
   ·rw[if_pos p,b];rfl
   ·rw[b]
    intro e;cases e;exact q rfl
  ·obtain⟨x,b⟩:=Ej7 heq
   exact⟨Ext.refl _,by rw[b];rfl,λ h=>absurd h (by omega)⟩
  rintro U V X ⟨J,L,N⟩;obtain⟨x,b⟩:=Option.isSome_iff_exists.1 L;rw[b] at d;have d:Aa6 257 o f x:=d;have H:=Ap1 b;refine Ad6 (d.ext J) (by omega) λ r w Y Z i=>⟨r,w,rfl,λ aa D=>?_⟩
  by_cases c:sb a 0=45
  ·rw[if_pos c] at b
   rw[if_pos (by rw[A];simp[c])] at i;have O:x≠0:=λ e=>N c (by rw[b,e]);have z:Ac3 a=some (-(x:Int)):=by
    rw[m ⟨by omega,c⟩,b];simp[O]
   rw[z];exact⟨r,w,rfl,i.ext D⟩
  ·rw[if_neg c] at b
   rw[if_neg (by rw[A];simp;omega)] at i;have z:Ac3 a=some (x:Int):=by
    rw[j (by omega),b];rfl
   rw[z];exact⟨r,w,rfl,i.ext D⟩
 ·have B:a.size=0:=Decidable.byContradiction λ h=>n (Bi0.2 h)
  have E:Ad2 a=none:=Bh4 λ h=>h.1 B;have P:Ac3 a=none:=by rw[j (by omega),E];rfl
  refine⟨λ l W=>match l with | [.val (.string u)]=>u=a | _=>False,rfl,?_⟩;rintro t24 ab rfl;refine Au3 λ f o F d=>⟨f,_,rfl,λ l W=>False,⟨λ _=>λ C _=>bad P C,λ h=>absurd (Em1 E) (by omega)⟩,λ _ _ _ h=>h.elim⟩
theorem Aw8 (c:a.size<=1099511627776)(d: ∀(s':Sl) (b':Bool) (W':PW),Ext W W'->(Ab5 257 W' s' b' ((Ac3 a).getD 0))->K (.tuple #[.agg #[Sl.v s',.bool b'],.int .i64 (er (Ac3 a))]) W'):
  Aa1 Tryz.prog W0 M 95 [.string a] W K:=
 Mi4 (λ _ b=>Cg7 c) fun | _,W',b,⟨s',b',rfl,h⟩=>d s' b' W' b h
theorem Br3 {d:Nat}{n:Int}(h:¬(d<2\/Nat.gcd d n.natAbs≠1)):(mkRat n d).num=n/\dn (mkRat n d)=d:=by
 have b:Nat.gcd d n.natAbs=1:=Decidable.byContradiction λ e=>h (.inr e);have f:¬d<2:=λ e=>h (.inl e);have h1:(mkRat n d).num=n:=by
  rw[Rat.num_mkRat,if_neg (by omega),b];simp
 have c:(mkRat n d).den=d:=by
  rw[Rat.den_mkRat,if_neg (by omega)];rw[Nat.gcd_comm,Nat.gcd_comm] at *;rw[b];simp
 refine⟨h1,?_⟩;unfold dn;rw[c,if_neg (by omega)]
theorem Dc9 (C:a.size<=1099511627776):
  Aa0 Tryz.prog 32 [.string a] W0 M λ v W'=>∃(s':Sl),∃(b':Bool),∃(o:Sl),v = .tuple #[.agg #[Sl.v s',.bool b',Sl.v o],.int .i64 (er (Ab7 a))]/\Ab3 257 W' s' b' o ((Ab7 a).getD 0):=by
 apply Cm5;have bad:Ab7 a=none->∀W':PW,∃(s':Sl) (b':Bool) (o:Sl),(Value.tuple #[.agg #[.slice none 0 0,.bool false,.slice none 0 0],.int .i64 2]) = .tuple #[.agg #[Sl.v s',.bool b',Sl.v o],.int .i64 (er (Ab7 a))]/\Ab3 257 W' s' b' o ((Ab7 a).getD 0):=by
  intro h W';rw[h];exact⟨⟨none,0,0⟩,false,⟨none,0,0⟩,rfl,Ef0 W'⟩
 have hint: ∀(W:PW) (b:Sl) (c:Bool) (n:Int),Ab5 257 W b c n->Ab3 257 W b c ⟨none,0,0⟩ (n:Rat):=by
  intro W b c n h;refine⟨by rw[Rat.num_intCast];exact h,?_⟩;have:dn (n:Rat)=0:=Aq0.2 (Rat.den_intCast n);rw[this];exact Af6 W
 refine Dk5 (a:=a) C λ W2 ag _=>⟨_,_,_,rfl,?_⟩;unfold Ds6
 cases r:Ak5 a with
 | none=>
  have j:Ab7 a=(Ac3 a).map λ(z:Int)=>(z:Rat):=by unfold Ab7;rw[r]
  refine Aw8 C λ b c D L f=>⟨b,c,_,rfl,λ _ _=>False,⟨λ p=>λ N u=>?_,λ heq=>⟨λ _ ah O=>?_,λ h=>(by cases h)⟩⟩,λ _ _ _ _ h=>h.elim⟩
  ·have g:=Ey7 p
   rw[g] at f;rw[j,g];exact⟨b,c,⟨none,0,0⟩,rfl,hint _ _ _ 0 (f.ext u)⟩
  ·obtain⟨n,g⟩:=Ej7 heq
   rw[g] at f;rw[j,g];exact⟨b,c,⟨none,0,0⟩,rfl,hint _ _ _ n (f.ext O)⟩
 | some i=>
  have hi:=Aq6 _ _ r
  have j:Ab7 a=match Ac3 (a.extract 0 i),Ad2 (a.extract (i+1) a.size) with
   | some n,some d=>if d<2\/Nat.gcd d n.natAbs≠1 then none else some (mkRat n d)
   | _,_=>none:=by unfold Ab7;rw[r];rfl
  dsimp only;refine Aw8 (by rw[ByteArray.size_extract];omega) λ b c D L f=>⟨b,c,_,rfl,λ l W=>Ext D W/\∃n,Ac3 (a.extract 0 i)=some n,⟨λ p=>λ N u=>?_,λ heq=>⟨λ h=>(by cases h),λ _=>⟨Ext.refl _,Ej7 heq⟩⟩⟩,?_⟩
  ·have g:=Ey7 p
   rw[g] at f;rw[Em1 g,j,g];exact⟨b,c,⟨none,0,0⟩,rfl,hint _ _ _ 0 (f.ext u)⟩
  rintro ai aj ak P ⟨Q,n,g⟩;rw[g] at j f;have al:=Be9 g;have f:Ab5 257 P b c n:=f.ext Q;refine Au3 λ w E F m=>⟨w,_,rfl,λ l W=>Ext E W/\∃d,Ad2 (a.extract (i+1) a.size)=some d/\¬(d<2\/Nat.gcd d n.natAbs≠1),⟨λ p=>λ R _=>bad ?_ R,λ heq=>?_⟩,?_⟩
  ·rw[j,Ey7 p]
  ·obtain⟨d,q⟩:=Ej7 heq
   rw[q] at j m;have S:=Ap1 q;have m:Aa6 257 E w d:=m;refine Ac9 m (by omega) λ am A _=>⟨_,rfl,λ B=>λ T _=>bad ?_ T,λ U=>?_⟩
   ·have:d<2:=Ah4.1 (by omega)
    rw[j];simp[this]
   ·have V:¬d<2:=λ h=>U (by have:=Ah4.2 h;omega)
    refine Ag5 ((f.ext F).ext A) λ X an G Y=>⟨X,rfl,?_⟩;refine Bu2 ((m.ext A).ext G) Y (by omega) (by omega) λ Z ao aa ab=>⟨Z,rfl,?_⟩;have ap:nl (Nat.gcd d n.natAbs)<=4000:=Nat.le_trans (Ad1 (Nat.gcd_le_left _ (by omega))) S;refine Ac9 ab (by omega) λ aq ac _=>⟨_,rfl,λ B ad _=>bad ?_ ad,λ ar=>⟨((A.trans G).trans aa).trans ac,d,q,?_⟩⟩
    ·have:Nat.gcd d n.natAbs≠1:=λ e=>by
      rw[e] at B;exact absurd B (by decide)
     rw[j];simp[this]
    ·rintro(h | h)
     ·exact V h
     ·have h0:Nat.gcd d n.natAbs≠0:=λ e=>by
       have:=(Nat.gcd_eq_zero_iff.1 e).1;omega
      have:Nat.gcd d n.natAbs<2:=Ah4.1 (by omega);omega
  ·rintro av aw ax ay ⟨H,d,q,I⟩ az J
   rw[q] at j m;have ae:Ab7 a=some (mkRat n d):=by rw[j];exact if_neg I
   rw[ae];have hm:=Br3 I;refine⟨b,c,w,rfl,?_,?_⟩
   ·show Ab5 _ _ _ _ (mkRat n d).num
    rw[hm.1];exact((f.ext F).ext H).ext J
   ·show Aa6 _ _ _ (dn (mkRat n d))
    rw[hm.2];exact(m.ext H).ext J
theorem As8 (d:a.size<=1099511627776)(e: ∀(s':Sl) (b':Bool) (b:Sl) (W':PW),Ext W W'->(Ab3 257 W' s' b' b ((Ab7 a).getD 0))->K (.tuple #[.agg #[Sl.v s',.bool b',Sl.v b],.int .i64 (er (Ab7 a))]) W'):
  Aa1 Tryz.prog W0 M 32 [.string a] W K:=
 Mi4 (λ _ c=>Dc9 d) fun | _,W',c,⟨s',b',b,rfl,h⟩=>e s' b' b W' c h
end Go.Proofs.YtkgeopnakkcdoaaGreatDoor
namespace Go.Proofs.YtkgeopnakkcdoaaGreatDoor
open Go Go.SX
variable {K:Value->PW->Prop}{M:Nat->Prop}{W W0:PW}{l:List Nat}{s t:Sl}{x y:Nat}
theorem Cx7 {n:Nat}(h:n<18446744073709551616):bits .and .u64 (n:Int) 4294967295=((n%B:Nat):Int):=by
 have e:((4294967295:Nat):Int)=4294967295:=rfl;rw[<-e,u64_and_nat _ _ h (by decide)];congr 1;exact Nat.and_two_pow_sub_one_eq_mod n 32
def rtI (W0:PW) (l0:List Nat) (l:List PL) (W:PW):Prop:=
 match l with
 | [.val (.int .i64 k)]=>Ext W0 W/\∃k':Nat,k=(k':Int)/\k'<=l0.length/\val (l0.take k')=val l0
 | _=>False
def rtM (l:List PL) (W:PW):Nat:=
 match l with
 | [.val (.int .i64 k)]=>k.toNat
 | _=>0
theorem Bt5 (h:Row W0 257 1 s (cel l))(i:Dig l)(q:l.length<=1099511627776):
  Aa0 Tryz.prog 215 [s.v] W0 M λ v W'=>∃(k:Nat),v = .slice s.A k s.c/\k<=l.length/\dg (val l)=l.take k:=by
 apply Cl7;have r:s.n=l.length:=Ad4.n h;have u:s.n<=s.c:=h.2.1;have fin: ∀(k:Nat),k<=l.length->val (l.take k)=val l->Trim (l.take k)->∃k':Nat,Sl.v (Sl.cut {A:=Sl.A s,n:=Sl.n s,c:=Sl.c s } (TyI.size Mk6) (Int.toNat 0) (Int.toNat (k:Int))) = .slice s.A k' s.c/\k'<=l.length/\dg (val l)=l.take k':=by
  intro k hk b j;rw[show Int.toNat 0=0 from rfl,show TyI.size Mk6=1 from rfl,Sl.Ar0,Int.toNat_natCast];exact⟨k,rfl,hk,by rw[<-b,Bk0 (i.take k) j]⟩
 refine⟨rtI W0 l,rtM,⟨Ext.refl _,l.length,by omega,Nat.le_refl _,by rw[List.take_length]⟩,?_⟩;rintro i3 m ⟨f,k,rfl,hk,b⟩;have g:Ad4 257 m s l:=Row.ext h f;refine⟨λ w=>?_,λ z=>⟨by omega,λ B C=>fin k hk b ?_⟩⟩
 ·have d:k-1<l.length:=by omega
  have o:((k:Int)-1)=((k-1:Nat):Int):=by omega
  rw[o];refine⟨by unfold I64;omega,Ad4.inB g (by omega) (by omega),((l[k-1]:Nat):Int),by rw[Int.toNat_natCast];exact Ad4.at g d,λ p=>⟨by unfold I64;omega,⟨f,k-1,rfl,by omega,?_⟩,?_⟩,λ p=>⟨by omega,λ D E=>fin k hk b ?_⟩⟩
  ·have:=Aa4 d
   rw[show k-1+1=k by omega,b,show l[k-1]=0 by omega,Nat.mul_zero,Nat.add_zero] at this;exact this.symm
  ·show Int.toNat ((k-1:Nat):Int)<Int.toNat (k:Int)
   omega
  ·unfold Trim
   rw[List.getLast?_eq_getElem?,List.length_take,Nat.min_eq_left hk,List.getElem?_take,if_pos (by omega),List.getElem?_eq_getElem d];intro e;have:=Option.some.inj e;omega
 ·have:k=0:=by omega
  subst this;exact λ h=>by simp at h
theorem Dy6 (h:Row W0 257 1 s (cel l))(b:Dig l)(c:l.length<=1099511627776):
  Aa0 Tryz.prog 215 [s.v] W0 M λ v W'=>∃(s':Sl),v=Sl.v s'/\Aa6 257 W' s' (val l):=by
 have d:Cd9 Tryz.prog 215 [s.v] W0 (λ v W'=>∃s':Sl,v=Sl.v s'/\Aa6 257 W' s' (val l)):=Cd9.mono (Bt5 h b c) λ v W' e ⟨k,f,hk,he⟩=>⟨⟨s.A,k,s.c⟩,f,by
  show Ad4 257 W' _ (dg (val l));rw[he];exact Row.ext (Ad4.take h hk) e⟩
 exact Aa0.mono d (λ _ h=>h.elim) λ _ _ _ h=>h
theorem An1 (h:Row W 257 1 s (cel l))(c:Dig l)(d:l.length<=1099511627776)(e: ∀(s':Sl) (W':PW),Ext W W'->(Aa6 257 W' s' (val l))->K (Sl.v s') W'):
  Aa1 Tryz.prog W0 M 215 [s.v] W K:=
 Mi4 (λ _ b=>Dy6 (h.ext b) c d) fun | _,W',b,⟨s',rfl,h⟩=>e s' W' b h
theorem Dn8 (b:x<B*B):
  Aa0 Tryz.prog 156 [.int .u64 (x:Int)] W0 M λ v W'=>∃(s':Sl),v=Sl.v s'/\Aa6 257 W' s' x:=by
 apply Cb7;intro s1 f i hO j;rw[Cx7 (by unfold B at b;omega),Ao0,Ab9,Ab9,Nat.mod_mod] at hO;have hO:Go.SX.Own f 257 1 s1 (cel [x%B,x/B%B]):=hO;have c:x/B<B:=(Nat.div_lt_iff_lt_mul Ad3).2 b;rw[Nat.mod_eq_of_lt c] at hO;have g:Dig [x%B,x/B]:=Dig.cons (Nat.mod_lt _ Ad3) (Dig.cons c Dig.nil);refine An1 hO.row g (by simp) λ s' m n d=>⟨s',rfl,λ o h=>⟨s',rfl,?_⟩⟩;have e:val [x%B,x/B]=x:=by simp only[val];have:=Nat.mod_add_div x B;omega
 rw[e] at d;exact d.ext h
theorem Ae0 (c:x<B*B)(d: ∀(s':Sl) (W':PW),Ext W W'->(Aa6 257 W' s' x)->K (Sl.v s') W'):
  Aa1 Tryz.prog W0 M 156 [.int .u64 (x:Int)] W K:=
 Mi4 (λ _ b=>Dn8 c) fun | _,W',b,⟨s',rfl,h⟩=>d s' W' b h
theorem Cd8 (h:nl x<nl y):x<y:=by
 apply Nat.lt_of_not_le;intro hle;have:=Ad1 hle;omega
def cmI (x y:Nat) (W0:PW) (l:List PL) (W:PW):Prop:=
 match l with
 | [.val (.int .i64 k)]=>Ext W0 W/\∃k':Nat,k=(k':Int)-1/\k'<=nl x/\(dg x).drop k'=(dg y).drop k'
 | _=>False
def cmM (l:List PL) (W:PW):Nat:=
 match l with
 | [.val (.int .i64 k)]=>(k+1).toNat
 | _=>0
theorem Ek1 (h1:Aa6 257 W0 s x)(g:Aa6 257 W0 t y)(z:nl x<=1099511627776):
  Aa0 Tryz.prog 200 [s.v,t.v] W0 M λ v W'=>v = .int .i64 (Dt2 x y)/\True:=by
 apply Bs6;have A:=h1.n;have B:=g.n;have C:(dg x).length=nl x:=rfl;have D:(dg y).length=nl y:=rfl;refine⟨λ E=>⟨λ h F _=>?_,λ r G _=>?_⟩,λ heq=>⟨by unfold I64;omega,cmI x y W0,cmM,⟨Ext.refl _,nl x,by omega,Nat.le_refl _,?_⟩,?_⟩⟩
 ·rw[Al0 (Cd8 (by omega))];exact⟨rfl,trivial⟩
 ·rw[Aj4 (Cd8 (by omega))];exact⟨rfl,trivial⟩
 ·rw[List.drop_of_length_le (by omega),List.drop_of_length_le (by omega)]
 rintro i5 H ⟨d,k,rfl,hk,e⟩;have j:=h1.ext d;have m:=g.ext d;refine⟨λ u=>?_,λ u I _=>?_⟩
 ·have w:(k:Int)-1=((k-1:Nat):Int):=by omega
  have b:k-1<(dg x).length:=by omega
  have c:k-1<(dg y).length:=by omega
  have f:(dg x).drop (k-1+1)=(dg y).drop (k-1+1):=by rw[show k-1+1=k by omega];exact e
  rw[w];have n:=Ad4.inB j (i:=((k-1:Nat):Int)) (by omega) (by omega);have o:=Ad4.inB m (i:=((k-1:Nat):Int)) (by omega) (by omega);have p:=Ad4.at j b;have q:=Ad4.at m c;refine⟨n,(((dg x)[k-1]:Nat):Int),p,o,(((dg y)[k-1]:Nat):Int),q,λ h J _=>?_,λ r=>⟨n,(((dg x)[k-1]:Nat):Int),p,o,(((dg y)[k-1]:Nat):Int),q,λ h L _=>?_,λ N=>⟨by unfold I64;omega,⟨d,k-1,by omega,by omega,?_⟩,?_⟩⟩⟩
  ·have:=Cj5 (Ad8 x) b c f (by omega)
   rw[Ac5,Ac5] at this;rw[Al0 this];exact⟨rfl,trivial⟩
  ·have:=Cj5 (Ad8 y) c b f.symm (by omega)
   rw[Ac5,Ac5] at this;rw[Aj4 this];exact⟨rfl,trivial⟩
  ·rw[List.drop_eq_getElem_cons b,List.drop_eq_getElem_cons c,f]
   congr 1;omega
  ·show Int.toNat (((k-1:Nat):Int)-1+1)<Int.toNat (((k-1:Nat):Int)+1)
   omega
 ·have:k=0:=by omega
  subst this;have:x=y:=by
   rw[List.drop_zero,List.drop_zero] at e;rw[<-Ac5 x,e,Ac5]
  subst this;rw[Ap9];exact⟨rfl,trivial⟩
theorem Aj3 (h1:Aa6 257 W s x)(c:Aa6 257 W t y)(d:nl x<=1099511627776)(e: ∀(W':PW),Ext W W'->(True)->K (.int .i64 (Dt2 x y)) W'):
  Aa1 Tryz.prog W0 M 200 [s.v,t.v] W K:=
 Mi4 (λ _ b=>Ek1 (h1.ext b) (c.ext b) d) fun | _,W',b,⟨rfl,h⟩=>e W' b h
def rbI (N:Nat) (W0:PW) (l:List PL) (W:PW):Prop:=
 match l with
 | [.val (.int .i64 n),.val (.int .u32 v)]=>Ext W0 W/\∃b v':Nat,n=(b:Int)/\v=(v':Int)/\b+Aj9 v'=N
 | _=>False
def rbM (l:List PL) (W:PW):Nat:=
 match l with
 | [_,.val (.int .u32 v)]=>v.toNat
 | _=>0
theorem Cy4 {v:Nat}(h:0<v):Aj9 v=Aj9 (v/2)+1:=by
 by_cases b:2<=v
 ·have:=Bg3 (x:=v) 1 (by simpa using b)
  rw[this];simp;omega
 ·have:v=1:=by omega
  subst this;decide
theorem Ea0 (h:Aa6 257 W0 s x)(q:nl x<=274877906944):
  Aa0 Tryz.prog 196 [s.v] W0 M λ v W'=>v = .int .i64 ((Aj9 x:Nat):Int)/\True:=by
 apply Ci5;have c:=h.n;have r:(dg x).length=nl x:=rfl;refine⟨λ b u _=>?_,λ b=>?_⟩
 ·have:x=0:=Ad0.1 (by omega)
  subst this;exact⟨rfl,trivial⟩
 ·have d:x≠0:=λ e=>b (by rw[c,e,Ag9];rfl)
  obtain⟨hk,f,g,i⟩:=Bt4 d;have j:((s.n:Int)-1)=((nl x-1:Nat):Int):=by omega
  rw[j];have m:Aj9 x=32*(nl x-1)+Aj9 (dg x)[nl x-1]:=by
   conv=>lhs;rw[i]
   exact Do4 (Ae6 (Ad8 x) _) f
  refine⟨by unfold I64;omega,by unfold I64;omega,by unfold I64;omega,Ad4.inB h (by omega) (by omega),(((dg x)[nl x-1]:Nat):Int),by rw[Int.toNat_natCast];exact Ad4.at h hk,rbI (Aj9 x) W0,rbM,⟨Ext.refl _,32*(nl x-1),_,by push_cast;rfl,rfl,m.symm⟩,?_⟩;rintro i5 i6 w ⟨o,n,v,rfl,rfl,p⟩;have z:Aj9 (dg x)[nl x-1]<=32:=Bb9 g;refine⟨λ A=>⟨?_,⟨o,n+1,v/2,by push_cast;rfl,?_,?_⟩,?_⟩,λ B C _=>?_⟩
  ·have:=Cy4 (v:=v) (by omega)
   unfold I64;omega
  ·exact Ay2 v 1
  ·have:=Cy4 (v:=v) (by omega)
   omega
  ·have e:=Ay2 v 1
   show Int.toNat (Ah0 (v:Int) 1)<Int.toNat (v:Int);rw[e];omega
  ·have:v=0:=by omega
   subst this;have:n=Aj9 x:=by rw[Eq1] at p;omega
   subst this;exact⟨rfl,trivial⟩
theorem Bj8 (h:Aa6 257 W s x)(c:nl x<=274877906944)(d: ∀(W':PW),Ext W W'->(True)->K (.int .i64 ((Aj9 x:Nat):Int)) W'):
  Aa1 Tryz.prog W0 M 196 [s.v] W K:=
 Mi4 (λ _ b=>Ea0 (h.ext b) c) fun | _,W',b,⟨rfl,h⟩=>d W' b h
theorem Ay7 (l:List Nat)(k:Nat):val (l.take (k+1))=val (l.take k)+B^k*(l[k]?.getD 0):=by
 by_cases h:k<l.length
 ·rw[Aa4 h,List.getElem?_eq_getElem h];rfl
 ·rw[Dm7 (by omega),List.getElem?_eq_none (by omega)]
  simp
theorem El4 (h1:Aa6 257 W0 s x)(E:Aa6 257 W0 t y)(hx:nl x<=549755813888)(hy:nl y<=549755813888):
  Aa0 Tryz.prog 249 [s.v,t.v] W0 M λ v W'=>∃(s':Sl),v=Sl.v s'/\Aa6 257 W' s' (x+y):=by
 apply Bu5;have n1:=h1.n;have n2:=E.n;have R:(dg x).length=nl x:=rfl;have S:(dg y).length=nl y:=rfl;obtain⟨m,hm⟩: ∃m,max (nl x) (nl y)=m:=⟨_,rfl⟩;have em:mx (s.n:Int) (t.n:Int)=(m:Int):=by unfold mx;split<;>omega
 simp only[em]
 refine⟨by unfold I64;omega,⟨trivial,by omega,by omega⟩,λ l W=>match l with
  | [.val (.int .u64 c),.val (.int .i64 k),.row xs]=>Ext W0 W/\∃(f k':Nat) (zs:List Nat),c=(f:Int)/\k=(k':Int)/\xs=cel zs/\k'<=m+1/\zs.length=m+1/\Dig zs/\
   val (zs.take k')+B^k'*f=val ((dg x).take k')+val ((dg y).take k')/\f<=1
  | _=>False,λ l _=>match l with | [_,.val (.int .i64 k),_]=>m+1-k.toNat | _=>0,?_,?_⟩
 ·refine⟨Ext.refl _,0,0,List.replicate (m+1) 0,rfl,rfl,?_,by omega,by simp,λ d T=>?_,by simp[val],by omega⟩
  ·rw[show Int.toNat ((m:Int)+1)=m+1 by omega];exact Ae3 _
  ·rw[(List.mem_replicate.1 T).2];decide
 rintro l3 i4 i5 W6 ⟨o,c,k,zs,rfl,rfl,rfl,hk,q,N,F,hc⟩;have O:=h1.ext o;have r:=E.ext o;rw[Aa5];have hw: ∀da db:Nat,da<B->db<B->c+da+db<2*B/\c+da+db<18446744073709551616:=by
  intro da db h1 E;unfold B at *;omega
 have step: ∀da db:Nat,(dg x)[k]?.getD 0=da->(dg y)[k]?.getD 0=db->da<B->db<B->k<m+1->val ((zs.set k ((c+da+db)%B)).take (k+1))+B^(k+1)*((c+da+db)/B)=val ((dg x).take (k+1))+val ((dg y).take (k+1))/\(c+da+db)/B<=1:=by
  intro da db G H I J b;rw[Ac1 (by omega),Ay7 (dg x),Ay7 (dg y),G,H,Nat.pow_succ];refine⟨Bo5 F,?_⟩;have:=(Nat.div_lt_iff_lt_mul Ad3).2 (hw da db I J).1;omega
 have w: ∀(da db:Nat),(dg x)[k]?.getD 0=da->(dg y)[k]?.getD 0=db->da<B->db<B->k<m+1->∃(f k':Nat) (A:List Nat),(((c+da+db)/B:Nat):Int)=(f:Int)/\((k:Int)+1)=(k':Int)/\(cel zs).set k [.int .u32 (((c+da+db)%B:Nat):Int)]=cel A/\k'<=m+1/\A.length=m+1/\Dig A/\
   val (A.take k')+B^k'*f=val ((dg x).take k')+val ((dg y).take k')/\f<=1:=by
  intro da db G H I J b;obtain⟨U,V⟩:=step da db G H I J b;exact⟨_,k+1,_,rfl,by push_cast;rfl,Ae9 ..,by omega,by simpa using q,N.set (Nat.mod_lt _ Ad3),U,V⟩
 refine⟨λ P=>?_,λ aj ak al am hO an=>?_⟩
 ·have b:k<m+1:=by omega
  have C: ∀z:Int,z=(k:Int)+1->m+1-z.toNat<m+1-Int.toNat (k:Int):=by intro z q;omega
  have D:Int.toNat (k:Int)=k:=rfl;refine⟨λ ao=>?_,λ ap=>?_⟩
  ·have L:k<(dg x).length:=by omega
   have da:=(Ad8 x).at L;obtain⟨u,hu⟩: ∃u,(dg x)[k]=u:=⟨_,rfl⟩;have p:(dg x)[k]?.getD 0=u:=by rw[List.getElem?_eq_getElem L,hu];rfl
   rw[hu] at da;have Q:IntKind.wrap .u64 (u:Int)=(u:Int):=Ab1 (by unfold B at da;omega);refine⟨Ad4.inB O (by omega) (by omega),(u:Int),by rw[<-hu];exact Ad4.at O L,λ X=>?_,λ Y=>?_⟩
   ·have g:k<(dg y).length:=by omega
    have db:=(Ad8 y).at g;obtain⟨v,i⟩: ∃v,(dg y)[k]=v:=⟨_,rfl⟩;have j:(dg y)[k]?.getD 0=v:=by rw[List.getElem?_eq_getElem g,i];rfl
    rw[i] at db;have ev:IntKind.wrap .u64 (v:Int)=(v:Int):=Ab1 (by unfold B at db;omega);have n:=hw u v da db;have e:IntKind.wrap .u64 (IntKind.wrap .u64 ((c:Int)+IntKind.wrap .u64 (u:Int))+IntKind.wrap .u64 (v:Int))=((c+u+v:Nat):Int):=by
     rw[Q,ev,<-Int.natCast_add,Ab1 (by omega),<-Int.natCast_add,Ab1 (by omega)]
    refine⟨Ad4.inB r (by omega) (by omega),(v:Int),by rw[<-i];exact Ad4.at r g,⟨by omega,by omega⟩,by omega,by unfold I64;omega,?_,C _ rfl⟩;rw[e,Ao0,Cx7 n.2,Ab9,Nat.mod_mod,D];exact⟨o,w u v p j da db b⟩
   ·have j:(dg y)[k]?.getD 0=0:=by rw[List.getElem?_eq_none (by omega)];rfl
    have n:=hw u 0 da Ad3;have e:IntKind.wrap .u64 ((c:Int)+IntKind.wrap .u64 (u:Int))=((c+u+0:Nat):Int):=by
     rw[Q,<-Int.natCast_add,Ab1 (by omega)];rfl
    refine⟨⟨by omega,by omega⟩,by omega,by unfold I64;omega,?_,C _ rfl⟩;rw[e,Ao0,Cx7 n.2,Ab9,Nat.mod_mod,D];exact⟨o,w u 0 p j da Ad3 b⟩
  ·have p:(dg x)[k]?.getD 0=0:=by rw[List.getElem?_eq_none (by omega)];rfl
   refine⟨λ X=>?_,λ Y=>?_⟩
   ·have g:k<(dg y).length:=by omega
    have db:=(Ad8 y).at g;obtain⟨v,i⟩: ∃v,(dg y)[k]=v:=⟨_,rfl⟩;have j:(dg y)[k]?.getD 0=v:=by rw[List.getElem?_eq_getElem g,i];rfl
    rw[i] at db;have ev:IntKind.wrap .u64 (v:Int)=(v:Int):=Ab1 (by unfold B at db;omega);have n:=hw 0 v Ad3 db;have e:IntKind.wrap .u64 ((c:Int)+IntKind.wrap .u64 (v:Int))=((c+0+v:Nat):Int):=by
     rw[ev,<-Int.natCast_add,Ab1 (by omega)];rfl
    refine⟨Ad4.inB r (by omega) (by omega),(v:Int),by rw[<-i];exact Ad4.at r g,⟨by omega,by omega⟩,by omega,by unfold I64;omega,?_,C _ rfl⟩;rw[e,Ao0,Cx7 n.2,Ab9,Nat.mod_mod,D];exact⟨o,w 0 v p j Ad3 db b⟩
   ·have j:(dg y)[k]?.getD 0=0:=by rw[List.getElem?_eq_none (by omega)];rfl
    have n:=hw 0 0 Ad3 Ad3;have e:(c:Int)=((c+0+0:Nat):Int):=rfl;refine⟨⟨by omega,by omega⟩,by omega,by unfold I64;omega,?_,C _ rfl⟩;rw[e,Ao0,Cx7 n.2,Ab9,Nat.mod_mod,D];exact⟨o,w 0 0 p j Ad3 Ad3 b⟩
 ·have b:k=m+1:=by omega
  subst b;have Z:val zs=x+y:=by
   have P:=Ax5 (Ad8 x);have aa:=Ax5 (Ad8 y);rw[show(dg x).take (m+1)=dg x from List.take_of_length_le (by omega),show(dg y).take (m+1)=dg y from List.take_of_length_le (by omega),Ac5,Ac5,<-q,List.take_length] at F;rw[Ac5,R] at P;rw[Ac5,S] at aa;have p1:B^nl x<=B^m:=Nat.pow_le_pow_right Ad3 (by omega);have p2:B^nl y<=B^m:=Nat.pow_le_pow_right Ad3 (by omega);have p3:B^zs.length=B^m*B:=by rw[q,Nat.pow_succ]
   have p4:B^m*2<=B^m*B:=Nat.mul_le_mul_left _ (by decide);have ab:c=0:=by
    rcases(show c=0\/c=1 by omega) with h | h
    ·exact h
    ·subst h;omega
   subst ab;rw[Nat.mul_zero] at F;omega
  refine An1 hO.row N (by omega) λ s' aw ax h=>⟨s',rfl,λ ay ac=>⟨s',rfl,?_⟩⟩;rw[Z] at h;exact h.ext ac
theorem Bz0 (h1:Aa6 257 W s x)(c:Aa6 257 W t y)(d:nl x<=549755813888)(e:nl y<=549755813888)(f: ∀(s':Sl) (W':PW),Ext W W'->(Aa6 257 W' s' (x+y))->K (Sl.v s') W'):
  Aa1 Tryz.prog W0 M 249 [s.v,t.v] W K:=
 Mi4 (λ _ b=>El4 (h1.ext b) (c.ext b) d e) fun | _,W',b,⟨s',rfl,h⟩=>f s' W' b h
theorem Er4 (h1:Aa6 257 W0 s x)(G:Aa6 257 W0 t y)(U:nl x<=549755813888)(hle:y<=x):
  Aa0 Tryz.prog 250 [s.v,t.v] W0 M λ v W'=>∃(s':Sl),v=Sl.v s'/\Aa6 257 W' s' (x-y):=by
 apply Bu0;have V:=h1.n;have X:=G.n;have Y:=Ad1 hle;have Z:(dg x).length=nl x:=rfl;have aa:(dg y).length=nl y:=rfl;refine⟨⟨rfl,by omega,by omega⟩,Ft7 x y W0,Fr6 x,?_,?_⟩
 ·refine⟨Ext.refl _,0,0,List.replicate (nl x) 0,rfl,rfl,?_,by omega,by simp,λ d p=>?_,by simp[val],by omega⟩
  ·rw[show Int.toNat (s.n:Int)=nl x by omega];exact Ae3 _
  ·rw[(List.mem_replicate.1 p).2];decide
 rintro l3 i4 i5 P ⟨f,c,k,zs,rfl,rfl,rfl,hk,q,r,w,hc⟩;have H:=h1.ext f;have I:=G.ext f;rw[Aa5];have g:Int.toNat (k:Int)=k:=rfl;have j:k<nl x->∀z:Int,z=(k:Int)+1->nl x-z.toNat<nl x-Int.toNat (k:Int):=by intro hk z q;omega
 have m: ∀(u v d neg:Nat),(dg x)[k]?.getD 0=u->(dg y)[k]?.getD 0=v->d+c+v=u+B*neg->d<B->neg<=1->k<nl x->∃(A k':Nat) (n:List Nat),(neg:Int)=(A:Int)/\((k:Int)+1)=(k':Int)/\(cel zs).set k [.int .u32 (d:Int)]=cel n/\k'<=nl x/\n.length=nl x/\Dig n/\
   val (n.take k')+val ((dg y).take k')=val ((dg x).take k')+B^k'*A/\A<=1:=by
  intro u v d neg hu b Q p R J;refine⟨neg,k+1,_,rfl,by push_cast;rfl,Ae9 ..,by omega,by simpa using q,r.set p,?_,R⟩;rw[Ac1 (by omega),Ay7 (dg x),Ay7 (dg y),hu,b,Nat.pow_succ];exact Di1 (low:=0) w Q
 refine⟨λ ac=>?_,λ ad ae af ag hO ah=>?_⟩
 ·have C:k<(dg x).length:=by omega
  have da:=(Ad8 x).at C;obtain⟨u,hu⟩: ∃u,(dg x)[k]=u:=⟨_,rfl⟩;have o:(dg x)[k]?.getD 0=u:=by rw[List.getElem?_eq_getElem C,hu];rfl
  have L:Aa7 P s 1 k 0 [.int .u32 (u:Int)]:=by rw[<-hu];exact Ad4.at H C
  have N:=Ad4.inB H (i:=(k:Int)) (by omega) (by omega);rw[hu] at da;have dA:u<4294967296:=da;have O:IntKind.wrap .u64 (u:Int)=(u:Int):=Ab1 (by omega);refine⟨λ aj=>?_,λ ak=>?_⟩
  ·have D:k<(dg y).length:=by omega
   have db:=(Ad8 y).at D;obtain⟨v,E⟩: ∃v,(dg y)[k]=v:=⟨_,rfl⟩;have b:(dg y)[k]?.getD 0=v:=by rw[List.getElem?_eq_getElem D,E];rfl
   rw[E] at db;have dB:v<4294967296:=db;have ev:IntKind.wrap .u64 (v:Int)=(v:Int):=Ab1 (by omega);have es:IntKind.wrap .u64 ((c:Int)+IntKind.wrap .u64 (v:Int))=((c+v:Nat):Int):=by rw[ev,<-Int.natCast_add,Ab1 (by omega)]
   refine⟨Ad4.inB I (by omega) (by omega),(v:Int),by rw[<-E];exact Ad4.at I D,N,(u:Int),L,?_⟩
   try dsimp only
   rw[es,O];refine⟨λ F=>⟨⟨by omega,by omega⟩,by omega,by unfold I64;omega,?_,j (by omega) _ rfl⟩,λ F=>⟨⟨by omega,by omega⟩,by omega,by unfold I64;omega,?_,j (by omega) _ rfl⟩⟩
   ·have e:IntKind.wrap .u32 (IntKind.wrap .u64 (IntKind.wrap .u64 ((u:Int)+4294967296)-((c+v:Nat):Int)))=((u+4294967296-(c+v):Nat):Int):=by
     rw[wrap64 (z:=(u:Int)+4294967296) (by omega) (by omega),wrap64 (by omega) (by omega),show(u:Int)+4294967296-((c+v:Nat):Int)=((u+4294967296-(c+v):Nat):Int) by omega,Ab9,Nat.mod_eq_of_lt (by unfold B;omega)]
    rw[e,g];exact⟨f,m u v _ 1 o b (by unfold B;omega) (by unfold B;omega) (Nat.le_refl _) (by omega)⟩
   ·have e:IntKind.wrap .u32 (IntKind.wrap .u64 ((u:Int)-((c+v:Nat):Int)))=((u-(c+v):Nat):Int):=by
     rw[wrap64 (by omega) (by omega),show(u:Int)-((c+v:Nat):Int)=((u-(c+v):Nat):Int) by omega,Ab9,Nat.mod_eq_of_lt (by unfold B;omega)]
    rw[e,g];exact⟨f,m u v _ 0 o b (by omega) (by unfold B;omega) (Nat.zero_le _) (by omega)⟩
  ·have b:(dg y)[k]?.getD 0=0:=by rw[List.getElem?_eq_none (by omega)];rfl
   refine⟨N,(u:Int),L,?_⟩
   try dsimp only
   rw[O];refine⟨λ F=>⟨⟨by omega,by omega⟩,by omega,by unfold I64;omega,?_,j (by omega) _ rfl⟩,λ F=>⟨⟨by omega,by omega⟩,by omega,by unfold I64;omega,?_,j (by omega) _ rfl⟩⟩
   ·have e:IntKind.wrap .u32 (IntKind.wrap .u64 (IntKind.wrap .u64 ((u:Int)+4294967296)-(c:Int)))=((u+4294967296-c:Nat):Int):=by
     rw[wrap64 (z:=(u:Int)+4294967296) (by omega) (by omega),wrap64 (by omega) (by omega),show(u:Int)+4294967296-(c:Int)=((u+4294967296-c:Nat):Int) by omega,Ab9,Nat.mod_eq_of_lt (by unfold B;omega)]
    rw[e,g];exact⟨f,m u 0 _ 1 o b (by unfold B;omega) (by unfold B;omega) (Nat.le_refl _) (by omega)⟩
   ·have e:IntKind.wrap .u32 (IntKind.wrap .u64 ((u:Int)-(c:Int)))=((u-c:Nat):Int):=by
     rw[wrap64 (by omega) (by omega),show(u:Int)-(c:Int)=((u-c:Nat):Int) by omega,Ab9,Nat.mod_eq_of_lt (by unfold B;omega)]
    rw[e,g];exact⟨f,m u 0 _ 0 o b (by omega) (by unfold B;omega) (Nat.zero_le _) (by omega)⟩
 ·have J:k=nl x:=by omega
  subst J;rw[show(dg x).take (nl x)=dg x from List.take_of_length_le (Nat.le_refl _),show(dg y).take (nl x)=dg y from List.take_of_length_le (by omega),Ac5,Ac5,<-q,List.take_length] at w;have am:=Ax5 r;have S:c=0:=by
   rcases(show c=0\/c=1 by omega) with h | h
   ·exact h
   ·subst h;omega
  subst S;have e:val zs=x-y:=by rw[Nat.mul_zero] at w;omega
  refine An1 hO.row r (by omega) λ s' an ao h=>⟨s',rfl,λ ap T=>⟨s',rfl,?_⟩⟩;rw[e] at h;exact h.ext T
theorem Bc2 (h1:Aa6 257 W s x)(c:Aa6 257 W t y)(d:nl x<=549755813888)(hle:y<=x)(e: ∀(s':Sl) (W':PW),Ext W W'->(Aa6 257 W' s' (x-y))->K (Sl.v s') W'):
  Aa1 Tryz.prog W0 M 250 [s.v,t.v] W K:=
 Mi4 (λ _ b=>Er4 (h1.ext b) (c.ext b) d hle) fun | _,W',b,⟨s',rfl,h⟩=>e s' W' b h
end Go.Proofs.YtkgeopnakkcdoaaGreatDoor
namespace Go.Proofs.YtkgeopnakkcdoaaGreatDoor
open Go Go.SX
variable {K:Value->PW->Prop}{M:Nat->Prop}{W W0:PW}{k x y:Nat}{s t:Sl}
theorem Ed7 (h:Aa6 257 W0 s x)(hx:nl x<=274877906944)(hk:k<=68719476736):
  Aa0 Tryz.prog 251 [s.v,.int .i64 (k:Int)] W0 M λ v W'=>∃(s':Sl),v=Sl.v s'/\Aa6 257 W' s' (x*2^k):=by
 apply Cx1;have hn:=h.n;have Q:(dg x).length=nl x:=rfl;simp only[Eg1 (show k<=1099511627776 by omega),Em5,Ab1 (show k%32<18446744073709551616 by omega)];obtain⟨N,R⟩: ∃N,k/32=N:=⟨_,rfl⟩;obtain⟨sh,S⟩: ∃sh,k%32=sh:=⟨_,rfl⟩;have F:sh<32:=by omega
 have am:N<=2147483648:=by omega
 have T:k=32*N+sh:=by omega
 rw[R,S];have U:=Fd1 F;refine⟨by decide,by unfold I64;omega,by unfold I64;omega,⟨trivial,by omega,by omega⟩,Ft8 x N sh W0,Fu1 x,?_,?_⟩
 ·refine⟨Ext.refl _,0,List.replicate (nl x+N+1) 0,rfl,?_,by omega,by simp,λ d g=>?_,by simp[val,Ao6],λ j o _=>by simp,λ o=>by simp;exact Nat.two_pow_pos sh⟩
  ·rw[show Int.toNat ((s.n:Int)+(N:Int)+1)=nl x+N+1 by omega];exact Ae3 _
  ·rw[(List.mem_replicate.1 g).2];decide
 rintro l3 i4 W5 ⟨G,i,zs,rfl,rfl,hi,V,H,I,z,X⟩;have J:=h.ext G;refine⟨λ Y=>?_,λ ao s8 W9 ar hO hf=>?_⟩
 ·have A:i<(dg x).length:=by omega
  have m:=(Ad8 x).at A;obtain⟨d,g⟩: ∃d,(dg x)[i]=d:=⟨_,rfl⟩;have C:N+i<zs.length:=by omega
  have n:N+i+1<zs.length:=by omega
  have L:=X C;obtain⟨p,r⟩: ∃p,zs[N+i]=p:=⟨_,rfl⟩;have hmul:d*2^sh<18446744073709551616:=by
   rw[g] at m;have:=Nat.mul_le_mul (Nat.le_of_lt m) U;unfold B at this;omega
  have Z:IntKind.wrap .u64 ((d:Nat):Int)=(d:Int):=Ab1 (by rw[g] at m;unfold B at m;omega);have ei:(i:Int)+(N:Int)=((N+i:Nat):Int):=by omega
  have lo:=Fc9 (v:=d) F;have ab:(d*2^sh)%B<B:=Nat.mod_lt _ Ad3;have ac:p+(d*2^sh)%B<B:=by
   have u:B=2^sh*2^(32-sh):=by rw[<-Nat.pow_add,show sh+(32-sh)=32 by omega];rfl
   have f:=Nat.mod_add_div ((d*2^sh)%B) (2^sh);rw[lo,Nat.zero_add] at f;rw[r] at L;generalize (d*2^sh)%B/2^sh=q at f;have:q<2^(32-sh):=by
    apply Nat.lt_of_mul_lt_mul_left (a:=2^sh);rw[f,<-u];exact ab
   have:=Nat.mul_le_mul_left (2^sh) (show q+1<=2^(32-sh) from this);rw[Nat.mul_add,f,<-u] at this;omega
  have ad:d*2^sh/B<2^sh:=by
   rw[Nat.div_lt_iff_lt_mul Ad3,Nat.mul_comm];rw[g] at m;exact Nat.mul_lt_mul_of_pos_left m (Nat.two_pow_pos sh)
  have O:d*2^sh/B<B:=by unfold B at *;omega
  have ae:bits .or .u32 (p:Int) (((d*2^sh%B:Nat)):Int)=((p+d*2^sh%B:Nat):Int):=by
   rw[u32_or_nat _ _ (by unfold B at *;omega) (by unfold B at *;omega),Nat.or_comm,nat_join sh _ _ lo (by rw[<-r];exact L),Nat.add_comm]
  have af:List.length (List.set (cel zs) (N+i) [Value.int .u32 ((p+d*2^sh%B:Nat):Int)])=zs.length:=by simp[Aa5]
  refine⟨Ad4.inB J (by omega) (by omega),(d:Int),by rw[<-g];exact Ad4.at J A,by decide,⟨by omega,by show(sh:Int)<=64;omega⟩,by decide,by unfold I64;omega,⟨by omega,by rw[Aa5];omega⟩,(p:Int),?_⟩;rw[ei,show Int.toNat ((N+i:Nat):Int)=N+i from rfl,show Int.toNat ((sh:Nat):Int)=sh from rfl,Z,Dr8 hmul,Ao0,Cx7 hmul,Ab9,Ab9,Nat.mod_mod,ae,Nat.mod_eq_of_lt O,af];have D:(zs.set (N+i) (p+d*2^sh%B))[N+i+1]'(by simpa using n)=0:=by
   rw[List.getElem_set_ne (by omega)];exact z _ n (by omega)
  have ag:bits .or .u32 ((0:Nat):Int) ((d*2^sh/B:Nat):Int)=((d*2^sh/B:Nat):Int):=by
   rw[u32_or_nat _ _ (by decide) (by unfold B at *;omega),Nat.zero_or]
  have w:Int.toNat (((N+i:Nat):Int)+1)=N+i+1:=by omega
  refine⟨⟨_,Au0 C,by rw[r];rfl⟩,⟨by omega,by rw[Aa5];omega⟩,by rw[Aa5];omega,by decide,by unfold I64;omega,by unfold I64;omega,⟨by omega,by omega⟩,((0:Nat):Int),?_,⟨by omega,by omega⟩,by omega,by unfold I64;omega,?_,?_⟩
  ·rw[Ae9,w]
   exact⟨_,Au0 (by simpa using n),by rw[D];rfl⟩
  ·rw[Ae9,w,ag,Ae9]
   refine⟨G,i+1,_,by push_cast;rfl,rfl,by omega,by simpa using V,(H.set ac).set O,?_,λ j o Y=>?_,λ o=>?_⟩
   ·have u:=Bh5 zs (k:=N+i) (p+d*2^sh%B) C
    have f:=Bh5 (zs.set (N+i) (p+d*2^sh%B)) (k:=N+i+1) (d*2^sh/B) (by simpa using n);have D:(zs.set (N+i) (p+d*2^sh%B))[N+i+1]'(by simpa using n)=0:=by
     rw[List.getElem_set_ne (by omega)];exact z _ n (by omega)
    rw[D] at f;rw[r] at u;rw[Aa4 A,g];have w:=Nat.mod_add_div (d*2^sh) B;rw[Nat.mul_zero,Nat.add_zero,Nat.pow_succ] at f;rw[f];have e5:B^N*2^sh*(val ((dg x).take i)+B^i*d)=val zs+B^(N+i)*(d*2^sh):=by
     rw[I,Nat.pow_add];generalize B^N=a;generalize B^i=b;generalize 2^sh=c;grind
    have e6:B^(N+i)*(d*2^sh)=B^(N+i)*(d*2^sh%B)+B^(N+i)*B*(d*2^sh/B):=by
     conv=>lhs;rw[<-w]
     rw[Nat.mul_add,Nat.mul_assoc]
    rw[e5,e6];generalize d*2^sh%B=P at *;generalize d*2^sh/B=z2 at *;generalize B^(N+i)=E at *;have:E*(p+P)=E*p+E*P:=Nat.mul_add ..;omega
   ·rw[List.getElem_set_ne (by omega),List.getElem_set_ne (by omega)]
    exact z j (by simpa using o) (by omega)
   ·simp only[show N+(i+1)=N+i+1 by omega]
    rw[List.getElem_set_self];exact ad
  ·show nl x-Int.toNat ((i:Int)+1)<nl x-Int.toNat (i:Int)
   omega
 ·have:i=nl x:=by omega
  subst this;have e:val zs=x*2^k:=by
   rw[I,<-Q,List.take_length,Ac5,Bp0,<-Nat.pow_add,<-T,Nat.mul_comm]
  refine An1 hO.row H (by omega) λ s' av aw h1=>⟨s',rfl,λ ax aj=>⟨s',rfl,?_⟩⟩;rw[e] at h1;exact h1.ext aj
theorem Bt0 (h:Aa6 257 W s x)(c:nl x<=274877906944)(hk:k<=68719476736)(d: ∀(s':Sl) (W':PW),Ext W W'->(Aa6 257 W' s' (x*2^k))->K (Sl.v s') W'):
  Aa1 Tryz.prog W0 M 251 [s.v,.int .i64 (k:Int)] W K:=
 Mi4 (λ _ b=>Ed7 (h.ext b) c hk) fun | _,W',b,⟨s',rfl,h⟩=>d s' W' b h
theorem Fn0 {n:Nat}(h:k<32*n):nl (2^k)<=n:=Bc6 (by rw[Bp0];exact Nat.pow_lt_pow_right (by decide) h)
theorem Eg0 (h:x≠0):2^(Aj9 x-1)<=x/\x<2^Aj9 x/\1<=Aj9 x:=by
 obtain⟨n,e,h1,b⟩:=Ax2 h;rw[e];exact⟨h1,b,by omega⟩
theorem Dm3 (x:Nat):Aj9 x<=32*nl x:=Bb9 (by rw[<-Bp0];exact Bb4 x)
theorem Ep1 (h1:Aa6 257 W0 s x)(D:Aa6 257 W0 t y)(hx:nl x<=1073741824)(hy:nl y<=1073741824)(Q:y≠0):
  Aa0 Tryz.prog 213 [s.v,t.v] W0 M λ v W'=>∃(q:Sl),∃(r:Sl),v = .tuple #[Sl.v q,Sl.v r]/\Aa6 257 W' q (x/y)/\Aa6 257 W' r (x%y):=by
 apply By5;have bx:=Dm3 x;have am:=Dm3 y;refine Bj8 h1 (by omega) λ W2 o _=>⟨_,rfl,Bj8 (D.ext o) (by omega) λ E F _=>⟨_,rfl,by unfold I64;omega,?_⟩⟩
 refine⟨λ l W=>match l with
  | [.val (.slice A n c),.val (.slice R S T),.val (.int .i64 i)]=>Ext E W/\∃q r,Aa6 257 W ⟨A,n,c⟩ r/\Aa6 257 W ⟨R,S,T⟩ q/\x=y*q+r/\r<y*2^(i+1).toNat/\i<=68719476736
  | _=>False,λ l _=>match l with | [_,_,.val (.int .i64 i)]=>(i+1).toNat | _=>0,⟨Ext.refl _,0,x,(h1.ext o).ext F,Af6 E,by simp,?_,by omega⟩,?_⟩
 ·have u:=Eg0 Q
  by_cases f:x=0
  ·subst f
   exact Nat.mul_pos (by omega) (Nat.two_pow_pos _)
  ·have j:=Eg0 f
   by_cases hb:Aj9 y<=Aj9 x
   ·rw[show Int.toNat ((Aj9 x:Int)-(Aj9 y:Int)+1)=Aj9 x-Aj9 y+1 by omega]
    have p:2^Aj9 x=2^(Aj9 y-1)*2^(Aj9 x-Aj9 y+1):=by rw[<-Nat.pow_add];congr 1;omega
    have:=Nat.mul_le_mul_right (2^(Aj9 x-Aj9 y+1)) u.1;omega
   ·rw[show Int.toNat ((Aj9 x:Int)-(Aj9 y:Int)+1)=0 by omega]
    have p:2^Aj9 x<=2^(Aj9 y-1):=Nat.pow_le_pow_right (by decide) (by omega);omega
 rintro G H i11 I ⟨w,q,r,e,g,z,m,hi⟩;have e:Aa6 257 I G r:=e;have g:Aa6 257 I H q:=g;have U:r<=x:=by omega
 have nr:=Ad1 U;have V:q<=x:=by
  have:1*q<=y*q:=Nat.mul_le_mul_right _ (by omega);omega
 have nq:=Ad1 V;refine⟨λ f=>?_,λ f aq J=>⟨H,G,rfl,?_⟩⟩
 ·obtain⟨k,rfl⟩:=Int.eq_ofNat_of_zero_le f
  have j:Int.toNat ((k:Int)+1)=k+1:=by omega
  rw[j,Nat.pow_succ] at m;have X:nl (y*2^k)<=1099511627776:=by
   have ar:nl (2^k)<=68719476737:=Fn0 (by omega);have:=Ae5 y (2^k);omega
  refine Bt0 (((D.ext o).ext F).ext w) (by omega) (by omega) λ Y au b L=>⟨Y,rfl,?_⟩;refine Aj3 L (e.ext b) X λ av d _=>⟨_,rfl,λ hle=>?_,λ Z=>⟨by unfold I64;omega,⟨(w.trans b).trans d,q,r,(e.ext b).ext d,(g.ext b).ext d,z,?_,by omega⟩,?_⟩⟩
  ·have aa:y*2^k<=r:=by
    apply Nat.le_of_not_lt;intro h;rw[Aj4 h] at hle;omega
   have ab:2^k<=x:=by
    have:1*2^k<=y*2^k:=Nat.mul_le_mul_right _ (by omega);omega
   have aw:=Ad1 ab;refine Bc2 ((e.ext b).ext d) (L.ext d) (by omega) aa λ ac ax N ad=>⟨ac,rfl,?_⟩;refine Ae0 (x:=1) (by decide) λ ae ay B af=>⟨ae,rfl,?_⟩;refine Bt0 af (by rw[Ax0];omega) (by omega) λ ag az C O=>⟨ag,rfl,?_⟩;rw[Nat.one_mul] at O;refine Bz0 (((((g.ext b).ext d).ext N).ext B).ext C) O (by omega) (by omega) λ ah aA P ai=>⟨ah,rfl,by unfold I64;omega,⟨((((((w.trans b).trans d).trans N).trans B).trans C).trans P),q+2^k,r-y*2^k,((ad.ext B).ext C).ext P,ai,?_,?_,by omega⟩,?_⟩
   ·rw[Nat.mul_add];omega
   ·rw[show Int.toNat ((k:Int)-1+1)=k by omega]
    have:y*(2^k*2)=y*2^k*2:=by rw[Nat.mul_assoc]
    omega
   ·show Int.toNat ((k:Int)-1+1)<Int.toNat ((k:Int)+1)
    omega
  ·rw[show Int.toNat ((k:Int)-1+1)=k by omega]
   apply Nat.lt_of_not_le;intro h;apply Z;rcases Nat.lt_or_eq_of_le h with h | h
   ·rw[Al0 h];omega
   ·rw[h,Ap9];omega
  ·show Int.toNat ((k:Int)-1+1)<Int.toNat ((k:Int)+1)
   omega
 ·rw[show Int.toNat (i11+1)=0 by omega,Nat.pow_zero,Nat.mul_one] at m
  have j:x/y=q:=by rw[z,Nat.mul_add_div (by omega),Nat.div_eq_of_lt m,Nat.add_zero]
  have u:x%y=r:=by rw[z,Nat.mul_add_mod,Nat.mod_eq_of_lt m]
  rw[j,u];exact⟨g.ext J,e.ext J⟩
theorem Ba8 (h1:Aa6 257 W s x)(c:Aa6 257 W t y)(d:nl x<=1073741824)(e:nl y<=1073741824)(f:y≠0)(g: ∀(q:Sl) (r:Sl) (W':PW),Ext W W'->(Aa6 257 W' q (x/y)/\Aa6 257 W' r (x%y))->K (.tuple #[Sl.v q,Sl.v r]) W'):
  Aa1 Tryz.prog W0 M 213 [s.v,t.v] W K:=
 Mi4 (λ _ b=>Ep1 (h1.ext b) (c.ext b) d e f) fun | _,W',b,⟨q,r,rfl,h⟩=>g q r W' b h
def rgI (x y:Nat) (W0:PW) (l:List PL) (W:PW):Prop:=
 match l with
 | [.val (.slice A n c),.val (.slice d e f)]=>Ext W0 W/\∃a b,Aa6 257 W ⟨A,n,c⟩ a/\Aa6 257 W ⟨d,e,f⟩ b/\Nat.gcd a b=Nat.gcd x y/\nl a<=1073741824/\nl b<=1073741824
 | _=>False
noncomputable def rgM (l:List PL) (W:PW):Nat:=
 match l with
 | [_,.val (.slice b c d)]=>slN W 257 ⟨b,c,d⟩
 | _=>0
theorem Ee0 (h1:Aa6 257 W0 s x)(n:Aa6 257 W0 t y)(o:nl x<=1073741824)(p:nl y<=1073741824):
  Aa0 Tryz.prog 201 [s.v,t.v] W0 M λ v W'=>∃(s':Sl),v=Sl.v s'/\Aa6 257 W' s' (Nat.gcd x y):=by
 apply Dc2;refine⟨rgI x y W0,rgM,⟨Ext.refl _,x,y,h1,n,rfl,o,p⟩,?_⟩;rintro s3 s4 f ⟨q,a,b,d,c,g,r,h⟩;have d:Aa6 257 f s3 a:=d;have c:Aa6 257 f s4 b:=c;have n4:=c.n;refine⟨λ B=>?_,λ C D u=>⟨s3,rfl,?_⟩⟩
 ·have w:b≠0:=λ e=>by subst e;rw[Ag9] at n4;omega
  refine Ba8 d c r h w λ z i A j ⟨E,m⟩=>⟨z,i,rfl,⟨q.trans j,b,a%b,c.ext j,m,?_,h,?_⟩,?_⟩
  ·rw[Bo4];exact g
  ·exact Nat.le_trans (Ad1 (Nat.le_of_lt (Nat.mod_lt _ (by omega)))) h
  ·show slN A _ i<slN f _ s4
   rw[Bl5 m,Bl5 c];exact Nat.mod_lt _ (by omega)
 ·have:b=0:=Ad0.1 (by omega)
  subst this;rw[Nat.gcd_zero_right] at g;rw[<-g];exact d.ext u
theorem Bv8 (h1:Aa6 257 W s x)(c:Aa6 257 W t y)(d:nl x<=1073741824)(e:nl y<=1073741824)(f: ∀(s':Sl) (W':PW),Ext W W'->(Aa6 257 W' s' (Nat.gcd x y))->K (Sl.v s') W'):
  Aa1 Tryz.prog W0 M 201 [s.v,t.v] W K:=
 Mi4 (λ _ b=>Ee0 (h1.ext b) (c.ext b) d e) fun | _,W',b,⟨s',rfl,h⟩=>f s' W' b h
end Go.Proofs.YtkgeopnakkcdoaaGreatDoor
