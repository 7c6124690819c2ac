/- nat: Div, Gcd. -/
import Derived.Test.YtahohahjnhfedaaGreatDoorW2
import Derived.Test.YtahohahjnhfedaaGreatDoorLib1
import Derived.Test.YtahohahjnhfedaaGreatDoorR2
import Derived.Test.YtahohahjnhfedaaGreatDoorR3
import Derived.Test.YtahohahjnhfedaaGreatDoorLib2
set_option linter.unusedVariables false
set_option linter.unusedSimpArgs false
set_option maxRecDepth 100000
namespace Go.Proofs.YtahohahjnhfedaaGreatDoor
open Go Go.SX
theorem Ep6 {y:Nat} (h:y≠0):B^(nl y-1)≤y:=by
 obtain⟨hk,h1,h2,h3⟩:=Bt4 h
 have:=Nat.mul_le_mul_left (B^(nl y-1)) (Nat.pos_of_ne_zero h1)
 omega
theorem Ew3 {y:Nat} (h:y≠0) (hk:nl y-1<(dg y).length):nl (y*2^(32-Aj9 (dg y)[nl y-1]))=nl y:=by
 obtain⟨hk',h1,h2,h3⟩:=Bt4 h
 obtain⟨t,ht⟩: ∃t,(dg y)[nl y-1]=t:=⟨_,rfl⟩
 rw[ht] at h1 h2 h3⊢
 have hn:nl y≠0:=fun e=>h (Ad0.1 e)
 obtain⟨n,e1,e2,e3⟩:=Ax2 h1
 have hb:n+1≤32:=by rw[←e1];exact Bb9 h2
 have hlo:=Ae6 (Ad8 y) (nl y-1)
 apply Nat.le_antisymm
 ·apply Bc6
  rw[e1]
  have hy:y<B^(nl y-1)*(t+1):=by rw[Nat.mul_add,Nat.mul_one];omega
  have h4:y*2^(32-(n+1))<B^(nl y-1)*(t+1)*2^(32-(n+1)):=Nat.mul_lt_mul_of_pos_right hy (Nat.two_pow_pos _)
  have h5:(t+1)*2^(32-(n+1))≤B:=by
   have:=Nat.mul_le_mul_right (2^(32-(n+1))) (show t+1≤2^(n+1) from e3)
   rw[←Nat.pow_add,show n+1+(32-(n+1))=32 by omega] at this
   exact this
  have h6:=Nat.mul_le_mul_left (B^(nl y-1)) h5
  rw[←Nat.mul_assoc,←Nat.pow_succ,show(nl y-1).succ=nl y by omega] at h6
  omega
 ·exact Ad1 (Nat.le_mul_of_pos_right _ (Nat.two_pow_pos _))
theorem Ej5 {W:PW} {t:TypeId} {sz:Nat} {s:Sl} {xs:List (List Value)} (h:Go.SX.Own W t sz s xs) {a:Addr} (ha:s.A=some a):s.v.ownBlock=some a.block:=by
 simp[Sl.v,Value.ownBlock,ha]
theorem Cd2 {l:List Nat} {k:Nat} (h:k≤l.length) (hv:val l<B^k):val (l.take k)=val l:=by
 have e:=Am8 l h
 have h0:val (l.drop k)=0:=by
  apply Nat.eq_zero_of_not_pos
  intro hp
  have:=Nat.mul_le_mul_left (B^k) hp
  omega
 rw[h0,Nat.mul_zero,Nat.add_zero] at e
 exact e.symm
theorem Cu1 {l:List Nat} (hd:Dig l) {k:Nat} (h:k≤l.length):val (l.drop k)=val l/B^k:=by
 have e:=Am8 l h
 rw[e,Nat.add_mul_div_left _ _ (Nat.pow_pos Ad3),Nat.div_eq_of_lt (Ae6 hd k),Nat.zero_add]
theorem El7 {W0:PW} {M:Nat→Prop} {s t:Sl} {x y:Nat} (h1:Aa6 141 W0 s x) (h2:Aa6 141 W0 t y) (hx:nl x≤137438953472) (hy:nl y≤137438953472):
  Aa0 Tryz.prog 72 [.agg #[s.v],.agg #[t.v]] W0 M fun v W'=>∃(s1:Sl),∃(s2:Sl),v = .tuple #[.agg #[Sl.v s1],.agg #[Sl.v s2],.bool (decide (y≠0))]∧Aa6 141 W' s1 (x/y)∧(y≠0→Aa6 141 W' s2 (x%y)):=by
 apply Dm5
 have n1:=h1.n
 have n2:=h2.n
 have hlx:(dg x).length=nl x:=rfl
 have hly:(dg y).length=nl y:=rfl
 refine⟨fun h0 W1 hE1=>?_,fun h0=>?_⟩
 ·have:y=0:=Ad0.1 (by omega)
  subst this
  exact⟨⟨none,0,0⟩,⟨none,0,0⟩,by simp,by rw[Nat.div_zero];exact Af6 W1,fun h=>absurd rfl h⟩
 have hy0:y≠0:=fun e=>h0 (by rw[n2,e,Ag9];rfl)
 rw[decide_eq_true hy0]
 refine Ap6 h1 h2 (by omega) (by omega) fun W3 hE3 _=>⟨_,rfl,fun hlt W5 hE5=>?_,fun hge=>?_⟩
 ·have hxy:x<y:=by
   apply Nat.lt_of_not_le
   intro h
   rcases Nat.lt_or_eq_of_le h with h | rfl
   ·rw[Aj4 h] at hlt;omega
   ·rw[Ap9] at hlt;omega
  refine⟨⟨none,0,0⟩,s,rfl,by rw[Nat.div_eq_of_lt hxy];exact Af6 W5,fun _=>?_⟩
  rw[Nat.mod_eq_of_lt hxy]
  exact(h1.ext hE3).ext hE5
 have hle:y≤x:=by
  apply Nat.le_of_not_lt
  intro h
  rw[Al0 h] at hge;omega
 have hnl:=Ad1 hle
 have hx0:x≠0:=by omega
 have h1':=h1.ext hE3
 have h2':=h2.ext hE3
 refine⟨fun hone=>?_,fun hmore=>?_⟩
 ·-- one digit
  have hy1:nl y=1:=by omega
  obtain⟨hk,ht1,ht2,ht3⟩:=Bt4 hy0
  simp only[hy1,Nat.sub_self,List.take_zero,val,Nat.pow_zero,Nat.one_mul,Nat.zero_add] at ht1 ht2 ht3
  refine Aa2 (fun W' hE=>Ds4 (M:=fun _=>False) (h1'.ext hE) (by omega)) fun W' v W7 hE' hE7' hP=>?_
  obtain⟨s8,rfl,hO8,hf8⟩:=hP
  have hE7:=hE'.trans hE7'
  have h27:=h2'.ext hE7
  refine⟨s8,rfl,Ad4.inB h27 (by omega) (by omega),_,Ad4.at h27 (i:=0) (by omega),?_⟩
  rw[←ht3]
  have hne:dg x≠[]:=by
   intro e
   have:nl x=0:=by rw[nl,e];rfl
   exact hx0 (Ad0.1 this)
  intro W9 hE9
  obtain⟨g,cs,hm,hgb⟩:=(hO8.ext hE9).mut hne
  refine⟨fun b=>b=g,_,Bw9 hm (Ad8 x) (Nat.pos_of_ne_zero hy0) (by rw[ht3];exact ht2) (by omega),fun g' hg'=>?_,fun v W11 hE11 hP=>?_⟩
  ·subst hg'
   exact⟨hm.S,.inr (Nat.le_trans (Nat.le_trans hE3.size hE'.size) (hf8 _ hgb))⟩
  obtain⟨ws,rfl,hwl,hdw,hwv,hput⟩:=hP
  have hD:=(hm.put hput hwl).row
  rw[Ac5] at hwv
  refine⟨_,rfl,Ap7 hD hdw (by omega) fun s15 W14 hE14 h15=>⟨s15,rfl,?_⟩⟩
  have hmodB:x%y<B:=Nat.lt_trans (Nat.mod_lt _ (Nat.pos_of_ne_zero hy0)) (by rw[ht3];exact ht2)
  rw[Ac5,Ab1 (by unfold B at hmodB;omega)]
  refine As2 (by unfold B at *;omega) fun s18 W17 hE17 h18=>⟨s18,rfl,fun W19 hE19=>⟨s15,s18,rfl,?_,fun _=>h18.ext hE19⟩⟩
  rw[hwv] at h15
  exact(h15.ext hE17).ext hE19
 ·-- long division
  have hy2:2≤nl y:=by
   have:nl y≠0:=fun e=>hy0 (Ad0.1 e)
   omega
  obtain⟨hk,ht1,ht2,ht3⟩:=Bt4 hy0
  have hlen:=Ew3 hy0 hk
  obtain⟨tp,htp⟩: ∃tp,(dg y)[nl y-1]=tp:=⟨_,rfl⟩
  have ex:(t.n:Int)-1=((nl y-1:Nat):Int):=by omega
  rw[ex,show Int.toNat ((nl y-1:Nat):Int)=nl y-1 from rfl]
  refine⟨by unfold I64;omega,Ad4.inB h2' (by omega) (by omega),(tp:Nat),by rw[←htp];exact Ad4.at h2' hk,?_⟩
  rw[htp] at ht1 ht2 ht3 hlen
  obtain⟨sh,hsh⟩: ∃sh,32-Aj9 tp=sh:=⟨_,rfl⟩
  have hsh32:sh<32:=by
   have:Aj9 tp≠0:=fun e=>ht1 (Ag3.1 e)
   omega
  rw[hsh] at hlen
  have hpow:2^sh≤B:=by
   have:=Nat.pow_le_pow_right (by decide:0<2) (show sh≤32 by omega)
   exact this
  refine Dg0 ht2 fun W22 hE22 _=>?_
  rw[hsh]
  refine⟨_,rfl,by unfold I64;omega,Fc8 ?_ 1⟩
  have h1a:=h1'.ext hE22
  have h2a:=h2'.ext hE22
  refine Bt7 h1a (by omega) (by omega) fun s26 W25 hE25 ⟨hf26,hO26⟩=>⟨s26,rfl,?_⟩
  obtain⟨X,hX⟩: ∃X,x*2^sh=X:=⟨_,rfl⟩
  obtain⟨Y,hY⟩: ∃Y,y*2^sh=Y:=⟨_,rfl⟩
  rw[hX] at hO26
  rw[hY] at hlen
  have hXB:X<B^(nl x+1):=by
   rw[←hX,Nat.pow_succ]
   exact Nat.mul_lt_mul_of_lt_of_le (Bb4 x) hpow Ad3
  have hXn:nl X≤nl x+1:=Bc6 hXB
  have hXn2:nl x≤nl X:=by rw[←hX];exact Ad1 (Nat.le_mul_of_pos_right _ (Nat.two_pow_pos _))
  intro W27 hE27
  refine⟨cel (dg X),hO26.ext hE27,fun g hg=>.inr (Nat.le_trans (Nat.le_trans hE3.size hE22.size) (hf26 g hg)),?_,fun s27 W28 hE28 hO27 hb27=>?_⟩
  ·have:(dg X).length=nl X:=rfl
   rw[Aa5]
   simp only[List.length_cons,List.length_nil]
   omega
  have hO27:Go.SX.Own W28 141 1 s27 (cel (dg X ++ [0,0])):=by
   have e:cel (dg X) ++ [[Value.int .u32 0],[Value.int .u32 0]]=cel (dg X ++ [0,0]):=by rw[←Bh9];rfl
   rw[e] at hO27;exact hO27
  have hn27:=hO27.row.1
  have hc27:=hO27.row.2.1
  have hXl:(dg X).length=nl X:=rfl
  rw[Aa5,List.length_append,hXl] at hn27
  simp only[List.length_cons,List.length_nil] at hn27
  have h2W28:Aa6 141 W28 t y:=by
   have hb:Aa6 141 W27 t y:=(h2a.ext hE25).ext hE27
   exact Row.other hb hE28 fun a ha hg=>by
    have hlt:a.block<W22.w.heap.size:=by
     obtain⟨_,_,_,_,h4⟩:=h2a
     rcases h4 with h4 | ⟨b,o,cs,fz,hA,_,hh,_⟩
     ·simp[cel] at h4
      have:nl y=0:=by rw[nl,h4];rfl
      omega
     ·rw[hA] at ha;cases ha
      exact(Array.getElem?_eq_some_iff.1 hh).1
    have:=hf26 _ hg
    omega
  rw[show(s.n:Int)+1=((nl x+1:Nat):Int) by omega,show Int.toNat ((nl x+1:Nat):Int)=nl x+1 from rfl,show Int.toNat 0=0 from rfl]
  have esz:TyI.size Ld1=1:=rfl
  dsimp only
  rw[esz,Sl.Ar0]
  refine⟨⟨by omega,by omega,by omega⟩,?_⟩
  refine Bt7 h2W28 (by omega) (by omega) fun s31 W30 hE30 ⟨hf31,hO31⟩=>⟨s31,rfl,?_⟩
  rw[hY] at hO31
  obtain⟨us,hus⟩: ∃us,(dg X ++ [0,0]).take (nl x+1)=us:=⟨_,rfl⟩
  have husl:us.length=nl x+1:=by rw[←hus];simp;omega
  have hO0:Go.SX.Own W28 141 1 ⟨s27.A,nl x+1,s27.c⟩ (cel us):=by
   have:=hO27.take (k:=nl x+1) (by rw[Aa5,List.length_append,hXl];simp;omega)
   rw[Bo2,hus] at this
   exact this
  have hdus:Dig us:=by
   rw[←hus]
   exact Dig.take ((Ad8 X).append (Dig.cons Ad3 (Dig.cons Ad3 Dig.nil))) _
  have hvus:val us=X:=by
   rw[←hus]
   have e:val (dg X ++ [0,0])=X:=by rw[Ag8,Ac5];simp[val]
   rw[Cd2 (by simp;omega) (by rw[e];exact hXB),e]
  have hYl:(dg Y).length=nl y:=hlen
  have hVU:val (us.drop (us.length-(dg Y).length))<val (dg Y):=by
   rw[Cu1 hdus (by omega),hvus,Ac5,husl,hYl,Nat.div_lt_iff_lt_mul (Nat.pow_pos Ad3)]
   have h3:X<B^nl x*2^sh:=by rw[←hX];exact Nat.mul_lt_mul_of_pos_right (Bb4 x) (Nat.two_pow_pos _)
   have h4:B^nl x=B^(nl y-1)*B^(nl x+1-nl y):=by rw[←Nat.pow_add];congr 1;omega
   have h5:B^(nl y-1)*2^sh≤Y:=by rw[←hY];exact Nat.mul_le_mul_right _ (Ep6 hy0)
   have h6:=Nat.mul_le_mul_right (B^(nl x+1-nl y)) h5
   rw[h4] at h3
   have e7:B^(nl y-1)*B^(nl x+1-nl y)*2^sh=B^(nl y-1)*2^sh*B^(nl x+1-nl y):=by
    rw[Nat.mul_assoc,Nat.mul_comm (B^(nl x+1-nl y)),←Nat.mul_assoc]
   omega
  have htop: ∀h:(dg Y).length-1<(dg Y).length,(dg Y)[(dg Y).length-1]≠0:=fun h=>by
   have hY0:Y≠0:=by
    rw[←hY]
    exact Nat.mul_ne_zero hy0 (by have:=Nat.two_pow_pos sh;omega)
   exact(Bt4 hY0).2.1
  intro W31 hE31
  have hne:us≠[]:=fun e=>by rw[e] at husl;simp at husl
  have hOu:=(hO0.ext hE30).ext hE31
  obtain⟨g,cs,hm,hgb⟩:=hOu.mut hne
  obtain⟨_,_,hm28,hgb28⟩:=hO0.mut hne
  have hgg:g<W28.w.heap.size:=by
   have e:=hm28.A
   rw[hm.A] at e
   cases e
   exact hm28.lt
  have hmay:may W0 M g:=by
   rcases hb27 g (Cj9 hgb) with h | h
   ·exact .inr (Nat.le_trans (Nat.le_trans hE3.size hE22.size) (hf26 g h))
   ·exact .inr (Nat.le_trans (Nat.le_trans (Nat.le_trans hE3.size hE22.size) (Nat.le_trans hE25.size hE27.size)) h)
  have hvne: ∀a:Addr,s31.A=some a→a.block≠g:=fun a ha e=>by
   have:=hf31 _ (Ej5 hO31 ha)
   omega
  have hOv:=hO31.ext hE31
  refine⟨fun b=>b=g,_,Ea3 hm (fun _ _=>trivial) hOv.row hvne (by omega) (by omega) hdus (Ad8 Y) htop hVU (by omega),fun g' hg'=>by subst hg';exact⟨hm.S,hmay⟩,fun v W33 hE33 hP=>?_⟩
  obtain⟨s34,ws,zs,rfl,hO34,hf34,hzl,hdz,hwl,hdw,hput,hval,hlt⟩:=hP
  rw[Ac5] at hval hlt
  rw[hvus] at hval
  have hYp:0<Y:=by omega
  have hq:val zs=x/y:=by
   have h3:X/Y=val zs:=by rw[hval,Nat.add_mul_div_left _ _ hYp,Nat.div_eq_of_lt hlt,Nat.zero_add]
   rw[←h3,←hX,←hY,Nat.mul_div_mul_right _ _ (Nat.two_pow_pos sh)]
  have hr:val ws=x%y*2^sh:=by
   have h3:X%Y=val ws:=by rw[hval,Nat.add_mul_mod_self_left,Nat.mod_eq_of_lt hlt]
   rw[←h3,←hX,←hY,Nat.mul_mod_mul_right]
  have hD:=(hm.put hput hwl).row
  refine⟨s34,rfl,Ap7 hO34.row hdz (by omega) fun s37 W36 hE36 h37=>⟨s37,rfl,?_⟩⟩
  refine Ap7 (hD.ext hE36) hdw (by omega) fun s40 W39 hE39 h40=>⟨s40,rfl,?_⟩
  have hwn:nl (val ws)≤nl x+1:=Bc6 (by
   have:=Ax5 hdw
   rwa [hwl,husl] at this)
  refine Br2 h40 (by omega) (by omega) fun s43 W42 hE42 h43=>⟨s43,rfl,fun W44 hE44=>⟨s37,s43,rfl,?_,fun _=>?_⟩⟩
  ·rw[hq] at h37
   exact((h37.ext hE39).ext hE42).ext hE44
  ·rw[hr,Nat.mul_div_cancel _ (Nat.two_pow_pos sh)] at h43
   exact h43.ext hE44
theorem At8 {W0 W:PW} {M:Nat→Prop} {s t:Sl} {x y:Nat} {K:Value→PW→Prop} (h1:Aa6 141 W s x) (h2:Aa6 141 W t y) (hx:nl x≤137438953472) (hy:nl y≤137438953472) (kont: ∀(s1:Sl) (s2:Sl) (W':PW),Ext W W'→(Aa6 141 W' s1 (x/y)∧(y≠0→Aa6 141 W' s2 (x%y)))→K (.tuple #[.agg #[Sl.v s1],.agg #[Sl.v s2],.bool (decide (y≠0))]) W'):
  Aa1 Tryz.prog W0 M 72 [.agg #[s.v],.agg #[t.v]] W K:=
 Aa2 (fun W' hE=>El7 (M:=fun _=>False) (h1.ext hE) (h2.ext hE) hx hy) (fun W' v W'' hE hE' hP=>by
  obtain⟨s1,s2,rfl,h⟩:=hP
  exact kont s1 s2 W'' (hE.trans hE') h)
end Go.Proofs.YtahohahjnhfedaaGreatDoor
/- nat: Gcd. -/
namespace Go.Proofs.YtahohahjnhfedaaGreatDoor
open Go Go.SX
theorem Bo4 (a b:Nat):Nat.gcd b (a%b)=Nat.gcd a b:=by
 rw[Nat.gcd_comm b,←Nat.gcd_rec,Nat.gcd_comm]
def Fv9 (x y k:Nat) (W0:PW) (l:List PL) (W:PW):Prop:=
 match l with
 | [.cells [.slice A n c],.cells [.slice A' n' c']]=>Ext W0 W∧∃a b,Aa6 141 W ⟨A,n,c⟩ a∧Aa6 141 W ⟨A',n',c'⟩ b∧Nat.gcd a b=Nat.gcd x y∧nl a≤k∧nl b≤k
 | _=>False
noncomputable def slN (W:PW) (t:TypeId) (s:Sl):Nat:=open Classical in if h: ∃b,Aa6 t W s b then Classical.choose h else 0
theorem Dt3 {W:PW} {t:TypeId} {sz:Nat} {s:Sl} {xs ys:List (List Value)} (h:Row W t sz s xs) (k:Row W t sz s ys):xs=ys:=by
 have hl:xs.length=ys.length:=h.1.symm.trans k.1
 apply List.ext_getElem hl
 intro i h1 h2
 have e1:=(h.2.2.2.1 _ (List.getElem_mem h1)).1
 have e2:=(k.2.2.2.1 _ (List.getElem_mem h2)).1
 have a1:Aa7 W s sz i 0 xs[i]:=Row.elem h (List.getElem?_eq_getElem h1) fun j v hj=>by simpa using hj
 have a2:Aa7 W s sz i 0 ys[i]:=Row.elem k (List.getElem?_eq_getElem h2) fun j v hj=>by simpa using hj
 exact Aa7.inj a1 a2 (e1.trans e2.symm)
theorem El8: ∀{l r:List Nat} (_:cel l=cel r),l=r
 | [],[],_=>rfl
 | [],_ :: _,h=>by simp[cel] at h
 | _ :: _,[],h=>by simp[cel] at h
 | a :: l,b :: r,h=>by
  simp only[cel,List.map_cons,List.cons.injEq,Value.int.injEq,true_and,and_true] at h
  have:=El8 (l:=l) (r:=r) h.2
  rw[this]
  congr 1
  omega
theorem Bl5 {W:PW} {t:TypeId} {s:Sl} {b:Nat} (h:Aa6 t W s b):slN W t s=b:=by
 have hex: ∃b,Aa6 t W s b:=⟨b,h⟩
 unfold slN
 rw[dif_pos hex]
 have:=Classical.choose_spec hex
 have e:=El8 (Dt3 this h)
 rw[←Ac5 (Classical.choose hex),e,Ac5]
noncomputable def Fu8 (l:List PL) (W:PW):Nat:=
 match l with
 | [_,.cells [.slice A' n' c']]=>slN W 141 ⟨A',n',c'⟩
 | _=>0
def Fs4 (g:Nat) (W21:PW) (l:List PL) (W:PW):Prop:=
 match l with
 | [.val (.int .u64 a),.val (.int .u64 b)]=>Ext W21 W∧∃a' b':Nat,a=(a':Int)∧b=(b':Int)∧a'<B*B∧b'<B*B∧Nat.gcd a' b'=g
 | _=>False
def Fp9 (l:List PL) (W:PW):Nat:=
 match l with
 | [_,.val (.int .u64 b)]=>b.toNat
 | _=>0
theorem Ek8 {W0:PW} {M:Nat→Prop} {s t:Sl} {x y:Nat} (h1:Aa6 141 W0 s x) (h2:Aa6 141 W0 t y) (hx:nl x≤137438953472) (hy:nl y≤137438953472):
  Aa0 Tryz.prog 60 [.agg #[s.v],.agg #[t.v]] W0 M fun v W'=>∃(s':Sl),v = .agg #[Sl.v s']∧Aa6 141 W' s' (Nat.gcd x y):=by
 apply Dg3
 refine⟨Fv9 x y 137438953472 W0,Fu8,⟨Ext.refl _,x,y,h1,h2,rfl,hx,hy⟩,?_⟩
 rintro s3 s4 W5 ⟨hE5,a,b,ha,hb,hg,hla,hlb⟩
 have ha:Aa6 141 W5 s3 a:=ha
 have hb:Aa6 141 W5 s4 b:=hb
 have nb:=hb.n
 refine⟨fun hlt=>?_,fun hge=>⟨fun h0 W11 hE11=>?_,fun h0=>?_⟩⟩
 ·have hb0:b≠0:=fun e=>by rw[e,Ag9] at nb;omega
  have hmod:=Nat.mod_lt a (Nat.pos_of_ne_zero hb0)
  refine At8 ha hb hla hlb fun s8 s9 W7 hE7 ⟨h8,h9⟩=>⟨_,_,_,rfl,⟨hE5.trans hE7,b,a%b,hb.ext hE7,h9 hb0,by rw[Bo4];exact hg,hlb,Nat.le_trans (Ad1 (Nat.le_of_lt hmod)) hlb⟩,?_⟩
  show slN W7 141 s9<slN W5 141 s4
  rw[Bl5 (h9 hb0),Bl5 hb]
  exact hmod
 ·have hb0:b=0:=Ad0.1 (by omega)
  rw[hb0,Nat.gcd_zero_right] at hg
  exact⟨s3,rfl,by rw[←hg];exact ha.ext hE11⟩
 ·have hb0:b≠0:=fun e=>h0 (by rw[nb,e,Ag9];rfl)
  have hmod:=Nat.mod_lt a (Nat.pos_of_ne_zero hb0)
  have hbB:b<B*B:=by
   have h3:=Bb4 b
   have h4:=Nat.pow_le_pow_right Ad3 (show nl b≤2 by omega)
   rw[Nat.pow_succ,Nat.pow_one] at h4
   omega
  refine At8 ha hb hla hlb fun s14 s15 W13 hE13 ⟨h14,h15⟩=>⟨_,_,_,rfl,?_⟩
  have hr:=h15 hb0
  refine Bw7 (hb.ext hE13) (by omega) fun W18 hE18 _=>⟨_,rfl,?_⟩
  refine Bw7 (hr.ext hE18) (Nat.le_trans (Ad1 (Nat.le_of_lt hmod)) (by omega)) fun W21 hE21 _=>⟨_,rfl,?_⟩
  rw[Nat.mod_eq_of_lt hbB,Nat.mod_eq_of_lt (a:=a%b) (by omega)]
  refine⟨Fs4 (Nat.gcd x y) W21,Fp9,⟨Ext.refl _,b,a%b,rfl,rfl,hbB,by omega,by rw[Bo4];exact hg⟩,?_⟩
  rintro i25 i26 W27 ⟨hE27,p,q,rfl,rfl,hp,hq,hpq⟩
  refine⟨fun hne=>?_,fun hz=>?_⟩
  ·have hq0:q≠0:=fun e=>hne (by rw[e];rfl)
   have hm:=Nat.mod_lt p (Nat.pos_of_ne_zero hq0)
   have e:Int.tmod (p:Int) (q:Int)=((p%q:Nat):Int):=by rw[Int.tmod_eq_emod_of_nonneg (by omega)];rfl
   rw[e]
   exact⟨hne,⟨hE27,q,p%q,rfl,rfl,hq,by omega,by rw[Bo4];exact hpq⟩,by show Int.toNat ((p%q:Nat):Int)<Int.toNat (q:Int);omega⟩
  ·have hq0:q=0:=by
    rcases Nat.eq_zero_or_pos q with h | h
    ·exact h
    ·exact absurd (by omega) hz
   rw[hq0,Nat.gcd_zero_right] at hpq
   refine As2 hp fun s30 W29 hE29 h30=>⟨s30,rfl,fun W31 hE31=>⟨s30,rfl,?_⟩⟩
   rw[←hpq]
   exact h30.ext hE31
theorem Bu2 {W0 W:PW} {M:Nat→Prop} {s t:Sl} {x y:Nat} {K:Value→PW→Prop} (h1:Aa6 141 W s x) (h2:Aa6 141 W t y) (hx:nl x≤137438953472) (hy:nl y≤137438953472) (kont: ∀(s':Sl) (W':PW),Ext W W'→(Aa6 141 W' s' (Nat.gcd x y))→K (.agg #[Sl.v s']) W'):
  Aa1 Tryz.prog W0 M 60 [.agg #[s.v],.agg #[t.v]] W K:=
 Aa2 (fun W' hE=>Ek8 (M:=fun _=>False) (h1.ext hE) (h2.ext hE) hx hy) (fun W' v W'' hE hE' hP=>by
  obtain⟨s',rfl,h⟩:=hP
  exact kont s' W'' (hE.trans hE') h)
end Go.Proofs.YtahohahjnhfedaaGreatDoor
/- whole. -/
namespace Go.Proofs.YtahohahjnhfedaaGreatDoor
open Go Go.SX
theorem Cu0 {W0:PW} {M:Nat→Prop} {b:Bool} {s:Sl} {x:Nat} (h:Aa6 141 W0 s x) (hx:nl x≤274877906944):
  Aa0 Tryz.prog 73 [.bool b,.agg #[s.v]] W0 M fun v W'=>∃(s':Sl),∃(b':Bool),v = .agg #[Sl.v s',.bool b']∧Ab5 141 W' s' b' (if b=true then -(x:Int) else(x:Int)):=by
 apply Cc1
 refine⟨fun hb=>?_,fun hb W5 hE5=>⟨s,false,rfl,?_,?_⟩⟩
 ·refine Ac9 h hx fun W2 hE2 _=>⟨_,rfl,fun W4 hE4=>⟨s,_,rfl,?_,?_⟩⟩
  ·rw[if_pos hb,Int.natAbs_neg,Int.natAbs_natCast]
   exact(h.ext hE2).ext hE4
  ·rw[if_pos hb]
   apply decide_eq_decide.2
   have:=Ag3 (x:=x)
   omega
 ·rw[if_neg (by rw[hb];decide),Int.natAbs_natCast]
  exact h.ext hE5
 ·rw[if_neg (by rw[hb];decide)]
  symm
  apply decide_eq_false
  omega
theorem Ad6 {W0 W:PW} {M:Nat→Prop} {b:Bool} {s:Sl} {x:Nat} {K:Value→PW→Prop} (h:Aa6 141 W s x) (hx:nl x≤274877906944) (kont: ∀(s':Sl) (b':Bool) (W':PW),Ext W W'→(Ab5 141 W' s' b' (if b=true then -(x:Int) else(x:Int)))→K (.agg #[Sl.v s',.bool b']) W'):
  Aa1 Tryz.prog W0 M 73 [.bool b,.agg #[s.v]] W K:=
 Aa2 (fun W' hE=>Cu0 (M:=fun _=>False) (h.ext hE) hx) (fun W' v W'' hE hE' hP=>by
  obtain⟨s',b',rfl,h⟩:=hP
  exact kont s' b' W'' (hE.trans hE') h)
theorem Dw3 {W0:PW} {M:Nat→Prop} {z:Int} (hz:I64 z):
  Aa0 Tryz.prog 64 [.int .i64 z] W0 M fun v W'=>∃(s':Sl),∃(b':Bool),v = .agg #[Sl.v s',.bool b']∧Ab5 141 W' s' b' z:=by
 apply Cq3
 unfold I64 at hz
 refine⟨fun hneg=>?_,fun hpos=>?_⟩
 ·have e:IntKind.wrap .u64 (0-IntKind.wrap .u64 z)=((z.natAbs:Nat):Int):=by
   rw[IntKind.wrap_u64,IntKind.wrap_u64];omega
  rw[e]
  have hB:z.natAbs<B*B:=by unfold B;omega
  refine As2 hB fun s3 W2 hE2 h3=>⟨s3,rfl,?_⟩
  have hn:nl z.natAbs≤2:=Bc6 (by rw[Nat.pow_succ,Nat.pow_one];exact hB)
  refine Ad6 h3 (by omega) fun s6 b7 W5 hE5 h6=>⟨s6,b7,rfl,fun W8 hE8=>⟨s6,b7,rfl,?_⟩⟩
  rw[if_pos rfl,show -((z.natAbs:Nat):Int)=z by omega] at h6
  exact h6.ext hE8
 ·have e:IntKind.wrap .u64 z=((z.natAbs:Nat):Int):=by
   rw[IntKind.wrap_u64];omega
  rw[e]
  have hB:z.natAbs<B*B:=by unfold B;omega
  refine As2 hB fun s3 W2 hE2 h3=>⟨s3,rfl,?_⟩
  have hn:nl z.natAbs≤2:=Bc6 (by rw[Nat.pow_succ,Nat.pow_one];exact hB)
  refine Ad6 h3 (by omega) fun s6 b7 W5 hE5 h6=>⟨s6,b7,rfl,fun W8 hE8=>⟨s6,b7,rfl,?_⟩⟩
  rw[if_neg (by decide),show((z.natAbs:Nat):Int)=z by omega] at h6
  exact h6.ext hE8
theorem Bk1 {W0 W:PW} {M:Nat→Prop} {z:Int} {K:Value→PW→Prop} (hz:I64 z) (kont: ∀(s':Sl) (b':Bool) (W':PW),Ext W W'→(Ab5 141 W' s' b' z)→K (.agg #[Sl.v s',.bool b']) W'):
  Aa1 Tryz.prog W0 M 64 [.int .i64 z] W K:=
 Aa2 (fun W' hE=>Dw3 (M:=fun _=>False) hz) (fun W' v W'' hE hE' hP=>by
  obtain⟨s',b',rfl,h⟩:=hP
  exact kont s' b' W'' (hE.trans hE') h)
theorem Cu9 {W0:PW} {M:Nat→Prop} {s:Sl} {b:Bool} {z:Int} (h:Ab5 141 W0 s b z) (hz:nl z.natAbs≤274877906944):
  Aa0 Tryz.prog 29 [.agg #[s.v,.bool b]] W0 M fun v W'=>v = .int .i64 (By8 z)∧True:=by
 apply Bc9
 refine⟨fun hb W1 hE1=>⟨?_,trivial⟩,fun hb=>?_⟩
 ·have:z<0:=by have:=h.2;rw[hb] at this;exact of_decide_eq_true this.symm
  simp[By8,this]
 ·have hnn:¬z<0:=by have:=h.2;rw[hb] at this;exact of_decide_eq_false this.symm
  refine Ac9 h.1 hz fun W3 hE3 _=>⟨_,rfl,fun h0 W5 hE5=>⟨?_,trivial⟩,fun h0 W6 hE6=>⟨?_,trivial⟩⟩
  ·have:=(Ag3 (x:=z.natAbs)).1 (by omega)
   have hz0:z=0:=by omega
   rw[hz0];rfl
  ·have hz0:z≠0:=fun e=>h0 (by rw[e];rfl)
   simp[By8,hnn,hz0]
theorem Ai5 {W0 W:PW} {M:Nat→Prop} {s:Sl} {b:Bool} {z:Int} {K:Value→PW→Prop} (h:Ab5 141 W s b z) (hz:nl z.natAbs≤274877906944) (kont: ∀(W':PW),Ext W W'→(True)→K (.int .i64 (By8 z)) W'):
  Aa1 Tryz.prog W0 M 29 [.agg #[s.v,.bool b]] W K:=
 Aa2 (fun W' hE=>Cu9 (M:=fun _=>False) (h.ext hE) hz) (fun W' v W'' hE hE' hP=>by
  obtain⟨rfl,h⟩:=hP
  exact kont W'' (hE.trans hE') h)
theorem Df2 {W0:PW} {M:Nat→Prop} {s:Sl} {b:Bool} {z:Int} (h:Ab5 141 W0 s b z):
  Aa0 Tryz.prog 61 [.agg #[s.v,.bool b]] W0 M fun v W'=>∃(s':Sl),v = .agg #[Sl.v s']∧Aa6 141 W' s' z.natAbs:=by
 apply Bg7
 exact fun W1 hE1=>⟨s,rfl,h.1.ext hE1⟩
theorem Ag5 {W0 W:PW} {M:Nat→Prop} {s:Sl} {b:Bool} {z:Int} {K:Value→PW→Prop} (h:Ab5 141 W s b z) (kont: ∀(s':Sl) (W':PW),Ext W W'→(Aa6 141 W' s' z.natAbs)→K (.agg #[Sl.v s']) W'):
  Aa1 Tryz.prog W0 M 61 [.agg #[s.v,.bool b]] W K:=
 Aa2 (fun W' hE=>Df2 (M:=fun _=>False) (h.ext hE)) (fun W' v W'' hE hE' hP=>by
  obtain⟨s',rfl,h⟩:=hP
  exact kont s' W'' (hE.trans hE') h)
theorem Ce6 {b:Bool} {z:Int} (h:b=decide (z<0)):(if b=true then -((z.natAbs:Nat):Int) else((z.natAbs:Nat):Int))=z:=by
 cases b with
 | true=>
  have:=of_decide_eq_true h.symm
  simp;omega
 | false=>
  have:=of_decide_eq_false h.symm
  simp;omega
theorem Dh6 {W0:PW} {M:Nat→Prop} {s t:Sl} {b c:Bool} {z w:Int} (h1:Ab5 141 W0 s b z) (h2:Ab5 141 W0 t c w) (hz:nl z.natAbs≤68719476736) (hw:nl w.natAbs≤68719476736):
  Aa0 Tryz.prog 36 [.agg #[s.v,.bool b],.agg #[t.v,.bool c]] W0 M fun v W'=>∃(s':Sl),∃(b':Bool),v = .agg #[Sl.v s',.bool b']∧Ab5 141 W' s' b' (z*w):=by
 apply Cf9
 have hm:=Ae5 z.natAbs w.natAbs
 refine Bb7 h1.1 h2.1 (by omega) (by omega) fun s3 W2 hE2 h3=>⟨s3,rfl,?_⟩
 refine Ad6 h3 (by omega) fun s6 b7 W5 hE5 h6=>⟨s6,b7,rfl,fun W8 hE8=>⟨s6,b7,rfl,?_⟩⟩
 have e:(if decide (b≠c)=true then -((z.natAbs*w.natAbs:Nat):Int) else((z.natAbs*w.natAbs:Nat):Int))=z*w:=by
  have hb:=Ce6 h1.2
  have hc:=Ce6 h2.2
  have e1:=h1.2
  have e2:=h2.2
  rw[←hb,←hc]
  generalize z.natAbs=p
  generalize w.natAbs=q
  cases b<;>cases c<;>simp[Int.mul_neg,Int.neg_mul]
 rw[e] at h6
 exact h6.ext hE8
theorem Ak0 {W0 W:PW} {M:Nat→Prop} {s t:Sl} {b c:Bool} {z w:Int} {K:Value→PW→Prop} (h1:Ab5 141 W s b z) (h2:Ab5 141 W t c w) (hz:nl z.natAbs≤68719476736) (hw:nl w.natAbs≤68719476736) (kont: ∀(s':Sl) (b':Bool) (W':PW),Ext W W'→(Ab5 141 W' s' b' (z*w))→K (.agg #[Sl.v s',.bool b']) W'):
  Aa1 Tryz.prog W0 M 36 [.agg #[s.v,.bool b],.agg #[t.v,.bool c]] W K:=
 Aa2 (fun W' hE=>Dh6 (M:=fun _=>False) (h1.ext hE) (h2.ext hE) hz hw) (fun W' v W'' hE hE' hP=>by
  obtain⟨s',b',rfl,h⟩:=hP
  exact kont s' b' W'' (hE.trans hE') h)
theorem Dj4 {W0:PW} {M:Nat→Prop} {s t:Sl} {b c:Bool} {z w:Int} (h1:Ab5 141 W0 s b z) (h2:Ab5 141 W0 t c w) (hz:nl z.natAbs≤68719476736) (hw:nl w.natAbs≤68719476736):
  Aa0 Tryz.prog 32 [.agg #[s.v,.bool b],.agg #[t.v,.bool c]] W0 M fun v W'=>∃(s':Sl),∃(b':Bool),v = .agg #[Sl.v s',.bool b']∧Ab5 141 W' s' b' (z+w):=by
 apply Cn1
 have e1:=h1.2
 have e2:=h2.2
 have hb:=Ce6 h1.2
 have hc:=Ce6 h2.2
 refine⟨fun hbc=>?_,fun hbc=>?_⟩
 ·have hm:=By9 z.natAbs w.natAbs
  refine Do2 h1.1 h2.1 (by omega) (by omega) fun s3 W2 hE2 h3=>⟨s3,rfl,?_⟩
  refine Ad6 h3 (by omega) fun s6 b7 W5 hE5 h6=>⟨s6,b7,rfl,fun W8 hE8=>⟨s6,b7,rfl,?_⟩⟩
  have e:(if b=true then -((z.natAbs+w.natAbs:Nat):Int) else((z.natAbs+w.natAbs:Nat):Int))=z+w:=by
   rw[←hbc] at hc
   cases b<;>simp at hb hc⊢<;>omega
  rw[e] at h6
  exact h6.ext hE8
 ·refine Bq3 h1.1 h2.1 (by omega) (by omega) fun s11 W10 hE10 h11=>⟨_,_,rfl,fun hle=>?_,fun hle=>?_⟩
  ·have hle:=of_decide_eq_true hle
   refine Ad6 h11 (Nat.le_trans (Ad1 (Nat.sub_le _ _)) (by omega)) fun s15 b16 W14 hE14 h15=>⟨s15,b16,rfl,fun W17 hE17=>⟨s15,b16,rfl,?_⟩⟩
   have e:(if b=true then -((z.natAbs-w.natAbs:Nat):Int) else((z.natAbs-w.natAbs:Nat):Int))=z+w:=by
    cases b<;>cases c<;>simp at hbc hb hc⊢<;>omega
   rw[e] at h15
   exact h15.ext hE17
  ·have hle:=of_decide_eq_false hle
   refine Bq3 (h2.1.ext hE10) (h1.1.ext hE10) (by omega) (by omega) fun s20 W19 hE19 h20=>⟨_,_,rfl,?_⟩
   refine Ad6 h20 (Nat.le_trans (Ad1 (Nat.sub_le _ _)) (by omega)) fun s24 b25 W23 hE23 h24=>⟨s24,b25,rfl,fun W26 hE26=>⟨s24,b25,rfl,?_⟩⟩
   have e:(if c=true then -((w.natAbs-z.natAbs:Nat):Int) else((w.natAbs-z.natAbs:Nat):Int))=z+w:=by
    cases b<;>cases c<;>simp at hbc hb hc⊢<;>omega
   rw[e] at h24
   exact h24.ext hE26
theorem Be4 {W0 W:PW} {M:Nat→Prop} {s t:Sl} {b c:Bool} {z w:Int} {K:Value→PW→Prop} (h1:Ab5 141 W s b z) (h2:Ab5 141 W t c w) (hz:nl z.natAbs≤68719476736) (hw:nl w.natAbs≤68719476736) (kont: ∀(s':Sl) (b':Bool) (W':PW),Ext W W'→(Ab5 141 W' s' b' (z+w))→K (.agg #[Sl.v s',.bool b']) W'):
  Aa1 Tryz.prog W0 M 32 [.agg #[s.v,.bool b],.agg #[t.v,.bool c]] W K:=
 Aa2 (fun W' hE=>Dj4 (M:=fun _=>False) (h1.ext hE) (h2.ext hE) hz hw) (fun W' v W'' hE hE' hP=>by
  obtain⟨s',b',rfl,h⟩:=hP
  exact kont s' b' W'' (hE.trans hE') h)
theorem Dr4 (x y:Nat):Dt2 x y=As4 x y:=by
 rcases Nat.lt_trichotomy x y with h | h | h
 ·rw[Al0 h,Bh1 (by omega)]
 ·subst h;rw[Ap9,Bw1 rfl]
 ·rw[Aj4 h,Bh3 (by omega)]
theorem Dn1 {W0:PW} {M:Nat→Prop} {s t:Sl} {b c:Bool} {z w:Int} (h1:Ab5 141 W0 s b z) (h2:Ab5 141 W0 t c w) (hz:nl z.natAbs≤137438953472) (hw:nl w.natAbs≤137438953472):
  Aa0 Tryz.prog 44 [.agg #[s.v,.bool b],.agg #[t.v,.bool c]] W0 M fun v W'=>v = .int .i64 (As4 z w)∧True:=by
 apply Cj6
 have e1:=h1.2
 have e2:=h2.2
 have hb:b=true→z<0:=fun h=>by rw[h] at e1;exact of_decide_eq_true e1.symm
 have hb':b=false→¬z<0:=fun h=>by rw[h] at e1;exact of_decide_eq_false e1.symm
 have hc:c=true→w<0:=fun h=>by rw[h] at e2;exact of_decide_eq_true e2.symm
 have hc':c=false→¬w<0:=fun h=>by rw[h] at e2;exact of_decide_eq_false e2.symm
 refine⟨fun hne=>⟨fun ht W1 hE1=>⟨?_,trivial⟩,fun hf=>⟨fun _ W2 hE2=>⟨?_,trivial⟩,fun h=>absurd hne h⟩⟩,fun heq=>⟨fun h=>absurd h heq,fun _=>⟨fun ht=>?_,fun hf=>?_⟩⟩⟩
 ·have h3:=hb ht
  have h4:¬w<0:=hc' (by cases c with | false=>rfl | true=>exact absurd ht hne)
  rw[Bh1 (by omega)]
 ·have h3:=hb' hf
  have h4:w<0:=hc (by cases c with | true=>rfl | false=>exact absurd hf hne)
  rw[Bh3 (by omega)]
 ·have h3:=hb ht
  have h4:=hc (by cases c with | true=>rfl | false=>exact absurd (fun e=>by rw[ht] at e;cases e) heq)
  refine Ap6 h2.1 h1.1 (by omega) (by omega) fun W14 hE14 _=>⟨_,rfl,fun W16 hE16=>⟨?_,trivial⟩⟩
  rw[Dr4]
  congr 1
  rcases Int.lt_trichotomy z w with h | h | h
  ·rw[Bh1 h,Bh1 (by omega)]
  ·rw[Bw1 h,Bw1 (by omega)]
  ·rw[Bh3 h,Bh3 (by omega)]
 ·have h3:=hb' hf
  have h4:=hc' (by cases c with | false=>rfl | true=>exact absurd (fun e=>by rw[hf] at e;cases e) heq)
  refine Ap6 h1.1 h2.1 (by omega) (by omega) fun W18 hE18 _=>⟨_,rfl,fun W20 hE20=>⟨?_,trivial⟩⟩
  rw[Dr4]
  congr 1
  rcases Int.lt_trichotomy z w with h | h | h
  ·rw[Bh1 h,Bh1 (by omega)]
  ·rw[Bw1 h,Bw1 (by omega)]
  ·rw[Bh3 h,Bh3 (by omega)]
theorem Ci7 {W0 W:PW} {M:Nat→Prop} {s t:Sl} {b c:Bool} {z w:Int} {K:Value→PW→Prop} (h1:Ab5 141 W s b z) (h2:Ab5 141 W t c w) (hz:nl z.natAbs≤137438953472) (hw:nl w.natAbs≤137438953472) (kont: ∀(W':PW),Ext W W'→(True)→K (.int .i64 (As4 z w)) W'):
  Aa1 Tryz.prog W0 M 44 [.agg #[s.v,.bool b],.agg #[t.v,.bool c]] W K:=
 Aa2 (fun W' hE=>Dn1 (M:=fun _=>False) (h1.ext hE) (h2.ext hE) hz hw) (fun W' v W'' hE hE' hP=>by
  obtain⟨rfl,h⟩:=hP
  exact kont W'' (hE.trans hE') h)
end Go.Proofs.YtahohahjnhfedaaGreatDoor
/- rat: least. -/
namespace Go.Proofs.YtahohahjnhfedaaGreatDoor
open Go Go.SX
theorem Dn4 {z:Int} {g:Nat} (hz:z≠0) (hg:g∣z.natAbs):(if decide (By8 z<0)=true then -((z.natAbs/g:Nat):Int) else((z.natAbs/g:Nat):Int))=z/(g:Int):=by
 obtain⟨k,hk⟩:=hg
 rcases Nat.eq_zero_or_pos g with rfl | hg0
 ·omega
 have hkk:z.natAbs/g=k:=by rw[hk,Nat.mul_div_cancel_left _ hg0]
 rw[hkk]
 by_cases h:z<0
 ·have e1:By8 z<0:=by simp[By8,h]
  rw[if_pos (decide_eq_true e1)]
  have e2:z=(g:Int) * -(k:Int):=by
   have:z = -((z.natAbs:Nat):Int):=by omega
   rw[this,hk,Int.natCast_mul,Int.mul_neg]
  rw[e2,Int.mul_ediv_cancel_left _ (by omega)]
 ·have e1:¬By8 z<0:=by simp[By8,h,hz]
  rw[if_neg (by rw[decide_eq_false e1];decide)]
  have e2:z=(g:Int)*(k:Int):=by
   have:z=((z.natAbs:Nat):Int):=by omega
   rw[this,hk,Int.natCast_mul]
  rw[e2,Int.mul_ediv_cancel_left _ (by omega)]
theorem Di9 {W0:PW} {M:Nat→Prop} {s t:Sl} {b:Bool} {z:Int} {y:Nat} (h1:Ab5 141 W0 s b z) (h2:Aa6 141 W0 t y) (hz:nl z.natAbs≤137438953472) (hy:nl y≤137438953472):
  Aa0 Tryz.prog 31 [.agg #[s.v,.bool b],.agg #[t.v]] W0 M fun v W'=>∃(r:Sl),∃(c:Bool),∃(u:Sl),v = .agg #[Sl.v r,.bool c,Sl.v u]∧Ab3 141 W' r c u (mkRat z (max y 1)):=by
 apply Cn8
 have whole: ∀(W:PW),Ext W0 W→mkRat z (max y 1)=(z:Rat)→Ab3 141 W s b ⟨none,0,0⟩ (mkRat z (max y 1)):=fun W hE e=>by
  rw[e]
  refine⟨by rw[Rat.num_intCast];exact h1.ext hE,?_⟩
  have:dn (z:Rat)=0:=by unfold dn;rw[Rat.den_intCast];rfl
  rw[this]
  exact Af6 W
 refine Ac9 h2 (by omega) fun W2 hE2 _=>⟨_,rfl,fun hlt=>fun W4 hE4=>?_,fun hge=>?_⟩
 ·have hy1:y<2:=Ah4.1 (by omega)
  refine⟨s,b,⟨none,0,0⟩,rfl,whole W4 (hE2.trans hE4) ?_⟩
  rw[show max y 1=1 by omega]
  have:=Rat.mkRat_self (z:Rat)
  rwa [Rat.num_intCast,Rat.den_intCast] at this
 have hy2:2≤y:=by
  apply Nat.le_of_not_lt
  intro h
  have:=(Ah4 (x:=y)).2 h
  omega
 refine Ai5 (h1.ext hE2) (by omega) fun W3 hE3 _=>⟨_,rfl,fun h0 W5 hE5=>?_,fun h0=>?_⟩
 ·have hz0:z=0:=by
   unfold By8 at h0
   split at h0
   ·omega
   ·split at h0
    ·assumption
    ·omega
  refine⟨s,b,⟨none,0,0⟩,rfl,whole W5 ((hE2.trans hE3).trans hE5) ?_⟩
  rw[hz0]
  simp
 have hz0:z≠0:=fun e=>h0 (by rw[e];rfl)
 have hmax:max y 1=y:=by omega
 rw[hmax]
 have hy0:y≠0:=by omega
 have hnum:(mkRat z y).num=z/((Nat.gcd y z.natAbs:Nat):Int):=by rw[Rat.num_mkRat,if_neg hy0]
 have hden:(mkRat z y).den=y/Nat.gcd y z.natAbs:=by rw[Rat.den_mkRat,if_neg hy0]
 have hgpos:0<Nat.gcd y z.natAbs:=Nat.gcd_pos_of_pos_left _ (by omega)
 have hgle:Nat.gcd y z.natAbs≤y:=Nat.le_of_dvd (by omega) (Nat.gcd_dvd_left _ _)
 have hgn:nl (Nat.gcd y z.natAbs)≤137438953472:=Nat.le_trans (Ad1 hgle) hy
 have hE03:=hE2.trans hE3
 refine Ag5 (h1.ext hE03) fun s7 W6 hE6 h7=>⟨s7,rfl,?_⟩
 refine Bu2 ((h2.ext hE03).ext hE6) h7 (by omega) (by omega) fun s10 W9 hE9 h10=>⟨s10,rfl,?_⟩
 refine Ac9 h10 (by omega) fun W12 hE11 _=>⟨_,rfl,?_⟩
 have hE12:Ext W0 W12:=((hE03.trans hE6).trans hE9).trans hE11
 have hg10:=h10.ext hE11
 refine⟨fun hgt=>?_,fun hgt=>?_⟩
 ·refine Ag5 (h1.ext hE12) fun s16 W15 hE15 h16=>⟨s16,rfl,?_⟩
  refine At8 h16 (hg10.ext hE15) (by omega) (by omega) fun s19 s20 W18 hE17 ⟨h19,_⟩=>⟨_,_,_,rfl,?_⟩
  have hE18:Ext W0 W18:=hE12.trans (hE15.trans hE17)
  have hEg:Ext W12 W18:=hE15.trans hE17
  refine At8 (h2.ext hE18) (hg10.ext hEg) (by omega) (by omega) fun s24 s25 W23 hE23 ⟨h24,_⟩=>⟨_,_,_,rfl,?_⟩
  refine Ai5 ((h1.ext hE18).ext hE23) (by omega) fun W28 hE28 _=>⟨_,rfl,?_⟩
  refine Ad6 ((h19.ext hE23).ext hE28) (Nat.le_trans (Ad1 (Nat.div_le_self _ _)) (by omega)) fun s32 b33 W31 hE31 h32=>⟨s32,b33,rfl,?_⟩
  rw[Dn4 hz0 (Nat.gcd_dvd_right y z.natAbs),←hnum] at h32
  have h24':=((h24.ext hE28).ext hE31)
  rw[←hden] at h24'
  have hdl:(mkRat z y).den≤y:=by rw[hden];exact Nat.div_le_self _ _
  refine Ac9 h24' (Nat.le_trans (Ad1 hdl) (by omega)) fun W35 hE35 _=>⟨_,rfl,fun hi W37 hE37=>?_,fun hi W38 hE38=>?_⟩
  ·have hd1:(mkRat z y).den=1:=by
    have:=(mkRat z y).den_pos
    have:=(Ah4 (x:=(mkRat z y).den)).1 (by omega)
    omega
   exact⟨s32,b33,⟨none,0,0⟩,rfl,(h32.ext hE35).ext hE37,by rw[dn,if_pos hd1];exact Af6 _⟩
  ·have hd1:(mkRat z y).den≠1:=fun e=>hi (by rw[e];decide)
   exact⟨s32,b33,s24,rfl,(h32.ext hE35).ext hE38,by rw[dn,if_neg hd1];exact(h24'.ext hE35).ext hE38⟩
 ·refine Ac9 (h2.ext hE12) (by omega) fun W111 hE111 _=>⟨_,rfl,fun hi W112 hE112=>absurd ((Ah4 (x:=y)).1 (by omega)) (by omega),fun hi W113 hE113=>?_⟩
  have hg1:Nat.gcd y z.natAbs=1:=by
   have:=(Ah4 (x:=Nat.gcd y z.natAbs)).1 (by omega)
   omega
  have hn1:(mkRat z y).num=z:=by rw[hnum,hg1];simp
  have hd1:(mkRat z y).den=y:=by rw[hden,hg1];simp
  have hEz:=(hE12.trans hE111).trans hE113
  exact⟨s,b,t,rfl,by rw[hn1];exact h1.ext hEz,by rw[dn,hd1,if_neg (by omega)];exact h2.ext hEz⟩
theorem At7 {W0 W:PW} {M:Nat→Prop} {s t:Sl} {b:Bool} {z:Int} {y:Nat} {K:Value→PW→Prop} (h1:Ab5 141 W s b z) (h2:Aa6 141 W t y) (hz:nl z.natAbs≤137438953472) (hy:nl y≤137438953472) (kont: ∀(r:Sl) (c:Bool) (u:Sl) (W':PW),Ext W W'→(Ab3 141 W' r c u (mkRat z (max y 1)))→K (.agg #[Sl.v r,.bool c,Sl.v u]) W'):
  Aa1 Tryz.prog W0 M 31 [.agg #[s.v,.bool b],.agg #[t.v]] W K:=
 Aa2 (fun W' hE=>Di9 (M:=fun _=>False) (h1.ext hE) (h2.ext hE) hz hy) (fun W' v W'' hE hE' hP=>by
  obtain⟨r,c,u,rfl,h⟩:=hP
  exact kont r c u W'' (hE.trans hE') h)
end Go.Proofs.YtahohahjnhfedaaGreatDoor
/- rat: the operations. -/
namespace Go.Proofs.YtahohahjnhfedaaGreatDoor
open Go Go.SX
theorem Ef0 {t:TypeId} (W:PW):Ab3 t W ⟨none,0,0⟩ false ⟨none,0,0⟩ 0:=⟨⟨Af6 W,by decide⟩,Af6 W⟩
theorem Aq0 {q:Rat} :dn q=0↔q.den=1:=by
 unfold dn
 have:=q.den_pos
 split
 ·simp[*]
 ·omega
theorem Cl4 {q:Rat} (h:dn q≠0):dn q=q.den:=by
 unfold dn at *
 split
 ·rename_i h1;rw[if_pos h1] at h;exact absurd rfl h
 ·rfl
theorem Ef9 {W0:PW} {M:Nat→Prop} {s t:Sl} {b:Bool} {q:Rat} {k:Nat} (h:Ab3 141 W0 s b t q) (hq:Sz k q) (hk:k≤34359738368):
  Aa0 Tryz.prog 35 [.agg #[s.v,.bool b,t.v]] W0 M fun v W'=>∃(s':Sl),v = .agg #[Sl.v s']∧Aa6 141 W' s' q.den:=by
 apply Bx2
 have hd:=hq.dn
 refine Ac9 h.2 (by omega) fun W2 hE2 _=>⟨_,rfl,fun h0=>?_,fun h0 W8 hE8=>⟨t,rfl,?_⟩⟩
 ·have h1:q.den=1:=Aq0.1 (Ag3.1 (by omega))
  refine As2 (x:=1) (by decide) fun s6 W5 hE5 h6=>⟨s6,rfl,fun W7 hE7=>⟨s6,rfl,?_⟩⟩
  rw[h1]
  exact h6.ext hE7
 ·have h1:dn q≠0:=fun e=>h0 (by rw[e];rfl)
  rw[←Cl4 h1]
  exact(h.2.ext hE2).ext hE8
theorem Ap4 {W0 W:PW} {M:Nat→Prop} {s t:Sl} {b:Bool} {q:Rat} {k:Nat} {K:Value→PW→Prop} (h:Ab3 141 W s b t q) (hq:Sz k q) (hk:k≤34359738368) (kont: ∀(s':Sl) (W':PW),Ext W W'→(Aa6 141 W' s' q.den)→K (.agg #[Sl.v s']) W'):
  Aa1 Tryz.prog W0 M 35 [.agg #[s.v,.bool b,t.v]] W K:=
 Aa2 (fun W' hE=>Ef9 (M:=fun _=>False) (h.ext hE) hq hk) (fun W' v W'' hE hE' hP=>by
  obtain⟨s',rfl,h⟩:=hP
  exact kont s' W'' (hE.trans hE') h)
theorem Er9 {W0:PW} {M:Nat→Prop} {s t:Sl} {b:Bool} {q:Rat} {k:Nat} (h:Ab3 141 W0 s b t q) (hq:Sz k q) (hk:k≤34359738368):
  Aa0 Tryz.prog 76 [.agg #[s.v,.bool b,t.v]] W0 M fun v W'=>∃(s':Sl),∃(b':Bool),v = .agg #[Sl.v s',.bool b']∧Ab5 141 W' s' b' (q.den:Int):=by
 apply Bt8
 refine Ap4 h hq hk fun s3 W2 hE2 h3=>⟨s3,rfl,?_⟩
 have:=hq.2
 refine Ad6 h3 (by omega) fun s6 b7 W5 hE5 h6=>⟨s6,b7,rfl,fun W8 hE8=>⟨s6,b7,rfl,?_⟩⟩
 rw[if_neg (by decide)] at h6
 exact h6.ext hE8
theorem Bc0 {W0 W:PW} {M:Nat→Prop} {s t:Sl} {b:Bool} {q:Rat} {k:Nat} {K:Value→PW→Prop} (h:Ab3 141 W s b t q) (hq:Sz k q) (hk:k≤34359738368) (kont: ∀(s':Sl) (b':Bool) (W':PW),Ext W W'→(Ab5 141 W' s' b' (q.den:Int))→K (.agg #[Sl.v s',.bool b']) W'):
  Aa1 Tryz.prog W0 M 76 [.agg #[s.v,.bool b,t.v]] W K:=
 Aa2 (fun W' hE=>Er9 (M:=fun _=>False) (h.ext hE) hq hk) (fun W' v W'' hE hE' hP=>by
  obtain⟨s',b',rfl,h⟩:=hP
  exact kont s' b' W'' (hE.trans hE') h)
theorem Cp5 {W0:PW} {M:Nat→Prop} {s t s' t':Sl} {b b':Bool} {p q:Rat} {k l:Nat} (h1:Ab3 141 W0 s b t p) (h2:Ab3 141 W0 s' b' t' q) (hp:Sz k p) (hq:Sz l q) (hk:k≤34359738368) (hl:l≤34359738368):
  Aa0 Tryz.prog 33 [.agg #[s.v,.bool b,t.v],.agg #[s'.v,.bool b',t'.v]] W0 M fun v W'=>∃(r:Sl),∃(c:Bool),v = .agg #[Sl.v r,.bool c]∧Ab5 141 W' r c (p.num*(q.den:Int)):=by
 apply Ca1
 have hd:=hq.dn
 have hp1:=hp.1
 have hq2:=hq.2
 refine Ac9 h2.2 (by omega) fun W2 hE2 _=>⟨_,rfl,fun h0 W4 hE4=>⟨s,b,rfl,?_⟩,fun h0=>?_⟩
 ·have h1':q.den=1:=Aq0.1 (Ag3.1 (by omega))
  rw[h1',Int.natCast_one,Int.mul_one]
  exact(h1.1.ext hE2).ext hE4
 ·refine Bc0 (h2.ext hE2) hq hl fun s7 b8 W6 hE6 h7=>⟨s7,b8,rfl,?_⟩
  refine Ak0 ((h1.1.ext hE2).ext hE6) h7 (by omega) (by rw[Int.natAbs_natCast];omega) fun s11 b12 W10 hE10 h11=>⟨s11,b12,rfl,fun W13 hE13=>⟨s11,b12,rfl,h11.ext hE13⟩⟩
theorem Al8 {W0 W:PW} {M:Nat→Prop} {s t s' t':Sl} {b b':Bool} {p q:Rat} {k l:Nat} {K:Value→PW→Prop} (h1:Ab3 141 W s b t p) (h2:Ab3 141 W s' b' t' q) (hp:Sz k p) (hq:Sz l q) (hk:k≤34359738368) (hl:l≤34359738368) (kont: ∀(r:Sl) (c:Bool) (W':PW),Ext W W'→(Ab5 141 W' r c (p.num*(q.den:Int)))→K (.agg #[Sl.v r,.bool c]) W'):
  Aa1 Tryz.prog W0 M 33 [.agg #[s.v,.bool b,t.v],.agg #[s'.v,.bool b',t'.v]] W K:=
 Aa2 (fun W' hE=>Cp5 (M:=fun _=>False) (h1.ext hE) (h2.ext hE) hp hq hk hl) (fun W' v W'' hE hE' hP=>by
  obtain⟨r,c,rfl,h⟩:=hP
  exact kont r c W'' (hE.trans hE') h)
theorem Au1 {p q:Rat} {k l:Nat} (hp:Sz k p) (hq:Sz l q):nl (p.num*(q.den:Int)).natAbs≤k+l:=by
 rw[Int.natAbs_mul,Int.natAbs_natCast]
 have:=Ae5 p.num.natAbs q.den
 have h1:=hp.1
 have h2:=hq.2
 omega
theorem Em3 {W0:PW} {M:Nat→Prop} {s t s' t':Sl} {b b':Bool} {p q:Rat} {k l:Nat} (h1:Ab3 141 W0 s b t p) (h2:Ab3 141 W0 s' b' t' q) (hp:Sz k p) (hq:Sz l q) (hk:k≤34359738368) (hl:l≤34359738368):
  Aa0 Tryz.prog 14 [.agg #[s.v,.bool b,t.v],.agg #[s'.v,.bool b',t'.v]] W0 M fun v W'=>v = .int .i64 (Co4 p q)∧True:=by
 apply Dk3
 have e1:=Au1 hp hq
 have e2:=Au1 hq hp
 refine Al8 h1 h2 hp hq hk hl fun s3 b4 W2 hE2 h3=>⟨s3,b4,rfl,?_⟩
 refine Al8 (h2.ext hE2) (h1.ext hE2) hq hp hl hk fun s7 b8 W6 hE6 h7=>⟨s7,b8,rfl,?_⟩
 refine Ci7 (h3.ext hE6) h7 (by omega) (by omega) fun W10 hE10 _=>⟨_,rfl,fun W12 hE12=>⟨?_,trivial⟩⟩
 rw[Dn0]
theorem Aj2 {W0 W:PW} {M:Nat→Prop} {s t s' t':Sl} {b b':Bool} {p q:Rat} {k l:Nat} {K:Value→PW→Prop} (h1:Ab3 141 W s b t p) (h2:Ab3 141 W s' b' t' q) (hp:Sz k p) (hq:Sz l q) (hk:k≤34359738368) (hl:l≤34359738368) (kont: ∀(W':PW),Ext W W'→(True)→K (.int .i64 (Co4 p q)) W'):
  Aa1 Tryz.prog W0 M 14 [.agg #[s.v,.bool b,t.v],.agg #[s'.v,.bool b',t'.v]] W K:=
 Aa2 (fun W' hE=>Em3 (M:=fun _=>False) (h1.ext hE) (h2.ext hE) hp hq hk hl) (fun W' v W'' hE hE' hP=>by
  obtain⟨rfl,h⟩:=hP
  exact kont W'' (hE.trans hE') h)
theorem add_same {p q:Rat} (h:p.den=q.den):mkRat (p.num+q.num) p.den=p+q:=by
 rw[Rat.add_def',←h,←Int.add_mul]
 exact(Rat.mkRat_mul_right p.den_nz).symm
theorem Fm2 {p q:Rat} (h:dn p=dn q):p.den=q.den:=by
 rw[←En9 p,←En9 q,h]
theorem Ej4 {W0:PW} {M:Nat→Prop} {s t s' t':Sl} {b b':Bool} {p q:Rat} {k l:Nat} (h1:Ab3 141 W0 s b t p) (h2:Ab3 141 W0 s' b' t' q) (hp:Sz k p) (hq:Sz l q) (hk:k≤8589934592) (hl:l≤8589934592):
  Aa0 Tryz.prog 10 [.agg #[s.v,.bool b,t.v],.agg #[s'.v,.bool b',t'.v]] W0 M fun v W'=>∃(r:Sl),∃(c:Bool),∃(u:Sl),v = .agg #[Sl.v r,.bool c,Sl.v u]∧Ab3 141 W' r c u (p+q):=by
 apply Di2
 have d1:=hp.dn
 have d2:=hq.dn
 have n1:=hp.1
 have n2:=hq.1
 have n3:=hp.2
 have n4:=hq.2
 refine Ap6 h1.2 h2.2 (by omega) (by omega) fun W2 hE2 _=>⟨_,rfl,fun h0=>?_,fun h0=>?_⟩
 ·have hd:dn p=dn q:=by
   rcases Nat.lt_trichotomy (dn p) (dn q) with h | h | h
   ·rw[Al0 h] at h0;omega
   ·exact h
   ·rw[Aj4 h] at h0;omega
  have hs:nl (p.num+q.num).natAbs≤max (nl p.num.natAbs) (nl q.num.natAbs)+1:=Nat.le_trans (Ad1 (Int.natAbs_add_le _ _)) (By9 _ _)
  refine Be4 (h1.1.ext hE2) (h2.1.ext hE2) (by omega) (by omega) fun s6 b7 W5 hE5 h6=>⟨s6,b7,rfl,?_⟩
  refine At7 h6 ((h1.2.ext hE2).ext hE5) (by omega) (by omega) fun s10 b11 s12 W9 hE9 h10=>⟨s10,b11,s12,rfl,fun W13 hE13=>⟨s10,b11,s12,rfl,?_⟩⟩
  rw[En9,add_same (Fm2 hd)] at h10
  exact h10.ext hE13
 ·have e1:=Au1 hp hq
  have e2:=Au1 hq hp
  have hs:nl (p.num*(q.den:Int)+q.num*(p.den:Int)).natAbs≤max (nl (p.num*(q.den:Int)).natAbs) (nl (q.num*(p.den:Int)).natAbs)+1:=Nat.le_trans (Ad1 (Int.natAbs_add_le _ _)) (By9 _ _)
  have hm:=Ae5 p.den q.den
  refine Al8 (h1.ext hE2) (h2.ext hE2) hp hq (by omega) (by omega) fun s16 b17 W15 hE15 h16=>⟨s16,b17,rfl,?_⟩
  refine Al8 ((h2.ext hE2).ext hE15) ((h1.ext hE2).ext hE15) hq hp (by omega) (by omega) fun s20 b21 W19 hE19 h20=>⟨s20,b21,rfl,?_⟩
  refine Be4 (h16.ext hE19) h20 (by omega) (by omega) fun s24 b25 W23 hE23 h24=>⟨s24,b25,rfl,?_⟩
  have hEa:=((hE2.trans hE15).trans hE19).trans hE23
  refine Ap4 (h1.ext hEa) hp (by omega) fun s28 W27 hE27 h28=>⟨s28,rfl,?_⟩
  refine Ap4 ((h2.ext hEa).ext hE27) hq (by omega) fun s31 W30 hE30 h31=>⟨s31,rfl,?_⟩
  refine Bb7 (h28.ext hE30) h31 (by omega) (by omega) fun s34 W33 hE33 h34=>⟨s34,rfl,?_⟩
  refine At7 (((h24.ext hE27).ext hE30).ext hE33) h34 (by omega) (by omega) fun s37 b38 s39 W36 hE36 h37=>⟨s37,b38,s39,rfl,fun W40 hE40=>⟨s37,b38,s39,rfl,?_⟩⟩
  have hpos:1≤p.den*q.den:=Nat.mul_pos p.den_pos q.den_pos
  rw[Nat.max_eq_left hpos,←Rat.add_def'] at h37
  exact h37.ext hE40
theorem At2 {W0 W:PW} {M:Nat→Prop} {s t s' t':Sl} {b b':Bool} {p q:Rat} {k l:Nat} {K:Value→PW→Prop} (h1:Ab3 141 W s b t p) (h2:Ab3 141 W s' b' t' q) (hp:Sz k p) (hq:Sz l q) (hk:k≤8589934592) (hl:l≤8589934592) (kont: ∀(r:Sl) (c:Bool) (u:Sl) (W':PW),Ext W W'→(Ab3 141 W' r c u (p+q))→K (.agg #[Sl.v r,.bool c,Sl.v u]) W'):
  Aa1 Tryz.prog W0 M 10 [.agg #[s.v,.bool b,t.v],.agg #[s'.v,.bool b',t'.v]] W K:=
 Aa2 (fun W' hE=>Ej4 (M:=fun _=>False) (h1.ext hE) (h2.ext hE) hp hq hk hl) (fun W' v W'' hE hE' hP=>by
  obtain⟨r,c,u,rfl,h⟩:=hP
  exact kont r c u W'' (hE.trans hE') h)
theorem En8 {W0:PW} {M:Nat→Prop} {s t s' t':Sl} {b b':Bool} {p q:Rat} {k l:Nat} (h1:Ab3 141 W0 s b t p) (h2:Ab3 141 W0 s' b' t' q) (hp:Sz k p) (hq:Sz l q) (hk:k≤8589934592) (hl:l≤8589934592):
  Aa0 Tryz.prog 11 [.agg #[s.v,.bool b,t.v],.agg #[s'.v,.bool b',t'.v]] W0 M fun v W'=>∃(r:Sl),∃(c:Bool),∃(u:Sl),v = .agg #[Sl.v r,.bool c,Sl.v u]∧Ab3 141 W' r c u (p*q):=by
 apply Df4
 have n1:=hp.1
 have n2:=hq.1
 have n3:=hp.2
 have n4:=hq.2
 have hm1:nl (p.num*q.num).natAbs≤nl p.num.natAbs+nl q.num.natAbs:=by rw[Int.natAbs_mul];exact Ae5 _ _
 have hm:=Ae5 p.den q.den
 refine Ak0 h1.1 h2.1 (by omega) (by omega) fun s3 b4 W2 hE2 h3=>⟨s3,b4,rfl,?_⟩
 refine Ap4 (h1.ext hE2) hp (by omega) fun s7 W6 hE6 h7=>⟨s7,rfl,?_⟩
 refine Ap4 ((h2.ext hE2).ext hE6) hq (by omega) fun s10 W9 hE9 h10=>⟨s10,rfl,?_⟩
 refine Bb7 (h7.ext hE9) h10 (by omega) (by omega) fun s13 W12 hE12 h13=>⟨s13,rfl,?_⟩
 refine At7 (((h3.ext hE6).ext hE9).ext hE12) h13 (by omega) (by omega) fun s16 b17 s18 W15 hE15 h16=>⟨s16,b17,s18,rfl,fun W19 hE19=>⟨s16,b17,s18,rfl,?_⟩⟩
 have hpos:1≤p.den*q.den:=Nat.mul_pos p.den_pos q.den_pos
 rw[Nat.max_eq_left hpos,←Rat.mul_def'] at h16
 exact h16.ext hE19
theorem Ak9 {W0 W:PW} {M:Nat→Prop} {s t s' t':Sl} {b b':Bool} {p q:Rat} {k l:Nat} {K:Value→PW→Prop} (h1:Ab3 141 W s b t p) (h2:Ab3 141 W s' b' t' q) (hp:Sz k p) (hq:Sz l q) (hk:k≤8589934592) (hl:l≤8589934592) (kont: ∀(r:Sl) (c:Bool) (u:Sl) (W':PW),Ext W W'→(Ab3 141 W' r c u (p*q))→K (.agg #[Sl.v r,.bool c,Sl.v u]) W'):
  Aa1 Tryz.prog W0 M 11 [.agg #[s.v,.bool b,t.v],.agg #[s'.v,.bool b',t'.v]] W K:=
 Aa2 (fun W' hE=>En8 (M:=fun _=>False) (h1.ext hE) (h2.ext hE) hp hq hk hl) (fun W' v W'' hE hE' hP=>by
  obtain⟨r,c,u,rfl,h⟩:=hP
  exact kont r c u W'' (hE.trans hE') h)
theorem Dz2 {W0:PW} {M:Nat→Prop} {s t:Sl} {b:Bool} {q:Rat} {k:Nat} (h:Ab3 141 W0 s b t q) (hq:Sz k q) (hk:k≤34359738368):
  Aa0 Tryz.prog 7 [.agg #[s.v,.bool b,t.v]] W0 M fun v W'=>v = .int .i64 (Co4 q 0)∧True:=by
 apply Bm8
 have:=hq.1
 refine Ai5 h.1 (by omega) fun W2 hE2 _=>⟨_,rfl,fun W4 hE4=>⟨?_,trivial⟩⟩
 rw[Bo6]
theorem Bk6 {W0 W:PW} {M:Nat→Prop} {s t:Sl} {b:Bool} {q:Rat} {k:Nat} {K:Value→PW→Prop} (h:Ab3 141 W s b t q) (hq:Sz k q) (hk:k≤34359738368) (kont: ∀(W':PW),Ext W W'→(True)→K (.int .i64 (Co4 q 0)) W'):
  Aa1 Tryz.prog W0 M 7 [.agg #[s.v,.bool b,t.v]] W K:=
 Aa2 (fun W' hE=>Dz2 (M:=fun _=>False) (h.ext hE) hq hk) (fun W' v W'' hE hE' hP=>by
  obtain⟨rfl,h⟩:=hP
  exact kont W'' (hE.trans hE') h)
theorem Ge8 {q:Rat} (h:q≠0):mkRat (if decide (Co4 q 0<0)=true then -(q.den:Int) else(q.den:Int)) (max q.num.natAbs 1)=q⁻¹:=by
 have hn:q.num≠0:=fun e=>h (Rat.num_eq_zero.1 e)
 have hpos:1≤q.num.natAbs:=by omega
 rw[Nat.max_eq_left hpos,Rat.inv_def,←Bo6]
 by_cases hneg:q.num<0
 ·have e1:By8 q.num<0:=by simp[By8,hneg]
  rw[if_pos (decide_eq_true e1),←Rat.divInt_ofNat,show((q.num.natAbs:Nat):Int) = -q.num by omega,Rat.neg_divInt_neg]
 ·have e1:¬By8 q.num<0:=by simp[By8,hneg,hn]
  rw[if_neg (by rw[decide_eq_false e1];decide),←Rat.divInt_ofNat,show((q.num.natAbs:Nat):Int)=q.num by omega]
theorem Gd6 {W0:PW} {M:Nat→Prop} {s t s' t':Sl} {b b':Bool} {p q:Rat} {k l:Nat} (h1:Ab3 141 W0 s b t p) (h2:Ab3 141 W0 s' b' t' q) (hp:Sz k p) (hq:Sz l q) (hk:k≤8589934592) (hl:l≤8589934592) (hl1:1≤l):
  Aa0 Tryz.prog 40 [.agg #[s.v,.bool b,t.v],.agg #[s'.v,.bool b',t'.v]] W0 M fun v W'=>∃(r:Sl),∃(c:Bool),∃(u:Sl),v = .tuple #[.agg #[Sl.v r,.bool c,Sl.v u],.bool (decide (q≠0))]∧Ab3 141 W' r c u (p/q):=by
 apply Gb6
 have n2:=hq.1
 have n4:=hq.2
 refine Bk6 h2 hq (by omega) fun W2 hE2 _=>⟨_,rfl,fun h0 W4 hE4=>?_,fun h0=>?_⟩
 ·have hq0:q=0:=(Be6 q 0).1 h0
  refine⟨⟨none,0,0⟩,false,⟨none,0,0⟩,?_,?_⟩
  ·rw[decide_eq_false (by intro h;exact h hq0)]
  ·rw[hq0,Rat.div_def,show(0:Rat)⁻¹ = 0 from by simp[Rat.inv_def],Rat.mul_zero]
   exact Ef0 W4
 ·have hq0:q≠0:=fun e=>h0 ((Be6 q 0).2 e)
  rw[decide_eq_true hq0]
  refine Bk6 (h2.ext hE2) hq (by omega) fun W6 hE6 _=>⟨_,rfl,?_⟩
  refine Ap4 ((h2.ext hE2).ext hE6) hq (by omega) fun s10 W9 hE9 h10=>⟨s10,rfl,?_⟩
  refine Ad6 h10 (by omega) fun s13 b14 W12 hE12 h13=>⟨s13,b14,rfl,?_⟩
  have hEa:=((hE2.trans hE6).trans hE9).trans hE12
  refine Ag5 (h2.1.ext hEa) fun s17 W16 hE16 h17=>⟨s17,rfl,?_⟩
  have hsz:nl (if decide (Co4 q 0<0)=true then -(q.den:Int) else(q.den:Int)).natAbs≤l:=by
   split
   ·rw[Int.natAbs_neg,Int.natAbs_natCast];exact n4
   ·rw[Int.natAbs_natCast];exact n4
  refine At7 (h13.ext hE16) h17 (by omega) (by omega) fun s20 b21 s22 W19 hE19 h20=>⟨s20,b21,s22,rfl,?_⟩
  rw[Ge8 hq0] at h20
  refine Ak9 ((h1.ext hEa).ext (hE16.trans hE19)) h20 hp (hq.inv hl1) hk hl fun s25 b26 s27 W24 hE24 h25=>⟨s25,b26,s27,rfl,fun W28 hE28=>⟨s25,b26,s27,rfl,?_⟩⟩
  rw[Rat.div_def]
  exact h25.ext hE28
theorem Gb1 {W0 W:PW} {M:Nat→Prop} {s t s' t':Sl} {b b':Bool} {p q:Rat} {k l:Nat} {K:Value→PW→Prop} (h1:Ab3 141 W s b t p) (h2:Ab3 141 W s' b' t' q) (hp:Sz k p) (hq:Sz l q) (hk:k≤8589934592) (hl:l≤8589934592) (hl1:1≤l) (kont: ∀(r:Sl) (c:Bool) (u:Sl) (W':PW),Ext W W'→(Ab3 141 W' r c u (p/q))→K (.tuple #[.agg #[Sl.v r,.bool c,Sl.v u],.bool (decide (q≠0))]) W'):
  Aa1 Tryz.prog W0 M 40 [.agg #[s.v,.bool b,t.v],.agg #[s'.v,.bool b',t'.v]] W K:=
 Aa2 (fun W' hE=>Gd6 (M:=fun _=>False) (h1.ext hE) (h2.ext hE) hp hq hk hl hl1) (fun W' v W'' hE hE' hP=>by
  obtain⟨r,c,u,rfl,h⟩:=hP
  exact kont r c u W'' (hE.trans hE') h)
theorem Fa7 {W0:PW} {M:Nat→Prop} {z:Int} (hz:I64 z):
  Aa0 Tryz.prog 23 [.int .i64 z] W0 M fun v W'=>∃(s':Sl),∃(b':Bool),∃(t':Sl),v = .agg #[Sl.v s',.bool b',Sl.v t']∧Ab3 141 W' s' b' t' (z:Rat):=by
 apply Dz9
 refine Bk1 hz fun s3 b4 W2 hE2 h3=>⟨s3,b4,rfl,fun W5 hE5=>⟨s3,b4,⟨none,0,0⟩,rfl,?_,?_⟩⟩
 ·rw[Rat.num_intCast]
  exact h3.ext hE5
 ·have:dn (z:Rat)=0:=by unfold dn;rw[Rat.den_intCast];rfl
  rw[this]
  exact Af6 W5
theorem Ay8 {W0 W:PW} {M:Nat→Prop} {z:Int} {K:Value→PW→Prop} (hz:I64 z) (kont: ∀(s':Sl) (b':Bool) (t':Sl) (W':PW),Ext W W'→(Ab3 141 W' s' b' t' (z:Rat))→K (.agg #[Sl.v s',.bool b',Sl.v t']) W'):
  Aa1 Tryz.prog W0 M 23 [.int .i64 z] W K:=
 Aa2 (fun W' hE=>Fa7 (M:=fun _=>False) hz) (fun W' v W'' hE hE' hP=>by
  obtain⟨s',b',t',rfl,h⟩:=hP
  exact kont s' b' t' W'' (hE.trans hE') h)
end Go.Proofs.YtahohahjnhfedaaGreatDoor
/- Texts of numbers are read: nat.grow, nat.Parse. -/
namespace Go.Proofs.YtahohahjnhfedaaGreatDoor
open Go Go.SX
def Fp6 (W0:PW) (g:Nat) (cs:Array Value) (us:List Nat) (b c0:Nat) (l:List PL) (W:PW):Prop:=
 match l with
 | [.val (.int .u64 c),.val (.int .i64 k)]=>∃(c' k':Nat) (ws:List Nat),c=(c':Int)∧k=(k':Int)∧Aq5 W0 W g cs 141 0 (cv ws)∧ws.length=us.length∧Dig ws∧c'<B∧k'≤us.length∧
   val (ws.take k')+B^k'*c'=val (us.take k')*b+c0∧ws.drop k'=us.drop k'
 | _=>False
def Fq1 (n:Nat) (l:List PL) (W:PW):Nat:=
 match l with
 | [_,.val (.int .i64 k)]=>n-k.toNat
 | _=>0
theorem Ds7 {c d b:Nat} (hc:c<B) (hd:d<B) (hb:b<B):(c+d*b)/B<B∧c+d*b<18446744073709551616:=by
 have h1:d*b≤(B-1)*(B-1):=Nat.mul_le_mul (by omega) (by omega)
 unfold B at *
 constructor<;>omega
theorem Ec7 {W0:PW} {s:Sl} {us:List Nat} {b c:Nat} (h:Go.SX.Own W0 141 1 s (cel us)) (hd:Dig us) (ht:Trim us) (hb:b<B) (hb0:0<b) (hc:c<B) (hl:us.length≤5000):
  Aa0 Tryz.prog 97 [s.v,.int .u32 (b:Int),.int .u32 (c:Int)] W0 (fun g=>s.v.ownBlock=some g) fun v W'=>∃s',v=Sl.v s'∧Go.SX.Own W' 141 1 s' (cel (dg (val us*b+c)))∧∀g,s'.v.ownBlock=some g→s.v.ownBlock=some g∨W0.w.heap.size≤g:=by
 apply Db4
 have hB:B=4294967296:=rfl
 have hsn:=h.n
 rw[Aa5] at hsn
 have ew: ∀x:Nat,x<B→IntKind.wrap .u64 (x:Int)=(x:Int):=fun x hx=>Ab1 (by omega)
 by_cases hne:us = []
 ·subst hne
  refine⟨fun l W=>match l with | [.val (.int .u64 c'),.val (.int .i64 k)]=>Ext W0 W∧c'=(c:Int)∧k=0 | _=>False,fun _ _=>0,?_,?_⟩
  ·rw[ew c hc]
   exact⟨Ext.refl _,rfl,rfl⟩
  rintro i3 i4 W5 ⟨hE,rfl,rfl⟩
  simp at hsn
  refine⟨fun hlt=>(by omega),fun _=>⟨fun hpos=>?_,fun hz W11 hE11=>?_⟩⟩
  ·intro W' hE'
   refine⟨cel [],(h.ext hE).ext hE',fun g hg=>Or.inl hg,by simp[cel],fun s' W'' hX hO hN W10 hE10=>⟨s',rfl,?_,fun g hg=>(hN g hg).imp id fun h=>Nat.le_trans (Nat.le_trans hE.size hE'.size) h⟩⟩
   have e:dg (val []*b+c) = [c]:=by
    simp only[val,Nat.zero_mul,Nat.zero_add]
    rw[Bk2 (by omega),Nat.mod_eq_of_lt hc,Nat.div_eq_of_lt hc,Ae8]
   rw[e]
   have:=hO.ext hE10
   rw[Ab9,Nat.mod_eq_of_lt hc] at this
   exact this
  ·have:c=0:=by omega
   subst this
   refine⟨s,rfl,?_,fun g hg=>.inl hg⟩
   simpa[val,Ae8] using(h.ext hE).ext hE11
 ·obtain⟨g,cs,hm,hg⟩:=h.mut hne
  have hlp:=List.length_pos_iff.2 hne
  refine⟨Fp6 W0 g cs us b c,Fq1 us.length,?_,?_⟩
  ·rw[ew c hc]
   exact⟨c,0,us,rfl,rfl,hm.start (Ext.refl _),rfl,hd,hc,by omega,by simp[val],rfl⟩
  rintro i3 i4 W5 ⟨c',k,ws,rfl,rfl,hp,hwl,hdw,hcc,hk,hv,hdr⟩
  have hm5:=hm.put hp hwl
  refine⟨fun hlt=>?_,fun hge=>?_⟩
  ·have hku:k<us.length:=by omega
   have hkw:k<ws.length:=by omega
   have hwk:ws[k]?=some us[k]:=by
    have:=congrArg (fun l=>l[0]?) hdr
    simpa[List.getElem?_drop,hku] using this
   have hdk:=hd.at hku
   have hcl:=Ds7 hcc hdk hb
   have hdb:us[k]*b<18446744073709551616:=by omega
   have e:IntKind.wrap .u64 ((c':Int)+IntKind.wrap .u64 (IntKind.wrap .u64 ((us[k]:Nat):Int)*IntKind.wrap .u64 (b:Int)))=((c'+us[k]*b:Nat):Int):=by
    rw[ew _ hdk,ew b hb,←Int.natCast_mul,Ab1 hdb,←Int.natCast_add,Ab1 hcl.2]
   have hin:=(hm5.row).inB (i:=(k:Int)) (by omega) (by omega)
   refine⟨hin,((us[k]:Nat):Int),(hm5.row).atq hwk,hin,?_⟩
   rw[e]
   rw[show Int.toNat (k:Int)=k from rfl,Nat.mul_one,Nat.add_zero,Ab9]
   refine Ar7 hm hp hwl hkw (Or.inl hg) fun W7 hp7=>⟨by unfold I64;omega,?_,?_⟩
   ·rw[Ao0]
    refine⟨_,k+1,_,rfl,by push_cast;rfl,hp7,by simpa using hwl,Dig.set hdw (Nat.mod_lt _ Ad3),hcl.1,by omega,?_,?_⟩
    ·rw[Ac1 hkw,Aa4 hku,Nat.pow_succ]
     exact grow_step hv
    ·rw[Ah5 (by omega)]
     have:=congrArg (fun l=>l.drop 1) hdr
     simpa using this
   ·show us.length-Int.toNat ((k:Int)+1)<us.length-Int.toNat (k:Int)
    omega
  ·have hku:k=us.length:=by omega
   subst hku
   rw[←hwl,List.take_length,hwl,List.take_length] at hv
   have ho:=h.put hm hp hwl
   refine⟨fun hpos=>?_,fun hz W11 hE11=>?_⟩
   ·intro W' hE'
    refine⟨cel ws,ho.ext hE',fun g hg=>Or.inl hg,by rw[Aa5];simp;omega,fun s' W'' hX hO hN W10 hE10=>⟨s',rfl,?_,fun g hg=>(hN g hg).imp id fun h=>Nat.le_trans (Nat.le_trans hp.ext.size hE'.size) h⟩⟩
    have e:dg (val us*b+c)=ws ++ [c']:=by
     rw[←hv,←hwl,show val ws+B^ws.length*c'=val (ws ++ [c']) by rw[Ag8];simp[val]]
     exact Bk0 (hdw.append (Dig.cons hcc Dig.nil)) (Cx9 (by omega))
    rw[e,←Bh9]
    have:=hO.ext hE10
    rw[Ab9,Nat.mod_eq_of_lt hcc] at this
    exact this
   ·have hc0:c'=0:=by omega
    subst hc0
    rw[Nat.mul_zero,Nat.add_zero] at hv
    refine⟨s,rfl,?_,fun g hg=>.inl hg⟩
    have hwn:ws≠[]:=fun e=>by subst e;simp at hwl;omega
    have:dg (val us*b+c)=ws:=by
     rw[←hv]
     refine Bk0 hdw (Ek5 hdw hwn ?_)
     rw[hv,hwl]
     have h1:=Ee4 hne ht
     have h2:val us*1≤val us*b:=Nat.mul_le_mul_left _ hb0
     omega
    rw[this]
    exact ho.ext hE11
def er {α:Type} (o:Option α):Int:=if o.isSome then 0 else 2
theorem Df6 {W0:PW} {M:Nat→Prop} {a:ByteArray} :
  Aa0 Tryz.prog 58 [.string a] W0 M fun v W'=>∃(s':Sl),v = .tuple #[.agg #[Sl.v s'],.int .i64 (er (Ad2 a))]∧Aa6 141 W' s' ((Ad2 a).getD 0):=by
 apply Ch1
 have bad:¬Cv5 a→∀W':PW,∃s':Sl,(Value.tuple #[.agg #[.slice none 0 0],.int .i64 2]) = .tuple #[.agg #[Sl.v s'],.int .i64 (er (Ad2 a))]∧Aa6 141 W' s' ((Ad2 a).getD 0):=by
  intro h W'
  rw[Bh4 h]
  exact⟨⟨none,0,0⟩,rfl,Af6 W'⟩
 have hs0:Ae2 a 0=(sb a 0:Int):=Ao5 a 0
 refine⟨fun l W=>match l with | [.cells [.slice _ _ _]]=>a.size≠0∧a.size≤4000∧¬(sb a 0=48∧1<a.size)∧W0.w.heap.size≤W.w.heap.size | _=>False,⟨fun h=>fun W2 _=>bad ?_ W2,fun h=>⟨fun hl=>fun W2 _=>bad ?_ W2,fun hl=>⟨?_,fun h0=>⟨fun h1 W6 _=>bad ?_ W6,fun h1=>?_⟩,fun h0=>?_⟩⟩⟩,?_⟩
 ·rintro⟨h1,_⟩
  exact Bi0.2 h1 h
 ·rintro⟨_,h1,_⟩
  omega
 ·have:=Bi0.1 h
  omega
 ·rintro⟨_,_,h2,_⟩
  exact h2 ⟨by omega,by omega⟩
 ·exact⟨Bi0.1 h,by omega,by omega,Nat.le_refl _⟩
 ·exact⟨Bi0.1 h,by omega,by omega,Nat.le_refl _⟩
 rintro s8 W9 ⟨hz,h4,h48,hw9⟩
 refine⟨fun l W=>match l with | [.val (.slice A n c),.val (.int .i64 i),.cells [.slice _ _ _]]=>(∃k:Nat,i=(k:Int)∧k≤a.size∧(∀j,j<k→48≤sb a j∧sb a j≤57)∧Go.SX.Own W 141 1 ⟨A,n,c⟩ (cel (dg (dv a k)))∧Aq4 W0 ⟨A,n,c⟩∧W0.w.heap.size≤W.w.heap.size) | _=>False,
  fun l _=>match l with | [_,.val (.int .i64 i),_]=>a.size-i.toNat | _=>0,⟨0,rfl,Nat.zero_le _,fun j h=>(by omega),?_,?_,hw9⟩,?_⟩
 ·exact Dd0 W9
 ·intro g hg
  simp[Sl.v,Value.ownBlock] at hg
 rintro s12 s13 i14 W15 ⟨k,rfl,hk,hdk,hO,hF,hw⟩
 have hO:Go.SX.Own W15 141 1 s13 (cel (dg (dv a k))):=hO
 have hF:Aq4 W0 s13:=hF
 have hsk:Ae2 a (Int.toNat (k:Int))=(sb a k:Int):=Ao5 a k
 refine⟨fun hlt=>⟨fun l W=>match l with | [_,_,_,_,_,.cells [.slice _ _ _]]=>Ext W15 W∧48≤sb a k∧sb a k≤57 | _=>False,⟨by omega,fun hb=>fun W17 _=>bad ?_ W17,fun hb=>⟨by omega,fun hb2 W18 _=>bad ?_ W18,fun hb2=>⟨Ext.refl _,by omega,by omega⟩⟩⟩,?_⟩,fun hge W29 hE29=>?_⟩
 ·rintro⟨_,_,_,h⟩
  have:=h k (by omega)
  omega
 ·rintro⟨_,_,_,h⟩
  have:=h k (by omega)
  omega
 ·rintro s19 t20 i21 b22 t23 i24 W25 ⟨hE25,hb1,hb2⟩
  refine⟨by omega,?_⟩
  rw[show Int.toNat (k:Int)=k from rfl,dgt hb1 hb2]
  intro W' hE'
  refine⟨_,_,Ec7 (b:=10) (c:=sb a k-48) ((hO.ext hE25).ext hE') (Ad8 _) (Df1 _) (by decide) (by decide) (by unfold B;omega) (by have:=Fn5 hdk (by omega);unfold nl at this;omega),?_,?_⟩
  ·intro g hg
   have hO':=(hO.ext hE25).ext hE'
   exact⟨hO'.2 g hg,.inr (hF g hg)⟩
  ·rintro v W'' hX ⟨s',rfl,hO2,hN⟩
   rw[Ac5] at hO2
   refine⟨s',rfl,by unfold I64;omega,⟨k+1,by push_cast;rfl,by omega,?_,hO2,?_,Nat.le_trans (Nat.le_trans hw (Nat.le_trans hE25.size hE'.size)) hX.size⟩,?_⟩
   ·intro j hj
    by_cases e:j=k
    ·subst e;exact⟨hb1,hb2⟩
    ·exact hdk j (by omega)
   ·intro g hg
    rcases hN g hg with h | h
    ·exact hF g h
    ·exact Nat.le_trans (Nat.le_trans hw (Nat.le_trans hE25.size hE'.size)) h
   ·show a.size-Int.toNat ((k:Int)+1)<a.size-Int.toNat (k:Int)
    omega
 ·have hk':k=a.size:=by omega
  subst hk'
  have hg:Cv5 a:=⟨hz,h4,h48,hdk⟩
  rw[Bu4 hg]
  exact⟨s13,rfl,(hO.ext hE29).row⟩
theorem Au3 {W0 W:PW} {M:Nat→Prop} {a:ByteArray} {K:Value→PW→Prop} (kont: ∀(s':Sl) (W':PW),Ext W W'→(Aa6 141 W' s' ((Ad2 a).getD 0))→K (.tuple #[.agg #[Sl.v s'],.int .i64 (er (Ad2 a))]) W'):
  Aa1 Tryz.prog W0 M 58 [.string a] W K:=
 Aa2 (fun W' hE=>Df6 (M:=fun _=>False) ) (fun W' v W'' hE hE' hP=>by
  obtain⟨s',rfl,h⟩:=hP
  exact kont s' W'' (hE.trans hE') h)
end Go.Proofs.YtahohahjnhfedaaGreatDoor
