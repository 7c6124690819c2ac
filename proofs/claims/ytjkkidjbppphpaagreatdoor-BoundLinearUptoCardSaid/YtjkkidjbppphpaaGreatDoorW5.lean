/- nat: Div, Gcd. -/
import Derived.Test.YtjkkidjbppphpaaGreatDoorW4
import Derived.Test.YtjkkidjbppphpaaGreatDoorLib1
import Derived.Test.YtjkkidjbppphpaaGreatDoorR2
import Derived.Test.YtjkkidjbppphpaaGreatDoorR3
set_option linter.unusedVariables false
set_option linter.unusedSimpArgs false
set_option maxRecDepth 100000
namespace Go.Proofs.YtjkkidjbppphpaaGreatDoor
open Go Go.SX
theorem Ep6 {y:Nat} (h:y≠0):B^(nl y-1)≤y:=by
 obtain⟨hk,h1,h2,h3⟩:=Bt4 h
 have:=Nat.mul_le_mul_left (B^(nl y-1)) (Nat.pos_of_ne_zero h1)
 omega
theorem Ew3 {y:Nat} (h:y≠0) (hk:nl y-1<(dg y).length):nl (y*2^(32-Aj9 (dg y)[nl y-1]))=nl y:=by
 obtain⟨hk',h1,h2,h3⟩:=Bt4 h
 obtain⟨t,ht⟩: ∃t,(dg y)[nl y-1]=t:=⟨_,rfl⟩
 rw[ht] at h1 h2 h3⊢
 have hn:nl y≠0:=fun e=>h (Ad0.1 e)
 obtain⟨n,e1,e2,e3⟩:=Ax2 h1
 have hb:n+1≤32:=by rw[←e1];exact Bb9 h2
 have hlo:=Ae6 (Ad8 y) (nl y-1)
 apply Nat.le_antisymm
 ·apply Bc6
  rw[e1]
  have hy:y<B^(nl y-1)*(t+1):=by rw[Nat.mul_add,Nat.mul_one];omega
  have h4:y*2^(32-(n+1))<B^(nl y-1)*(t+1)*2^(32-(n+1)):=Nat.mul_lt_mul_of_pos_right hy (Nat.two_pow_pos _)
  have h5:(t+1)*2^(32-(n+1))≤B:=by
   have:=Nat.mul_le_mul_right (2^(32-(n+1))) (show t+1≤2^(n+1) from e3)
   rw[←Nat.pow_add,show n+1+(32-(n+1))=32 by omega] at this
   exact this
  have h6:=Nat.mul_le_mul_left (B^(nl y-1)) h5
  rw[←Nat.mul_assoc,←Nat.pow_succ,show(nl y-1).succ=nl y by omega] at h6
  omega
 ·exact Ad1 (Nat.le_mul_of_pos_right _ (Nat.two_pow_pos _))
theorem Ej5 {W:PW} {t:TypeId} {sz:Nat} {s:Sl} {xs:List (List Value)} (h:Go.SX.Own W t sz s xs) {a:Addr} (ha:s.A=some a):s.v.ownBlock=some a.block:=by
 simp[Sl.v,Value.ownBlock,ha]
theorem Cd2 {l:List Nat} {k:Nat} (h:k≤l.length) (hv:val l<B^k):val (l.take k)=val l:=by
 have e:=Am8 l h
 have h0:val (l.drop k)=0:=by
  apply Nat.eq_zero_of_not_pos
  intro hp
  have:=Nat.mul_le_mul_left (B^k) hp
  omega
 rw[h0,Nat.mul_zero,Nat.add_zero] at e
 exact e.symm
theorem Cu1 {l:List Nat} (hd:Dig l) {k:Nat} (h:k≤l.length):val (l.drop k)=val l/B^k:=by
 have e:=Am8 l h
 rw[e,Nat.add_mul_div_left _ _ (Nat.pow_pos Ad3),Nat.div_eq_of_lt (Ae6 hd k),Nat.zero_add]
theorem El7 {W0:PW} {M:Nat→Prop} {s t:Sl} {x y:Nat} (h1:Aa6 284 W0 s x) (h2:Aa6 284 W0 t y) (hx:nl x≤137438953472) (hy:nl y≤137438953472):
  Aa0 Tryz.prog 197 [.agg #[s.v],.agg #[t.v]] W0 M fun v W'=>∃(s1:Sl),∃(s2:Sl),v = .tuple #[.agg #[Sl.v s1],.agg #[Sl.v s2],.bool (decide (y≠0))]∧Aa6 284 W' s1 (x/y)∧(y≠0→Aa6 284 W' s2 (x%y)):=by
 apply Dm5
 have n1:=h1.n
 have n2:=h2.n
 have hlx:(dg x).length=nl x:=rfl
 have hly:(dg y).length=nl y:=rfl
 refine⟨fun h0 W1 hE1=>?_,fun h0=>?_⟩
 ·have:y=0:=Ad0.1 (by omega)
  subst this
  exact⟨⟨none,0,0⟩,⟨none,0,0⟩,by simp,by rw[Nat.div_zero];exact Af6 W1,fun h=>absurd rfl h⟩
 have hy0:y≠0:=fun e=>h0 (by rw[n2,e,Ag9];rfl)
 rw[decide_eq_true hy0]
 refine Ap6 h1 h2 (by omega) (by omega) fun W3 hE3 _=>⟨_,rfl,fun hlt W5 hE5=>?_,fun hge=>?_⟩
 ·have hxy:x<y:=by
   apply Nat.lt_of_not_le
   intro h
   rcases Nat.lt_or_eq_of_le h with h | rfl
   ·rw[Aj4 h] at hlt;omega
   ·rw[Ap9] at hlt;omega
  refine⟨⟨none,0,0⟩,s,rfl,by rw[Nat.div_eq_of_lt hxy];exact Af6 W5,fun _=>?_⟩
  rw[Nat.mod_eq_of_lt hxy]
  exact(h1.ext hE3).ext hE5
 have hle:y≤x:=by
  apply Nat.le_of_not_lt
  intro h
  rw[Al0 h] at hge;omega
 have hnl:=Ad1 hle
 have hx0:x≠0:=by omega
 have h1':=h1.ext hE3
 have h2':=h2.ext hE3
 refine⟨fun hone=>?_,fun hmore=>?_⟩
 ·-- one digit
  have hy1:nl y=1:=by omega
  obtain⟨hk,ht1,ht2,ht3⟩:=Bt4 hy0
  simp only[hy1,Nat.sub_self,List.take_zero,val,Nat.pow_zero,Nat.one_mul,Nat.zero_add] at ht1 ht2 ht3
  refine Aa2 (fun W' hE=>Ds4 (M:=fun _=>False) (h1'.ext hE) (by omega)) fun W' v W7 hE' hE7' hP=>?_
  obtain⟨s8,rfl,hO8,hf8⟩:=hP
  have hE7:=hE'.trans hE7'
  have h27:=h2'.ext hE7
  refine⟨s8,rfl,Ad4.inB h27 (by omega) (by omega),_,Ad4.at h27 (i:=0) (by omega),?_⟩
  rw[←ht3]
  have hne:dg x≠[]:=by
   intro e
   have:nl x=0:=by rw[nl,e];rfl
   exact hx0 (Ad0.1 this)
  intro W9 hE9
  obtain⟨g,cs,hm,hgb⟩:=(hO8.ext hE9).mut hne
  refine⟨fun b=>b=g,_,Bw9 hm (Ad8 x) (Nat.pos_of_ne_zero hy0) (by rw[ht3];exact ht2) (by omega),fun g' hg'=>?_,fun v W11 hE11 hP=>?_⟩
  ·subst hg'
   exact⟨hm.S,.inr (Nat.le_trans (Nat.le_trans hE3.size hE'.size) (hf8 _ hgb))⟩
  obtain⟨ws,rfl,hwl,hdw,hwv,hput⟩:=hP
  have hD:=(hm.put hput hwl).row
  rw[Ac5] at hwv
  refine⟨_,rfl,Ap7 hD hdw (by omega) fun s15 W14 hE14 h15=>⟨s15,rfl,?_⟩⟩
  have hmodB:x%y<B:=Nat.lt_trans (Nat.mod_lt _ (Nat.pos_of_ne_zero hy0)) (by rw[ht3];exact ht2)
  rw[Ac5,Ab1 (by unfold B at hmodB;omega)]
  refine As2 (by unfold B at *;omega) fun s18 W17 hE17 h18=>⟨s18,rfl,fun W19 hE19=>⟨s15,s18,rfl,?_,fun _=>h18.ext hE19⟩⟩
  rw[hwv] at h15
  exact(h15.ext hE17).ext hE19
 ·-- long division
  have hy2:2≤nl y:=by
   have:nl y≠0:=fun e=>hy0 (Ad0.1 e)
   omega
  obtain⟨hk,ht1,ht2,ht3⟩:=Bt4 hy0
  have hlen:=Ew3 hy0 hk
  obtain⟨tp,htp⟩: ∃tp,(dg y)[nl y-1]=tp:=⟨_,rfl⟩
  have ex:(t.n:Int)-1=((nl y-1:Nat):Int):=by omega
  rw[ex,show Int.toNat ((nl y-1:Nat):Int)=nl y-1 from rfl]
  refine⟨by unfold I64;omega,Ad4.inB h2' (by omega) (by omega),(tp:Nat),by rw[←htp];exact Ad4.at h2' hk,?_⟩
  rw[htp] at ht1 ht2 ht3 hlen
  obtain⟨sh,hsh⟩: ∃sh,32-Aj9 tp=sh:=⟨_,rfl⟩
  have hsh32:sh<32:=by
   have:Aj9 tp≠0:=fun e=>ht1 (Ag3.1 e)
   omega
  rw[hsh] at hlen
  have hpow:2^sh≤B:=by
   have:=Nat.pow_le_pow_right (by decide:0<2) (show sh≤32 by omega)
   exact this
  refine Dg0 ht2 fun W22 hE22 _=>?_
  rw[hsh]
  refine⟨_,rfl,by unfold I64;omega,Fc8 ?_ 1⟩
  have h1a:=h1'.ext hE22
  have h2a:=h2'.ext hE22
  refine Bt7 h1a (by omega) (by omega) fun s26 W25 hE25 ⟨hf26,hO26⟩=>⟨s26,rfl,?_⟩
  obtain⟨X,hX⟩: ∃X,x*2^sh=X:=⟨_,rfl⟩
  obtain⟨Y,hY⟩: ∃Y,y*2^sh=Y:=⟨_,rfl⟩
  rw[hX] at hO26
  rw[hY] at hlen
  have hXB:X<B^(nl x+1):=by
   rw[←hX,Nat.pow_succ]
   exact Nat.mul_lt_mul_of_lt_of_le (Bb4 x) hpow Ad3
  have hXn:nl X≤nl x+1:=Bc6 hXB
  have hXn2:nl x≤nl X:=by rw[←hX];exact Ad1 (Nat.le_mul_of_pos_right _ (Nat.two_pow_pos _))
  intro W27 hE27
  refine⟨cel (dg X),hO26.ext hE27,fun g hg=>.inr (Nat.le_trans (Nat.le_trans hE3.size hE22.size) (hf26 g hg)),?_,fun s27 W28 hE28 hO27 hb27=>?_⟩
  ·have:(dg X).length=nl X:=rfl
   rw[Aa5]
   simp only[List.length_cons,List.length_nil]
   omega
  have hO27:Go.SX.Own W28 284 1 s27 (cel (dg X ++ [0,0])):=by
   have e:cel (dg X) ++ [[Value.int .u32 0],[Value.int .u32 0]]=cel (dg X ++ [0,0]):=by rw[←Bh9];rfl
   rw[e] at hO27;exact hO27
  have hn27:=hO27.row.1
  have hc27:=hO27.row.2.1
  have hXl:(dg X).length=nl X:=rfl
  rw[Aa5,List.length_append,hXl] at hn27
  simp only[List.length_cons,List.length_nil] at hn27
  have h2W28:Aa6 284 W28 t y:=by
   have hb:Aa6 284 W27 t y:=(h2a.ext hE25).ext hE27
   exact Row.other hb hE28 fun a ha hg=>by
    have hlt:a.block<W22.w.heap.size:=by
     obtain⟨_,_,_,_,h4⟩:=h2a
     rcases h4 with h4 | ⟨b,o,cs,fz,hA,_,hh,_⟩
     ·simp[cel] at h4
      have:nl y=0:=by rw[nl,h4];rfl
      omega
     ·rw[hA] at ha;cases ha
      exact(Array.getElem?_eq_some_iff.1 hh).1
    have:=hf26 _ hg
    omega
  rw[show(s.n:Int)+1=((nl x+1:Nat):Int) by omega,show Int.toNat ((nl x+1:Nat):Int)=nl x+1 from rfl,show Int.toNat 0=0 from rfl]
  have esz:TyI.size Fw6=1:=rfl
  dsimp only
  rw[esz,Sl.Ar0]
  refine⟨⟨by omega,by omega,by omega⟩,?_⟩
  refine Bt7 h2W28 (by omega) (by omega) fun s31 W30 hE30 ⟨hf31,hO31⟩=>⟨s31,rfl,?_⟩
  rw[hY] at hO31
  obtain⟨us,hus⟩: ∃us,(dg X ++ [0,0]).take (nl x+1)=us:=⟨_,rfl⟩
  have husl:us.length=nl x+1:=by rw[←hus];simp;omega
  have hO0:Go.SX.Own W28 284 1 ⟨s27.A,nl x+1,s27.c⟩ (cel us):=by
   have:=hO27.take (k:=nl x+1) (by rw[Aa5,List.length_append,hXl];simp;omega)
   rw[Bo2,hus] at this
   exact this
  have hdus:Dig us:=by
   rw[←hus]
   exact Dig.take ((Ad8 X).append (Dig.cons Ad3 (Dig.cons Ad3 Dig.nil))) _
  have hvus:val us=X:=by
   rw[←hus]
   have e:val (dg X ++ [0,0])=X:=by rw[Ag8,Ac5];simp[val]
   rw[Cd2 (by simp;omega) (by rw[e];exact hXB),e]
  have hYl:(dg Y).length=nl y:=hlen
  have hVU:val (us.drop (us.length-(dg Y).length))<val (dg Y):=by
   rw[Cu1 hdus (by omega),hvus,Ac5,husl,hYl,Nat.div_lt_iff_lt_mul (Nat.pow_pos Ad3)]
   have h3:X<B^nl x*2^sh:=by rw[←hX];exact Nat.mul_lt_mul_of_pos_right (Bb4 x) (Nat.two_pow_pos _)
   have h4:B^nl x=B^(nl y-1)*B^(nl x+1-nl y):=by rw[←Nat.pow_add];congr 1;omega
   have h5:B^(nl y-1)*2^sh≤Y:=by rw[←hY];exact Nat.mul_le_mul_right _ (Ep6 hy0)
   have h6:=Nat.mul_le_mul_right (B^(nl x+1-nl y)) h5
   rw[h4] at h3
   have e7:B^(nl y-1)*B^(nl x+1-nl y)*2^sh=B^(nl y-1)*2^sh*B^(nl x+1-nl y):=by
    rw[Nat.mul_assoc,Nat.mul_comm (B^(nl x+1-nl y)),←Nat.mul_assoc]
   omega
  have htop: ∀h:(dg Y).length-1<(dg Y).length,(dg Y)[(dg Y).length-1]≠0:=fun h=>by
   have hY0:Y≠0:=by
    rw[←hY]
    exact Nat.mul_ne_zero hy0 (by have:=Nat.two_pow_pos sh;omega)
   exact(Bt4 hY0).2.1
  intro W31 hE31
  have hne:us≠[]:=fun e=>by rw[e] at husl;simp at husl
  have hOu:=(hO0.ext hE30).ext hE31
  obtain⟨g,cs,hm,hgb⟩:=hOu.mut hne
  obtain⟨_,_,hm28,hgb28⟩:=hO0.mut hne
  have hgg:g<W28.w.heap.size:=by
   have e:=hm28.A
   rw[hm.A] at e
   cases e
   exact hm28.lt
  have hmay:may W0 M g:=by
   rcases hb27 g (Cj9 hgb) with h | h
   ·exact .inr (Nat.le_trans (Nat.le_trans hE3.size hE22.size) (hf26 g h))
   ·exact .inr (Nat.le_trans (Nat.le_trans (Nat.le_trans hE3.size hE22.size) (Nat.le_trans hE25.size hE27.size)) h)
  have hvne: ∀a:Addr,s31.A=some a→a.block≠g:=fun a ha e=>by
   have:=hf31 _ (Ej5 hO31 ha)
   omega
  have hOv:=hO31.ext hE31
  refine⟨fun b=>b=g,_,Ea3 hm (fun _ _=>trivial) hOv.row hvne (by omega) (by omega) hdus (Ad8 Y) htop hVU (by omega),fun g' hg'=>by subst hg';exact⟨hm.S,hmay⟩,fun v W33 hE33 hP=>?_⟩
  obtain⟨s34,ws,zs,rfl,hO34,hf34,hzl,hdz,hwl,hdw,hput,hval,hlt⟩:=hP
  rw[Ac5] at hval hlt
  rw[hvus] at hval
  have hYp:0<Y:=by omega
  have hq:val zs=x/y:=by
   have h3:X/Y=val zs:=by rw[hval,Nat.add_mul_div_left _ _ hYp,Nat.div_eq_of_lt hlt,Nat.zero_add]
   rw[←h3,←hX,←hY,Nat.mul_div_mul_right _ _ (Nat.two_pow_pos sh)]
  have hr:val ws=x%y*2^sh:=by
   have h3:X%Y=val ws:=by rw[hval,Nat.add_mul_mod_self_left,Nat.mod_eq_of_lt hlt]
   rw[←h3,←hX,←hY,Nat.mul_mod_mul_right]
  have hD:=(hm.put hput hwl).row
  refine⟨s34,rfl,Ap7 hO34.row hdz (by omega) fun s37 W36 hE36 h37=>⟨s37,rfl,?_⟩⟩
  refine Ap7 (hD.ext hE36) hdw (by omega) fun s40 W39 hE39 h40=>⟨s40,rfl,?_⟩
  have hwn:nl (val ws)≤nl x+1:=Bc6 (by
   have:=Ax5 hdw
   rwa [hwl,husl] at this)
  refine Br2 h40 (by omega) (by omega) fun s43 W42 hE42 h43=>⟨s43,rfl,fun W44 hE44=>⟨s37,s43,rfl,?_,fun _=>?_⟩⟩
  ·rw[hq] at h37
   exact((h37.ext hE39).ext hE42).ext hE44
  ·rw[hr,Nat.mul_div_cancel _ (Nat.two_pow_pos sh)] at h43
   exact h43.ext hE44
theorem At8 {W0 W:PW} {M:Nat→Prop} {s t:Sl} {x y:Nat} {K:Value→PW→Prop} (h1:Aa6 284 W s x) (h2:Aa6 284 W t y) (hx:nl x≤137438953472) (hy:nl y≤137438953472) (kont: ∀(s1:Sl) (s2:Sl) (W':PW),Ext W W'→(Aa6 284 W' s1 (x/y)∧(y≠0→Aa6 284 W' s2 (x%y)))→K (.tuple #[.agg #[Sl.v s1],.agg #[Sl.v s2],.bool (decide (y≠0))]) W'):
  Aa1 Tryz.prog W0 M 197 [.agg #[s.v],.agg #[t.v]] W K:=
 Aa2 (fun W' hE=>El7 (M:=fun _=>False) (h1.ext hE) (h2.ext hE) hx hy) (fun W' v W'' hE hE' hP=>by
  obtain⟨s1,s2,rfl,h⟩:=hP
  exact kont s1 s2 W'' (hE.trans hE') h)
end Go.Proofs.YtjkkidjbppphpaaGreatDoor
/- nat: Gcd. -/
namespace Go.Proofs.YtjkkidjbppphpaaGreatDoor
open Go Go.SX
theorem Bo4 (a b:Nat):Nat.gcd b (a%b)=Nat.gcd a b:=by
 rw[Nat.gcd_comm b,←Nat.gcd_rec,Nat.gcd_comm]
def Fv9 (x y k:Nat) (W0:PW) (l:List PL) (W:PW):Prop:=
 match l with
 | [.cells [.slice A n c],.cells [.slice A' n' c']]=>Ext W0 W∧∃a b,Aa6 284 W ⟨A,n,c⟩ a∧Aa6 284 W ⟨A',n',c'⟩ b∧Nat.gcd a b=Nat.gcd x y∧nl a≤k∧nl b≤k
 | _=>False
noncomputable def slN (W:PW) (t:TypeId) (s:Sl):Nat:=open Classical in if h: ∃b,Aa6 t W s b then Classical.choose h else 0
theorem Dt3 {W:PW} {t:TypeId} {sz:Nat} {s:Sl} {xs ys:List (List Value)} (h:Row W t sz s xs) (k:Row W t sz s ys):xs=ys:=by
 have hl:xs.length=ys.length:=h.1.symm.trans k.1
 apply List.ext_getElem hl
 intro i h1 h2
 have e1:=(h.2.2.2.1 _ (List.getElem_mem h1)).1
 have e2:=(k.2.2.2.1 _ (List.getElem_mem h2)).1
 have a1:Aa7 W s sz i 0 xs[i]:=Row.elem h (List.getElem?_eq_getElem h1) fun j v hj=>by simpa using hj
 have a2:Aa7 W s sz i 0 ys[i]:=Row.elem k (List.getElem?_eq_getElem h2) fun j v hj=>by simpa using hj
 exact Aa7.inj a1 a2 (e1.trans e2.symm)
theorem El8: ∀{l r:List Nat} (_:cel l=cel r),l=r
 | [],[],_=>rfl
 | [],_ :: _,h=>by simp[cel] at h
 | _ :: _,[],h=>by simp[cel] at h
 | a :: l,b :: r,h=>by
  simp only[cel,List.map_cons,List.cons.injEq,Value.int.injEq,true_and,and_true] at h
  have:=El8 (l:=l) (r:=r) h.2
  rw[this]
  congr 1
  omega
theorem Bl5 {W:PW} {t:TypeId} {s:Sl} {b:Nat} (h:Aa6 t W s b):slN W t s=b:=by
 have hex: ∃b,Aa6 t W s b:=⟨b,h⟩
 unfold slN
 rw[dif_pos hex]
 have:=Classical.choose_spec hex
 have e:=El8 (Dt3 this h)
 rw[←Ac5 (Classical.choose hex),e,Ac5]
noncomputable def Fu8 (l:List PL) (W:PW):Nat:=
 match l with
 | [_,.cells [.slice A' n' c']]=>slN W 284 ⟨A',n',c'⟩
 | _=>0
def Fs4 (g:Nat) (W21:PW) (l:List PL) (W:PW):Prop:=
 match l with
 | [.val (.int .u64 a),.val (.int .u64 b)]=>Ext W21 W∧∃a' b':Nat,a=(a':Int)∧b=(b':Int)∧a'<B*B∧b'<B*B∧Nat.gcd a' b'=g
 | _=>False
def Fp9 (l:List PL) (W:PW):Nat:=
 match l with
 | [_,.val (.int .u64 b)]=>b.toNat
 | _=>0
theorem Ek8 {W0:PW} {M:Nat→Prop} {s t:Sl} {x y:Nat} (h1:Aa6 284 W0 s x) (h2:Aa6 284 W0 t y) (hx:nl x≤137438953472) (hy:nl y≤137438953472):
  Aa0 Tryz.prog 194 [.agg #[s.v],.agg #[t.v]] W0 M fun v W'=>∃(s':Sl),v = .agg #[Sl.v s']∧Aa6 284 W' s' (Nat.gcd x y):=by
 apply Dg3
 refine⟨Fv9 x y 137438953472 W0,Fu8,⟨Ext.refl _,x,y,h1,h2,rfl,hx,hy⟩,?_⟩
 rintro s3 s4 W5 ⟨hE5,a,b,ha,hb,hg,hla,hlb⟩
 have ha:Aa6 284 W5 s3 a:=ha
 have hb:Aa6 284 W5 s4 b:=hb
 have nb:=hb.n
 refine⟨fun hlt=>?_,fun hge=>⟨fun h0 W11 hE11=>?_,fun h0=>?_⟩⟩
 ·have hb0:b≠0:=fun e=>by rw[e,Ag9] at nb;omega
  have hmod:=Nat.mod_lt a (Nat.pos_of_ne_zero hb0)
  refine At8 ha hb hla hlb fun s8 s9 W7 hE7 ⟨h8,h9⟩=>⟨_,_,_,rfl,⟨hE5.trans hE7,b,a%b,hb.ext hE7,h9 hb0,by rw[Bo4];exact hg,hlb,Nat.le_trans (Ad1 (Nat.le_of_lt hmod)) hlb⟩,?_⟩
  show slN W7 284 s9<slN W5 284 s4
  rw[Bl5 (h9 hb0),Bl5 hb]
  exact hmod
 ·have hb0:b=0:=Ad0.1 (by omega)
  rw[hb0,Nat.gcd_zero_right] at hg
  exact⟨s3,rfl,by rw[←hg];exact ha.ext hE11⟩
 ·have hb0:b≠0:=fun e=>h0 (by rw[nb,e,Ag9];rfl)
  have hmod:=Nat.mod_lt a (Nat.pos_of_ne_zero hb0)
  have hbB:b<B*B:=by
   have h3:=Bb4 b
   have h4:=Nat.pow_le_pow_right Ad3 (show nl b≤2 by omega)
   rw[Nat.pow_succ,Nat.pow_one] at h4
   omega
  refine At8 ha hb hla hlb fun s14 s15 W13 hE13 ⟨h14,h15⟩=>⟨_,_,_,rfl,?_⟩
  have hr:=h15 hb0
  refine Bw7 (hb.ext hE13) (by omega) fun W18 hE18 _=>⟨_,rfl,?_⟩
  refine Bw7 (hr.ext hE18) (Nat.le_trans (Ad1 (Nat.le_of_lt hmod)) (by omega)) fun W21 hE21 _=>⟨_,rfl,?_⟩
  rw[Nat.mod_eq_of_lt hbB,Nat.mod_eq_of_lt (a:=a%b) (by omega)]
  refine⟨Fs4 (Nat.gcd x y) W21,Fp9,⟨Ext.refl _,b,a%b,rfl,rfl,hbB,by omega,by rw[Bo4];exact hg⟩,?_⟩
  rintro i25 i26 W27 ⟨hE27,p,q,rfl,rfl,hp,hq,hpq⟩
  refine⟨fun hne=>?_,fun hz=>?_⟩
  ·have hq0:q≠0:=fun e=>hne (by rw[e];rfl)
   have hm:=Nat.mod_lt p (Nat.pos_of_ne_zero hq0)
   have e:Int.tmod (p:Int) (q:Int)=((p%q:Nat):Int):=by rw[Int.tmod_eq_emod_of_nonneg (by omega)];rfl
   rw[e]
   exact⟨hne,⟨hE27,q,p%q,rfl,rfl,hq,by omega,by rw[Bo4];exact hpq⟩,by show Int.toNat ((p%q:Nat):Int)<Int.toNat (q:Int);omega⟩
  ·have hq0:q=0:=by
    rcases Nat.eq_zero_or_pos q with h | h
    ·exact h
    ·exact absurd (by omega) hz
   rw[hq0,Nat.gcd_zero_right] at hpq
   refine As2 hp fun s30 W29 hE29 h30=>⟨s30,rfl,fun W31 hE31=>⟨s30,rfl,?_⟩⟩
   rw[←hpq]
   exact h30.ext hE31
theorem Bu2 {W0 W:PW} {M:Nat→Prop} {s t:Sl} {x y:Nat} {K:Value→PW→Prop} (h1:Aa6 284 W s x) (h2:Aa6 284 W t y) (hx:nl x≤137438953472) (hy:nl y≤137438953472) (kont: ∀(s':Sl) (W':PW),Ext W W'→(Aa6 284 W' s' (Nat.gcd x y))→K (.agg #[Sl.v s']) W'):
  Aa1 Tryz.prog W0 M 194 [.agg #[s.v],.agg #[t.v]] W K:=
 Aa2 (fun W' hE=>Ek8 (M:=fun _=>False) (h1.ext hE) (h2.ext hE) hx hy) (fun W' v W'' hE hE' hP=>by
  obtain⟨s',rfl,h⟩:=hP
  exact kont s' W'' (hE.trans hE') h)
end Go.Proofs.YtjkkidjbppphpaaGreatDoor
/- whole. -/
namespace Go.Proofs.YtjkkidjbppphpaaGreatDoor
open Go Go.SX
theorem Cu0 {W0:PW} {M:Nat→Prop} {b:Bool} {s:Sl} {x:Nat} (h:Aa6 284 W0 s x) (hx:nl x≤274877906944):
  Aa0 Tryz.prog 182 [.bool b,.agg #[s.v]] W0 M fun v W'=>∃(s':Sl),∃(b':Bool),v = .agg #[Sl.v s',.bool b']∧Ab5 284 W' s' b' (if b=true then -(x:Int) else(x:Int)):=by
 apply Cc1
 refine⟨fun hb=>?_,fun hb W5 hE5=>⟨s,false,rfl,?_,?_⟩⟩
 ·refine Ac9 h hx fun W2 hE2 _=>⟨_,rfl,fun W4 hE4=>⟨s,_,rfl,?_,?_⟩⟩
  ·rw[if_pos hb,Int.natAbs_neg,Int.natAbs_natCast]
   exact(h.ext hE2).ext hE4
  ·rw[if_pos hb]
   apply decide_eq_decide.2
   have:=Ag3 (x:=x)
   omega
 ·rw[if_neg (by rw[hb];decide),Int.natAbs_natCast]
  exact h.ext hE5
 ·rw[if_neg (by rw[hb];decide)]
  symm
  apply decide_eq_false
  omega
theorem Ad6 {W0 W:PW} {M:Nat→Prop} {b:Bool} {s:Sl} {x:Nat} {K:Value→PW→Prop} (h:Aa6 284 W s x) (hx:nl x≤274877906944) (kont: ∀(s':Sl) (b':Bool) (W':PW),Ext W W'→(Ab5 284 W' s' b' (if b=true then -(x:Int) else(x:Int)))→K (.agg #[Sl.v s',.bool b']) W'):
  Aa1 Tryz.prog W0 M 182 [.bool b,.agg #[s.v]] W K:=
 Aa2 (fun W' hE=>Cu0 (M:=fun _=>False) (h.ext hE) hx) (fun W' v W'' hE hE' hP=>by
  obtain⟨s',b',rfl,h⟩:=hP
  exact kont s' b' W'' (hE.trans hE') h)
theorem Dw3 {W0:PW} {M:Nat→Prop} {z:Int} (hz:I64 z):
  Aa0 Tryz.prog 181 [.int .i64 z] W0 M fun v W'=>∃(s':Sl),∃(b':Bool),v = .agg #[Sl.v s',.bool b']∧Ab5 284 W' s' b' z:=by
 apply Cq3
 unfold I64 at hz
 refine⟨fun hneg=>?_,fun hpos=>?_⟩
 ·have e:IntKind.wrap .u64 (0-IntKind.wrap .u64 z)=((z.natAbs:Nat):Int):=by
   rw[IntKind.wrap_u64,IntKind.wrap_u64];omega
  rw[e]
  have hB:z.natAbs<B*B:=by unfold B;omega
  refine As2 hB fun s3 W2 hE2 h3=>⟨s3,rfl,?_⟩
  have hn:nl z.natAbs≤2:=Bc6 (by rw[Nat.pow_succ,Nat.pow_one];exact hB)
  refine Ad6 h3 (by omega) fun s6 b7 W5 hE5 h6=>⟨s6,b7,rfl,fun W8 hE8=>⟨s6,b7,rfl,?_⟩⟩
  rw[if_pos rfl,show -((z.natAbs:Nat):Int)=z by omega] at h6
  exact h6.ext hE8
 ·have e:IntKind.wrap .u64 z=((z.natAbs:Nat):Int):=by
   rw[IntKind.wrap_u64];omega
  rw[e]
  have hB:z.natAbs<B*B:=by unfold B;omega
  refine As2 hB fun s3 W2 hE2 h3=>⟨s3,rfl,?_⟩
  have hn:nl z.natAbs≤2:=Bc6 (by rw[Nat.pow_succ,Nat.pow_one];exact hB)
  refine Ad6 h3 (by omega) fun s6 b7 W5 hE5 h6=>⟨s6,b7,rfl,fun W8 hE8=>⟨s6,b7,rfl,?_⟩⟩
  rw[if_neg (by decide),show((z.natAbs:Nat):Int)=z by omega] at h6
  exact h6.ext hE8
theorem Bk1 {W0 W:PW} {M:Nat→Prop} {z:Int} {K:Value→PW→Prop} (hz:I64 z) (kont: ∀(s':Sl) (b':Bool) (W':PW),Ext W W'→(Ab5 284 W' s' b' z)→K (.agg #[Sl.v s',.bool b']) W'):
  Aa1 Tryz.prog W0 M 181 [.int .i64 z] W K:=
 Aa2 (fun W' hE=>Dw3 (M:=fun _=>False) hz) (fun W' v W'' hE hE' hP=>by
  obtain⟨s',b',rfl,h⟩:=hP
  exact kont s' b' W'' (hE.trans hE') h)
theorem Cu9 {W0:PW} {M:Nat→Prop} {s:Sl} {b:Bool} {z:Int} (h:Ab5 284 W0 s b z) (hz:nl z.natAbs≤274877906944):
  Aa0 Tryz.prog 111 [.agg #[s.v,.bool b]] W0 M fun v W'=>v = .int .i64 (By8 z)∧True:=by
 apply Bc9
 refine⟨fun hb W1 hE1=>⟨?_,trivial⟩,fun hb=>?_⟩
 ·have:z<0:=by have:=h.2;rw[hb] at this;exact of_decide_eq_true this.symm
  simp[By8,this]
 ·have hnn:¬z<0:=by have:=h.2;rw[hb] at this;exact of_decide_eq_false this.symm
  refine Ac9 h.1 hz fun W3 hE3 _=>⟨_,rfl,fun h0 W5 hE5=>⟨?_,trivial⟩,fun h0 W6 hE6=>⟨?_,trivial⟩⟩
  ·have:=(Ag3 (x:=z.natAbs)).1 (by omega)
   have hz0:z=0:=by omega
   rw[hz0];rfl
  ·have hz0:z≠0:=fun e=>h0 (by rw[e];rfl)
   simp[By8,hnn,hz0]
theorem Ai5 {W0 W:PW} {M:Nat→Prop} {s:Sl} {b:Bool} {z:Int} {K:Value→PW→Prop} (h:Ab5 284 W s b z) (hz:nl z.natAbs≤274877906944) (kont: ∀(W':PW),Ext W W'→(True)→K (.int .i64 (By8 z)) W'):
  Aa1 Tryz.prog W0 M 111 [.agg #[s.v,.bool b]] W K:=
 Aa2 (fun W' hE=>Cu9 (M:=fun _=>False) (h.ext hE) hz) (fun W' v W'' hE hE' hP=>by
  obtain⟨rfl,h⟩:=hP
  exact kont W'' (hE.trans hE') h)
theorem Df2 {W0:PW} {M:Nat→Prop} {s:Sl} {b:Bool} {z:Int} (h:Ab5 284 W0 s b z):
  Aa0 Tryz.prog 183 [.agg #[s.v,.bool b]] W0 M fun v W'=>∃(s':Sl),v = .agg #[Sl.v s']∧Aa6 284 W' s' z.natAbs:=by
 apply Bg7
 exact fun W1 hE1=>⟨s,rfl,h.1.ext hE1⟩
theorem Ag5 {W0 W:PW} {M:Nat→Prop} {s:Sl} {b:Bool} {z:Int} {K:Value→PW→Prop} (h:Ab5 284 W s b z) (kont: ∀(s':Sl) (W':PW),Ext W W'→(Aa6 284 W' s' z.natAbs)→K (.agg #[Sl.v s']) W'):
  Aa1 Tryz.prog W0 M 183 [.agg #[s.v,.bool b]] W K:=
 Aa2 (fun W' hE=>Df2 (M:=fun _=>False) (h.ext hE)) (fun W' v W'' hE hE' hP=>by
  obtain⟨s',rfl,h⟩:=hP
  exact kont s' W'' (hE.trans hE') h)
theorem Gz8 {b:Bool} {z:Int} (h:b=decide (z<0)):(if(!b)=true then -((z.natAbs:Nat):Int) else((z.natAbs:Nat):Int)) = -z:=by
 cases b with
 | true=>
  have:=of_decide_eq_true h.symm
  simp;omega
 | false=>
  have:=of_decide_eq_false h.symm
  simp;omega
theorem Ce6 {b:Bool} {z:Int} (h:b=decide (z<0)):(if b=true then -((z.natAbs:Nat):Int) else((z.natAbs:Nat):Int))=z:=by
 cases b with
 | true=>
  have:=of_decide_eq_true h.symm
  simp;omega
 | false=>
  have:=of_decide_eq_false h.symm
  simp;omega
theorem Gr2 {W0:PW} {M:Nat→Prop} {s:Sl} {b:Bool} {z:Int} (h:Ab5 284 W0 s b z) (hz:nl z.natAbs≤274877906944):
  Aa0 Tryz.prog 254 [.agg #[s.v,.bool b]] W0 M fun v W'=>∃(s':Sl),∃(b':Bool),v = .agg #[Sl.v s',.bool b']∧Ab5 284 W' s' b' (-z):=by
 apply Gm7
 refine Ad6 h.1 hz fun s3 b4 W2 hE2 h3=>⟨s3,b4,rfl,fun W5 hE5=>⟨s3,b4,rfl,?_⟩⟩
 rw[Gz8 h.2] at h3
 exact h3.ext hE5
theorem Gl9 {W0 W:PW} {M:Nat→Prop} {s:Sl} {b:Bool} {z:Int} {K:Value→PW→Prop} (h:Ab5 284 W s b z) (hz:nl z.natAbs≤274877906944) (kont: ∀(s':Sl) (b':Bool) (W':PW),Ext W W'→(Ab5 284 W' s' b' (-z))→K (.agg #[Sl.v s',.bool b']) W'):
  Aa1 Tryz.prog W0 M 254 [.agg #[s.v,.bool b]] W K:=
 Aa2 (fun W' hE=>Gr2 (M:=fun _=>False) (h.ext hE) hz) (fun W' v W'' hE hE' hP=>by
  obtain⟨s',b',rfl,h⟩:=hP
  exact kont s' b' W'' (hE.trans hE') h)
theorem Dh6 {W0:PW} {M:Nat→Prop} {s t:Sl} {b c:Bool} {z w:Int} (h1:Ab5 284 W0 s b z) (h2:Ab5 284 W0 t c w) (hz:nl z.natAbs≤68719476736) (hw:nl w.natAbs≤68719476736):
  Aa0 Tryz.prog 174 [.agg #[s.v,.bool b],.agg #[t.v,.bool c]] W0 M fun v W'=>∃(s':Sl),∃(b':Bool),v = .agg #[Sl.v s',.bool b']∧Ab5 284 W' s' b' (z*w):=by
 apply Cf9
 have hm:=Ae5 z.natAbs w.natAbs
 refine Bb7 h1.1 h2.1 (by omega) (by omega) fun s3 W2 hE2 h3=>⟨s3,rfl,?_⟩
 refine Ad6 h3 (by omega) fun s6 b7 W5 hE5 h6=>⟨s6,b7,rfl,fun W8 hE8=>⟨s6,b7,rfl,?_⟩⟩
 have e:(if decide (b≠c)=true then -((z.natAbs*w.natAbs:Nat):Int) else((z.natAbs*w.natAbs:Nat):Int))=z*w:=by
  have hb:=Ce6 h1.2
  have hc:=Ce6 h2.2
  have e1:=h1.2
  have e2:=h2.2
  rw[←hb,←hc]
  generalize z.natAbs=p
  generalize w.natAbs=q
  cases b<;>cases c<;>simp[Int.mul_neg,Int.neg_mul]
 rw[e] at h6
 exact h6.ext hE8
theorem Ak0 {W0 W:PW} {M:Nat→Prop} {s t:Sl} {b c:Bool} {z w:Int} {K:Value→PW→Prop} (h1:Ab5 284 W s b z) (h2:Ab5 284 W t c w) (hz:nl z.natAbs≤68719476736) (hw:nl w.natAbs≤68719476736) (kont: ∀(s':Sl) (b':Bool) (W':PW),Ext W W'→(Ab5 284 W' s' b' (z*w))→K (.agg #[Sl.v s',.bool b']) W'):
  Aa1 Tryz.prog W0 M 174 [.agg #[s.v,.bool b],.agg #[t.v,.bool c]] W K:=
 Aa2 (fun W' hE=>Dh6 (M:=fun _=>False) (h1.ext hE) (h2.ext hE) hz hw) (fun W' v W'' hE hE' hP=>by
  obtain⟨s',b',rfl,h⟩:=hP
  exact kont s' b' W'' (hE.trans hE') h)
theorem Dj4 {W0:PW} {M:Nat→Prop} {s t:Sl} {b c:Bool} {z w:Int} (h1:Ab5 284 W0 s b z) (h2:Ab5 284 W0 t c w) (hz:nl z.natAbs≤68719476736) (hw:nl w.natAbs≤68719476736):
  Aa0 Tryz.prog 124 [.agg #[s.v,.bool b],.agg #[t.v,.bool c]] W0 M fun v W'=>∃(s':Sl),∃(b':Bool),v = .agg #[Sl.v s',.bool b']∧Ab5 284 W' s' b' (z+w):=by
 apply Cn1
 have e1:=h1.2
 have e2:=h2.2
 have hb:=Ce6 h1.2
 have hc:=Ce6 h2.2
 refine⟨fun hbc=>?_,fun hbc=>?_⟩
 ·have hm:=By9 z.natAbs w.natAbs
  refine Do2 h1.1 h2.1 (by omega) (by omega) fun s3 W2 hE2 h3=>⟨s3,rfl,?_⟩
  refine Ad6 h3 (by omega) fun s6 b7 W5 hE5 h6=>⟨s6,b7,rfl,fun W8 hE8=>⟨s6,b7,rfl,?_⟩⟩
  have e:(if b=true then -((z.natAbs+w.natAbs:Nat):Int) else((z.natAbs+w.natAbs:Nat):Int))=z+w:=by
   rw[←hbc] at hc
   cases b<;>simp at hb hc⊢<;>omega
  rw[e] at h6
  exact h6.ext hE8
 ·refine Bq3 h1.1 h2.1 (by omega) (by omega) fun s11 W10 hE10 h11=>⟨_,_,rfl,fun hle=>?_,fun hle=>?_⟩
  ·have hle:=of_decide_eq_true hle
   refine Ad6 h11 (Nat.le_trans (Ad1 (Nat.sub_le _ _)) (by omega)) fun s15 b16 W14 hE14 h15=>⟨s15,b16,rfl,fun W17 hE17=>⟨s15,b16,rfl,?_⟩⟩
   have e:(if b=true then -((z.natAbs-w.natAbs:Nat):Int) else((z.natAbs-w.natAbs:Nat):Int))=z+w:=by
    cases b<;>cases c<;>simp at hbc hb hc⊢<;>omega
   rw[e] at h15
   exact h15.ext hE17
  ·have hle:=of_decide_eq_false hle
   refine Bq3 (h2.1.ext hE10) (h1.1.ext hE10) (by omega) (by omega) fun s20 W19 hE19 h20=>⟨_,_,rfl,?_⟩
   refine Ad6 h20 (Nat.le_trans (Ad1 (Nat.sub_le _ _)) (by omega)) fun s24 b25 W23 hE23 h24=>⟨s24,b25,rfl,fun W26 hE26=>⟨s24,b25,rfl,?_⟩⟩
   have e:(if c=true then -((w.natAbs-z.natAbs:Nat):Int) else((w.natAbs-z.natAbs:Nat):Int))=z+w:=by
    cases b<;>cases c<;>simp at hbc hb hc⊢<;>omega
   rw[e] at h24
   exact h24.ext hE26
theorem Be4 {W0 W:PW} {M:Nat→Prop} {s t:Sl} {b c:Bool} {z w:Int} {K:Value→PW→Prop} (h1:Ab5 284 W s b z) (h2:Ab5 284 W t c w) (hz:nl z.natAbs≤68719476736) (hw:nl w.natAbs≤68719476736) (kont: ∀(s':Sl) (b':Bool) (W':PW),Ext W W'→(Ab5 284 W' s' b' (z+w))→K (.agg #[Sl.v s',.bool b']) W'):
  Aa1 Tryz.prog W0 M 124 [.agg #[s.v,.bool b],.agg #[t.v,.bool c]] W K:=
 Aa2 (fun W' hE=>Dj4 (M:=fun _=>False) (h1.ext hE) (h2.ext hE) hz hw) (fun W' v W'' hE hE' hP=>by
  obtain⟨s',b',rfl,h⟩:=hP
  exact kont s' b' W'' (hE.trans hE') h)
theorem Dr4 (x y:Nat):Dt2 x y=As4 x y:=by
 rcases Nat.lt_trichotomy x y with h | h | h
 ·rw[Al0 h,Bh1 (by omega)]
 ·subst h;rw[Ap9,Bw1 rfl]
 ·rw[Aj4 h,Bh3 (by omega)]
theorem Dn1 {W0:PW} {M:Nat→Prop} {s t:Sl} {b c:Bool} {z w:Int} (h1:Ab5 284 W0 s b z) (h2:Ab5 284 W0 t c w) (hz:nl z.natAbs≤137438953472) (hw:nl w.natAbs≤137438953472):
  Aa0 Tryz.prog 120 [.agg #[s.v,.bool b],.agg #[t.v,.bool c]] W0 M fun v W'=>v = .int .i64 (As4 z w)∧True:=by
 apply Cj6
 have e1:=h1.2
 have e2:=h2.2
 have hb:b=true→z<0:=fun h=>by rw[h] at e1;exact of_decide_eq_true e1.symm
 have hb':b=false→¬z<0:=fun h=>by rw[h] at e1;exact of_decide_eq_false e1.symm
 have hc:c=true→w<0:=fun h=>by rw[h] at e2;exact of_decide_eq_true e2.symm
 have hc':c=false→¬w<0:=fun h=>by rw[h] at e2;exact of_decide_eq_false e2.symm
 refine⟨fun hne=>⟨fun ht W1 hE1=>⟨?_,trivial⟩,fun hf=>⟨fun _ W2 hE2=>⟨?_,trivial⟩,fun h=>absurd hne h⟩⟩,fun heq=>⟨fun h=>absurd h heq,fun _=>⟨fun ht=>?_,fun hf=>?_⟩⟩⟩
 ·have h3:=hb ht
  have h4:¬w<0:=hc' (by cases c with | false=>rfl | true=>exact absurd ht hne)
  rw[Bh1 (by omega)]
 ·have h3:=hb' hf
  have h4:w<0:=hc (by cases c with | true=>rfl | false=>exact absurd hf hne)
  rw[Bh3 (by omega)]
 ·have h3:=hb ht
  have h4:=hc (by cases c with | true=>rfl | false=>exact absurd (fun e=>by rw[ht] at e;cases e) heq)
  refine Ap6 h2.1 h1.1 (by omega) (by omega) fun W14 hE14 _=>⟨_,rfl,fun W16 hE16=>⟨?_,trivial⟩⟩
  rw[Dr4]
  congr 1
  rcases Int.lt_trichotomy z w with h | h | h
  ·rw[Bh1 h,Bh1 (by omega)]
  ·rw[Bw1 h,Bw1 (by omega)]
  ·rw[Bh3 h,Bh3 (by omega)]
 ·have h3:=hb' hf
  have h4:=hc' (by cases c with | false=>rfl | true=>exact absurd (fun e=>by rw[hf] at e;cases e) heq)
  refine Ap6 h1.1 h2.1 (by omega) (by omega) fun W18 hE18 _=>⟨_,rfl,fun W20 hE20=>⟨?_,trivial⟩⟩
  rw[Dr4]
  congr 1
  rcases Int.lt_trichotomy z w with h | h | h
  ·rw[Bh1 h,Bh1 (by omega)]
  ·rw[Bw1 h,Bw1 (by omega)]
  ·rw[Bh3 h,Bh3 (by omega)]
theorem Ci7 {W0 W:PW} {M:Nat→Prop} {s t:Sl} {b c:Bool} {z w:Int} {K:Value→PW→Prop} (h1:Ab5 284 W s b z) (h2:Ab5 284 W t c w) (hz:nl z.natAbs≤137438953472) (hw:nl w.natAbs≤137438953472) (kont: ∀(W':PW),Ext W W'→(True)→K (.int .i64 (As4 z w)) W'):
  Aa1 Tryz.prog W0 M 120 [.agg #[s.v,.bool b],.agg #[t.v,.bool c]] W K:=
 Aa2 (fun W' hE=>Dn1 (M:=fun _=>False) (h1.ext hE) (h2.ext hE) hz hw) (fun W' v W'' hE hE' hP=>by
  obtain⟨rfl,h⟩:=hP
  exact kont W'' (hE.trans hE') h)
end Go.Proofs.YtjkkidjbppphpaaGreatDoor
/- rat: least. -/
namespace Go.Proofs.YtjkkidjbppphpaaGreatDoor
open Go Go.SX
theorem Dn4 {z:Int} {g:Nat} (hz:z≠0) (hg:g∣z.natAbs):(if decide (By8 z<0)=true then -((z.natAbs/g:Nat):Int) else((z.natAbs/g:Nat):Int))=z/(g:Int):=by
 obtain⟨k,hk⟩:=hg
 rcases Nat.eq_zero_or_pos g with rfl | hg0
 ·omega
 have hkk:z.natAbs/g=k:=by rw[hk,Nat.mul_div_cancel_left _ hg0]
 rw[hkk]
 by_cases h:z<0
 ·have e1:By8 z<0:=by simp[By8,h]
  rw[if_pos (decide_eq_true e1)]
  have e2:z=(g:Int) * -(k:Int):=by
   have:z = -((z.natAbs:Nat):Int):=by omega
   rw[this,hk,Int.natCast_mul,Int.mul_neg]
  rw[e2,Int.mul_ediv_cancel_left _ (by omega)]
 ·have e1:¬By8 z<0:=by simp[By8,h,hz]
  rw[if_neg (by rw[decide_eq_false e1];decide)]
  have e2:z=(g:Int)*(k:Int):=by
   have:z=((z.natAbs:Nat):Int):=by omega
   rw[this,hk,Int.natCast_mul]
  rw[e2,Int.mul_ediv_cancel_left _ (by omega)]
theorem Di9 {W0:PW} {M:Nat→Prop} {s t:Sl} {b:Bool} {z:Int} {y:Nat} (h1:Ab5 284 W0 s b z) (h2:Aa6 284 W0 t y) (hz:nl z.natAbs≤137438953472) (hy:nl y≤137438953472):
  Aa0 Tryz.prog 123 [.agg #[s.v,.bool b],.agg #[t.v]] W0 M fun v W'=>∃(r:Sl),∃(c:Bool),∃(u:Sl),v = .agg #[Sl.v r,.bool c,Sl.v u]∧Ab3 284 W' r c u (mkRat z (max y 1)):=by
 apply Cn8
 have whole: ∀(W:PW),Ext W0 W→mkRat z (max y 1)=(z:Rat)→Ab3 284 W s b ⟨none,0,0⟩ (mkRat z (max y 1)):=fun W hE e=>by
  rw[e]
  refine⟨by rw[Rat.num_intCast];exact h1.ext hE,?_⟩
  have:dn (z:Rat)=0:=by unfold dn;rw[Rat.den_intCast];rfl
  rw[this]
  exact Af6 W
 refine Ac9 h2 (by omega) fun W2 hE2 _=>⟨_,rfl,fun hlt=>fun W4 hE4=>?_,fun hge=>?_⟩
 ·have hy1:y<2:=Ah4.1 (by omega)
  refine⟨s,b,⟨none,0,0⟩,rfl,whole W4 (hE2.trans hE4) ?_⟩
  rw[show max y 1=1 by omega]
  have:=Rat.mkRat_self (z:Rat)
  rwa [Rat.num_intCast,Rat.den_intCast] at this
 have hy2:2≤y:=by
  apply Nat.le_of_not_lt
  intro h
  have:=(Ah4 (x:=y)).2 h
  omega
 refine Ai5 (h1.ext hE2) (by omega) fun W3 hE3 _=>⟨_,rfl,fun h0 W5 hE5=>?_,fun h0=>?_⟩
 ·have hz0:z=0:=by
   unfold By8 at h0
   split at h0
   ·omega
   ·split at h0
    ·assumption
    ·omega
  refine⟨s,b,⟨none,0,0⟩,rfl,whole W5 ((hE2.trans hE3).trans hE5) ?_⟩
  rw[hz0]
  simp
 have hz0:z≠0:=fun e=>h0 (by rw[e];rfl)
 have hmax:max y 1=y:=by omega
 rw[hmax]
 have hy0:y≠0:=by omega
 have hnum:(mkRat z y).num=z/((Nat.gcd y z.natAbs:Nat):Int):=by rw[Rat.num_mkRat,if_neg hy0]
 have hden:(mkRat z y).den=y/Nat.gcd y z.natAbs:=by rw[Rat.den_mkRat,if_neg hy0]
 have hgpos:0<Nat.gcd y z.natAbs:=Nat.gcd_pos_of_pos_left _ (by omega)
 have hgle:Nat.gcd y z.natAbs≤y:=Nat.le_of_dvd (by omega) (Nat.gcd_dvd_left _ _)
 have hgn:nl (Nat.gcd y z.natAbs)≤137438953472:=Nat.le_trans (Ad1 hgle) hy
 have hE03:=hE2.trans hE3
 refine Ag5 (h1.ext hE03) fun s7 W6 hE6 h7=>⟨s7,rfl,?_⟩
 refine Bu2 ((h2.ext hE03).ext hE6) h7 (by omega) (by omega) fun s10 W9 hE9 h10=>⟨s10,rfl,?_⟩
 refine Ac9 h10 (by omega) fun W12 hE11 _=>⟨_,rfl,?_⟩
 have hE12:Ext W0 W12:=((hE03.trans hE6).trans hE9).trans hE11
 have hg10:=h10.ext hE11
 refine⟨fun hgt=>?_,fun hgt=>?_⟩
 ·refine Ag5 (h1.ext hE12) fun s16 W15 hE15 h16=>⟨s16,rfl,?_⟩
  refine At8 h16 (hg10.ext hE15) (by omega) (by omega) fun s19 s20 W18 hE17 ⟨h19,_⟩=>⟨_,_,_,rfl,?_⟩
  have hE18:Ext W0 W18:=hE12.trans (hE15.trans hE17)
  have hEg:Ext W12 W18:=hE15.trans hE17
  refine At8 (h2.ext hE18) (hg10.ext hEg) (by omega) (by omega) fun s24 s25 W23 hE23 ⟨h24,_⟩=>⟨_,_,_,rfl,?_⟩
  refine Ai5 ((h1.ext hE18).ext hE23) (by omega) fun W28 hE28 _=>⟨_,rfl,?_⟩
  refine Ad6 ((h19.ext hE23).ext hE28) (Nat.le_trans (Ad1 (Nat.div_le_self _ _)) (by omega)) fun s32 b33 W31 hE31 h32=>⟨s32,b33,rfl,?_⟩
  rw[Dn4 hz0 (Nat.gcd_dvd_right y z.natAbs),←hnum] at h32
  have h24':=((h24.ext hE28).ext hE31)
  rw[←hden] at h24'
  have hdl:(mkRat z y).den≤y:=by rw[hden];exact Nat.div_le_self _ _
  refine Ac9 h24' (Nat.le_trans (Ad1 hdl) (by omega)) fun W35 hE35 _=>⟨_,rfl,fun hi W37 hE37=>?_,fun hi W38 hE38=>?_⟩
  ·have hd1:(mkRat z y).den=1:=by
    have:=(mkRat z y).den_pos
    have:=(Ah4 (x:=(mkRat z y).den)).1 (by omega)
    omega
   exact⟨s32,b33,⟨none,0,0⟩,rfl,(h32.ext hE35).ext hE37,by rw[dn,if_pos hd1];exact Af6 _⟩
  ·have hd1:(mkRat z y).den≠1:=fun e=>hi (by rw[e];decide)
   exact⟨s32,b33,s24,rfl,(h32.ext hE35).ext hE38,by rw[dn,if_neg hd1];exact(h24'.ext hE35).ext hE38⟩
 ·refine Ac9 (h2.ext hE12) (by omega) fun W111 hE111 _=>⟨_,rfl,fun hi W112 hE112=>absurd ((Ah4 (x:=y)).1 (by omega)) (by omega),fun hi W113 hE113=>?_⟩
  have hg1:Nat.gcd y z.natAbs=1:=by
   have:=(Ah4 (x:=Nat.gcd y z.natAbs)).1 (by omega)
   omega
  have hn1:(mkRat z y).num=z:=by rw[hnum,hg1];simp
  have hd1:(mkRat z y).den=y:=by rw[hden,hg1];simp
  have hEz:=(hE12.trans hE111).trans hE113
  exact⟨s,b,t,rfl,by rw[hn1];exact h1.ext hEz,by rw[dn,hd1,if_neg (by omega)];exact h2.ext hEz⟩
theorem At7 {W0 W:PW} {M:Nat→Prop} {s t:Sl} {b:Bool} {z:Int} {y:Nat} {K:Value→PW→Prop} (h1:Ab5 284 W s b z) (h2:Aa6 284 W t y) (hz:nl z.natAbs≤137438953472) (hy:nl y≤137438953472) (kont: ∀(r:Sl) (c:Bool) (u:Sl) (W':PW),Ext W W'→(Ab3 284 W' r c u (mkRat z (max y 1)))→K (.agg #[Sl.v r,.bool c,Sl.v u]) W'):
  Aa1 Tryz.prog W0 M 123 [.agg #[s.v,.bool b],.agg #[t.v]] W K:=
 Aa2 (fun W' hE=>Di9 (M:=fun _=>False) (h1.ext hE) (h2.ext hE) hz hy) (fun W' v W'' hE hE' hP=>by
  obtain⟨r,c,u,rfl,h⟩:=hP
  exact kont r c u W'' (hE.trans hE') h)
end Go.Proofs.YtjkkidjbppphpaaGreatDoor
