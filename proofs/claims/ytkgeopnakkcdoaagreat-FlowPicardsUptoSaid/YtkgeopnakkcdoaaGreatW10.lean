import Derived.Test.YtkgeopnakkcdoaaGreatW7
import Derived.Test.YtkgeopnakkcdoaaGreatW9
import Derived.Test.YtkgeopnakkcdoaaGreatW8
import Derived.Test.YtkgeopnakkcdoaaGreatLib5
import Derived.Test.YtkgeopnakkcdoaaGreatLib4
import Derived.Test.YtkgeopnakkcdoaaGreatR9
import Derived.Test.YtkgeopnakkcdoaaGreatR6
import Derived.Test.YtkgeopnakkcdoaaGreatW2
import Derived.Test.YtkgeopnakkcdoaaGreatW6
set_option linter.unusedVariables false
set_option linter.unusedSimpArgs false
set_option maxRecDepth 100000
namespace Go.Proofs.YtkgeopnakkcdoaaGreat
open Go Go.SX
variable {j:Nat}{p:List Tm}
def rsT (t:Tm):Tm:=(⟨t.1.x,t.1.y,t.1.z+1⟩,t.2/((t.1.z+1:Int):Rat))
def Ln3 (p:List Tm):List Tm:=p.map rsT
def Mf0 (p:List Tm) (j:Nat):List Tm:=Ln3 (p.take j) ++ p.drop j
theorem Lp3 (p:List Tm):(Ln3 p).length=p.length:=by simp[Ln3]
theorem Mg5 (c:j<p.length):(Mf0 p j)[j]?=some p[j]:=by
 unfold Mf0 Ln3;rw[List.getElem?_append_right (by simp;omega)];simp[Nat.min_eq_left (Nat.le_of_lt c)]
theorem Mf1 (c:j<p.length):(Mf0 p j).set j (rsT p[j])=Mf0 p (j+1):=by
 unfold Mf0 Ln3;have f:(List.map rsT (List.take j p)).length=j:=by simp;omega
 rw[List.set_append_right _ _ (by omega),f,Nat.sub_self,List.drop_eq_getElem_cons c,List.set_cons_zero,List.take_succ_eq_append_getElem c,List.map_append,List.append_assoc];rfl
theorem Mf3 (p:List Tm):Mf0 p p.length=Ln3 p:=by simp[Mf0]
theorem Md7 {e:Int}(h:Gk4 e p)(he:e<=254):Gk4 (e+1) (Ln3 p):=λ t c=>by
 obtain⟨u,hu,rfl⟩:=List.mem_map.1 c;have:=h u hu;unfold Mon.ok at this;unfold rsT Mon.ok;dsimp only;omega
def rsI (s:Sl) (p:List Tm) (L:List PL) (W:PW):Prop:=match L with
 | [.val (.int .i64 i),.cells _]=>∃(j:Nat) (xs:List (List Value)),i=(j:Int)/\j<=p.length/\Go.SX.Own W 180 6 s xs/\An5 (PT 214 W) xs (Mf0 p j)
 | _=>False
theorem Mh1 {W:PW}{W':PW}{g:Nat}{xs:List (List Value)}(hw:Wr 180 g W W')(h:An5 (PT 214 W) xs p):An5 (PT 214 W') xs p:=
 h.mono λ _ _ ⟨c,s1,b,s2,f,n⟩=>⟨c,s1,b,s2,f,hw.rat n (by decide)⟩
def Lo2 (b:Nat->Iv) (n:Int) (x:Mdl):Mdl:=((Lx4 b n (Ag2 (Ln3 x.1))).1,Cb5 (Lx4 b n (Ag2 (Ln3 x.1))).2 (Ay9 x.2 (b 2)))
def Ll9 (b:Nat->Iv) (n:Int):Prop:=Fc6 b n/\(b 2).1=0
instance (b:Nat->Iv) (n:Int):Decidable (Ll9 b n):=by unfold Ll9;infer_instance
def Mh8 (W0:PW) (p:List Tm) (L:List PL) (W:PW):Prop:=match L with
 | [.val (.slice A m c),.val (.int .i64 i),.cells _]=>∃j:Nat,i=(j:Int)/\j<=p.length/\Ext W0 W/\Ag1 214 119 W ⟨A,m,c⟩ (Ag2 (Ln3 (p.take j)))
 | _=>False
end Go.Proofs.YtkgeopnakkcdoaaGreat
namespace Go.Proofs.YtkgeopnakkcdoaaGreat
open Go Go.SX
variable {K:Value->PW->Prop}{M:Nat->Prop}{W W0:PW}{a b:ByteArray}{k:Nat}{l l':List Value}{x:Iv}
def spP (a b:ByteArray):Option Iv:=match Ab7 a,Ab7 b with
 | some p,some q=>if p<=q then some (p,q) else none
 | _,_=>none
theorem Dp3 (h:spP a b=some x):Ab7 a=some x.1/\Ab7 b=some x.2/\x.1<=x.2:=by
 unfold spP at h
 cases c:Ab7 a with
 | none=>rw[c] at h;cases h
 | some p=>
  cases f:Ab7 b with
  | none=>rw[c,f] at h;cases h
  | some q=>
   rw[c,f] at h;dsimp only at h;split at h
   ·cases h;exact⟨rfl,rfl,by assumption⟩
   ·cases h
theorem Bg2 {α:Type}{o:Option α}:er o=0↔o.isSome=true:=by
 unfold er;cases o<;>simp
theorem At4:Sz 4000 ((Ab7 a).getD 0):=by
 cases h:Ab7 a with
 | none=>exact Sz.zero (by omega)
 | some q=>exact(Aw6 h).1
theorem Cq2 (A:a.size<=1099511627776)(B:b.size<=1099511627776):
  Aa0 Tryz.prog 88 [.agg ⟨[.string a,.string b]⟩] W0 M λ v W'=>∃(l:List Value),∃(e:Int),v = .tuple ⟨[.agg ⟨l⟩,.int .i64 e]⟩/\SpV 214 W' l ((spP a b).getD (0,0))/\(e=0↔(spP a b).isSome=true):=by
 apply Bz8;refine As8 A λ s3 C D W2 ab E=>⟨s3,C,D,_,rfl,λ n F ac=>?_,λ heq=>?_⟩
 ·have f:Ab7 a=none:=by
   cases h:Ab7 a with
   | none=>rfl
   | some q=>exact absurd (Bg2.2 (by rw[h];rfl)) n
  have c:spP a b=none:=by unfold spP;rw[f]
  refine⟨_,_,rfl,by rw[c];exact SpV.zero F,?_⟩;rw[c,Bg2,f];simp
 ·have h1:=Bg2.1 (Decidable.not_not.1 heq)
  obtain⟨p,o⟩:=Option.isSome_iff_exists.1 h1;refine As8 B λ G H I W9 J N=>⟨G,H,I,_,rfl,λ n O ae=>?_,λ P=>?_⟩
  ·have f:Ab7 b=none:=by
    cases h:Ab7 b with
    | none=>rfl
    | some q=>exact absurd (Bg2.2 (by rw[h];rfl)) n
   have c:spP a b=none:=by unfold spP;rw[o,f]
   refine⟨_,_,rfl,by rw[c];exact SpV.zero O,?_⟩;rw[c,Bg2,f];simp
  ·have Q:=Bg2.1 (Decidable.not_not.1 P)
   obtain⟨q,u⟩:=Option.isSome_iff_exists.1 Q;have R:=At4 (a:=a);have z2:=At4 (a:=b);refine Cq7 (E.ext J) N R z2 (by omega) λ l af ag r=>?_;rw[o,u] at r⊢;simp only[Option.getD_some] at r⊢;have c:spP a b=if p<=q then some (p,q) else none:=by unfold spP;rw[o,u]
   obtain⟨S,T,U,V,X,Y,rfl,w,y⟩:=r;refine⟨S,T,U,V,X,Y,_,rfl,λ t Z ah=>?_,λ g ai z=>?_⟩
   ·have t:¬p<=q:=by simpa using t
    rw[c,if_neg t];exact⟨_,_,rfl,SpV.zero Z,by decide⟩
   ·have g:p<=q:=by simpa using g
    rw[if_pos g] at w y;rw[c,if_pos g];exact⟨_,_,rfl,SpV.mk (x:=(p,q)) (w.ext z) (y.ext z),by simp⟩
theorem Az3 (f:a.size<=1099511627776)(g:b.size<=1099511627776)(n: ∀(l:List Value) (e:Int) (W':PW),Ext W W'->(SpV 214 W' l ((spP a b).getD (0,0))/\(e=0↔(spP a b).isSome=true))->K (.tuple ⟨[.agg ⟨l⟩,.int .i64 e]⟩) W'):
  Aa1 Tryz.prog W0 M 88 [.agg ⟨[.string a,.string b]⟩] W K:=
 Mi4 (λ _ c=>Cq2 f g) fun | _,W',c,⟨l,e,rfl,h⟩=>n l e W' c h
theorem Bp7 (A:a.size<=1099511627776)(B:b.size<=1099511627776):
  Aa0 Tryz.prog 87 [.agg ⟨[.string a,.string b]⟩] W0 M λ v W'=>∃(l:List Value),∃(e:Int),v = .tuple ⟨[.agg ⟨l⟩,.int .i64 e]⟩/\Ah6 214 W' l ((spP a b).getD (0,0))/\(e=0↔(spP a b).isSome=true):=by
 apply Be5;refine An7 A λ C s4 D Q R f=>⟨C,s4,D,_,rfl,An7 B λ E F G S t g=>⟨E,F,G,_,rfl,λ n H T=>?_,λ I=>⟨λ n J U=>?_,λ N=>?_⟩⟩⟩
 ·have o:Ab7 a=none:=by simpa using n
  have c:spP a b=none:=by unfold spP;rw[o]
  rw[c];exact⟨_,_,rfl,Ah6.zero H,by decide⟩
 ·have o:Ab7 b=none:=by simpa using n
  have c:spP a b=none:=by unfold spP;cases Ab7 a<;>rw[o]
  rw[c];exact⟨_,_,rfl,Ah6.zero J,by decide⟩
 ·obtain⟨p,u⟩:=Option.isSome_iff_exists.1 (show(Ab7 a).isSome=true by simpa using I)
  obtain⟨q,w⟩:=Option.isSome_iff_exists.1 (show(Ab7 b).isSome=true by simpa using N);have r:=At4 (a:=a);have z2:=At4 (a:=b);have c:spP a b=if p<=q then some (p,q) else none:=by unfold spP;rw[u,w]
  rw[u] at f r;rw[w] at g z2;simp only[Option.getD_some] at f g r z2;refine Ar1 (f.ext t) g r z2 (by omega) (by omega) λ V y _=>⟨_,rfl,λ O P X=>?_,λ hle Y z=>?_⟩
  ·have h:¬p<=q:=Rat.not_le.2 (Al3.1 O)
   rw[c,if_neg h];exact⟨_,_,rfl,Ah6.zero P,by decide⟩
  ·have h:p<=q:=Rat.not_lt.1 λ e=>hle (Al3.2 e)
   rw[c,if_pos h];exact⟨_,_,rfl,Ah6.mk (x:=(p,q)) (f.ext (t.trans (y.trans z))) (g.ext (y.trans z)),by simp⟩
theorem Bh8 (f:a.size<=1099511627776)(g:b.size<=1099511627776)(n: ∀(l:List Value) (e:Int) (W':PW),Ext W W'->(Ah6 214 W' l ((spP a b).getD (0,0))/\(e=0↔(spP a b).isSome=true))->K (.tuple ⟨[.agg ⟨l⟩,.int .i64 e]⟩) W'):
  Aa1 Tryz.prog W0 M 87 [.agg ⟨[.string a,.string b]⟩] W K:=
 Mi4 (λ _ c=>Bp7 f g) fun | _,W',c,⟨l,e,rfl,h⟩=>n l e W' c h
theorem En6 (h1:SpV 214 W0 l x)(f:Ah6 214 W0 l' x)(c:IvS k x)(hk:k<=100000000):
  Aa0 Tryz.prog 56 [.agg ⟨l⟩,.agg ⟨l'⟩] W0 M λ v W'=>v = .bool true/\True:=by
 obtain⟨s0,b0,t0,s1,b1,t1,rfl,h1,h⟩:=h1;obtain⟨s2,b2,t2,s3,o,t3,rfl,f,n⟩:=f;apply Df9;exact Bv1 h1 f c.1 c.1 hk λ q g _=>⟨_,rfl,λ _=>Bv1 (h.ext g) (n.ext g) c.2 c.2 hk λ r t _=>⟨_,rfl,λ u _=>⟨by rw[decide_eq_true rfl],trivial⟩⟩,λ e=>absurd e (by simp)⟩
theorem Bt3 (h1:SpV 214 W l x)(f:Ah6 214 W l' x)(g:IvS k x)(hk:k<=100000000)(n: ∀(W':PW),Ext W W'->(True)->K (.bool true) W'):
  Aa1 Tryz.prog W0 M 56 [.agg ⟨l⟩,.agg ⟨l'⟩] W K:=
 Mi4 (λ _ c=>En6 (h1.ext c) (f.ext c) g hk) fun | _,W',c,⟨rfl,h⟩=>n W' c h
theorem Es4 (g:a.size<=1099511627776)(n:b.size<=1099511627776):
  Aa0 Tryz.prog 35 [.agg ⟨[.string a,.string b]⟩] W0 M λ v W'=>∃(l:List Value),∃(l':List Value),∃(ok:Bool),∃(x:Iv),v = .tuple ⟨[.agg ⟨l⟩,.agg ⟨l'⟩,.bool ok]⟩/\SpV 214 W' l x/\Ah6 214 W' l' x/\(ok=true->spP a b=some x/\a.size<=60/\b.size<=60)/\(ok=false->x=(0,0)/\¬((spP a b).isSome=true/\a.size<=60/\b.size<=60)):=by
 apply Dh3;have bad: ∀(W':PW),¬((spP a b).isSome=true/\a.size<=60/\b.size<=60)->∃(l:List Value) (l':List Value) (ok:Bool) (x:Iv),Value.tuple ⟨[.agg ⟨[.slice none 0 0,.bool false,.slice none 0 0,.slice none 0 0,.bool false,.slice none 0 0]⟩,.agg ⟨[.bool false,.slice none 0 0,.slice none 0 0,.bool false,.slice none 0 0,.slice none 0 0]⟩,.bool false]⟩ = .tuple ⟨[.agg ⟨l⟩,.agg ⟨l'⟩,.bool ok]⟩/\
   SpV 214 W' l x/\Ah6 214 W' l' x/\(ok=true->spP a b=some x/\a.size<=60/\b.size<=60)/\(ok=false->x=(0,0)/\¬((spP a b).isSome=true/\a.size<=60/\b.size<=60)):=
  λ W' u=>⟨_,_,_,(0,0),rfl,SpV.zero W',Ah6.zero W',λ e=>(by cases e),λ _=>⟨rfl,u⟩⟩
 refine Bh8 g n λ l e U V ⟨w,he⟩=>?_;obtain⟨y,s4,z,A,B,C,rfl,o,q⟩:=w;refine⟨y,s4,z,A,B,C,e,rfl,λ D E _=>bad E λ h=>D (he.2 h.1),λ heq=>⟨λ F G _=>bad G λ h=>by omega,λ F=>⟨λ H I _=>bad I λ h=>by omega,λ H=>?_⟩⟩⟩;obtain⟨x,f⟩:=Option.isSome_iff_exists.1 (he.1 (Decidable.not_not.1 heq));rw[f] at o q;refine Az3 g n λ l J X r ⟨t,_⟩=>?_;rw[f] at t;obtain⟨N,O,P,Q,R,S,rfl,q1,T⟩:=t;refine⟨N,O,P,Q,R,S,J,rfl,λ Y c=>⟨_,_,_,x,rfl,SpV.mk (q1.ext c) (T.ext c),Ah6.mk (o.ext (r.trans c)) (q.ext (r.trans c)),λ _=>⟨f,by omega,by omega⟩,λ e=>(by cases e)⟩⟩
theorem Dd8 (f:a.size<=1099511627776)(g:b.size<=1099511627776)(n: ∀(l:List Value) (l':List Value) (ok:Bool) (x:Iv) (W':PW),Ext W W'->(SpV 214 W' l x/\Ah6 214 W' l' x/\(ok=true->spP a b=some x/\a.size<=60/\b.size<=60)/\(ok=false->x=(0,0)/\¬((spP a b).isSome=true/\a.size<=60/\b.size<=60)))->K (.tuple ⟨[.agg ⟨l⟩,.agg ⟨l'⟩,.bool ok]⟩) W'):
  Aa1 Tryz.prog W0 M 35 [.agg ⟨[.string a,.string b]⟩] W K:=
 Mi4 (λ _ c=>Es4 f g) fun | _,W',c,⟨l,l',ok,x,rfl,h⟩=>n l l' ok x W' c h
end Go.Proofs.YtkgeopnakkcdoaaGreat
namespace Go.Proofs.YtkgeopnakkcdoaaGreat
open Go Go.SX
structure Ln7 (b:Nat->Iv):Prop where
 bd: ∀i,BdI 7 (b i)
 ord: ∀i,(b i).1<=(b i).2
theorem Ln7.zero:Ln7 λ _=>(0,0):=⟨λ _=>BdI.zero (by omega),λ _=>Rat.le_refl⟩
theorem Mh5 {a:ByteArray}{b:ByteArray}{x:Iv}(h:spP a b=some x)(c:a.size<=20)(f:b.size<=20):IvS 3 x/\x.1<=x.2:=by
 obtain⟨h1,g,n⟩:=Dp3 h;exact⟨⟨(Aw6 h1).2 c,(Aw6 g).2 f⟩,n⟩
end Go.Proofs.YtkgeopnakkcdoaaGreat
namespace Go.Proofs.YtkgeopnakkcdoaaGreat
open Go Go.SX
variable {K:Value->PW->Prop}{L:List (Mon×ByteArray)}{M:Nat->Prop}{W W0:PW}{d:ByteArray}{e:Int}{k:Nat}{l l':List Value}{s:Sl}{x:Mdl}
structure MOK (e:Int) (x:Mdl):Prop where
 b:MdB 24013 7 e x
 len:x.1.length<=6
 ord:x.2.1<=x.2.2
theorem Md2 {c:ByteArray}(h:Af3 W0 s L)(u:L.length<=1099511627776)(w: ∀t∈L,t.2.size<=1099511627776)(y:c.size<=1099511627776)(z:d.size<=1099511627776):
  Aa0 Tryz.prog 25 [.agg ⟨[s.v,.string c,.string d]⟩,.int .i64 e] W0 M λ v W'=>∃(l:List Value),∃(l':List Value),∃(ok:Bool),∃(x:Mdl),v = .tuple ⟨[.agg ⟨l⟩,.agg ⟨l'⟩,.bool ok]⟩/\MdV 214 180 W' l x/\Ll6 214 119 W' l' x/\(ok=true->MOK e x):=by
 apply Lx9;have bad: ∀(W':PW),∃(l:List Value) (l':List Value) (ok:Bool) (x:Mdl),Value.tuple ⟨[.agg ⟨[.slice none 0 0,.slice none 0 0,.bool false,.slice none 0 0,.slice none 0 0,.bool false,.slice none 0 0]⟩,.agg ⟨[.slice none 0 0,.bool false,.slice none 0 0,.slice none 0 0,.bool false,.slice none 0 0,.slice none 0 0]⟩,.bool false]⟩ = .tuple ⟨[.agg ⟨l⟩,.agg ⟨l'⟩,.bool ok]⟩/\
   MdV 214 180 W' l x/\Ll6 214 119 W' l' x/\(ok=true->MOK e x):=λ W'=>⟨_,_,_,Lp4,rfl,MdV.zero W',Ll6.zero W',λ e=>(by cases e)⟩
 refine Dn6 h u w λ s3 s4 A W2 aj g=>⟨s3,s4,A,rfl,Dd8 y z λ l l' ok x W7 n ⟨h1,B,C,_⟩=>?_⟩;obtain⟨D,E,F,G,H,I,rfl,J,N⟩:=h1;obtain⟨O,P,Q,R,S,T,rfl,q1,U⟩:=B;refine⟨D,E,F,G,H,I,O,P,Q,R,S,T,ok,rfl,λ _ V _=>bad V,λ X=>⟨λ _ Y _=>bad Y,λ Z=>⟨λ _ aa _=>bad aa,λ h6=>⟨λ _ ab _=>bad ab,λ am=>⟨λ _ ac _=>bad ac,λ an ao f=>?_⟩⟩⟩⟩⟩;obtain⟨p,op,o,p2⟩:=g (by simpa using X);obtain⟨hs,_,_⟩:=C (by simpa using Z);have q:=Mh5 hs (by omega) (by omega);have hn:s.n=L.length:=by obtain⟨xs,⟨_,hr⟩,ha⟩:=h;exact hr.1.trans ha.len
 have r:p.length<=6:=by have:=op.1.len;omega
 have ah:=Bd.Co7 op.1.sz;refine⟨_,_,_,(p,x),rfl,MdV.mk (x:=(p,x)) (o.ext (n.trans f)) (SpV.mk (J.ext f) (N.ext f)),Ll6.mk (x:=(p,x)) (p2.ext (n.trans f)) (Ah6.mk (q1.ext f) (U.ext f)),λ _=>⟨⟨ah.mono ?_,BdI.Co7 q.1,op.1.Aq3,op.exp o.ok⟩,r,q.2⟩⟩;have:=Nat.mul_le_mul_left (4000+2) r;omega
theorem Lz2 {c:ByteArray}(h:Af3 W s L)(g:L.length<=1099511627776)(n: ∀t∈L,t.2.size<=1099511627776)(o:c.size<=1099511627776)(q:d.size<=1099511627776)(r: ∀(l:List Value) (l':List Value) (ok:Bool) (x:Mdl) (W':PW),Ext W W'->(MdV 214 180 W' l x/\Ll6 214 119 W' l' x/\(ok=true->MOK e x))->K (.tuple ⟨[.agg ⟨l⟩,.agg ⟨l'⟩,.bool ok]⟩) W'):
  Aa1 Tryz.prog W0 M 25 [.agg ⟨[s.v,.string c,.string d]⟩,.int .i64 e] W K:=
 Mi4 (λ _ f=>Md2 (h.ext f) g n o q) fun | _,W',f,⟨l,l',ok,x,rfl,h⟩=>r l l' ok x W' f h
theorem Md0 (h1:MdV 214 180 W0 l x)(f:Ll6 214 119 W0 l' x)(g: ∀t∈x.1,Sz k t.2)(h:IvS k x.2)(hk:k<=100000000)(n:x.1.length<=1073741824):
  Aa0 Tryz.prog 16 [.agg ⟨l⟩,.agg ⟨l'⟩] W0 M λ v W'=>v = .bool true/\True:=by
 obtain⟨u,w,y,v0,z,c1,v1,rfl,o,q⟩:=MdV.pts h1;obtain⟨A,B,c2,v2,C,c3,v3,rfl,hyp,r⟩:=Ll6.pts f;apply Lz1;exact Ki6 o hyp g hk n λ D c _=>⟨true,rfl,λ _=>Bt3 (q.ext c) (r.ext c) h hk λ E F _=>⟨true,rfl,λ G _=>⟨rfl,trivial⟩⟩,λ e=>(by cases e)⟩
theorem Ly3 (h1:MdV 214 180 W l x)(f:Ll6 214 119 W l' x)(g: ∀t∈x.1,Sz k t.2)(n:IvS k x.2)(hk:k<=100000000)(o:x.1.length<=1073741824)(q: ∀(W':PW),Ext W W'->(True)->K (.bool true) W'):
  Aa1 Tryz.prog W0 M 16 [.agg ⟨l⟩,.agg ⟨l'⟩] W K:=
 Mi4 (λ _ c=>Md0 (h1.ext c) (f.ext c) g n hk o) fun | _,W',c,⟨rfl,h⟩=>q W' c h
end Go.Proofs.YtkgeopnakkcdoaaGreat
namespace Go.Proofs.YtkgeopnakkcdoaaGreat
open Go Go.SX
variable {K:Value->PW->Prop}{M:Nat->Prop}{W W0:PW}{bs:List Iv}{k:Nat}{s:Sl}
def brI (W0:PW) (bs:List Iv) (L:List PL) (W:PW):Prop:=match L with
 | [.val (.int .i64 i)]=>∃j:Nat,i=(j:Int)/\j<=bs.length/\Ext W0 W/\∀x∈bs.take j,x.1<x.2
 | _=>False
theorem Ey3 {j:Nat}(f:j<bs.length)(h: ∀x∈bs.take j,x.1<x.2)(g:bs[j].1<bs[j].2): ∀x∈bs.take (j+1),x.1<x.2:=λ x c=>by
 rw[List.take_succ_eq_append_getElem f,List.mem_append,List.mem_singleton] at c;rcases c with c | rfl
 ·exact h x c
 ·exact g
theorem Dk1 (h:Bc3 214 W0 s bs)(hk: ∀x∈bs,IvS k x)(E:k<=1048576)(F:bs.length<=1048576):
  Aa0 Tryz.prog 36 [s.v] W0 M λ v W'=>v = .bool (decide (Cn7 bs))/\True:=by
 apply Ck4;have G:=h.n;refine⟨brI W0 bs,cn1 bs.length,⟨0,rfl,Nat.zero_le _,Ext.refl _,λ x f=>(by cases f)⟩,?_⟩;rintro i3 H ⟨j,rfl,I,n,g⟩;have o:=Bc3.ext h n;refine⟨λ J=>?_,λ N=>?_⟩
 ·have c:j<bs.length:=by omega
  obtain⟨x,f,t⟩:=o.at c;obtain⟨u,w,y,z,A,B,rfl,q1,C⟩:=f;have q:=hk _ (List.getElem_mem c);refine⟨o.inB (by omega) (by omega),u,w,y,z,A,B,t 0 rfl,Aj2 q1 C q.1 q.2 (by omega) (by omega) λ O D _=>⟨_,rfl,λ r P _=>⟨?_,trivial⟩,λ r=>⟨by unfold I64;omega,⟨j+1,by push_cast;rfl,by omega,n.trans D,Ey3 c g (At6.1 (by omega))⟩,?_⟩⟩⟩
  ·rw[decide_eq_false λ e=>Rat.not_lt.2 (El9.1 r) (e.2 _ (List.getElem_mem c))]
  ·show bs.length-Int.toNat ((j:Int)+1)<bs.length-Int.toNat (j:Int)
   omega
 ·have:j=bs.length:=by omega
  subst this;rw[List.take_length] at g;refine⟨λ h1 Q _=>⟨?_,trivial⟩,λ h1 R _=>⟨?_,trivial⟩⟩
  ·congr 1
   rw[decide_eq_decide];exact⟨λ h=>⟨⟨by omega,by omega⟩,g⟩,λ h=>by have:=h.1.2;omega⟩
  ·rw[decide_eq_false λ e=>by have:=e.1.1;omega]
theorem Cm2 (h:Bc3 214 W s bs)(hk: ∀x∈bs,IvS k x)(f:k<=1048576)(g:bs.length<=1048576)(n: ∀(W':PW),Ext W W'->(True)->K (.bool (decide (Cn7 bs))) W'):
  Aa1 Tryz.prog W0 M 36 [s.v] W K:=
 Mi4 (λ _ c=>Dk1 (h.ext c) hk f g) fun | _,W',c,⟨rfl,h⟩=>n W' c h
theorem Hf7 (h:Fx4 214 W0 s bs)(hk: ∀x∈bs,IvS k x)(G:k<=1048576)(H:bs.length<=1048576):
  Aa0 Tryz.prog 39 [s.v] W0 M λ v W'=>v = .bool (decide (Cn7 bs))/\True:=by
 apply Hd6;have I:=h.n;refine⟨λ h1 J _=>⟨by rw[decide_eq_false λ e=>by have:=e.1.1;omega],trivial⟩,λ h1=>⟨λ w N _=>⟨by rw[decide_eq_false λ e=>by have:=e.1.2;omega],trivial⟩,λ w=>?_⟩⟩;refine⟨brI W0 bs,cn1 bs.length,⟨0,rfl,Nat.zero_le _,Ext.refl _,λ x f=>(by cases f)⟩,?_⟩;rintro i3 O ⟨j,rfl,P,n,g⟩;have o:=Fx4.ext h n;refine⟨λ Q=>?_,λ R S _=>⟨?_,trivial⟩⟩
 ·have c:j<bs.length:=by omega
  obtain⟨x,f,q⟩:=o.at c;obtain⟨y,z,A,B,C,D,rfl,q1,E⟩:=f;have r:=hk _ (List.getElem_mem c);have t:=o.inB (i:=(j:Int)) (by omega) (by omega);refine⟨t,y,z,A,q 0 rfl,t,B,C,D,q 3 rfl,Ar1 q1 E r.1 r.2 (by omega) (by omega) λ T F _=>⟨_,rfl,λ u U _=>⟨?_,trivial⟩,λ u=>⟨by unfold I64;omega,⟨j+1,by push_cast;rfl,by omega,n.trans F,Ey3 c g (At6.1 (by omega))⟩,?_⟩⟩⟩
  ·rw[decide_eq_false λ e=>Rat.not_lt.2 (El9.1 u) (e.2 _ (List.getElem_mem c))]
  ·show bs.length-Int.toNat ((j:Int)+1)<bs.length-Int.toNat (j:Int)
   omega
 ·have:j=bs.length:=by omega
  subst this;rw[List.take_length] at g;rw[decide_eq_true ⟨⟨by omega,by omega⟩,g⟩]
theorem He1 (h:Fx4 214 W s bs)(hk: ∀x∈bs,IvS k x)(f:k<=1048576)(g:bs.length<=1048576)(n: ∀(W':PW),Ext W W'->(True)->K (.bool (decide (Cn7 bs))) W'):
  Aa1 Tryz.prog W0 M 39 [s.v] W K:=
 Mi4 (λ _ c=>Hf7 (h.ext c) hk f g) fun | _,W',c,⟨rfl,h⟩=>n W' c h
theorem Gv8 (i:Int):Gk4 1 (Dc6 i):=λ t c=>by
 unfold Dc6 at c;split at c
 ·rw[List.mem_singleton.1 c]
  dsimp only;unfold Da3
  (repeat' split)<;>decide
 ·cases c
theorem Gs7 (i:Int):Bd 4 (Dc6 i):=by
 unfold Dc6;split
 ·exact Cq4 (Sz.one (Nat.le_refl 1))
 ·exact⟨1,0,trivial,by decide,by rw[Ax0];omega,by rw[Ag9];omega⟩
theorem Mb4 (i:Int):Av6 (Dc6 i):=by
 unfold Dc6;split
 ·exact⟨List.pairwise_singleton ..,λ t c=>by rw[List.mem_singleton.1 c];show(1:Rat)≠0;decide⟩
 ·exact Av6.nil
def Fj5 (l:List SqP) (bs:List Iv):Prop:=Cn7 bs/\∀s∈l,0<=s.g/\s.g<=(bs.length:Int)
instance (l:List SqP) (bs:List Iv):Decidable (Fj5 l bs):=by unfold Fj5;infer_instance
end Go.Proofs.YtkgeopnakkcdoaaGreat
namespace Go.Proofs.YtkgeopnakkcdoaaGreat
open Go Go.SX
variable {M:Nat->Prop}{W0:PW}{i:Int}{k l:Nat}{p:List Tm}{s:Sl}
def Hj5 (m:Mon) (k:Nat):Mon:=if k=0 then⟨m.x-1,m.y,m.z⟩ else if k=1 then⟨m.x,m.y-1,m.z⟩ else⟨m.x,m.y,m.z-1⟩
def Hc2 (k:Nat) (t:Tm):List Tm:=if 0<An6 t.1 k then[(Hj5 t.1 k,t.2*((An6 t.1 k:Int):Rat))] else[]
def Hc1 (p:List Tm) (k:Nat):List Tm:=p.flatMap (Hc2 k)
def Hc3 (p:List Tm) (i:Int):List Tm:=if 0<=i/\i<3 then Ag2 (Hc1 p i.toNat) else[]
theorem Hc4 {j:Nat}(c:j<p.length)(k:Nat):Hc1 (p.take (j+1)) k=Hc1 (p.take j) k ++ Hc2 k p[j]:=by
 rw[Ce0 c];unfold Hc1;rw[List.flatMap_append];rw[show List.flatMap (Hc2 k) [p[j]]=Hc2 k p[j] from by simp[List.flatMap]]
theorem Ho7 (k:Nat)(t:Tm):(Hc2 k t).length<=1:=by
 unfold Hc2;split<;>simp
theorem Hd4 (p:List Tm)(k:Nat):(Hc1 p k).length<=p.length:=by
 induction p with
 | nil=>simp[Hc1]
 | cons t r ih=>
  have e:Hc1 (t::r) k=Hc2 k t ++ Hc1 r k:=rfl;have:=Ho7 k t;rw[e];simp only[List.length_append,List.length_cons];omega
theorem Hl4 {m:Mon}(h:m.ok)(hk:k<3)(c:0<An6 m k):(Hj5 m k).ok:=by
 unfold Mon.ok at h;unfold An6 at c;unfold Hj5;rcases(by omega:k=0\/k=1\/k=2) with rfl | rfl | rfl
 ·simp at c;exact⟨⟨by show 0<=m.x-1;omega,by show m.x-1<=255;omega⟩,h.2.1,h.2.2⟩
 ·simp at c;exact⟨h.1,⟨by show 0<=m.y-1;omega,by show m.y-1<=255;omega⟩,h.2.2⟩
 ·simp at c;exact⟨h.1,h.2.1,by show 0<=m.z-1;omega,by show m.z-1<=255;omega⟩
theorem Hg5 (h:Bd l p)(c:POk p)(k:Nat):Bd (l+1) (Hc1 p k):=by
 obtain⟨D,N,h1,n,v,w⟩:=h;have key: ∀{p:List Tm} {N:Nat},Fit D N p->POk p->Fit D (N*255) (Hc1 p k):=by
  intro p
  induction p with
  | nil=>intro N _ _;trivial
  | cons t r ih=>
   rintro N ⟨a,b,g1,g2,g3⟩ c;have e:Hc1 (t::r) k=Hc2 k t ++ Hc1 r k:=rfl;rw[e];have o:=ih g3 λ x q=>c x (by simp[q]);have u:Fit D (a*255) (Hc2 k t):=by
    unfold Hc2;split
    ·have hk:=Dg9 (c t (by simp)) k
     have g:Ak3 1 255 ((An6 t.1 k:Int):Rat):=(Ak3.int (An6 t.1 k)).mono (by omega);have f:=g2.mul g;rw[Nat.mul_one] at f;exact⟨a*255,0,by omega,f,trivial⟩
    ·trivial
   have:=u.append o;rw[<-Nat.add_mul] at this;exact this.mono (Nat.mul_le_mul_right _ g1)
 have g:=Ae5 N 255;have f:nl 255<=1:=Bc6 (by decide);exact⟨D,N*255,key h1 c,n,by omega,by omega⟩
theorem Hq5 (m:Mon)(hk:k<3)(r:List Value):As9 (.int .u8 m.x :: .int .u8 m.y :: .int .u8 m.z::r) (0+Int.toNat (k:Int)*1+0) [.int .u8 (An6 m k)]:=by
 rcases(by omega:k=0\/k=1\/k=2) with rfl | rfl | rfl<;>exact⟨by simp,rfl⟩
theorem Hl0 (h:Ab0 214 180 W0 s p)(r:Bd l p)(hl:l<=268435456)(hp:p.length<=1073741824):
  Aa0 Tryz.prog 127 [.agg ⟨[s.v]⟩,.int .i64 i] W0 M λ v W'=>∃(s':Sl),v = .agg ⟨[Sl.v s']⟩/\Ab0 214 180 W' s' (Hc3 p i):=by
 apply Hh0;have hn:=h.n;refine⟨λ H I _=>⟨⟨none,0,0⟩,rfl,?_⟩,λ H=>⟨λ J N _=>⟨⟨none,0,0⟩,rfl,?_⟩,λ J=>?_⟩⟩
 ·unfold Hc3;rw[if_neg (by omega)];exact Ab0.nil I
 ·unfold Hc3;rw[if_neg (by omega)];exact Ab0.nil N
 obtain⟨k,rfl⟩:=Int.eq_ofNat_of_zero_le (by omega:0<=i);have t:k<3:=by omega
 have f:(0:Int)<=(k:Int)/\(k:Int)<3:=⟨by omega,by omega⟩
 refine⟨λ L W=>match L with
  | [.row xs,.val (.int .i64 i)]=>∃j:Nat,i=(j:Int)/\j<=p.length/\Ext W0 W/\An5 (PT 214 W) xs (Hc1 (p.take j) k)
  | _=>False,cnL p.length,⟨0,rfl,by omega,Ext.refl _,trivial⟩,?_⟩
 rintro l5 i6 W7 ⟨j,rfl,hj,n,c⟩;have ak:=c.len;have u:=Hd4 (p.take j) k;rw[List.length_take] at u;refine⟨λ al=>?_,λ am an ao O hO _=>?_⟩
 ·have g:j<p.length:=by omega
  have w:=h.ext n;obtain⟨y,s1,b1,s2,P,_,_,Q⟩:=w.at (List.getElem?_eq_getElem g);have ap:=Dg9 y k;have A:p.length-Int.toNat ((j:Int)+1)<p.length-Int.toNat (j:Int):=by omega
  have C:=Hq5 p[j].1 t [s1.v,.bool b1,s2.v];have hw:IntKind.wrap .u8 (An6 p[j].1 k-1)=An6 p[j].1 k-1\/¬0<An6 p[j].1 k:=by
   by_cases h:0<An6 p[j].1 k
   ·exact .inl (Du1 (by omega) (by omega))
   ·exact .inr h
  refine⟨w.inB (by omega) (by omega),_,_,_,s1,b1,s2,P,f,_,C,λ o=>⟨f,_,C,f,by omega,⟨⟨trivial,λ e=>?_⟩,λ e=>?_⟩,λ e=>?_⟩,λ R=>⟨by unfold I64;omega,⟨j+1,by push_cast;rfl,by omega,n,?_⟩,A⟩⟩
  case refine_4=>
   rw[Hc4 g];unfold Hc2;rw[if_neg R,List.append_nil];exact c
  all_goals
   have S:IntKind.wrap .u8 (An6 p[j].1 k-1)=An6 p[j].1 k-1:=hw.resolve_right (λ h=>h o);have T:=Hl4 y t o;have U:Hc2 k p[j] = [(Hj5 p[j].1 k,p[j].2*((An6 p[j].1 k:Int):Rat))]:=by unfold Hc2;rw[if_pos o]
   have V:k=_:=e;subst V;refine⟨by unfold I64;omega,Ay8 (z:=An6 p[j].1 _) (by unfold I64;omega) λ X Y Z aq q aa=>⟨X,Y,Z,rfl,Ak9 (Q.ext q) aa (r.sz _ (List.getElem_mem g)) ((Ak3.int _).sz (by decide) (k:=l+1) (by rw[Ax0];omega) (Nat.le_trans (Ad1 (by omega:_<=255)) (Nat.le_trans (Bc6 (by decide:255<B^1)) (by omega)))) (by omega) (by omega) λ D E F ar G ab=>⟨D,E,F,rfl,by simp;omega,by unfold I64;omega,⟨j+1,by push_cast;rfl,by omega,n.trans (q.trans G),?_⟩,A⟩⟩⟩;rw[Hc4 g,U];refine(c.mono λ _ _ h=>h.ext (q.trans G)).snoc ⟨T,D,E,F,?_,ab⟩;rw[S];rfl
 ·have:j=p.length:=by omega
  subst this;rw[List.take_length] at c;have u:=Hd4 p k;refine An2 (Bf5 hO.row (c.mono λ _ _ h=>h.ext O)) (Hg5 r h.ok k) (by omega) (by omega) λ s' au av ac=>⟨s',rfl,λ aw ad=>⟨s',rfl,?_⟩⟩;unfold Hc3;rw[if_pos f];exact ac.ext ad
theorem Hg6 {W:PW}{K:Value->PW->Prop}(h:Ab0 214 180 W s p)(f:Bd l p)(g:l<=268435456)(n:p.length<=1073741824)(o: ∀(s':Sl) (W':PW),Ext W W'->(Ab0 214 180 W' s' (Hc3 p i))->K (.agg ⟨[Sl.v s']⟩) W'):
  Aa1 Tryz.prog W0 M 127 [.agg ⟨[s.v]⟩,.int .i64 i] W K:=
 Mi4 (λ _ c=>Hl0 (h.ext c) f g n) fun | _,W',c,⟨s',rfl,h⟩=>o s' W' c h
theorem Hg1 (h:Bd l p)(c:POk p)(i:Int):Bd (l+1) (Hc3 p i):=by
 unfold Hc3;split
 ·exact(Hg5 h c _).norm
 ·obtain⟨D,N,h1,f,g,n⟩:=h
  exact⟨1,0,trivial,by decide,by rw[Ax0];omega,by rw[Ag9];omega⟩
theorem Hj1 (p:List Tm)(i:Int):(Hc3 p i).length<=p.length:=by
 unfold Hc3;split
 ·exact Nat.le_trans (El2 _) (Hd4 p _)
 ·simp
end Go.Proofs.YtkgeopnakkcdoaaGreat
namespace Go.Proofs.YtkgeopnakkcdoaaGreat
open Go Go.SX Go.RowKit Go.Shelf
variable {M:Nat->Prop}{W0:PW}{m:Mon}
attribute [local go_sem] Oper.semAt_some
def Fk6 (c:Nat) (v:Value) (b off:Nat) (zs:List Nat) (pre:List (Nat×Nat)) (W:World):Prop:=W.cell? ⟨c,0,none⟩=some v/\∀j,j<zs.length-pre.length->W.cell? ⟨b,off+j,none⟩=some (.int .u8 ((zs[j]?.getD 0:Nat):Int))
def Cy9 (x:Nat×Nat):Array Value:=#[.int .i64 (x.1:Int),.int .u8 (x.2:Int)]
set_option maxRecDepth 100000 in
set_option maxHeartbeats 2000000 in
theorem Ee1 (n:Nat)(C:1<=n)(c b off cap:Nat)(zs:List Nat)(D:zs.length<=1099511627776):
  Bv9 Fence.wide n Tryz.prog 201 #[.pointer (some ⟨c,0,none⟩)] Cy9 (Fk6 c (.slice (some ⟨b,off,none⟩) zs.length cap) b off zs) (Fi6 zs) (λ xs=>xs=bks zs zs.length) (λ pre=>∃k,k<zs.length/\pre=bks zs (k+1)):=by
 intro l J E W h w o;refine callsIn_of_wp Tryz.func201 rfl trivial ?_ rfl;simp only[Tryz.ntmps201,List.size_toArray,List.length_cons,List.length_nil,Nat.reduceAdd,Nat.reduceSub,Array.replicate_succ,Array.replicate_zero,List.push_toArray,List.append_toArray,List.nil_append,List.cons_append];have F:W.cell? ⟨c,0,none⟩=some (.slice (some ⟨b,off,none⟩) zs.length cap):=(h _ _ o).1
 gi_wp2
 gi_loopw [3,7,8,9,10,11,12,13,14,15,16,17,18] (λ i _ _ _ _ _ _ _ _ _ _ _ _ wr=>∃m:Nat,m<=zs.length/\i = .int .i64 ((m:Int)-1)/\J (bks zs (zs.length-m)) wr)
  (λ i _ _ _ _ _ _ _ _ _ _ _ _ _=>(intOf i+1).toNat)
 case atStart=>exact⟨zs.length,Nat.le_refl _,rfl,by simpa[bks] using o⟩
 case round=>
  obtain⟨m,hm,rfl,f⟩:=hrel;obtain⟨G,y⟩:=h _ _ f
  cases m with
  | zero=>
   gi_wp2
   go_end0
   exact⟨⟨_,rfl⟩,.inl ⟨_,rfl,by simpa using f⟩⟩
  | succ k=>
   have hk:k<zs.length:=by omega
   have z:wr.cell? ⟨b,off+k,none⟩=some (.int .u8 ((zs[k]?.getD 0:Nat):Int)):=y k (by rw[Ah8];omega);have A:((k+1:Nat):Int)-1=(k:Int):=by omega
   have g:bk zs (zs.length-(k+1))=(k,zs[k]?.getD 0):=by simp only[bk];rw[show zs.length-1-(zs.length-(k+1))=k by omega]
   obtain⟨fn,tmps,assign,body,q,r⟩:=w _ (bk zs (zs.length-(k+1))) wr f ⟨by rw[Ah8];omega,by rw[Ah8],by rw[Ah8]⟩;obtain⟨d,B⟩: ∃d,zs[k]?.getD 0=d:=⟨_,rfl⟩;rw[B] at z g;rw[g] at q r;rw[A];dsimp only[Cy9] at q;have t:bks zs (zs.length-(k+1)) ++ [(k,d)]=bks zs (zs.length-(k+1)+1):=by rw[Bo8,g]
   gi_wp2
   refine r.mono ?_;rintro e H (⟨rfl,u⟩ | ⟨rfl,v⟩)
   ·rw[t,show zs.length-(k+1)+1=zs.length-k by omega] at u
    gi_wp2
    go_roundw
    case rel=>exact⟨k,by omega,rfl,u⟩
    case measure=>simp[intOf]
   ·rw[t] at v
    gi_wp2
    refine bodyPost_ret (results_none rfl _ _ _) rfl ?_;exact⟨⟨_,rfl⟩,.inr ⟨_,⟨_,by omega,rfl⟩,v⟩⟩
set_option maxRecDepth 100000 in
set_option maxHeartbeats 2000000 in
theorem Cm4 (n:Nat)(q:1<=n)(c:Nat)(A:Option Addr)(cap:Nat)(Mem:List (Nat×Nat)->World->Prop)(g: ∀pre W,Mem pre W->W.cell? ⟨c,0,none⟩=some (.slice A 0 cap)):
  Bv9 Fence.wide n Tryz.prog 201 #[.pointer (some ⟨c,0,none⟩)] Cy9 Mem (Fi6 []) (λ xs=>xs=bks [] 0) (λ pre=>∃k,k<0/\pre=bks [] (k+1)):=by
 intro l J r W h t f;refine callsIn_of_wp Tryz.func201 rfl trivial ?_ rfl;simp only[Tryz.ntmps201,List.size_toArray,List.length_cons,List.length_nil,Nat.reduceAdd,Nat.reduceSub,Array.replicate_succ,Array.replicate_zero,List.push_toArray,List.append_toArray,List.nil_append,List.cons_append];have u:W.cell? ⟨c,0,none⟩=some (.slice A 0 cap):=g _ _ (h _ _ f)
 gi_wp2
 gi_loopw [3,7,8] (λ i _ _ wr=>i = .int .i64 (-1)/\J [] wr) (λ _ _ _ _=>0)
 case atStart=>exact⟨by simp,f⟩
 case round=>
  obtain⟨rfl,o⟩:=hrel
  gi_wp2
  go_end0
  exact⟨⟨_,rfl⟩,.inl ⟨_,rfl,o⟩⟩
def Fw0 (c:Nat) (A:Option Addr) (cap:Nat) (zs:List Nat) (pre:List (Nat×Nat)) (W:World):Prop:=W.cell? ⟨c,0,none⟩=some (.slice A zs.length cap)/\∀b off,A=some ⟨b,off,none⟩->∀j,j<zs.length-pre.length->W.cell? ⟨b,off+j,none⟩=some (.int .u8 ((zs[j]?.getD 0:Nat):Int))
theorem Fb7 (n:Nat)(f:1<=n)(c:Nat)(A:Option Addr)(cap:Nat)(zs:List Nat)(o:zs.length<=1099511627776)(q:zs = []\/∃b off,A=some ⟨b,off,none⟩):
  Bv9 Fence.wide n Tryz.prog 201 #[.pointer (some ⟨c,0,none⟩)] Cy9 (Fw0 c A cap zs) (Fi6 zs) (λ xs=>xs=bks zs zs.length) (λ pre=>∃k,k<zs.length/\pre=bks zs (k+1)):=by
 rcases q with rfl | ⟨b,off,rfl⟩
 ·exact Cm4 n f c A cap _ λ pre W h=>h.1
 ·intro l J r W g t u
  exact Ee1 n f c b off cap zs o l J r W (λ pre W' h=>⟨(g pre W' h).1,(g pre W' h).2 b off rfl⟩) t u
set_option maxHeartbeats 1000000 in
theorem Cz7 (n:Nat)(a:Option Addr)(len cap:Nat)(w:World):
  CallsIn Fence.wide n Tryz.prog 174 #[.slice a len cap] w λ e w'=>e = .returned (.func (.func 201) #[] #[.pointer (some ⟨w.heap.size,0,none⟩)])/\w'=w.alloc (.cells #[.slice a len cap] 238):=by
 refine callsIn_of_wp Tryz.func174 rfl trivial ?_ rfl;simp only[Tryz.ntmps174,List.size_toArray,List.length_cons,List.length_nil,Nat.reduceAdd,Nat.reduceSub,Array.replicate_succ,Array.replicate_zero,List.push_toArray,List.append_toArray,List.nil_append,List.cons_append]
 gi_wp2
 go_ret
 exact⟨rfl,rfl⟩
def Dn7 (zs:List Nat):Nat:=if 0<zs[2]?.getD 0 then 3 else if 0<zs[1]?.getD 0 then 2 else if 0<zs[0]?.getD 0 then 1 else 0
set_option maxRecDepth 100000 in
set_option maxHeartbeats 4000000 in
theorem Ff2 (n:Nat)(hn:3<=n)(x y z:Nat)(w:World):
  CallsIn Fence.wide n Tryz.prog 130 #[.agg #[.int .u8 (x:Int),.int .u8 (y:Int),.int .u8 (z:Int)]] w λ e W'=>e = .returned (.int .i64 (Dn7 [x,y,z]:Nat))/\An0 w W':=by
 refine callsIn_of_wp_marks Tryz.func130 rfl trivial ?_ rfl;simp only[Tryz.ntmps130,List.size_toArray,List.length_cons,List.length_nil,Nat.reduceAdd,Nat.reduceSub,Array.replicate_succ,Array.replicate_zero,List.push_toArray,List.append_toArray,List.nil_append,List.cons_append]
 gi_wp2
 refine⟨trivial,λ _=>by omega,(Cz7 (n-1) _ _ _ _).mono ?_⟩;rintro e w' ⟨rfl,rfl⟩
 gi_wp2
 obtain⟨o,E⟩: ∃o,(((w.alloc (.cells #[.int .u8 (x:Int),.int .u8 (y:Int),.int .u8 (z:Int)] 117)).alloc (.cells #[.int .i64 0] 3)).alloc (.cells #[.slice (some ⟨w.heap.size,0,none⟩) 3 3] 238))=o:=⟨_,rfl⟩;have ao:o.heap.size=w.heap.size+1+1+1:=by rw[<-E];simp
 have Y:An0 w o:=by rw[<-E];exact⟨((((Below.refl _ w).alloc (Nat.le_refl _) _).alloc (by simp) _).alloc (by simp;omega) _),Nat.le_refl _⟩
 have Z:Boxed o (w.heap.size+1+1) 238 (.slice (some ⟨w.heap.size,0,none⟩) 3 3):=by
  rw[<-E];have:=Boxed.new ((w.alloc (.cells #[.int .u8 (x:Int),.int .u8 (y:Int),.int .u8 (z:Int)] 117)).alloc (.cells #[.int .i64 0] 3)) 238 (.slice (some ⟨w.heap.size,0,none⟩) 3 3)
  simpa using this
 have T:Boxed o (w.heap.size+1) 3 (.int .i64 0):=by
  rw[<-E];have:=Boxed.new (w.alloc (.cells #[.int .u8 (x:Int),.int .u8 (y:Int),.int .u8 (z:Int)] 117)) 3 (.int .i64 0)
  simpa using this.alloc (.cells #[.slice (some ⟨w.heap.size,0,none⟩) 3 3] 238)
 have aa:o.heap[w.heap.size]?=some (.cells #[.int .u8 (x:Int),.int .u8 (y:Int),.int .u8 (z:Int)] 117):=by
  rw[<-E];rw[Below.heap_alloc _ _ _ (by simp;omega),Below.heap_alloc _ _ _ (by simp)];exact World.alloc_heap_new w _
 have hX: ∀j,j<3->o.cell? ⟨w.heap.size,0+j,none⟩=some (.int .u8 ((([x,y,z]:List Nat)[j]?.getD 0:Nat):Int)):=λ j F=>by
  simp only[World.cell?,aa];rcases(by omega:j=0\/j=1\/j=2) with rfl | rfl | rfl<;>rfl
 rw[E];refine As7 (α:=Nat×Nat) (n:=n) rfl (by omega) (gf:=201) (lb:=#[.pointer (some ⟨w.heap.size+1+1,0,none⟩)]) rfl trivial (enters_of Tryz.func201 (by kernel_rfl) rfl)
  (Fb7 (n-1) (by omega) (w.heap.size+1+1) (some ⟨w.heap.size,0,none⟩) 3 [x,y,z] (by simp) (.inr ⟨_,_,rfl⟩)) (λ _=>rfl)
  (λ pre W=>((∀p∈pre,p.2=0)/\W.cell? ⟨w.heap.size+1,0,none⟩=some (.int .i64 0)/\W.frozen? ⟨w.heap.size+1,0,none⟩=false/\(∀j,j<3->W.cell? ⟨w.heap.size,0+j,none⟩=some (.int .u8 ((([x,y,z]:List Nat)[j]?.getD 0:Nat):Int)))/\W.cell? ⟨w.heap.size+1+1,0,none⟩=some (.slice (some ⟨w.heap.size,0,none⟩) 3 3))/\An0 w W)
  (λ c pre W=>(c = .ret/\∃J last,pre=J ++ [last]/\(∀p∈J,p.2=0)/\0<last.2/\W.cell? ⟨w.heap.size+1,0,none⟩=some (.int .i64 ((last.1:Int)+1)))/\An0 w W)
  ?_ ?_ ?_ ?_
  (λ v=>{tmps:=#[.agg #[.int .u8 (x:Int),.int .u8 (y:Int),.int .u8 (z:Int)],.pointer (some ⟨w.heap.size,0,none⟩),.pointer (some ⟨w.heap.size+1,0,none⟩),.int .i64 (v.1:Int),.int .u8 (v.2:Int),.slice (some ⟨w.heap.size,0,none⟩) 3 3,
    .func (.func 201) #[] #[.pointer (some ⟨w.heap.size+1+1,0,none⟩)],.int .i64 (v.1:Int),.int .u8 (v.2:Int),undef,undef,undef,undef],defers:=[] }) ?assign ?body ?done ?stop
 case assign=>
  intro l p W K t;simp only[Cy9]
  gi_wp2
  exact t
 case body=>
  rintro l pre p W ⟨⟨U,G,V,N,O⟩,u⟩ ⟨hlen,ap,ac⟩;have hi:p.1<3:=by rw[ac];simp only[bk];simp;omega
  obtain⟨i,v⟩:=p;dsimp only at *
  gi_wp2
  ·have ad:0<v:=by first | assumption | omega
   exact⟨(KeepsOthers.setCell _ _ _).from _,⟨rfl,pre,(i,v),rfl,U,ad,World.cell?_setCell_same' _ _ _ (by rw[G];rfl)⟩,u.setCell (p:=⟨w.heap.size+1,0,none⟩) (by show w.heap.size<=w.heap.size+1;omega) _⟩
  ·have g:v=0:=by omega
   refine⟨KeepsFrom.refl _ _,trivial,⟨λ p ae=>?_,G,V,N,O⟩,u⟩;rcases List.mem_append.1 ae with h | h
   ·exact U p h
   ·simp at h;subst h;exact g
 case done=>
  rintro D ps W hD rfl ⟨⟨ag,G,V,N,O⟩,u⟩ t
  gi_wp2
  have Q:=(KeepsOthers.setCell W ⟨w.heap.size+1,0,none⟩ (.int .i64 0)).same D _ t rfl;refine⟨by simp,.inl ⟨_,_,rfl,run_takeDeferred Q,?_⟩⟩;have R:=cell_kept (World.cell?_setCell_same' W ⟨w.heap.size+1,0,none⟩ (.int .i64 0) (by rw[G];rfl)) (grownBy_putObj' _ D (.deferred none)) (λ r e=>by cases e;exact⟨_,Q,rfl⟩);refine⟨.int .i64 0,?_,?_,(u.setCell (p:=⟨w.heap.size+1,0,none⟩) (by show w.heap.size<=w.heap.size+1;omega) _).put (by omega) Q rfl rfl⟩
  ·simp[results,Tryz.f130,go_sem,R]
  ·have C: ∀k,k<3->([x,y,z]:List Nat)[3-1-k]?.getD 0=0:=λ k hk=>ag (bk [x,y,z] k) (List.mem_map.2 ⟨k,List.mem_range.2 (by simpa using hk),rfl⟩)
   have g:=C 0 (by omega);have h1:=C 1 (by omega);have X:=C 2 (by omega);simp at g h1 X;simp[Dn7,g,h1,X]
 case stop=>
  rintro D c pre W hD ⟨k,hk,rfl⟩ ⟨⟨rfl,J,last,P,S,f,G⟩,u⟩ t
  gi_wp2
  refine⟨by simp,.inl ⟨_,_,rfl,run_takeDeferred t,?_⟩⟩;rw[Bo8] at P;obtain⟨rfl,e5⟩:=List.append_inj' P rfl;have e6:last=bk [x,y,z] k:=by simpa using e5.symm
  subst e6;have aj:=u.put (o':=.deferred none) (by omega) t rfl rfl;have R:=cell_kept G (grownBy_putObj' _ D (.deferred none)) (λ r e=>by cases e;exact⟨_,t,rfl⟩);have C: ∀j,j<k->([x,y,z]:List Nat)[3-1-j]?.getD 0=0:=λ j F=>S (bk [x,y,z] j) (List.mem_map.2 ⟨j,List.mem_range.2 F,rfl⟩);refine⟨.int .i64 (((bk [x,y,z] k).1:Int)+1),by simp[results,Tryz.f130,go_sem,R],?_,aj⟩;have ar:k<3:=by simpa using hk
  rcases(by omega:k=0\/k=1\/k=2) with rfl | rfl | rfl
  ·have f:0<z:=f
   simp[Dn7,bk,f]
  ·have g:=C 0 (by omega)
   have f:0<y:=f;simp at g;simp[Dn7,bk,f,g]
  ·have g:=C 0 (by omega)
   have h1:=C 1 (by omega);have f:0<x:=f;simp at g h1;simp[Dn7,bk,f,g,h1]
 ·exact Af7.and (Own.Ey9 (λ s A B row q H I=>⟨q.1,cell_kept q.2.1 H I,(frozen_kept q.2.1 H I).trans q.2.2.1,λ j F=>cell_kept (q.2.2.2.1 j F) H I,cell_kept q.2.2.2.2 H I⟩) _) (Am0 (by omega))
 ·exact λ c=>Af7.and (Own.Ey9 (λ s A B row q H I=>by
   obtain⟨hc,J,last,P,S,f,e4⟩:=q;exact⟨hc,J,last,P,S,f,cell_kept e4 H I⟩) _) (Am0 (by omega))
 ·rintro pre W ⟨⟨_,_,_,N,O⟩,u⟩
  refine⟨O,λ b off hA j F=>?_⟩;cases hA;exact N j (by simp at F;omega)
 ·exact⟨⟨by simp,T.cell,T.frozen,hX,Z.cell⟩,Y⟩
def Cx8 (m:Mon):Int:=if 0<m.z then 3 else if 0<m.y then 2 else if 0<m.x then 1 else 0
theorem Dj6 (hm:m.ok):
  Aa0 Tryz.prog 130 [.agg ⟨[.int .u8 m.x,.int .u8 m.y,.int .u8 m.z]⟩] W0 M λ v W'=>v = .int .i64 (Cx8 m)/\True:=by
 refine⟨⟨_,Tryz.func130,rfl,rfl⟩,λ _=>?_⟩;obtain⟨⟨c,_⟩,⟨f,_⟩,z0,_⟩:=hm;obtain⟨mx,h,n⟩:=m;obtain⟨x,rfl⟩:=Int.eq_ofNat_of_zero_le c;obtain⟨y,rfl⟩:=Int.eq_ofNat_of_zero_le f;obtain⟨z,rfl⟩:=Int.eq_ofNat_of_zero_le z0;have:=callsIn_wide.1 (Ff2 5 (by omega) x y z W0.w);have e:((Dn7 [x,y,z]:Nat):Int)=Cx8 ⟨x,y,z⟩:=by
  simp only[Dn7,Cx8];show((if 0<z then 3 else if 0<y then 2 else if 0<x then 1 else 0:Nat):Int)=_
  (repeat' split)<;>omega
 rw[e] at this;exact Calls.mono this λ e w' ⟨he,g⟩=>⟨_,he,Bd7 g,rfl,trivial⟩
theorem Cj8 {W:PW}{K:Value->PW->Prop}(hm:m.ok)(f: ∀(W':PW),Ext W W'->(True)->K (.int .i64 (Cx8 m)) W'):
  Aa1 Tryz.prog W0 M 130 [.agg ⟨[.int .u8 m.x,.int .u8 m.y,.int .u8 m.z]⟩] W K:=
 Mi4 (λ _ c=>Dj6 hm) fun | _,W',c,⟨rfl,h⟩=>f W' c h
end Go.Proofs.YtkgeopnakkcdoaaGreat
