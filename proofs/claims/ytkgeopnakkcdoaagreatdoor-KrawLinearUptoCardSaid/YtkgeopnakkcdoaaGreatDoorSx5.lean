import Derived.Test.YtkgeopnakkcdoaaGreatDoorSx4
import Derived.Deep.LoopGhost
set_option linter.unusedVariables false
set_option linter.unusedSimpArgs false
namespace Go.SX
variable {a:Act}{st st2 stb:SS}
variable {P:Program} {tt:List (Nat×TyI)} {W0:PW} {M:Nat->Prop}
theorem mem_iff {l:List Nat}{x:Nat}:mem l x=true↔x∈l:=by
 simp only[mem,List.any_eq_true];constructor
 ·rintro⟨y,b,c⟩
  rw[Nat.eq_of_beq_eq_true c];exact b
 ·exact λ h=>⟨x,h,Nat.beq_refl x⟩
theorem Bb2 {b:List Nat}: ∀{l:List (Nat×SV)} {i:Nat} {s:SV} (_:look (l.filter λ x=>!(mem b x.1)) i=some s),look l i=some s/\¬i∈b
 | [],i,s,h=>by simp[look] at h
 | (k,x)::r,i,s,h=>by
  simp only[List.filter_cons] at h;split at h
  ·rename_i hk
   simp only[Ab4] at h⊢;split at h
   ·rename_i he
    subst he;refine⟨by simpa using h,λ hm=>?_⟩;rw[mem_iff.2 hm] at hk;simp at hk
   ·rename_i d
    rw[if_neg d];exact Bb2 h
  ·rename_i hk
   obtain⟨h1,c⟩:=Bb2 (l:=r) h;refine⟨?_,c⟩;simp only[Ab4];rw[if_neg]
   ·exact h1
   ·rintro rfl
    apply hk
    cases hm:mem b k with
    | true=>exact(c (mem_iff.1 hm)).elim
    | false=>rfl
theorem Run.sub {stx:SS}{W Wa:PW}{β:Nat->Nat}{σ:Nat->Value}(h:Run W0 M st2 W β σ a Wa)(l:stx.n=st2.n)(e: ∀i s,look stx.T i=some s->a.tmps.getD i undef=s.val β σ/\Az7 stx.nx β σ s/\i<stx.n)(b: ∀k bl,look stx.C k=some bl->k<stx.nx/\(bl = .dead\/look st2.C k=some bl)):Run W0 M stx W β σ a Wa:=by
 refine⟨⟨h.rel.defers,h.rel.size.trans l.symm,λ i s d=>⟨(e i s d).1,(e i s d).2.1⟩,λ k bl c=>?_,λ k k' b1 b2 g m h1 n g1 g2=>?_,λ i s d=>(e i s d).2.2⟩,
  h.ext,h.Ai1,h.priv,h.lt,h.s0,h.b0,λ k bl c=>(b k bl c).1,λ k bl g c j=>?_⟩
 ·rcases(b k bl c).2 with rfl | f
  ·trivial
  ·exact h.rel.C k bl f
 ·rcases(b k b1 h1).2 with rfl | o
  ·simp[Ab8] at g1
  ·rcases(b k' b2 n).2 with rfl | p
   ·simp[Ab8] at g2
   ·exact h.rel.inj k k' b1 b2 g m o p g1 g2
 ·rcases(b k bl c).2 with rfl | f
  ·simp[Ab8] at j
  ·exact h.fresh k bl g f j
theorem Ez0 {st2:SS}: ∀{bs:List (Nat×Bz3)} {stx:SS} {lb:List PL} (_:PB bs st2 lb) (_: ∀k bl,look stx.C k=some bl->k<stx.nx/\((∃b,b∈bs/\b.1=k)\/bl = .dead\/look st2.C k=some bl)) (_: ∀b,b∈bs->b.1<stx.nx),
  ∃f,HB bs stx lb f/\∀k bl,look f.C k=some bl->k<stx.nx/\(bl = .dead\/look st2.C k=some bl)
 | [],stx,lb,h,j,_=>by
  obtain rfl:lb = []:=h;exact⟨stx,⟨rfl,rfl⟩,λ k bl c=>⟨(j k bl c).1,(j k bl c).2.resolve_left (by simp)⟩⟩
 | (k,.box sh)::r,stx,lb,h,j,l=>by
  obtain⟨cs,m,rfl,hk,p,n⟩:=h;obtain⟨f,h1,e⟩:=Ez0 (bs:=r) (stx:={stx with C:=(k,.box cs)::stx.C }) n (by
   intro i bl c;simp only[Ab4] at c;split at c
   ·rename_i he;subst he
    obtain rfl:=Option.some.inj c;exact⟨l (k,.box sh) (by simp),.inr (.inr hk)⟩
   ·rename_i o
    obtain⟨h1,e⟩:=j i bl c;refine⟨h1,e.imp ?_ id⟩;rintro⟨b,d,rfl⟩;rcases List.mem_cons.1 d with rfl | d
    ·exact(o rfl).elim
    ·exact⟨b,d,rfl⟩) (λ b d=>l b (by simp[d]))
  exact⟨f,⟨cs,m,p,rfl,h1⟩,e⟩
 | (k,.row t sz)::r,stx,lb,h,j,l=>by
  obtain⟨cs,m,rfl,hk,n⟩:=h;obtain⟨f,h1,e⟩:=Ez0 (bs:=r) (stx:={stx with C:=(k,.row t sz cs)::stx.C }) n (by
   intro i bl c;simp only[Ab4] at c;split at c
   ·rename_i he;subst he
    obtain rfl:=Option.some.inj c;exact⟨l (k,.row t sz) (by simp),.inr (.inr hk)⟩
   ·rename_i o
    obtain⟨h1,e⟩:=j i bl c;refine⟨h1,e.imp ?_ id⟩;rintro⟨b,d,rfl⟩;rcases List.mem_cons.1 d with rfl | d
    ·exact(o rfl).elim
    ·exact⟨b,d,rfl⟩) (λ b d=>l b (by simp[d]))
  exact⟨f,⟨cs,m,rfl,h1⟩,e⟩
 | (k,.itr g kt et since)::r,stx,lb,h,j,l=>by
  obtain⟨seen,last,cur,m,rfl,hk,n⟩:=h;obtain⟨f,h1,e⟩:=Ez0 (bs:=r) (stx:={stx with C:=(k,.itr g kt et since seen last cur)::stx.C }) n (by
   intro i bl c;simp only[Ab4] at c;split at c
   ·rename_i he;subst he
    obtain rfl:=Option.some.inj c;exact⟨l (k,.itr g kt et since) (by simp),.inr (.inr hk)⟩
   ·rename_i o
    obtain⟨h1,e⟩:=j i bl c;refine⟨h1,e.imp ?_ id⟩;rintro⟨b,d,rfl⟩;rcases List.mem_cons.1 d with rfl | d
    ·exact(o rfl).elim
    ·exact⟨b,d,rfl⟩) (λ b d=>l b (by simp[d]))
  exact⟨f,⟨seen,last,cur,m,rfl,h1⟩,e⟩
theorem PC.Fg0 {w:World}{n:Nat}: ∀{cars:List (Nat×Car)} {G:List Nat} {l:List PL} (_:PC a w n cars G l),∀g,g∈Do8 a cars->¬g∈G
 | [],G,l,h,g,b=>by simp[Do8] at b
 | (d,.val i)::r,G,l,h,g,b=>by
  obtain⟨v,e,_,_,_,_,c⟩:=h;exact PC.Fg0 c g b
 | (d,.own t sz)::r,G,l,h,g,b=>by
  obtain⟨xs,e,_,_,_,f,c⟩:=h;simp only[Do8,List.mem_append] at b;rcases b with b | b
  ·exact f g (by simpa using b)
  ·have:=PC.Fg0 c g b
   exact λ h=>this (List.mem_append_right _ h)
theorem Run.Fu4 {s:SV}{W Wa:PW}{β:Nat->Nat}{σ:Nat->Value}{d:Nat}(h:Run W0 M st W β σ a Wa)(b:d<st.n)(c:Az7 st.nx β σ s)(e:a.tmps.getD d undef=s.val β σ):
  Run W0 M {st with T:=(d,s)::st.T } W β σ a Wa:=by
 refine⟨⟨h.rel.defers,h.rel.size,λ i s' hi=>?_,h.rel.C,h.rel.inj,λ i s' hi=>?_⟩,h.ext,h.Ai1,h.priv,h.lt,h.s0,h.b0,h.nC,h.fresh⟩
 ·simp only[Ab4] at hi
  split at hi
  ·rename_i he;subst he;obtain rfl:=Option.some.inj hi;exact⟨e,c⟩
  ·exact h.rel.T i s' hi
 ·simp only[Ab4] at hi
  split at hi
  ·rename_i he;subst he;exact b
  ·exact h.rel.dom i s' hi
theorem Run.Fr4 {W Wa:PW}{β:Nat->Nat}{σ:Nat->Value}{t sz:Nat}{v:Value}{xs:List (List Value)}(h:Run W0 M st W β σ a Wa)(hO:Ai0 Wa.w t sz v xs)(m: ∀g,v.ownBlock=some g->Ax6 st β σ g/\Wa.S g/\W0.w.heap.size<=g):
  Run W0 M (Ac4 st (.row t sz xs)) W β (upd σ st.nx v) a Wa/\∀k,k<st.nx->β k=β k/\upd σ st.nx v k=σ k:=by
 have c: ∀k,k<st.nx->β k=β k/\upd σ st.nx v k=σ k:=λ k hk=>by simp[upd,show k≠st.nx by omega]
 have j: ∀k bl',look (Ac4 st (.row t sz xs)).C k=some bl'->(k=st.nx/\bl' = .row t sz xs)\/(k<st.nx/\look st.C k=some bl'):=by
  intro k bl' b;simp only[Ac4,Ab4] at b;split at b
  ·rename_i he;exact .inl ⟨he.symm,(Option.some.inj b).symm⟩
  ·exact .inr ⟨h.nC _ _ b,b⟩
 have p:Ab8 β (upd σ st.nx v) st.nx (.row t sz xs)=v.ownBlock:=by simp[Ab8,upd]
 refine⟨⟨⟨h.rel.defers,h.rel.size,λ i s y=>?_,λ k bl' b=>?_,?_,h.rel.dom⟩,h.ext,h.Ai1,h.priv,h.lt,h.s0,h.b0,?_,?_⟩,c⟩
 ·obtain⟨h1,n⟩:=h.rel.T i s y
  exact⟨h1.trans (Ar8 c n).symm,(Ay6 c n).mono (Nat.le_succ _)⟩
 ·rcases j k bl' b with⟨rfl,rfl⟩ | ⟨l,o⟩
  ·refine⟨by simpa[upd] using hO,λ g z=>(m g (by simpa[upd] using z)).2.1⟩
  ·exact(h.rel.C k bl' o).same c l λ g d=>⟨rfl,Ca6 (h.rel.C k bl' o) d⟩
 ·intro k k' b1 b2 g q h1 n e f
  rcases j k b1 h1 with⟨rfl,rfl⟩ | ⟨r,u⟩<;>rcases j k' b2 n with⟨rfl,rfl⟩ | ⟨w,x⟩
  ·exact q rfl
  ·rw[p] at e
   rw[Ad7 c w] at f;exact(m g e).1 k' b2 x f
  ·rw[p] at f
   rw[Ad7 c r] at e;exact(m g f).1 k b1 u e
  ·rw[Ad7 c r] at e
   rw[Ad7 c w] at f;exact h.rel.inj k k' b1 b2 g q u x e f
 ·intro k bl' b
  rcases j k bl' b with⟨rfl,_⟩ | ⟨l,_⟩
  ·exact Nat.lt_succ_self _
  ·exact Nat.lt_succ_of_lt l
 ·intro k bl' g b d
  rcases j k bl' b with⟨rfl,rfl⟩ | ⟨l,o⟩
  ·rw[p] at d;exact(m g d).2.2
  ·rw[Ad7 c l] at d;exact h.fresh k bl' g o d
theorem Fe3: ∀{cars:List (Nat×Car)} {stx:SS} {lc:List PL} {G:List Nat} {W Wa:PW} {β:Nat->Nat} {σ:Nat->Value} {a:Act} (_:Run W0 M stx W β σ a Wa) (_:PC a Wa.w stx.n cars G lc)
  (_: ∀g,g∈Do8 a cars->Ax6 stx β σ g/\Wa.S g/\W0.w.heap.size<=g),∃b c f,HC cars stx lc b/\Run W0 M b W c f a Wa/\∀k,k<stx.nx->c k=β k/\f k=σ k
 | [],stx,lc,G,W,Wa,β,σ,a,h,j,_=>by
  obtain rfl:lc = []:=j;exact⟨stx,β,σ,⟨rfl,rfl⟩,h,Ab2⟩
 | (d,.val i)::r,stx,lc,G,W,Wa,β,σ,a,h,j,m=>by
  obtain⟨v,q,rfl,u,w,z,n⟩:=j;obtain⟨b,c,f,h1,x,o⟩:=Fe3 (cars:=r) (h.Fu4 (s:=.v v) w trivial u) n m;exact⟨b,c,f,⟨v,q,z,rfl,h1⟩,x,o⟩
 | (d,.own t sz)::r,stx,lc,G,W,Wa,β,σ,a,h,j,m=>by
  obtain⟨xs,q,rfl,w,hO,D,n⟩:=j;have u: ∀g,(a.tmps.getD d undef).ownBlock=some g->Ax6 stx β σ g/\Wa.S g/\W0.w.heap.size<=g:=λ g p=>m g (by simp only[Do8,List.mem_append,Option.mem_toList];exact .inl p);obtain⟨r1,y⟩:=h.Fr4 hO u;have A:=r1.Fu4 (d:=d) (s:=.o stx.nx) w (Nat.lt_succ_self _) (by simp[SV.val,upd]);obtain⟨b,c,f,h1,x,o⟩:=Fe3 (cars:=r) A n (by
   intro g p;obtain⟨f1,f2⟩:=m g (by simp only[Do8,List.mem_append];exact .inr p);refine⟨?_,f2⟩;have B:=n.Fg0 g p;intro k bl l;simp only[Ac4,Ab4] at l;split at l
   ·rename_i he;subst he
    obtain rfl:=Option.some.inj l;simp only[Ab8,upd,if_true];exact λ e=>B (List.mem_append_left _ (by simp only[Option.mem_toList];exact e))
   ·have C:=h.nC _ _ l
    rw[Ad7 y C];exact f1 k bl l)
  exact⟨b,c,f,⟨xs,q,rfl,h1⟩,x,λ k hk=>⟨(o k (Nat.lt_succ_of_lt hk)).1.trans (y k hk).1,(o k (Nat.lt_succ_of_lt hk)).2.trans (y k hk).2⟩⟩
theorem Cg8 {bs:List (Nat×Bz3)}{cars:List (Nat×Car)}{lb lc:List PL}{W Wa:PW}{β:Nat->Nat}{σ:Nat->Value}(q:Run W0 M st2 W β σ a Wa)(r:PB bs st2 lb)(t:PC a Wa.w st2.n cars [] lc)(j: ∀g,g∈Do8 a cars->Ax6 st2 β σ g/\Wa.S g/\W0.w.heap.size<=g)(l:stb.n=st2.n)(u: ∀i s,look stb.T i=some s->a.tmps.getD i undef=s.val β σ/\Az7 stb.nx β σ s/\i<stb.n)(v: ∀k bl,look stb.C k=some bl->k<stb.nx/\((∃b,b∈bs/\b.1=k)\/bl = .dead\/look st2.C k=some bl))(w: ∀b,b∈bs->b.1<stb.nx):
  ∃c d e,Head bs cars stb (lc ++ lb) c/\Run W0 M c W d e a Wa/\∀k,k<stb.nx->d k=β k/\e k=σ k:=by
 obtain⟨m,h1,n⟩:=Ez0 r v w;obtain⟨f,h,D,x,E⟩:=h1.Ai1;have y:Run W0 M m W β σ a Wa:=q.sub (h.trans l) (by rw[x,f,h];exact u) (by rw[f];exact n);obtain⟨c,d,e,z,A,o⟩:=Fe3 (G:=[]) (cars:=cars) (lc:=lc) y (by rw[h,l];exact t) (λ g p=>⟨λ k bl B=>by
  rcases(n k bl B).2 with rfl | C
  ·simp[Ab8]
  ·exact(j g p).1 k bl C,(j g p).2⟩)
 exact⟨c,d,e,⟨lb,lc,m,h1,z,rfl⟩,A,by rw[f] at o;exact o⟩
theorem Head.Ai1 {c:SS}{bs:List (Nat×Bz3)}{cars:List (Nat×Car)}{l:List PL}(h:Head bs cars stb l c):stb.nx<=c.nx/\c.n=stb.n/\c.D=stb.D/\∀k,k<stb.nx->(∀b,b∈bs->b.1≠k)->look c.C k=look stb.C k:=by
 obtain⟨lb,lc,j,h1,d,rfl⟩:=h;obtain⟨m,e,f,n,g⟩:=h1.Ai1;obtain⟨f1,f2,f3,f4⟩:=d.Ai1;exact⟨by omega,f2.trans e,f3.trans f,λ k hk i=>(f4 k (by omega)).trans (g k i)⟩
theorem Bx7 {c:List Nat}{nx:Nat}{new D:List Nat}(h:Cg4 c nx D.length (new ++ D)=true){k:Nat}(hk:k<nx)(d:¬k∈c):¬k∈new:=by
 intro hm;have he:(new ++ D).take (Nat.sub (new ++ D).length D.length)=new:=by
  have:Nat.sub (new ++ D).length D.length=new.length:=by simp
  rw[this];simp
 simp only[Cg4,he,List.all_eq_true] at h;have:=h k hm;simp only[Bool.or_eq_true,List.any_eq_true] at this;rcases this with h | ⟨b,e,he⟩
 ·have:nx<=k:=Nat.le_of_ble_eq_true h
  omega
 ·exact d (by rw[<-Nat.eq_of_beq_eq_true he];exact e)
theorem Dd1 {st1:SS}{e:Act}{a2:Act}{bs:List (Nat×Bz3)}{b:List Nat}{j l:PW}{β σ}(h1:Run W0 M st1 j β σ e l){c:Nat->Nat}{d:Nat->Value}(f: ∀k,k<st1.nx->c k=β k/\d k=σ k)(m: ∀i,¬i∈b->a2.tmps.getD i undef=e.tmps.getD i undef): ∀i s,look (Aw4 b bs st1).T i=some s->a2.tmps.getD i undef=s.val c d/\Az7 (Aw4 b bs st1).nx c d s/\i<(Aw4 b bs st1).n:=by
 intro i s n;obtain⟨g,hi⟩:=Bb2 n;obtain⟨o,h⟩:=h1.rel.T i s g;exact⟨(m i hi).trans (o.trans (Ar8 f h).symm),Ay6 f h,h1.rel.dom i s g⟩
theorem PB.names: ∀{bs:List (Nat×Bz3)} {st:SS} {l:List PL} (_:PB bs st l),∀b,b∈bs->∃bl,look st.C b.1=some bl
 | [],st,l,h,b,c=>by simp at c
 | (k,.box sh)::r,st,l,h,b,c=>by
  obtain⟨cs,e,_,hk,_,d⟩:=h;rcases List.mem_cons.1 c with rfl | c
  ·exact⟨_,hk⟩
  ·exact PB.names d b c
 | (k,.row t sz)::r,st,l,h,b,c=>by
  obtain⟨cs,e,_,hk,d⟩:=h;rcases List.mem_cons.1 c with rfl | c
  ·exact⟨_,hk⟩
  ·exact PB.names d b c
 | (k,.itr g kt et since)::r,st,l,h,b,c=>by
  obtain⟨seen,last,cur,e,_,hk,d⟩:=h;rcases List.mem_cons.1 c with rfl | c
  ·exact⟨_,hk⟩
  ·exact PB.names d b c
theorem Ce2 {c:Code}{cars:List (Nat×Car)}{bs:List (Nat×Bz3)}{d:List Nat}{body:SS->PW->(Exit->SS->PW->Prop)->Prop}(V: ∀st W K,body st W K->∀β σ a Wa,Run W0 M st W β σ a Wa->c.wp P (λ e a' w'=>Out W0 M st β σ a d (K e) a' w') a Wa.w){W:PW}{K:Exit->SS->PW->Prop}(h:Fe6 W0 cars bs d st W body K){β:Nat->Nat}{σ:Nat->Value}{Wa:PW}(X:Run W0 M st W β σ a Wa):
  (Code.loop c).wp P (λ e a' w'=>Out W0 M st β σ a d (K e) a' w') a Wa.w:=by
 obtain⟨Y,g,v,Z,h,w,j,aW,r,aa,ab⟩:=Al1 (G:=[]) h X (by simp);obtain⟨ac,h,x⟩:=Ak6 h;obtain⟨I,y,ad,hh⟩:=h;have z: ∀b,b∈bs->b.1<g.nx:=λ b m=>by obtain⟨bl,af⟩:=x.names b m;exact j.nC _ _ af
 have ag: ∀{l f},Head bs cars (Aw4 d bs g) l f->Ah1 st f:=by
  intro l f p;obtain⟨e1,e2,e3,e4⟩:=p.Ai1;refine r.trans ⟨e1,e2,bs.map (λ b=>b.1),by rw[e3];rfl,λ k hk hn=>?_⟩;exact e4 k hk λ b m e=>hn (List.mem_map.2 ⟨b,m,e⟩)
 obtain⟨am,an,ao,ap,aq,ar⟩:=Cg8 (stb:=Aw4 d bs g) j x (by rw[w,r.n];exact aa) (by simpa using ab) rfl (Dd1 j Ab2 λ _ _=>rfl)
  (λ k bl o=>⟨j.nC _ _ o,.inr (.inr o)⟩) z
 rw[<-w];refine wp_loop_ghost (λ n a' w'=>∃A B W' Wa' l f,Wa'.w=w'/\Head bs cars (Aw4 d bs g) l f/\Run W0 M f W' A B a' Wa'/\I l W'/\y l W'=n/\(∀k,k<g.nx->A k=β k/\B k=σ k)/\
  ∀i,¬i∈d->a'.tmps.getD i undef=a.tmps.getD i undef) (y (Y ++ ac) v) ⟨an,ao,v,Z,_,am,rfl,ap,aq,ad,rfl,ar,λ _ _=>rfl⟩ ?_
 rintro n C w1 ⟨D,E,W1,av,l,f,rfl,p,aw,ax,ay,s,F⟩;refine wp_mono (V _ _ _ (Cy5 hh p W1 ax) D E C av aw) ?_;obtain⟨k1,k2,k3,k4⟩:=p.Ai1;intro e a2 H hO;have lift: ∀{J},Out W0 M f D E C d J a2 H->Out W0 M st β σ a d J a2 H:=λ hO=>
  Out.of (ag p) (λ k hk=>s k (Nat.lt_of_lt_of_le hk r.nx)) F (λ _ h=>h) (λ _ h=>h) (λ _ _ h=>h) hO
 cases e with
 | normal=>
  obtain⟨aB,aC,st2,W2,a0,rfl,aD,aE,aF,L,aG⟩:=hO;obtain⟨a3,a4,W3,aI,q,N,aJ,a5,O,aK,aL⟩:=Al1 (G:=[]) aE aD (by simp);obtain⟨a6,q,aM⟩:=Ak6 q;split at q
  ·rename_i Q
   obtain⟨aN,aO⟩:=q;have R:=aF.trans O;have t: ∀k,k<g.nx->aB k=β k/\aC k=σ k:=λ k hk=>⟨(L k (Nat.lt_of_lt_of_le hk k1)).1.trans (s k hk).1,(L k (Nat.lt_of_lt_of_le hk k1)).2.trans (s k hk).2⟩;have S: ∀i,¬i∈d->a2.tmps.getD i undef=a.tmps.getD i undef:=λ i hi=>(aG i hi).trans (F i hi);obtain⟨new,aP,aQ⟩:=R.D;obtain⟨aR,aS,aT,aU,aV,T⟩:=Cg8 (stb:=Aw4 d bs g) aJ aM (by rw[N,O.n];exact aK) (by simpa using aL) (by rw[R.n,k2]) (Dd1 j t S)
    (λ k bl o=>by
     refine⟨j.nC _ _ o,?_⟩
     by_cases m: ∃b,b∈bs/\b.1=k
     ·exact .inl m
     ·right;right
      have U: ∀b,b∈bs->b.1≠k:=λ b h1 u=>m ⟨b,h1,u⟩;have hk:=j.nC _ _ o;rw[aP] at Q;rw[aQ k (Nat.lt_of_lt_of_le hk k1) (Bx7 Q hk (λ hm=>by obtain⟨b,h1,u⟩:=List.mem_map.1 hm;exact U b h1 u)),k4 k hk U];exact o) z
   refine⟨_,by rw[<-ay];exact aO,aS,aT,W3,aI,_,aR,N,aU,aV,aN,rfl,λ k hk=>⟨(T k hk).1.trans (t k hk).1,(T k hk).2.trans (t k hk).2⟩,S⟩
  ·exact q.elim
 | exit id=>exact lift hO
 | goto l=>exact lift hO
 | ret=>exact lift hO
 | panic c=>exact lift hO
 | outgrown=>exact lift hO
end Go.SX
namespace Go.SX
variable {P:Program} {tt:List (Nat×TyI)} {W0:PW} {M:Nat->Prop}
theorem Cw0 {ks:List Nat}{C:List (Nat×Blk)}{k:Nat}:look ((ks.map λ k=>(k,Blk.dead)) ++ C) k=if k∈ks then some .dead else look C k:=by
 induction ks with
 | nil=>simp
 | cons x r ih=>
  simp only[List.map_cons,List.cons_append,Ab4,ih,List.mem_cons]
  by_cases h:x=k
  ·simp[h]
  ·simp[h,show ¬k=x from λ e=>h e.symm]
theorem Ek2 {q:Code}{r:Code}{st:SS}{a:Act}{cars:List (Nat×Car)}{bs:List (Nat×Bz3)}{f m:List Nat}{x y:SS->PW->(Exit->SS->PW->Prop)->Prop}(F: ∀st W K,x st W K->∀β σ a Wa,Run W0 M st W β σ a Wa->q.wp P (λ e a' w'=>Out W0 M st β σ a f (K e) a' w') a Wa.w)(H: ∀st W K,y st W K->∀β σ a Wa,Run W0 M st W β σ a Wa->r.wp P (λ e a' w'=>Out W0 M st β σ a m (K e) a' w') a Wa.w){W:PW}{K:Exit->SS->PW->Prop}(h:Fr0 W0 cars bs f st W x y K){β:Nat->Nat}{σ:Nat->Value}{Wa:PW}(i:Run W0 M st W β σ a Wa):
  (Code.seq q r).wp P (λ e a' w'=>Out W0 M st β σ a (f ++ m) (K e) a' w') a Wa.w:=by
 unfold Fr0 at h;split at h
 ·exact h.elim
 rename_i I;have L: ∀b,b∈bs->b.1<st.nx:=λ b g=>Nat.le_of_ble_eq_true (List.all_eq_true.1 I b g);obtain⟨J,h1,n⟩:=h;refine wp_seq (wp_mono (F _ _ _ h1 β σ a Wa i) ?_);intro e a2 s hO;have lift: ∀{t},Out W0 M st β σ a f t a2 s->Out W0 M st β σ a (f ++ m) t a2 s:=λ hO=>
  Out.of (Ah1.refl _) Ab2 (λ _ _=>rfl) (ds1:=[]) (by simp) (λ _ h=>List.mem_append_left _ h) (λ _ _ h=>h) hO
 cases e with
 | normal=>
  obtain⟨ak,al,st2,W2,an,rfl,N,O,Q,o,u⟩:=hO;obtain⟨ao,ap,R,S,j,v,T,aq,w,U,V⟩:=Al1 (G:=[]) O N (by simp);obtain⟨ar,j,X⟩:=Ak6 j;split at j
  ·rename_i z
   have A:=Q.trans w;obtain⟨new,Y,Z⟩:=A.D;rw[Y] at z;have aa: ∀k,k∈Bk3 cars st->k<st.nx:=by
    intro k hk;simp only[Bk3,List.mem_filterMap] at hk;obtain⟨c,_,d⟩:=hk;split at d
    ·split at d
     ·rename_i k' hT
      obtain rfl:=Option.some.inj d;exact(i.rel.T _ _ hT).2
     ·cases d
    ·cases d
   obtain⟨ac,ad,ae,B,af,C⟩:=Cg8 (stb:=Aw4 f bs (Dm4 (Bk3 cars st) st)) T X (by rw[v,w.n];exact U) (by simpa using V) (by rw[A.n];rfl)
    (Dd1 (st1:=st) (bs:=bs) i o u)
    (λ k bl d=>by
     have d:(if k∈Bk3 cars st then some Blk.dead else look st.C k)=some bl:=by rw[<-Cw0];exact d
     split at d
     ·rename_i hk
      exact⟨aa k hk,.inr (.inl (Option.some.inj d).symm)⟩
     ·rename_i hk
      refine⟨i.nC _ _ d,?_⟩
      by_cases g: ∃b,b∈bs/\b.1=k
      ·exact .inl g
      ·right;right
       have D:=i.nC _ _ d;rw[Z k D (Bx7 z D (λ hm=>by
        rcases List.mem_append.1 hm with hm | hm
        ·obtain⟨b,h1,n⟩:=List.mem_map.1 hm;exact g ⟨b,h1,n⟩
        ·exact hk hm))]
       exact d) L
   have E:=H _ _ _ (Cy5 n B R j) ad ae a2 S af;rw[v] at E;refine wp_mono E ?_;intro e a4 w4 hO;obtain⟨k1,k2,k3,k4⟩:=B.Ai1;have aj:Ah1 st ac:=by
    refine⟨k1,k2,bs.map (λ b=>b.1) ++ Bk3 cars st,by rw[k3];simp[Aw4,Dm4],λ k hk p=>?_⟩;simp only[List.mem_append,not_or] at p;rw[k4 k hk λ b g e=>p.1 (List.mem_map.2 ⟨b,g,e⟩)];show look ((Bk3 cars st).map (λ k=>(k,Blk.dead)) ++ st.C) k=_;rw[Cw0,if_neg p.2]
   exact Out.of aj (λ k hk=>⟨(C k hk).1.trans (o k hk).1,(C k hk).2.trans (o k hk).2⟩) u (λ _ h=>List.mem_append_left _ h) (λ _ h=>List.mem_append_right _ h) (λ _ _ h=>h) hO
  ·exact j.elim
 | exit id=>exact lift hO
 | goto l=>exact lift hO
 | ret=>exact lift hO
 | panic c=>exact lift hO
 | outgrown=>exact lift hO
theorem Bj3: ∀{ks:List Nat} {st:SS} {W Wa:PW} {β:Nat->Nat} {σ:Nat->Value} {a:Act} {K:SS->PW->Prop} (_:Fk0 W0 ks st W K) (_:Run W0 M st W β σ a Wa),
  ∃st' W' Wa',K st' W'/\Wa'.w=Wa.w/\Run W0 M st' W' β σ a Wa'/\Ah1 st st'
 | [],st,W,Wa,β,σ,a,K,h,b=>⟨st,W,Wa,h,rfl,b,Ah1.refl _⟩
 | k::r,st,W,Wa,β,σ,a,K,h,b=>by
  simp only[Fk0] at h;split at h
  ·obtain⟨v,st1,m,n,h1,_,hw,c,_,d⟩:=Cw9 h b
   obtain⟨st2,e,f,g,i,j,l⟩:=Bj3 (ks:=r) h1 c;exact⟨st2,e,f,g,i.trans hw,j,d.trans l⟩
  ·exact Bj3 (ks:=r) h b
theorem Eg7 (B:P.follows .mixedOrders=true)(v:Ac6 P tt)(hF:Ae7 tt){cuts:List Nat}: ∀(c:Code) {U:List Nat} {st:SS} {W:PW} {K:Exit->SS->PW->Prop} (_:sxC P tt W0 M cuts c U st W K)
  {β:Nat->Nat} {σ:Nat->Value} {a:Act} {Wa:PW} (_:Run W0 M st W β σ a Wa),c.wp P (λ e a' w'=>Out W0 M st β σ a (Cw1 c) (K e) a' w') a Wa.w:=by
 intro c;have here: ∀{e:Exit} {st:SS} {W:PW} {K:Exit->SS->PW->Prop} {β σ a} {Wa:PW},Run W0 M st W β σ a Wa->K e st W->Out W0 M st β σ a [] (K e) a Wa.w:=
  λ b h=>⟨_,_,_,_,_,rfl,b,h,Ah1.refl _,Ab2,λ _ _=>rfl⟩
 induction c with
 | skip=>exact λ h _ _ _ _ b=>wp_skip (here b h)
 | ret=>exact λ h _ _ _ _ b=>wp_ret (here b h)
 | exit id=>exact λ h _ _ _ _ b=>wp_exit (here b h)
 | region id ops draw=>
  intro U st W K h β σ a Wa b;simp only[sxC] at h
  cases draw with
  | false=>
   refine wp_region ?_;have:=Bq6 v hF (Q:=λ e a' w'=>Out W0 M st β σ a (Cw1 (.region id ops false)) (K e) a' w') ops.toList 0 (by simp) h b (λ a' w' hO=>hO)
   simpa[List.range_eq_range'] using this
  | true=>
   simp only at h;split at h
   ·rename_i C
    exact Do1 B v hF C h b λ a' w' hO=>hO
   ·exact h.elim
 | seq x y g j=>
  intro U st W K h β σ a Wa b;simp only[sxC] at h;split at h
  ·refine wp_seq (wp_mono (g h b) ?_)
   intro e a2 w hO;have lift: ∀{z},Out W0 M st β σ a (Cw1 x) z a2 w->Out W0 M st β σ a (Cw1 (.seq x y)) z a2 w:=λ hO=>
    Out.of (Ah1.refl _) Ab2 (λ _ _=>rfl) (ds1:=[]) (by simp) (λ _ h=>List.mem_append_left _ h) (λ _ _ h=>h) hO
   cases e with
   | normal=>
    obtain⟨p,q,st2,f,r,rfl,k,d,m,n,o⟩:=hO;refine wp_mono (j d k) ?_;intro e a4 H hO;exact Out.of m n o (λ _ h=>List.mem_append_left _ h) (λ _ h=>List.mem_append_right _ h) (λ _ _ h=>h) hO
   | exit id=>exact lift hO
   | goto l=>exact lift hO
   | ret=>exact lift hO
   | panic c=>exact lift hO
   | outgrown=>exact lift hO
  ·exact Ek2 (λ st W K h β σ a Wa b=>g h b) (λ st W K h β σ a Wa b=>j h b) h b
 | cond c x y g j=>
  intro U st W K h β σ a Wa b;simp only[sxC] at h;obtain⟨s,D,h1⟩:=Ac8 (W:=W) h;obtain⟨t,A,E⟩:=As5 D;have he:=(h1 β σ a Wa b.rel b.ext).1.trans (E β σ);refine wp_cond he ?_
  cases t with
  | true=>
   refine wp_mono (g A b) λ e a' w' hO=>?_;exact Out.of (Ah1.refl _) Ab2 (λ _ _=>rfl) (ds1:=[]) (by simp) (λ _ h=>List.mem_append_left _ h) (λ _ _ h=>h) hO
  | false=>
   refine wp_mono (j A b) λ e a' w' hO=>?_;exact Out.of (Ah1.refl _) Ab2 (λ _ _=>rfl) (ds1:=[]) (by simp) (λ _ h=>List.mem_append_right _ h) (λ _ _ h=>h) hO
 | block id x ih=>
  intro U st W K h β σ a Wa b;simp only[sxC] at h;refine wp_block (wp_mono (ih h b) ?_);intro e a' w' hO
  cases e with
  | exit i=>
   simp only[Exit.inBlock];obtain⟨p,q,st2,f,r,hw,k,d,m,n,o⟩:=hO;replace d:(match Nat.beq i id with | true=>K .normal st2 f | false=>K (.exit i) st2 f):=d;split at d
   ·rename_i u
    rw[if_pos (Nat.eq_of_beq_eq_true u)];exact⟨p,q,st2,f,r,hw,k,d,m,n,o⟩
   ·rename_i u
    rw[if_neg (Nat.ne_of_beq_eq_false u)];exact⟨p,q,st2,f,r,hw,k,d,m,n,o⟩
  | normal=>exact hO
  | goto l=>exact hO
  | ret=>exact hO
  | panic c=>exact hO
  | outgrown=>exact hO
 | loop x ih=>
  intro U st W K h β σ a Wa b;simp only[sxC] at h;split at h
  ·exact Ce2 (λ st W K h β σ a Wa b=>ih h b) h b
  ·obtain⟨st1,I,J,h1,hw,F,G⟩:=Bj3 h b
   have:=Ce2 (λ st W K h β σ a Wa b=>ih h b) h1 F;rw[hw] at this;exact wp_mono this λ e a' w' hO=>Out.of G Ab2 (λ _ _=>rfl) (ds1:=[]) (by simp) (λ _ h=>h) (λ _ _ h=>h) hO
 | _=>exact λ h=>h.elim
def Fk2 (tmps : Array Value) : ResultVar -> Sem Value
  | .tmp t => pure (tmps.getD t undef)
  | .cell a t => do loadVar t (<- asAddr (tmps.getD a undef))
theorem Du5 (fn:Func)(tmps:Array Value):results fn tmps=(do let vs <-fn.results.mapM (Fk2 tmps);pure (if h:vs.size=1 then vs[0] else .tuple vs)):=by
 unfold results;have:(λ x:ResultVar=>(match x with | .tmp t=>pure (tmps.getD t undef) | .cell a t=>do loadVar t (<-asAddr (tmps.getD a undef)):Sem Value))=Fk2 tmps:=by
  funext x;cases x<;>rfl
 rw[<-this];rfl
theorem Bi7 (f:Ac6 P tt): ∀{l:List ResultVar} {st:SS} {W Wa:PW} {β:Nat->Nat} {σ:Nat->Value} {a:Act} {K:List Value->SS->PW->Prop} (_:Fh9 tt W0 l st W K) (_:Run W0 M st W β σ a Wa),
  ∃vs st' W' Wa',K vs st' W'/\Wa'.w=Wa.w/\Run W0 M st' W' β σ a Wa'/\(l.mapM (Fk2 a.tmps)).run P Wa.w = .ok vs Wa.w
 | [],st,W,Wa,β,σ,a,K,h,c=>⟨[],st,W,Wa,h,rfl,c,rfl⟩
 | .tmp t::r,st,W,Wa,β,σ,a,K,h,c=>by
  obtain⟨v,st1,B,C,h1,he,hw,q,D,E⟩:=Ah3 h c;obtain⟨vs,st2,g,j,d,m,n,e⟩:=Bi7 f (l:=r) h1 q;refine⟨v::vs,st2,g,j,d,m.trans hw,n,?_⟩;rw[hw] at e;have s:a.tmps.getD t undef=v:=he;simp only[List.mapM_cons,Sem.run_bind,Sem.run_pure,Result.andThen_ok,e,Fk2,s]
 | .cell b t::r,st,W,Wa,β,σ,a,K,h,c=>by
  simp only[Fh9] at h;split at h
  ·rename_i i k off hi u
   have o:=f.Aq3 hi;obtain⟨v,w,h1⟩:=Cd5 o o.2.2.2.2.1 h;obtain⟨v',x,d⟩:=Av9 (W:=W) w;have p:=h1 β σ a Wa c.rel c.ext;have y:v=v':=d β σ a Wa c.rel c.ext;subst y;obtain⟨vs,st2,g,j,d,m,n,e⟩:=Bi7 f (l:=r) x c;refine⟨v::vs,st2,g,j,d,m,n,?_⟩;have z:a.tmps.getD b undef = .pointer (some ⟨β k,off,none⟩):=(c.rel.T _ _ u).1;simp only[SV.val,Instr.loadAt,Instr.sureAddr,Sem.run_bind,Sem.run_pure,Result.andThen_ok] at p;have A:(asAddr (a.tmps.getD b undef)).run P Wa.w = .ok ⟨β k,off,none⟩ Wa.w:=by rw[z];rfl
   simp only[List.mapM_cons,Sem.run_bind,Sem.run_pure,Result.andThen_ok,Fk2,A,p,e]
  ·exact h.elim
theorem Ch5: ∀{l:List SV} {k i:Nat} {s:SV} (_:look (num k l) i=some s),k<=i/\l[i-k]?=some s
 | [],k,i,s,h=>by simp[num,look] at h
 | x::r,k,i,s,h=>by
  simp only[num,Ab4] at h;split at h
  ·rename_i he;subst he
   simpa using h
  ·rename_i c
   obtain⟨h1,b⟩:=Ch5 h;have h1:k+1<=i:=h1;refine⟨by omega,?_⟩;rw[show i-k=(i-k.succ)+1 by omega]
   simpa using b
theorem Aa3 {f:FuncId}{fn:Func}(G:P.follows .mixedOrders=true)(A:Ac6 P tt)(hF:Ae7 tt){cuts:List Nat}(B:P.funcs[f]?=some fn)(m:fn.body.isSome=true)(H:(fn.name == "runtime.NumGoroutine")=false){args:List Value}(Q:args.length<=fn.ntmps){q:Value->PW->Prop}(h:Fu2 P tt W0 M cuts fn args q):Aa0 P f args W0 M q:=by
 refine⟨⟨fn,B,m,H⟩,λ E=>?_⟩;unfold Fu2 at h;split at h
 ·exact h.elim
 rename_i c I;refine calls_of_wp B I ?_;have J:Run W0 M {T:=num 0 (args.map .v),C:=[],nx:=0,n:=fn.ntmps,D:=[] } W0 (λ _=>0) (λ _=>undef) {tmps:=args.toArray ++ Array.replicate (fn.ntmps-args.toArray.size) undef,defers:=[] } W0:=by
  refine⟨⟨rfl,by simp;omega,λ i s o=>?_,λ k bl hk=>by simp[look] at hk,λ k k' b1 b2 g _ h1=>by simp[look] at h1,λ i s o=>?_⟩,Ext.refl _,Am7.refl _ _,λ b m=>.inl m,E,λ b m=>m,E,λ k bl hk=>by simp[look] at hk,λ k bl g hk=>by simp[look] at hk⟩
  ·obtain⟨_,j⟩:=Ch5 o
   simp only[Nat.sub_zero,List.getElem?_map,Option.map_eq_some_iff] at j;obtain⟨v,t,rfl⟩:=j;have K:=(List.getElem?_eq_some_iff.1 t).1;refine⟨?_,trivial⟩;simp only[SV.val];rw[Array.getD_eq_getD_getElem?,Array.getElem?_append_left (by simpa using K)];simp[t]
  ·obtain⟨_,j⟩:=Ch5 o
   have:=(List.getElem?_eq_some_iff.1 j).1;simp at this;show i<fn.ntmps;omega
 refine wp_mono (Eg7 G A hF c h J) ?_;have fin: ∀{a':Act} {w':World},Out W0 M {T:=num 0 (args.map .v),C:=[],nx:=0,n:=fn.ntmps,D:=[] } (λ _=>0) (λ _=>undef) {tmps:=args.toArray ++ Array.replicate (fn.ntmps-args.toArray.size) undef,defers:=[] } (Cw1 c)
   (λ st W=>Fh9 tt W0 fn.results.toList st W λ l _ W=>Fs1 l λ v=>∀W',Ext W W'->q v W') a' w'->
   a'.defers = []/\∃v,(results fn a'.tmps).run P w' = .ok v w'/\∃v',Ending.returned v = .returned v'/\Am7 M W0.w w'/\q v' ⟨w',W0.S⟩:=by
  rintro a' w' ⟨β,σ,st,W,Wa,rfl,F,d,_⟩;refine⟨F.rel.defers,?_⟩;obtain⟨vs,st2,L,N,j,u,p,O⟩:=Bi7 A d F;have w:Ext L ⟨N.w,W0.S⟩:=p.ext.trans ⟨Nat.le_refl _,λ b m o=>⟨rfl,λ h=>o (p.s0 b h)⟩⟩;have z: ∀v,(if h:vs.toArray.size=1 then vs.toArray[0] else .tuple vs.toArray)=v->(results fn a'.tmps).run P Wa.w = .ok v Wa.w:=by
   intro v t;rw[Du5,Array.mapM_eq_mapM_toList];simp only[Sem.run_bind,Sem.run_map,Result.andThen_ok,Sem.run_pure,O,t]
  rw[<-u]
  cases vs with
  | nil=>exact⟨_,by rw[u];exact z _ (by simp),_,rfl,p.Ai1,j _ w⟩
  | cons x r=>
   cases r with
   | nil=>exact⟨x,by rw[u];exact z x (by simp),x,rfl,p.Ai1,j _ w⟩
   | cons y r=>exact⟨_,by rw[u];exact z _ (by simp),_,rfl,p.Ai1,j _ w⟩
 intro e a' w' hO
 cases e with
 | normal=>exact fin hO
 | ret=>exact fin hO
 | exit id=>obtain⟨_,_,_,_,_,_,_,d,_⟩:=hO;exact d.elim
 | goto l=>obtain⟨_,_,_,_,_,_,_,d,_⟩:=hO;exact d.elim
 | panic c=>obtain⟨_,_,_,_,_,_,_,d,_⟩:=hO;exact d.elim
 | outgrown=>obtain⟨_,_,_,_,_,_,_,d,_⟩:=hO;exact d.elim
end Go.SX
