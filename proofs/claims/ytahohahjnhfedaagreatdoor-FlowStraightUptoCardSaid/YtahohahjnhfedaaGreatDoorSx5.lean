/- The symbolic evaluator: loops, cuts. -/
import Derived.Test.YtahohahjnhfedaaGreatDoorSx4
import Derived.Deep.LoopGhost
set_option linter.unusedVariables false
set_option linter.unusedSimpArgs false
namespace Go.SX
variable {P:Program} {tt:List (Nat×TyI)} {W0:PW} {M:Nat→Prop}
theorem mem_iff {l:List Nat} {x:Nat} :mem l x=true↔x∈l:=by
 simp only[mem,List.any_eq_true]
 constructor
 ·rintro⟨y,hy,hb⟩
  rw[Nat.eq_of_beq_eq_true hb];exact hy
 ·exact fun h=>⟨x,h,Nat.beq_refl x⟩
theorem Bb2 {ds:List Nat} : ∀{l:List (Nat×SV)} {i:Nat} {s:SV} (_:look (l.filter fun x=>!(mem ds x.1)) i=some s),look l i=some s∧¬i∈ds
 | [],i,s,h=>by simp[look] at h
 | (k,x) :: r,i,s,h=>by
  simp only[List.filter_cons] at h
  split at h
  ·rename_i hk
   simp only[Ab4] at h⊢
   split at h
   ·rename_i he
    subst he
    refine⟨by simpa using h,fun hm=>?_⟩
    rw[mem_iff.2 hm] at hk
    simp at hk
   ·rename_i hne
    rw[if_neg hne]
    exact Bb2 h
  ·rename_i hk
   obtain⟨h1,h2⟩:=Bb2 (l:=r) h
   refine⟨?_,h2⟩
   simp only[Ab4]
   rw[if_neg]
   ·exact h1
   ·rintro rfl
    apply hk
    cases hm:mem ds k with
    | true=>exact(h2 (mem_iff.1 hm)).elim
    | false=>rfl
theorem Run.sub {st2 stx:SS} {W Wa:PW} {β:Nat→Nat} {σ:Nat→Value} {a:Act} (h:Run W0 M st2 W β σ a Wa) (hn:stx.n=st2.n)
  (hT: ∀i s,look stx.T i=some s→a.tmps.getD i undef=s.val β σ∧Az7 stx.nx β σ s∧i<stx.n) (hC: ∀k bl,look stx.C k=some bl→k<stx.nx∧(bl = .dead∨look st2.C k=some bl)):Run W0 M stx W β σ a Wa:=by
 refine⟨⟨h.rel.defers,h.rel.size.trans hn.symm,fun i s hs=>⟨(hT i s hs).1,(hT i s hs).2.1⟩,fun k bl hc=>?_,fun k k' b1 b2 g hne h1 h2 g1 g2=>?_,fun i s hs=>(hT i s hs).2.2⟩,
  h.ext,h.Ai1,h.priv,h.lt,h.s0,h.b0,fun k bl hc=>(hC k bl hc).1,fun k bl g hc hg=>?_⟩
 ·rcases(hC k bl hc).2 with rfl | hc'
  ·trivial
  ·exact h.rel.C k bl hc'
 ·rcases(hC k b1 h1).2 with rfl | h1'
  ·simp[Ab8] at g1
  ·rcases(hC k' b2 h2).2 with rfl | h2'
   ·simp[Ab8] at g2
   ·exact h.rel.inj k k' b1 b2 g hne h1' h2' g1 g2
 ·rcases(hC k bl hc).2 with rfl | hc'
  ·simp[Ab8] at hg
  ·exact h.fresh k bl g hc' hg
theorem Ez0 {st2:SS} : ∀{bs:List (Nat×Bz3)} {stx:SS} {lb:List PL} (_:PB bs st2 lb) (_: ∀k bl,look stx.C k=some bl→k<stx.nx∧((∃b,b∈bs∧b.1=k)∨bl = .dead∨look st2.C k=some bl)) (_: ∀b,b∈bs→b.1<stx.nx),
  ∃stB,HB bs stx lb stB∧∀k bl,look stB.C k=some bl→k<stx.nx∧(bl = .dead∨look st2.C k=some bl)
 | [],stx,lb,h,hC,_=>by
  obtain rfl:lb = []:=h
  exact⟨stx,⟨rfl,rfl⟩,fun k bl hc=>⟨(hC k bl hc).1,(hC k bl hc).2.resolve_left (by simp)⟩⟩
 | (k,.box sh) :: r,stx,lb,h,hC,hB=>by
  obtain⟨cs,l',rfl,hk,hs,hr⟩:=h
  obtain⟨stB,h1,h2⟩:=Ez0 (bs:=r) (stx:={stx with C:=(k,.box cs) :: stx.C }) hr (by
   intro i bl hc
   simp only[Ab4] at hc
   split at hc
   ·rename_i he;subst he
    obtain rfl:=Option.some.inj hc
    exact⟨hB (k,.box sh) (by simp),.inr (.inr hk)⟩
   ·rename_i hne
    obtain⟨h1,h2⟩:=hC i bl hc
    refine⟨h1,h2.imp ?_ id⟩
    rintro⟨b,hb,rfl⟩
    rcases List.mem_cons.1 hb with rfl | hb
    ·exact(hne rfl).elim
    ·exact⟨b,hb,rfl⟩) (fun b hb=>hB b (by simp[hb]))
  exact⟨stB,⟨cs,l',hs,rfl,h1⟩,h2⟩
 | (k,.row t sz) :: r,stx,lb,h,hC,hB=>by
  obtain⟨cs,l',rfl,hk,hr⟩:=h
  obtain⟨stB,h1,h2⟩:=Ez0 (bs:=r) (stx:={stx with C:=(k,.row t sz cs) :: stx.C }) hr (by
   intro i bl hc
   simp only[Ab4] at hc
   split at hc
   ·rename_i he;subst he
    obtain rfl:=Option.some.inj hc
    exact⟨hB (k,.row t sz) (by simp),.inr (.inr hk)⟩
   ·rename_i hne
    obtain⟨h1,h2⟩:=hC i bl hc
    refine⟨h1,h2.imp ?_ id⟩
    rintro⟨b,hb,rfl⟩
    rcases List.mem_cons.1 hb with rfl | hb
    ·exact(hne rfl).elim
    ·exact⟨b,hb,rfl⟩) (fun b hb=>hB b (by simp[hb]))
  exact⟨stB,⟨cs,l',rfl,h1⟩,h2⟩
 | (k,.itr g kt et since) :: r,stx,lb,h,hC,hB=>by
  obtain⟨seen,last,cur,l',rfl,hk,hr⟩:=h
  obtain⟨stB,h1,h2⟩:=Ez0 (bs:=r) (stx:={stx with C:=(k,.itr g kt et since seen last cur) :: stx.C }) hr (by
   intro i bl hc
   simp only[Ab4] at hc
   split at hc
   ·rename_i he;subst he
    obtain rfl:=Option.some.inj hc
    exact⟨hB (k,.itr g kt et since) (by simp),.inr (.inr hk)⟩
   ·rename_i hne
    obtain⟨h1,h2⟩:=hC i bl hc
    refine⟨h1,h2.imp ?_ id⟩
    rintro⟨b,hb,rfl⟩
    rcases List.mem_cons.1 hb with rfl | hb
    ·exact(hne rfl).elim
    ·exact⟨b,hb,rfl⟩) (fun b hb=>hB b (by simp[hb]))
  exact⟨stB,⟨seen,last,cur,l',rfl,h1⟩,h2⟩
theorem PC.Fg0 {a:Act} {w:World} {n:Nat} : ∀{cars:List (Nat×Car)} {G:List Nat} {l:List PL} (_:PC a w n cars G l),∀g,g∈Do8 a cars→¬g∈G
 | [],G,l,h,g,hg=>by simp[Do8] at hg
 | (d,.val i) :: r,G,l,h,g,hg=>by
  obtain⟨v,l',_,_,_,_,hr⟩:=h
  exact PC.Fg0 hr g hg
 | (d,.own t sz) :: r,G,l,h,g,hg=>by
  obtain⟨xs,l',_,_,_,hn,hr⟩:=h
  simp only[Do8,List.mem_append] at hg
  rcases hg with hg | hg
  ·exact hn g (by simpa using hg)
  ·have:=PC.Fg0 hr g hg
   exact fun h=>this (List.mem_append_right _ h)
theorem Run.Fu4 {st:SS} {W Wa:PW} {β:Nat→Nat} {σ:Nat→Value} {a:Act} {d:Nat} {s:SV} (h:Run W0 M st W β σ a Wa) (hd:d<st.n) (hs:Az7 st.nx β σ s) (hv:a.tmps.getD d undef=s.val β σ):
  Run W0 M {st with T:=(d,s) :: st.T } W β σ a Wa:=by
 refine⟨⟨h.rel.defers,h.rel.size,fun i s' hi=>?_,h.rel.C,h.rel.inj,fun i s' hi=>?_⟩,h.ext,h.Ai1,h.priv,h.lt,h.s0,h.b0,h.nC,h.fresh⟩
 ·simp only[Ab4] at hi
  split at hi
  ·rename_i he;subst he;obtain rfl:=Option.some.inj hi;exact⟨hv,hs⟩
  ·exact h.rel.T i s' hi
 ·simp only[Ab4] at hi
  split at hi
  ·rename_i he;subst he;exact hd
  ·exact h.rel.dom i s' hi
theorem Run.Fr4 {st:SS} {W Wa:PW} {β:Nat→Nat} {σ:Nat→Value} {a:Act} {t sz:Nat} {v:Value} {xs:List (List Value)} (h:Run W0 M st W β σ a Wa) (hO:Ai0 Wa.w t sz v xs)
  (hv: ∀g,v.ownBlock=some g→Ax6 st β σ g∧Wa.S g∧W0.w.heap.size≤g):
  Run W0 M (Ac4 st (.row t sz xs)) W β (upd σ st.nx v) a Wa∧∀k,k<st.nx→β k=β k∧upd σ st.nx v k=σ k:=by
 have hag: ∀k,k<st.nx→β k=β k∧upd σ st.nx v k=σ k:=fun k hk=>by simp[upd,show k≠st.nx by omega]
 have hlook: ∀k bl',look (Ac4 st (.row t sz xs)).C k=some bl'→(k=st.nx∧bl' = .row t sz xs)∨(k<st.nx∧look st.C k=some bl'):=by
  intro k bl' hc
  simp only[Ac4,Ab4] at hc
  split at hc
  ·rename_i he;exact .inl ⟨he.symm,(Option.some.inj hc).symm⟩
  ·exact .inr ⟨h.nC _ _ hc,hc⟩
 have hnb:Ab8 β (upd σ st.nx v) st.nx (.row t sz xs)=v.ownBlock:=by simp[Ab8,upd]
 refine⟨⟨⟨h.rel.defers,h.rel.size,fun i s hs=>?_,fun k bl' hc=>?_,?_,h.rel.dom⟩,h.ext,h.Ai1,h.priv,h.lt,h.s0,h.b0,?_,?_⟩,hag⟩
 ·obtain⟨h1,h2⟩:=h.rel.T i s hs
  exact⟨h1.trans (Ar8 hag h2).symm,(Ay6 hag h2).mono (Nat.le_succ _)⟩
 ·rcases hlook k bl' hc with⟨rfl,rfl⟩ | ⟨hlt,hc'⟩
  ·refine⟨by simpa[upd] using hO,fun g hg=>(hv g (by simpa[upd] using hg)).2.1⟩
  ·exact(h.rel.C k bl' hc').same hag hlt fun g hg'=>⟨rfl,Ca6 (h.rel.C k bl' hc') hg'⟩
 ·intro k k' b1 b2 g hne h1 h2 hg1 hg2
  rcases hlook k b1 h1 with⟨rfl,rfl⟩ | ⟨hl1,hc1⟩<;>rcases hlook k' b2 h2 with⟨rfl,rfl⟩ | ⟨hl2,hc2⟩
  ·exact hne rfl
  ·rw[hnb] at hg1
   rw[Ad7 hag hl2] at hg2
   exact(hv g hg1).1 k' b2 hc2 hg2
  ·rw[hnb] at hg2
   rw[Ad7 hag hl1] at hg1
   exact(hv g hg2).1 k b1 hc1 hg1
  ·rw[Ad7 hag hl1] at hg1
   rw[Ad7 hag hl2] at hg2
   exact h.rel.inj k k' b1 b2 g hne hc1 hc2 hg1 hg2
 ·intro k bl' hc
  rcases hlook k bl' hc with⟨rfl,_⟩ | ⟨hlt,_⟩
  ·exact Nat.lt_succ_self _
  ·exact Nat.lt_succ_of_lt hlt
 ·intro k bl' g hc hg'
  rcases hlook k bl' hc with⟨rfl,rfl⟩ | ⟨hlt,hc'⟩
  ·rw[hnb] at hg';exact(hv g hg').2.2
  ·rw[Ad7 hag hlt] at hg';exact h.fresh k bl' g hc' hg'
theorem Fe3: ∀{cars:List (Nat×Car)} {stx:SS} {lc:List PL} {G:List Nat} {W Wa:PW} {β:Nat→Nat} {σ:Nat→Value} {a:Act} (_:Run W0 M stx W β σ a Wa) (_:PC a Wa.w stx.n cars G lc)
  (_: ∀g,g∈Do8 a cars→Ax6 stx β σ g∧Wa.S g∧W0.w.heap.size≤g),∃sth β' σ',HC cars stx lc sth∧Run W0 M sth W β' σ' a Wa∧∀k,k<stx.nx→β' k=β k∧σ' k=σ k
 | [],stx,lc,G,W,Wa,β,σ,a,hR,hP,_=>by
  obtain rfl:lc = []:=hP
  exact⟨stx,β,σ,⟨rfl,rfl⟩,hR,Ab2⟩
 | (d,.val i) :: r,stx,lc,G,W,Wa,β,σ,a,hR,hP,hG=>by
  obtain⟨v,l',rfl,hv,hd,hty,hr⟩:=hP
  obtain⟨sth,β',σ',h1,h2,h3⟩:=Fe3 (cars:=r) (hR.Fu4 (s:=.v v) hd trivial hv) hr hG
  exact⟨sth,β',σ',⟨v,l',hty,rfl,h1⟩,h2,h3⟩
 | (d,.own t sz) :: r,stx,lc,G,W,Wa,β,σ,a,hR,hP,hG=>by
  obtain⟨xs,l',rfl,hd,hO,hn,hr⟩:=hP
  have hv: ∀g,(a.tmps.getD d undef).ownBlock=some g→Ax6 stx β σ g∧Wa.S g∧W0.w.heap.size≤g:=fun g hg=>hG g (by simp only[Do8,List.mem_append,Option.mem_toList];exact .inl hg)
  obtain⟨r1,r2⟩:=hR.Fr4 hO hv
  have r3:=r1.Fu4 (d:=d) (s:=.o stx.nx) hd (Nat.lt_succ_self _) (by simp[SV.val,upd])
  obtain⟨sth,β',σ',h1,h2,h3⟩:=Fe3 (cars:=r) r3 hr (by
   intro g hg
   obtain⟨f1,f2⟩:=hG g (by simp only[Do8,List.mem_append];exact .inr hg)
   refine⟨?_,f2⟩
   have hng:=hr.Fg0 g hg
   intro k bl hc
   simp only[Ac4,Ab4] at hc
   split at hc
   ·rename_i he;subst he
    obtain rfl:=Option.some.inj hc
    simp only[Ab8,upd,if_true]
    exact fun e=>hng (List.mem_append_left _ (by simp only[Option.mem_toList];exact e))
   ·have hlt:=hR.nC _ _ hc
    rw[Ad7 r2 hlt]
    exact f1 k bl hc)
  exact⟨sth,β',σ',⟨xs,l',rfl,h1⟩,h2,fun k hk=>⟨(h3 k (Nat.lt_succ_of_lt hk)).1.trans (r2 k hk).1,(h3 k (Nat.lt_succ_of_lt hk)).2.trans (r2 k hk).2⟩⟩
theorem Cg8 {bs:List (Nat×Bz3)} {cars:List (Nat×Car)} {st2 stb:SS} {lb lc:List PL} {W Wa:PW} {β:Nat→Nat} {σ:Nat→Value} {a:Act} (hR:Run W0 M st2 W β σ a Wa) (hB:PB bs st2 lb) (hP:PC a Wa.w st2.n cars [] lc)
  (hG: ∀g,g∈Do8 a cars→Ax6 st2 β σ g∧Wa.S g∧W0.w.heap.size≤g) (hn:stb.n=st2.n) (hT: ∀i s,look stb.T i=some s→a.tmps.getD i undef=s.val β σ∧Az7 stb.nx β σ s∧i<stb.n)
  (hC: ∀k bl,look stb.C k=some bl→k<stb.nx∧((∃b,b∈bs∧b.1=k)∨bl = .dead∨look st2.C k=some bl)) (hb: ∀b,b∈bs→b.1<stb.nx):
  ∃sth β' σ',Head bs cars stb (lc ++ lb) sth∧Run W0 M sth W β' σ' a Wa∧∀k,k<stb.nx→β' k=β k∧σ' k=σ k:=by
 obtain⟨stB,h1,h2⟩:=Ez0 hB hC hb
 obtain⟨e1,e2,e3,e4,e5⟩:=h1.Ai1
 have hRB:Run W0 M stB W β σ a Wa:=hR.sub (e2.trans hn) (by rw[e4,e1,e2];exact hT) (by rw[e1];exact h2)
 obtain⟨sth,β',σ',h3,h4,h5⟩:=Fe3 (G:=[]) (cars:=cars) (lc:=lc) hRB (by rw[e2,hn];exact hP) (fun g hg=>⟨fun k bl hc=>by
  rcases(h2 k bl hc).2 with rfl | hc'
  ·simp[Ab8]
  ·exact(hG g hg).1 k bl hc',(hG g hg).2⟩)
 exact⟨sth,β',σ',⟨lb,lc,stB,h1,h3,rfl⟩,h4,by rw[e1] at h5;exact h5⟩
theorem Head.Ai1 {bs:List (Nat×Bz3)} {cars:List (Nat×Car)} {stb:SS} {l:List PL} {sth:SS} (h:Head bs cars stb l sth):stb.nx≤sth.nx∧sth.n=stb.n∧sth.D=stb.D∧∀k,k<stb.nx→(∀b,b∈bs→b.1≠k)→look sth.C k=look stb.C k:=by
 obtain⟨lb,lc,stB,h1,h2,rfl⟩:=h
 obtain⟨e1,e2,e3,e4,e5⟩:=h1.Ai1
 obtain⟨f1,f2,f3,f4⟩:=h2.Ai1
 exact⟨by omega,f2.trans e2,f3.trans e3,fun k hk hb=>(f4 k (by omega)).trans (e5 k hb)⟩
theorem Bx7 {al:List Nat} {nx:Nat} {new D:List Nat} (h:Cg4 al nx D.length (new ++ D)=true) {k:Nat} (hk:k<nx) (hb:¬k∈al):¬k∈new:=by
 intro hm
 have he:(new ++ D).take (Nat.sub (new ++ D).length D.length)=new:=by
  have:Nat.sub (new ++ D).length D.length=new.length:=by simp
  rw[this]
  simp
 simp only[Cg4,he,List.all_eq_true] at h
 have:=h k hm
 simp only[Bool.or_eq_true,List.any_eq_true] at this
 rcases this with h | ⟨b,hb',he⟩
 ·have:nx≤k:=Nat.le_of_ble_eq_true h
  omega
 ·exact hb (by rw[←Nat.eq_of_beq_eq_true he];exact hb')
theorem Dd1 {bs:List (Nat×Bz3)} {ds:List Nat} {st1:SS} {W1 Wa1:PW} {β σ} {a1:Act} (h1:Run W0 M st1 W1 β σ a1 Wa1) {β2:Nat→Nat} {σ2:Nat→Value} {a2:Act} (hag: ∀k,k<st1.nx→β2 k=β k∧σ2 k=σ k)
  (ht: ∀i,¬i∈ds→a2.tmps.getD i undef=a1.tmps.getD i undef): ∀i s,look (Aw4 ds bs st1).T i=some s→a2.tmps.getD i undef=s.val β2 σ2∧Az7 (Aw4 ds bs st1).nx β2 σ2 s∧i<(Aw4 ds bs st1).n:=by
 intro i s hs
 obtain⟨hs',hi⟩:=Bb2 hs
 obtain⟨e1,e2⟩:=h1.rel.T i s hs'
 exact⟨(ht i hi).trans (e1.trans (Ar8 hag e2).symm),Ay6 hag e2,h1.rel.dom i s hs'⟩
theorem PB.names: ∀{bs:List (Nat×Bz3)} {st:SS} {l:List PL} (_:PB bs st l),∀b,b∈bs→∃bl,look st.C b.1=some bl
 | [],st,l,h,b,hb=>by simp at hb
 | (k,.box sh) :: r,st,l,h,b,hb=>by
  obtain⟨cs,l',_,hk,_,hr⟩:=h
  rcases List.mem_cons.1 hb with rfl | hb
  ·exact⟨_,hk⟩
  ·exact PB.names hr b hb
 | (k,.row t sz) :: r,st,l,h,b,hb=>by
  obtain⟨cs,l',_,hk,hr⟩:=h
  rcases List.mem_cons.1 hb with rfl | hb
  ·exact⟨_,hk⟩
  ·exact PB.names hr b hb
 | (k,.itr g kt et since) :: r,st,l,h,b,hb=>by
  obtain⟨seen,last,cur,l',_,hk,hr⟩:=h
  rcases List.mem_cons.1 hb with rfl | hb
  ·exact⟨_,hk⟩
  ·exact PB.names hr b hb
theorem Ce2 {c:Code} {cars:List (Nat×Car)} {bs:List (Nat×Bz3)} {ds:List Nat} {body:SS→PW→(Exit→SS→PW→Prop)→Prop}
  (hbody: ∀st W K,body st W K→∀β σ a Wa,Run W0 M st W β σ a Wa→c.wp P (fun e a' w'=>Out W0 M st β σ a ds (K e) a' w') a Wa.w)
  {st:SS} {W:PW} {K:Exit→SS→PW→Prop} (h:Fe6 W0 cars bs ds st W body K) {β:Nat→Nat} {σ:Nat→Value} {a:Act} {Wa:PW} (hR:Run W0 M st W β σ a Wa):
  (Code.loop c).wp P (fun e a' w'=>Out W0 M st β σ a ds (K e) a' w') a Wa.w:=by
 obtain⟨lc0,st0,W0',Wa0,h,hw0,hR0,hT0,hD0,hP0,hG0⟩:=Al1 (G:=[]) h hR (by simp)
 obtain⟨lb0,h,hB0⟩:=Ak6 h
 obtain⟨I,μ,hI0,hh⟩:=h
 have hbn: ∀b,b∈bs→b.1<st0.nx:=fun b hb=>by obtain⟨bl,hbl⟩:=hB0.names b hb;exact hR0.nC _ _ hbl
 have hdesc: ∀{l sth},Head bs cars (Aw4 ds bs st0) l sth→Ah1 st sth:=by
  intro l sth hhd
  obtain⟨e1,e2,e3,e4⟩:=hhd.Ai1
  refine hD0.trans ⟨e1,e2,bs.map (fun b=>b.1),by rw[e3];rfl,fun k hk hn=>?_⟩
  exact e4 k hk fun b hb e=>hn (List.mem_map.2 ⟨b,hb,e⟩)
 obtain⟨sth0,β0',σ0',hd0,hrun0,hag0⟩:=Cg8 (stb:=Aw4 ds bs st0) hR0 hB0 (by rw[hw0,hD0.n];exact hP0) (by simpa using hG0) rfl (Dd1 hR0 Ab2 fun _ _=>rfl)
  (fun k bl hc=>⟨hR0.nC _ _ hc,.inr (.inr hc)⟩) hbn
 rw[←hw0]
 refine wp_loop_ghost (fun n a' w'=>∃β' σ' W' Wa' l sth,Wa'.w=w'∧Head bs cars (Aw4 ds bs st0) l sth∧Run W0 M sth W' β' σ' a' Wa'∧I l W'∧μ l W'=n∧(∀k,k<st0.nx→β' k=β k∧σ' k=σ k)∧
  ∀i,¬i∈ds→a'.tmps.getD i undef=a.tmps.getD i undef) (μ (lc0 ++ lb0) W0') ⟨β0',σ0',W0',Wa0,_,sth0,rfl,hd0,hrun0,hI0,rfl,hag0,fun _ _=>rfl⟩ ?_
 rintro n a1 w1 ⟨β1,σ1,W1,Wa1,l,sth,rfl,hhd,hR1,hI1,hμ,hag1,htm1⟩
 refine wp_mono (hbody _ _ _ (Cy5 hh hhd W1 hI1) β1 σ1 a1 Wa1 hR1) ?_
 obtain⟨k1,k2,k3,k4⟩:=hhd.Ai1
 intro e a2 w2 hO
 have lift: ∀{K'},Out W0 M sth β1 σ1 a1 ds K' a2 w2→Out W0 M st β σ a ds K' a2 w2:=fun hO=>
  Out.of (hdesc hhd) (fun k hk=>hag1 k (Nat.lt_of_lt_of_le hk hD0.nx)) htm1 (fun _ h=>h) (fun _ h=>h) (fun _ _ h=>h) hO
 cases e with
 | normal=>
  obtain⟨β2,σ2,st2,W2,Wa2,rfl,hR2,hK2,hD2,hag2,htm2⟩:=hO
  obtain⟨lc3,st3,W3,Wa3,hK3,hw3,hR3,hT3,hD3,hP3,hG3⟩:=Al1 (G:=[]) hK2 hR2 (by simp)
  obtain⟨lb3,hK3,hB3⟩:=Ak6 hK3
  split at hK3
  ·rename_i hdirty
   obtain⟨hI3,hμ3⟩:=hK3
   have hD13:=hD2.trans hD3
   have hag: ∀k,k<st0.nx→β2 k=β k∧σ2 k=σ k:=fun k hk=>⟨(hag2 k (Nat.lt_of_lt_of_le hk k1)).1.trans (hag1 k hk).1,(hag2 k (Nat.lt_of_lt_of_le hk k1)).2.trans (hag1 k hk).2⟩
   have htm: ∀i,¬i∈ds→a2.tmps.getD i undef=a.tmps.getD i undef:=fun i hi=>(htm2 i hi).trans (htm1 i hi)
   obtain⟨new,hnew,hsame⟩:=hD13.D
   obtain⟨sth3,β3,σ3,hd3,hrun3,hag3⟩:=Cg8 (stb:=Aw4 ds bs st0) hR3 hB3 (by rw[hw3,hD3.n];exact hP3) (by simpa using hG3) (by rw[hD13.n,k2]) (Dd1 hR0 hag htm)
    (fun k bl hc=>by
     refine⟨hR0.nC _ _ hc,?_⟩
     by_cases hb: ∃b,b∈bs∧b.1=k
     ·exact .inl hb
     ·right;right
      have hb': ∀b,b∈bs→b.1≠k:=fun b h1 h2=>hb ⟨b,h1,h2⟩
      have hk:=hR0.nC _ _ hc
      rw[hnew] at hdirty
      rw[hsame k (Nat.lt_of_lt_of_le hk k1) (Bx7 hdirty hk (fun hm=>by obtain⟨b,h1,h2⟩:=List.mem_map.1 hm;exact hb' b h1 h2)),k4 k hk hb']
      exact hc) hbn
   refine⟨_,by rw[←hμ];exact hμ3,β3,σ3,W3,Wa3,_,sth3,hw3,hd3,hrun3,hI3,rfl,fun k hk=>⟨(hag3 k hk).1.trans (hag k hk).1,(hag3 k hk).2.trans (hag k hk).2⟩,htm⟩
  ·exact hK3.elim
 | exit id=>exact lift hO
 | goto l=>exact lift hO
 | ret=>exact lift hO
 | panic c=>exact lift hO
 | outgrown=>exact lift hO
end Go.SX
/- The symbolic evaluator: cuts; code; functions. -/
namespace Go.SX
variable {P:Program} {tt:List (Nat×TyI)} {W0:PW} {M:Nat→Prop}
theorem Cw0 {ks:List Nat} {C:List (Nat×Blk)} {k:Nat} :look ((ks.map fun k=>(k,Blk.dead)) ++ C) k=if k∈ks then some .dead else look C k:=by
 induction ks with
 | nil=>simp
 | cons x r ih=>
  simp only[List.map_cons,List.cons_append,Ab4,ih,List.mem_cons]
  by_cases h:x=k
  ·simp[h]
  ·simp[h,show ¬k=x from fun e=>h e.symm]
theorem Ek2 {cx cy:Code} {cars:List (Nat×Car)} {bs:List (Nat×Bz3)} {ds dy:List Nat} {x y:SS→PW→(Exit→SS→PW→Prop)→Prop}
  (hx: ∀st W K,x st W K→∀β σ a Wa,Run W0 M st W β σ a Wa→cx.wp P (fun e a' w'=>Out W0 M st β σ a ds (K e) a' w') a Wa.w)
  (hy: ∀st W K,y st W K→∀β σ a Wa,Run W0 M st W β σ a Wa→cy.wp P (fun e a' w'=>Out W0 M st β σ a dy (K e) a' w') a Wa.w)
  {st:SS} {W:PW} {K:Exit→SS→PW→Prop} (h:Fr0 W0 cars bs ds st W x y K) {β:Nat→Nat} {σ:Nat→Value} {a:Act} {Wa:PW} (hR:Run W0 M st W β σ a Wa):
  (Code.seq cx cy).wp P (fun e a' w'=>Out W0 M st β σ a (ds ++ dy) (K e) a' w') a Wa.w:=by
 unfold Fr0 at h
 split at h
 ·exact h.elim
 rename_i hbs
 have hbn: ∀b,b∈bs→b.1<st.nx:=fun b hb=>Nat.le_of_ble_eq_true (List.all_eq_true.1 hbs b hb)
 obtain⟨J,h1,h2⟩:=h
 refine wp_seq (wp_mono (hx _ _ _ h1 β σ a Wa hR) ?_)
 intro e a2 w2 hO
 have lift: ∀{K'},Out W0 M st β σ a ds K' a2 w2→Out W0 M st β σ a (ds ++ dy) K' a2 w2:=fun hO=>
  Out.of (Ah1.refl _) Ab2 (fun _ _=>rfl) (ds1:=[]) (by simp) (fun _ h=>List.mem_append_left _ h) (fun _ _ h=>h) hO
 cases e with
 | normal=>
  obtain⟨β2,σ2,st2,W2,Wa2,rfl,hR2,hK2,hD2,hag2,htm2⟩:=hO
  obtain⟨lc3,st3,W3,Wa3,hK3,hw3,hR3,hT3,hD3,hP3,hG3⟩:=Al1 (G:=[]) hK2 hR2 (by simp)
  obtain⟨lb3,hK3,hB3⟩:=Ak6 hK3
  split at hK3
  ·rename_i hdirty
   have hD13:=hD2.trans hD3
   obtain⟨new,hnew,hsame⟩:=hD13.D
   rw[hnew] at hdirty
   have hkn: ∀k,k∈Bk3 cars st→k<st.nx:=by
    intro k hk
    simp only[Bk3,List.mem_filterMap] at hk
    obtain⟨c,_,hc⟩:=hk
    split at hc
    ·split at hc
     ·rename_i k' hT
      obtain rfl:=Option.some.inj hc
      exact(hR.rel.T _ _ hT).2
     ·cases hc
    ·cases hc
   obtain⟨sth3,β3,σ3,hd3,hrun3,hag3⟩:=Cg8 (stb:=Aw4 ds bs (Dm4 (Bk3 cars st) st)) hR3 hB3 (by rw[hw3,hD3.n];exact hP3) (by simpa using hG3) (by rw[hD13.n];rfl)
    (Dd1 (st1:=st) (bs:=bs) hR hag2 htm2)
    (fun k bl hc=>by
     have hc:(if k∈Bk3 cars st then some Blk.dead else look st.C k)=some bl:=by rw[←Cw0];exact hc
     split at hc
     ·rename_i hk
      exact⟨hkn k hk,.inr (.inl (Option.some.inj hc).symm)⟩
     ·rename_i hk
      refine⟨hR.nC _ _ hc,?_⟩
      by_cases hb: ∃b,b∈bs∧b.1=k
      ·exact .inl hb
      ·right;right
       have hlt:=hR.nC _ _ hc
       rw[hsame k hlt (Bx7 hdirty hlt (fun hm=>by
        rcases List.mem_append.1 hm with hm | hm
        ·obtain⟨b,h1,h2⟩:=List.mem_map.1 hm;exact hb ⟨b,h1,h2⟩
        ·exact hk hm))]
       exact hc) hbn
   have hyw:=hy _ _ _ (Cy5 h2 hd3 W3 hK3) β3 σ3 a2 Wa3 hrun3
   rw[hw3] at hyw
   refine wp_mono hyw ?_
   intro e a4 w4 hO
   obtain⟨k1,k2,k3,k4⟩:=hd3.Ai1
   have hdesc:Ah1 st sth3:=by
    refine⟨k1,k2,bs.map (fun b=>b.1) ++ Bk3 cars st,by rw[k3];simp[Aw4,Dm4],fun k hk hn=>?_⟩
    simp only[List.mem_append,not_or] at hn
    rw[k4 k hk fun b hb e=>hn.1 (List.mem_map.2 ⟨b,hb,e⟩)]
    show look ((Bk3 cars st).map (fun k=>(k,Blk.dead)) ++ st.C) k=_
    rw[Cw0,if_neg hn.2]
   exact Out.of hdesc (fun k hk=>⟨(hag3 k hk).1.trans (hag2 k hk).1,(hag3 k hk).2.trans (hag2 k hk).2⟩) htm2 (fun _ h=>List.mem_append_left _ h) (fun _ h=>List.mem_append_right _ h) (fun _ _ h=>h) hO
  ·exact hK3.elim
 | exit id=>exact lift hO
 | goto l=>exact lift hO
 | ret=>exact lift hO
 | panic c=>exact lift hO
 | outgrown=>exact lift hO
theorem Bj3: ∀{ks:List Nat} {st:SS} {W Wa:PW} {β:Nat→Nat} {σ:Nat→Value} {a:Act} {K:SS→PW→Prop} (_:Fk0 W0 ks st W K) (_:Run W0 M st W β σ a Wa),
  ∃st' W' Wa',K st' W'∧Wa'.w=Wa.w∧Run W0 M st' W' β σ a Wa'∧Ah1 st st'
 | [],st,W,Wa,β,σ,a,K,h,hR=>⟨st,W,Wa,h,rfl,hR,Ah1.refl _⟩
 | k :: r,st,W,Wa,β,σ,a,K,h,hR=>by
  simp only[Fk0] at h
  split at h
  ·obtain⟨v,st1,W1,Wa1,h1,_,hw,hR1,_,hD⟩:=Cw9 h hR
   obtain⟨st2,W2,Wa2,h2,hw2,hR2,hD2⟩:=Bj3 (ks:=r) h1 hR1
   exact⟨st2,W2,Wa2,h2,hw2.trans hw,hR2,hD.trans hD2⟩
  ·exact Bj3 (ks:=r) h hR
theorem Eg7 (hM:P.follows .mixedOrders=true) (hT:Ac6 P tt) (hF:Ae7 tt) {cuts:List Nat} : ∀(c:Code) {U:List Nat} {st:SS} {W:PW} {K:Exit→SS→PW→Prop} (_:sxC P tt W0 M cuts c U st W K)
  {β:Nat→Nat} {σ:Nat→Value} {a:Act} {Wa:PW} (_:Run W0 M st W β σ a Wa),c.wp P (fun e a' w'=>Out W0 M st β σ a (Cw1 c) (K e) a' w') a Wa.w:=by
 intro c
 have here: ∀{e:Exit} {st:SS} {W:PW} {K:Exit→SS→PW→Prop} {β σ a} {Wa:PW},Run W0 M st W β σ a Wa→K e st W→Out W0 M st β σ a [] (K e) a Wa.w:=
  fun hR h=>⟨_,_,_,_,_,rfl,hR,h,Ah1.refl _,Ab2,fun _ _=>rfl⟩
 induction c with
 | skip=>exact fun h _ _ _ _ hR=>wp_skip (here hR h)
 | ret=>exact fun h _ _ _ _ hR=>wp_ret (here hR h)
 | exit id=>exact fun h _ _ _ _ hR=>wp_exit (here hR h)
 | region id ops draw=>
  intro U st W K h β σ a Wa hR
  simp only[sxC] at h
  cases draw with
  | false=>
   refine wp_region ?_
   have:=Bq6 hT hF (Q:=fun e a' w'=>Out W0 M st β σ a (Cw1 (.region id ops false)) (K e) a' w') ops.toList 0 (by simp) h hR (fun a' w' hO=>hO)
   simpa[List.range_eq_range'] using this
  | true=>
   simp only at h
   split at h
   ·rename_i hd
    exact Do1 hM hT hF hd h hR fun a' w' hO=>hO
   ·exact h.elim
 | seq x y ihx ihy=>
  intro U st W K h β σ a Wa hR
  simp only[sxC] at h
  split at h
  ·refine wp_seq (wp_mono (ihx h hR) ?_)
   intro e a2 w2 hO
   have lift: ∀{K'},Out W0 M st β σ a (Cw1 x) K' a2 w2→Out W0 M st β σ a (Cw1 (.seq x y)) K' a2 w2:=fun hO=>
    Out.of (Ah1.refl _) Ab2 (fun _ _=>rfl) (ds1:=[]) (by simp) (fun _ h=>List.mem_append_left _ h) (fun _ _ h=>h) hO
   cases e with
   | normal=>
    obtain⟨β2,σ2,st2,W2,Wa2,rfl,hR2,hK2,hD2,hag2,htm2⟩:=hO
    refine wp_mono (ihy hK2 hR2) ?_
    intro e a4 w4 hO
    exact Out.of hD2 hag2 htm2 (fun _ h=>List.mem_append_left _ h) (fun _ h=>List.mem_append_right _ h) (fun _ _ h=>h) hO
   | exit id=>exact lift hO
   | goto l=>exact lift hO
   | ret=>exact lift hO
   | panic c=>exact lift hO
   | outgrown=>exact lift hO
  ·exact Ek2 (fun st W K h β σ a Wa hR=>ihx h hR) (fun st W K h β σ a Wa hR=>ihy h hR) h hR
 | cond c x y ihx ihy=>
  intro U st W K h β σ a Wa hR
  simp only[sxC] at h
  obtain⟨s,hs,h1⟩:=Ac8 (W:=W) h
  obtain⟨t,ht,h2⟩:=As5 hs
  have he:=(h1 β σ a Wa hR.rel hR.ext).1.trans (h2 β σ)
  refine wp_cond he ?_
  cases t with
  | true=>
   refine wp_mono (ihx ht hR) fun e a' w' hO=>?_
   exact Out.of (Ah1.refl _) Ab2 (fun _ _=>rfl) (ds1:=[]) (by simp) (fun _ h=>List.mem_append_left _ h) (fun _ _ h=>h) hO
  | false=>
   refine wp_mono (ihy ht hR) fun e a' w' hO=>?_
   exact Out.of (Ah1.refl _) Ab2 (fun _ _=>rfl) (ds1:=[]) (by simp) (fun _ h=>List.mem_append_right _ h) (fun _ _ h=>h) hO
 | block id x ih=>
  intro U st W K h β σ a Wa hR
  simp only[sxC] at h
  refine wp_block (wp_mono (ih h hR) ?_)
  intro e a' w' hO
  cases e with
  | exit i=>
   simp only[Exit.inBlock]
   obtain⟨β2,σ2,st2,W2,Wa2,hw,hR2,hK2,hD2,hag2,htm2⟩:=hO
   replace hK2:(match Nat.beq i id with | true=>K .normal st2 W2 | false=>K (.exit i) st2 W2):=hK2
   split at hK2
   ·rename_i hb
    rw[if_pos (Nat.eq_of_beq_eq_true hb)]
    exact⟨β2,σ2,st2,W2,Wa2,hw,hR2,hK2,hD2,hag2,htm2⟩
   ·rename_i hb
    rw[if_neg (Nat.ne_of_beq_eq_false hb)]
    exact⟨β2,σ2,st2,W2,Wa2,hw,hR2,hK2,hD2,hag2,htm2⟩
  | normal=>exact hO
  | goto l=>exact hO
  | ret=>exact hO
  | panic c=>exact hO
  | outgrown=>exact hO
 | loop x ih=>
  intro U st W K h β σ a Wa hR
  simp only[sxC] at h
  split at h
  ·exact Ce2 (fun st W K h β σ a Wa hR=>ih h hR) h hR
  ·obtain⟨st1,W1,Wa1,h1,hw,hR1,hD⟩:=Bj3 h hR
   have:=Ce2 (fun st W K h β σ a Wa hR=>ih h hR) h1 hR1
   rw[hw] at this
   exact wp_mono this fun e a' w' hO=>Out.of hD Ab2 (fun _ _=>rfl) (ds1:=[]) (by simp) (fun _ h=>h) (fun _ _ h=>h) hO
 | _=>exact fun h=>h.elim
/-! ### Functions -/
def Fk2 (tmps : Array Value) : ResultVar → Sem Value
  | .tmp t => pure (tmps.getD t undef)
  | .cell a t => do loadVar t (← asAddr (tmps.getD a undef))
theorem Du5 (fn:Func) (tmps:Array Value):results fn tmps=(do let vs ←fn.results.mapM (Fk2 tmps);pure (if h:vs.size=1 then vs[0] else .tuple vs)):=by
 unfold results
 have:(fun x:ResultVar=>(match x with | .tmp t=>pure (tmps.getD t undef) | .cell a t=>do loadVar t (←asAddr (tmps.getD a undef)):Sem Value))=Fk2 tmps:=by
  funext x;cases x<;>rfl
 rw[←this]
 rfl
theorem Bi7 (hT:Ac6 P tt): ∀{l:List ResultVar} {st:SS} {W Wa:PW} {β:Nat→Nat} {σ:Nat→Value} {a:Act} {K:List Value→SS→PW→Prop} (_:Fh9 tt W0 l st W K) (_:Run W0 M st W β σ a Wa),
  ∃vs st' W' Wa',K vs st' W'∧Wa'.w=Wa.w∧Run W0 M st' W' β σ a Wa'∧(l.mapM (Fk2 a.tmps)).run P Wa.w = .ok vs Wa.w
 | [],st,W,Wa,β,σ,a,K,h,hR=>⟨[],st,W,Wa,h,rfl,hR,rfl⟩
 | .tmp t :: r,st,W,Wa,β,σ,a,K,h,hR=>by
  obtain⟨v,st1,W1,Wa1,h1,he,hw,hR1,hT1,hD1⟩:=Ah3 h hR
  obtain⟨vs,st2,W2,Wa2,h2,hw2,hR2,hr2⟩:=Bi7 hT (l:=r) h1 hR1
  refine⟨v :: vs,st2,W2,Wa2,h2,hw2.trans hw,hR2,?_⟩
  rw[hw] at hr2
  have he':a.tmps.getD t undef=v:=he
  simp only[List.mapM_cons,Sem.run_bind,Sem.run_pure,Result.andThen_ok,hr2,Fk2,he']
 | .cell b t :: r,st,W,Wa,β,σ,a,K,h,hR=>by
  simp only[Fh9] at h
  split at h
  ·rename_i i k off hi hb
   have hg:=hT.Aq3 hi
   obtain⟨v,hv,h1⟩:=Cd5 hg hg.2.2.2.2.1 h
   obtain⟨v',hv',h2⟩:=Av9 (W:=W) hv
   have e1:=h1 β σ a Wa hR.rel hR.ext
   have e2:v=v':=h2 β σ a Wa hR.rel hR.ext
   subst e2
   obtain⟨vs,st2,W2,Wa2,h2,hw2,hR2,hr2⟩:=Bi7 hT (l:=r) hv' hR
   refine⟨v :: vs,st2,W2,Wa2,h2,hw2,hR2,?_⟩
   have hp:a.tmps.getD b undef = .pointer (some ⟨β k,off,none⟩):=(hR.rel.T _ _ hb).1
   simp only[SV.val,Instr.loadAt,Instr.sureAddr,Sem.run_bind,Sem.run_pure,Result.andThen_ok] at e1
   have ha:(asAddr (a.tmps.getD b undef)).run P Wa.w = .ok ⟨β k,off,none⟩ Wa.w:=by rw[hp];rfl
   simp only[List.mapM_cons,Sem.run_bind,Sem.run_pure,Result.andThen_ok,Fk2,ha,e1,hr2]
  ·exact h.elim
theorem Ch5: ∀{l:List SV} {k i:Nat} {s:SV} (_:look (num k l) i=some s),k≤i∧l[i-k]?=some s
 | [],k,i,s,h=>by simp[num,look] at h
 | x :: r,k,i,s,h=>by
  simp only[num,Ab4] at h
  split at h
  ·rename_i he;subst he
   simpa using h
  ·rename_i hne
   obtain⟨h1,h2⟩:=Ch5 h
   have h1:k+1≤i:=h1
   refine⟨by omega,?_⟩
   rw[show i-k=(i-k.succ)+1 by omega]
   simpa using h2
theorem Aa3 (hM:P.follows .mixedOrders=true) (hT:Ac6 P tt) (hF:Ae7 tt) {cuts:List Nat} {f:FuncId} {fn:Func} (hf:P.funcs[f]?=some fn) (hb:fn.body.isSome=true) (hname:(fn.name == "runtime.NumGoroutine")=false) {args:List Value} (hn:args.length≤fn.ntmps)
  {Post:Value→PW→Prop} (h:Fu2 P tt W0 M cuts fn args Post):Aa0 P f args W0 M Post:=by
 refine⟨⟨fn,hf,hb,hname⟩,fun hS=>?_⟩
 unfold Fu2 at h
 split at h
 ·exact h.elim
 rename_i c hc
 refine calls_of_wp hf hc ?_
 have hR:Run W0 M {T:=num 0 (args.map .v),C:=[],nx:=0,n:=fn.ntmps,D:=[] } W0 (fun _=>0) (fun _=>undef) {tmps:=args.toArray ++ Array.replicate (fn.ntmps-args.toArray.size) undef,defers:=[] } W0:=by
  refine⟨⟨rfl,by simp;omega,fun i s hs=>?_,fun k bl hk=>by simp[look] at hk,fun k k' b1 b2 g _ h1=>by simp[look] at h1,fun i s hs=>?_⟩,Ext.refl _,Am7.refl _ _,fun b hb=>.inl hb,hS,fun b hb=>hb,hS,fun k bl hk=>by simp[look] at hk,fun k bl g hk=>by simp[look] at hk⟩
  ·obtain⟨_,h2⟩:=Ch5 hs
   simp only[Nat.sub_zero,List.getElem?_map,Option.map_eq_some_iff] at h2
   obtain⟨v,hv,rfl⟩:=h2
   have hlt:=(List.getElem?_eq_some_iff.1 hv).1
   refine⟨?_,trivial⟩
   simp only[SV.val]
   rw[Array.getD_eq_getD_getElem?,Array.getElem?_append_left (by simpa using hlt)]
   simp[hv]
  ·obtain⟨_,h2⟩:=Ch5 hs
   have:=(List.getElem?_eq_some_iff.1 h2).1
   simp at this
   show i<fn.ntmps
   omega
 refine wp_mono (Eg7 hM hT hF c h hR) ?_
 have fin: ∀{a':Act} {w':World},Out W0 M {T:=num 0 (args.map .v),C:=[],nx:=0,n:=fn.ntmps,D:=[] } (fun _=>0) (fun _=>undef) {tmps:=args.toArray ++ Array.replicate (fn.ntmps-args.toArray.size) undef,defers:=[] } (Cw1 c)
   (fun st W=>Fh9 tt W0 fn.results.toList st W fun l _ W=>Fs1 l fun v=>∀W',Ext W W'→Post v W') a' w'→
   a'.defers = []∧∃v,(results fn a'.tmps).run P w' = .ok v w'∧∃v',Ending.returned v = .returned v'∧Am7 M W0.w w'∧Post v' ⟨w',W0.S⟩:=by
  rintro a' w' ⟨β,σ,st,W,Wa,rfl,hR',hK,_⟩
  refine⟨hR'.rel.defers,?_⟩
  obtain⟨vs,st2,W2,Wa2,h2,hw2,hR2,hr⟩:=Bi7 hT hK hR'
  have hext:Ext W2 ⟨Wa2.w,W0.S⟩:=hR2.ext.trans ⟨Nat.le_refl _,fun b hb hs=>⟨rfl,fun h=>hs (hR2.s0 b h)⟩⟩
  have hrun: ∀v,(if h:vs.toArray.size=1 then vs.toArray[0] else .tuple vs.toArray)=v→(results fn a'.tmps).run P Wa.w = .ok v Wa.w:=by
   intro v hv
   rw[Du5,Array.mapM_eq_mapM_toList]
   simp only[Sem.run_bind,Sem.run_map,Result.andThen_ok,Sem.run_pure,hr,hv]
  rw[←hw2]
  cases vs with
  | nil=>exact⟨_,by rw[hw2];exact hrun _ (by simp),_,rfl,hR2.Ai1,h2 _ hext⟩
  | cons x r=>
   cases r with
   | nil=>exact⟨x,by rw[hw2];exact hrun x (by simp),x,rfl,hR2.Ai1,h2 _ hext⟩
   | cons y r=>exact⟨_,by rw[hw2];exact hrun _ (by simp),_,rfl,hR2.Ai1,h2 _ hext⟩
 intro e a' w' hO
 cases e with
 | normal=>exact fin hO
 | ret=>exact fin hO
 | exit id=>obtain⟨_,_,_,_,_,_,_,hK,_⟩:=hO;exact hK.elim
 | goto l=>obtain⟨_,_,_,_,_,_,_,hK,_⟩:=hO;exact hK.elim
 | panic c=>obtain⟨_,_,_,_,_,_,_,hK,_⟩:=hO;exact hK.elim
 | outgrown=>obtain⟨_,_,_,_,_,_,_,hK,_⟩:=hO;exact hK.elim
end Go.SX
