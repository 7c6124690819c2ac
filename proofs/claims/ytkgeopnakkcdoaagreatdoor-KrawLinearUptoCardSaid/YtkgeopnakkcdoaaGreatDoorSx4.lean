import Derived.Test.YtkgeopnakkcdoaaGreatDoorSx3
import Derived.Orders
set_option linter.unusedVariables false
set_option linter.unusedSimpArgs false
namespace Go.SX
variable {a a':Act}{b fr:Bool}{l listed:Array Bool}{o oj:Oper}{ops:Array Oper}{p:Cq8}{qa:QA}{s:SV}{sp st st1:SS}{t:TypeId}{α β:Type}
variable {P:Program} {tt:List (Nat×TyI)} {W0:PW} {M:Nat->Prop}
theorem Ad9 {l:List Nat}{x:Nat}:mem l x=true↔x∈l:=by
 unfold mem;rw[List.any_eq_true];constructor
 ·rintro⟨y,c,he⟩
  rw[Nat.eq_of_beq_eq_true he];exact c
 ·exact λ h=>⟨x,h,Nat.beq_refl x⟩
theorem Aw5 {p:Nat->Oper->Bool}: ∀{l:List Oper} {n:Nat} (_:allI p n l=true) {i:Nat} {o:Oper} (_:l[i]?=some o),p (n+i) o=true
 | [],n,_,i,o,h=>by simp at h
 | x::r,n,h,i,o,c=>by
  rw[allI,Bool.and_eq_true] at h
  cases i with
  | zero=>simp at c;subst c;exact h.1
  | succ i=>
   have:=Aw5 h.2 (i:=i) (o:=o) (by simpa using c);rw[show n+(i+1)=n.succ+i by omega];exact this
theorem Bi3 {p:Nat->Oper->Bool}: ∀{l:List Oper} {n i:Nat} {o:Oper} (_:Bm0 p n l=some (i,o)),∃k,i=n+k/\l[k]?=some o/\p i o=true
 | [],n,i,o,h=>by simp[Bm0] at h
 | x::r,n,i,o,h=>by
  rw[Bm0] at h;split at h
  ·rename_i c
   simp only[Option.some.injEq,Prod.mk.injEq] at h;obtain⟨rfl,rfl⟩:=h;exact⟨0,rfl,rfl,c⟩
  ·obtain⟨k,hk,d,c⟩:=Bi3 h
   exact⟨k+1,by omega,by simpa using d,c⟩
theorem Co6 {p:Nat->Oper->Bool}: ∀{l:List Oper} {n k:Nat} {o:Oper} (_:l[k]?=some o) (_:p (n+k) o=true),(n+k,o)∈Cu6 p n l
 | [],n,k,o,h,_=>by simp at h
 | x::r,n,k,o,h,c=>by
  rw[Cu6]
  cases k with
  | zero=>simp at h;subst h;simp at c;simp[c]
  | succ k=>
   have:=Co6 (l:=r) (n:=n.succ) (k:=k) (o:=o) (by simpa using h) (by rw[show n.succ+k=n+(k+1) by omega];exact c);rw[show n.succ+k=n+(k+1) by omega] at this;split
   ·exact List.mem_cons_of_mem _ this
   ·exact this
theorem Cx5 {f:Nat×Oper->Prop}: ∀{l:List (Nat×Oper)} (_:Fq6 f l) {x:Nat×Oper} (_:x∈l),f x
 | [],_,x,c=>by cases c
 | [y],h,x,c=>by simp at c;subst c;exact h
 | y::z::r,h,x,c=>by
  rcases List.mem_cons.1 c with rfl | c
  ·exact h.1
  ·exact Cx5 h.2 c
theorem Ar2 {α:Type}{q:Nat->Bool}: ∀{l:List (Nat×α)} {i:Nat} {x:α} (_:look (l.filter λ p=>q p.1) i=some x),look l i=some x/\q i=true
 | [],i,x,h=>by simp[look] at h
 | (k,y)::r,i,x,h=>by
  rw[Ab4];rw[List.filter_cons] at h
  by_cases c:q k=true
  ·simp only[c,if_true,Ab4] at h
   split
   ·rename_i he
    rw[if_pos he] at h;exact⟨h,he ▸ c⟩
   ·rename_i he
    rw[if_neg he] at h;exact Ar2 h
  ·simp only[c] at h
   have:=Ar2 (l:=r) (by simpa using h);split
   ·rename_i he;subst he;exact absurd this.2 c
   ·exact this
theorem Bw3 {j:Nat}:j∈Ac2 o↔∃e,e∈o.after/\Region.binds .any e=true/\e.on=j:=by
 unfold Ac2;rw[List.mem_filterMap];constructor
 ·rintro⟨e,he,h⟩
  split at h
  ·rename_i c;simp at h;exact⟨e,by simpa using he,c,h⟩
  ·cases h
 ·rintro⟨e,he,c,rfl⟩
  exact⟨e,by simpa using he,by simp[c]⟩
def Yld (P:Program) (ops:Array Oper) (o:Oper) (a:Act) (w:World) (v:Value):Prop:=
 (Region.wanted o (yielded ops a.tmps)=true/\(execOp a.eval o).run P w = .ok (.value v) w)\/(Region.wanted o (yielded ops a.tmps)=false/\v=undef)
theorem Cx0 (c: ∀cs b,o.op≠.select cs b)(h: ∀t,t∈Af2 ops o->a.tmps[t]?=a'.tmps[t]?):execOp a.eval o=execOp a'.eval o:=by
 refine execOp_congr o c λ x d=>?_
 cases x with
 | tmp t=>
  have:=h t (List.mem_append_left _ (List.mem_filterMap.2 ⟨.tmp t,by simpa using d,rfl⟩));simp[Act.eval,Array.getD_eq_getD_getElem?,this]
 | _=>rfl
theorem Bx5 (h: ∀t,t∈Af2 ops o->a.tmps[t]?=a'.tmps[t]?):Region.wanted o (yielded ops a.tmps)=Region.wanted o (yielded ops a'.tmps):=by
 unfold Region.wanted
 cases c:o.guard with
 | none=>rfl
 | some d=>
  obtain⟨g,want⟩:=d;have e:yielded ops a.tmps g=yielded ops a'.tmps g:=by
   unfold yielded
   cases f:(ops[g]?).bind (·.dst) with
   | none=>rfl
   | some t=>
    have:=h t (List.mem_append_right _ (by simp[c,f]));simp only[Option.bind_some,this]
  simp only[e]
theorem Eu0 {dst:Option Tmp}{v':Value}{v:Value}(e:a.tmps.size=a'.tmps.size)(h:a'.put dst v=a'.put dst v'):a.put dst v=a.put dst v':=by
 cases dst with
 | none=>rfl
 | some d=>
  simp only[Act.put,Act.mk.injEq,and_true] at h⊢
  by_cases c:d<a.tmps.size
  ·have:v=v':=by
    have f:=congrArg (λ x=>x[d]?) h;have g:d<a'.tmps.size:=e ▸ c
    simpa[Array.getElem?_setIfInBounds,g] using f
   rw[this]
  ·simp[Array.setIfInBounds,c]
theorem Fa6 {w:World}{g:Value->World->Prop}{Q:Exit->Act->World->Prop}(he:execOp a.eval o=execOp a'.eval o)(i:a.tmps.size=a'.tmps.size)(h:o.wp P a' w (λ a2 f=>∃v,a2=a'.put o.dst v/\g v f) (λ _ _ _=>False)):o.wp P a w (λ a2 f=>∃v,a2=a.put o.dst v/\g v f) Q:=by
 unfold Oper.wp at h⊢;rw[he];generalize (execOp a'.eval o).run P w=r at h;have fwd: ∀v f,(∃v',a'.put o.dst v=a'.put o.dst v'/\g v' f)->∃v',a.put o.dst v=a.put o.dst v'/\g v' f:=λ v f ⟨v',h1,j⟩=>⟨v',Eu0 i h1,j⟩;unfold Oper.upon at h⊢;split at h
 ·exact fwd _ _ h
 ·exact fwd _ _ h
 ·rename_i d f
  obtain⟨v,h1,_⟩:=h;have:=congrArg (λ a=>a.defers.length) h1;cases k:o.dst<;>simp[k,Act.put] at this
 ·refine Calls.mono h ?_
  intro e m he
  cases e with
  | returned v=>exact fwd _ _ he
  | panicked c=>exact he.elim
  | outgrown=>obtain⟨_,_,n⟩:=he;exact n.elim
 ·exact Rows.mono h λ v m h=>fwd _ _ h
 ·exact h.elim
 ·exact h.elim
theorem Ay4 {w:Bool}{k:SS->Prop}(h:fin w o s st k){W Wa:PW}{β:Nat->Nat}{σ:Nat->Value}(f:Run W0 M st W β σ a Wa)(y:Az7 st.nx β σ s):
  ∃st',k st'/\Run W0 M st' W β σ (a.put o.dst (s.val β σ)) Wa/\Ah1 st st'/\(∀i,¬i∈Av0 o->(a.put o.dst (s.val β σ)).tmps.getD i undef=a.tmps.getD i undef)/\
   st'.C=st.C/\st'.nx=st.nx/\st'.n=st.n/\st'.D=st.D/\(∀t,¬o.dst=some t->look st'.T t=look st.T t)/\∀d,o.dst=some d->∃s',look st'.T d=some s'/\∀β σ,s'.val β σ=s.val β σ:=by
 unfold fin at h
 cases g:o.dst with
 | none=>
  rw[g] at h;exact⟨st,h,f,Ah1.refl _,λ _ _=>rfl,rfl,rfl,rfl,rfl,λ _ _=>rfl,λ d h=>by cases h⟩
 | some d=>
  rw[g] at h;simp only at h;have m: ∀v i,¬i∈Av0 o->(a.put (some d) v).tmps.getD i undef=a.tmps.getD i undef:=by
   intro v i hi;rw[As6,if_neg];rintro⟨rfl,_⟩;exact hi (by simp[Av0,g])
  have n: ∀(x:SV) t,¬some d=some t->look ((d,x)::st.T) t=look st.T t:=λ x t c=>by
   rw[Ab4,if_neg λ e=>c (by rw[e])]
  have q: ∀(x:SV) t,some d=some t->look ((d,x)::st.T) t=some x:=λ x t c=>by
   rw[Ab4,if_pos (Option.some.inj c)]
  split at h
  ·rename_i z
   have r:d<st.n:=Nat.le_of_ble_eq_true z;split at h
   ·obtain⟨t,c,u⟩:=As5 h
    exact⟨_,c,f.Fk3 (s:=.b t) r trivial (u β σ),Ct7 _ _,λ i hi=>m _ i hi,rfl,rfl,rfl,rfl,n _,λ A j=>⟨_,q _ _ j,λ β σ=>(u β σ).symm⟩⟩
   ·exact⟨_,h,f.Fk3 r y rfl,Ct7 _ _,λ i hi=>m _ i hi,rfl,rfl,rfl,rfl,n _,λ A j=>⟨_,q _ _ j,λ _ _=>rfl⟩⟩
  ·exact h.elim
def Ft5 (W0:PW) (M:Nat->Prop) (fr:Bool) (st:SS) (β:Nat->Nat) (σ:Nat->Value) (a:Act) (Wa:PW) (o:Oper) (K:SS->PW->Prop) (v:Value) (w:World):Prop:=
 ∃c d st1 f e,e.w=w/\Run W0 M st1 f c d (a.put o.dst v) e/\K st1 f/\Ah1 st st1/\(∀k,k<st.nx->c k=β k/\d k=σ k)/\(∀i,¬i∈Av0 o->(a.put o.dst v).tmps.getD i undef=a.tmps.getD i undef)/\
  (∀t,¬o.dst=some t->look st1.T t=look st.T t)/\(fr=true->Dq9 st β σ Wa st1 c d e)
theorem Fe9 (r:Ac6 P tt)(hF:Ae7 tt){W:PW}{K:SV->SS->PW->Prop}(v:fr=true->Fg8 o.op=true)(h:Ci6 P tt W0 M o st W K){β:Nat->Nat}{σ:Nat->Value}{Wa:PW}{Q:Exit->Act->World->Prop}(u:Run W0 M st W β σ a Wa):
  o.wp P a Wa.w (λ a' w'=>∃s c d st' W' Wa',Wa'.w=w'/\a'=a.put o.dst (s.val c d)/\Run W0 M st' W' c d a Wa'/\Az7 st'.nx c d s/\st'.T=st.T/\K s st' W'/\Ah1 st st'/\(∀k,k<st.nx->c k=β k/\d k=σ k)/\(fr=true->Dq9 st β σ Wa st' c d Wa')) Q:=by
 cases fr with
 | true=>exact Aw7 (Ed2 r hF (v rfl) h u) λ a' w' ⟨s,c,d,st',W',Wa',h1,f,g,i,j,m,n,q,w⟩=>⟨s,c,d,st',W',Wa',h1,f,g,i,j,m,n,q,λ _=>w⟩
 | false=>exact Aw7 (Cs1 r hF h β σ a Wa _ u) λ a' w' ⟨s,c,d,st',W',Wa',h1,f,g,i,j,m,n,q⟩=>⟨s,c,d,st',W',Wa',h1,f,g,i,j,m,n,q,λ e=>by cases e⟩
theorem Ev6 (D:Ac6 P tt)(hF:Ae7 tt){i:Nat}(E:ops[i]?=some o)(F: ∀cs b,o.op≠.select cs b){W:PW}{K:SS->PW->Prop}(h:Fi7 P tt W0 M ops.toList i o st W K)(G:fr=true->Fg8 o.op=true){β:Nat->Nat}{σ:Nat->Value}{Wa:PW}(c:Run W0 M st W β σ a' Wa)(y:a.tmps.size=a'.tmps.size)(r: ∀t,t∈Af2 ops o->a.tmps[t]?=a'.tmps[t]?){Q:Exit->Act->World->Prop}:
  wpOp P ops Q i (λ a2 u=>∃v,a2=a.put o.dst v/\Ft5 W0 M fr st β σ a' Wa o K v u) a Wa.w:=by
 simp only[wpOp,E];rw[Bx5 r];have run:Ci6 P tt W0 M o st W (λ s st W=>fin (guards ops.toList i) o s st λ st=>K st W)->o.wp P a Wa.w (λ a2 u=>∃v,a2=a.put o.dst v/\Ft5 W0 M fr st β σ a' Wa o K v u) Q:=by
  intro h;refine Fa6 (Cx0 F r) y (Aw7 (Fe9 D hF G h (Q:=λ _ _ _=>False) c) ?_);rintro a2 u ⟨s,H,I,st',W',Wa',hw,rfl,J,y,L,N,O,r,R⟩;obtain⟨st2,f,g,k,m,n,z,A,_,q,_⟩:=Ay4 N J y;exact⟨_,rfl,H,I,st2,W',Wa',hw,g,f,O.trans k,r,m,λ t S=>(q t S).trans (by rw[L]),λ e=>(R e).C n⟩
 unfold Fi7 at h;split at h
 ·rename_i w
  have hw:Region.wanted o (yielded ops a'.tmps)=true:=by simp[Region.wanted,w]
  rw[if_pos hw];exact .inl (run h)
 ·rename_i j want w
  split at h
  ·rename_i V B
   split at h
   ·rename_i d C
    split at h
    ·rename_i b x
     obtain⟨T,_⟩:=c.rel.T _ _ x;have U:d<a'.tmps.size:=by rw[c.rel.size];exact c.rel.dom _ _ x
     have hw:=Bp5 w B C U T;split at h
     ·rename_i he
      rw[if_pos (hw.trans he)];exact .inl (run h)
     ·rename_i he
      rw[if_neg (by rw[hw,he];simp)];obtain⟨st2,f,g,k,m,n,z,A,_,q,_⟩:=Ay4 h c (s:=.v undef) trivial;exact⟨_,rfl,β,σ,st2,W,Wa,rfl,g,f,k,Ab2,m,q,λ _=>Dq9.refl.C n⟩
    ·rename_i l x
     rw[if_neg (by rw[Bv3 w B C (c.rel.T _ _ x).1];simp)];obtain⟨st2,f,g,k,m,n,z,A,_,q,_⟩:=Ay4 h c (s:=.v undef) trivial;exact⟨_,rfl,β,σ,st2,W,Wa,rfl,g,f,k,Ab2,m,q,λ _=>Dq9.refl.C n⟩
    ·exact h.elim
   ·exact h.elim
  ·exact h.elim
theorem De6 (m:Ac6 P tt)(hF:Ae7 tt){W:PW}{K:SV->Prop}(h:Fh6 tt ops.toList o st W K):
  ∃s,K s/\∀β σ a Wa,Rel β σ st a Wa->Ext W Wa->Yld P ops o a Wa.w (s.val β σ)/\Az7 st.nx β σ s:=by
 unfold Fh6 at h;split at h
 ·rename_i g
  obtain⟨s,k,f⟩:=Bo1 m hF (P:=P) h;exact⟨s,k,λ β σ a Wa c e=>⟨.inl ⟨by simp[Region.wanted,g],(f β σ a Wa c e).1⟩,(f β σ a Wa c e).2⟩⟩
 ·rename_i j want g
  split at h
  ·rename_i u n
   split at h
   ·rename_i d q
    split at h
    ·rename_i b i
     have hw: ∀{β σ a Wa},Rel β σ st a Wa->Region.wanted o (yielded ops a.tmps)=(b == want):=λ c=>by
      obtain⟨r,_⟩:=c.T _ _ i;exact Bp5 g n q (by rw[c.size];exact c.dom _ _ i) r
     split at h
     ·rename_i he
      obtain⟨s,k,f⟩:=Bo1 m hF (P:=P) h;exact⟨s,k,λ β σ a Wa c e=>⟨.inl ⟨(hw c).trans he,(f β σ a Wa c e).1⟩,(f β σ a Wa c e).2⟩⟩
     ·rename_i he
      exact⟨_,h,λ β σ a Wa c e=>⟨.inr ⟨(hw c).trans (by simpa using he),rfl⟩,trivial⟩⟩
    ·rename_i l i
     exact⟨_,h,λ β σ a Wa c e=>⟨.inr ⟨Bv3 g n q (c.T _ _ i).1,rfl⟩,trivial⟩⟩
    ·exact h.elim
   ·exact h.elim
  ·exact h.elim
theorem Dr6 (W Wa:PW):Ext (Ft2 W) Wa:=⟨Nat.zero_le _,λ b c=>absurd c (Nat.not_lt_zero b)⟩
theorem Dp2 {W Wa:PW}(h:Ext W Wa):Ext (Fo0 b W) Wa:=by
 cases b with
 | true=>exact h
 | false=>exact Dr6 W Wa
structure Er7 (P:Program) (ops:Array Oper) (st:SS) (W:PW) (β:Nat->Nat) (σ:Nat->Value) (p:Cq8) (o:Oper) (s:SV) (sp:SS) (Wi:PW):Prop where
 op:ops[p.i]?=some o
 val:isVal ops p.i o=true
 sem: ∀β σ a Wa,Rel β σ sp a Wa->Ext Wi Wa->Yld P ops o a Wa.w (s.val β σ)
 T: ∀t x,look sp.T t=some x->look st.T t=some x/\t∈Af2 ops o/\Az7 sp.nx β σ x
 C: ∀k b,look sp.C k=some b->look st.C k=some b/\k∈p.ks
 n:sp.n=st.n
 nx:sp.nx<=st.nx
 ext:Ext Wi W
 nw:p.nw=false->∀W,Ext Wi W
 dst: ∀d,o.dst=some d->∃s',look st.T d=some s'/\∀β σ,s'.val β σ=s.val β σ
theorem Er7.rel {W Wa:PW}{β:Nat->Nat}{σ:Nat->Value}{Wi:PW}(h:Er7 P ops st W β σ p o s sp Wi)(c:Run W0 M st W β σ a Wa):Rel β σ sp a Wa:=
 ⟨c.rel.defers,c.rel.size.trans h.n.symm,λ i x hi=>⟨(c.rel.T i x (h.T i x hi).1).1,(h.T i x hi).2.2⟩,λ k b hk=>c.rel.C k b (h.C k b hk).1,
  λ k k' b b' g d h1 e=>c.rel.inj k k' b b' g d (h.C k b h1).1 (h.C k' b' e).1,λ i x hi=>h.n ▸ c.rel.dom i x (h.T i x hi).1⟩
theorem Er7.yld {W Wa:PW}{β:Nat->Nat}{σ:Nat->Value}{Wi:PW}(h:Er7 P ops st W β σ p o s sp Wi)(c:Run W0 M st W β σ a Wa):Yld P ops o a Wa.w (s.val β σ):=
 h.sem β σ a Wa (h.rel c) (h.ext.trans c.ext)
theorem Er7.stepT {W e:PW}{β g:Nat->Nat}{σ i:Nat->Value}{Wi:PW}(h:Er7 P ops st W β σ p o s sp Wi)(f:Ah1 st st1)(r: ∀k,k<st.nx->g k=β k/\i k=σ k)(j: ∀t,t∈Af2 ops o\/o.dst=some t->look st1.T t=look st.T t)(u: ∀k,k∈p.ks->¬k∈st1.D.take (Nat.sub st1.D.length st.D.length))(v: ∀k b,look st.C k=some b->k<st.nx)(w:p.nw=true->Ext W e):Er7 P ops st1 e g i p o s sp Wi where
 op:=h.op
 val:=h.val
 sem:=h.sem
 T:=λ t x y=>by
  obtain⟨h1,c,z⟩:=h.T t x y;refine⟨(j t (.inl c)).trans h1,c,Ay6 (λ k hk=>r k (Nat.lt_of_lt_of_le hk h.nx)) z⟩
 C:=λ k b hk=>by
  obtain⟨h1,c⟩:=h.C k b hk;obtain⟨new,A,B⟩:=f.D;refine⟨(B k (v k b h1) ?_).trans h1,c⟩;have:=u k c;rw[A] at this
  simpa using this
 n:=h.n.trans f.n.symm
 nx:=Nat.le_trans h.nx f.nx
 ext:=by
  cases m:p.nw with
  | true=>exact h.ext.trans (w m)
  | false=>exact h.nw m e
 nw:=h.nw
 dst:=λ d q=>by
  obtain⟨s',h1,c⟩:=h.dst d q;exact⟨s',(j d (.inr q)).trans h1,c⟩
theorem Er7.step {W c:PW}{β f:Nat->Nat}{σ g:Nat->Value}{Wi:PW}(h:Er7 P ops st W β σ p o s sp Wi)(j:Ah1 st st1)(m: ∀k,k<st.nx->f k=β k/\g k=σ k)(n: ∀t,¬oj.dst=some t->look st1.T t=look st.T t)(i: ∀d,oj.dst=some d->¬d∈Af2 ops o/\¬o.dst=some d)(q: ∀k,k∈p.ks->¬k∈st1.D.take (Nat.sub st1.D.length st.D.length))(r: ∀k b,look st.C k=some b->k<st.nx)(u:p.nw=true->Ext W c):Er7 P ops st1 c f g p o s sp Wi:=
 h.stepT j m (λ t v=>n t λ e=>v.elim (i t e).1 (i t e).2) q r u
structure Lag (P:Program) (tt:List (Nat×TyI)) (ops:Array Oper) (listed:Array Bool) (L:List Nat) (pd:List Cq8) (qa:QA) (st:SS) (W:PW) (β:Nat->Nat) (σ:Nat->Value) (a a':Act):Prop where
 sz:listed.size=ops.size
 sub: ∀i o,ops[i]?=some o->listed.getD i false=true->i∈L
 pend: ∀i o,ops[i]?=some o->i∈L->listed.getD i false=false->(∃p,p∈pd/\p.i=i)\/∃q,q∈qa/\q.1=i
 prom: ∀p,p∈pd->∃o s sp Wi,Er7 P ops st W β σ p o s sp Wi
 closed: ∀i o,ops[i]?=some o->i∈L->∀j,j∈Ac2 o->j∈L
 inL: ∀p,p∈pd->p.i∈L
 inQ: ∀q,q∈qa->q.1∈L
 eag: ∀q,q∈qa->∃o t i,ops[q.1]?=some o/\Fb0 ops q.1 o=true/\o.op = .alloc t/\o.guard=none/\o.dst=some q.2.1/\look tt t=some i/\q.2.2=i.zv.cells.toList
 lt: ∀q,q∈qa->q.2.1<st.n
 nd:(qa.map (·.1)).Nodup
 dd:(qa.map (·.2.1)).Nodup
 size:a.tmps.size=a'.tmps.size
 defers:a.defers=a'.defers
 agr: ∀t,(∀i o,ops[i]?=some o->i∈L->listed.getD i false=false->¬o.dst=some t)->(∀q,q∈qa->¬q.2.1=t)->a.tmps[t]?=a'.tmps[t]?
theorem Bc8 {i j:Nat}{d:Nat}(h:Fb0 ops i o=true)(g:o.dst=some d)(k:ops[j]?=some oj)(m:i≠j):
  ¬oj.dst=some d/\(isVal ops j oj=true->¬d∈Af2 ops oj)/\(¬i∈Ac2 oj->¬d∈Af2 ops oj/\Fg8 oj.op=true):=by
 unfold Fb0 at h;simp only[g,Bool.and_eq_true] at h;have:=Aw5 h.2 (i:=j) (o:=oj) (by simpa using k);simp only[Nat.zero_add,Bool.or_eq_true,Bool.and_eq_true,Bool.not_eq_true'] at this;rcases this with h1 | ⟨h1,c,n⟩
 ·exact absurd (Nat.eq_of_beq_eq_true h1) m
 ·refine⟨λ e=>(by simp[Et2,e] at h1),λ q f=>?_,λ hm=>⟨λ f=>?_,n.resolve_left λ h=>hm (Ad9.1 h)⟩⟩
  ·rcases c with c | c
   ·rw[Ad9.2 f] at c;cases c
   ·rw[q] at c;cases c.1
  ·rcases c with c | c
   ·rw[Ad9.2 f] at c;cases c
   ·exact hm (Ad9.1 c.2)
theorem Dp0 {i:Nat}(h:o.op = .alloc t):isVal ops i o=false:=by
 unfold isVal;rw[h];rfl
structure Bo0 (W0:PW) (listed:Array Bool) (qa:QA) (st:SS) (β:Nat->Nat) (σ:Nat->Value) (γ:Nat->Nat) (a:Act) (Wa:PW):Prop where
 blk: ∀q,q∈qa->listed.getD q.1 false=true->a.tmps.getD q.2.1 undef = .pointer (some ⟨γ q.1,0,none⟩)/\(∃t,Wa.w.heap[γ q.1]?=some (.cells q.2.2.toArray t (0,0)))/\Wa.S (γ q.1)/\W0.w.heap.size<=γ q.1/\Ax6 st β σ (γ q.1)
 inj: ∀q q',q∈qa->q'∈qa->listed.getD q.1 false=true->listed.getD q'.1 false=true->γ q.1=γ q'.1->q=q'
theorem Cv8 {W:PW}{γ:Nat->Nat}{Wa:PW}: ∀(qs:QA) {st:SS} {β:Nat->Nat} {σ:Nat->Value} {a':Act} (_:Run W0 M st W β σ a' Wa) (_: ∀q,q∈qs->q.2.1<st.n)
  (_: ∀q,q∈qs->(∃t,Wa.w.heap[γ q.1]?=some (.cells q.2.2.toArray t (0,0)))/\Wa.S (γ q.1)/\W0.w.heap.size<=γ q.1/\Ax6 st β σ (γ q.1)) (_:(qs.map λ q=>γ q.1).Nodup) (_:(qs.map (·.2.1)).Nodup),
  ∃f j a2,Run W0 M (Dk4 qs st) W f j a2 Wa/\Ah1 st (Dk4 qs st)/\(∀k,k<st.nx->f k=β k/\j k=σ k)/\(Dk4 qs st).D=st.D/\(∀t,(∀q,q∈qs->¬q.2.1=t)->look (Dk4 qs st).T t=look st.T t/\a2.tmps[t]?=a'.tmps[t]?)/\
   (∀q,q∈qs->a2.tmps.getD q.2.1 undef = .pointer (some ⟨γ q.1,0,none⟩))/\a2.tmps.size=a'.tmps.size/\a2.defers=a'.defers/\(∀g,(∀q,q∈qs->¬γ q.1=g)->Ax6 st β σ g->Ax6 (Dk4 qs st) f j g)
 | [],st,β,σ,a',m,_,_,_,_=>⟨β,σ,a',m,Ah1.refl _,Ab2,rfl,λ _ _=>⟨rfl,rfl⟩,λ q c=>(by cases c),rfl,rfl,λ _ _ h=>h⟩
 | (i,d,cs)::r,st,β,σ,a',m,u,z,w,x=>by
  obtain⟨h1,G,H,I⟩:=z _ (List.mem_cons_self ..);simp only[List.map_cons,List.nodup_cons,List.mem_map,not_exists,not_and] at w x;obtain⟨J,K,A⟩:=m.Ex3 h1 G H I;have L:=J.Fk3 (d:=d) (s:=.p st.nx 0) (u _ (List.mem_cons_self ..)) (Nat.lt_succ_self _) (v:=.pointer (some ⟨γ i,0,none⟩)) (by simp[SV.val,upd]);have B: ∀g,¬γ i=g->Ax6 st β σ g->Ax6 (Fo6 d cs st) (upd β st.nx (γ i)) (upd σ st.nx undef) g:=λ g n y=>Ds1 m y (by simp only[Ab8,upd,if_true,ne_eq,Option.some.injEq];exact n);obtain⟨f,j,a2,k1,N,C,O,D,Q,R,S,T⟩:=Cv8 (γ:=γ) r (st:=Fo6 d cs st) L (λ q c=>u q (List.mem_cons_of_mem _ c)) (λ q c=>by
   obtain⟨g1,g2,g3,g4⟩:=z q (List.mem_cons_of_mem _ c);exact⟨g1,g2,g3,B _ (λ e=>w.1 q c e.symm) g4⟩) w.2 x.2
  have U:d<a'.tmps.size:=by rw[m.rel.size];exact u _ (List.mem_cons_self ..)
  refine⟨f,j,a2,k1,(K.trans (Ct7 _ _)).trans N,λ k hk=>⟨(C k (Nat.lt_succ_of_lt hk)).1.trans (A k hk).1,(C k (Nat.lt_succ_of_lt hk)).2.trans (A k hk).2⟩,O,λ t E=>?_,λ q c=>?_,R.trans (by simp[Act.put]),S.trans rfl,λ g F y=>T g (λ q c=>F q (List.mem_cons_of_mem _ c)) (B g (F _ (List.mem_cons_self ..)) y)⟩
  ·obtain⟨V,X⟩:=D t λ q c=>E q (List.mem_cons_of_mem _ c)
   have n:¬d=t:=E _ (List.mem_cons_self ..);refine⟨V.trans ?_,X.trans ?_⟩
   ·simp only[Fo6,Ab4]
    rw[if_neg n]
    try rfl
   ·simp only[Act.put]
    rw[Array.getElem?_setIfInBounds_ne n]
  ·rcases List.mem_cons.1 c with rfl | c
   ·have e:=(D d λ q c=>x.1 q c).2
    simp only[Act.put] at e;rw[Array.getElem?_setIfInBounds_self_of_lt U] at e;rw[Array.getD_eq_getD_getElem?,e];rfl
   ·exact Q q c
theorem Bs8 {i j:Nat}(h:isVal ops i o=true)(f:ops[j]?=some oj)(g:i≠j){d:Nat}(k:o.dst=some d):
  ¬oj.dst=some d/\(d∈Af2 ops oj->i∈Ac2 oj):=by
 unfold isVal at h;simp only[k,Bool.and_eq_true] at h;have:=Aw5 h.2.2 (i:=j) (o:=oj) (by simpa using f);simp only[Nat.zero_add,Bool.or_eq_true,Bool.and_eq_true,Bool.not_eq_true'] at this;rcases this with h1 | ⟨h1,c⟩
 ·exact absurd (Nat.eq_of_beq_eq_true h1) g
 ·refine⟨λ e=>?_,λ hm=>?_⟩
  ·simp[Et2,e] at h1
  ·rcases c with c | c
   ·rw[Ad9.2 hm] at c;cases c
   ·exact Ad9.1 c
theorem Dp7 {i:Nat}(h:isVal ops i o=true){d:Nat}(c:o.dst=some d):¬d∈Af2 ops o:=by
 unfold isVal at h;simp only[c,Bool.and_eq_true] at h;intro hm;have:=h.2.1;rw[Ad9.2 hm] at this;cases this
structure Ce7 (ops:Array Oper):Prop where
 sel: ∀(j:Nat) (o:Oper) cs b,ops[j]?=some o->o.op≠.select cs b
 back: ∀i o,ops[i]?=some o->∀j,j∈Ac2 o->j<i
 war: ∀i o j oj,ops[i]?=some o->ops[j]?=some oj->i≠j->isVal ops i o=true->∀d,oj.dst=some d->d∈Af2 ops o->j∈Ac2 o\/i∈Ac2 oj
theorem Dl1 (h:Dq0 ops=true):Ce7 ops:=by
 unfold Dq0 at h;rw[Bool.and_eq_true] at h;have key: ∀{i o},ops[i]?=some o->_:=fun {i o} e=>Aw5 h.2 (i:=i) (o:=o) (by simpa using e);refine⟨λ j o cs b e he=>by have:=List.all_eq_true.1 h.1 o (List.mem_of_getElem? (i:=j) (by simpa using e));simp[Fn1,he] at this,λ i o e j f=>?_,λ i o j oj e g k m d n hm=>?_⟩
 ·have:=key e
  simp only[Bool.and_eq_true,Nat.zero_add] at this;exact Nat.le_of_ble_eq_true (List.all_eq_true.1 this.1 j f)
 ·have:=key e
  simp only[Bool.and_eq_true,Nat.zero_add,Bool.or_eq_true,Bool.not_eq_true',m] at this;rcases this.2 with h1 | h1
  ·cases h1
  have:=Aw5 h1 (i:=j) (o:=oj) (by simpa using g);simp only[Nat.zero_add,Bool.or_eq_true,n,Bool.not_eq_true'] at this;rcases this with c | (c | c) | c
  ·exact absurd (Nat.eq_of_beq_eq_true c) k
  ·rw[Ad9.2 hm] at c;cases c
  ·exact .inl (Ad9.1 c)
  ·exact .inr (Ad9.1 c)
theorem Be7 (o:Oper)(ls:List Nat)(st:SS):(Av2 o ls st).n=st.n/\(Av2 o ls st).nx=st.nx:=by
 unfold Av2;split<;>exact⟨rfl,rfl⟩
theorem Ci4 {x:SV}{ls:List Nat}{t:Nat}(h:look (Av2 o ls st).T t=some x):look st.T t=some x/\t∈ls:=by
 have c:look (st.T.filter λ p=>mem ls p.1) t=some x:=by
  unfold Av2 at h;split at h<;>exact h
 obtain⟨h1,d⟩:=Ar2 c;exact⟨h1,Ad9.1 d⟩
theorem Bo7 {ls:List Nat}{k:Nat}{b:Blk}(h:look (Av2 o ls st).C k=some b):look st.C k=some b/\k∈Fb1 o ls st:=by
 unfold Av2 at h;unfold Fb1
 cases he:Fr1 st o with
 | true=>rw[he] at h;simp[look] at h
 | false=>
  rw[he] at h;obtain⟨h1,c⟩:=Ar2 h;exact⟨h1,Ad9.1 c⟩
theorem Lag.value (R:Ce7 ops){L:List Nat}{pd:List Cq8}{W:PW}{β:Nat->Nat}{σ:Nat->Value}(h:Lag P tt ops listed L pd qa st W β σ a a'){i:Nat}(n:ops[i]?=some o)(w:¬i∈L)(E: ∀j,j∈Ac2 o->j∈L)(y:isVal ops i o=true){Wa:PW}(B:Run W0 M st W β σ a' Wa)(F: ∀β σ a Wa,Rel β σ (Av2 o (Af2 ops o) st) a Wa->Ext (Fo0 b W) Wa->Yld P ops o a Wa.w (s.val β σ))(G:Ah1 st st1)(H:st1.C=st.C)(I:st1.nx=st.nx)(C:st1.n=st.n)(J:st1.D=st.D)(D: ∀t,¬o.dst=some t->look st1.T t=look st.T t)(K: ∀d,o.dst=some d->∃s',look st1.T d=some s'/\∀β σ,s'.val β σ=s.val β σ):
  Lag P tt ops listed (i::L) (⟨i,Fb1 o (Af2 ops o) st,b⟩::pd) qa st1 W β σ a (a'.put o.dst (s.val β σ)):=by
 have N:listed.getD i false=false:=by
  cases r:listed.getD i false with
  | false=>rfl
  | true=>exact absurd (h.sub i o n r) w
 have O: ∀p,p∈pd->i≠p.i:=λ p c e=>w (e ▸ h.inL p c);refine⟨h.sz,λ j oj g f=>List.mem_cons_of_mem _ (h.sub j oj g f),λ j oj g f hu=>?_,λ p c=>?_,λ j oj g f k hk=>?_,λ p c=>?_,λ q m=>List.mem_cons_of_mem _ (h.inQ q m),h.eag,λ q m=>C ▸ h.lt q m,h.nd,h.dd,h.size.trans ?_,h.defers.trans ?_,λ t u Q=>?_⟩
 ·rcases List.mem_cons.1 f with rfl | f
  ·exact .inl ⟨_,List.mem_cons_self ..,rfl⟩
  ·rcases h.pend j oj g f hu with⟨p,c,he⟩ | m
   ·exact .inl ⟨p,List.mem_cons_of_mem _ c,he⟩
   ·exact .inr m
 ·rcases List.mem_cons.1 c with rfl | c
  ·refine⟨o,s,Av2 o (Af2 ops o) st,Fo0 b W,n,y,F,λ t x u=>?_,λ k bl hk=>?_,(Be7 o (Af2 ops o) st).1.trans C.symm,Nat.le_of_eq ((Be7 o (Af2 ops o) st).2.trans I.symm),Dp2 (Ext.refl W),λ r W'=>by(simp only at r;subst r;exact Dr6 W W'),K⟩
   ·obtain⟨h1,v⟩:=Ci4 u
    rw[(Be7 o (Af2 ops o) st).2];exact⟨(D t λ e=>Dp7 y e v).trans h1,v,(B.rel.T t x h1).2⟩
   ·obtain⟨h1,v⟩:=Bo7 hk
    exact⟨H ▸ h1,v⟩
  ·obtain⟨o',s',sp,Wi,z⟩:=h.prom p c
   refine⟨o',s',sp,Wi,z.step (oj:=o) G (λ _ _=>⟨rfl,rfl⟩) D (λ d A=>?_) (λ k _ hk=>?_) (λ k b hk=>B.nC k b hk) (λ _=>Ext.refl W)⟩
   ·have:=Bs8 y z.op (O p c) A
    exact⟨λ hm=>w (h.closed p.i o' z.op (h.inL p c) i (this.2 hm)),this.1⟩
   ·rw[J,show Nat.sub st.D.length st.D.length=0 from Nat.sub_self _] at hk;cases hk
 ·rcases List.mem_cons.1 f with rfl | f
  ·rw[n] at g;cases g
   exact List.mem_cons_of_mem _ (E k hk)
  ·exact List.mem_cons_of_mem _ (h.closed j oj g f k hk)
 ·rcases List.mem_cons.1 c with rfl | c
  ·exact List.mem_cons_self ..
  ·exact List.mem_cons_of_mem _ (h.inL p c)
 ·cases o.dst<;>simp[Act.put]
 ·cases o.dst<;>rfl
 ·rw[h.agr t (λ j oj g f hu=>u j oj g (List.mem_cons_of_mem _ f) hu) Q]
  have:=u i o n (List.mem_cons_self ..) N
  cases A:o.dst with
  | none=>rfl
  | some d=>
   simp only[Act.put];rw[Array.getElem?_setIfInBounds_ne];intro e;exact this (by rw[A,e])
theorem Lag.eager {L:List Nat}{pd:List Cq8}{W:PW}{β:Nat->Nat}{σ:Nat->Value}(h:Lag P tt ops listed L pd qa st W β σ a a'){i d:Nat}{cs:List Value}(r:ops[i]?=some o)(y:¬i∈L)(A: ∀j,j∈Ac2 o->j∈L)(he:Fb0 ops i o=true)(m:Fq0 tt st o=some (d,cs)):Lag P tt ops listed (i::L) pd ((i,d,cs)::qa) st W β σ a a':=by
 have B: ∃t n,o.op = .alloc t/\o.guard=none/\o.dst=some d/\look tt t=some n/\cs=n.zv.cells.toList/\d<st.n:=by
  have h1:Fr3 o=true:=by
   unfold Fb0 at he;rw[Bool.and_eq_true] at he;exact he.1
  unfold Fr3 at h1;unfold Fq0 at m;split at m
  ·rename_i t K u C
   split at m
   ·rename_i n v D
    simp only[Option.some.injEq,Prod.mk.injEq] at m;obtain⟨rfl,rfl⟩:=m;split at h1
    ·rename_i w _
     exact⟨t,n,u,w,C,v,rfl,Nat.le_of_ble_eq_true D⟩
    ·cases h1
   ·cases m
  ·cases m
 obtain⟨t,n,u,w,z,v,E,F⟩:=B;refine⟨h.sz,λ j oj g f=>List.mem_cons_of_mem _ (h.sub j oj g f),λ j oj g f hu=>?_,h.prom,λ j oj g f k hk=>?_,λ p x=>List.mem_cons_of_mem _ (h.inL p x),λ q c=>?_,λ q c=>?_,λ q c=>?_,?_,?_,h.size,h.defers,λ G H I=>h.agr G (λ j oj g f hu=>H j oj g (List.mem_cons_of_mem _ f) hu) λ q c=>I q (List.mem_cons_of_mem _ c)⟩
 ·rcases List.mem_cons.1 f with rfl | f
  ·exact .inr ⟨_,List.mem_cons_self ..,rfl⟩
  ·rcases h.pend j oj g f hu with x | ⟨q,c,e⟩
   ·exact .inl x
   ·exact .inr ⟨q,List.mem_cons_of_mem _ c,e⟩
 ·rcases List.mem_cons.1 f with rfl | f
  ·rw[r] at g;cases g
   exact List.mem_cons_of_mem _ (A k hk)
  ·exact List.mem_cons_of_mem _ (h.closed j oj g f k hk)
 ·rcases List.mem_cons.1 c with rfl | c
  ·exact List.mem_cons_self ..
  ·exact List.mem_cons_of_mem _ (h.inQ q c)
 ·rcases List.mem_cons.1 c with rfl | c
  ·exact⟨o,t,n,r,he,u,w,z,v,E⟩
  ·exact h.eag q c
 ·rcases List.mem_cons.1 c with rfl | c
  ·exact F
  ·exact h.lt q c
 ·simp only[List.map_cons,List.nodup_cons,List.mem_map,not_exists,not_and]
  exact⟨λ q c e=>y (e ▸ h.inQ q c),h.nd⟩
 ·simp only[List.map_cons,List.nodup_cons,List.mem_map,not_exists,not_and]
  refine⟨λ q c e=>?_,h.dd⟩;obtain⟨N,_,_,O,heq,_,_,J,_⟩:=h.eag q c;exact(Bc8 heq J r λ e=>y (e ▸ h.inQ q c)).1 (by rw[z,e])
theorem Bo0.C {β:Nat->Nat}{σ:Nat->Value}{γ:Nat->Nat}{Wa:PW}(h:Bo0 W0 listed qa st β σ γ a Wa)(c:st1.C=st.C):Bo0 W0 listed qa st1 β σ γ a Wa:=
 ⟨λ q d e=>let⟨h1,f,g,i,j⟩:=h.blk q d e;⟨h1,f,g,i,λ k bl hk=>j k bl (c ▸ hk)⟩,h.inj⟩
theorem advance (I:Ac6 P tt)(hF:Ae7 tt){ops:Array Oper}(J:Ce7 ops){listed:Array Bool}{K:SS->PW->Prop}{γ:Nat->Nat}: ∀(n:Nat) {L:List Nat} {pd:List Cq8} {qa:QA} {st:SS} {W:PW}
  (_:Dp9 P tt W0 M ops n L pd qa st W K) {β:Nat->Nat} {σ:Nat->Value} {a a':Act} {Wa:PW} (_:Lag P tt ops listed L pd qa st W β σ a a') (_:Bo0 W0 listed qa st β σ γ a Wa) (_:Run W0 M st W β σ a' Wa),
  ∃N v E y st' a2,Dp9 P tt W0 M ops (N+1) v E y st' W K/\Lag P tt ops listed v E y st' W β σ a a2/\Bo0 W0 listed y st' β σ γ a Wa/\Run W0 M st' W β σ a2 Wa/\Ah1 st st'/\(∀i,¬i∈ops.toList.flatMap Av0->a2.tmps.getD i undef=a'.tmps.getD i undef)/\
   Bm0 (λ i o=>Ak4 ops v i o && (isVal ops i o && Ez5 st' o)) 0 ops.toList=none/\Bm0 (λ i o=>Ak4 ops v i o && Fb0 ops i o) 0 ops.toList=none
 | 0,L,pd,qa,st,W,h,β,σ,a,a',Wa,z,A,c=>h.elim
 | n+1,L,pd,qa,st,W,h,β,σ,a,a',Wa,z,A,c=>by
  cases F:Bm0 (λ i o=>Ak4 ops L i o && (isVal ops i o && Ez5 st o)) 0 ops.toList with
  | none=>
   cases O:Bm0 (λ i o=>Ak4 ops L i o && Fb0 ops i o) 0 ops.toList with
   | none=>exact⟨n,L,pd,qa,st,a',h,z,A,c,Ah1.refl _,λ _ _=>rfl,F,O⟩
   | some x=>
    obtain⟨i,o⟩:=x;rw[Dp9,F,O] at h;simp only at h;obtain⟨k,hk,G,B⟩:=Bi3 O;obtain rfl:i=k:=by omega
    have H:ops[i]?=some o:=by simpa using G
    simp only[Bool.and_eq_true,Ak4,Bool.not_eq_true'] at B;obtain⟨⟨f,r⟩,he⟩:=B;have f:¬i∈L:=λ hm=>by rw[Ad9.2 hm] at f;cases f
    have r: ∀j,j∈Ac2 o->j∈L:=λ j w=>Ad9.1 (List.all_eq_true.1 r j w);split at h
    ·rename_i x T
     obtain⟨d,cs⟩:=x;have C: ∀q,q∈(i,d,cs)::qa->listed.getD q.1 false=true->q∈qa:=λ q u C=>by
      rcases List.mem_cons.1 u with rfl | u
      ·exact absurd (z.sub i o H C) f
      ·exact u
     exact advance I hF J n h (z.eager H f r he T) ⟨λ q u h1=>A.blk q (C q u h1) h1,λ q q' u U h1 m e=>A.inj q q' (C q u h1) (C q' U m) h1 m e⟩ c
    ·exact h.elim
  | some x=>
   obtain⟨i,o⟩:=x;rw[Dp9,F] at h;simp only at h;obtain⟨k,hk,G,B⟩:=Bi3 F;obtain rfl:i=k:=by omega
   have H:ops[i]?=some o:=by simpa using G
   simp only[Bool.and_eq_true,Ak4,Bool.not_eq_true'] at B;obtain⟨⟨f,r⟩,V,_⟩:=B;have f:¬i∈L:=λ hm=>by rw[Ad9.2 hm] at f;cases f
   have r: ∀j,j∈Ac2 o->j∈L:=λ j w=>Ad9.1 (List.all_eq_true.1 r j w);obtain⟨s,X,Q⟩:=De6 I hF (P:=P) h;have Y:Rel β σ (Av2 o (Af2 ops o) st) a' Wa:=by
    have D:=Be7 o (Af2 ops o) st;refine⟨c.rel.defers,c.rel.size.trans D.1.symm,λ i x hi=>D.2.symm ▸ c.rel.T i x (Ci4 hi).1,λ k b hk=>c.rel.C k b (Bo7 hk).1,λ k k' b b' g Z h1 m=>c.rel.inj k k' b b' g Z (Bo7 h1).1 (Bo7 m).1,λ i x hi=>D.1.symm ▸ c.rel.dom i x (Ci4 hi).1⟩
   have aa:Az7 st.nx β σ s:=(Be7 o (Af2 ops o) st).2 ▸ (Q β σ a' Wa Y (Dp2 c.ext)).2;obtain⟨st1,ab,ac,R,ad,S,ae,D,af,ag,ah⟩:=Ay4 X c aa;have ai:=z.value J H f r V c (λ β σ a Wa h1 m=>(Q β σ a Wa h1 m).1) R S ae D af ag ah;obtain⟨N,v,E,y,st',a2,h1,m,aj,h3,h4,h5,h6⟩:=advance I hF J n ab ai (A.C S) ac;refine⟨N,v,E,y,st',a2,h1,m,aj,h3,R.trans h4,λ j w=>(h5 j w).trans (ad j λ hm=>w ?_),h6⟩;exact List.mem_flatMap.2 ⟨o,List.mem_of_getElem? G,hm⟩
theorem Bx8 {i:Nat}(h:i<l.size):l.getD i true=l.getD i false:=by simp[Array.getD,h]
theorem Dq4 {p d:Nat->Bool}{i:Nat}(f: ∀x,d x=true->p x=true)(h1:p i=true)(g:d i=false): ∀{l:List Nat} (_:i∈l),(l.filter d).length<(l.filter p).length
 | x::r,hi=>by
  have hle: ∀(l:List Nat),(l.filter d).length<=(l.filter p).length:=λ l=>by
   induction l with
   | nil=>exact Nat.le_refl _
   | cons y l ih=>
    simp only[List.filter_cons]
    by_cases c:d y=true
    ·simp[c,f y c];exact ih
    ·by_cases e:p y=true
     ·simp[c,e];omega
     ·simp[c,e];exact ih
  simp only[List.filter_cons];rcases List.mem_cons.1 hi with rfl | h
  ·simp[h1,g];have:=hle r;omega
  ·have:=Dq4 f h1 g h
   by_cases c:d x=true
   ·simp[c,f x c];exact this
   ·by_cases e:p x=true
    ·simp[c,e];omega
    ·simp[c,e];exact this
def unl (ops:Array Oper) (listed:Array Bool):Nat:=((List.range ops.size).filter λ i=>!(listed.getD i true)).length
theorem Ec3 (d:Ce7 ops)(g:listed.size=ops.size)(h:Region.ready .any ops listed = []): ∀i,i<ops.size->listed.getD i false=true:=by
 intro i
 induction i using Nat.strongRecOn with
 | ind i ih=>
  intro hi
  cases j:listed.getD i false with
  | true=>rfl
  | false=>
   have c:ops[i]?=some ops[i]:=by simp[hi]
   have:i∈Region.ready .any ops listed:=mem_ready.2 ⟨(Bx8 (g ▸ hi)).trans j,ops[i],c,λ e he f=>ih e.on (d.back i _ c _ (Bw3.2 ⟨e,he,f,rfl⟩)) (Nat.lt_trans (d.back i _ c _ (Bw3.2 ⟨e,he,f,rfl⟩)) hi)⟩;rw[h] at this;cases this
theorem Fm3 (h: ∀t:Nat,a.tmps[t]?=a'.tmps[t]?)(c:a.defers=a'.defers):a=a':=by
 cases a;cases a';simp only[Act.mk.injEq];exact⟨Array.ext_getElem? h,c⟩
theorem Aw1 {i j:Nat}(hi:i<l.size):(l.setIfInBounds i true).getD j false=(if i=j then true else l.getD j false):=by
 by_cases h:i=j
 ·subst h;simp[Array.getD,hi]
 ·rw[if_neg h,getD_set_ne false h]
theorem Lag.looks {L:List Nat}{pd:List Cq8}{W:PW}{β:Nat->Nat}{σ:Nat->Value}(h:Lag P tt ops listed L pd qa st W β σ a a'){i:Nat}(m:ops[i]?=some o)(z:listed.getD i false=false)(u: ∀j,j∈Ac2 o->listed.getD j false=true)(n: ∀q,q∈qa->¬q.2.1∈Af2 ops o): ∀t,t∈Af2 ops o->a.tmps[t]?=a'.tmps[t]?:=by
 intro t d;refine h.agr t (λ j oj c v hu f=>?_) λ q g e=>n q g (e ▸ d);rcases h.pend j oj c v hu with⟨p,w,rfl⟩ | ⟨q,g,rfl⟩
 ·obtain⟨o',s,sp,Wi,k⟩:=h.prom p w
  rw[k.op] at c;cases c
  by_cases r:p.i=i
  ·subst r
   have:=k.op;rw[m] at this;cases this;exact Dp7 k.val f d
  ·have:=u _ ((Bs8 k.val m r f).2 d)
   rw[hu] at this;cases this
 ·obtain⟨A,_,_,x,_,_,_,y,_⟩:=h.eag q g
  rw[x] at c;cases c;rw[y] at f;cases f;exact n q g d
theorem Bd2 {p:Nat->Oper->Bool}: ∀{l:List Oper} {n:Nat} (_: ∀k o,l[k]?=some o->p (n+k) o=false),Cu6 p n l = []/\Bm0 p n l=none
 | [],n,h=>⟨rfl,rfl⟩
 | x::r,n,h=>by
  have c:=h 0 x rfl;have:=Bd2 (p:=p) (l:=r) (n:=n.succ) λ k o hk=>by rw[show n.succ+k=n+(k+1) by omega];exact h (k+1) o (by simpa using hk)
  simp only[Nat.add_zero] at c;simp only[Cu6,Bm0,c,this,and_self]
theorem Dp4 {f:α->β}: ∀{l:List α},l.Nodup->(∀x y,x∈l->y∈l->f x=f y->x=y)->(l.map f).Nodup
 | [],_,_=>List.nodup_nil
 | x::r,c,h=>by
  rw[List.nodup_cons] at c;rw[List.map_cons,List.nodup_cons];refine⟨λ hm=>?_,Dp4 c.2 λ a b g i=>h a b (List.mem_cons_of_mem _ g) (List.mem_cons_of_mem _ i)⟩;obtain⟨y,d,e⟩:=List.mem_map.1 hm;exact c.1 (h x y (List.mem_cons_self ..) (List.mem_cons_of_mem _ d) e.symm ▸ d)
theorem Bj9 {f:α->β}: ∀{l:List α},(l.map f).Nodup->l.Nodup
 | [],_=>List.nodup_nil
 | x::r,h=>by
  rw[List.map_cons,List.nodup_cons] at h;exact List.nodup_cons.2 ⟨λ hm=>h.1 (List.mem_map.2 ⟨x,hm,rfl⟩),Bj9 h.2⟩
theorem Aw2 {f:α->β}: ∀{l:List α} (_:(l.map f).Nodup) {x y:α} (_:x∈l) (_:y∈l),f x=f y->x=y
 | [],_,_,_,g,_,_=>by cases g
 | z::r,d,x,y,g,h,e=>by
  rw[List.map_cons,List.nodup_cons] at d;rcases List.mem_cons.1 g with h1 | h1
  ·rcases List.mem_cons.1 h with c | c
   ·rw[h1,c]
   ·exact(d.1 (List.mem_map.2 ⟨y,c,by rw[<-e,h1]⟩)).elim
  ·rcases List.mem_cons.1 h with c | c
   ·exact(d.1 (List.mem_map.2 ⟨x,h1,by rw[e,c]⟩)).elim
   ·exact Aw2 d.2 h1 c e
theorem Lag.mat {L:List Nat}{pd:List Cq8}{W Wa:PW}{β:Nat->Nat}{σ:Nat->Value}{γ:Nat->Nat}(h:Lag P tt ops listed L pd qa st W β σ a a')(r:Bo0 W0 listed qa st β σ γ a Wa)(C:Run W0 M st W β σ a' Wa)(p:Nat×Nat×List Value->Bool)(u: ∀q,q∈qa->p q=true->listed.getD q.1 false=true):
  ∃v w a2,Run W0 M (Dk4 (qa.filter p) st) W v w a2 Wa/\Ah1 st (Dk4 (qa.filter p) st)/\(∀k,k<st.nx->v k=β k/\w k=σ k)/\(Dk4 (qa.filter p) st).D=st.D/\
   Lag P tt ops listed L pd (qa.filter λ q=>!(p q)) (Dk4 (qa.filter p) st) W v w a a2/\Bo0 W0 listed (qa.filter λ q=>!(p q)) (Dk4 (qa.filter p) st) v w γ a Wa/\(∀i,¬i∈ops.toList.flatMap Av0->a2.tmps.getD i undef=a'.tmps.getD i undef):=by
 have d: ∀{q},q∈qa.filter p->q∈qa/\p q=true:=λ c=>List.mem_filter.1 c;have g: ∀{q},q∈qa.filter (λ q=>!(p q))->q∈qa/\¬p q=true:=λ c=>by
  have:=List.mem_filter.1 c;exact⟨this.1,by simpa using this.2⟩
 have Y:=Bj9 h.nd;obtain⟨v,w,a2,k1,G,R,S,H,Z,T,k8,k9⟩:=Cv8 (γ:=γ) (qa.filter p) C (λ q c=>h.lt q (d c).1) (λ q c=>(r.blk q (d c).1 (u q (d c).1 (d c).2)).2)
  (Dp4 (Y.filter _) λ x y I J e=>r.inj x y (d I).1 (d J).1 (u x (d I).1 (d I).2) (u y (d J).1 (d J).2) e) (h.dd.sublist (List.filter_sublist.map _))
 have ac: ∀q,q∈qa->∃m,ops[q.1]?=some m/\m.dst=some q.2.1:=λ q c=>let⟨m,_,_,h1,_,_,_,f,_⟩:=h.eag q c;⟨m,h1,f⟩
 refine⟨v,w,a2,k1,G,R,S,⟨h.sz,h.sub,λ j oj hj D hu=>?_,λ U K=>?_,h.closed,h.inL,λ q c=>h.inQ q (g c).1,λ q c=>h.eag q (g c).1,λ q c=>G.n ▸ h.lt q (g c).1,h.nd.sublist (List.filter_sublist.map _),h.dd.sublist (List.filter_sublist.map _),h.size.trans T.symm,h.defers.trans k8.symm,λ t n ae=>?_⟩,⟨λ q c D=>?_,λ q q' c z=>r.inj q q' (g c).1 (g z).1⟩,λ i hi=>?_⟩
 ·rcases h.pend j oj hj D hu with K | ⟨q,c,rfl⟩
  ·exact .inl K
  ·by_cases A:p q=true
   ·rw[u q c A] at hu;cases hu
   ·exact .inr ⟨q,List.mem_filter.2 ⟨c,by simpa using A⟩,rfl⟩
 ·obtain⟨o',s',sp,Wi,B⟩:=h.prom U K
  refine⟨o',s',sp,Wi,B.stepT G R (λ t n=>(H t λ q c e=>?_).1) (λ k _ hm=>?_) (λ k b hk=>C.nC k b hk) λ _=>Ext.refl W⟩
  ·obtain⟨m,t',i',N,heq,af,_,O,_⟩:=h.eag q (d c).1
   have ag:¬q.1=U.i:=λ V=>by
    have h1:=B.val;have f:=B.op;rw[<-V,N] at f;cases f;rw[<-V,Dp0 af] at h1;cases h1
   have X:=Bc8 heq O B.op ag;subst e;rcases n with n | n
   ·exact X.2.1 B.val n
   ·exact X.1 n
  ·rw[S,show Nat.sub st.D.length st.D.length=0 from Nat.sub_self _] at hm
   cases hm
 ·by_cases Q: ∃q,q∈qa.filter p/\q.2.1=t
  ·obtain⟨q,c,rfl⟩:=Q
   have h1:=(r.blk q (d c).1 (u q (d c).1 (d c).2)).1;have f:=Z q c;have E:q.2.1<a.tmps.size:=by rw[h.size,C.rel.size];exact h.lt q (d c).1
   have F:q.2.1<a2.tmps.size:=by rw[T,C.rel.size];exact h.lt q (d c).1
   rw[Array.getElem?_eq_getElem E,Array.getElem?_eq_getElem F];rw[Array.getD_eq_getD_getElem?,Array.getElem?_eq_getElem E] at h1;rw[Array.getD_eq_getD_getElem?,Array.getElem?_eq_getElem F] at f;exact congrArg some (h1.trans f.symm)
  ·rw[(H t λ q c e=>Q ⟨q,c,e⟩).2]
   refine h.agr t n λ q c e=>?_
   by_cases A:p q=true
   ·exact Q ⟨q,List.mem_filter.2 ⟨c,A⟩,e⟩
   ·exact ae q (List.mem_filter.2 ⟨c,by simpa using A⟩) e
 ·obtain⟨h1,f,E,F,h5⟩:=r.blk q (g c).1 D
  refine⟨h1,f,E,F,k9 _ (λ q' z e=>?_) h5⟩;have:=r.inj q' q (d z).1 (g c).1 (u q' (d z).1 (d z).2) D e;subst this;exact(g c).2 (d z).2
 ·rw[Array.getD_eq_getD_getElem?,Array.getD_eq_getD_getElem?,(H i λ q c e=>hi ?_).2]
  obtain⟨m,N,O⟩:=ac q (d c).1;exact List.mem_flatMap.2 ⟨m,List.mem_of_getElem? (by simpa using N),by simp[Av0,O,e]⟩
theorem Dr5 (qa:QA):(qa.filter λ _=>true)=qa/\(qa.filter λ q=>!((λ _=>true:Nat×Nat×List Value->Bool) q)) = []:=by
 constructor
 ·exact List.filter_eq_self.2 λ _ _=>rfl
 ·simp
theorem Lag.done {L:List Nat}{pd:List Cq8}{W Wa:PW}{β:Nat->Nat}{σ:Nat->Value}{γ:Nat->Nat}(h:Lag P tt ops listed L pd qa st W β σ a a')(v:Bo0 W0 listed qa st β σ γ a Wa)(w:Run W0 M st W β σ a' Wa)(d: ∀i,i<ops.size->listed.getD i false=true){n:Nat}{K:SS->PW->Prop}(f:Dp9 P tt W0 M ops n L pd qa st W K):Out W0 M st β σ a' (ops.toList.flatMap Av0) K a Wa.w:=by
 have g: ∀{i o},ops[i]?=some o->i<ops.size:=λ c=>(Array.getElem?_eq_some_iff.1 c).1;have x: ∀i o,ops.toList[i]?=some o->mem L (0+i)=true:=λ i o c=>by
  have c:ops[i]?=some o:=by simpa using c
  rw[Nat.zero_add];exact Ad9.2 (h.sub i o c (d i (g c)))
 have j: ∀i o,ops.toList[i]?=some o->Ak4 ops L (0+i) o=false:=λ i o c=>by
  unfold Ak4;rw[x i o c];rfl
 obtain⟨y,z,a2,k1,u,A,_,m,_,B⟩:=h.mat v w (λ _=>true) λ q r _=>let⟨C,_,_,h1,_⟩:=h.eag q r;d _ (g h1)
 rw[(Dr5 qa).2] at m;rw[(Dr5 qa).1] at k1 u;have e:a=a2:=Fm3 (λ t=>m.agr t (λ i o c _ hu=>by rw[d i (g c)] at hu;cases hu) λ q r=>by cases r) m.defers;subst e
 cases n with
 | zero=>exact f.elim
 | succ n=>
  rw[Dp9,(Bd2 (p:=λ i o=>Ak4 ops L i o && (isVal ops i o && Ez5 st o)) λ k o hk=>by simp only[j k o hk,Bool.false_and]).2,
   (Bd2 (p:=λ i o=>Ak4 ops L i o && Fb0 ops i o) λ k o hk=>by simp only[j k o hk,Bool.false_and]).2,
   (Bd2 (p:=Ak4 ops L) j).1] at f
  exact⟨y,z,_,W,Wa,rfl,k1,f,u,A,B⟩
theorem Lag.sync (B:Ce7 ops){L:List Nat}{pd:List Cq8}{W:PW}{β:Nat->Nat}{σ:Nat->Value}(h:Lag P tt ops listed L pd qa st W β σ a a'){i:Nat}(g:ops[i]?=some o)(x:¬i∈L)(C: ∀j,j∈Ac2 o->listed.getD j false=true){D:PW}{E:Nat->Nat}{F:Nat->Value}{v:Value}(G:Ah1 st st1)(H: ∀k,k<st.nx->E k=β k/\F k=σ k)(I: ∀t,¬o.dst=some t->look st1.T t=look st.T t)(J: ∀k b,look st.C k=some b->k<st.nx)(K:((pd.filter λ q=>!(mem (Ac2 o) q.i)).all λ q=>q.ks.all λ k=>!(mem (st1.D.take (Nat.sub st1.D.length st.D.length)) k))=true)(N:((pd.filter λ q=>!(mem (Ac2 o) q.i)).any λ q=>q.nw)=true->Ext W D):
  Lag P tt ops (listed.setIfInBounds i true) (i::L) (pd.filter λ q=>!(mem (Ac2 o) q.i)) qa st1 D E F (a.put o.dst v) (a'.put o.dst v):=by
 have O: ∀{i o},ops[i]?=some o->i<listed.size:=λ g=>h.sz ▸ (Array.getElem?_eq_some_iff.1 g).1;have y: ∀{p},p∈pd.filter (λ q=>!(mem (Ac2 o) q.i))↔p∈pd/\¬p.i∈Ac2 o:=fun {p}=>by
  rw[List.mem_filter];simp only[Bool.not_eq_true',<-Ad9,Bool.not_eq_true]
 have z: ∀{j},(listed.setIfInBounds i true).getD j false=(if i=j then true else listed.getD j false):=Aw1 (O g);refine⟨by simp[h.sz],λ j oj f c=>?_,λ j oj f c hu=>?_,λ p m=>?_,λ j oj f c k hk=>?_,λ p m=>List.mem_cons_of_mem _ (h.inL p (y.1 m).1),λ q u=>List.mem_cons_of_mem _ (h.inQ q u),h.eag,λ q u=>G.n ▸ h.lt q u,h.nd,h.dd,?_,?_,λ t Q R=>?_⟩
 ·rw[z] at c
  split at c
  ·rename_i he;exact he ▸ List.mem_cons_self ..
  ·exact List.mem_cons_of_mem _ (h.sub j oj f c)
 ·rw[z] at hu
  split at hu
  ·cases hu
  ·rename_i n
   rcases List.mem_cons.1 c with rfl | c
   ·exact absurd rfl n
   ·rcases h.pend j oj f c hu with⟨p,m,rfl⟩ | u
    ·exact .inl ⟨p,y.2 ⟨m,λ hm=>by rw[C _ hm] at hu;cases hu⟩,rfl⟩
    ·exact .inr u
 ·obtain⟨A,S⟩:=y.1 m
  obtain⟨o',s,sp,Wi,w⟩:=h.prom p A;have n:p.i≠i:=λ e=>x (e ▸ h.inL p A);refine⟨o',s,sp,Wi,w.step (oj:=o) G H I (λ d r=>⟨λ hm=>?_,λ T=>(Bs8 w.val g n T).1 r⟩) (λ k hk hm=>?_) J λ U=>N (List.any_eq_true.2 ⟨p,m,U⟩)⟩
  ·rcases B.war p.i o' i o w.op g n w.val d r hm with h1 | h1
   ·exact x (h.closed p.i o' w.op (h.inL p A) i h1)
   ·exact S h1
  ·have:=List.all_eq_true.1 (List.all_eq_true.1 K p m) k hk
   rw[Ad9.2 hm] at this;cases this
 ·rcases List.mem_cons.1 c with rfl | c
  ·rw[g] at f;cases f
   have V:=B.back _ _ g k hk;have X:k<ops.size:=Nat.lt_trans V (Array.getElem?_eq_some_iff.1 g).1;exact List.mem_cons_of_mem _ (h.sub k ops[k] (by simp[X]) (C k hk))
  ·exact List.mem_cons_of_mem _ (h.closed j oj f c k hk)
 ·have:=h.size
  cases o.dst<;>simp[Act.put,this]
 ·have:=h.defers
  cases o.dst<;>simp[Act.put,this]
 ·have hold:¬o.dst=some t->a.tmps[t]?=a'.tmps[t]?:=λ r=>h.agr t (λ j oj f c hu=>by
   by_cases he:i=j
   ·subst he;exact absurd c x
   ·exact Q j oj f (List.mem_cons_of_mem _ c) (by rw[z,if_neg he];exact hu)) R
  cases r:o.dst with
  | none=>rw[r] at hold;exact hold (by simp)
  | some d=>
   simp only[Act.put,Array.getElem?_setIfInBounds,h.size];split
   ·rfl
   ·rename_i n
    exact hold (by rw[r];simpa using n)
theorem Lag.Fw2 {L:List Nat}{pd:List Cq8}{W Wa:PW}{β:Nat->Nat}{σ:Nat->Value}(h:Lag P tt ops listed L pd qa st W β σ a a')(k:Run W0 M st W β σ a' Wa){i:Nat}(g:ops[i]?=some o)(hi:i∈L)(q: ∀d,o.dst=some d->∃s',look st.T d=some s'/\∀β σ,s'.val β σ=s.val β σ):
  Lag P tt ops (listed.setIfInBounds i true) L pd qa st W β σ (a.put o.dst (s.val β σ)) a':=by
 have r: ∀{i o},ops[i]?=some o->i<listed.size:=λ g=>h.sz ▸ (Array.getElem?_eq_some_iff.1 g).1;have m: ∀{j},(listed.setIfInBounds i true).getD j false=(if i=j then true else listed.getD j false):=Aw1 (r g);refine⟨by simp[h.sz],λ j oj c e=>?_,λ j oj c e hu=>?_,h.prom,h.closed,h.inL,h.inQ,h.eag,h.lt,h.nd,h.dd,?_,?_,λ t u v=>?_⟩
 ·rw[m] at e
  split at e
  ·rename_i he;exact he ▸ hi
  ·exact h.sub j oj c e
 ·rw[m] at hu
  split at hu
  ·cases hu
  ·exact h.pend j oj c e hu
 ·have:=h.size
  cases o.dst<;>simp[Act.put,this]
 ·have:=h.defers
  cases o.dst<;>simp[Act.put,this]
 ·have hold:¬o.dst=some t->a.tmps[t]?=a'.tmps[t]?:=λ f=>h.agr t (λ j oj c e hu=>by
   by_cases he:i=j
   ·subst he;rw[g] at c;cases c;exact f
   ·exact u j oj c e (by rw[m,if_neg he];exact hu)) v
  cases f:o.dst with
  | none=>rw[f] at hold;exact hold (by simp)
  | some d=>
   simp only[Act.put,Array.getElem?_setIfInBounds];split
   ·rename_i he
    subst he;obtain⟨s',h1,w⟩:=q d f;obtain⟨x,_⟩:=k.rel.T d s' h1;have n:d<a'.tmps.size:=by rw[k.rel.size];exact k.rel.dom d s' h1
    rw[if_pos (by rw[h.size];exact n),<-w,<-x];simp[Array.getD,n]
   ·rename_i y
    exact hold (by rw[f];simpa using y)
theorem Lag.box {L:List Nat}{pd:List Cq8}{W:PW}{β:Nat->Nat}{σ:Nat->Value}(h:Lag P tt ops listed L pd qa st W β σ a a'){q:Nat×Nat×List Value}(g:q∈qa)(f:ops[q.1]?=some o)(n:o.dst=some q.2.1)(v:Value):Lag P tt ops (listed.setIfInBounds q.1 true) L pd qa st W β σ (a.put o.dst v) a':=by
 have r: ∀{i o},ops[i]?=some o->i<listed.size:=λ f=>h.sz ▸ (Array.getElem?_eq_some_iff.1 f).1;have k: ∀{j},(listed.setIfInBounds q.1 true).getD j false=(if q.1=j then true else listed.getD j false):=Aw1 (r f);refine⟨by simp[h.sz],λ j oj c d=>?_,λ j oj c d hu=>?_,h.prom,h.closed,h.inL,h.inQ,h.eag,h.lt,h.nd,h.dd,?_,?_,λ t u m=>?_⟩
 ·rw[k] at d
  split at d
  ·rename_i he;exact he ▸ h.inQ q g
  ·exact h.sub j oj c d
 ·rw[k] at hu
  split at hu
  ·cases hu
  ·exact h.pend j oj c d hu
 ·have:=h.size
  cases o.dst<;>simp[Act.put,this]
 ·have:=h.defers
  cases o.dst<;>simp[Act.put,this]
 ·rw[n]
  simp only[Act.put];rw[Array.getElem?_setIfInBounds_ne (m q g)];refine h.agr t (λ j oj c d hu=>?_) m
  by_cases he:q.1=j
  ·subst he
   rw[f] at c;cases c;rw[n];intro e;exact m q g (Option.some.inj e)
  ·exact u j oj c d (by rw[k,if_neg he];exact hu)
theorem Fl5 {i:Nat}(d:listed.size=ops.size)(f:ops[i]?=some o)(h:listed.getD i true=false):unl ops (listed.setIfInBounds i true)<unl ops listed:=by
 have c:i<ops.size:=(Array.getElem?_eq_some_iff.1 f).1;refine Dq4 (i:=i) (λ x e=>?_) (by rw[h];rfl) (by rw[Bx8 (by simp[d,c]),Aw1 (d ▸ c),if_pos rfl];rfl) (List.mem_range.2 c)
 by_cases he:i=x
 ·subst he;rw[h];rfl
 ·rw[getD_set_ne true he] at e;exact e
theorem Es9 (c:Ac6 P tt){i:TyI}(d:o.op = .alloc t)(hi:look tt t=some i)(a:Act)(w:World):(execOp a.eval o).run P w = .ok (.value (.pointer (some ⟨w.heap.size,0,none⟩))) (w.alloc (.cells i.zv.cells t)):=by
 have e:=c.Aq3 hi;simp[execOp,d,Instr.alloc,e.zero,newVar,newRow]
theorem Dv0 (hT:Ac6 P tt)(hF:Ae7 tt)(I:Ce7 ops){Q:Exit->Act->World->Prop}{K:SS->PW->Prop}: ∀(fuel:Nat) (listed:Array Bool) {n:Nat} {L:List Nat} {pd:List Cq8} {qa:QA} {st:SS} {W:PW} {γ:Nat->Nat}
  (_:Dp9 P tt W0 M ops n L pd qa st W K) {β:Nat->Nat} {σ:Nat->Value} {a a':Act} {Wa:PW} (_:Lag P tt ops listed L pd qa st W β σ a a') (_:Bo0 W0 listed qa st β σ γ a Wa) (_:Run W0 M st W β σ a' Wa) (_:unl ops listed<=fuel)
  (_: ∀a2 w2,Out W0 M st β σ a' (ops.toList.flatMap Av0) K a2 w2->Q .normal a2 w2),wpAny P .any ops Q fuel listed a Wa.w:=by
 intro fuel
 induction fuel with
 | zero=>
  intro listed n L pd qa st W γ h β σ a a' Wa C ae hR hu hQ;have ah: ∀i,i<ops.size->listed.getD i false=true:=by
   intro i hi
   cases z:listed.getD i false with
   | true=>rfl
   | false=>
    have:i∈(List.range ops.size).filter λ i=>!(listed.getD i true):=by
     rw[List.mem_filter];exact⟨List.mem_range.2 hi,by rw[Bx8 (C.sz ▸ hi),z];rfl⟩
    have h0:unl ops listed=0:=Nat.le_zero.1 hu;rw[unl,List.length_eq_zero_iff] at h0;rw[h0] at this;cases this
  have V:Region.ready .any ops listed = []:=by
   cases V:Region.ready .any ops listed with
   | nil=>rfl
   | cons x r=>
    have hx:x∈Region.ready .any ops listed:=V ▸ List.mem_cons_self ..;obtain⟨h1,o,g,_⟩:=mem_ready.1 hx;have J:x<ops.size:=(Array.getElem?_eq_some_iff.1 g).1;rw[Bx8 (C.sz ▸ J),ah x J] at h1;cases h1
  exact⟨V,hQ _ _ (C.done ae hR ah h)⟩
 | succ fuel ih=>
  intro listed n L pd qa st W γ h β σ a a' Wa C ae hR hu hQ;refine⟨λ V=>hQ _ _ (C.done ae hR (Ec3 I C.sz V) h),λ i hi=>?_⟩;obtain⟨n',N,an,m,st',a2,O,w,R,A,aR,aS,aT,aU⟩:=advance hT hF I n h C ae hR;have ao: ∀a3 w3,Out W0 M st' β σ a2 (ops.toList.flatMap Av0) K a3 w3->Q .normal a3 w3:=λ a3 w3 hO=>hQ _ _ (Out.of aR Ab2 aS (λ _ h=>h) (λ _ h=>h) (λ _ _ h=>h) hO);obtain⟨aE,o,g,ah⟩:=mem_ready.1 hi;have J:i<ops.size:=(Array.getElem?_eq_some_iff.1 g).1;have ap:listed.getD i false=false:=(Bx8 (C.sz ▸ J)).symm.trans aE;have X: ∀j,j∈Ac2 o->listed.getD j false=true:=λ j H=>by
   obtain⟨e,he,z,rfl⟩:=Bw3.1 H;exact ah e he z
  have aq:unl ops (listed.setIfInBounds i true)<=fuel:=Nat.le_of_lt_succ (Nat.lt_of_lt_of_le (Fl5 C.sz g aE) hu);have aV:i<listed.size:=w.sz ▸ J;have ar: ∀{j},(listed.setIfInBounds i true).getD j false=(if i=j then true else listed.getD j false):=Aw1 aV
  by_cases hm:i∈N
  ·rcases w.pend i o g hm ap with⟨p,hp,rfl⟩ | ⟨q,c,rfl⟩
   ·obtain⟨o',s,sp,Wi,Y⟩:=w.prom p hp
    have:=Y.op;rw[g] at this;cases this;have E: ∀q,q∈m->¬p.i=q.1/\¬o.dst=some q.2.1/\¬q.2.1∈Af2 ops o:=λ q c=>by
     obtain⟨oq,_,_,S,heq,Z,_,F,_⟩:=w.eag q c;have D:¬q.1=p.i:=λ e=>by
      rw[e,g] at S;cases S;have h1:=Y.val;rw[Dp0 Z] at h1;cases h1
     have aa:=Bc8 heq F g D;exact⟨λ e=>D e.symm,aa.1,aa.2.1 Y.val⟩
    have aj:=w.looks g ap X λ q c=>(E q c).2.2;have hy:=Y.yld A;have ab:Bo0 W0 (listed.setIfInBounds p.i true) m st' β σ γ (a.put o.dst (s.val β σ)) Wa:=by
     have back: ∀{q},q∈m->(listed.setIfInBounds p.i true).getD q.1 false=true->listed.getD q.1 false=true:=λ c y=>by rwa [ar,if_neg (E _ c).1] at y
     refine⟨λ q c y=>?_,λ q q' c f h1 B e=>R.inj q q' c f (back c h1) (back f B) e⟩;obtain⟨g1,g2⟩:=R.blk q c (back c y);refine⟨?_,g2⟩
     cases hd:o.dst with
     | none=>exact g1
     | some d=>rw[As6,if_neg λ e=>(E q c).2.1 (by rw[hd,e.1])];exact g1
    have hn:=ih _ O (w.Fw2 A g hm Y.dst) ab A aq ao;unfold wpOp;simp only[g];unfold Yld at hy;rw[<-Bx5 aj,<-Cx0 (I.sel _ _ · · g) aj] at hy;rcases hy with⟨h1,B⟩ | ⟨h1,B⟩
    ·rw[if_pos h1]
     exact .inl (Ae1 B hn)
    ·rw[if_neg (by rw[h1];simp),<-B]
     exact hn
   ·obtain⟨oq,t,ti,S,heq,Z,hg,F,aY,aZ⟩:=w.eag q c
    rw[g] at S;cases S;unfold wpOp;simp only[g];have hw:Region.wanted o (yielded ops a.tmps)=true:=by simp[Region.wanted,hg]
    rw[if_pos hw];refine .inl (Ae1 (Es9 hT Z aY a Wa.w) ?_);have D: ∀q',q'∈m->q'≠q->¬q.1=q'.1/\¬q'.2.1=q.2.1:=λ q' f u=>by
     have h1:¬q.1=q'.1:=λ e=>by
      have hn:=w.nd;have:=Aw2 hn c f e;exact u this.symm
     refine⟨h1,λ e=>?_⟩;obtain⟨bo,_,_,bp,a1,_,_,a5,_⟩:=w.eag q' f;exact(Bc8 a1 a5 g λ e'=>h1 e'.symm).1 (by rw[F,e])
    have a7:Ax6 st' β σ Wa.w.heap.size:=λ k bl hc z=>by
     have:=A.lt _ (Ca6 (A.rel.C k bl hc) z);omega
    have aH: ∀q',q'∈m->listed.getD q'.1 false=true->γ q'.1<Wa.w.heap.size:=λ q' f y=>A.lt _ (R.blk q' f y).2.2.1;have a9:q.2.1<a.tmps.size:=by rw[w.size,A.rel.size];exact w.lt q c
    have ab:Bo0 W0 (listed.setIfInBounds q.1 true) m st' β σ (upd γ q.1 Wa.w.heap.size) (a.put o.dst (.pointer (some ⟨Wa.w.heap.size,0,none⟩))) ⟨Wa.w.alloc (.cells ti.zv.cells t),λ b=>Wa.S b\/b=Wa.w.heap.size⟩:=by
     have back: ∀{q'},q'∈m->q'≠q->(listed.setIfInBounds q.1 true).getD q'.1 false=true->listed.getD q'.1 false=true:=λ f u y=>by rwa [ar,if_neg (D _ f u).1] at y
     have ac: ∀q',q'∈m->q'≠q->upd γ q.1 Wa.w.heap.size q'.1=γ q'.1:=λ q' f u=>by unfold upd;rw[if_neg λ e=>(D q' f u).1 e.symm]
     have aw:upd γ q.1 Wa.w.heap.size q.1=Wa.w.heap.size:=by unfold upd;rw[if_pos rfl]
     refine⟨λ q' f y=>?_,λ q' q2 f T h1 B e=>?_⟩
     ·by_cases u:q'=q
      ·subst u
       rw[aw];refine⟨?_,⟨t,?_⟩,.inr rfl,A.Ai1.size,a7⟩
       ·rw[F,As6,if_pos ⟨rfl,a9⟩]
       ·rw[aZ];exact heap_alloc_new _ _
      ·obtain⟨g1,⟨t',g2⟩,g3,g4,g5⟩:=R.blk q' f (back f u y)
       rw[ac q' f u];refine⟨?_,⟨t',?_⟩,.inl g3,g4,g5⟩
       ·rw[F,As6,if_neg λ e=>(D q' f u).2 e.1];exact g1
       ·exact(Bf3 _ _ (A.lt _ g3)).trans g2
     ·by_cases u:q'=q<;>by_cases U:q2=q
      ·rw[u,U]
      ·subst u
       rw[aw,ac q2 T U] at e;have:=aH q2 T (back T U B);omega
      ·subst U
       rw[aw,ac q' f u] at e;have:=aH q' f (back f u h1);omega
      ·rw[ac q' f u,ac q2 T U] at e
       exact R.inj q' q2 f T (back f u h1) (back T U B) e
    exact ih _ O (Wa:=⟨Wa.w.alloc (.cells ti.zv.cells t),λ b=>Wa.S b\/b=Wa.w.heap.size⟩) (w.box c g F _) ab (A.side _) aq ao
  ·rw[Dp9,aT,aU] at O
   simp only at O;have ba:Ak4 ops N i o=true:=by
    simp only[Ak4,Bool.and_eq_true,Bool.not_eq_true',List.all_eq_true];refine⟨by cases z:mem N i with | false=>rfl | true=>exact absurd (Ad9.1 z) hm,λ j H=>Ad9.2 ?_⟩;have bb:j<ops.size:=Nat.lt_trans (I.back _ _ g j H) J;exact w.sub j ops[j] (by simp[bb]) (X j H)
   have ay:(i,o)∈Cu6 (Ak4 ops N) 0 ops.toList:=by
    have:=Co6 (p:=Ak4 ops N) (n:=0) (k:=i) (o:=o) (l:=ops.toList) (by simpa using g) (by rw[Nat.zero_add];exact ba)
    rwa [Nat.zero_add] at this
   split at O
   ·rename_i he;rw[he] at ay;cases ay
   have Z:=Cx5 O ay;obtain⟨bq,br,a0,k1,k2,k3,k4,k5,k6,k7⟩:=w.mat R A (λ q=>mem (Ac2 o) q.1) λ q c z=>X _ (Ad9.1 z);have E: ∀q,q∈Fd5 o m->¬i=q.1/\¬o.dst=some q.2.1/\¬q.2.1∈Af2 ops o/\Fg8 o.op=true:=λ q c=>by
    obtain⟨f,al⟩:=List.mem_filter.1 c;have al:¬q.1∈Ac2 o:=λ h=>by rw[Ad9.2 h] at al;cases al
    obtain⟨oq,_,_,S,heq,_,_,F,_⟩:=w.eag q f;have D:¬q.1=i:=λ e=>hm (e ▸ w.inQ q f);have aa:=Bc8 heq F g D;exact⟨λ e=>D e.symm,aa.1,aa.2.2 al⟩
   have aj:=k5.looks g ap X λ q c=>(E q c).2.2.1;have be:(!(Fd5 o m).isEmpty)=true->Fg8 o.op=true:=λ he=>by
    cases c:Fd5 o m with
    | nil=>rw[c] at he;cases he
    | cons q r=>exact(E q (by rw[c];exact List.mem_cons_self ..)).2.2.2
   refine wpOp_mono ?_ (Ev6 hT hF g (I.sel _ _ · · g) Z be k1 k5.size aj);rintro a3 w3 ⟨v,rfl,aK,aL,st1,W1,bf,rfl,bg,G,aN,aB,bh,bi,bj⟩;simp only at G;split at G
   ·rename_i bk
    have aO:(((an.filter λ q=>!(mem (Ac2 o) q.i)).any λ q=>q.nw)=true->Ext W W1)/\Dp9 P tt W0 M ops n' (i::N) (an.filter λ q=>!(mem (Ac2 o) q.i)) (Fd5 o m) st1 W1 K:=by
     unfold Fm5 at G;split at G
     ·exact⟨λ _=>G.1,G.2⟩
     ·rename_i z;exact⟨λ h=>(by rw[z] at h;cases h),G⟩
    have bm:((an.filter λ q=>!(mem (Ac2 o) q.i)).all λ q=>q.ks.all λ k=>!(mem (st1.D.take (Nat.sub st1.D.length (Dk4 (inQ o m) st').D.length)) k))=true:=by
     have:(Dk4 (inQ o m) st').D=st'.D:=k4;rw[this];exact bk
    have ab:Bo0 W0 (listed.setIfInBounds i true) (Fd5 o m) st1 aK aL γ (a.put o.dst v) bf:=by
     have back: ∀{q},q∈Fd5 o m->(listed.setIfInBounds i true).getD q.1 false=true->listed.getD q.1 false=true:=λ c y=>by rwa [ar,if_neg (E _ c).1] at y
     refine⟨λ q c y=>?_,λ q q' c f h1 B e=>k6.inj q q' c f (back c h1) (back f B) e⟩;obtain⟨g1,⟨t',g2⟩,g3,g4,g5⟩:=k6.blk q c (back c y);obtain⟨f1,f2,f3⟩:=bj (by cases f:Fd5 o m with | nil=>rw[f] at c;cases c | cons _ _=>rfl) _ g3 g5;refine⟨?_,⟨t',f2.trans g2⟩,f1,g4,f3⟩
     cases hd:o.dst with
     | none=>exact g1
     | some d=>rw[As6,if_neg λ e=>(E q c).2.1 (by rw[hd,e.1])];exact g1
    refine ih _ aO.2 (k5.sync I g hm X aN aB bi k1.nC bm aO.1) ab bg aq λ a4 w4 hO=>ao _ _ ?_;have bn: ∀k,k<st'.nx->aK k=β k/\aL k=σ k:=λ k hk=>⟨(aB k (Nat.lt_of_lt_of_le hk k2.nx)).1.trans (k3 k hk).1,(aB k (Nat.lt_of_lt_of_le hk k2.nx)).2.trans (k3 k hk).2⟩;refine Out.of (k2.trans aN) bn (ds1:=ops.toList.flatMap Av0) (λ j H=>(bh j λ h=>H (List.mem_flatMap.2 ⟨o,List.mem_of_getElem? (by simpa using g),h⟩)).trans (k7 j H)) (λ _ h=>h) (λ _ h=>h) (λ _ _ h=>h) hO
   ·exact G.elim
theorem Do1 (j:P.follows .mixedOrders=true)(m:Ac6 P tt)(hF:Ae7 tt){id:Nat}(n:Dq0 ops=true){W:PW}{K:SS->PW->Prop}(h:Dp9 P tt W0 M ops (Nat.succ ops.size) [] [] [] st W K){β:Nat->Nat}{σ:Nat->Value}{Wa:PW}(c:Run W0 M st W β σ a Wa){Q:Exit->Act->World->Prop}(r: ∀a' w',Out W0 M st β σ a (ops.toList.flatMap Av0) K a' w'->Q .normal a' w'):
  (Code.region id ops true).wp P Q a Wa.w:=by
 refine wp_region_any j ?_;have u:Run W0 M st W β σ a ⟨{Wa.w with drawn:=Wa.w.drawn+1 },Wa.S⟩:=
  ⟨⟨c.rel.defers,c.rel.size,c.rel.T,λ k bl hk=>by have:=c.rel.C k bl hk;cases bl<;>exact this,c.rel.inj,c.rel.dom⟩,⟨c.ext.size,c.ext.Ai1⟩,⟨c.Ai1.os,c.Ai1.tape,c.Ai1.output,c.Ai1.size,c.Ai1.block,Nat.le_trans c.Ai1.drawn (Nat.le_succ _)⟩,c.priv,c.lt,c.s0,c.b0,c.nC,c.fresh⟩
 have v:Lag P tt ops (Array.replicate ops.size false) [] [] [] st W β σ a a:=by
  refine⟨by simp,λ i o g e=>?_,λ i o g e=>(by cases e),λ p f=>(by cases f),λ i o g e=>(by cases e),λ p f=>(by cases f),λ q d=>(by cases d),λ q d=>(by cases d),λ q d=>(by cases d),List.nodup_nil,List.nodup_nil,rfl,rfl,λ _ _ _=>rfl⟩;simp[Array.getD] at e
 refine Dv0 m hF (Dl1 n) ops.size _ (γ:=λ _=>0) h v ⟨λ q d=>(by cases d),λ q q' d=>(by cases d)⟩ u ?_ r;have:=List.length_filter_le (λ i=>!((Array.replicate ops.size false).getD i true)) (List.range ops.size)
 simpa[unl] using this
end Go.SX
namespace Go.SX
variable {P:Program} {tt:List (Nat×TyI)} {W0:PW} {M:Nat->Prop}
theorem Fb3 {i:TyI}{K:Value->Prop}(h:Fp8 i K){v:Value}(c:tyB i v=true):K v:=by
 unfold tyB at c;unfold Fp8 at h
 cases d:i.agg with
 | true=>
  rw[d] at c h;cases v<;>simp only[Bool.false_eq_true] at c;have:=Am9 h c
  simpa[valOf] using this
 | false=>
  rw[d] at c h;exact Am9 h (vs:=[v]) (by cases v<;>exact c)
def HB : List (Nat × Bz3) -> SS -> List PL -> SS -> Prop
  | (k, .box sh)::r, st, l, st' => ∃ cs c, Ai7 sh cs = true /\ l = .cells cs::c /\ HB r { st with C := (k, .box cs)::st.C } c st'
  | (k, .row t sz)::r, st, l, st' => ∃ xs c, l = .row xs::c /\ HB r { st with C := (k, .row t sz xs)::st.C } c st'
  | (k, .itr g kt et since)::r, st, l, st' => ∃ seen last cur c, l = .seen (Ae4 seen cur) last::c /\ HB r { st with C := (k, .itr g kt et since seen last cur)::st.C } c st'
  | [], st, l, st' => l = [] /\ st' = st
def HC:List (Nat×Car)->SS->List PL->SS->Prop
 | (d,.val i)::r,st,l,st'=>∃v c,tyB i v=true/\l = .val v::c/\HC r {st with T:=(d,.v v)::st.T } c st'
 | (d,.own t sz)::r,st,l,st'=>∃xs c,l = .row xs::c/\HC r {(Ac4 st (.row t sz xs)) with T:=(d,.o st.nx)::st.T } c st'
 | [],st,l,st'=>l = []/\st'=st
theorem Ax8: ∀{bs:List (Nat×Bz3)} {st:SS} {K:List PL->SS->Prop} (_:Cs7 bs st K) {l:List PL} {st':SS} (_:HB bs st l st'),K l st'
 | [],st,K,h,l,st',c=>by obtain⟨rfl,rfl⟩:=c;exact h
 | (k,.box sh)::r,st,K,h,l,st',c=>by
  obtain⟨cs,e,f,rfl,d⟩:=c;exact Ax8 (bs:=r) (Am9 h f) d
 | (k,.row t sz)::r,st,K,h,l,st',c=>by
  obtain⟨xs,e,rfl,d⟩:=c;exact Ax8 (bs:=r) (h xs) d
 | (k,.itr g kt et since)::r,st,K,h,l,st',c=>by
  obtain⟨seen,last,cur,e,rfl,d⟩:=c;exact Ax8 (bs:=r) (h seen last cur) d
theorem Bj2: ∀{cs:List (Nat×Car)} {st:SS} {K:List PL->SS->Prop} (_:Dq7 cs st K) {l:List PL} {st':SS} (_:HC cs st l st'),K l st'
 | [],st,K,h,l,st',c=>by obtain⟨rfl,rfl⟩:=c;exact h
 | (d,.val i)::r,st,K,h,l,st',c=>by
  obtain⟨v,f,g,rfl,e⟩:=c;exact Bj2 (cs:=r) (Fb3 h g) e
 | (d,.own t sz)::r,st,K,h,l,st',c=>by
  obtain⟨xs,f,rfl,e⟩:=c;exact Bj2 (cs:=r) (h xs) e
def Head (bs:List (Nat×Bz3)) (cars:List (Nat×Car)) (st:SS) (l:List PL) (d:SS):Prop:=∃lb lc c,HB bs st lb c/\HC cars c lc d/\l=lc ++ lb
theorem Cy5 {st:SS}{c:SS}{bs:List (Nat×Bz3)}{cars:List (Nat×Car)}{K:List PL->SS->Prop}(h:Fi0 bs cars st K){l:List PL}(d:Head bs cars st l c):K l c:=by
 obtain⟨lb,lc,f,h1,e,rfl⟩:=d;exact Bj2 (Ax8 h h1) e
theorem HB.Ai1: ∀{bs:List (Nat×Bz3)} {st:SS} {l:List PL} {st':SS} (_:HB bs st l st'),st'.nx=st.nx/\st'.n=st.n/\st'.D=st.D/\st'.T=st.T/\∀k,(∀b,b∈bs->b.1≠k)->look st'.C k=look st.C k
 | [],st,l,st',h=>by obtain⟨_,rfl⟩:=h;exact⟨rfl,rfl,rfl,rfl,λ _ _=>rfl⟩
 | (k,.box sh)::r,st,l,st',h=>by
  obtain⟨cs,m,_,_,c⟩:=h;obtain⟨h1,d,e,f,i⟩:=HB.Ai1 c;refine⟨h1,d,e,f,λ k' hk=>?_⟩;rw[i k' λ b j=>hk b (by simp[j])];simp only[Ab4];rw[if_neg (hk (k,.box sh) (by simp))]
 | (k,.row t sz)::r,st,l,st',h=>by
  obtain⟨cs,m,_,c⟩:=h;obtain⟨h1,d,e,f,i⟩:=HB.Ai1 c;refine⟨h1,d,e,f,λ k' hk=>?_⟩;rw[i k' λ b j=>hk b (by simp[j])];simp only[Ab4];rw[if_neg (hk (k,.row t sz) (by simp))]
 | (k,.itr g kt et since)::r,st,l,st',h=>by
  obtain⟨seen,last,cur,m,_,c⟩:=h;obtain⟨h1,d,e,f,i⟩:=HB.Ai1 c;refine⟨h1,d,e,f,λ k' hk=>?_⟩;rw[i k' λ b j=>hk b (by simp[j])];simp only[Ab4];rw[if_neg (hk (k,.itr g kt et since) (by simp))]
theorem HC.Ai1: ∀{cs:List (Nat×Car)} {st:SS} {l:List PL} {st':SS} (_:HC cs st l st'),st.nx<=st'.nx/\st'.n=st.n/\st'.D=st.D/\∀k,k<st.nx->look st'.C k=look st.C k
 | [],st,l,st',h=>by obtain⟨_,rfl⟩:=h;exact⟨Nat.le_refl _,rfl,rfl,λ _ _=>rfl⟩
 | (d,.val i)::r,st,l,st',h=>by
  obtain⟨v,j,_,_,c⟩:=h;obtain⟨h1,e,f,g⟩:=HC.Ai1 c;exact⟨h1,e,f,g⟩
 | (d,.own t sz)::r,st,l,st',h=>by
  obtain⟨xs,j,_,c⟩:=h;obtain⟨h1,e,f,g⟩:=HC.Ai1 c;refine⟨Nat.le_trans (Nat.le_succ _) h1,e,f,λ k hk=>?_⟩;rw[g k (Nat.lt_succ_of_lt hk)];simp only[Ac4,Ab4];rw[if_neg (by omega)]
def PB : List (Nat × Bz3) -> SS -> List PL -> Prop
  | (k, .box sh)::r, st, l => ∃ cs c, l = .cells cs::c /\ look st.C k = some (.box cs) /\ Ai7 sh cs = true /\ PB r st c
  | (k, .row t sz)::r, st, l => ∃ xs c, l = .row xs::c /\ look st.C k = some (.row t sz xs) /\ PB r st c
  | (k, .itr g kt et since)::r, st, l => ∃ seen last cur c, l = .seen (Ae4 seen cur) last::c /\ look st.C k = some (.itr g kt et since seen last cur) /\ PB r st c
  | [], st, l => l = []
theorem Ak6: ∀{bs:List (Nat×Bz3)} {st:SS} {W:PW} {K:List PL->SS->PW->Prop} (_:Cr6 bs st W K),∃l,K l st W/\PB bs st l
 | [],st,W,K,h=>⟨[],h,rfl⟩
 | (k,.box sh)::r,st,W,K,h=>by
  simp only[Cr6] at h;split at h
  ·rename_i cs c
   split at h
   ·rename_i i
    obtain⟨l,d,e⟩:=Ak6 (bs:=r) h;exact⟨_,d,cs,l,rfl,c,i,e⟩
   ·exact h.elim
  ·exact h.elim
 | (k,.row t sz)::r,st,W,K,h=>by
  simp only[Cr6] at h;split at h
  ·rename_i j m xs c
   split at h
   ·rename_i h1 f
    obtain rfl:=Nat.eq_of_beq_eq_true h1;obtain rfl:=Nat.eq_of_beq_eq_true f;obtain⟨l,d,e⟩:=Ak6 (bs:=r) h;exact⟨_,d,xs,l,rfl,c,e⟩
   ·exact h.elim
  ·exact h.elim
 | (k,.itr g kt et since)::r,st,W,K,h=>by
  simp only[Cr6] at h;split at h
  ·rename_i n q u v seen last cur c
   split at h
   ·rename_i h1 f
    obtain rfl:=Nat.eq_of_beq_eq_true h1;obtain rfl:=Nat.eq_of_beq_eq_true f;obtain⟨⟨rfl,rfl⟩,h⟩:=h;obtain⟨l,d,e⟩:=Ak6 (bs:=r) h;exact⟨_,d,seen,last,cur,l,rfl,c,e⟩
   ·exact h.elim
  ·exact h.elim
def PC (a:Act) (w:World) (n:Nat):List (Nat×Car)->List Nat->List PL->Prop
 | (d,.val i)::r,G,l=>∃v c,l = .val v::c/\a.tmps.getD d undef=v/\d<n/\tyB i v=true/\PC a w n r G c
 | (d,.own t sz)::r,G,l=>∃xs c,l = .row xs::c/\d<n/\Ai0 w t sz (a.tmps.getD d undef) xs/\(∀g,(a.tmps.getD d undef).ownBlock=some g->g∉G)/\PC a w n r ((a.tmps.getD d undef).ownBlock.toList ++ G) c
 | [],_,l=>l = []
def Do8 (a:Act):List (Nat×Car)->List Nat
 | (_,.val _)::r=>Do8 a r
 | (d,.own _ _)::r=>(a.tmps.getD d undef).ownBlock.toList ++ Do8 a r
 | []=>[]
theorem Al1: ∀{cars:List (Nat×Car)} {st:SS} {W Wa:PW} {β:Nat->Nat} {σ:Nat->Value} {a:Act} {K:List PL->SS->PW->Prop} {G:List Nat} (_:De0 W0 cars st W K) (_:Run W0 M st W β σ a Wa)
  (_: ∀g,g∈G->Ax6 st β σ g/\Wa.S g/\W0.w.heap.size<=g),
  ∃l st1 H E,K l st1 H/\E.w=Wa.w/\Run W0 M st1 H β σ a E/\st1.T=st.T/\Ah1 st st1/\PC a Wa.w st.n cars G l/\(∀g,g∈G ++ Do8 a cars->Ax6 st1 β σ g/\E.S g/\W0.w.heap.size<=g)
 | [],st,W,Wa,β,σ,a,K,G,h,f,j=>⟨[],st,W,Wa,h,rfl,f,rfl,Ah1.refl _,rfl,by simpa[Do8] using j⟩
 | (d,.val i)::r,st,W,Wa,β,σ,a,K,G,h,f,j=>by
  simp only[De0] at h;have O:d<st.n:=by
   have I:=h;simp only[evP,ev] at I;split at I
   ·rename_i s Q;exact f.rel.dom _ _ Q
   ·exact I.elim
  obtain⟨v,st1,H,E,h1,he,hw,R,S,L,N⟩:=Cd7 h f;split at h1
  ·rename_i T
   obtain⟨l,st2,q,u,w,x,y,z,A,n,B⟩:=Al1 (cars:=r) (G:=G) h1 R (λ g c=>⟨(N g (j g c).1 (j g c).2.1).1,(N g (j g c).1 (j g c).2.1).2,(j g c).2.2⟩);refine⟨_,st2,q,u,w,x.trans hw,y,z.trans S,L.trans A,⟨v,l,rfl,?_,O,T,?_⟩,?_⟩
   ·simpa[Act.eval] using he
   ·rw[hw,L.n] at n;exact n
   ·simpa[Do8] using B
  ·exact h1.elim
 | (d,.own t sz)::r,st,W,Wa,β,σ,a,K,G,h,f,j=>by
  simp only[De0] at h;split at h
  ·rename_i k C
   split at h
   ·rename_i t' ac xs D
    split at h
    ·rename_i h1 U
     obtain rfl:=Nat.eq_of_beq_eq_true h1;obtain rfl:=Nat.eq_of_beq_eq_true U;obtain⟨hO,V⟩:=f.rel.C _ _ D;have m:a.tmps.getD d undef=σ k:=(f.rel.T _ _ C).1;obtain⟨r1,X⟩:=Run.set (Wa':=Wa) (bl:=.dead) f D (Am7.refl _ _) (λ b J=>J) (λ b J _=>J) trivial (by simp[Ab8]);have Y: ∀g,(σ k).ownBlock=some g->Ax6 (Af0 st k .dead) β σ g/\Wa.S g/\W0.w.heap.size<=g:=by
      intro g c;refine⟨?_,V g c,f.fresh k _ g D (by simpa[Ab8] using c)⟩;intro i bl' F;simp only[Af0,Ab4] at F;split at F
      ·obtain rfl:=Option.some.inj F;simp[Ab8]
      ·rename_i Z
       exact λ e=>f.rel.inj i k bl' _ g (λ e=>Z e.symm) F D e (by simpa[Ab8] using c)
     obtain⟨l,st2,q,u,w,x,y,z,A,n,B⟩:=Al1 (cars:=r) (G:=(σ k).ownBlock.toList ++ G) h r1 (by
      intro g c;rcases List.mem_append.1 c with c | c
      ·exact Y g (by simpa using c)
      ·exact⟨(j g c).1.set (by simp[Ab8]),(j g c).2⟩)
     refine⟨_,st2,q,u,w,x,y,z,X.trans A,⟨xs,l,rfl,f.rel.dom _ _ C,?_,?_,?_⟩,?_⟩
     ·rw[m];exact hO
     ·rw[m];exact λ g c aa=>(j g aa).1 k _ D (by simpa[Ab8] using c)
     ·rw[m];exact n
     ·intro g c
      refine B g ?_;simp only[Do8,m,List.mem_append] at c⊢;rcases c with c | c | c
      ·exact .inl (.inr c)
      ·exact .inl (.inl c)
      ·exact .inr c
    ·exact h.elim
   ·exact h.elim
  ·rename_i C
   have m:a.tmps.getD d undef = .slice none 0 0:=(f.rel.T _ _ C).1;obtain⟨l,st2,q,u,w,x,y,z,A,n,B⟩:=Al1 (cars:=r) (G:=G) h f j;refine⟨_,st2,q,u,w,x,y,z,A,⟨[],l,rfl,f.rel.dom _ _ C,?_,?_,?_⟩,?_⟩
   ·rw[m];exact Ai0.nil _ _ _
   ·rw[m];simp[Value.ownBlock]
   ·rw[m];simpa[Value.ownBlock] using n
   ·intro g c
    refine B g ?_
    simpa[Do8,m,Value.ownBlock] using c
  ·exact h.elim
end Go.SX
