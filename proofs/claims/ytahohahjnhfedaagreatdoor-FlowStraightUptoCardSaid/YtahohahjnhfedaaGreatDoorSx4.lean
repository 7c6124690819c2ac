/- The symbolic evaluator: regions whose order is drawn are sound. -/
import Derived.Test.YtahohahjnhfedaaGreatDoorSx3
import Derived.Orders
set_option linter.unusedVariables false
set_option linter.unusedSimpArgs false
namespace Go.SX
variable {P:Program} {tt:List (Nat×TyI)} {W0:PW} {M:Nat→Prop}
theorem Ad9 {l:List Nat} {x:Nat} :mem l x=true↔x∈l:=by
 unfold mem
 rw[List.any_eq_true]
 constructor
 ·rintro⟨y,hy,he⟩
  rw[Nat.eq_of_beq_eq_true he];exact hy
 ·exact fun h=>⟨x,h,Nat.beq_refl x⟩
theorem Aw5 {p:Nat→Oper→Bool} : ∀{l:List Oper} {n:Nat} (_:allI p n l=true) {i:Nat} {o:Oper} (_:l[i]?=some o),p (n+i) o=true
 | [],n,_,i,o,h=>by simp at h
 | x :: r,n,h,i,o,ho=>by
  rw[allI,Bool.and_eq_true] at h
  cases i with
  | zero=>simp at ho;subst ho;exact h.1
  | succ i=>
   have:=Aw5 h.2 (i:=i) (o:=o) (by simpa using ho)
   rw[show n+(i+1)=n.succ+i by omega];exact this
theorem Bi3 {p:Nat→Oper→Bool} : ∀{l:List Oper} {n i:Nat} {o:Oper} (_:Bm0 p n l=some (i,o)),∃k,i=n+k∧l[k]?=some o∧p i o=true
 | [],n,i,o,h=>by simp[Bm0] at h
 | x :: r,n,i,o,h=>by
  rw[Bm0] at h
  split at h
  ·rename_i hp
   simp only[Option.some.injEq,Prod.mk.injEq] at h
   obtain⟨rfl,rfl⟩:=h
   exact⟨0,rfl,rfl,hp⟩
  ·obtain⟨k,hk,ho,hp⟩:=Bi3 h
   exact⟨k+1,by omega,by simpa using ho,hp⟩
theorem Co6 {p:Nat→Oper→Bool} : ∀{l:List Oper} {n k:Nat} {o:Oper} (_:l[k]?=some o) (_:p (n+k) o=true),(n+k,o)∈Cu6 p n l
 | [],n,k,o,h,_=>by simp at h
 | x :: r,n,k,o,h,hp=>by
  rw[Cu6]
  cases k with
  | zero=>simp at h;subst h;simp at hp;simp[hp]
  | succ k=>
   have:=Co6 (l:=r) (n:=n.succ) (k:=k) (o:=o) (by simpa using h) (by rw[show n.succ+k=n+(k+1) by omega];exact hp)
   rw[show n.succ+k=n+(k+1) by omega] at this
   split
   ·exact List.mem_cons_of_mem _ this
   ·exact this
theorem Cx5 {f:Nat×Oper→Prop} : ∀{l:List (Nat×Oper)} (_:Fq6 f l) {x:Nat×Oper} (_:x∈l),f x
 | [],_,x,hx=>by cases hx
 | [y],h,x,hx=>by simp at hx;subst hx;exact h
 | y :: z :: r,h,x,hx=>by
  rcases List.mem_cons.1 hx with rfl | hx
  ·exact h.1
  ·exact Cx5 h.2 hx
theorem Ar2 {α:Type} {q:Nat→Bool} : ∀{l:List (Nat×α)} {i:Nat} {x:α} (_:look (l.filter fun p=>q p.1) i=some x),look l i=some x∧q i=true
 | [],i,x,h=>by simp[look] at h
 | (k,y) :: r,i,x,h=>by
  rw[Ab4]
  rw[List.filter_cons] at h
  by_cases hq:q k=true
  ·simp only[hq,if_true,Ab4] at h
   split
   ·rename_i he
    rw[if_pos he] at h
    exact⟨h,he ▸ hq⟩
   ·rename_i he
    rw[if_neg he] at h
    exact Ar2 h
  ·simp only[hq] at h
   have:=Ar2 (l:=r) (by simpa using h)
   split
   ·rename_i he;subst he;exact absurd this.2 hq
   ·exact this
theorem Bw3 {o:Oper} {j:Nat} :j∈Ac2 o↔∃e,e∈o.after∧Region.binds .any e=true∧e.on=j:=by
 unfold Ac2
 rw[List.mem_filterMap]
 constructor
 ·rintro⟨e,he,h⟩
  split at h
  ·rename_i hb;simp at h;exact⟨e,by simpa using he,hb,h⟩
  ·cases h
 ·rintro⟨e,he,hb,rfl⟩
  exact⟨e,by simpa using he,by simp[hb]⟩
def Yld (P:Program) (ops:Array Oper) (o:Oper) (a:Act) (w:World) (v:Value):Prop:=
 (Region.wanted o (yielded ops a.tmps)=true∧(execOp a.eval o).run P w = .ok (.value v) w)∨(Region.wanted o (yielded ops a.tmps)=false∧v=undef)
theorem Cx0 {ops:Array Oper} {o:Oper} {a a':Act} (hs: ∀cs b,o.op≠.select cs b) (h: ∀t,t∈Af2 ops o→a.tmps[t]?=a'.tmps[t]?):execOp a.eval o=execOp a'.eval o:=by
 refine execOp_congr o hs fun x hx=>?_
 cases x with
 | tmp t=>
  have:=h t (List.mem_append_left _ (List.mem_filterMap.2 ⟨.tmp t,by simpa using hx,rfl⟩))
  simp[Act.eval,Array.getD_eq_getD_getElem?,this]
 | _=>rfl
theorem Bx5 {ops:Array Oper} {o:Oper} {a a':Act} (h: ∀t,t∈Af2 ops o→a.tmps[t]?=a'.tmps[t]?):Region.wanted o (yielded ops a.tmps)=Region.wanted o (yielded ops a'.tmps):=by
 unfold Region.wanted
 cases hg:o.guard with
 | none=>rfl
 | some gw=>
  obtain⟨g,want⟩:=gw
  have hy:yielded ops a.tmps g=yielded ops a'.tmps g:=by
   unfold yielded
   cases ht:(ops[g]?).bind (·.dst) with
   | none=>rfl
   | some t=>
    have:=h t (List.mem_append_right _ (by simp[hg,ht]))
    simp only[Option.bind_some,this]
  simp only[hy]
theorem Eu0 {a a':Act} {dst:Option Tmp} {v v':Value} (hs:a.tmps.size=a'.tmps.size) (h:a'.put dst v=a'.put dst v'):a.put dst v=a.put dst v':=by
 cases dst with
 | none=>rfl
 | some d=>
  simp only[Act.put,Act.mk.injEq,and_true] at h⊢
  by_cases hd:d<a.tmps.size
  ·have:v=v':=by
    have h2:=congrArg (fun x=>x[d]?) h
    have hd':d<a'.tmps.size:=hs ▸ hd
    simpa[Array.getElem?_setIfInBounds,hd'] using h2
   rw[this]
  ·simp[Array.setIfInBounds,hd]
theorem Fa6 {o:Oper} {a a':Act} {w:World} {Φ:Value→World→Prop} {Q:Exit→Act→World→Prop} (he:execOp a.eval o=execOp a'.eval o) (hs:a.tmps.size=a'.tmps.size)
  (h:o.wp P a' w (fun a2 w2=>∃v,a2=a'.put o.dst v∧Φ v w2) (fun _ _ _=>False)):o.wp P a w (fun a2 w2=>∃v,a2=a.put o.dst v∧Φ v w2) Q:=by
 unfold Oper.wp at h⊢
 rw[he]
 generalize (execOp a'.eval o).run P w=r at h
 have fwd: ∀v w2,(∃v',a'.put o.dst v=a'.put o.dst v'∧Φ v' w2)→∃v',a.put o.dst v=a.put o.dst v'∧Φ v' w2:=fun v w2 ⟨v',h1,h2⟩=>⟨v',Eu0 hs h1,h2⟩
 unfold Oper.upon at h⊢
 split at h
 ·exact fwd _ _ h
 ·exact fwd _ _ h
 ·rename_i d w2
  obtain⟨v,h1,_⟩:=h
  have:=congrArg (fun a=>a.defers.length) h1
  cases hd:o.dst<;>simp[hd,Act.put] at this
 ·refine Calls.mono h ?_
  intro e w'' he
  cases e with
  | returned v=>exact fwd _ _ he
  | panicked c=>exact he.elim
  | outgrown=>obtain⟨_,_,hf⟩:=he;exact hf.elim
 ·exact Rows.mono h fun v w'' h=>fwd _ _ h
 ·exact h.elim
 ·exact h.elim
theorem Ay4 {gd:Bool} {o:Oper} {s:SV} {st:SS} {Kf:SS→Prop} (h:fin gd o s st Kf) {W Wa:PW} {β:Nat→Nat} {σ:Nat→Value} {a:Act} (hR:Run W0 M st W β σ a Wa) (hs:Az7 st.nx β σ s):
  ∃st',Kf st'∧Run W0 M st' W β σ (a.put o.dst (s.val β σ)) Wa∧Ah1 st st'∧(∀i,¬i∈Av0 o→(a.put o.dst (s.val β σ)).tmps.getD i undef=a.tmps.getD i undef)∧
   st'.C=st.C∧st'.nx=st.nx∧st'.n=st.n∧st'.D=st.D∧(∀t,¬o.dst=some t→look st'.T t=look st.T t)∧∀d,o.dst=some d→∃s',look st'.T d=some s'∧∀β σ,s'.val β σ=s.val β σ:=by
 unfold fin at h
 cases hd:o.dst with
 | none=>
  rw[hd] at h
  exact⟨st,h,hR,Ah1.refl _,fun _ _=>rfl,rfl,rfl,rfl,rfl,fun _ _=>rfl,fun d h=>by cases h⟩
 | some d=>
  rw[hd] at h
  simp only at h
  have htm: ∀v i,¬i∈Av0 o→(a.put (some d) v).tmps.getD i undef=a.tmps.getD i undef:=by
   intro v i hi
   rw[As6,if_neg]
   rintro⟨rfl,_⟩
   exact hi (by simp[Av0,hd])
  have hT: ∀(x:SV) t,¬some d=some t→look ((d,x) :: st.T) t=look st.T t:=fun x t ht=>by
   rw[Ab4,if_neg fun e=>ht (by rw[e])]
  have hd': ∀(x:SV) t,some d=some t→look ((d,x) :: st.T) t=some x:=fun x t ht=>by
   rw[Ab4,if_pos (Option.some.inj ht)]
  split at h
  ·rename_i hb
   have hlt:d<st.n:=Nat.le_of_ble_eq_true hb
   split at h
   ·obtain⟨t,ht,hv⟩:=As5 h
    exact⟨_,ht,hR.Fk3 (s:=.b t) hlt trivial (hv β σ),Ct7 _ _,fun i hi=>htm _ i hi,rfl,rfl,rfl,rfl,hT _,fun t' ht'=>⟨_,hd' _ _ ht',fun β σ=>(hv β σ).symm⟩⟩
   ·exact⟨_,h,hR.Fk3 hlt hs rfl,Ct7 _ _,fun i hi=>htm _ i hi,rfl,rfl,rfl,rfl,hT _,fun t' ht'=>⟨_,hd' _ _ ht',fun _ _=>rfl⟩⟩
  ·exact h.elim
def Ft5 (W0:PW) (M:Nat→Prop) (fr:Bool) (st:SS) (β:Nat→Nat) (σ:Nat→Value) (a:Act) (Wa:PW) (o:Oper) (K:SS→PW→Prop) (v:Value) (w:World):Prop:=
 ∃β1 σ1 st1 W1 Wa1,Wa1.w=w∧Run W0 M st1 W1 β1 σ1 (a.put o.dst v) Wa1∧K st1 W1∧Ah1 st st1∧(∀k,k<st.nx→β1 k=β k∧σ1 k=σ k)∧(∀i,¬i∈Av0 o→(a.put o.dst v).tmps.getD i undef=a.tmps.getD i undef)∧
  (∀t,¬o.dst=some t→look st1.T t=look st.T t)∧(fr=true→Dq9 st β σ Wa st1 β1 σ1 Wa1)
theorem Fe9 (hT:Ac6 P tt) (hF:Ae7 tt) {o:Oper} {st:SS} {W:PW} {K:SV→SS→PW→Prop} {fr:Bool} (hfr:fr=true→Fg8 o.op=true) (h:Ci6 P tt W0 M o st W K)
  {β:Nat→Nat} {σ:Nat→Value} {a:Act} {Wa:PW} {Q:Exit→Act→World→Prop} (hR:Run W0 M st W β σ a Wa):
  o.wp P a Wa.w (fun a' w'=>∃s β' σ' st' W' Wa',Wa'.w=w'∧a'=a.put o.dst (s.val β' σ')∧Run W0 M st' W' β' σ' a Wa'∧Az7 st'.nx β' σ' s∧st'.T=st.T∧K s st' W'∧Ah1 st st'∧(∀k,k<st.nx→β' k=β k∧σ' k=σ k)∧(fr=true→Dq9 st β σ Wa st' β' σ' Wa')) Q:=by
 cases fr with
 | true=>exact Aw7 (Ed2 hT hF (hfr rfl) h hR) fun a' w' ⟨s,β',σ',st',W',Wa',h1,h2,h3,h4,h5,h6,h7,h8,h9⟩=>⟨s,β',σ',st',W',Wa',h1,h2,h3,h4,h5,h6,h7,h8,fun _=>h9⟩
 | false=>exact Aw7 (Cs1 hT hF h β σ a Wa _ hR) fun a' w' ⟨s,β',σ',st',W',Wa',h1,h2,h3,h4,h5,h6,h7,h8⟩=>⟨s,β',σ',st',W',Wa',h1,h2,h3,h4,h5,h6,h7,h8,fun e=>by cases e⟩
theorem Ev6 (hT:Ac6 P tt) (hF:Ae7 tt) {ops:Array Oper} {i:Nat} {o:Oper} (ho:ops[i]?=some o) (hsel: ∀cs b,o.op≠.select cs b) {st:SS} {W:PW} {K:SS→PW→Prop} (h:Fi7 P tt W0 M ops.toList i o st W K)
  {fr:Bool} (hfr:fr=true→Fg8 o.op=true)
  {β:Nat→Nat} {σ:Nat→Value} {a a':Act} {Wa:PW} (hR:Run W0 M st W β σ a' Wa) (hs:a.tmps.size=a'.tmps.size) (hag: ∀t,t∈Af2 ops o→a.tmps[t]?=a'.tmps[t]?) {Q:Exit→Act→World→Prop} :
  wpOp P ops Q i (fun a2 w2=>∃v,a2=a.put o.dst v∧Ft5 W0 M fr st β σ a' Wa o K v w2) a Wa.w:=by
 simp only[wpOp,ho]
 rw[Bx5 hag]
 have run:Ci6 P tt W0 M o st W (fun s st W=>fin (guards ops.toList i) o s st fun st=>K st W)→o.wp P a Wa.w (fun a2 w2=>∃v,a2=a.put o.dst v∧Ft5 W0 M fr st β σ a' Wa o K v w2) Q:=by
  intro h
  refine Fa6 (Cx0 hsel hag) hs (Aw7 (Fe9 hT hF hfr h (Q:=fun _ _ _=>False) hR) ?_)
  rintro a2 w2 ⟨s,β',σ',st',W',Wa',hw,rfl,hR',hs,hTe,hfin,hD,hag,hfm⟩
  obtain⟨st2,hK,hR2,hD2,htm,hC,hn,hn',_,hT2,_⟩:=Ay4 hfin hR' hs
  exact⟨_,rfl,β',σ',st2,W',Wa',hw,hR2,hK,hD.trans hD2,hag,htm,fun t ht=>(hT2 t ht).trans (by rw[hTe]),fun e=>(hfm e).C hC⟩
 unfold Fi7 at h
 split at h
 ·rename_i hg
  have hw:Region.wanted o (yielded ops a'.tmps)=true:=by simp[Region.wanted,hg]
  rw[if_pos hw]
  exact .inl (run h)
 ·rename_i j want hg
  split at h
  ·rename_i og hj
   split at h
   ·rename_i d hd
    split at h
    ·rename_i b hb
     obtain⟨hv,_⟩:=hR.rel.T _ _ hb
     have hlt:d<a'.tmps.size:=by rw[hR.rel.size];exact hR.rel.dom _ _ hb
     have hw:=Bp5 hg hj hd hlt hv
     split at h
     ·rename_i he
      rw[if_pos (hw.trans he)]
      exact .inl (run h)
     ·rename_i he
      rw[if_neg (by rw[hw,he];simp)]
      obtain⟨st2,hK,hR2,hD2,htm,hC,hn,hn',_,hT2,_⟩:=Ay4 h hR (s:=.v undef) trivial
      exact⟨_,rfl,β,σ,st2,W,Wa,rfl,hR2,hK,hD2,Ab2,htm,hT2,fun _=>Dq9.refl.C hC⟩
    ·rename_i l hb
     rw[if_neg (by rw[Bv3 hg hj hd (hR.rel.T _ _ hb).1];simp)]
     obtain⟨st2,hK,hR2,hD2,htm,hC,hn,hn',_,hT2,_⟩:=Ay4 h hR (s:=.v undef) trivial
     exact⟨_,rfl,β,σ,st2,W,Wa,rfl,hR2,hK,hD2,Ab2,htm,hT2,fun _=>Dq9.refl.C hC⟩
    ·exact h.elim
   ·exact h.elim
  ·exact h.elim
theorem De6 (hT:Ac6 P tt) (hF:Ae7 tt) {ops:Array Oper} {o:Oper} {st:SS} {W:PW} {K:SV→Prop} (h:Fh6 tt ops.toList o st W K):
  ∃s,K s∧∀β σ a Wa,Rel β σ st a Wa→Ext W Wa→Yld P ops o a Wa.w (s.val β σ)∧Az7 st.nx β σ s:=by
 unfold Fh6 at h
 split at h
 ·rename_i hg
  obtain⟨s,hK,hs⟩:=Bo1 hT hF (P:=P) h
  exact⟨s,hK,fun β σ a Wa hr hx=>⟨.inl ⟨by simp[Region.wanted,hg],(hs β σ a Wa hr hx).1⟩,(hs β σ a Wa hr hx).2⟩⟩
 ·rename_i j want hg
  split at h
  ·rename_i og hj
   split at h
   ·rename_i d hd
    split at h
    ·rename_i b hb
     have hw: ∀{β σ a Wa},Rel β σ st a Wa→Region.wanted o (yielded ops a.tmps)=(b == want):=fun hr=>by
      obtain⟨hv,_⟩:=hr.T _ _ hb
      exact Bp5 hg hj hd (by rw[hr.size];exact hr.dom _ _ hb) hv
     split at h
     ·rename_i he
      obtain⟨s,hK,hs⟩:=Bo1 hT hF (P:=P) h
      exact⟨s,hK,fun β σ a Wa hr hx=>⟨.inl ⟨(hw hr).trans he,(hs β σ a Wa hr hx).1⟩,(hs β σ a Wa hr hx).2⟩⟩
     ·rename_i he
      exact⟨_,h,fun β σ a Wa hr hx=>⟨.inr ⟨(hw hr).trans (by simpa using he),rfl⟩,trivial⟩⟩
    ·rename_i l hb
     exact⟨_,h,fun β σ a Wa hr hx=>⟨.inr ⟨Bv3 hg hj hd (hr.T _ _ hb).1,rfl⟩,trivial⟩⟩
    ·exact h.elim
   ·exact h.elim
  ·exact h.elim
theorem Dr6 (W Wa:PW):Ext (Ft2 W) Wa:=⟨Nat.zero_le _,fun b hb=>absurd hb (Nat.not_lt_zero b)⟩
theorem Dp2 {b:Bool} {W Wa:PW} (h:Ext W Wa):Ext (Fo0 b W) Wa:=by
 cases b with
 | true=>exact h
 | false=>exact Dr6 W Wa
structure Er7 (P:Program) (ops:Array Oper) (st:SS) (W:PW) (β:Nat→Nat) (σ:Nat→Value) (p:Cq8) (o:Oper) (s:SV) (sp:SS) (Wi:PW):Prop where
 op:ops[p.i]?=some o
 val:isVal ops p.i o=true
 sem: ∀β σ a Wa,Rel β σ sp a Wa→Ext Wi Wa→Yld P ops o a Wa.w (s.val β σ)
 T: ∀t x,look sp.T t=some x→look st.T t=some x∧t∈Af2 ops o∧Az7 sp.nx β σ x
 C: ∀k b,look sp.C k=some b→look st.C k=some b∧k∈p.ks
 n:sp.n=st.n
 nx:sp.nx≤st.nx
 ext:Ext Wi W
 nw:p.nw=false→∀W,Ext Wi W
 dst: ∀d,o.dst=some d→∃s',look st.T d=some s'∧∀β σ,s'.val β σ=s.val β σ
theorem Er7.rel {ops:Array Oper} {st:SS} {W Wa:PW} {β:Nat→Nat} {σ:Nat→Value} {a:Act} {p:Cq8} {o:Oper} {s:SV} {sp:SS} {Wi:PW} (h:Er7 P ops st W β σ p o s sp Wi) (hR:Run W0 M st W β σ a Wa):Rel β σ sp a Wa:=
 ⟨hR.rel.defers,hR.rel.size.trans h.n.symm,fun i x hi=>⟨(hR.rel.T i x (h.T i x hi).1).1,(h.T i x hi).2.2⟩,fun k b hk=>hR.rel.C k b (h.C k b hk).1,
  fun k k' b b' g hne h1 h2=>hR.rel.inj k k' b b' g hne (h.C k b h1).1 (h.C k' b' h2).1,fun i x hi=>h.n ▸ hR.rel.dom i x (h.T i x hi).1⟩
theorem Er7.yld {ops:Array Oper} {st:SS} {W Wa:PW} {β:Nat→Nat} {σ:Nat→Value} {a:Act} {p:Cq8} {o:Oper} {s:SV} {sp:SS} {Wi:PW} (h:Er7 P ops st W β σ p o s sp Wi) (hR:Run W0 M st W β σ a Wa):Yld P ops o a Wa.w (s.val β σ):=
 h.sem β σ a Wa (h.rel hR) (h.ext.trans hR.ext)
theorem Er7.stepT {ops:Array Oper} {st st1:SS} {W W1:PW} {β β1:Nat→Nat} {σ σ1:Nat→Value} {p:Cq8} {o:Oper} {s:SV} {sp:SS} {Wi:PW} (h:Er7 P ops st W β σ p o s sp Wi)
  (hD:Ah1 st st1) (hag: ∀k,k<st.nx→β1 k=β k∧σ1 k=σ k) (hT: ∀t,t∈Af2 ops o∨o.dst=some t→look st1.T t=look st.T t)
  (hks: ∀k,k∈p.ks→¬k∈st1.D.take (Nat.sub st1.D.length st.D.length)) (hnC: ∀k b,look st.C k=some b→k<st.nx) (hx:p.nw=true→Ext W W1):Er7 P ops st1 W1 β1 σ1 p o s sp Wi where
 op:=h.op
 val:=h.val
 sem:=h.sem
 T:=fun t x ht=>by
  obtain⟨h1,h2,h3⟩:=h.T t x ht
  refine⟨(hT t (.inl h2)).trans h1,h2,Ay6 (fun k hk=>hag k (Nat.lt_of_lt_of_le hk h.nx)) h3⟩
 C:=fun k b hk=>by
  obtain⟨h1,h2⟩:=h.C k b hk
  obtain⟨new,hn,hl⟩:=hD.D
  refine⟨(hl k (hnC k b h1) ?_).trans h1,h2⟩
  have:=hks k h2
  rw[hn] at this
  simpa using this
 n:=h.n.trans hD.n.symm
 nx:=Nat.le_trans h.nx hD.nx
 ext:=by
  cases hp:p.nw with
  | true=>exact h.ext.trans (hx hp)
  | false=>exact h.nw hp W1
 nw:=h.nw
 dst:=fun d hd'=>by
  obtain⟨s',h1,h2⟩:=h.dst d hd'
  exact⟨s',(hT d (.inr hd')).trans h1,h2⟩
theorem Er7.step {ops:Array Oper} {st st1:SS} {W W1:PW} {β β1:Nat→Nat} {σ σ1:Nat→Value} {p:Cq8} {o:Oper} {s:SV} {sp:SS} {Wi:PW} (h:Er7 P ops st W β σ p o s sp Wi)
  {oj:Oper} (hD:Ah1 st st1) (hag: ∀k,k<st.nx→β1 k=β k∧σ1 k=σ k) (hT: ∀t,¬oj.dst=some t→look st1.T t=look st.T t) (hd: ∀d,oj.dst=some d→¬d∈Af2 ops o∧¬o.dst=some d)
  (hks: ∀k,k∈p.ks→¬k∈st1.D.take (Nat.sub st1.D.length st.D.length)) (hnC: ∀k b,look st.C k=some b→k<st.nx) (hx:p.nw=true→Ext W W1):Er7 P ops st1 W1 β1 σ1 p o s sp Wi:=
 h.stepT hD hag (fun t ht=>hT t fun e=>ht.elim (hd t e).1 (hd t e).2) hks hnC hx
structure Lag (P:Program) (tt:List (Nat×TyI)) (ops:Array Oper) (listed:Array Bool) (L:List Nat) (pd:List Cq8) (qa:QA) (st:SS) (W:PW) (β:Nat→Nat) (σ:Nat→Value) (a a':Act):Prop where
 sz:listed.size=ops.size
 sub: ∀i o,ops[i]?=some o→listed.getD i false=true→i∈L
 pend: ∀i o,ops[i]?=some o→i∈L→listed.getD i false=false→(∃p,p∈pd∧p.i=i)∨∃q,q∈qa∧q.1=i
 prom: ∀p,p∈pd→∃o s sp Wi,Er7 P ops st W β σ p o s sp Wi
 closed: ∀i o,ops[i]?=some o→i∈L→∀j,j∈Ac2 o→j∈L
 inL: ∀p,p∈pd→p.i∈L
 inQ: ∀q,q∈qa→q.1∈L
 eag: ∀q,q∈qa→∃o t i,ops[q.1]?=some o∧Fb0 ops q.1 o=true∧o.op = .alloc t∧o.guard=none∧o.dst=some q.2.1∧look tt t=some i∧q.2.2=i.zv.cells.toList
 lt: ∀q,q∈qa→q.2.1<st.n
 nd:(qa.map (·.1)).Nodup
 dd:(qa.map (·.2.1)).Nodup
 size:a.tmps.size=a'.tmps.size
 defers:a.defers=a'.defers
 agr: ∀t,(∀i o,ops[i]?=some o→i∈L→listed.getD i false=false→¬o.dst=some t)→(∀q,q∈qa→¬q.2.1=t)→a.tmps[t]?=a'.tmps[t]?
theorem Bc8 {ops:Array Oper} {i j:Nat} {o oj:Oper} {d:Nat} (h:Fb0 ops i o=true) (hd:o.dst=some d) (hj:ops[j]?=some oj) (hne:i≠j):
  ¬oj.dst=some d∧(isVal ops j oj=true→¬d∈Af2 ops oj)∧(¬i∈Ac2 oj→¬d∈Af2 ops oj∧Fg8 oj.op=true):=by
 unfold Fb0 at h
 simp only[hd,Bool.and_eq_true] at h
 have:=Aw5 h.2 (i:=j) (o:=oj) (by simpa using hj)
 simp only[Nat.zero_add,Bool.or_eq_true,Bool.and_eq_true,Bool.not_eq_true'] at this
 rcases this with h1 | ⟨h1,h2,h3⟩
 ·exact absurd (Nat.eq_of_beq_eq_true h1) hne
 ·refine⟨fun e=>(by simp[Et2,e] at h1),fun hv hl=>?_,fun hm=>⟨fun hl=>?_,h3.resolve_left fun h=>hm (Ad9.1 h)⟩⟩
  ·rcases h2 with h2 | h2
   ·rw[Ad9.2 hl] at h2;cases h2
   ·rw[hv] at h2;cases h2.1
  ·rcases h2 with h2 | h2
   ·rw[Ad9.2 hl] at h2;cases h2
   ·exact hm (Ad9.1 h2.2)
theorem Dp0 {ops:Array Oper} {i:Nat} {o:Oper} {t:TypeId} (h:o.op = .alloc t):isVal ops i o=false:=by
 unfold isVal
 rw[h]
 rfl
structure Bo0 (W0:PW) (listed:Array Bool) (qa:QA) (st:SS) (β:Nat→Nat) (σ:Nat→Value) (γ:Nat→Nat) (a:Act) (Wa:PW):Prop where
 blk: ∀q,q∈qa→listed.getD q.1 false=true→a.tmps.getD q.2.1 undef = .pointer (some ⟨γ q.1,0,none⟩)∧(∃t,Wa.w.heap[γ q.1]?=some (.cells q.2.2.toArray t (0,0)))∧Wa.S (γ q.1)∧W0.w.heap.size≤γ q.1∧Ax6 st β σ (γ q.1)
 inj: ∀q q',q∈qa→q'∈qa→listed.getD q.1 false=true→listed.getD q'.1 false=true→γ q.1=γ q'.1→q=q'
theorem Cv8 {W:PW} {γ:Nat→Nat} {Wa:PW} : ∀(qs:QA) {st:SS} {β:Nat→Nat} {σ:Nat→Value} {a':Act} (_:Run W0 M st W β σ a' Wa) (_: ∀q,q∈qs→q.2.1<st.n)
  (_: ∀q,q∈qs→(∃t,Wa.w.heap[γ q.1]?=some (.cells q.2.2.toArray t (0,0)))∧Wa.S (γ q.1)∧W0.w.heap.size≤γ q.1∧Ax6 st β σ (γ q.1)) (_:(qs.map fun q=>γ q.1).Nodup) (_:(qs.map (·.2.1)).Nodup),
  ∃β' σ' a2,Run W0 M (Dk4 qs st) W β' σ' a2 Wa∧Ah1 st (Dk4 qs st)∧(∀k,k<st.nx→β' k=β k∧σ' k=σ k)∧(Dk4 qs st).D=st.D∧(∀t,(∀q,q∈qs→¬q.2.1=t)→look (Dk4 qs st).T t=look st.T t∧a2.tmps[t]?=a'.tmps[t]?)∧
   (∀q,q∈qs→a2.tmps.getD q.2.1 undef = .pointer (some ⟨γ q.1,0,none⟩))∧a2.tmps.size=a'.tmps.size∧a2.defers=a'.defers∧(∀g,(∀q,q∈qs→¬γ q.1=g)→Ax6 st β σ g→Ax6 (Dk4 qs st) β' σ' g)
 | [],st,β,σ,a',hR,_,_,_,_=>⟨β,σ,a',hR,Ah1.refl _,Ab2,rfl,fun _ _=>⟨rfl,rfl⟩,fun q hq=>(by cases hq),rfl,rfl,fun _ _ h=>h⟩
 | (i,d,cs) :: r,st,β,σ,a',hR,hlt,hb,hg,hd=>by
  obtain⟨h1,h2,h3,h4⟩:=hb _ (List.mem_cons_self ..)
  simp only[List.map_cons,List.nodup_cons,List.mem_map,not_exists,not_and] at hg hd
  obtain⟨hR1,hD1,ha1⟩:=hR.Ex3 h1 h2 h3 h4
  have hR2:=hR1.Fk3 (d:=d) (s:=.p st.nx 0) (hlt _ (List.mem_cons_self ..)) (Nat.lt_succ_self _) (v:=.pointer (some ⟨γ i,0,none⟩)) (by simp[SV.val,upd])
  have hfree: ∀g,¬γ i=g→Ax6 st β σ g→Ax6 (Fo6 d cs st) (upd β st.nx (γ i)) (upd σ st.nx undef) g:=fun g hne hf=>Ds1 hR hf (by simp only[Ab8,upd,if_true,ne_eq,Option.some.injEq];exact hne)
  obtain⟨β',σ',a2,k1,k2,k3,k4,k5,k6,k7,k8,k9⟩:=Cv8 (γ:=γ) r (st:=Fo6 d cs st) hR2 (fun q hq=>hlt q (List.mem_cons_of_mem _ hq)) (fun q hq=>by
   obtain⟨g1,g2,g3,g4⟩:=hb q (List.mem_cons_of_mem _ hq)
   exact⟨g1,g2,g3,hfree _ (fun e=>hg.1 q hq e.symm) g4⟩) hg.2 hd.2
  have hsz:d<a'.tmps.size:=by rw[hR.rel.size];exact hlt _ (List.mem_cons_self ..)
  refine⟨β',σ',a2,k1,(hD1.trans (Ct7 _ _)).trans k2,fun k hk=>⟨(k3 k (Nat.lt_succ_of_lt hk)).1.trans (ha1 k hk).1,(k3 k (Nat.lt_succ_of_lt hk)).2.trans (ha1 k hk).2⟩,k4,fun t ht=>?_,fun q hq=>?_,k7.trans (by simp[Act.put]),k8.trans rfl,fun g hg' hf=>k9 g (fun q hq=>hg' q (List.mem_cons_of_mem _ hq)) (hfree g (hg' _ (List.mem_cons_self ..)) hf)⟩
  ·obtain⟨e1,e2⟩:=k5 t fun q hq=>ht q (List.mem_cons_of_mem _ hq)
   have hne:¬d=t:=ht _ (List.mem_cons_self ..)
   refine⟨e1.trans ?_,e2.trans ?_⟩
   ·simp only[Fo6,Ab4]
    rw[if_neg hne]
    try rfl
   ·simp only[Act.put]
    rw[Array.getElem?_setIfInBounds_ne hne]
  ·rcases List.mem_cons.1 hq with rfl | hq
   ·have e:=(k5 d fun q hq=>hd.1 q hq).2
    simp only[Act.put] at e
    rw[Array.getElem?_setIfInBounds_self_of_lt hsz] at e
    rw[Array.getD_eq_getD_getElem?,e]
    rfl
   ·exact k6 q hq
theorem Bs8 {ops:Array Oper} {i j:Nat} {o oj:Oper} (h:isVal ops i o=true) (hj:ops[j]?=some oj) (hne:i≠j) {d:Nat} (hd:o.dst=some d):
  ¬oj.dst=some d∧(d∈Af2 ops oj→i∈Ac2 oj):=by
 unfold isVal at h
 simp only[hd,Bool.and_eq_true] at h
 have:=Aw5 h.2.2 (i:=j) (o:=oj) (by simpa using hj)
 simp only[Nat.zero_add,Bool.or_eq_true,Bool.and_eq_true,Bool.not_eq_true'] at this
 rcases this with h1 | ⟨h1,h2⟩
 ·exact absurd (Nat.eq_of_beq_eq_true h1) hne
 ·refine⟨fun e=>?_,fun hm=>?_⟩
  ·simp[Et2,e] at h1
  ·rcases h2 with h2 | h2
   ·rw[Ad9.2 hm] at h2;cases h2
   ·exact Ad9.1 h2
theorem Dp7 {ops:Array Oper} {i:Nat} {o:Oper} (h:isVal ops i o=true) {d:Nat} (hd:o.dst=some d):¬d∈Af2 ops o:=by
 unfold isVal at h
 simp only[hd,Bool.and_eq_true] at h
 intro hm
 have:=h.2.1
 rw[Ad9.2 hm] at this
 cases this
structure Ce7 (ops:Array Oper):Prop where
 sel: ∀(j:Nat) (o:Oper) cs b,ops[j]?=some o→o.op≠.select cs b
 back: ∀i o,ops[i]?=some o→∀j,j∈Ac2 o→j<i
 war: ∀i o j oj,ops[i]?=some o→ops[j]?=some oj→i≠j→isVal ops i o=true→∀d,oj.dst=some d→d∈Af2 ops o→j∈Ac2 o∨i∈Ac2 oj
theorem Dl1 {ops:Array Oper} (h:Dq0 ops=true):Ce7 ops:=by
 unfold Dq0 at h
 rw[Bool.and_eq_true] at h
 have key: ∀{i o},ops[i]?=some o→_:=fun {i o} ho=>Aw5 h.2 (i:=i) (o:=o) (by simpa using ho)
 refine⟨fun j o cs b ho he=>by have:=List.all_eq_true.1 h.1 o (List.mem_of_getElem? (i:=j) (by simpa using ho));simp[Fn1,he] at this,fun i o ho j hj=>?_,fun i o j oj ho hoj hne hv d hd hm=>?_⟩
 ·have:=key ho
  simp only[Bool.and_eq_true,Nat.zero_add] at this
  exact Nat.le_of_ble_eq_true (List.all_eq_true.1 this.1 j hj)
 ·have:=key ho
  simp only[Bool.and_eq_true,Nat.zero_add,Bool.or_eq_true,Bool.not_eq_true',hv] at this
  rcases this.2 with h1 | h1
  ·cases h1
  have:=Aw5 h1 (i:=j) (o:=oj) (by simpa using hoj)
  simp only[Nat.zero_add,Bool.or_eq_true,hd,Bool.not_eq_true'] at this
  rcases this with h2 | (h2 | h2) | h2
  ·exact absurd (Nat.eq_of_beq_eq_true h2) hne
  ·rw[Ad9.2 hm] at h2;cases h2
  ·exact .inl (Ad9.1 h2)
  ·exact .inr (Ad9.1 h2)
theorem Be7 (o:Oper) (ls:List Nat) (st:SS):(Av2 o ls st).n=st.n∧(Av2 o ls st).nx=st.nx:=by
 unfold Av2
 split<;>exact⟨rfl,rfl⟩
theorem Ci4 {o:Oper} {ls:List Nat} {st:SS} {t:Nat} {x:SV} (h:look (Av2 o ls st).T t=some x):look st.T t=some x∧t∈ls:=by
 have h':look (st.T.filter fun p=>mem ls p.1) t=some x:=by
  unfold Av2 at h
  split at h<;>exact h
 obtain⟨h1,h2⟩:=Ar2 h'
 exact⟨h1,Ad9.1 h2⟩
theorem Bo7 {o:Oper} {ls:List Nat} {st:SS} {k:Nat} {b:Blk} (h:look (Av2 o ls st).C k=some b):look st.C k=some b∧k∈Fb1 o ls st:=by
 unfold Av2 at h
 unfold Fb1
 cases he:Fr1 st o with
 | true=>rw[he] at h;simp[look] at h
 | false=>
  rw[he] at h
  obtain⟨h1,h2⟩:=Ar2 h
  exact⟨h1,Ad9.1 h2⟩
theorem Lag.value {ops:Array Oper} (hok:Ce7 ops) {listed:Array Bool} {L:List Nat} {pd:List Cq8} {qa:QA} {st:SS} {W:PW} {β:Nat→Nat} {σ:Nat→Value} {a a':Act} (h:Lag P tt ops listed L pd qa st W β σ a a')
  {i:Nat} {o:Oper} (ho:ops[i]?=some o) (hL:¬i∈L) (hpr: ∀j,j∈Ac2 o→j∈L) (hv:isVal ops i o=true) {Wa:PW} (hR:Run W0 M st W β σ a' Wa)
  {s:SV} {b:Bool} (hs: ∀β σ a Wa,Rel β σ (Av2 o (Af2 ops o) st) a Wa→Ext (Fo0 b W) Wa→Yld P ops o a Wa.w (s.val β σ))
  {st1:SS} (hD:Ah1 st st1) (hC:st1.C=st.C) (hnx:st1.nx=st.nx) (hn:st1.n=st.n) (hDD:st1.D=st.D) (hT: ∀t,¬o.dst=some t→look st1.T t=look st.T t) (hd: ∀d,o.dst=some d→∃s',look st1.T d=some s'∧∀β σ,s'.val β σ=s.val β σ):
  Lag P tt ops listed (i :: L) (⟨i,Fb1 o (Af2 ops o) st,b⟩ :: pd) qa st1 W β σ a (a'.put o.dst (s.val β σ)):=by
 have hun:listed.getD i false=false:=by
  cases hb:listed.getD i false with
  | false=>rfl
  | true=>exact absurd (h.sub i o ho hb) hL
 have hne: ∀p,p∈pd→i≠p.i:=fun p hp e=>hL (e ▸ h.inL p hp)
 refine⟨h.sz,fun j oj hj hl=>List.mem_cons_of_mem _ (h.sub j oj hj hl),fun j oj hj hl hu=>?_,fun p hp=>?_,fun j oj hj hl k hk=>?_,fun p hp=>?_,fun q hq=>List.mem_cons_of_mem _ (h.inQ q hq),h.eag,fun q hq=>hn ▸ h.lt q hq,h.nd,h.dd,h.size.trans ?_,h.defers.trans ?_,fun t ht htq=>?_⟩
 ·rcases List.mem_cons.1 hl with rfl | hl
  ·exact .inl ⟨_,List.mem_cons_self ..,rfl⟩
  ·rcases h.pend j oj hj hl hu with⟨p,hp,he⟩ | hq
   ·exact .inl ⟨p,List.mem_cons_of_mem _ hp,he⟩
   ·exact .inr hq
 ·rcases List.mem_cons.1 hp with rfl | hp
  ·refine⟨o,s,Av2 o (Af2 ops o) st,Fo0 b W,ho,hv,hs,fun t x ht=>?_,fun k bl hk=>?_,(Be7 o (Af2 ops o) st).1.trans hn.symm,Nat.le_of_eq ((Be7 o (Af2 ops o) st).2.trans hnx.symm),Dp2 (Ext.refl W),fun hb W'=>by(simp only at hb;subst hb;exact Dr6 W W'),hd⟩
   ·obtain⟨h1,h2⟩:=Ci4 ht
    rw[(Be7 o (Af2 ops o) st).2]
    exact⟨(hT t fun e=>Dp7 hv e h2).trans h1,h2,(hR.rel.T t x h1).2⟩
   ·obtain⟨h1,h2⟩:=Bo7 hk
    exact⟨hC ▸ h1,h2⟩
  ·obtain⟨o',s',sp,Wi,hP⟩:=h.prom p hp
   refine⟨o',s',sp,Wi,hP.step (oj:=o) hD (fun _ _=>⟨rfl,rfl⟩) hT (fun d hd'=>?_) (fun k _ hk=>?_) (fun k b hk=>hR.nC k b hk) (fun _=>Ext.refl W)⟩
   ·have:=Bs8 hv hP.op (hne p hp) hd'
    exact⟨fun hm=>hL (h.closed p.i o' hP.op (h.inL p hp) i (this.2 hm)),this.1⟩
   ·rw[hDD,show Nat.sub st.D.length st.D.length=0 from Nat.sub_self _] at hk;cases hk
 ·rcases List.mem_cons.1 hl with rfl | hl
  ·rw[ho] at hj;cases hj
   exact List.mem_cons_of_mem _ (hpr k hk)
  ·exact List.mem_cons_of_mem _ (h.closed j oj hj hl k hk)
 ·rcases List.mem_cons.1 hp with rfl | hp
  ·exact List.mem_cons_self ..
  ·exact List.mem_cons_of_mem _ (h.inL p hp)
 ·cases o.dst<;>simp[Act.put]
 ·cases o.dst<;>rfl
 ·rw[h.agr t (fun j oj hj hl hu=>ht j oj hj (List.mem_cons_of_mem _ hl) hu) htq]
  have:=ht i o ho (List.mem_cons_self ..) hun
  cases hd':o.dst with
  | none=>rfl
  | some d=>
   simp only[Act.put]
   rw[Array.getElem?_setIfInBounds_ne]
   intro e
   exact this (by rw[hd',e])
theorem Lag.eager {ops:Array Oper} {listed:Array Bool} {L:List Nat} {pd:List Cq8} {qa:QA} {st:SS} {W:PW} {β:Nat→Nat} {σ:Nat→Value} {a a':Act} (h:Lag P tt ops listed L pd qa st W β σ a a')
  {i d:Nat} {o:Oper} {cs:List Value} (ho:ops[i]?=some o) (hL:¬i∈L) (hpr: ∀j,j∈Ac2 o→j∈L) (he:Fb0 ops i o=true) (hx:Fq0 tt st o=some (d,cs)):Lag P tt ops listed (i :: L) pd ((i,d,cs) :: qa) st W β σ a a':=by
 have hal: ∃t ti,o.op = .alloc t∧o.guard=none∧o.dst=some d∧look tt t=some ti∧cs=ti.zv.cells.toList∧d<st.n:=by
  have h1:Fr3 o=true:=by
   unfold Fb0 at he
   rw[Bool.and_eq_true] at he
   exact he.1
  unfold Fr3 at h1
  unfold Fq0 at hx
  split at hx
  ·rename_i t d' hop hdst
   split at hx
   ·rename_i ti hti hb
    simp only[Option.some.injEq,Prod.mk.injEq] at hx
    obtain⟨rfl,rfl⟩:=hx
    split at h1
    ·rename_i hg _
     exact⟨t,ti,hop,hg,hdst,hti,rfl,Nat.le_of_ble_eq_true hb⟩
    ·cases h1
   ·cases hx
  ·cases hx
 obtain⟨t,ti,hop,hg,hd,hti,hcs,hlt⟩:=hal
 refine⟨h.sz,fun j oj hj hl=>List.mem_cons_of_mem _ (h.sub j oj hj hl),fun j oj hj hl hu=>?_,h.prom,fun j oj hj hl k hk=>?_,fun p hp=>List.mem_cons_of_mem _ (h.inL p hp),fun q hq=>?_,fun q hq=>?_,fun q hq=>?_,?_,?_,h.size,h.defers,fun t' ht htq=>h.agr t' (fun j oj hj hl hu=>ht j oj hj (List.mem_cons_of_mem _ hl) hu) fun q hq=>htq q (List.mem_cons_of_mem _ hq)⟩
 ·rcases List.mem_cons.1 hl with rfl | hl
  ·exact .inr ⟨_,List.mem_cons_self ..,rfl⟩
  ·rcases h.pend j oj hj hl hu with hp | ⟨q,hq,e⟩
   ·exact .inl hp
   ·exact .inr ⟨q,List.mem_cons_of_mem _ hq,e⟩
 ·rcases List.mem_cons.1 hl with rfl | hl
  ·rw[ho] at hj;cases hj
   exact List.mem_cons_of_mem _ (hpr k hk)
  ·exact List.mem_cons_of_mem _ (h.closed j oj hj hl k hk)
 ·rcases List.mem_cons.1 hq with rfl | hq
  ·exact List.mem_cons_self ..
  ·exact List.mem_cons_of_mem _ (h.inQ q hq)
 ·rcases List.mem_cons.1 hq with rfl | hq
  ·exact⟨o,t,ti,ho,he,hop,hg,hd,hti,hcs⟩
  ·exact h.eag q hq
 ·rcases List.mem_cons.1 hq with rfl | hq
  ·exact hlt
  ·exact h.lt q hq
 ·simp only[List.map_cons,List.nodup_cons,List.mem_map,not_exists,not_and]
  exact⟨fun q hq e=>hL (e ▸ h.inQ q hq),h.nd⟩
 ·simp only[List.map_cons,List.nodup_cons,List.mem_map,not_exists,not_and]
  refine⟨fun q hq e=>?_,h.dd⟩
  obtain⟨oq,_,_,hoq,heq,_,_,hdq,_⟩:=h.eag q hq
  exact(Bc8 heq hdq ho fun e=>hL (e ▸ h.inQ q hq)).1 (by rw[hd,e])
theorem Bo0.C {listed:Array Bool} {qa:QA} {st st1:SS} {β:Nat→Nat} {σ:Nat→Value} {γ:Nat→Nat} {a:Act} {Wa:PW} (h:Bo0 W0 listed qa st β σ γ a Wa) (hC:st1.C=st.C):Bo0 W0 listed qa st1 β σ γ a Wa:=
 ⟨fun q hq hl=>let⟨h1,h2,h3,h4,h5⟩:=h.blk q hq hl;⟨h1,h2,h3,h4,fun k bl hk=>h5 k bl (hC ▸ hk)⟩,h.inj⟩
theorem advance (hT:Ac6 P tt) (hF:Ae7 tt) {ops:Array Oper} (hok:Ce7 ops) {listed:Array Bool} {K:SS→PW→Prop} {γ:Nat→Nat} : ∀(n:Nat) {L:List Nat} {pd:List Cq8} {qa:QA} {st:SS} {W:PW}
  (_:Dp9 P tt W0 M ops n L pd qa st W K) {β:Nat→Nat} {σ:Nat→Value} {a a':Act} {Wa:PW} (_:Lag P tt ops listed L pd qa st W β σ a a') (_:Bo0 W0 listed qa st β σ γ a Wa) (_:Run W0 M st W β σ a' Wa),
  ∃n' L' pd' qa' st' a2,Dp9 P tt W0 M ops (n'+1) L' pd' qa' st' W K∧Lag P tt ops listed L' pd' qa' st' W β σ a a2∧Bo0 W0 listed qa' st' β σ γ a Wa∧Run W0 M st' W β σ a2 Wa∧Ah1 st st'∧(∀i,¬i∈ops.toList.flatMap Av0→a2.tmps.getD i undef=a'.tmps.getD i undef)∧
   Bm0 (fun i o=>Ak4 ops L' i o && (isVal ops i o && Ez5 st' o)) 0 ops.toList=none∧Bm0 (fun i o=>Ak4 ops L' i o && Fb0 ops i o) 0 ops.toList=none
 | 0,L,pd,qa,st,W,h,β,σ,a,a',Wa,hL,hEa,hR=>h.elim
 | n+1,L,pd,qa,st,W,h,β,σ,a,a',Wa,hL,hEa,hR=>by
  cases hf:Bm0 (fun i o=>Ak4 ops L i o && (isVal ops i o && Ez5 st o)) 0 ops.toList with
  | none=>
   cases hf2:Bm0 (fun i o=>Ak4 ops L i o && Fb0 ops i o) 0 ops.toList with
   | none=>exact⟨n,L,pd,qa,st,a',h,hL,hEa,hR,Ah1.refl _,fun _ _=>rfl,hf,hf2⟩
   | some x=>
    obtain⟨i,o⟩:=x
    rw[Dp9,hf,hf2] at h
    simp only at h
    obtain⟨k,hk,hko,hp⟩:=Bi3 hf2
    obtain rfl:i=k:=by omega
    have ho:ops[i]?=some o:=by simpa using hko
    simp only[Bool.and_eq_true,Ak4,Bool.not_eq_true'] at hp
    obtain⟨⟨hnL,hpr⟩,he⟩:=hp
    have hnL:¬i∈L:=fun hm=>by rw[Ad9.2 hm] at hnL;cases hnL
    have hpr: ∀j,j∈Ac2 o→j∈L:=fun j hj=>Ad9.1 (List.all_eq_true.1 hpr j hj)
    split at h
    ·rename_i x hx
     obtain⟨d,cs⟩:=x
     have hl: ∀q,q∈(i,d,cs) :: qa→listed.getD q.1 false=true→q∈qa:=fun q hq hl=>by
      rcases List.mem_cons.1 hq with rfl | hq
      ·exact absurd (hL.sub i o ho hl) hnL
      ·exact hq
     exact advance hT hF hok n h (hL.eager ho hnL hpr he hx) ⟨fun q hq h1=>hEa.blk q (hl q hq h1) h1,fun q q' hq hq' h1 h2 e=>hEa.inj q q' (hl q hq h1) (hl q' hq' h2) h1 h2 e⟩ hR
    ·exact h.elim
  | some x=>
   obtain⟨i,o⟩:=x
   rw[Dp9,hf] at h
   simp only at h
   obtain⟨k,hk,hko,hp⟩:=Bi3 hf
   obtain rfl:i=k:=by omega
   have ho:ops[i]?=some o:=by simpa using hko
   simp only[Bool.and_eq_true,Ak4,Bool.not_eq_true'] at hp
   obtain⟨⟨hnL,hpr⟩,hv,_⟩:=hp
   have hnL:¬i∈L:=fun hm=>by rw[Ad9.2 hm] at hnL;cases hnL
   have hpr: ∀j,j∈Ac2 o→j∈L:=fun j hj=>Ad9.1 (List.all_eq_true.1 hpr j hj)
   obtain⟨s,hK,hs⟩:=De6 hT hF (P:=P) h
   have hRp:Rel β σ (Av2 o (Af2 ops o) st) a' Wa:=by
    have hn:=Be7 o (Af2 ops o) st
    refine⟨hR.rel.defers,hR.rel.size.trans hn.1.symm,fun i x hi=>hn.2.symm ▸ hR.rel.T i x (Ci4 hi).1,fun k b hk=>hR.rel.C k b (Bo7 hk).1,fun k k' b b' g hne h1 h2=>hR.rel.inj k k' b b' g hne (Bo7 h1).1 (Bo7 h2).1,fun i x hi=>hn.1.symm ▸ hR.rel.dom i x (Ci4 hi).1⟩
   have hso:Az7 st.nx β σ s:=(Be7 o (Af2 ops o) st).2 ▸ (hs β σ a' Wa hRp (Dp2 hR.ext)).2
   obtain⟨st1,hK1,hR1,hD1,htm,hC,hnx,hn,hDD,hT1,hd1⟩:=Ay4 hK hR hso
   have hL1:=hL.value hok ho hnL hpr hv hR (fun β σ a Wa h1 h2=>(hs β σ a Wa h1 h2).1) hD1 hC hnx hn hDD hT1 hd1
   obtain⟨n',L',pd',qa',st',a2,h1,h2,h2',h3,h4,h5,h6⟩:=advance hT hF hok n hK1 hL1 (hEa.C hC) hR1
   refine⟨n',L',pd',qa',st',a2,h1,h2,h2',h3,hD1.trans h4,fun j hj=>(h5 j hj).trans (htm j fun hm=>hj ?_),h6⟩
   exact List.mem_flatMap.2 ⟨o,List.mem_of_getElem? hko,hm⟩
theorem Bx8 {l:Array Bool} {i:Nat} (h:i<l.size):l.getD i true=l.getD i false:=by simp[Array.getD,h]
theorem Dq4 {p p':Nat→Bool} {i:Nat} (hp: ∀x,p' x=true→p x=true) (h1:p i=true) (h2:p' i=false): ∀{l:List Nat} (_:i∈l),(l.filter p').length<(l.filter p).length
 | x :: r,hi=>by
  have hle: ∀(l:List Nat),(l.filter p').length≤(l.filter p).length:=fun l=>by
   induction l with
   | nil=>exact Nat.le_refl _
   | cons y l ih=>
    simp only[List.filter_cons]
    by_cases hy:p' y=true
    ·simp[hy,hp y hy];exact ih
    ·by_cases hy2:p y=true
     ·simp[hy,hy2];omega
     ·simp[hy,hy2];exact ih
  simp only[List.filter_cons]
  rcases List.mem_cons.1 hi with rfl | hr
  ·simp[h1,h2];have:=hle r;omega
  ·have:=Dq4 hp h1 h2 hr
   by_cases hy:p' x=true
   ·simp[hy,hp x hy];exact this
   ·by_cases hy2:p x=true
    ·simp[hy,hy2];omega
    ·simp[hy,hy2];exact this
def unl (ops:Array Oper) (listed:Array Bool):Nat:=((List.range ops.size).filter fun i=>!(listed.getD i true)).length
theorem Ec3 {ops:Array Oper} (hok:Ce7 ops) {listed:Array Bool} (hs:listed.size=ops.size) (h:Region.ready .any ops listed = []): ∀i,i<ops.size→listed.getD i false=true:=by
 intro i
 induction i using Nat.strongRecOn with
 | ind i ih=>
  intro hi
  cases hb:listed.getD i false with
  | true=>rfl
  | false=>
   have ho:ops[i]?=some ops[i]:=by simp[hi]
   have:i∈Region.ready .any ops listed:=mem_ready.2 ⟨(Bx8 (hs ▸ hi)).trans hb,ops[i],ho,fun e he hbd=>ih e.on (hok.back i _ ho _ (Bw3.2 ⟨e,he,hbd,rfl⟩)) (Nat.lt_trans (hok.back i _ ho _ (Bw3.2 ⟨e,he,hbd,rfl⟩)) hi)⟩
   rw[h] at this
   cases this
theorem Fm3 {a a':Act} (h: ∀t:Nat,a.tmps[t]?=a'.tmps[t]?) (hd:a.defers=a'.defers):a=a':=by
 cases a;cases a'
 simp only[Act.mk.injEq]
 exact⟨Array.ext_getElem? h,hd⟩
theorem Aw1 {l:Array Bool} {i j:Nat} (hi:i<l.size):(l.setIfInBounds i true).getD j false=(if i=j then true else l.getD j false):=by
 by_cases h:i=j
 ·subst h;simp[Array.getD,hi]
 ·rw[if_neg h,getD_set_ne false h]
theorem Lag.looks {ops:Array Oper} {listed:Array Bool} {L:List Nat} {pd:List Cq8} {qa:QA} {st:SS} {W:PW} {β:Nat→Nat} {σ:Nat→Value} {a a':Act} (h:Lag P tt ops listed L pd qa st W β σ a a')
  {i:Nat} {o:Oper} (ho:ops[i]?=some o) (hun:listed.getD i false=false) (hpr: ∀j,j∈Ac2 o→listed.getD j false=true) (hq: ∀q,q∈qa→¬q.2.1∈Af2 ops o): ∀t,t∈Af2 ops o→a.tmps[t]?=a'.tmps[t]?:=by
 intro t ht
 refine h.agr t (fun j oj hj hl hu hd=>?_) fun q hq' e=>hq q hq' (e ▸ ht)
 rcases h.pend j oj hj hl hu with⟨p,hp,rfl⟩ | ⟨q,hq',rfl⟩
 ·obtain⟨o',s,sp,Wi,hP⟩:=h.prom p hp
  rw[hP.op] at hj
  cases hj
  by_cases hne:p.i=i
  ·subst hne
   have:=hP.op
   rw[ho] at this
   cases this
   exact Dp7 hP.val hd ht
  ·have:=hpr _ ((Bs8 hP.val ho hne hd).2 ht)
   rw[hu] at this
   cases this
 ·obtain⟨oq,_,_,hoq,_,_,_,hdq,_⟩:=h.eag q hq'
  rw[hoq] at hj
  cases hj
  rw[hdq] at hd
  cases hd
  exact hq q hq' ht
theorem Bd2 {p:Nat→Oper→Bool} : ∀{l:List Oper} {n:Nat} (_: ∀k o,l[k]?=some o→p (n+k) o=false),Cu6 p n l = []∧Bm0 p n l=none
 | [],n,h=>⟨rfl,rfl⟩
 | x :: r,n,h=>by
  have h0:=h 0 x rfl
  have:=Bd2 (p:=p) (l:=r) (n:=n.succ) fun k o hk=>by rw[show n.succ+k=n+(k+1) by omega];exact h (k+1) o (by simpa using hk)
  simp only[Nat.add_zero] at h0
  simp only[Cu6,Bm0,h0,this,and_self]
theorem Dp4 {α β:Type} {f:α→β} : ∀{l:List α},l.Nodup→(∀x y,x∈l→y∈l→f x=f y→x=y)→(l.map f).Nodup
 | [],_,_=>List.nodup_nil
 | x :: r,hn,h=>by
  rw[List.nodup_cons] at hn
  rw[List.map_cons,List.nodup_cons]
  refine⟨fun hm=>?_,Dp4 hn.2 fun a b ha hb=>h a b (List.mem_cons_of_mem _ ha) (List.mem_cons_of_mem _ hb)⟩
  obtain⟨y,hy,e⟩:=List.mem_map.1 hm
  exact hn.1 (h x y (List.mem_cons_self ..) (List.mem_cons_of_mem _ hy) e.symm ▸ hy)
theorem Bj9 {α β:Type} {f:α→β} : ∀{l:List α},(l.map f).Nodup→l.Nodup
 | [],_=>List.nodup_nil
 | x :: r,h=>by
  rw[List.map_cons,List.nodup_cons] at h
  exact List.nodup_cons.2 ⟨fun hm=>h.1 (List.mem_map.2 ⟨x,hm,rfl⟩),Bj9 h.2⟩
theorem Aw2 {α β:Type} {f:α→β} : ∀{l:List α} (_:(l.map f).Nodup) {x y:α} (_:x∈l) (_:y∈l),f x=f y→x=y
 | [],_,_,_,hx,_,_=>by cases hx
 | z :: r,hn,x,y,hx,hy,e=>by
  rw[List.map_cons,List.nodup_cons] at hn
  rcases List.mem_cons.1 hx with h1 | h1
  ·rcases List.mem_cons.1 hy with h2 | h2
   ·rw[h1,h2]
   ·exact(hn.1 (List.mem_map.2 ⟨y,h2,by rw[←e,h1]⟩)).elim
  ·rcases List.mem_cons.1 hy with h2 | h2
   ·exact(hn.1 (List.mem_map.2 ⟨x,h1,by rw[e,h2]⟩)).elim
   ·exact Aw2 hn.2 h1 h2 e
theorem Lag.mat {ops:Array Oper} {listed:Array Bool} {L:List Nat} {pd:List Cq8} {qa:QA} {st:SS} {W Wa:PW} {β:Nat→Nat} {σ:Nat→Value} {γ:Nat→Nat} {a a':Act} (h:Lag P tt ops listed L pd qa st W β σ a a') (hE:Bo0 W0 listed qa st β σ γ a Wa) (hR:Run W0 M st W β σ a' Wa)
  (p:Nat×Nat×List Value→Bool) (hp: ∀q,q∈qa→p q=true→listed.getD q.1 false=true):
  ∃β' σ' a2,Run W0 M (Dk4 (qa.filter p) st) W β' σ' a2 Wa∧Ah1 st (Dk4 (qa.filter p) st)∧(∀k,k<st.nx→β' k=β k∧σ' k=σ k)∧(Dk4 (qa.filter p) st).D=st.D∧
   Lag P tt ops listed L pd (qa.filter fun q=>!(p q)) (Dk4 (qa.filter p) st) W β' σ' a a2∧Bo0 W0 listed (qa.filter fun q=>!(p q)) (Dk4 (qa.filter p) st) β' σ' γ a Wa∧(∀i,¬i∈ops.toList.flatMap Av0→a2.tmps.getD i undef=a'.tmps.getD i undef):=by
 have hmem: ∀{q},q∈qa.filter p→q∈qa∧p q=true:=fun hq=>List.mem_filter.1 hq
 have hmem2: ∀{q},q∈qa.filter (fun q=>!(p q))→q∈qa∧¬p q=true:=fun hq=>by
  have:=List.mem_filter.1 hq
  exact⟨this.1,by simpa using this.2⟩
 have hq0:=Bj9 h.nd
 obtain⟨β',σ',a2,k1,k2,k3,k4,k5,k6,k7,k8,k9⟩:=Cv8 (γ:=γ) (qa.filter p) hR (fun q hq=>h.lt q (hmem hq).1) (fun q hq=>(hE.blk q (hmem hq).1 (hp q (hmem hq).1 (hmem hq).2)).2)
  (Dp4 (hq0.filter _) fun x y hx hy e=>hE.inj x y (hmem hx).1 (hmem hy).1 (hp x (hmem hx).1 (hmem hx).2) (hp y (hmem hy).1 (hmem hy).2) e) (h.dd.sublist (List.filter_sublist.map _))
 have hdst: ∀q,q∈qa→∃oq,ops[q.1]?=some oq∧oq.dst=some q.2.1:=fun q hq=>let⟨oq,_,_,h1,_,_,_,h2,_⟩:=h.eag q hq;⟨oq,h1,h2⟩
 refine⟨β',σ',a2,k1,k2,k3,k4,⟨h.sz,h.sub,fun j oj hj hl hu=>?_,fun p' hp'=>?_,h.closed,h.inL,fun q hq=>h.inQ q (hmem2 hq).1,fun q hq=>h.eag q (hmem2 hq).1,fun q hq=>k2.n ▸ h.lt q (hmem2 hq).1,h.nd.sublist (List.filter_sublist.map _),h.dd.sublist (List.filter_sublist.map _),h.size.trans k7.symm,h.defers.trans k8.symm,fun t ht htq=>?_⟩,⟨fun q hq hl=>?_,fun q q' hq hq'=>hE.inj q q' (hmem2 hq).1 (hmem2 hq').1⟩,fun i hi=>?_⟩
 ·rcases h.pend j oj hj hl hu with hp' | ⟨q,hq,rfl⟩
  ·exact .inl hp'
  ·by_cases hpq:p q=true
   ·rw[hp q hq hpq] at hu;cases hu
   ·exact .inr ⟨q,List.mem_filter.2 ⟨hq,by simpa using hpq⟩,rfl⟩
 ·obtain⟨o',s',sp,Wi,hP⟩:=h.prom p' hp'
  refine⟨o',s',sp,Wi,hP.stepT k2 k3 (fun t ht=>(k5 t fun q hq e=>?_).1) (fun k _ hm=>?_) (fun k b hk=>hR.nC k b hk) fun _=>Ext.refl W⟩
  ·obtain⟨oq,t',i',hoq,heq,hop,_,hdq,_⟩:=h.eag q (hmem hq).1
   have hne:¬q.1=p'.i:=fun e'=>by
    have h1:=hP.val
    have h2:=hP.op
    rw[←e',hoq] at h2
    cases h2
    rw[←e',Dp0 hop] at h1
    cases h1
   have hpr:=Bc8 heq hdq hP.op hne
   subst e
   rcases ht with ht | ht
   ·exact hpr.2.1 hP.val ht
   ·exact hpr.1 ht
  ·rw[k4,show Nat.sub st.D.length st.D.length=0 from Nat.sub_self _] at hm
   cases hm
 ·by_cases hin: ∃q,q∈qa.filter p∧q.2.1=t
  ·obtain⟨q,hq,rfl⟩:=hin
   have h1:=(hE.blk q (hmem hq).1 (hp q (hmem hq).1 (hmem hq).2)).1
   have h2:=k6 q hq
   have h3:q.2.1<a.tmps.size:=by rw[h.size,hR.rel.size];exact h.lt q (hmem hq).1
   have h4:q.2.1<a2.tmps.size:=by rw[k7,hR.rel.size];exact h.lt q (hmem hq).1
   rw[Array.getElem?_eq_getElem h3,Array.getElem?_eq_getElem h4]
   rw[Array.getD_eq_getD_getElem?,Array.getElem?_eq_getElem h3] at h1
   rw[Array.getD_eq_getD_getElem?,Array.getElem?_eq_getElem h4] at h2
   exact congrArg some (h1.trans h2.symm)
  ·rw[(k5 t fun q hq e=>hin ⟨q,hq,e⟩).2]
   refine h.agr t ht fun q hq e=>?_
   by_cases hpq:p q=true
   ·exact hin ⟨q,List.mem_filter.2 ⟨hq,hpq⟩,e⟩
   ·exact htq q (List.mem_filter.2 ⟨hq,by simpa using hpq⟩) e
 ·obtain⟨h1,h2,h3,h4,h5⟩:=hE.blk q (hmem2 hq).1 hl
  refine⟨h1,h2,h3,h4,k9 _ (fun q' hq' e=>?_) h5⟩
  have:=hE.inj q' q (hmem hq').1 (hmem2 hq).1 (hp q' (hmem hq').1 (hmem hq').2) hl e
  subst this
  exact(hmem2 hq).2 (hmem hq').2
 ·rw[Array.getD_eq_getD_getElem?,Array.getD_eq_getD_getElem?,(k5 i fun q hq e=>hi ?_).2]
  obtain⟨oq,hoq,hdq⟩:=hdst q (hmem hq).1
  exact List.mem_flatMap.2 ⟨oq,List.mem_of_getElem? (by simpa using hoq),by simp[Av0,hdq,e]⟩
theorem Dr5 (qa:QA):(qa.filter fun _=>true)=qa∧(qa.filter fun q=>!((fun _=>true:Nat×Nat×List Value→Bool) q)) = []:=by
 constructor
 ·exact List.filter_eq_self.2 fun _ _=>rfl
 ·simp
theorem Lag.done {ops:Array Oper} {listed:Array Bool} {L:List Nat} {pd:List Cq8} {qa:QA} {st:SS} {W Wa:PW} {β:Nat→Nat} {σ:Nat→Value} {γ:Nat→Nat} {a a':Act} (h:Lag P tt ops listed L pd qa st W β σ a a') (hE:Bo0 W0 listed qa st β σ γ a Wa) (hR:Run W0 M st W β σ a' Wa)
  (hall: ∀i,i<ops.size→listed.getD i false=true) {n:Nat} {K:SS→PW→Prop} (hs:Dp9 P tt W0 M ops n L pd qa st W K):Out W0 M st β σ a' (ops.toList.flatMap Av0) K a Wa.w:=by
 have hlt: ∀{i o},ops[i]?=some o→i<ops.size:=fun ho=>(Array.getElem?_eq_some_iff.1 ho).1
 have hin: ∀i o,ops.toList[i]?=some o→mem L (0+i)=true:=fun i o ho=>by
  have ho:ops[i]?=some o:=by simpa using ho
  rw[Nat.zero_add]
  exact Ad9.2 (h.sub i o ho (hall i (hlt ho)))
 have hrd: ∀i o,ops.toList[i]?=some o→Ak4 ops L (0+i) o=false:=fun i o ho=>by
  unfold Ak4
  rw[hin i o ho]
  rfl
 obtain⟨β',σ',a2,k1,k2,k3,_,k5,_,k7⟩:=h.mat hE hR (fun _=>true) fun q hq _=>let⟨oq,_,_,h1,_⟩:=h.eag q hq;hall _ (hlt h1)
 rw[(Dr5 qa).2] at k5
 rw[(Dr5 qa).1] at k1 k2
 have e:a=a2:=Fm3 (fun t=>k5.agr t (fun i o ho _ hu=>by rw[hall i (hlt ho)] at hu;cases hu) fun q hq=>by cases hq) k5.defers
 subst e
 cases n with
 | zero=>exact hs.elim
 | succ n=>
  rw[Dp9,(Bd2 (p:=fun i o=>Ak4 ops L i o && (isVal ops i o && Ez5 st o)) fun k o hk=>by simp only[hrd k o hk,Bool.false_and]).2,
   (Bd2 (p:=fun i o=>Ak4 ops L i o && Fb0 ops i o) fun k o hk=>by simp only[hrd k o hk,Bool.false_and]).2,
   (Bd2 (p:=Ak4 ops L) hrd).1] at hs
  exact⟨β',σ',_,W,Wa,rfl,k1,hs,k2,k3,k7⟩
theorem Lag.sync {ops:Array Oper} (hok:Ce7 ops) {listed:Array Bool} {L:List Nat} {pd:List Cq8} {qa:QA} {st:SS} {W:PW} {β:Nat→Nat} {σ:Nat→Value} {a a':Act} (h:Lag P tt ops listed L pd qa st W β σ a a')
  {i:Nat} {o:Oper} (ho:ops[i]?=some o) (hnL:¬i∈L) (hpr: ∀j,j∈Ac2 o→listed.getD j false=true) {st1:SS} {W1:PW} {β1:Nat→Nat} {σ1:Nat→Value} {v:Value} (hD:Ah1 st st1)
  (hag: ∀k,k<st.nx→β1 k=β k∧σ1 k=σ k) (hT: ∀t,¬o.dst=some t→look st1.T t=look st.T t) (hnC: ∀k b,look st.C k=some b→k<st.nx)
  (hcl:((pd.filter fun q=>!(mem (Ac2 o) q.i)).all fun q=>q.ks.all fun k=>!(mem (st1.D.take (Nat.sub st1.D.length st.D.length)) k))=true)
  (hx:((pd.filter fun q=>!(mem (Ac2 o) q.i)).any fun q=>q.nw)=true→Ext W W1):
  Lag P tt ops (listed.setIfInBounds i true) (i :: L) (pd.filter fun q=>!(mem (Ac2 o) q.i)) qa st1 W1 β1 σ1 (a.put o.dst v) (a'.put o.dst v):=by
 have hlt: ∀{i o},ops[i]?=some o→i<listed.size:=fun ho=>h.sz ▸ (Array.getElem?_eq_some_iff.1 ho).1
 have hfil: ∀{p},p∈pd.filter (fun q=>!(mem (Ac2 o) q.i))↔p∈pd∧¬p.i∈Ac2 o:=fun {p}=>by
  rw[List.mem_filter]
  simp only[Bool.not_eq_true',←Ad9,Bool.not_eq_true]
 have hnew: ∀{j},(listed.setIfInBounds i true).getD j false=(if i=j then true else listed.getD j false):=Aw1 (hlt ho)
 refine⟨by simp[h.sz],fun j oj hj hl=>?_,fun j oj hj hl hu=>?_,fun p hp=>?_,fun j oj hj hl k hk=>?_,fun p hp=>List.mem_cons_of_mem _ (h.inL p (hfil.1 hp).1),fun q hq=>List.mem_cons_of_mem _ (h.inQ q hq),h.eag,fun q hq=>hD.n ▸ h.lt q hq,h.nd,h.dd,?_,?_,fun t ht htq=>?_⟩
 ·rw[hnew] at hl
  split at hl
  ·rename_i he;exact he ▸ List.mem_cons_self ..
  ·exact List.mem_cons_of_mem _ (h.sub j oj hj hl)
 ·rw[hnew] at hu
  split at hu
  ·cases hu
  ·rename_i hne
   rcases List.mem_cons.1 hl with rfl | hl
   ·exact absurd rfl hne
   ·rcases h.pend j oj hj hl hu with⟨p,hp,rfl⟩ | hq
    ·exact .inl ⟨p,hfil.2 ⟨hp,fun hm=>by rw[hpr _ hm] at hu;cases hu⟩,rfl⟩
    ·exact .inr hq
 ·obtain⟨hp1,hp2⟩:=hfil.1 hp
  obtain⟨o',s,sp,Wi,hP⟩:=h.prom p hp1
  have hne:p.i≠i:=fun e=>hnL (e ▸ h.inL p hp1)
  refine⟨o',s,sp,Wi,hP.step (oj:=o) hD hag hT (fun d hd=>⟨fun hm=>?_,fun hd'=>(Bs8 hP.val ho hne hd').1 hd⟩) (fun k hk hm=>?_) hnC fun hn=>hx (List.any_eq_true.2 ⟨p,hp,hn⟩)⟩
  ·rcases hok.war p.i o' i o hP.op ho hne hP.val d hd hm with h1 | h1
   ·exact hnL (h.closed p.i o' hP.op (h.inL p hp1) i h1)
   ·exact hp2 h1
  ·have:=List.all_eq_true.1 (List.all_eq_true.1 hcl p hp) k hk
   rw[Ad9.2 hm] at this
   cases this
 ·rcases List.mem_cons.1 hl with rfl | hl
  ·rw[ho] at hj;cases hj
   have hki:=hok.back _ _ ho k hk
   have hk':k<ops.size:=Nat.lt_trans hki (Array.getElem?_eq_some_iff.1 ho).1
   exact List.mem_cons_of_mem _ (h.sub k ops[k] (by simp[hk']) (hpr k hk))
  ·exact List.mem_cons_of_mem _ (h.closed j oj hj hl k hk)
 ·have:=h.size
  cases o.dst<;>simp[Act.put,this]
 ·have:=h.defers
  cases o.dst<;>simp[Act.put,this]
 ·have hold:¬o.dst=some t→a.tmps[t]?=a'.tmps[t]?:=fun hd=>h.agr t (fun j oj hj hl hu=>by
   by_cases he:i=j
   ·subst he;exact absurd hl hnL
   ·exact ht j oj hj (List.mem_cons_of_mem _ hl) (by rw[hnew,if_neg he];exact hu)) htq
  cases hd:o.dst with
  | none=>rw[hd] at hold;exact hold (by simp)
  | some d=>
   simp only[Act.put,Array.getElem?_setIfInBounds,h.size]
   split
   ·rfl
   ·rename_i hne
    exact hold (by rw[hd];simpa using hne)
theorem Lag.Fw2 {ops:Array Oper} {listed:Array Bool} {L:List Nat} {pd:List Cq8} {qa:QA} {st:SS} {W Wa:PW} {β:Nat→Nat} {σ:Nat→Value} {a a':Act} (h:Lag P tt ops listed L pd qa st W β σ a a') (hR:Run W0 M st W β σ a' Wa)
  {i:Nat} {o:Oper} (ho:ops[i]?=some o) (hi:i∈L) {s:SV} (hdst: ∀d,o.dst=some d→∃s',look st.T d=some s'∧∀β σ,s'.val β σ=s.val β σ):
  Lag P tt ops (listed.setIfInBounds i true) L pd qa st W β σ (a.put o.dst (s.val β σ)) a':=by
 have hlt: ∀{i o},ops[i]?=some o→i<listed.size:=fun ho=>h.sz ▸ (Array.getElem?_eq_some_iff.1 ho).1
 have hnew: ∀{j},(listed.setIfInBounds i true).getD j false=(if i=j then true else listed.getD j false):=Aw1 (hlt ho)
 refine⟨by simp[h.sz],fun j oj hj hl=>?_,fun j oj hj hl hu=>?_,h.prom,h.closed,h.inL,h.inQ,h.eag,h.lt,h.nd,h.dd,?_,?_,fun t ht htq=>?_⟩
 ·rw[hnew] at hl
  split at hl
  ·rename_i he;exact he ▸ hi
  ·exact h.sub j oj hj hl
 ·rw[hnew] at hu
  split at hu
  ·cases hu
  ·exact h.pend j oj hj hl hu
 ·have:=h.size
  cases o.dst<;>simp[Act.put,this]
 ·have:=h.defers
  cases o.dst<;>simp[Act.put,this]
 ·have hold:¬o.dst=some t→a.tmps[t]?=a'.tmps[t]?:=fun hd=>h.agr t (fun j oj hj hl hu=>by
   by_cases he:i=j
   ·subst he;rw[ho] at hj;cases hj;exact hd
   ·exact ht j oj hj hl (by rw[hnew,if_neg he];exact hu)) htq
  cases hd:o.dst with
  | none=>rw[hd] at hold;exact hold (by simp)
  | some d=>
   simp only[Act.put,Array.getElem?_setIfInBounds]
   split
   ·rename_i he
    subst he
    obtain⟨s',h1,h2⟩:=hdst d hd
    obtain⟨h3,_⟩:=hR.rel.T d s' h1
    have hsz:d<a'.tmps.size:=by rw[hR.rel.size];exact hR.rel.dom d s' h1
    rw[if_pos (by rw[h.size];exact hsz),←h2,←h3]
    simp[Array.getD,hsz]
   ·rename_i hne
    exact hold (by rw[hd];simpa using hne)
theorem Lag.box {ops:Array Oper} {listed:Array Bool} {L:List Nat} {pd:List Cq8} {qa:QA} {st:SS} {W:PW} {β:Nat→Nat} {σ:Nat→Value} {a a':Act} (h:Lag P tt ops listed L pd qa st W β σ a a')
  {q:Nat×Nat×List Value} (hq:q∈qa) {o:Oper} (ho:ops[q.1]?=some o) (hd:o.dst=some q.2.1) (v:Value):Lag P tt ops (listed.setIfInBounds q.1 true) L pd qa st W β σ (a.put o.dst v) a':=by
 have hlt: ∀{i o},ops[i]?=some o→i<listed.size:=fun ho=>h.sz ▸ (Array.getElem?_eq_some_iff.1 ho).1
 have hnew: ∀{j},(listed.setIfInBounds q.1 true).getD j false=(if q.1=j then true else listed.getD j false):=Aw1 (hlt ho)
 refine⟨by simp[h.sz],fun j oj hj hl=>?_,fun j oj hj hl hu=>?_,h.prom,h.closed,h.inL,h.inQ,h.eag,h.lt,h.nd,h.dd,?_,?_,fun t ht htq=>?_⟩
 ·rw[hnew] at hl
  split at hl
  ·rename_i he;exact he ▸ h.inQ q hq
  ·exact h.sub j oj hj hl
 ·rw[hnew] at hu
  split at hu
  ·cases hu
  ·exact h.pend j oj hj hl hu
 ·have:=h.size
  cases o.dst<;>simp[Act.put,this]
 ·have:=h.defers
  cases o.dst<;>simp[Act.put,this]
 ·rw[hd]
  simp only[Act.put]
  rw[Array.getElem?_setIfInBounds_ne (htq q hq)]
  refine h.agr t (fun j oj hj hl hu=>?_) htq
  by_cases he:q.1=j
  ·subst he
   rw[ho] at hj;cases hj
   rw[hd]
   intro e
   exact htq q hq (Option.some.inj e)
  ·exact ht j oj hj hl (by rw[hnew,if_neg he];exact hu)
theorem Fl5 {ops:Array Oper} {listed:Array Bool} {i:Nat} {o:Oper} (hs:listed.size=ops.size) (ho:ops[i]?=some o) (h:listed.getD i true=false):unl ops (listed.setIfInBounds i true)<unl ops listed:=by
 have hlt:i<ops.size:=(Array.getElem?_eq_some_iff.1 ho).1
 refine Dq4 (i:=i) (fun x hx=>?_) (by rw[h];rfl) (by rw[Bx8 (by simp[hs,hlt]),Aw1 (hs ▸ hlt),if_pos rfl];rfl) (List.mem_range.2 hlt)
 by_cases he:i=x
 ·subst he;rw[h];rfl
 ·rw[getD_set_ne true he] at hx;exact hx
theorem Es9 (hT:Ac6 P tt) {o:Oper} {t:TypeId} {i:TyI} (ho:o.op = .alloc t) (hi:look tt t=some i) (a:Act) (w:World):(execOp a.eval o).run P w = .ok (.value (.pointer (some ⟨w.heap.size,0,none⟩))) (w.alloc (.cells i.zv.cells t)):=by
 have hg:=hT.Aq3 hi
 simp[execOp,ho,Instr.alloc,hg.zero,newVar,newRow]
theorem Dv0 (hT:Ac6 P tt) (hF:Ae7 tt) {ops:Array Oper} (hok:Ce7 ops) {Q:Exit→Act→World→Prop} {K:SS→PW→Prop} : ∀(fuel:Nat) (listed:Array Bool) {n:Nat} {L:List Nat} {pd:List Cq8} {qa:QA} {st:SS} {W:PW} {γ:Nat→Nat}
  (_:Dp9 P tt W0 M ops n L pd qa st W K) {β:Nat→Nat} {σ:Nat→Value} {a a':Act} {Wa:PW} (_:Lag P tt ops listed L pd qa st W β σ a a') (_:Bo0 W0 listed qa st β σ γ a Wa) (_:Run W0 M st W β σ a' Wa) (_:unl ops listed≤fuel)
  (_: ∀a2 w2,Out W0 M st β σ a' (ops.toList.flatMap Av0) K a2 w2→Q .normal a2 w2),wpAny P .any ops Q fuel listed a Wa.w:=by
 intro fuel
 induction fuel with
 | zero=>
  intro listed n L pd qa st W γ h β σ a a' Wa hL hEa hR hu hQ
  have hall: ∀i,i<ops.size→listed.getD i false=true:=by
   intro i hi
   cases hb:listed.getD i false with
   | true=>rfl
   | false=>
    have:i∈(List.range ops.size).filter fun i=>!(listed.getD i true):=by
     rw[List.mem_filter]
     exact⟨List.mem_range.2 hi,by rw[Bx8 (hL.sz ▸ hi),hb];rfl⟩
    have h0:unl ops listed=0:=Nat.le_zero.1 hu
    rw[unl,List.length_eq_zero_iff] at h0
    rw[h0] at this
    cases this
  have hr:Region.ready .any ops listed = []:=by
   cases hr:Region.ready .any ops listed with
   | nil=>rfl
   | cons x r=>
    have hx:x∈Region.ready .any ops listed:=hr ▸ List.mem_cons_self ..
    obtain⟨h1,o,ho,_⟩:=mem_ready.1 hx
    have hlt:x<ops.size:=(Array.getElem?_eq_some_iff.1 ho).1
    rw[Bx8 (hL.sz ▸ hlt),hall x hlt] at h1
    cases h1
  exact⟨hr,hQ _ _ (hL.done hEa hR hall h)⟩
 | succ fuel ih=>
  intro listed n L pd qa st W γ h β σ a a' Wa hL hEa hR hu hQ
  refine⟨fun hr=>hQ _ _ (hL.done hEa hR (Ec3 hok hL.sz hr) h),fun i hi=>?_⟩
  obtain⟨n',L',pd',qa',st',a2,h',hL',hEa',hR',hD',hfr,hnone,hnone2⟩:=advance hT hF hok n h hL hEa hR
  have hQ': ∀a3 w3,Out W0 M st' β σ a2 (ops.toList.flatMap Av0) K a3 w3→Q .normal a3 w3:=fun a3 w3 hO=>hQ _ _ (Out.of hD' Ab2 hfr (fun _ h=>h) (fun _ h=>h) (fun _ _ h=>h) hO)
  obtain⟨hun,o,ho,hall⟩:=mem_ready.1 hi
  have hlt:i<ops.size:=(Array.getElem?_eq_some_iff.1 ho).1
  have hun':listed.getD i false=false:=(Bx8 (hL.sz ▸ hlt)).symm.trans hun
  have hpr: ∀j,j∈Ac2 o→listed.getD j false=true:=fun j hj=>by
   obtain⟨e,he,hb,rfl⟩:=Bw3.1 hj
   exact hall e he hb
  have hcnt:unl ops (listed.setIfInBounds i true)≤fuel:=Nat.le_of_lt_succ (Nat.lt_of_lt_of_le (Fl5 hL.sz ho hun) hu)
  have hls:i<listed.size:=hL'.sz ▸ hlt
  have hnew: ∀{j},(listed.setIfInBounds i true).getD j false=(if i=j then true else listed.getD j false):=Aw1 hls
  by_cases hm:i∈L'
  ·rcases hL'.pend i o ho hm hun' with⟨p,hp,rfl⟩ | ⟨q,hq,rfl⟩
   ·obtain⟨o',s,sp,Wi,hP⟩:=hL'.prom p hp
    have:=hP.op
    rw[ho] at this
    cases this
    have hqo: ∀q,q∈qa'→¬p.i=q.1∧¬o.dst=some q.2.1∧¬q.2.1∈Af2 ops o:=fun q hq=>by
     obtain⟨oq,_,_,hoq,heq,hop,_,hdq,_⟩:=hL'.eag q hq
     have hne:¬q.1=p.i:=fun e=>by
      rw[e,ho] at hoq
      cases hoq
      have h1:=hP.val
      rw[Dp0 hop] at h1
      cases h1
     have hpq:=Bc8 heq hdq ho hne
     exact⟨fun e=>hne e.symm,hpq.1,hpq.2.1 hP.val⟩
    have hlk:=hL'.looks ho hun' hpr fun q hq=>(hqo q hq).2.2
    have hy:=hP.yld hR'
    have hEa2:Bo0 W0 (listed.setIfInBounds p.i true) qa' st' β σ γ (a.put o.dst (s.val β σ)) Wa:=by
     have back: ∀{q},q∈qa'→(listed.setIfInBounds p.i true).getD q.1 false=true→listed.getD q.1 false=true:=fun hq hl=>by rwa [hnew,if_neg (hqo _ hq).1] at hl
     refine⟨fun q hq hl=>?_,fun q q' hq hq' h1 h2 e=>hEa'.inj q q' hq hq' (back hq h1) (back hq' h2) e⟩
     obtain⟨g1,g2⟩:=hEa'.blk q hq (back hq hl)
     refine⟨?_,g2⟩
     cases hd:o.dst with
     | none=>exact g1
     | some d=>rw[As6,if_neg fun e=>(hqo q hq).2.1 (by rw[hd,e.1])];exact g1
    have hn:=ih _ h' (hL'.Fw2 hR' ho hm hP.dst) hEa2 hR' hcnt hQ'
    unfold wpOp
    simp only[ho]
    unfold Yld at hy
    rw[←Bx5 hlk,←Cx0 (hok.sel _ _ · · ho) hlk] at hy
    rcases hy with⟨h1,h2⟩ | ⟨h1,h2⟩
    ·rw[if_pos h1]
     exact .inl (Ae1 h2 hn)
    ·rw[if_neg (by rw[h1];simp),←h2]
     exact hn
   ·obtain⟨oq,t,ti,hoq,heq,hop,hg,hdq,hti,hcs⟩:=hL'.eag q hq
    rw[ho] at hoq
    cases hoq
    unfold wpOp
    simp only[ho]
    have hw:Region.wanted o (yielded ops a.tmps)=true:=by simp[Region.wanted,hg]
    rw[if_pos hw]
    refine .inl (Ae1 (Es9 hT hop hti a Wa.w) ?_)
    have hne: ∀q',q'∈qa'→q'≠q→¬q.1=q'.1∧¬q'.2.1=q.2.1:=fun q' hq' hqn=>by
     have h1:¬q.1=q'.1:=fun e=>by
      have hn:=hL'.nd
      have:=Aw2 hn hq hq' e
      exact hqn this.symm
     refine⟨h1,fun e=>?_⟩
     obtain⟨oq',_,_,hoq',heq',_,_,hdq',_⟩:=hL'.eag q' hq'
     exact(Bc8 heq' hdq' ho fun e'=>h1 e'.symm).1 (by rw[hdq,e])
    have hfree:Ax6 st' β σ Wa.w.heap.size:=fun k bl hc hb=>by
     have:=hR'.lt _ (Ca6 (hR'.rel.C k bl hc) hb)
     omega
    have hgl: ∀q',q'∈qa'→listed.getD q'.1 false=true→γ q'.1<Wa.w.heap.size:=fun q' hq' hl=>hR'.lt _ (hEa'.blk q' hq' hl).2.2.1
    have hsz:q.2.1<a.tmps.size:=by rw[hL'.size,hR'.rel.size];exact hL'.lt q hq
    have hEa2:Bo0 W0 (listed.setIfInBounds q.1 true) qa' st' β σ (upd γ q.1 Wa.w.heap.size) (a.put o.dst (.pointer (some ⟨Wa.w.heap.size,0,none⟩))) ⟨Wa.w.alloc (.cells ti.zv.cells t),fun b=>Wa.S b∨b=Wa.w.heap.size⟩:=by
     have back: ∀{q'},q'∈qa'→q'≠q→(listed.setIfInBounds q.1 true).getD q'.1 false=true→listed.getD q'.1 false=true:=fun hq' hqn hl=>by rwa [hnew,if_neg (hne _ hq' hqn).1] at hl
     have hup: ∀q',q'∈qa'→q'≠q→upd γ q.1 Wa.w.heap.size q'.1=γ q'.1:=fun q' hq' hqn=>by unfold upd;rw[if_neg fun e=>(hne q' hq' hqn).1 e.symm]
     have hups:upd γ q.1 Wa.w.heap.size q.1=Wa.w.heap.size:=by unfold upd;rw[if_pos rfl]
     refine⟨fun q' hq' hl=>?_,fun q' q2 hq' hq2 h1 h2 e=>?_⟩
     ·by_cases hqn:q'=q
      ·subst hqn
       rw[hups]
       refine⟨?_,⟨t,?_⟩,.inr rfl,hR'.Ai1.size,hfree⟩
       ·rw[hdq,As6,if_pos ⟨rfl,hsz⟩]
       ·rw[hcs];exact heap_alloc_new _ _
      ·obtain⟨g1,⟨t',g2⟩,g3,g4,g5⟩:=hEa'.blk q' hq' (back hq' hqn hl)
       rw[hup q' hq' hqn]
       refine⟨?_,⟨t',?_⟩,.inl g3,g4,g5⟩
       ·rw[hdq,As6,if_neg fun e=>(hne q' hq' hqn).2 e.1];exact g1
       ·exact(Bf3 _ _ (hR'.lt _ g3)).trans g2
     ·by_cases hqn:q'=q<;>by_cases hqn2:q2=q
      ·rw[hqn,hqn2]
      ·subst hqn
       rw[hups,hup q2 hq2 hqn2] at e
       have:=hgl q2 hq2 (back hq2 hqn2 h2)
       omega
      ·subst hqn2
       rw[hups,hup q' hq' hqn] at e
       have:=hgl q' hq' (back hq' hqn h1)
       omega
      ·rw[hup q' hq' hqn,hup q2 hq2 hqn2] at e
       exact hEa'.inj q' q2 hq' hq2 (back hq' hqn h1) (back hq2 hqn2 h2) e
    exact ih _ h' (Wa:=⟨Wa.w.alloc (.cells ti.zv.cells t),fun b=>Wa.S b∨b=Wa.w.heap.size⟩) (hL'.box hq ho hdq _) hEa2 (hR'.side _) hcnt hQ'
  ·rw[Dp9,hnone,hnone2] at h'
   simp only at h'
   have hrd:Ak4 ops L' i o=true:=by
    simp only[Ak4,Bool.and_eq_true,Bool.not_eq_true',List.all_eq_true]
    refine⟨by cases hb:mem L' i with | false=>rfl | true=>exact absurd (Ad9.1 hb) hm,fun j hj=>Ad9.2 ?_⟩
    have hj':j<ops.size:=Nat.lt_trans (hok.back _ _ ho j hj) hlt
    exact hL'.sub j ops[j] (by simp[hj']) (hpr j hj)
   have hin:(i,o)∈Cu6 (Ak4 ops L') 0 ops.toList:=by
    have:=Co6 (p:=Ak4 ops L') (n:=0) (k:=i) (o:=o) (l:=ops.toList) (by simpa using ho) (by rw[Nat.zero_add];exact hrd)
    rwa [Nat.zero_add] at this
   split at h'
   ·rename_i he;rw[he] at hin;cases hin
   have hop:=Cx5 h' hin
   obtain⟨β0,σ0,a0,k1,k2,k3,k4,k5,k6,k7⟩:=hL'.mat hEa' hR' (fun q=>mem (Ac2 o) q.1) fun q hq hb=>hpr _ (Ad9.1 hb)
   have hqo: ∀q,q∈Fd5 o qa'→¬i=q.1∧¬o.dst=some q.2.1∧¬q.2.1∈Af2 ops o∧Fg8 o.op=true:=fun q hq=>by
    obtain⟨hq',hnp⟩:=List.mem_filter.1 hq
    have hnp:¬q.1∈Ac2 o:=fun h=>by rw[Ad9.2 h] at hnp;cases hnp
    obtain⟨oq,_,_,hoq,heq,_,_,hdq,_⟩:=hL'.eag q hq'
    have hne:¬q.1=i:=fun e=>hm (e ▸ hL'.inQ q hq')
    have hpq:=Bc8 heq hdq ho hne
    exact⟨fun e=>hne e.symm,hpq.1,hpq.2.2 hnp⟩
   have hlk:=k5.looks ho hun' hpr fun q hq=>(hqo q hq).2.2.1
   have hfr2:(!(Fd5 o qa').isEmpty)=true→Fg8 o.op=true:=fun he=>by
    cases hq:Fd5 o qa' with
    | nil=>rw[hq] at he;cases he
    | cons q r=>exact(hqo q (by rw[hq];exact List.mem_cons_self ..)).2.2.2
   refine wpOp_mono ?_ (Ev6 hT hF ho (hok.sel _ _ · · ho) hop hfr2 k1 k5.size hlk)
   rintro a3 w3 ⟨v,rfl,β1,σ1,st1,W1,Wa1,rfl,hR1,hK1,hD1,hag1,htm1,hT1,hfm⟩
   simp only at hK1
   split at hK1
   ·rename_i hcl
    have hboth:(((pd'.filter fun q=>!(mem (Ac2 o) q.i)).any fun q=>q.nw)=true→Ext W W1)∧Dp9 P tt W0 M ops n' (i :: L') (pd'.filter fun q=>!(mem (Ac2 o) q.i)) (Fd5 o qa') st1 W1 K:=by
     unfold Fm5 at hK1
     split at hK1
     ·exact⟨fun _=>hK1.1,hK1.2⟩
     ·rename_i hb;exact⟨fun h=>(by rw[hb] at h;cases h),hK1⟩
    have hcl':((pd'.filter fun q=>!(mem (Ac2 o) q.i)).all fun q=>q.ks.all fun k=>!(mem (st1.D.take (Nat.sub st1.D.length (Dk4 (inQ o qa') st').D.length)) k))=true:=by
     have:(Dk4 (inQ o qa') st').D=st'.D:=k4
     rw[this]
     exact hcl
    have hEa2:Bo0 W0 (listed.setIfInBounds i true) (Fd5 o qa') st1 β1 σ1 γ (a.put o.dst v) Wa1:=by
     have back: ∀{q},q∈Fd5 o qa'→(listed.setIfInBounds i true).getD q.1 false=true→listed.getD q.1 false=true:=fun hq hl=>by rwa [hnew,if_neg (hqo _ hq).1] at hl
     refine⟨fun q hq hl=>?_,fun q q' hq hq' h1 h2 e=>k6.inj q q' hq hq' (back hq h1) (back hq' h2) e⟩
     obtain⟨g1,⟨t',g2⟩,g3,g4,g5⟩:=k6.blk q hq (back hq hl)
     obtain⟨f1,f2,f3⟩:=hfm (by cases hq':Fd5 o qa' with | nil=>rw[hq'] at hq;cases hq | cons _ _=>rfl) _ g3 g5
     refine⟨?_,⟨t',f2.trans g2⟩,f1,g4,f3⟩
     cases hd:o.dst with
     | none=>exact g1
     | some d=>rw[As6,if_neg fun e=>(hqo q hq).2.1 (by rw[hd,e.1])];exact g1
    refine ih _ hboth.2 (k5.sync hok ho hm hpr hD1 hag1 hT1 k1.nC hcl' hboth.1) hEa2 hR1 hcnt fun a4 w4 hO=>hQ' _ _ ?_
    have hag: ∀k,k<st'.nx→β1 k=β k∧σ1 k=σ k:=fun k hk=>⟨(hag1 k (Nat.lt_of_lt_of_le hk k2.nx)).1.trans (k3 k hk).1,(hag1 k (Nat.lt_of_lt_of_le hk k2.nx)).2.trans (k3 k hk).2⟩
    refine Out.of (k2.trans hD1) hag (ds1:=ops.toList.flatMap Av0) (fun j hj=>(htm1 j fun h=>hj (List.mem_flatMap.2 ⟨o,List.mem_of_getElem? (by simpa using ho),h⟩)).trans (k7 j hj)) (fun _ h=>h) (fun _ h=>h) (fun _ _ h=>h) hO
   ·exact hK1.elim
theorem Do1 (hM:P.follows .mixedOrders=true) (hT:Ac6 P tt) (hF:Ae7 tt) {id:Nat} {ops:Array Oper} (hd:Dq0 ops=true) {st:SS} {W:PW} {K:SS→PW→Prop} (h:Dp9 P tt W0 M ops (Nat.succ ops.size) [] [] [] st W K)
  {β:Nat→Nat} {σ:Nat→Value} {a:Act} {Wa:PW} (hR:Run W0 M st W β σ a Wa) {Q:Exit→Act→World→Prop} (hQ: ∀a' w',Out W0 M st β σ a (ops.toList.flatMap Av0) K a' w'→Q .normal a' w'):
  (Code.region id ops true).wp P Q a Wa.w:=by
 refine wp_region_any hM ?_
 have hR':Run W0 M st W β σ a ⟨{Wa.w with drawn:=Wa.w.drawn+1 },Wa.S⟩:=
  ⟨⟨hR.rel.defers,hR.rel.size,hR.rel.T,fun k bl hk=>by have:=hR.rel.C k bl hk;cases bl<;>exact this,hR.rel.inj,hR.rel.dom⟩,⟨hR.ext.size,hR.ext.Ai1⟩,⟨hR.Ai1.os,hR.Ai1.tape,hR.Ai1.output,hR.Ai1.size,hR.Ai1.block,Nat.le_trans hR.Ai1.drawn (Nat.le_succ _)⟩,hR.priv,hR.lt,hR.s0,hR.b0,hR.nC,hR.fresh⟩
 have hL:Lag P tt ops (Array.replicate ops.size false) [] [] [] st W β σ a a:=by
  refine⟨by simp,fun i o ho hl=>?_,fun i o ho hl=>(by cases hl),fun p hp=>(by cases hp),fun i o ho hl=>(by cases hl),fun p hp=>(by cases hp),fun q hq=>(by cases hq),fun q hq=>(by cases hq),fun q hq=>(by cases hq),List.nodup_nil,List.nodup_nil,rfl,rfl,fun _ _ _=>rfl⟩
  simp[Array.getD] at hl
 refine Dv0 hT hF (Dl1 hd) ops.size _ (γ:=fun _=>0) h hL ⟨fun q hq=>(by cases hq),fun q q' hq=>(by cases hq)⟩ hR' ?_ hQ
 have:=List.length_filter_le (fun i=>!((Array.replicate ops.size false).getD i true)) (List.range ops.size)
 simpa[unl] using this
end Go.SX
/- The symbolic evaluator: what a loop carries. -/
namespace Go.SX
variable {P:Program} {tt:List (Nat×TyI)} {W0:PW} {M:Nat→Prop}
theorem Fb3 {i:TyI} {K:Value→Prop} (h:Fp8 i K) {v:Value} (hv:tyB i v=true):K v:=by
 unfold tyB at hv
 unfold Fp8 at h
 cases ha:i.agg with
 | true=>
  rw[ha] at hv h
  cases v<;>simp only[Bool.false_eq_true] at hv
  have:=Am9 h hv
  simpa[valOf] using this
 | false=>
  rw[ha] at hv h
  exact Am9 h (vs:=[v]) (by cases v<;>exact hv)
/-! ### Heads -/
def HB : List (Nat × Bz3) → SS → List PL → SS → Prop
  | (k, .box sh) :: r, st, l, st' => ∃ cs l', Ai7 sh cs = true ∧ l = .cells cs :: l' ∧ HB r { st with C := (k, .box cs) :: st.C } l' st'
  | (k, .row t sz) :: r, st, l, st' => ∃ xs l', l = .row xs :: l' ∧ HB r { st with C := (k, .row t sz xs) :: st.C } l' st'
  | (k, .itr g kt et since) :: r, st, l, st' => ∃ seen last cur l', l = .seen (Ae4 seen cur) last :: l' ∧ HB r { st with C := (k, .itr g kt et since seen last cur) :: st.C } l' st'
  | [], st, l, st' => l = [] ∧ st' = st
def HC:List (Nat×Car)→SS→List PL→SS→Prop
 | (d,.val i) :: r,st,l,st'=>∃v l',tyB i v=true∧l = .val v :: l'∧HC r {st with T:=(d,.v v) :: st.T } l' st'
 | (d,.own t sz) :: r,st,l,st'=>∃xs l',l = .row xs :: l'∧HC r {(Ac4 st (.row t sz xs)) with T:=(d,.o st.nx) :: st.T } l' st'
 | [],st,l,st'=>l = []∧st'=st
theorem Ax8: ∀{bs:List (Nat×Bz3)} {st:SS} {K:List PL→SS→Prop} (_:Cs7 bs st K) {l:List PL} {st':SS} (_:HB bs st l st'),K l st'
 | [],st,K,h,l,st',hl=>by obtain⟨rfl,rfl⟩:=hl;exact h
 | (k,.box sh) :: r,st,K,h,l,st',hl=>by
  obtain⟨cs,l',hs,rfl,hr⟩:=hl
  exact Ax8 (bs:=r) (Am9 h hs) hr
 | (k,.row t sz) :: r,st,K,h,l,st',hl=>by
  obtain⟨xs,l',rfl,hr⟩:=hl
  exact Ax8 (bs:=r) (h xs) hr
 | (k,.itr g kt et since) :: r,st,K,h,l,st',hl=>by
  obtain⟨seen,last,cur,l',rfl,hr⟩:=hl
  exact Ax8 (bs:=r) (h seen last cur) hr
theorem Bj2: ∀{cs:List (Nat×Car)} {st:SS} {K:List PL→SS→Prop} (_:Dq7 cs st K) {l:List PL} {st':SS} (_:HC cs st l st'),K l st'
 | [],st,K,h,l,st',hl=>by obtain⟨rfl,rfl⟩:=hl;exact h
 | (d,.val i) :: r,st,K,h,l,st',hl=>by
  obtain⟨v,l',hs,rfl,hr⟩:=hl
  exact Bj2 (cs:=r) (Fb3 h hs) hr
 | (d,.own t sz) :: r,st,K,h,l,st',hl=>by
  obtain⟨xs,l',rfl,hr⟩:=hl
  exact Bj2 (cs:=r) (h xs) hr
def Head (bs:List (Nat×Bz3)) (cars:List (Nat×Car)) (st:SS) (l:List PL) (sth:SS):Prop:=∃lb lc stB,HB bs st lb stB∧HC cars stB lc sth∧l=lc ++ lb
theorem Cy5 {bs:List (Nat×Bz3)} {cars:List (Nat×Car)} {st:SS} {K:List PL→SS→Prop} (h:Fi0 bs cars st K) {l:List PL} {sth:SS} (hh:Head bs cars st l sth):K l sth:=by
 obtain⟨lb,lc,stB,h1,h2,rfl⟩:=hh
 exact Bj2 (Ax8 h h1) h2
theorem HB.Ai1: ∀{bs:List (Nat×Bz3)} {st:SS} {l:List PL} {st':SS} (_:HB bs st l st'),st'.nx=st.nx∧st'.n=st.n∧st'.D=st.D∧st'.T=st.T∧∀k,(∀b,b∈bs→b.1≠k)→look st'.C k=look st.C k
 | [],st,l,st',h=>by obtain⟨_,rfl⟩:=h;exact⟨rfl,rfl,rfl,rfl,fun _ _=>rfl⟩
 | (k,.box sh) :: r,st,l,st',h=>by
  obtain⟨cs,l',_,_,hr⟩:=h
  obtain⟨h1,h2,h3,h4,h5⟩:=HB.Ai1 hr
  refine⟨h1,h2,h3,h4,fun k' hk=>?_⟩
  rw[h5 k' fun b hb=>hk b (by simp[hb])]
  simp only[Ab4]
  rw[if_neg (hk (k,.box sh) (by simp))]
 | (k,.row t sz) :: r,st,l,st',h=>by
  obtain⟨cs,l',_,hr⟩:=h
  obtain⟨h1,h2,h3,h4,h5⟩:=HB.Ai1 hr
  refine⟨h1,h2,h3,h4,fun k' hk=>?_⟩
  rw[h5 k' fun b hb=>hk b (by simp[hb])]
  simp only[Ab4]
  rw[if_neg (hk (k,.row t sz) (by simp))]
 | (k,.itr g kt et since) :: r,st,l,st',h=>by
  obtain⟨seen,last,cur,l',_,hr⟩:=h
  obtain⟨h1,h2,h3,h4,h5⟩:=HB.Ai1 hr
  refine⟨h1,h2,h3,h4,fun k' hk=>?_⟩
  rw[h5 k' fun b hb=>hk b (by simp[hb])]
  simp only[Ab4]
  rw[if_neg (hk (k,.itr g kt et since) (by simp))]
theorem HC.Ai1: ∀{cs:List (Nat×Car)} {st:SS} {l:List PL} {st':SS} (_:HC cs st l st'),st.nx≤st'.nx∧st'.n=st.n∧st'.D=st.D∧∀k,k<st.nx→look st'.C k=look st.C k
 | [],st,l,st',h=>by obtain⟨_,rfl⟩:=h;exact⟨Nat.le_refl _,rfl,rfl,fun _ _=>rfl⟩
 | (d,.val i) :: r,st,l,st',h=>by
  obtain⟨v,l',_,_,hr⟩:=h
  obtain⟨h1,h2,h3,h4⟩:=HC.Ai1 hr
  exact⟨h1,h2,h3,h4⟩
 | (d,.own t sz) :: r,st,l,st',h=>by
  obtain⟨xs,l',_,hr⟩:=h
  obtain⟨h1,h2,h3,h4⟩:=HC.Ai1 hr
  refine⟨Nat.le_trans (Nat.le_succ _) h1,h2,h3,fun k hk=>?_⟩
  rw[h4 k (Nat.lt_succ_of_lt hk)]
  simp only[Ac4,Ab4]
  rw[if_neg (by omega)]
/-! ### Payments -/
def PB : List (Nat × Bz3) → SS → List PL → Prop
  | (k, .box sh) :: r, st, l => ∃ cs l', l = .cells cs :: l' ∧ look st.C k = some (.box cs) ∧ Ai7 sh cs = true ∧ PB r st l'
  | (k, .row t sz) :: r, st, l => ∃ xs l', l = .row xs :: l' ∧ look st.C k = some (.row t sz xs) ∧ PB r st l'
  | (k, .itr g kt et since) :: r, st, l => ∃ seen last cur l', l = .seen (Ae4 seen cur) last :: l' ∧ look st.C k = some (.itr g kt et since seen last cur) ∧ PB r st l'
  | [], st, l => l = []
theorem Ak6: ∀{bs:List (Nat×Bz3)} {st:SS} {W:PW} {K:List PL→SS→PW→Prop} (_:Cr6 bs st W K),∃l,K l st W∧PB bs st l
 | [],st,W,K,h=>⟨[],h,rfl⟩
 | (k,.box sh) :: r,st,W,K,h=>by
  simp only[Cr6] at h
  split at h
  ·rename_i cs hC
   split at h
   ·rename_i hs
    obtain⟨l,hK,hl⟩:=Ak6 (bs:=r) h
    exact⟨_,hK,cs,l,rfl,hC,hs,hl⟩
   ·exact h.elim
  ·exact h.elim
 | (k,.row t sz) :: r,st,W,K,h=>by
  simp only[Cr6] at h
  split at h
  ·rename_i t' sz' xs hC
   split at h
   ·rename_i h1 h2
    obtain rfl:=Nat.eq_of_beq_eq_true h1
    obtain rfl:=Nat.eq_of_beq_eq_true h2
    obtain⟨l,hK,hl⟩:=Ak6 (bs:=r) h
    exact⟨_,hK,xs,l,rfl,hC,hl⟩
   ·exact h.elim
  ·exact h.elim
 | (k,.itr g kt et since) :: r,st,W,K,h=>by
  simp only[Cr6] at h
  split at h
  ·rename_i g' kt' et' since' seen last cur hC
   split at h
   ·rename_i h1 h2
    obtain rfl:=Nat.eq_of_beq_eq_true h1
    obtain rfl:=Nat.eq_of_beq_eq_true h2
    obtain⟨⟨rfl,rfl⟩,h⟩:=h
    obtain⟨l,hK,hl⟩:=Ak6 (bs:=r) h
    exact⟨_,hK,seen,last,cur,l,rfl,hC,hl⟩
   ·exact h.elim
  ·exact h.elim
def PC (a:Act) (w:World) (n:Nat):List (Nat×Car)→List Nat→List PL→Prop
 | (d,.val i) :: r,G,l=>∃v l',l = .val v :: l'∧a.tmps.getD d undef=v∧d<n∧tyB i v=true∧PC a w n r G l'
 | (d,.own t sz) :: r,G,l=>∃xs l',l = .row xs :: l'∧d<n∧Ai0 w t sz (a.tmps.getD d undef) xs∧(∀g,(a.tmps.getD d undef).ownBlock=some g→g∉G)∧PC a w n r ((a.tmps.getD d undef).ownBlock.toList ++ G) l'
 | [],_,l=>l = []
def Do8 (a:Act):List (Nat×Car)→List Nat
 | (_,.val _) :: r=>Do8 a r
 | (d,.own _ _) :: r=>(a.tmps.getD d undef).ownBlock.toList ++ Do8 a r
 | []=>[]
theorem Al1: ∀{cars:List (Nat×Car)} {st:SS} {W Wa:PW} {β:Nat→Nat} {σ:Nat→Value} {a:Act} {K:List PL→SS→PW→Prop} {G:List Nat} (_:De0 W0 cars st W K) (_:Run W0 M st W β σ a Wa)
  (_: ∀g,g∈G→Ax6 st β σ g∧Wa.S g∧W0.w.heap.size≤g),
  ∃l st1 W1 Wa1,K l st1 W1∧Wa1.w=Wa.w∧Run W0 M st1 W1 β σ a Wa1∧st1.T=st.T∧Ah1 st st1∧PC a Wa.w st.n cars G l∧(∀g,g∈G ++ Do8 a cars→Ax6 st1 β σ g∧Wa1.S g∧W0.w.heap.size≤g)
 | [],st,W,Wa,β,σ,a,K,G,h,hR,hG=>⟨[],st,W,Wa,h,rfl,hR,rfl,Ah1.refl _,rfl,by simpa[Do8] using hG⟩
 | (d,.val i) :: r,st,W,Wa,β,σ,a,K,G,h,hR,hG=>by
  simp only[De0] at h
  have hd:d<st.n:=by
   have h':=h
   simp only[evP,ev] at h'
   split at h'
   ·rename_i s hs;exact hR.rel.dom _ _ hs
   ·exact h'.elim
  obtain⟨v,st1,W1,Wa1,h1,he,hw,hR1,hT1,hD1,hF1⟩:=Cd7 h hR
  split at h1
  ·rename_i hty
   obtain⟨l,st2,W2,Wa2,hK,hw2,hR2,hT2,hD2,hP2,hG2⟩:=Al1 (cars:=r) (G:=G) h1 hR1 (fun g hg=>⟨(hF1 g (hG g hg).1 (hG g hg).2.1).1,(hF1 g (hG g hg).1 (hG g hg).2.1).2,(hG g hg).2.2⟩)
   refine⟨_,st2,W2,Wa2,hK,hw2.trans hw,hR2,hT2.trans hT1,hD1.trans hD2,⟨v,l,rfl,?_,hd,hty,?_⟩,?_⟩
   ·simpa[Act.eval] using he
   ·rw[hw,hD1.n] at hP2;exact hP2
   ·simpa[Do8] using hG2
  ·exact h1.elim
 | (d,.own t sz) :: r,st,W,Wa,β,σ,a,K,G,h,hR,hG=>by
  simp only[De0] at h
  split at h
  ·rename_i k hT
   split at h
   ·rename_i t' sz' xs hC
    split at h
    ·rename_i h1 h2
     obtain rfl:=Nat.eq_of_beq_eq_true h1
     obtain rfl:=Nat.eq_of_beq_eq_true h2
     obtain⟨hO,hS⟩:=hR.rel.C _ _ hC
     have hv:a.tmps.getD d undef=σ k:=(hR.rel.T _ _ hT).1
     obtain⟨r1,r2⟩:=Run.set (Wa':=Wa) (bl:=.dead) hR hC (Am7.refl _ _) (fun b hb=>hb) (fun b hb _=>hb) trivial (by simp[Ab8])
     have hnew: ∀g,(σ k).ownBlock=some g→Ax6 (Af0 st k .dead) β σ g∧Wa.S g∧W0.w.heap.size≤g:=by
      intro g hg
      refine⟨?_,hS g hg,hR.fresh k _ g hC (by simpa[Ab8] using hg)⟩
      intro i bl' hc
      simp only[Af0,Ab4] at hc
      split at hc
      ·obtain rfl:=Option.some.inj hc;simp[Ab8]
      ·rename_i hne
       exact fun e=>hR.rel.inj i k bl' _ g (fun e=>hne e.symm) hc hC e (by simpa[Ab8] using hg)
     obtain⟨l,st2,W2,Wa2,hK,hw2,hR2,hT2,hD2,hP2,hG2⟩:=Al1 (cars:=r) (G:=(σ k).ownBlock.toList ++ G) h r1 (by
      intro g hg
      rcases List.mem_append.1 hg with hg | hg
      ·exact hnew g (by simpa using hg)
      ·exact⟨(hG g hg).1.set (by simp[Ab8]),(hG g hg).2⟩)
     refine⟨_,st2,W2,Wa2,hK,hw2,hR2,hT2,r2.trans hD2,⟨xs,l,rfl,hR.rel.dom _ _ hT,?_,?_,?_⟩,?_⟩
     ·rw[hv];exact hO
     ·rw[hv];exact fun g hg hin=>(hG g hin).1 k _ hC (by simpa[Ab8] using hg)
     ·rw[hv];exact hP2
     ·intro g hg
      refine hG2 g ?_
      simp only[Do8,hv,List.mem_append] at hg⊢
      rcases hg with hg | hg | hg
      ·exact .inl (.inr hg)
      ·exact .inl (.inl hg)
      ·exact .inr hg
    ·exact h.elim
   ·exact h.elim
  ·rename_i hT
   have hv:a.tmps.getD d undef = .slice none 0 0:=(hR.rel.T _ _ hT).1
   obtain⟨l,st2,W2,Wa2,hK,hw2,hR2,hT2,hD2,hP2,hG2⟩:=Al1 (cars:=r) (G:=G) h hR hG
   refine⟨_,st2,W2,Wa2,hK,hw2,hR2,hT2,hD2,⟨[],l,rfl,hR.rel.dom _ _ hT,?_,?_,?_⟩,?_⟩
   ·rw[hv];exact Ai0.nil _ _ _
   ·rw[hv];simp[Value.ownBlock]
   ·rw[hv];simpa[Value.ownBlock] using hP2
   ·intro g hg
    refine hG2 g ?_
    simpa[Do8,hv,Value.ownBlock] using hg
  ·exact h.elim
end Go.SX
