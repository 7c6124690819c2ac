/- The symbolic evaluator: stores, calls, append. -/
import Derived.Test.YtahohahjnhfedaaGreatDoorSx2
import Derived.Maps.AppendAt
set_option linter.unusedVariables false
set_option linter.unusedSimpArgs false
namespace Go.SX
variable {P:Program} {tt:List (Nat×TyI)} {W0:PW} {M:Nat→Prop}
section
variable {st:SS} {W:PW} {o:Oper} {K:SV→SS→PW→Prop}
theorem Bb1 {t:TypeId} {i:TyI} (hG:Af4 P t i) (w:World) {g pos:Nat} {cs:Array Value} {e:TypeId} (hg:w.heap[g]?=some (.cells cs e (0,0))) {v:Value} (hl:(Ac7 v).length=i.size) (h1:Ed1 (Ac7 v)=true)
  (hle:pos+i.size≤cs.size):(Instr.storeAt t (.pointer (some ⟨g,pos,none⟩)) v).run P w = .ok () (w.setRow g (Aj6 cs.toList pos (Ac7 v)).toArray):=by
 have hs:=run_storeCells_at P g pos e (Ac7 v) 0 cs w hg (by rw[hl];exact hle) (Bd5 h1)
 simp only[Nat.add_zero] at hs
 rw[←Al5 (Ac7 v) cs.toList pos (by rw[hl];simpa using hle)] at hs
 have hsz:v.cells.size=i.size:=by rw[Bi2,hl]
 simp only[Instr.storeAt,Instr.sureAddr,storeVar,Sem.run_bind,Sem.run_pure,Result.andThen_ok,hG.sizeOf]
 rw[if_neg (by simp[hsz]),Av1]
 exact hs
theorem Dl9 (w:World) (g:Nat) (cs:Array Value):Am7 (fun b=>b=g) w (w.setRow g cs):=⟨rfl,rfl,rfl,by simp,fun b _ hn=>setRow_other w g b cs hn,Nat.le_refl _⟩
theorem Bl2 (hT:Ac6 P tt) {t:TypeId} {p x:Operand} {i:TyI} (ho:o.op = .store t p x) (hi:look tt t=some i) {v:Value} {k off:Nat} {cs:List Value}
  (hl:(Ac7 v).length=i.size) (h1:Ed1 (Ac7 v)=true) (hC:look st.C k=some (.box cs)) (hle:off+i.size≤cs.length)
  {β:Nat→Nat} {σ:Nat→Value} {a:Act} {Wa:PW} {Q:Exit→Act→World→Prop} (hR:Run W0 M st W β σ a Wa) (hx:a.eval x=v) (hp:a.eval p = .pointer (some ⟨β k,off,none⟩))
  (h:K (.v undef) (Af0 st k (.box (Aj6 cs off (Ac7 v)))) W):o.wp P a Wa.w (Res W0 M st β σ a o K) Q:=by
 obtain⟨⟨e,hh⟩,hS⟩:=hR.rel.C _ _ hC
 have hr:=Bb1 (hT.Aq3 hi) Wa.w hh hl h1 (by simpa using hle)
 simp only at hr
 obtain⟨h2,h3⟩:=Run.set (Wa':=⟨Wa.w.setRow (β k) (Aj6 cs off (Ac7 v)).toArray,Wa.S⟩) (bl:=.box (Aj6 cs off (Ac7 v))) hR hC
  ⟨rfl,rfl,rfl,by simp,fun b _ hn=>setRow_other _ _ _ _ (fun he=>hn (by simp[Ab8,he])),Nat.le_refl _⟩ (fun b hb=>hb) (fun b hb _=>hb)
  ⟨⟨e,setRow_heap _ _ _ _ _ _ hh⟩,hS⟩ (fun g hg=>by simpa[Ab8] using hg)
 exact Ay3 (by simp only[execOp,ho,hx,hp,Sem.run_bind,hr,Result.andThen_ok,Sem.run_pure]) ⟨.v undef,β,σ,_,W,_,rfl,rfl,h2,trivial,rfl,h,h3,Ab2⟩
theorem Ds3 {xs:List (List Value)} {i:Nat} (h:i<xs.length):xs.getD i []∈xs:=by
 rw[List.getD_eq_getElem?_getD,List.getElem?_eq_getElem h]
 exact List.getElem_mem h
theorem Dr9: ∀(l a b c:List Value) (o:Nat),o+l.length≤b.length→Aj6 (a ++ b ++ c) (a.length+o) l=a ++ Aj6 b o l ++ c
 | l,a,b,c,o,h=>by
  rw[Al5 l _ _ (by simp;omega),Al5 l _ _ h]
  have e:a ++ b ++ c=a ++ (b ++ c):=List.append_assoc _ _ _
  rw[e,List.take_append,List.drop_append,List.take_of_length_le (l:=a) (by omega),List.drop_of_length_le (l:=a) (by omega),
   show a.length+o-a.length=o by omega,show a.length+o+l.length-a.length=o+l.length by omega,List.take_append_of_le_length (by omega),List.drop_append_of_le_length h]
  simp
theorem Co0 {sz:Nat} {xs:List (List Value)} (hl: ∀x∈xs,x.length=sz) {i:Nat} (hi:i<xs.length) {l:List Value} {off:Nat} (h:off+l.length≤sz):
  (Ci8 xs i off l).flatten=Aj6 xs.flatten (i*sz+off) l∧((xs.getD i []).length=sz→(patch (xs.getD i []) off l).length=sz):=by
 have hx:=hl _ (Ds3 hi)
 have hp:patch (xs.getD i []) off l=Aj6 (xs.getD i []) off l:=(Al5 l _ _ (by omega)).symm
 have hpl:(patch (xs.getD i []) off l).length=sz:=by rw[hp,Ak7,hx]
 refine⟨?_,fun _=>hpl⟩
 unfold Ci8
 rw[Ap5 hl hi hpl,hp]
 have hsplit:xs=xs.take i ++ [xs.getD i []] ++ xs.drop (i+1):=by
  rw[List.getD_eq_getElem?_getD,List.getElem?_eq_getElem hi]
  simp
 have ht:(xs.take i).flatten.length=i*sz:=by
  rw[Ac0 (fun x hx=>hl x (List.mem_of_mem_take hx))]
  simp only[List.length_take]
  rw[show min i xs.length=i by omega]
 have hf:xs.flatten=(xs.take i).flatten ++ xs.getD i [] ++ (xs.drop (i+1)).flatten:=by
  conv=>lhs;rw[hsplit]
  simp
 rw[hf,←ht]
 have e1:=Dr9 (Aj6 (xs.getD i []) off l) (xs.take i).flatten (xs.getD i []) (xs.drop (i+1)).flatten 0 (by rw[Ak7];omega)
 have e2:=Dr9 l (xs.take i).flatten (xs.getD i []) (xs.drop (i+1)).flatten off (by omega)
 simp only[Nat.add_zero] at e1
 rw[e1,e2]
 congr 2
 rw[Al5 _ _ _ (by rw[Ak7];omega),Ak7]
 simp
theorem Ez8 (A B l:List Value) (p:Nat) (h:p+l.length≤A.length):(A ++ B).take p ++ l ++ (A ++ B).drop (p+l.length)=(A.take p ++ l ++ A.drop (p+l.length)) ++ B:=by
 rw[List.take_append_of_le_length (by omega),List.drop_append_of_le_length h,←List.append_assoc]
theorem Bk4 (hT:Ac6 P tt) {t:TypeId} {p x:Operand} {i:TyI} (ho:o.op = .store t p x) (hi:look tt t=some i) {v:Value} {k sz ix off t':Nat} {xs xs':List (List Value)}
  (hl:(Ac7 v).length=i.size) (h1:Ed1 (Ac7 v)=true) (hC:look st.C k=some (.row t' sz xs)) (hle:off+i.size≤sz) (hix:ix<xs.length)
  (hxs:xs'.flatten=Aj6 xs.flatten (ix*sz+off) (Ac7 v)) (hlen:xs'.length=xs.length) (hel: ∀x∈xs',x.length=sz∧∀u∈x,u.oneCell'=true)
  {β:Nat→Nat} {σ:Nat→Value} {a:Act} {Wa:PW} {Q:Exit→Act→World→Prop} (hR:Run W0 M st W β σ a Wa) (hx:a.eval x=v) (hp:a.eval p=SV.val β σ (.oe k sz ix off))
  (h:K (.v undef) (Af0 st k (.row t' sz xs')) W):o.wp P a Wa.w (Res W0 M st β σ a o K) Q:=by
 obtain⟨⟨hxl,hO⟩,hS⟩:=hR.rel.C _ _ hC
 rcases hO.2 with⟨_,h0⟩ | ⟨g,cap,cur,hv,hb0,hh,hnc,hcm,hcs,htk⟩
 ·omega
 have hfl:=Ac0 (fun x hx=>(hxl x hx).1)
 have hpos:ix*sz+sz≤xs.length*sz:=by rw[←Nat.succ_mul];exact Nat.mul_le_mul_right _ hix
 have hcap:xs.length*sz≤cap*sz:=Nat.mul_le_mul_right _ hnc
 have hpp:a.eval p = .pointer (some ⟨g,ix*sz+off,none⟩):=by rw[hp];simp only[SV.val,hv,Addr.add_lit,Nat.zero_add]
 have hr:=Bb1 (hT.Aq3 hi) Wa.w hh hl h1 (pos:=ix*sz+off) (by omega)
 have hblk:Ab8 β σ k (.row t' sz xs)=some g:=by simp[Ab8,hv,Value.ownBlock]
 obtain⟨h2,h3⟩:=Run.set (Wa':=⟨Wa.w.setRow g (Aj6 cur.toList (ix*sz+off) (Ac7 v)).toArray,Wa.S⟩) (bl:=.row t' sz xs') hR hC
  ⟨rfl,rfl,rfl,by simp,fun b _ hn=>setRow_other _ _ _ _ (fun he=>hn (by rw[hblk,he])),Nat.le_refl _⟩ (fun b hb=>hb) (fun b hb _=>hb)
  (by
   refine⟨⟨hel,?_,.inr ⟨g,cap,_,by rw[hv,hlen],hb0,setRow_heap _ _ _ _ _ _ hh,by omega,hcm,by simp[Ak7,hcs],?_⟩⟩,hS⟩
   ·exact Ac0 fun x hx=>(hel x hx).1
   ·simp only[hlen]
    rw[hxs,Al5 _ _ _ (by rw[hl];simp;omega),Al5 _ _ _ (by rw[hl,hfl];omega),←htk]
    have e:cur.toList=cur.toList.take (xs.length*sz) ++ cur.toList.drop (xs.length*sz):=(List.take_append_drop _ _).symm
    have hlt:(cur.toList.take (xs.length*sz)).length=xs.length*sz:=by rw[htk,hfl]
    generalize cur.toList.take (xs.length*sz)=A at e hlt
    generalize cur.toList.drop (xs.length*sz)=B at e
    rw[e,Ez8 A B (Ac7 v) (ix*sz+off) (by rw[hl,hlt];omega)]
    exact List.take_left' (by simp only[List.length_append,List.length_take,List.length_drop,hlt,hl];omega))
  (fun g hg=>by simpa[Ab8] using hg)
 exact Ay3 (by simp only[execOp,ho,hx,hpp,Sem.run_bind,hr,Result.andThen_ok,Sem.run_pure]) ⟨.v undef,β,σ,_,W,_,rfl,rfl,h2,trivial,rfl,h,h3,Ab2⟩
theorem Cv1 (hT:Ac6 P tt) {t:TypeId} {p x:Operand} {i:TyI} (ho:o.op = .store t p x) (hi:look tt t=some i) {v:Value} {s:Sl} {sz ix off:Nat}
  (hl:(Ac7 v).length=i.size) (h1:Ed1 (Ac7 v)=true)
  {β:Nat→Nat} {σ:Nat→Value} {a:Act} {Wa:PW} {Q:Exit→Act→World→Prop} (hR:Run W0 M st W β σ a Wa) (hx:a.eval x=v) (hp:a.eval p=SV.val β σ (.e s sz ix off))
  (h:An9 W0 M s (ix*sz+off) (Ac7 v) W fun W=>K (.v undef) st W):o.wp P a Wa.w (Res W0 M st β σ a o K) Q:=by
 obtain⟨g,q,cs,e,hA,hS,hh,hle,hmay,hK⟩:=h Wa hR.ext
 have hpp:a.eval p = .pointer (some ⟨g,q+(ix*sz+off),none⟩):=by rw[hp];simp only[SV.val,hA,Addr.add_lit]
 have hr:=Bb1 (hT.Aq3 hi) Wa.w hh hl h1 (pos:=q+(ix*sz+off)) (by rw[←hl];exact hle)
 have hk:=Dl9 Wa.w g (Aj6 cs.toList (q+(ix*sz+off)) (Ac7 v)).toArray
 have h2:=Run.world (Wa':=⟨Wa.w.setRow g (Aj6 cs.toList (q+(ix*sz+off)) (Ac7 v)).toArray,Wa.S⟩) hR hk (fun _=>Iff.rfl) (fun g' e=>by subst e;exact⟨hS,hmay⟩)
 refine Ay3 (by simp only[execOp,ho,hx,hpp,Sem.run_bind,hr,Result.andThen_ok,Sem.run_pure]) ⟨.v undef,β,σ,st,_,_,rfl,rfl,h2,trivial,rfl,hK _ ⟨⟨by simp,fun b hb hs hn=>⟨setRow_other _ _ _ _ hn,hs⟩⟩,hS,setRow_heap _ _ _ _ _ _ hh⟩,Ah1.refl _,Ab2⟩
theorem By4 {i:Nat} {K:Nat→Prop} : ∀{n:Nat} (_:Cn2 i K n) (_:i<n),K i
 | 0,_,h=>by omega
 | n+1,h,hi=>by
  by_cases e:i=n
  ·exact e ▸ h.2 e
  ·exact By4 h.1 (by omega)
theorem Dj8 (hT:Ac6 P tt) {t:TypeId} {p x:Operand} {i:TyI} (ho:o.op = .store t p x) (hi:look tt t=some i) {v:Value} {k base sz len ix off:Nat} {cs:List Value}
  (hl:(Ac7 v).length=i.size) (h1:Ed1 (Ac7 v)=true) (hC:look st.C k=some (.box cs)) (hle:base+len*sz≤cs.length) (hle2:off+i.size≤sz)
  {β:Nat→Nat} {σ:Nat→Value} {a:Act} {Wa:PW} {Q:Exit→Act→World→Prop} (hR:Run W0 M st W β σ a Wa) (hx:a.eval x=v) (hp:a.eval p=SV.val β σ (.pe k base sz len ix off))
  (h:ix<len∧Cn2 ix (fun j=>K (.v undef) (Af0 st k (.box (Aj6 cs (Nat.add (Nat.add base (Nat.mul j sz)) off) (Ac7 v)))) W) len):o.wp P a Wa.w (Res W0 M st β σ a o K) Q:=by
 have hb:ix*sz+sz≤len*sz:=by rw[←Nat.succ_mul];exact Nat.mul_le_mul_right _ h.1
 exact Bl2 hT ho hi hl h1 hC (off:=base+ix*sz+off) (by omega) hR hx hp (By4 h.2 h.1)
end
end Go.SX
/- The symbolic evaluator: calls, append; all effects together. -/
namespace Go.SX
variable {P:Program} {tt:List (Nat×TyI)} {W0:PW} {M:Nat→Prop}
section
variable {st:SS} {W:PW} {o:Oper} {K:SV→SS→PW→Prop}
theorem Cu5 {i:TyI} {K:Value→Prop} (h:exV i K): ∃v,K v:=by
 obtain⟨l,hl,_⟩:=Ah7 h
 cases ha:i.agg with
 | true=>rw[ha] at hl;exact⟨_,hl⟩
 | false=>
  rw[ha] at hl
  match l,hl with
  | [x],hl=>exact⟨x,hl⟩
  | [],hl=>exact hl.elim
  | _ :: _ :: _,hl=>exact hl.elim
theorem Cf3: ∀{ts:List TypeId} {K:List Value→Prop} (_:Fo4 tt ts K),∃l,K l
 | [],K,h=>⟨[],h⟩
 | t :: r,K,h=>by
  simp only[Fo4] at h
  split at h
  ·obtain⟨v,hv⟩:=Cu5 h
   obtain⟨l,hl⟩:=Cf3 (ts:=r) hv
   exact⟨v :: l,hl⟩
  ·exact h.elim
theorem Al4 {t:TypeId} {v:Value} {K:Value→Prop} (h:Cc9 tt t v K):K v:=by
 unfold Cc9 at h
 split at h
 ·split at h
  ·obtain⟨l,rfl,hl⟩:=Cf3 h
   exact hl
  ·obtain⟨x,rfl,hx⟩:=Cu5 h
   exact hx
 ·exact h.elim
theorem Ez2 {f:Operand} {args:Array Operand} {tys:Array TypeId} {g:FuncId} {first captured:Array Value} (ho:o.op = .call {callee:=.value f,args:=args,argTypes:=tys })
  {β:Nat→Nat} {σ:Nat→Value} {a:Act} {Wa:PW} {Q:Exit→Act→World→Prop} (hR:Run W0 M st W β σ a Wa) (hf:a.eval f = .func (.func g) first captured)
  (h:Fh7 W0 args.toList st W fun l st W=>Aa1 P W0 M g (first.toList ++ l ++ captured.toList) W fun v W=>Cc9 tt o.type v fun x=>K (.v x) st W):o.wp P a Wa.w (Res W0 M st β σ a o K) Q:=by
 obtain⟨vs,st1,W1,Wa1,hK,he,hw,hR1,hT1,hD1⟩:=Bh0 h hR
 obtain⟨N,Post,⟨⟨fn,hfn,hbody,hname⟩,hcall⟩,hN,hK⟩:=hK Wa1 hR1.ext
 have hb:fn.body.isNone=false:=by cases hfb:fn.body<;>simp_all
 have hargs:(first ++ args.map a.eval ++ captured)=(first.toList ++ vs ++ captured.toList).toArray:=by
  apply Array.ext'
  simp[←he]
 have hrun:(execOp a.eval o).run P Wa.w = .ok (.enter g (first.toList ++ vs ++ captured.toList).toArray) Wa.w:=by
  simp only[execOp,ho,resolve,hf,Deferred.ofValue,Sem.run_bind,Sem.run_pure,Result.andThen_ok,invoke,callFunc,run_program,hfn,hname,hb,hargs]
  rfl
 unfold Oper.wp
 rw[hrun]
 simp only[Oper.upon]
 have hc:=hcall hR1.lt
 rw[hw] at hc
 refine Calls.mono hc ?_
 rintro e w'' ⟨v,rfl,hk,hP⟩
 have h2:=Run.world (Wa':=⟨w'',Wa1.S⟩) hR1 (by rw[hw];exact hk) (fun _=>Iff.rfl) hN
 have hE:Au9 N Wa1 ⟨w'',Wa1.S⟩:=⟨by rw[hw];exact hk.size,fun b hb hs hn=>⟨by rw[hw];exact hk.block b (by rw[←hw];exact hb) hn,hs⟩⟩
 exact Res.of hT1 hD1 ⟨.v v,β,σ,st1,_,_,rfl,rfl,h2,trivial,rfl,Al4 (hK v _ hE hP),Ah1.refl _,Ab2⟩
def Aw9 (w:World) (y:Value) (sz:Nat) (ys:List (List Value)):Prop:=
 (∀x∈ys,x.length=sz∧∀u∈x,u.oneCell'=true)∧ys.length≤maxLen∧((∃c,y = .slice none 0 c∧ys = [])∨∃ad c,y = .slice (some ad) ys.length c∧∀j u,ys.flatten[j]?=some u→w.cell? (ad.add j)=some u)
theorem Row.behind {W Wa:PW} {t sz:Nat} {s:Sl} {ys:List (List Value)} (h:Row W t sz s ys) (hE:Ext W Wa):Aw9 Wa.w s.v sz ys:=by
 obtain⟨h1,h2,h3,h4,h5⟩:=h
 refine⟨h4,by omega,?_⟩
 obtain⟨A,n,c⟩:=s
 simp only at h1 h2 h3 h5
 subst h1
 rcases h5 with rfl | ⟨b,q,cs,fz,hA,hS,hh,hc⟩
 ·cases A with
  | none=>exact .inl ⟨c,rfl,rfl⟩
  | some ad=>exact .inr ⟨ad,c,rfl,by simp⟩
 ·subst hA
  refine .inr ⟨_,c,rfl,fun j u hu=>?_⟩
  have hk:=hE.Ai1 b (Array.getElem?_eq_some_iff.1 hh).1 hS
  rw[Addr.add_lit,cell_of_row Wa.w b (q+j) cs t fz (hk.1.trans hh)]
  exact hc j u hu
theorem Ai0.behind {w:World} {t sz:Nat} {v:Value} {ys:List (List Value)} (h:Ai0 w t sz v ys):Aw9 w v sz ys:=by
 obtain⟨hl,ho⟩:=h
 rcases ho.2 with⟨rfl,h0⟩ | ⟨g,cap,cur,rfl,_,hh,hnc,hcm,hcs,htk⟩
 ·exact⟨hl,by simp[h0],.inl ⟨0,rfl,List.eq_nil_of_length_eq_zero h0⟩⟩
 ·exact⟨hl,by omega,.inr ⟨_,cap,rfl,fun j u hu=>ho.cells (g:=g) rfl j u hu⟩⟩
theorem Aw9.nil (w:World) (sz:Nat):Aw9 w (.slice none 0 0) sz []:=⟨by simp,by simp,.inl ⟨0,rfl,rfl⟩⟩
theorem Dd4 {e sz:Nat} {x:Operand} {K:List (List Value)→Prop} (h:Ey2 e sz x st W K): ∃ys,K ys∧Bo3 st W fun β σ a Wa=>Aw9 Wa.w (a.eval x) sz ys:=by
 unfold Ey2 at h
 obtain⟨s,hs,h1⟩:=Ac8 (W:=W) h
 split at hs
 ·rename_i k
  split at hs
  ·rename_i t sz' ys hC
   split at hs
   ·rename_i hb1 hb2
    obtain rfl:=Nat.eq_of_beq_eq_true hb1
    obtain rfl:=Nat.eq_of_beq_eq_true hb2
    refine⟨ys,hs,fun β σ a Wa hR hE=>?_⟩
    show Aw9 Wa.w (a.eval x) sz ys
    rw[(h1 β σ a Wa hR hE).1]
    exact(hR.C _ _ hC).1.behind
   ·exact hs.elim
  ·rename_i A n c hC
   obtain⟨ys,⟨_,hr⟩,hK⟩:=hs
   refine⟨ys,hK,fun β σ a Wa hR hE=>?_⟩
   show Aw9 Wa.w (a.eval x) sz ys
   rw[(h1 β σ a Wa hR hE).1]
   have hc:σ k = .slice A n c:=hR.C _ _ hC
   simp only[SV.val,hc]
   exact hr.behind hE
  ·exact hs.elim
 ·refine⟨[],hs,fun β σ a Wa hR hE=>?_⟩
  show Aw9 Wa.w (a.eval x) sz []
  rw[(h1 β σ a Wa hR hE).1]
  exact Aw9.nil _ _
 ·rename_i A n c _
  obtain⟨ys,⟨_,hr⟩,hK⟩:=hs
  refine⟨ys,hK,fun β σ a Wa hR hE=>?_⟩
  show Aw9 Wa.w (a.eval x) sz ys
  rw[(h1 β σ a Wa hR hE).1]
  exact hr.behind hE
 ·exact hs.elim
theorem Dn2 {t ty e:Nat} {j:TyI} (hd:P.underlying t=some (.slice e)) (hG:Af4 P e j) (hsz:0<j.size) {w:World} {v y:Value} {xs ys:List (List Value)} (ho:Ai0 w e j.size v xs) (hy:Aw9 w y j.size ys)
  (hby:0<j.bytes) (hb:(xs.length+ys.length)*j.bytes≤140737488355328):
  ∃v' w',(Builtin.append_ #[t,t] ty #[v,y]).run P w = .ok v' w'∧Ai0 w' e j.size v' (xs ++ ys)∧w.grownBy w' v.ownBlock∧(v'.ownBlock=v.ownBlock∨v'.ownBlock=some w.heap.size):=by
 obtain⟨⟨inf,hinf,hs1,hs2,hz⟩,_,_,hzs,_⟩:=hG
 obtain⟨hyl,hym,hyv⟩:=hy
 have hmx:xs.length+ys.length≤maxLen:=by
  have:(xs.length+ys.length)*1≤(xs.length+ys.length)*j.bytes:=Nat.mul_le_mul_left _ hby
  simp only[maxLen];omega
 rcases hyv with⟨c,rfl,rfl⟩ | ⟨ad,c,rfl,hc⟩
 ·rcases ho.2.2 with⟨rfl,h0⟩ | ⟨g,cap,cur,rfl,_,hh,hnc,hcm,hcs,htk⟩
  ·refine⟨.slice none 0 0,w,?_,by simpa using ho,⟨rfl,rfl,rfl,Nat.le_refl _,fun _ _ _=>rfl⟩,.inl rfl⟩
   simp[Builtin.append_,run_underlying hd,sizeOf,typeInfo,hinf,Builtin.lenOf,Builtin.firstCells]
  ·refine⟨.slice (some ⟨g,0,none⟩) xs.length cap,w,?_,by simpa using ho,⟨rfl,rfl,rfl,Nat.le_refl _,fun _ _ _=>rfl⟩,.inl rfl⟩
   simp[Builtin.append_,run_underlying hd,sizeOf,typeInfo,hinf,Builtin.lenOf,Builtin.firstCells,hnc,storeCells]
 ·have hnf:ys.flatten.length=ys.length*j.size:=Ac0 fun x hx=>(hyl x hx).1
  obtain⟨v',w',hr,h1,h2,_,h4⟩:=run_append_own_at (P:=P) w 0 t ty e inf j.zv j.size j.bytes hd hinf hz hs1 hs2 hzs hsz v xs.length xs.flatten ho.2 ad ys.length c ys.flatten hnf hc
   (by intro u hu;obtain⟨x,hx,hux⟩:=List.mem_flatten.1 hu;exact(hyl x hx).2 u hux) hmx hb (Nat.zero_le _)
  refine⟨v',w',hr,⟨?_,by simpa using h1⟩,h2,h4⟩
  intro x hx
  rcases List.mem_append.1 hx with h | h
  ·exact ho.1 x h
  ·exact hyl x h
end
end Go.SX
/- The symbolic evaluator: append; all effects together. -/
namespace Go.SX
variable {P:Program} {tt:List (Nat×TyI)} {W0:PW} {M:Nat→Prop}
section
variable {st:SS} {W:PW} {o:Oper} {K:SV→SS→PW→Prop}
theorem Ce1 {w w':World} {row:Option Nat} (h:w.grownBy w' row) (hd:w.drawn≤w'.drawn):Am7 (fun b=>row=some b) w w':=
 ⟨h.os,h.tape,h.output,h.size,fun b hb hn=>h.block b hb fun e=>hn e.symm,hd⟩
theorem Run.move {Wa:PW} {β:Nat→Nat} {σ:Nat→Value} {a:Act} (h:Run W0 M st W β σ a Wa) {k t sz e sz':Nat} {xs zs:List (List Value)} (hC:look st.C k=some (.row t sz xs)) {w':World} {v':Value}
  (hk:Am7 (fun b=>(σ k).ownBlock=some b) Wa.w w') (hO:Ai0 w' e sz' v' zs) (hv:v'.ownBlock=(σ k).ownBlock∨v'.ownBlock=some Wa.w.heap.size) (hlt: ∀g,v'.ownBlock=some g→g<w'.heap.size):
  Run W0 M (Ac4 (Af0 st k .dead) (.row e sz' zs)) W (upd β st.nx 0) (upd σ st.nx v') a ⟨w',fun b=>(Wa.S b∧¬(σ k).ownBlock=some b)∨v'.ownBlock=some b⟩∧
   Ah1 st (Ac4 (Af0 st k .dead) (.row e sz' zs))∧(∀i,i<st.nx→upd β st.nx 0 i=β i∧upd σ st.nx v' i=σ i):=by
 have hag: ∀i,i<st.nx→upd β st.nx 0 i=β i∧upd σ st.nx v' i=σ i:=fun i hi=>by simp[upd,show i≠st.nx by omega]
 have hkn:=h.nC _ _ hC
 have hlook: ∀i bl',look (Ac4 (Af0 st k .dead) (.row e sz' zs)).C i=some bl'→(i=st.nx∧bl' = .row e sz' zs)∨(i=k∧bl' = .dead)∨(i≠k∧i<st.nx∧look st.C i=some bl'):=by
  intro i bl' hc
  simp only[Ac4,Af0,Ab4] at hc
  split at hc
  ·rename_i he;exact .inl ⟨he.symm,(Option.some.inj hc).symm⟩
  ·split at hc
   ·rename_i he;exact .inr (.inl ⟨he.symm,(Option.some.inj hc).symm⟩)
   ·rename_i hne;exact .inr (.inr ⟨fun e=>hne e.symm,h.nC _ _ hc,hc⟩)
 have oldS: ∀i bl' g,i≠k→look st.C i=some bl'→Ab8 β σ i bl'=some g→Wa.S g∧¬(σ k).ownBlock=some g:=fun i bl' g hne hc hg=>
  ⟨Ca6 (h.rel.C i bl' hc) hg,fun e=>h.rel.inj i k bl' _ g hne hc hC hg (by simpa[Ab8] using e)⟩
 have hkS: ∀g,(σ k).ownBlock=some g→Wa.S g:=(h.rel.C k _ hC).2
 refine⟨⟨⟨h.rel.defers,h.rel.size,fun i s hs=>?_,fun i bl' hc=>?_,?_,h.rel.dom⟩,?_,?_,?_,?_,?_,h.b0,?_,?_⟩,?_,hag⟩
 ·obtain⟨h1,h2⟩:=h.rel.T i s hs
  exact⟨h1.trans (Ar8 hag h2).symm,(Ay6 hag h2).mono (Nat.le_succ _)⟩
 ·rcases hlook i bl' hc with⟨rfl,rfl⟩ | ⟨rfl,rfl⟩ | ⟨hne,hlt',hc'⟩
  ·refine⟨?_,fun g hg=>.inr (by simpa[upd] using hg)⟩
   simpa[upd] using hO
  ·trivial
  ·refine(h.rel.C i bl' hc').same hag hlt' fun g hg'=>?_
   obtain⟨hs,hno⟩:=oldS i bl' g hne hc' hg'
   exact⟨hk.block g (h.lt g hs) hno,.inl ⟨hs,hno⟩⟩
 ·intro i i' b1 b2 g hne h1 h2 hg1 hg2
  have clash: ∀i bl',i≠k→i<st.nx→look st.C i=some bl'→Ab8 (upd β st.nx 0) (upd σ st.nx v') i bl'=some g→Ab8 (upd β st.nx 0) (upd σ st.nx v') st.nx (.row e sz' zs)=some g→False:=by
   intro i bl' hne hlt' hc hg hg'
   rw[Ad7 hag hlt'] at hg
   obtain⟨hs,hno⟩:=oldS i bl' g hne hc hg
   simp only[Ab8,upd,if_true] at hg'
   rcases hv with hv | hv
   ·exact hno (by rw[←hv];exact hg')
   ·rw[hg'] at hv
    have:=h.lt g hs
    simp only[Option.some.injEq] at hv
    omega
  rcases hlook i b1 h1 with⟨rfl,rfl⟩ | ⟨rfl,rfl⟩ | ⟨hn1,hl1,hc1⟩
  ·rcases hlook i' b2 h2 with⟨rfl,rfl⟩ | ⟨rfl,rfl⟩ | ⟨hn2,hl2,hc2⟩
   ·exact hne rfl
   ·simp[Ab8] at hg2
   ·exact clash i' b2 hn2 hl2 hc2 hg2 hg1
  ·simp[Ab8] at hg1
  ·rcases hlook i' b2 h2 with⟨rfl,rfl⟩ | ⟨rfl,rfl⟩ | ⟨hn2,hl2,hc2⟩
   ·exact clash i b1 hn1 hl1 hc1 hg1 hg2
   ·simp[Ab8] at hg2
   ·rw[Ad7 hag hl1] at hg1
    rw[Ad7 hag hl2] at hg2
    exact h.rel.inj i i' b1 b2 g hne hc1 hc2 hg1 hg2
 ·refine h.ext.trans (B:=Wa) ⟨hk.size,fun b hb1 hb2=>⟨hk.block b hb1 fun e=>hb2 (hkS b e),fun hs=>?_⟩⟩
  rcases hs with hs | hs
  ·exact hb2 hs.1
  ·rcases hv with hv | hv
   ·exact hb2 (hkS b (by rw[←hv];exact hs))
   ·rw[hs] at hv
    simp only[Option.some.injEq] at hv
    omega
 ·exact h.Ai1.then hk fun i hi=>.inr (h.fresh k _ i hC (by simpa[Ab8] using hi))
 ·intro b hb
  rcases hb with hb | hb
  ·exact h.priv b hb.1
  ·rcases hv with hv | hv
   ·exact .inr (h.fresh k _ b hC (by simpa[Ab8,←hv] using hb))
   ·rw[hb] at hv
    simp only[Option.some.injEq] at hv
    exact .inr (by rw[hv];exact h.Ai1.size)
 ·intro b hb
  rcases hb with hb | hb
  ·exact Nat.lt_of_lt_of_le (h.lt b hb.1) hk.size
  ·exact hlt b hb
 ·refine fun b hb=>.inl ⟨h.s0 b hb,fun e=>?_⟩
  have:=h.b0 b hb
  have:=h.fresh k _ b hC (by simpa[Ab8] using e)
  omega
 ·intro i bl' hc
  rcases hlook i bl' hc with⟨rfl,_⟩ | ⟨rfl,_⟩ | ⟨_,hlt',_⟩
  ·exact Nat.lt_succ_self _
  ·exact Nat.lt_succ_of_lt hkn
  ·exact Nat.lt_succ_of_lt hlt'
 ·intro i bl' g hc hg'
  rcases hlook i bl' hc with⟨rfl,rfl⟩ | ⟨rfl,rfl⟩ | ⟨_,hlt',hc'⟩
  ·simp only[Ab8,upd,if_true] at hg'
   rcases hv with hv | hv
   ·exact h.fresh k _ g hC (by simpa[Ab8,←hv] using hg')
   ·rw[hg'] at hv
    simp only[Option.some.injEq] at hv
    rw[hv]
    exact h.Ai1.size
  ·simp[Ab8] at hg'
  ·rw[Ad7 hag hlt'] at hg'
   exact h.fresh i bl' g hc' hg'
 ·refine⟨Nat.le_succ _,rfl,[k],rfl,fun i hi hn=>?_⟩
  simp only[Ac4,Af0,Ab4]
  rw[if_neg (by omega),if_neg (by simpa using fun e=>hn (by simp[e]))]
end
end Go.SX
/- The symbolic evaluator: maps; an own row cut short. -/
namespace Go.SX
variable {P:Program} {tt:List (Nat×TyI)} {W0:PW} {M:Nat→Prop}
theorem Ax3 {sz:Nat} : ∀{xs:List (List Value)} (_: ∀x∈xs,x.length=sz) (k:Nat),(xs.take k).flatten=xs.flatten.take (k*sz)
 | [],_,k=>by simp
 | x :: xs,h,0=>by simp
 | x :: xs,h,k+1=>by
  have hx:=h x (by simp)
  have:=Ax3 (fun y hy=>h y (by simp[hy])) (xs:=xs) k
  simp only[List.take_succ_cons,List.flatten_cons,this]
  rw[List.take_append,hx,List.take_of_length_le (l:=x) (by rw[hx,Nat.add_mul];omega),show(k+1)*sz-sz=k*sz by rw[Nat.add_mul];omega]
theorem Own.take {W:PW} {t:TypeId} {sz:Nat} {s:Sl} {xs:List (List Value)} (h:Own W t sz s xs) {k:Nat} (hk:k≤xs.length):Own W t sz ⟨s.A,k,s.c⟩ (xs.take k):=by
 obtain⟨⟨hl,hlen,ho⟩,hS⟩:=h
 have hkl:(xs.take k).length=k:=by simp[hk]
 refine⟨⟨fun x hx=>hl x (List.mem_of_mem_take hx),?_,?_⟩,fun g hg=>hS g (by simp only[Sl.v] at hg⊢;cases hA:s.A<;>simp[hA,Value.ownBlock] at hg⊢;exact hg)⟩
 ·rw[Ax3 (fun x hx=>(hl x hx).1),List.length_take,hlen,hkl]
  exact Nat.min_eq_left (Nat.mul_le_mul_right _ hk)
 ·rw[hkl]
  rcases ho with⟨hv,hn⟩ | ⟨g,cap,cur,hv,h0,hh,h1,h2,h3,h4⟩
  ·have:xs = []:=List.length_eq_zero_iff.1 hn
   subst this
   simp only[Sl.v,Value.slice.injEq] at hv
   have hk0:k=0:=by simpa using hk
   subst hk0
   exact .inl ⟨by simp only[Sl.v,hv],rfl⟩
  ·simp only[Sl.v,Value.slice.injEq] at hv
   refine .inr ⟨g,cap,cur,by simp only[Sl.v,hv],h0,hh,by omega,h2,h3,?_⟩
   rw[Ax3 (fun x hx=>(hl x hx).1),←h4,List.take_take,Nat.min_eq_left (Nat.mul_le_mul_right _ hk)]
section
variable {st:SS} {W:PW} {o:Oper} {K:SV→SS→PW→Prop}
theorem Dl6 {d:TypeDesc} {k e:TypeId} (h:Au8 d = .map k e):d = .map k e:=by cases d<;>simp_all [Au8]
theorem Ext.pub {W Wa:PW} (hE:Ext W Wa) {g:Nat} {ob:Obj} (hS:¬W.S g) (hh:W.w.heap[g]?=some ob):¬Wa.S g∧Wa.w.heap[g]?=some ob:=
 have hk:=hE.Ai1 g (Array.getElem?_eq_some_iff.1 hh).1 hS
 ⟨hk.2,hk.1.trans hh⟩
theorem De7 {t:TypeId} (ho:o.op = .makeMap t none) (h:Cj7 W0 W fun g W=>K (.v (.map (some g))) st W):Az0 P W0 M st W o K:=by
 intro β σ a Wa Q hR
 have hk:=Am7.alloc (fun _=>False) Wa.w (.map #[] 0)
 have h2:=Run.world (Wa':=⟨Wa.w.alloc (.map #[] 0),Wa.S⟩) hR hk (fun _=>Iff.rfl) (fun _ h=>h.elim)
 refine Ae1 (v:=.map (some Wa.w.heap.size)) ?_ ⟨.v (.map (some Wa.w.heap.size)),β,σ,st,_,_,rfl,rfl,h2,trivial,rfl,h Wa.w.heap.size _ (hR.ext.trans ⟨hk.size,fun b hb hs=>⟨hk.block b hb id,hs⟩⟩) hR.ext.size hR.Ai1.size (fun hs=>?_) ?_,Ah1.refl _,Ab2⟩
 ·simp[execOp,ho,Instr.makeMap]
 ·have:=hR.lt _ hs
  omega
 ·exact heap_alloc_new _ _
theorem Dv3 (hT:Ac6 P tt) {t kt et:TypeId} {x k:Operand} {i j:TyI} (ho:o.op = .lookup t x k false) (hi:look tt t=some i) (hu:i.und = .map kt et) (hj:look tt et=some j)
  (h:evP W0 x st W fun m st W=>evP W0 k st W fun kv st W=>match m with
     | .map r=>∃g,r=some g∧Fg5 P kt W g kv j.zv fun v=>Cc9 tt et v fun y=>K (.v y) st W
     | _=>False):Az0 P W0 M st W o K:=by
 intro β σ a Wa Q hR
 obtain⟨_,⟨d,hd,hud⟩,_⟩:=hT.Aq3 hi
 obtain rfl:=Dl6 (hud.trans hu)
 obtain⟨m,st1,W1,Wa1,hK1,he,hw,hR1,hT1,hD1⟩:=Ah3 h hR
 obtain⟨kv,st2,W2,Wa2,hK,he2,hw2,hR2,hT2,hD2⟩:=Ah3 hK1 hR1
 clear hK1 h
 split at hK
 ·obtain⟨g,rfl,hKd,⟨lk,hlk⟩,es,c,hS,hh,hks,hyes,hno⟩:=hK
  obtain⟨hS',hh'⟩:=hR2.ext.pub hS hh
  have hww:Wa2.w=Wa.w:=hw2.trans hw
  rw[hww] at hh'
  have fin: ∀v,(Instr.lookup t (a.eval x) (a.eval k) false).run P Wa.w = .ok v Wa.w→K (.v v) st2 W2→o.wp P a Wa.w (Res W0 M st β σ a o K) Q:=fun v hr hv=>
   Ae1 (v:=v) (by simp[execOp,ho,hr]) (Res.of (hT2.trans hT1) (hD1.trans hD2) ⟨.v v,β,σ,st2,W2,Wa2,hww,rfl,hR2,trivial,rfl,hv,Ah1.refl _,Ab2⟩)
  have hck:=hKd.check Wa.w es.isEmpty hlk
  rcases hKd.find Wa.w hlk es.toList hks with⟨hf,hn⟩ | ⟨q,e,hf,hq,hek⟩
  ·refine fin j.zv ?_ (Al4 (hno hn))
   rw[he,he2]
   simp[Instr.lookup,run_underlying hd,getObj,Sem.run,hh',Sem.run_bind]
   simp only[Sem.run_bind,hck,hf,Result.andThen_ok,(hT.Aq3 hj).zero,Sem.run_pure]
  ·refine fin e.val ?_ (Al4 (hyes e (List.mem_of_getElem? hq) hek))
   rw[he,he2]
   simp[Instr.lookup,run_underlying hd,getObj,Sem.run,hh',Sem.run_bind]
   simp only[Sem.run_bind,hck,hf,Result.andThen_ok,Sem.run_pure]
 ·exact hK.elim
theorem Cg2 (hT:Ac6 P tt) {t kt et:TypeId} {x k y:Operand} {i:TyI} (ho:o.op = .mapUpdate t x k y) (hi:look tt t=some i) (hu:i.und = .map kt et)
  (h:evP W0 x st W fun m st W=>evP W0 k st W fun kv st W=>evP W0 y st W fun v st W=>match m with
    | .map r=>∃g,r=some g∧Fq4 P W0 M kt W g kv v fun W=>K (.v undef) st W
    | _=>False):Az0 P W0 M st W o K:=by
 intro β σ a Wa Q hR
 obtain⟨_,⟨d,hd,hud⟩,_⟩:=hT.Aq3 hi
 obtain rfl:=Dl6 (hud.trans hu)
 obtain⟨m,st1,W1,Wa1,hK1,he,hw,hR1,hT1,hD1⟩:=Ah3 h hR
 obtain⟨kv,st2,W2,Wa2,hK2,he2,hw2,hR2,hT2,hD2⟩:=Ah3 hK1 hR1
 obtain⟨v,st3,W3,Wa3,hK,he3,hw3,hR3,hT3,hD3⟩:=Ah3 hK2 hR2
 clear hK1 hK2 h
 split at hK
 ·obtain⟨g,rfl,hKd,⟨lk,hlk⟩,hK⟩:=hK
  obtain⟨es,c,hS,hh,hks,hmay,hK⟩:=hK Wa3 hR3.ext
  have hww:Wa3.w=Wa.w:=(hw3.trans hw2).trans hw
  have hh':=hh
  rw[hww] at hh'
  have hck:=hKd.check Wa.w false hlk
  have fin: ∀es' c',(Instr.mapUpdate t (a.eval x) (a.eval k) (a.eval y)).run P Wa.w = .ok () (ChangeMaps.setBlock Wa.w g (.map es' c'))→Eg5 es c kv v es' c'→o.wp P a Wa.w (Res W0 M st β σ a o K) Q:=by
   intro es' c' hr hp
   have hg:=(Array.getElem?_eq_some_iff.1 hh').1
   have hk:Am7 (fun b=>b=g) Wa.w (ChangeMaps.setBlock Wa.w g (.map es' c')):=⟨rfl,rfl,rfl,by simp[ChangeMaps.setBlock],fun b hb hn=>by simp[ChangeMaps.setBlock,Array.getElem?_setIfInBounds,show ¬g=b from fun e=>hn e.symm],Nat.le_refl _⟩
   have h2:=Run.world (Wa':=⟨ChangeMaps.setBlock Wa.w g (.map es' c'),Wa3.S⟩) hR3 (by rw[hww];exact hk) (fun _=>Iff.rfl) (fun g' e=>by subst e;exact⟨hS,hmay⟩)
   refine Ay3 (by simp[execOp,ho,hr]) (Res.of ((hT3.trans hT2).trans hT1) ((hD1.trans hD2).trans hD3) ⟨.v undef,β,σ,st3,_,_,rfl,rfl,h2,trivial,rfl,hK _ es' c' ⟨by rw[hww];exact hk.size,fun b hb hs hn=>⟨by rw[hww];exact hk.block b (by rw[←hww];exact hb) hn,hs⟩⟩ hS (by simp[ChangeMaps.setBlock,hg]) hp,Ah1.refl _,Ab2⟩)
  have hset: ∀ob,(setObj g ob).run P Wa.w = .ok () (ChangeMaps.setBlock Wa.w g ob):=fun ob=>by simp[setObj,Sem.run,hh',ChangeMaps.setBlock]
  rcases hKd.find Wa.w hlk es.toList hks with⟨hf,hn⟩ | ⟨q,e,hf,hq,hek⟩
  ·refine fin _ _ ?_ (.inr ⟨hn,rfl,rfl⟩)
   rw[he,he2,he3]
   simp only[Instr.mapUpdate,run_underlying hd,getObj,Sem.run_bind,Sem.run,hh',Result.andThen,hck,hf]
   exact hset _
  ·have hq':es[q]?=some e:=by simpa using hq
   refine fin _ _ ?_ (.inl ⟨q,e,hq',hek,rfl,rfl⟩)
   rw[he,he2,he3]
   have hst:=hKd.stays Wa.w hlk
   rw[←hek] at hst
   simp only[Instr.mapUpdate,run_underlying hd,getObj,Sem.run_bind,Sem.run,hh',Result.andThen,hck,hf,hq',Option.map_some,Option.getD_some]
   rw[←hek,hst]
   simp only[hek]
   exact hset _
 ·exact hK.elim
theorem Ef4 (hT:Ac6 P tt) {t kt et:TypeId} {x:Operand} {i:TyI} (ho:o.op = .range t x) (hi:look tt t=some i) (hu:i.und = .map kt et)
  (h:evP W0 x st W fun m st W=>match m with
    | .map r=>∃g,r=some g∧∃es c,¬W.S g∧W.w.heap[g]?=some (.map es c)∧K (.p st.nx 0) (Ac4 st (.itr g kt et c #[] c none)) W
    | _=>False):Az0 P W0 M st W o K:=by
 intro β σ a Wa Q hR
 obtain⟨_,⟨d,hd,hud⟩,_⟩:=hT.Aq3 hi
 obtain rfl:=Dl6 (hud.trans hu)
 obtain⟨m,st1,W1,Wa1,hK,he,hw,hR1,hT1,hD1⟩:=Ah3 h hR
 split at hK
 ·obtain⟨g,rfl,es,c,hS,hh,hK⟩:=hK
  obtain⟨_,hh'⟩:=hR1.ext.pub hS hh
  have hk:=Am7.alloc (fun _=>False) Wa1.w (.mapIter (some g) c #[] c)
  obtain⟨r1,r2,r3⟩:=Run.new (Wa':=⟨Wa1.w.alloc (.mapIter (some g) c #[] c),fun b=>Wa1.S b∨b=Wa1.w.heap.size⟩) (bl:=.itr g kt et c #[] c none) (b':=Wa1.w.heap.size) (v':=undef) hR1 hk
   (fun b=>by simp[Ab8,upd,eq_comm]) ⟨by simp only[upd,if_true,Ae4];exact heap_alloc_new _ _,by simp[upd]⟩ (fun b hb=>by simp[Ab8,upd] at hb;subst hb;simp)
  refine Ae1 (v:=.pointer (some ⟨Wa1.w.heap.size,0,none⟩)) ?_ (Res.of hT1 hD1 ⟨.p st1.nx 0,_,_,_,W1,_,by rw[hw],by simp[SV.val,upd],r1,Nat.lt_succ_self _,rfl,hK,r2,r3⟩)
  rw[hw] at hh'⊢
  simp[execOp,ho,he,Instr.range,run_underlying hd,getObj,Sem.run,hh']
 ·exact hK.elim
theorem Cm1 {w:World} {r:Nat} {ob:Obj} :Am7 (fun b=>b=r) w (ChangeMaps.setBlock w r ob):=⟨rfl,rfl,rfl,by simp[ChangeMaps.setBlock],fun b hb hn=>by simp[ChangeMaps.setBlock,Array.getElem?_setIfInBounds,show ¬r=b from fun e=>hn e.symm],Nat.le_refl _⟩
theorem Ex2 {x:Operand} {k g kt et since last:Nat} {seen:Array Nat} {cur:Option MapEntry} (ho:o.op = .next x false) (hx:Bo3 st W fun β σ a _=>a.eval x=SV.val β σ (.p k 0)) (hC:look st.C k=some (.itr g kt et since seen last cur))
  (h: ∃es c,¬W.S g∧W.w.heap[g]?=some (.map es c)∧(∀e∈es.toList,e.born<since)∧since≤last∧
    ((leftOf es (Ae4 seen cur)).size=0→K (.tb false []) st W)∧
    ∀e,e∈(leftOf es (Ae4 seen cur)).toList→K (.tb true [e.key,e.val]) (Af0 st k (.itr g kt et since (Ae4 seen cur) c (some e))) W):Az0 P W0 M st W o K:=by
 intro β σ a Wa Q hR
 obtain⟨es,c,hS,hh,hold,hsc,h0,hmore⟩:=h
 obtain⟨hS',hh'⟩:=hR.ext.pub hS hh
 obtain⟨hit,hSi⟩:=hR.rel.C _ _ hC
 have hxe:=hx β σ a Wa hR.rel hR.ext
 simp only[SV.val] at hxe
 rcases run_next_at (P:=P) Wa.w o.type (β k) g since last (Ae4 seen cur) es c hit hh' hold hsc with⟨hz,hr⟩ | ⟨e,he,w1,hw1,hr⟩
 ·exact Ae1 (v:=.tuple #[.bool false]) (by simp[execOp,ho,hxe,hr]) ⟨.tb false [],β,σ,st,W,Wa,rfl,rfl,hR,trivial,rfl,h0 hz,Ah1.refl _,Ab2⟩
 ·have hk:Am7 (fun b=>Ab8 β σ k (.itr g kt et since seen last cur)=some b) Wa.w (ChangeMaps.setBlock w1 (β k) (.mapIter (some g) since ((Ae4 seen cur).push e.born) c)):=by
   have h1:Am7 (fun b=>b=β k) w1 (ChangeMaps.setBlock w1 (β k) (.mapIter (some g) since ((Ae4 seen cur).push e.born) c)):=Cm1
   rcases hw1 with rfl | rfl
   ·exact⟨h1.os,h1.tape,h1.output,h1.size,fun b hb hn=>h1.block b hb fun e=>hn (by simp[Ab8,e]),h1.drawn⟩
   ·exact⟨h1.os,h1.tape,h1.output,h1.size,fun b hb hn=>h1.block b hb fun e=>hn (by simp[Ab8,e]),Nat.le_trans (Nat.le_succ _) h1.drawn⟩
  have hlt:β k<w1.heap.size:=by
   have:=(Array.getElem?_eq_some_iff.1 hit).1
   rcases hw1 with rfl | rfl<;>exact this
  obtain⟨h2,h3⟩:=Run.set (Wa':=⟨ChangeMaps.setBlock w1 (β k) (.mapIter (some g) since ((Ae4 seen cur).push e.born) c),Wa.S⟩) (bl:=.itr g kt et since (Ae4 seen cur) c (some e)) hR hC hk (fun _ h=>h) (fun _ h _=>h)
   ⟨by simp[ChangeMaps.setBlock,hlt,Ae4],hSi⟩ (fun g hg=>by simpa[Ab8] using hg)
  exact Ae1 (v:=.tuple #[.bool true,e.key,e.val]) (by simp[execOp,ho,hxe,hr]) ⟨.tb true [e.key,e.val],β,σ,_,W,_,rfl,rfl,h2,trivial,rfl,hmore e he,h3,Ab2⟩
theorem El1 {x:Operand} {k g kt et since last:Nat} {seen:Array Nat} {e:MapEntry} (ho:o.op = .entry x) (hx:Bo3 st W fun β σ a _=>a.eval x=SV.val β σ (.p k 0)) (hC:look st.C k=some (.itr g kt et since seen last (some e)))
  (h1: ∃es,¬W.S g∧W.w.heap[g]?=some (.map es last)∧e∈es.toList∧(es.toList.map (·.born)).Nodup) (h:Cc9 tt kt e.key fun kx=>Cc9 tt et e.val fun vx=>K (.v (.tuple #[kx,vx])) st W):Az0 P W0 M st W o K:=by
 intro β σ a Wa Q hR
 obtain⟨es,hS,hh,he,hn⟩:=h1
 obtain⟨hS',hh'⟩:=hR.ext.pub hS hh
 obtain⟨hit,hSi⟩:=hR.rel.C _ _ hC
 have hxe:=hx β σ a Wa hR.rel hR.ext
 simp only[SV.val] at hxe
 have hr:=run_entry_at (P:=P) Wa.w (β k) g since seen es last e hit hh' he hn
 exact Ae1 (v:=.tuple #[e.key,e.val]) (by simp[execOp,ho,hxe,hr]) ⟨.v _,β,σ,st,W,Wa,rfl,rfl,hR,trivial,rfl,Al4 (Al4 h),Ah1.refl _,Ab2⟩
theorem Ai0.take {w:World} {t sz:Nat} {A:Option Addr} {n c:Nat} {xs:List (List Value)} (h:Ai0 w t sz (.slice A n c) xs) {q:Nat} (hq:q≤xs.length):Ai0 w t sz (.slice A q c) (xs.take q):=
 (Own.take (W:=⟨w,fun _=>False⟩) (s:=⟨A,n,c⟩) ⟨h,fun _ _ h=>h⟩ hq).1
theorem Ff4 (hT:Ac6 P tt) {t e:TypeId} {x:Operand} {hi:Option Operand} {k sz:Nat} {xs:List (List Value)} {i j:TyI} (ho:o.op = .slice t x none hi none) (hx:Bo3 st W fun β σ a _=>a.eval x=SV.val β σ (.o k)) (hC:look st.C k=some (.row e sz xs))
  (hti:look tt t=some i) (hu:i.und = .slice e) (hj:look tt e=some j) (hsz:sz=j.size)
  (h:Fe5 st hi xs.length fun h=>(0≤h∧h≤(xs.length:Int))∧K (.o st.nx) (Ac4 (Af0 st k .dead) (.row e sz (xs.take h.toNat))) W):Az0 P W0 M st W o K:=by
 intro β σ a Wa Q hR
 subst hsz
 obtain⟨_,⟨d,hd,hud⟩,_⟩:=hT.Aq3 hti
 obtain rfl:=Ai6 (hud.trans hu)
 have hgj:=hT.Aq3 hj
 obtain⟨n,⟨hb,hK⟩,hn⟩:=As1 (W:=W) h
 obtain⟨hO,hSo⟩:=hR.rel.C _ _ hC
 have hxe:=hx β σ a Wa hR.rel hR.ext
 simp only[SV.val] at hxe
 have hsl: ∃A c,σ k = .slice A xs.length c∧xs.length≤c:=by
  rcases hO.2.2 with⟨hv,h0⟩ | ⟨g,cap,cur,hv,_,hh,hnc,_⟩
  ·exact⟨none,0,by rw[hv,h0],by omega⟩
  ·exact⟨_,cap,hv,hnc⟩
 obtain⟨A,c,hA,hle⟩:=hsl
 have hopt:(hi.map a.eval=none∧n=(xs.length:Int))∨∃q,hi.map a.eval=some (.int q n):=by
  rcases hn with⟨rfl,rfl⟩ | ⟨x,q,rfl,hx⟩
  ·exact .inl ⟨rfl,rfl⟩
  ·exact .inr ⟨q,by simp[hx β σ a Wa hR.rel hR.ext]⟩
 have hrb:=Ax7 (P:=P) (isSlice:=true) (len:=xs.length) (cap:=c) (lo:=none) (.inl ⟨rfl,rfl⟩) hopt (Int.le_refl 0) hb.1 (by omega) Wa.w
 have hO':Ai0 Wa.w e j.size (.slice A n.toNat c) (xs.take n.toNat):=by
  rw[hA] at hO
  exact hO.take (by omega)
 have hob:(Value.slice A n.toNat c).ownBlock=(σ k).ownBlock:=by rw[hA];cases A<;>rfl
 obtain⟨r1,r2,r3⟩:=Run.move hR hC (Am7.refl _ Wa.w) hO' (.inl hob) (fun g hg=>(hO'.2.lt g hg).2)
 refine Ae1 (v:=.slice A n.toNat c) ?_ ⟨.o st.nx,_,_,_,W,_,rfl,by simp[SV.val,upd],r1,Nat.lt_succ_self _,rfl,hK,r2,r3⟩
 rw[hA] at hxe
 have:=hrb
 simp[execOp,ho,hxe,Instr.sliceAt,Instr.slice,run_underlying hd,this,hgj.sizeOf]
 intro _
 cases A<;>simp[Addr.add]
end
end Go.SX
/- The symbolic evaluator: eff is sound. -/
namespace Go.SX
variable {P:Program} {tt:List (Nat×TyI)} {W0:PW} {M:Nat→Prop}
section
variable {st:SS} {W:PW} {o:Oper} {K:SV→SS→PW→Prop}
theorem Ai0.nil (w:World) (e sz:Nat):Ai0 w e sz (.slice none 0 0) []:=⟨by simp,World.ownsRow_nil w 0 e sz⟩
theorem Ai0.lt {w:World} {e sz:Nat} {v:Value} {xs:List (List Value)} (h:Ai0 w e sz v xs): ∀g,v.ownBlock=some g→g<w.heap.size:=fun g hg=>(h.2.lt g hg).2
theorem Bb8 {t:TypeId} {s x:Operand} (ho:o.op = .call {callee:=.builtin .append,args:=#[s,x],argTypes:=#[t,t] }) {a:Act} {w w':World} {v':Value}
  (hr:(Builtin.append_ #[t,t] o.type #[a.eval s,a.eval x]).run P w = .ok v' w'):(execOp a.eval o).run P w = .ok (.value v') w':=by
 unfold execOp
 simp only[ho,resolve,invoke,builtin,Sem.run_bind,Sem.run_pure,Result.andThen_ok,List.map_toArray,List.map_cons,List.map_nil,hr]
theorem Dw4 (hT:Ac6 P tt) {t e:TypeId} {s x:Operand} {i j:TyI} (ho:o.op = .call {callee:=.builtin .append,args:=#[s,x],argTypes:=#[t,t] }) (hi:look tt t=some i) (hu:i.und = .slice e) (hj:look tt e=some j)
  (hsz:0<j.size) (hby:0<j.bytes)
  (h:Ey2 e j.size x st W fun ys=>ev st s fun sv=>match sv with
       | .n=>(ys.length*j.bytes≤140737488355328)∧K (.o st.nx) (Ac4 st (.row e j.size ys)) W
       | .o k=>match look st.C k with
        | some (.row t2 sz2 xs)=>match Nat.beq t2 e,Nat.beq sz2 j.size with
         | true,true=>((xs.length+ys.length)*j.bytes≤140737488355328)∧K (.o st.nx) (Ac4 (Af0 st k .dead) (.row e j.size (xs ++ ys))) W
         | _,_=>False
        | some (.pub (.slice A n c))=>Es7 W0 M e j.size j.bytes ⟨A,n,c⟩ ys W fun s' W=>K (.v s'.v) st W
        | _=>False
       | .v (.slice A n c)=>Es7 W0 M e j.size j.bytes ⟨A,n,c⟩ ys W fun s' W=>K (.v s'.v) st W
       | _=>False):Az0 P W0 M st W o K:=by
 intro β σ a Wa Q hR
 obtain⟨_,⟨d,hd,hud⟩,_⟩:=hT.Aq3 hi
 obtain rfl:=Ai6 (hud.trans hu)
 have hgj:=hT.Aq3 hj
 obtain⟨ys,hys,h1⟩:=Dd4 h
 obtain⟨sv,hsv,h2⟩:=Ac8 (W:=W) hys
 have hB:=h1 β σ a Wa hR.rel hR.ext
 have he:=(h2 β σ a Wa hR.rel hR.ext).1
 have pub: ∀{A n c},a.eval s = .slice A n c→Es7 W0 M e j.size j.bytes ⟨A,n,c⟩ ys W (fun s' W=>K (.v s'.v) st W)→o.wp P a Wa.w (Res W0 M st β σ a o K) Q:=by
  intro A n c hs hA
  obtain⟨xs,⟨hO,hS⟩,hmay,hb,hK⟩:=hA Wa hR.ext
  obtain⟨v',w',hr,hO',hg,hv⟩:=Dn2 (P:=P) (ty:=o.type) hd hgj hsz hO hB hby hb
  have hrun:=Bb8 (P:=P) ho (a:=a) (w:=Wa.w) (w':=w') (v':=v') (by rw[hs];exact hr)
  have hS': ∀g,v'.ownBlock=some g→¬Wa.S g:=by
   intro g hgg hn
   rcases hv with hv | hv
   ·exact hS g (by rw[←hv];exact hgg) hn
   ·rw[hgg] at hv
    have:=hR.lt g hn
    simp only[Option.some.injEq] at hv
    omega
  have hR':=Run.world (Wa':=⟨w',Wa.S⟩) hR (Ce1 hg (By1 _ _ _ hrun)) (fun _=>Iff.rfl) (fun g e=>⟨hS g e,hmay g e⟩)
  obtain⟨s',rfl,hOwn⟩:=Own.Er0 (W:=⟨w',Wa.S⟩) hO' hS'
  refine Ae1 hrun ⟨.v s'.v,β,σ,st,_,_,rfl,rfl,hR',trivial,rfl,hK s' _ ⟨hg.size,fun b hb1 hb2 hn=>⟨hg.block b hb1 fun e=>hn e.symm,hb2⟩⟩ hOwn (fun g hgg=>?_),Ah1.refl _,Ab2⟩
  rcases hv with hv | hv
  ·exact .inl (by rw[←hv];exact hgg)
  ·rw[hgg] at hv
   simp only[Option.some.injEq] at hv
   exact .inr (by rw[hv];exact Nat.le_refl _)
 split at hsv
 ·obtain⟨hb,hK⟩:=hsv
  obtain⟨v',w',hr,hO',hg,hv⟩:=Dn2 (P:=P) (ty:=o.type) hd hgj hsz (Ai0.nil Wa.w e j.size) hB hby (by simpa using hb)
  have hrun:=Bb8 (P:=P) ho (a:=a) (w:=Wa.w) (w':=w') (v':=v') (by rw[he];exact hr)
  have hv': ∀g,v'.ownBlock=some g→g=Wa.w.heap.size:=by
   intro g hgg
   rcases hv with hv | hv
   ·rw[hgg] at hv;simp[Value.ownBlock] at hv
   ·rw[hgg] at hv;exact Option.some.inj hv
  simp only[List.nil_append] at hO'
  obtain⟨r1,r2,r3⟩:=Run.new (Wa':=⟨w',fun b=>Wa.S b∨v'.ownBlock=some b⟩) (bl:=.row e j.size ys) (b':=0) (v':=v') hR ⟨hg.os,hg.tape,hg.output,hg.size,fun b hb _=>hg.block b hb (by simp[Value.ownBlock]),By1 _ _ _ hrun⟩
   (fun b=>by simp[Ab8,upd]) ⟨by simpa[upd] using hO',fun g hgg=>.inr (by simpa[upd] using hgg)⟩
   (fun g hgg=>by
    have hgg:v'.ownBlock=some g:=by simpa[Ab8,upd] using hgg
    have:=hv' g hgg
    exact⟨by omega,hO'.lt g hgg⟩)
  exact Ae1 hrun ⟨.o st.nx,_,_,_,W,_,rfl,by simp[SV.val,upd],r1,Nat.lt_succ_self _,rfl,hK,r2,r3⟩
 ·rename_i k
  split at hsv
  ·rename_i t2 sz2 xs hC
   split at hsv
   ·rename_i hb1 hb2
    obtain rfl:=Nat.eq_of_beq_eq_true hb1
    obtain rfl:=Nat.eq_of_beq_eq_true hb2
    obtain⟨hb,hK⟩:=hsv
    obtain⟨hO,hS⟩:=hR.rel.C _ _ hC
    obtain⟨v',w',hr,hO',hg,hv⟩:=Dn2 (P:=P) (ty:=o.type) hd hgj hsz hO hB hby hb
    have hrun:=Bb8 (P:=P) ho (a:=a) (w:=Wa.w) (w':=w') (v':=v') (by rw[he];exact hr)
    obtain⟨r1,r2,r3⟩:=Run.move hR hC (Ce1 hg (By1 _ _ _ hrun)) hO' hv hO'.lt
    exact Ae1 hrun ⟨.o st.nx,_,_,_,W,_,rfl,by simp[SV.val,upd],r1,Nat.lt_succ_self _,rfl,hK,r2,r3⟩
   ·exact hsv.elim
  ·rename_i A n c hC
   exact pub (by rw[he];exact hR.rel.C _ _ hC) hsv
  ·exact hsv.elim
 ·exact pub he hsv
 ·exact hsv.elim
theorem Df3 {s:Shp} {K:Value→Prop} (h:Em0 s K) {v:Value} (hv:Ff6 s v=true):K v:=by
 cases s<;>cases v<;>simp only[Ff6,Bool.false_eq_true] at hv<;>first | exact h _ | (obtain rfl:=of_decide_eq_true hv;exact h _) | exact h ⟨_,_,_⟩
theorem Am9: ∀{l:List Shp} {K:List Value→Prop} (_:Ax9 l K) {vs:List Value} (_:Ai7 l vs=true),K vs
 | [],K,h,[],_=>h
 | [],K,h,_ :: _,hv=>by simp[Ai7] at hv
 | s :: r,K,h,[],hv=>by simp[Ai7] at hv
 | s :: r,K,h,v :: vs,hv=>by
  simp only[Ai7,Bool.and_eq_true] at hv
  exact Am9 (l:=r) (Df3 h hv.1) hv.2
theorem Ey4 {W:PW} {t:TypeId} {sz:Nat} {s:Sl} {ys:List (List Value)} (h:Row W t sz s ys) (n:Nat):(∀x∈ys.take n,x.length=sz∧∀u∈x,u.oneCell'=true)∧(ys.take n).flatten.length=Nat.min s.n n*sz:=by
 have hl: ∀x∈ys.take n,x.length=sz∧∀u∈x,u.oneCell'=true:=fun x hx=>h.2.2.2.1 x (List.mem_of_mem_take hx)
 refine⟨hl,?_⟩
 rw[Ac0 fun x hx=>(hl x hx).1,List.length_take,h.1]
 show min n ys.length*sz=min ys.length n*sz
 rw[Nat.min_comm]
theorem Et7 (hT:Ac6 P tt) {t t' e:TypeId} {d x:Operand} {i j:TyI} (ho:o.op = .call {callee:=.builtin .copy,args:=#[d,x],argTypes:=#[t,t'] }) (hi:look tt t=some i) (hu:i.und = .slice e) (hj:look tt e=some j)
  {k n m c:Nat} {A:Option Addr} {cs:List Value} {ys:List (List Value)} (hd:Bo3 st W fun β σ a _=>a.eval d=SV.val β σ (.bs k n)∧Az7 st.nx β σ (.bs k n)) (hx:Bo3 st W fun _ _ a _=>a.eval x = .slice A m c)
  (hC:look st.C k=some (.box cs)) (hn:n*j.size=cs.length) (hr:Bf9 W j.size ⟨A,m,c⟩ ys) (hsh:Ai7 (cs.map Eq0) (Aj6 cs 0 (ys.take n).flatten)=true)
  (h:Ax9 (cs.map Eq0) fun l=>l=Aj6 cs 0 (ys.take n).flatten→K (.v (.int .i64 ((Nat.min m n:Nat):Int))) (Af0 st k (.box l)) W):Az0 P W0 M st W o K:=by
 intro β σ a Wa Q hR
 obtain⟨_,⟨dd,hdd,hud⟩,_⟩:=hT.Aq3 hi
 obtain rfl:=Ai6 (hud.trans hu)
 have hK:=Am9 h hsh rfl
 obtain⟨⟨e',hh⟩,hS⟩:=hR.rel.C _ _ hC
 have hed:=(hd β σ a Wa hR.rel hR.ext).1
 have hex:=hx β σ a Wa hR.rel hR.ext
 obtain⟨t2,hr⟩:=hr
 have hr:=hr.ext hR.ext
 obtain⟨hl,hlen⟩:=Ey4 hr n
 have hone: ∀u∈(ys.take n).flatten,u.oneCell'=true:=by
  intro u hu
  obtain⟨y,hy,hu⟩:=List.mem_flatten.1 hu
  exact(hl y hy).2 u hu
 have hle:(ys.take n).flatten.length≤cs.length:=by
  rw[hlen,←hn]
  exact Nat.mul_le_mul_right _ (Nat.min_le_right _ _)
 have hst:=run_storeCells_at P (β k) 0 e' (ys.take n).flatten 0 cs.toArray Wa.w hh (by simpa using hle) hone
 simp only[Nat.zero_add] at hst
 rw[show cs.toArray.toList.take 0 ++ (ys.take n).flatten ++ cs.toArray.toList.drop (ys.take n).flatten.length=Aj6 cs 0 (ys.take n).flatten by rw[Al5 _ _ _ (by omega)];simp] at hst
 have hload:(Builtin.firstCells j.size (Nat.min m n) (.slice A m c)).run P Wa.w = .ok (ys.take n).flatten.toArray Wa.w:=by
  have hlen':(ys.take n).flatten.length=Nat.min m n*j.size:=hlen
  rcases hr.2.2.2.2 with h0 | ⟨g,q,cur,fz,hA,_,hhh,hcell⟩
  ·have hm:m=0:=by have:=hr.1;rw[h0] at this;exact this
   subst hm h0
   have hl0: ∀(x:Addr),(loadCells x 0).run P Wa.w = .ok #[] Wa.w:=fun x=>by simpa using run_loadCells_list (P:=P) Wa.w x [] (by simp)
   cases A<;>simp[Builtin.firstCells,hl0]
  ·have hA':A=some ⟨g,q,none⟩:=hA
   subst hA'
   simp only[Builtin.firstCells]
   rw[←hlen']
   refine run_loadCells_list (P:=P) Wa.w ⟨g,q,none⟩ (ys.take n).flatten fun i v hv=>?_
   rw[Addr.add_lit]
   have hc:=hcell i v ?_
   ·simpa[World.cell?,hhh] using hc
   ·rw[←List.take_append_drop n ys,List.flatten_append,List.getElem?_append_left]
    ·exact hv
    ·exact(List.getElem?_eq_some_iff.1 hv).1
 have hrun:(execOp a.eval o).run P Wa.w = .ok (.value (.int .i64 ((Nat.min m n:Nat):Int))) (Wa.w.setRow (β k) (Aj6 cs 0 (ys.take n).flatten).toArray):=by
  unfold execOp
  simp only[ho,resolve,invoke,builtin,Sem.run_bind,Sem.run_pure,Result.andThen_ok,List.map_toArray,List.map_cons,List.map_nil,hed,hex,SV.val]
  simp[Builtin.copy_,run_underlying hdd,Builtin.lenOf,(hT.Aq3 hj).sizeOf,hload,hst,goInt]
 obtain⟨h2,h3⟩:=Run.set (Wa':=⟨Wa.w.setRow (β k) (Aj6 cs 0 (ys.take n).flatten).toArray,Wa.S⟩) (bl:=.box (Aj6 cs 0 (ys.take n).flatten)) hR hC
  ⟨rfl,rfl,rfl,by simp,fun b _ hn=>setRow_other _ _ _ _ (fun he=>hn (by simp[Ab8,he])),Nat.le_refl _⟩ (fun b hb=>hb) (fun b hb _=>hb)
  ⟨⟨e',setRow_heap _ _ _ _ _ _ hh⟩,hS⟩ (fun g hg=>by simpa[Ab8] using hg)
 exact Ae1 hrun ⟨.v (.int .i64 ((Nat.min m n:Nat):Int)),β,σ,_,W,_,rfl,rfl,h2,trivial,rfl,hK,h3,Ab2⟩
theorem Aw7 {a:Act} {w:World} {next next':Act→World→Prop} {Q:Exit→Act→World→Prop} (h:o.wp P a w next Q) (hn: ∀a' w',next a' w'→next' a' w'):o.wp P a w next' Q:=by
 unfold Oper.wp at h⊢
 generalize (execOp a.eval o).run P w=r at h
 unfold Oper.upon at h⊢
 split at h
 ·exact hn _ _ h
 ·exact hn _ _ h
 ·exact hn _ _ h
 ·refine Calls.mono h ?_
  intro e w'' he
  cases e with
  | returned v=>exact hn _ _ he
  | panicked c=>exact he
  | outgrown=>exact he
 ·exact Rows.mono h fun v w'' h=>hn _ _ h
 ·exact h
 ·exact h.elim
theorem Iz8 {f:FuncId} {first captured:Array Operand} (ho:o.op = .makeFunc (.func f) first captured) (hf:first.toList = []) (h:Fh7 W0 captured.toList st W fun m st W=>K (.v (.func (.func f) #[] m.toArray)) st W):Az0 P W0 M st W o K:=by
 intro β σ a Wa Q hR
 obtain⟨vs,st1,W1,Wa1,hK,he,hw,hR1,hT1,hD1⟩:=Bh0 h hR
 obtain rfl:first = #[]:=Array.toList_eq_nil_iff.1 hf
 have e2:captured.map a.eval=vs.toArray:=by
  apply Array.ext'
  simp[←he]
 refine Ae1 (v:=.func (.func f) #[] vs.toArray) ?_ ⟨.v (.func (.func f) #[] vs.toArray),β,σ,st1,W1,Wa1,hw,rfl,hR1,trivial,hT1,hK,hD1,Ab2⟩
 simp[execOp,ho,Instr.makeFunc,e2]
theorem bool_and {a b:Bool} (h:(a && b)=true):a=true∧b=true:=by simpa using h
theorem Cs1 (hT:Ac6 P tt) (hF:Ae7 tt) (h:Ci6 P tt W0 M o st W K):Az0 P W0 M st W o K:=by
 unfold Ci6 at h
 split at h
 ·rename_i t ho
  split at h
  ·rename_i i hi
   exact Ef5 hT ho hi h
  ·exact h.elim
 ·rename_i t x ho
  exact Fg1 ho h
 ·rename_i t parts ho
  split at h
  ·rename_i i hi
   split at h
   ·rename_i hagg
    exact Ep5 hT hF ho hi hagg h
   ·exact h.elim
  ·exact h.elim
 ·rename_i t len parts ho
  split at h
  ·rename_i i hi
   split at h
   ·rename_i e hu
    split at h
    ·rename_i j hj
     split at h
     ·rename_i hb1 hb2
      obtain⟨hb2,hb3⟩:=bool_and hb2
      exact Ca0 hT ho hi hu hj (Nat.le_of_ble_eq_true hb1) (Nat.le_of_ble_eq_true hb2) hb3 h
     ·exact h.elim
    ·exact h.elim
   ·exact h.elim
  ·exact h.elim
 ·rename_i t l c ho
  split at h
  ·rename_i i hi
   split at h
   ·rename_i e hu
    split at h
    ·rename_i j hj
     split at h
     ·rename_i hb
      obtain⟨hb,hb3⟩:=bool_and hb
      obtain⟨hb1,hb2⟩:=bool_and hb
      exact Co1 hT ho hi hu hj (Nat.le_of_ble_eq_true hb1) (Nat.le_of_ble_eq_true hb2) hb3 h
     ·exact h.elim
    ·exact h.elim
   ·exact h.elim
  ·exact h.elim
 ·rename_i t p x ho
  split at h
  ·rename_i i hi
   intro β σ a Wa Q hR
   obtain⟨v,st1,W1,Wa1,hK,he,hw,hR1,hT1,hD1⟩:=Ah3 h hR
   split at hK
   ·rename_i hb1 hb2
    have hl:=Nat.eq_of_beq_eq_true hb1
    obtain⟨s,hs,h1⟩:=Ac8 (W:=W1) hK
    obtain⟨hp,hok⟩:=h1 β σ a Wa1 hR1.rel hR1.ext
    rw[←hw]
    have lift:o.wp P a Wa1.w (Res W0 M st1 β σ a o K) Q→o.wp P a Wa1.w (Res W0 M st β σ a o K) Q:=fun h=>Aw7 h fun _ _ h=>Res.of hT1 hD1 h
    refine lift ?_
    split at hs
    ·rename_i k off
     split at hs
     ·rename_i cs hC
      split at hs
      ·rename_i hle
       exact Bl2 hT ho hi hl hb2 hC (Nat.le_of_ble_eq_true hle) hR1 he hp hs
      ·exact hs.elim
     ·exact hs.elim
    ·rename_i k sz ix off
     split at hs
     ·rename_i t' sz' xs hC
      split at hs
      ·rename_i hb3 hb4
       obtain rfl:=Nat.eq_of_beq_eq_true hb3
       have hle:off+i.size≤sz:=Nat.le_of_ble_eq_true hb4
       have hxl:=(hR1.rel.C _ _ hC).1.1
       have hone:=Bd5 hb2
       split at hs
       ·rename_i hb5
        have hsz:=Nat.eq_of_beq_eq_true hb5
        obtain⟨hix,hs⟩:=hs
        have hoff:off=0:=by omega
        subst hoff
        refine Bk4 hT ho hi hl hb2 hC hle hix (by rw[Nat.add_zero];exact Ap5 (fun x hx=>(hxl x hx).1) hix (hl.trans hsz)) (by simp) ?_ hR1 he hp hs
        intro x hx
        rcases List.mem_or_eq_of_mem_set hx with hx | rfl
        ·exact hxl x hx
        ·exact⟨hl.trans hsz,hone⟩
       ·obtain⟨hix,hs⟩:=hs
        obtain⟨f1,f2⟩:=Co0 (fun x hx=>(hxl x hx).1) hix (l:=Ac7 v) (off:=off) (by omega)
        refine Bk4 hT ho hi hl hb2 hC hle hix f1 (by simp[Ci8]) ?_ hR1 he hp hs
        intro x hx
        have hm:=Ds3 hix
        rcases List.mem_or_eq_of_mem_set hx with hx | rfl
        ·exact hxl x hx
        ·refine⟨f2 (hxl _ hm).1,fun u hu=>?_⟩
         simp only[patch,List.mem_append] at hu
         rcases hu with(hu | hu) | hu
         ·exact(hxl _ hm).2 u (List.mem_of_mem_take hu)
         ·exact hone u hu
         ·exact(hxl _ hm).2 u (List.mem_of_mem_drop hu)
      ·exact hs.elim
     ·exact hs.elim
    ·exact Cv1 hT ho hi hl hb2 hR1 he hp hs
    ·rename_i k base sz len ix off
     split at hs
     ·rename_i cs hC
      split at hs
      ·rename_i hb3 hb4
       exact Dj8 hT ho hi hl hb2 hC (Nat.le_of_ble_eq_true hb3) (Nat.le_of_ble_eq_true hb4) hR1 he hp hs
      ·exact hs.elim
     ·exact hs.elim
    ·exact hs.elim
   ·exact hK.elim
  ·exact h.elim
 ·rename_i f args tys ho
  intro β σ a Wa Q hR
  obtain⟨s,hs,h1⟩:=Ac8 (W:=W) h
  have he:=(h1 β σ a Wa hR.rel hR.ext).1
  split at hs
  ·exact Ez2 ho hR he hs
  ·exact hs.elim
 ·rename_i args tys ho
  split at h
  ·rename_i s x t t' hargs htys
   have hargs:args = #[s,x]:=by apply Array.ext';simpa using hargs
   have htys:tys = #[t,t']:=by apply Array.ext';simpa using htys
   subst hargs;subst htys
   split at h
   ·rename_i i hb hi
    obtain rfl:=Nat.eq_of_beq_eq_true hb
    split at h
    ·rename_i e hu
     split at h
     ·rename_i j hj
      split at h
      ·rename_i hb
       obtain⟨hb1,hb2⟩:=bool_and hb
       exact Dw4 hT ho hi hu hj (Nat.le_of_ble_eq_true hb1) (Nat.le_of_ble_eq_true hb2) h
      ·exact h.elim
     ·exact h.elim
    ·exact h.elim
   ·exact h.elim
  ·exact h.elim
 ·rename_i args tys ho
  split at h
  ·rename_i d x t t' hargs htys
   have hargs:args = #[d,x]:=by apply Array.ext';simpa using hargs
   have htys:tys = #[t,t']:=by apply Array.ext';simpa using htys
   subst hargs;subst htys
   split at h
   ·rename_i i hi
    split at h
    ·rename_i e hu
     split at h
     ·rename_i j hj
      obtain⟨ds,hds,h1⟩:=Ac8 (W:=W) h
      split at hds
      ·rename_i k n
       obtain⟨v,hv,h2⟩:=Ad5 (W:=W) hds
       split at hv
       ·rename_i A m c
        split at hv
        ·rename_i cs hC
         split at hv
         ·rename_i hb
          obtain⟨ys,hr,hsh,hK⟩:=hv
          exact Et7 hT ho hi hu hj h1 h2 hC (Nat.eq_of_beq_eq_true hb) hr hsh hK
         ·exact hv.elim
        ·exact hv.elim
       ·exact hv.elim
      ·exact hds.elim
     ·exact h.elim
    ·exact h.elim
   ·exact h.elim
  ·exact h.elim
 ·rename_i t ho
  split at h
  ·split at h
   ·exact De7 ho h
   ·exact h.elim
  ·exact h.elim
 ·rename_i t x k ho
  split at h
  ·rename_i i hi
   split at h
   ·rename_i kt et hu
    split at h
    ·rename_i j hj
     exact Dv3 hT ho hi hu hj h
    ·exact h.elim
   ·exact h.elim
  ·exact h.elim
 ·rename_i t x k y ho
  split at h
  ·rename_i i hi
   split at h
   ·rename_i kt et hu
    exact Cg2 hT ho hi hu h
   ·exact h.elim
  ·exact h.elim
 ·rename_i t x ho
  split at h
  ·rename_i i hi
   split at h
   ·rename_i kt et hu
    exact Ef4 hT ho hi hu h
   ·exact h.elim
  ·exact h.elim
 ·rename_i x ho
  obtain⟨s,hs,h1⟩:=Ac8 (W:=W) h
  split at hs
  ·rename_i k
   split at hs
   ·rename_i g kt et since seen last cur hC
    exact Ex2 ho (fun β σ a Wa hR hE=>(h1 β σ a Wa hR hE).1) hC hs
   ·exact hs.elim
  ·exact hs.elim
 ·rename_i x ho
  obtain⟨s,hs,h1⟩:=Ac8 (W:=W) h
  split at hs
  ·rename_i k
   split at hs
   ·rename_i g kt et since seen last e hC
    exact El1 ho (fun β σ a Wa hR hE=>(h1 β σ a Wa hR hE).1) hC hs.1 hs.2
   ·exact hs.elim
  ·exact hs.elim
 ·rename_i t x hi ho
  obtain⟨s,hs,h1⟩:=Ac8 (W:=W) h
  split at hs
  ·rename_i k
   split at hs
   ·rename_i t2 sz xs hC
    split at hs
    ·rename_i i hti
     split at hs
     ·rename_i e hu
      split at hs
      ·rename_i j hj
       split at hs
       ·rename_i hb1 hb2
        obtain rfl:=Nat.eq_of_beq_eq_true hb1
        exact Ff4 hT ho (fun β σ a Wa hR hE=>(h1 β σ a Wa hR hE).1) hC hti hu hj (Nat.eq_of_beq_eq_true hb2) hs
       ·exact hs.elim
      ·exact hs.elim
     ·exact hs.elim
    ·exact hs.elim
   ·exact Ek0 hT hF hs
  ·exact Ek0 hT hF hs
 ·rename_i f first captured ho
  split at h
  ·exact Ek0 hT hF h
  ·rename_i x r hcap
   split at h
   ·rename_i hfirst
    rw[←hcap] at h
    exact Iz8 ho hfirst h
   ·exact h.elim
 ·exact Ek0 hT hF h
end
end Go.SX
/- The symbolic evaluator: rows of operations, in the order of the text, are sound. -/
namespace Go.SX
variable {P:Program} {tt:List (Nat×TyI)} {W0:PW} {M:Nat→Prop}
def Out (W0:PW) (M:Nat→Prop) (st0:SS) (β0:Nat→Nat) (σ0:Nat→Value) (a0:Act) (ds:List Nat) (K:SS→PW→Prop) (a:Act) (w:World):Prop:=
 ∃β σ st W Wa,Wa.w=w∧Run W0 M st W β σ a Wa∧K st W∧Ah1 st0 st∧(∀k,k<st0.nx→β k=β0 k∧σ k=σ0 k)∧∀i,¬i∈ds→a.tmps.getD i undef=a0.tmps.getD i undef
theorem Out.of {st0 st1:SS} {β0 β1:Nat→Nat} {σ0 σ1:Nat→Value} {a0 a1 a:Act} {ds ds1 ds2:List Nat} {K K':SS→PW→Prop} {w:World} (hD:Ah1 st0 st1) (hag: ∀k,k<st0.nx→β1 k=β0 k∧σ1 k=σ0 k)
  (hT: ∀i,¬i∈ds1→a1.tmps.getD i undef=a0.tmps.getD i undef) (h1: ∀i,i∈ds1→i∈ds) (h2: ∀i,i∈ds2→i∈ds) (hK: ∀st W,K st W→K' st W) (h:Out W0 M st1 β1 σ1 a1 ds2 K a w):Out W0 M st0 β0 σ0 a0 ds K' a w:=by
 obtain⟨β,σ,st,W,Wa,hw,hR,hk,hD',hag',hT'⟩:=h
 exact⟨β,σ,st,W,Wa,hw,hR,hK _ _ hk,hD.trans hD',fun k hk=>⟨(hag' k (Nat.lt_of_lt_of_le hk hD.nx)).1.trans (hag k hk).1,(hag' k (Nat.lt_of_lt_of_le hk hD.nx)).2.trans (hag k hk).2⟩,
  fun i hi=>(hT' i fun h=>hi (h2 i h)).trans (hT i fun h=>hi (h1 i h))⟩
theorem As6 (a:Act) (d:Nat) (v:Value) (i:Nat):(a.put (some d) v).tmps.getD i undef=if i=d∧d<a.tmps.size then v else a.tmps.getD i undef:=by
 simp only[Act.put,Array.getD_eq_getD_getElem?,Array.getElem?_setIfInBounds]
 by_cases h:d=i
 ·subst h
  by_cases hlt:d<a.tmps.size
  ·simp[hlt]
  ·simp[hlt]
 ·simp[h,show ¬i=d from fun e=>h e.symm]
theorem Run.Fk3 {st:SS} {W Wa:PW} {β:Nat→Nat} {σ:Nat→Value} {a:Act} {d:Nat} {s:SV} (h:Run W0 M st W β σ a Wa) (hd:d<st.n) (hs:Az7 st.nx β σ s) {v:Value} (hv:v=s.val β σ):
  Run W0 M {st with T:=(d,s) :: st.T } W β σ (a.put (some d) v) Wa:=by
 refine⟨⟨h.rel.defers,by simp[Act.put,h.rel.size],fun i s' hi=>?_,h.rel.C,h.rel.inj,fun i s' hi=>?_⟩,h.ext,h.Ai1,h.priv,h.lt,h.s0,h.b0,h.nC,h.fresh⟩
 ·rw[As6]
  simp only[Ab4] at hi
  split at hi
  ·rename_i he
   subst he
   obtain rfl:=Option.some.inj hi
   rw[if_pos ⟨rfl,by rw[h.rel.size];exact hd⟩]
   exact⟨hv,hs⟩
  ·rename_i hne
   rw[if_neg fun e=>hne e.1.symm]
   exact h.rel.T i s' hi
 ·simp only[Ab4] at hi
  split at hi
  ·rename_i he;subst he;exact hd
  ·exact h.rel.dom i s' hi
theorem Ct7 (st:SS) (T:List (Nat×SV)):Ah1 st {st with T:=T }:=⟨Nat.le_refl _,rfl,[],rfl,fun _ _ _=>rfl⟩
theorem Bz1 {gd:Bool} {o:Oper} {s:SV} {st:SS} {Kf:SS→Prop} (h:fin gd o s st Kf) {W Wa:PW} {β:Nat→Nat} {σ:Nat→Value} {a:Act} (hR:Run W0 M st W β σ a Wa) (hs:Az7 st.nx β σ s):
  ∃st',Kf st'∧Run W0 M st' W β σ (a.put o.dst (s.val β σ)) Wa∧Ah1 st st'∧∀i,¬i∈Av0 o→(a.put o.dst (s.val β σ)).tmps.getD i undef=a.tmps.getD i undef:=by
 unfold fin at h
 cases hd:o.dst with
 | none=>
  rw[hd] at h
  exact⟨st,h,hR,Ah1.refl _,fun _ _=>rfl⟩
 | some d=>
  rw[hd] at h
  simp only at h
  have htm: ∀v i,¬i∈Av0 o→(a.put (some d) v).tmps.getD i undef=a.tmps.getD i undef:=by
   intro v i hi
   rw[As6,if_neg]
   rintro⟨rfl,_⟩
   exact hi (by simp[Av0,hd])
  split at h
  ·rename_i hb
   have hlt:d<st.n:=Nat.le_of_ble_eq_true hb
   split at h
   ·obtain⟨t,ht,hv⟩:=As5 h
    exact⟨_,ht,hR.Fk3 (s:=.b t) hlt trivial (hv β σ),Ct7 _ _,fun i hi=>htm _ i hi⟩
   ·exact⟨_,h,hR.Fk3 hlt hs rfl,Ct7 _ _,fun i hi=>htm _ i hi⟩
  ·exact h.elim
theorem Bp5 {ops:Array Oper} {o og:Oper} {j:Nat} {want b:Bool} {d:Nat} {a:Act} (hg:o.guard=some (j,want)) (hj:ops.toList[j]?=some og) (hd:og.dst=some d) (hlt:d<a.tmps.size) (hv:a.tmps.getD d undef = .bool b):
  Region.wanted o (yielded ops a.tmps)=(b == want):=by
 have hj':ops[j]?=some og:=by simpa using hj
 have hd':a.tmps[d]?=some (.bool b):=by
  rw[Array.getD_eq_getD_getElem?,Array.getElem?_eq_getElem hlt] at hv
  rw[Array.getElem?_eq_getElem hlt]
  simpa using hv
 simp only[Region.wanted,hg,yielded,hj',Option.bind_some,hd,hd']
 cases b<;>cases want<;>rfl
theorem Bv3 {ops:Array Oper} {o og:Oper} {j:Nat} {want:Bool} {d:Nat} {a:Act} {l:Array Value} (hg:o.guard=some (j,want)) (hj:ops.toList[j]?=some og) (hd:og.dst=some d) (hv:a.tmps.getD d undef = .tuple l):
  Region.wanted o (yielded ops a.tmps)=false:=by
 have hj':ops[j]?=some og:=by simpa using hj
 have hy:yielded ops a.tmps j=none:=by
  simp only[yielded,hj',Option.bind_some,hd]
  rw[Array.getD_eq_getD_getElem?] at hv
  cases h:a.tmps[d]? with
  | none=>rfl
  | some x=>rw[h] at hv;simp only[Option.getD_some] at hv;subst hv;rfl
 simp only[Region.wanted,hg,hy]
 rfl
theorem Dx7 (hT:Ac6 P tt) (hF:Ae7 tt) {ops:Array Oper} {i:Nat} {o:Oper} (ho:ops[i]?=some o) {st:SS} {W:PW} {K:SS→PW→Prop} (h:Fi7 P tt W0 M ops.toList i o st W K)
  {β:Nat→Nat} {σ:Nat→Value} {a:Act} {Wa:PW} (hR:Run W0 M st W β σ a Wa) {Q:Exit→Act→World→Prop} {rest:List Nat}
  (hQ: ∀a' w',Out W0 M st β σ a (Av0 o) K a' w'→wpOps P ops Q rest a' w'):wpOps P ops Q (i :: rest) a Wa.w:=by
 simp only[wpOps,ho]
 have run:Ci6 P tt W0 M o st W (fun s st W=>fin (guards ops.toList i) o s st fun st=>K st W)→o.wp P a Wa.w (wpOps P ops Q rest) Q:=by
  intro h
  refine Aw7 (Cs1 hT hF h β σ a Wa Q hR) ?_
  rintro a' w' ⟨s,β',σ',st',W',Wa',hw,rfl,hR',hs,hTe,hfin,hD,hag⟩
  obtain⟨st2,hK,hR2,hD2,htm⟩:=Bz1 hfin hR' hs
  exact hQ _ _ ⟨β',σ',st2,W',Wa',hw,hR2,hK,hD.trans hD2,hag,htm⟩
 unfold Fi7 at h
 split at h
 ·rename_i hg
  have hw:Region.wanted o (yielded ops a.tmps)=true:=by simp[Region.wanted,hg]
  rw[if_pos hw]
  exact .inl (run h)
 ·rename_i j want hg
  split at h
  ·rename_i og hj
   split at h
   ·rename_i d hd
    split at h
    ·rename_i b hb
     obtain⟨hv,_⟩:=hR.rel.T _ _ hb
     have hlt:d<a.tmps.size:=by rw[hR.rel.size];exact hR.rel.dom _ _ hb
     have hw:=Bp5 hg hj hd hlt hv
     split at h
     ·rename_i he
      rw[if_pos (hw.trans he)]
      exact .inl (run h)
     ·rename_i he
      rw[if_neg (by rw[hw,he];simp)]
      obtain⟨st2,hK,hR2,hD2,htm⟩:=Bz1 h hR (s:=.v undef) trivial
      exact hQ _ _ ⟨β,σ,st2,W,Wa,rfl,hR2,hK,hD2,Ab2,htm⟩
    ·rename_i l hb
     rw[if_neg (by rw[Bv3 hg hj hd (hR.rel.T _ _ hb).1];simp)]
     obtain⟨st2,hK,hR2,hD2,htm⟩:=Bz1 h hR (s:=.v undef) trivial
     exact hQ _ _ ⟨β,σ,st2,W,Wa,rfl,hR2,hK,hD2,Ab2,htm⟩
    ·exact h.elim
   ·exact h.elim
  ·exact h.elim
theorem Bq6 (hT:Ac6 P tt) (hF:Ae7 tt) {ops:Array Oper} {Q:Exit→Act→World→Prop} : ∀(l:List Oper) (i:Nat) {st:SS} {W:PW} {K:SS→PW→Prop} (_:ops.toList.drop i=l) (_:Ff8 P tt W0 M ops.toList i l st W K)
  {β:Nat→Nat} {σ:Nat→Value} {a:Act} {Wa:PW} (_:Run W0 M st W β σ a Wa) (_: ∀a' w',Out W0 M st β σ a (l.flatMap Av0) K a' w'→Q .normal a' w'),wpOps P ops Q (List.range' i l.length) a Wa.w
 | [],i,st,W,K,_,h,β,σ,a,Wa,hR,hQ=>hQ _ _ ⟨β,σ,st,W,Wa,rfl,hR,h,Ah1.refl _,Ab2,fun _ _=>rfl⟩
 | o :: r,i,st,W,K,hl,h,β,σ,a,Wa,hR,hQ=>by
  have hlt:i<ops.toList.length:=by
   rcases Nat.lt_or_ge i ops.toList.length with h | h
   ·exact h
   ·rw[List.drop_of_length_le h] at hl;cases hl
  have ho:ops[i]?=some o:=by
   rw[List.drop_eq_getElem_cons hlt] at hl
   have:=(List.cons.inj hl).1
   rw[←this]
   simp at hlt
   simp[hlt]
  have hr:ops.toList.drop (i+1)=r:=by
   rw[List.drop_eq_getElem_cons hlt] at hl
   exact(List.cons.inj hl).2
  rw[List.length_cons,List.range'_succ]
  refine Dx7 hT hF ho h hR ?_
  rintro a' w' ⟨β1,σ1,st1,W1,Wa1,rfl,hR1,hK1,hD1,hag1,htm1⟩
  refine Bq6 hT hF r (i+1) hr hK1 hR1 fun a2 w2 hO=>hQ _ _ ?_
  exact Out.of hD1 hag1 htm1 (fun i hi=>List.mem_flatMap.2 ⟨o,by simp,hi⟩) (fun i hi=>by
   obtain⟨o',ho',hi'⟩:=List.mem_flatMap.1 hi
   exact List.mem_flatMap.2 ⟨o',by simp[ho'],hi'⟩) (fun _ _ h=>h) hO
end Go.SX
/- The symbolic evaluator: what calls and values leave alone. -/
namespace Go.SX
variable {P:Program} {tt:List (Nat×TyI)} {W0:PW} {M:Nat→Prop}
def Dq9 (st:SS) (β:Nat→Nat) (σ:Nat→Value) (Wa:PW) (st':SS) (β':Nat→Nat) (σ':Nat→Value) (Wa':PW):Prop:=
 ∀g,Wa.S g→Ax6 st β σ g→Wa'.S g∧Wa'.w.heap[g]?=Wa.w.heap[g]?∧Ax6 st' β' σ' g
theorem Dq9.refl {st:SS} {β:Nat→Nat} {σ:Nat→Value} {Wa:PW} :Dq9 st β σ Wa st β σ Wa:=fun g h1 h2=>⟨h1,rfl,h2⟩
theorem Dq9.w {st st':SS} {β:Nat→Nat} {σ:Nat→Value} {Wa Wa':PW} (hw:Wa'.w=Wa.w) (h: ∀g,Ax6 st β σ g→Wa.S g→Ax6 st' β σ g∧Wa'.S g):Dq9 st β σ Wa st' β σ Wa':=fun g h1 h2=>⟨(h g h2 h1).2,by rw[hw],(h g h2 h1).1⟩
theorem Dq9.C {st st1 st2:SS} {β β1:Nat→Nat} {σ σ1:Nat→Value} {Wa Wb:PW} (h:Dq9 st β σ Wa st1 β1 σ1 Wb) (hC:st2.C=st1.C):Dq9 st β σ Wa st2 β1 σ1 Wb:=fun g h1 h2=>
 let⟨a1,a2,a3⟩:=h g h1 h2
 ⟨a1,a2,fun k bl hk=>a3 k bl (hC ▸ hk)⟩
def Ft0 (W0:PW) (M:Nat→Prop) (st:SS) (β:Nat→Nat) (σ:Nat→Value) (a:Act) (Wa:PW) (o:Oper) (K:SV→SS→PW→Prop) (a':Act) (w':World):Prop:=
 ∃s β' σ' st' W' Wa',Wa'.w=w'∧a'=a.put o.dst (s.val β' σ')∧Run W0 M st' W' β' σ' a Wa'∧Az7 st'.nx β' σ' s∧st'.T=st.T∧K s st' W'∧Ah1 st st'∧(∀k,k<st.nx→β' k=β k∧σ' k=σ k)∧Dq9 st β σ Wa st' β' σ' Wa'
theorem Ds1 {st:SS} {W Wa:PW} {β:Nat→Nat} {σ:Nat→Value} {a:Act} (hR:Run W0 M st W β σ a Wa) {bl:Blk} {b':Nat} {v':Value} {g:Nat} (h:Ax6 st β σ g) (hb:Ab8 (upd β st.nx b') (upd σ st.nx v') st.nx bl≠some g):
  Ax6 (Ac4 st bl) (upd β st.nx b') (upd σ st.nx v') g:=fun k bl' hc=>by
 simp only[Ac4,Ab4] at hc
 split at hc
 ·rename_i he
  subst he
  obtain rfl:=Option.some.inj hc
  exact hb
 ·have hlt:=hR.nC _ _ hc
  rw[Ad7 (n:=st.nx) (fun k hk=>⟨by unfold upd;rw[if_neg (by omega)],by unfold upd;rw[if_neg (by omega)]⟩) hlt]
  exact h k bl' hc
theorem Bf3 (w:World) (ob:Obj) {g:Nat} (h:g<w.heap.size):(w.alloc ob).heap[g]?=w.heap[g]?:=heap_alloc_old w ob h
theorem Ed2 (hT:Ac6 P tt) (hF:Ae7 tt) {o:Oper} {st:SS} {W:PW} {K:SV→SS→PW→Prop} (hfr:Fg8 o.op=true) (h:Ci6 P tt W0 M o st W K)
  {β:Nat→Nat} {σ:Nat→Value} {a:Act} {Wa:PW} {Q:Exit→Act→World→Prop} (hR:Run W0 M st W β σ a Wa):o.wp P a Wa.w (Ft0 W0 M st β σ a Wa o K) Q:=by
 have flat:fl tt st W o.op (fun s=>K s st W)→o.wp P a Wa.w (Ft0 W0 M st β σ a Wa o K) Q:=by
  intro h
  obtain⟨s,hK,hs⟩:=Bo1 hT hF (P:=P) h
  exact Ae1 (hs β σ a Wa hR.rel hR.ext).1 ⟨s,β,σ,st,W,Wa,rfl,rfl,hR,(hs β σ a Wa hR.rel hR.ext).2,rfl,hK,Ah1.refl _,Ab2,Dq9.refl⟩
 unfold Ci6 at h
 split at h
 ·rename_i t ho
  split at h
  ·rename_i i hi
   have hg:=hT.Aq3 hi
   obtain⟨h1,h2,h3⟩:=Di7 hR i.zv.cells.toList t
   refine Ae1 (v:=.pointer (some ⟨Wa.w.heap.size,0,none⟩)) ?_ ⟨.p st.nx 0,_,_,_,W,_,rfl,?_,h1,Nat.lt_succ_self _,rfl,h,h2,h3,fun g g1 g2=>⟨.inl g1,?_,Ds1 hR g2 ?_⟩⟩
   ·simp[execOp,ho,Instr.alloc,hg.zero,newVar,newRow]
   ·simp[SV.val,upd]
   ·exact Bf3 _ _ (hR.lt g g1)
   ·simp only[Ab8,upd,if_true,ne_eq,Option.some.injEq]
    have:=hR.lt g g1
    omega
  ·exact h.elim
 ·rename_i ho;rw[ho] at hfr;cases hfr
 ·rename_i t parts ho
  split at h
  ·rename_i i hi
   split at h
   ·rename_i hagg
    obtain⟨vs,st1,W1,Wa1,hK,he,hw,hR1,hT1,hD1,hF1⟩:=Bb3 h hR
    obtain⟨cs,hK2,h1⟩:=Ba6 (W:=W1) hT hF hi hagg hK
    refine Ae1 (v:=.agg cs.toArray) ?_ ⟨.v (.agg cs.toArray),β,σ,st1,W1,Wa1,hw,rfl,hR1,trivial,hT1,hK2,hD1,Ab2,Dq9.w hw hF1⟩
    have hb:(Instr.build t (parts.map fun(i,x)=>(i,a.eval x))).run P Wa1.w = .ok (.agg cs.toArray) Wa1.w:=h1 β σ a Wa1 hR1.rel hR1.ext
    rw[hw] at hb
    simp[execOp,ho,hb]
   ·exact h.elim
  ·exact h.elim
 ·rename_i ho;rw[ho] at hfr;cases hfr
 ·rename_i ho;rw[ho] at hfr;cases hfr
 ·rename_i ho;rw[ho] at hfr;cases hfr
 ·rename_i f args tys ho
  obtain⟨s,hs,h1⟩:=Ac8 (W:=W) h
  have hf:=(h1 β σ a Wa hR.rel hR.ext).1
  split at hs
  ·rename_i g first captured
   obtain⟨vs,st1,W1,Wa1,hK,he,hw,hR1,hT1,hD1,hF1⟩:=Bb3 hs hR
   obtain⟨N,Post,⟨⟨fn,hfn,hbody,hname⟩,hcall⟩,hN,hK⟩:=hK Wa1 hR1.ext
   have hb:fn.body.isNone=false:=by cases hfb:fn.body<;>simp_all
   have hargs:(first ++ args.map a.eval ++ captured)=(first.toList ++ vs ++ captured.toList).toArray:=by
    apply Array.ext'
    simp[←he]
   have hf:a.eval f = .func (.func g) first captured:=hf
   have hrun:(execOp a.eval o).run P Wa.w = .ok (.enter g (first.toList ++ vs ++ captured.toList).toArray) Wa.w:=by
    simp only[execOp,ho,resolve,hf,Deferred.ofValue,Sem.run_bind,Sem.run_pure,Result.andThen_ok,invoke,callFunc,run_program,hfn,hname,hb,hargs]
    rfl
   unfold Oper.wp
   rw[hrun]
   simp only[Oper.upon]
   have hc:=hcall hR1.lt
   rw[hw] at hc
   refine Calls.mono hc ?_
   rintro e w'' ⟨v,rfl,hk,hP⟩
   have h2:=Run.world (Wa':=⟨w'',Wa1.S⟩) hR1 (by rw[hw];exact hk) (fun _=>Iff.rfl) hN
   have hE:Au9 N Wa1 ⟨w'',Wa1.S⟩:=⟨by rw[hw];exact hk.size,fun b hb hs hn=>⟨by rw[hw];exact hk.block b (by rw[←hw];exact hb) hn,hs⟩⟩
   refine⟨.v v,β,σ,st1,_,_,rfl,rfl,h2,trivial,hT1,Al4 (hK v _ hE hP),hD1,Ab2,fun g g1 g2=>?_⟩
   obtain⟨k1,k2⟩:=hF1 g g2 g1
   exact⟨k2,hk.block g (hR.lt g g1) fun hn=>(hN g hn).1 k2,k1⟩
  ·exact hs.elim
 ·rename_i ho;rw[ho] at hfr;cases hfr
 ·rename_i ho;rw[ho] at hfr;cases hfr
 ·rename_i ho;rw[ho] at hfr;cases hfr
 ·rename_i ho;rw[ho] at hfr;cases hfr
 ·rename_i ho;rw[ho] at hfr;cases hfr
 ·rename_i ho;rw[ho] at hfr;cases hfr
 ·rename_i ho;rw[ho] at hfr;cases hfr
 ·rename_i ho;rw[ho] at hfr;cases hfr
 ·rename_i ho;rw[ho] at hfr;cases hfr
 ·rename_i f first captured ho
  split at h
  ·exact flat h
  ·rename_i x r hcap
   rw[ho] at hfr
   simp[Fg8,Ft3,hcap] at hfr
 ·exact flat h
theorem Run.Ex3 {st:SS} {W Wa:PW} {β:Nat→Nat} {σ:Nat→Value} {a:Act} (h:Run W0 M st W β σ a Wa) {cs:List Value} {g:Nat} (hb: ∃t,Wa.w.heap[g]?=some (.cells cs.toArray t (0,0))) (hS:Wa.S g) (h0:W0.w.heap.size≤g) (hf:Ax6 st β σ g):
  Run W0 M (Ac4 st (.box cs)) W (upd β st.nx g) (upd σ st.nx undef) a Wa∧Ah1 st (Ac4 st (.box cs))∧(∀k,k<st.nx→upd β st.nx g k=β k∧upd σ st.nx undef k=σ k):=by
 have hag: ∀k,k<st.nx→upd β st.nx g k=β k∧upd σ st.nx undef k=σ k:=fun k hk=>by simp[upd,show k≠st.nx by omega]
 have hlook: ∀k bl',look (Ac4 st (.box cs)).C k=some bl'→(k=st.nx∧bl' = .box cs)∨(k<st.nx∧look st.C k=some bl'):=by
  intro k bl' hc
  simp only[Ac4,Ab4] at hc
  split at hc
  ·rename_i he;exact .inl ⟨he.symm,(Option.some.inj hc).symm⟩
  ·exact .inr ⟨h.nC _ _ hc,hc⟩
 refine⟨⟨⟨h.rel.defers,h.rel.size,fun i s hs=>?_,fun k bl' hc=>?_,?_,h.rel.dom⟩,h.ext,h.Ai1,h.priv,h.lt,h.s0,h.b0,?_,?_⟩,?_,hag⟩
 ·obtain⟨h1,h2⟩:=h.rel.T i s hs
  exact⟨h1.trans (Ar8 hag h2).symm,(Ay6 hag h2).mono (Nat.le_succ _)⟩
 ·rcases hlook k bl' hc with⟨rfl,rfl⟩ | ⟨hlt,hc'⟩
  ·simp only[Cm9,upd,if_true]
   exact⟨hb,hS⟩
  ·exact(h.rel.C k bl' hc').same hag hlt fun g hg'=>⟨rfl,Ca6 (h.rel.C k bl' hc') hg'⟩
 ·intro k k' bl1 bl2 g' hne h1 h2 hg1 hg2
  have old: ∀k bl',look st.C k=some bl'→k<st.nx→Ab8 (upd β st.nx g) (upd σ st.nx undef) k bl'=some g'→g'≠g:=by
   intro k bl' hc hlt hg' e
   rw[Ad7 hag hlt] at hg'
   exact hf k bl' hc (e ▸ hg')
  have new:Ab8 (upd β st.nx g) (upd σ st.nx undef) st.nx (.box cs)=some g'→g'=g:=fun e=>by
   simp only[Ab8,upd,if_true,Option.some.injEq] at e
   exact e.symm
  rcases hlook k bl1 h1 with⟨rfl,rfl⟩ | ⟨hlt,hc⟩<;>rcases hlook k' bl2 h2 with⟨rfl,rfl⟩ | ⟨hlt',hc'⟩
  ·exact hne rfl
  ·exact old k' bl2 hc' hlt' hg2 (new hg1)
  ·exact old k bl1 hc hlt hg1 (new hg2)
  ·rw[Ad7 hag hlt] at hg1
   rw[Ad7 hag hlt'] at hg2
   exact h.rel.inj k k' bl1 bl2 g' hne hc hc' hg1 hg2
 ·intro k bl' hc
  rcases hlook k bl' hc with⟨rfl,_⟩ | ⟨hlt,_⟩
  ·exact Nat.lt_succ_self _
  ·exact Nat.lt_succ_of_lt hlt
 ·intro k bl' g' hc hg'
  rcases hlook k bl' hc with⟨rfl,rfl⟩ | ⟨hlt,hc'⟩
  ·simp only[Ab8,upd,if_true,Option.some.injEq] at hg'
   omega
  ·rw[Ad7 hag hlt] at hg'
   exact h.fresh k bl' g' hc' hg'
 ·refine⟨Nat.le_succ _,rfl,[],rfl,fun k hk _=>?_⟩
  simp only[Ac4,Ab4]
  rw[if_neg (by omega)]
theorem Run.side {st:SS} {W Wa:PW} {β:Nat→Nat} {σ:Nat→Value} {a:Act} (h:Run W0 M st W β σ a Wa) (ob:Obj):Run W0 M st W β σ a ⟨Wa.w.alloc ob,fun b=>Wa.S b∨b=Wa.w.heap.size⟩ where
 rel:=⟨h.rel.defers,h.rel.size,h.rel.T,fun k bl hc=>(h.rel.C k bl hc).same (n:=k+1) (fun _ _=>⟨rfl,rfl⟩) (Nat.lt_succ_self k) fun g hg=>by
   have hs:=Ca6 (h.rel.C k bl hc) hg
   exact⟨Bf3 _ _ (h.lt g hs),.inl hs⟩,h.rel.inj,h.rel.dom⟩
 ext:=h.ext.trans ⟨(Am7.alloc (fun _=>False) Wa.w ob).size,fun b hb1 hb2=>⟨Bf3 _ _ hb1,fun hs=>by rcases hs with hs | hs;exact hb2 hs;omega⟩⟩
 Ai1:=h.Ai1.then (Am7.alloc (fun _=>False) Wa.w ob) fun i hi=>hi.elim
 priv:=fun b hb=>by
  rcases hb with hs | hs
  ·exact h.priv b hs
  ·exact .inr (by have:=h.Ai1.size;omega)
 lt:=fun b hb=>by
  have:=(Am7.alloc (fun _=>False) Wa.w ob).size
  rcases hb with hs | hs
  ·exact Nat.lt_of_lt_of_le (h.lt b hs) this
  ·subst hs
   simp
 s0:=fun b hb=>.inl (h.s0 b hb)
 b0:=h.b0
 nC:=h.nC
 fresh:=h.fresh
end Go.SX
