/- cincturelaw15: Of, Is, told, alive. -/
import Derived.Test.YthpmkcidkcmlgaaGreatW19
import Derived.Test.YthpmkcidkcmlgaaGreatLib4
import Derived.Test.YthpmkcidkcmlgaaGreatR15
import Derived.Test.YthpmkcidkcmlgaaGreatW14
import Derived.Test.YthpmkcidkcmlgaaGreatR10
set_option linter.unusedVariables false
set_option linter.unusedSimpArgs false
set_option maxRecDepth 100000
set_option linter.unusedVariables false
set_option linter.unusedSimpArgs false
namespace Go.Proofs.YthpmkcidkcmlgaaGreat
open Go Go.SX
def aT:DT:=⟨⟨⟨[48]⟩⟩,⟨⟨[50]⟩⟩,⟨⟨[48]⟩⟩,⟨⟨[48]⟩⟩,⟨⟨[48]⟩⟩,⟨⟨[49]⟩⟩⟩
def aB (i:Nat):Iv:=if i=0 then(0,2) else if i=1 then(0,0) else(0,1)
theorem a_sp: ∀i,i<3→spP (aT.lo i) (aT.hi i)=some (aB i):=fun i hi=>by
 rcases(by omega:i=0∨i=1∨i=2) with rfl | rfl | rfl<;>decide +kernel
theorem a_side: ∀i,i<3→sideOK aT i:=fun i hi=>⟨by rw[a_sp i hi];rfl,by rcases(by omega:i=0∨i=1∨i=2) with rfl | rfl | rfl<;>decide,by rcases(by omega:i=0∨i=1∨i=2) with rfl | rfl | rfl<;>decide⟩
theorem ivTm_congr {b b':Nat→Iv} (h: ∀i,i<3→b i=b' i) (t:Tm): ∀j,j≤3→ivTm b t j=ivTm b' t j
 | 0,_=>rfl
 | j+1,hj=>by rw[ivTm,ivTm,ivTm_congr h t j (by omega),h j (by omega)]
theorem ivOver_congr {b b':Nat→Iv} (h: ∀i,i<3→b i=b' i) (p:List Tm):ivOver b p=ivOver b' p:=by
 unfold ivOver
 have:(fun a t=>ivAdd a (ivTm b t 3))=fun a t=>ivAdd a (ivTm b' t 3):=by
  funext a t
  rw[ivTm_congr h t 3 (Nat.le_refl _)]
 rw[this]
theorem mdMul_congr {b b':Nat→Iv} (h: ∀i,i<3→b i=b' i) (n:Int) (x y:Mdl):mdMul b n x y=mdMul b' n x y:=by
 unfold mdMul cutP
 simp only[ivOver_congr h]
def aX:Mdl:=(varP 0,(0,0))
theorem a_mul:mdMul aB 1 aX aX=([],(0,4)):=by decide +kernel
theorem a_right {b:Nat→Iv} (h: ∀i,i<3→b i=aB i):DRight b 1:=by
 unfold DRight
 rw[h 0 (by omega),h 1 (by omega),h 2 (by omega)]
 decide +kernel
theorem aX_b:MdB 10 1 1 aX:=⟨(bd_one (Sz.one (Nat.le_refl 1))).mono (by decide),BdI.zero (Nat.le_refl 1),by
 rw[show aX.1=pnorm (varP 0) from by decide +kernel];exact pnorm_good _,fun t ht=>by
 have:t=((⟨1,0,0⟩:Mon),(1:Rat)):=by simpa[aX,varP,unitM] using ht
 subst this
 decide⟩
theorem sz_4:IvS 1 ((0:Rat),(4:Rat)):=⟨Sz.zero (Nat.le_refl 1),by
 rw[show(4:Rat)=((4:Int):Rat) from rfl]
 exact sz_small (by omega) (by omega)⟩
theorem law15alive_ok {W0:PW} {M:Nat→Prop} :
  PCallsM Go.Proofs.Tryz.prog 46 [] W0 M fun v W'=>v = .bool true∧True:=by
 apply calllaw15_alive
 refine law15Domain_call (t:=aT) (n:=1) (fun i=>by unfold DT.lo DT.hi aT;(repeat' split)<;>decide) fun l l' ok b W2 hE2 ⟨hD,hR,hB,hok,hb⟩=>dom_out hD hR ?_
 intros
 rename_i hD hR
 have hok':ok=true:=hok.2 a_side
 have hbe: ∀i,i<3→b i=aB i:=fun i hi=>by have:=(hb hok' i hi).symm.trans (a_sp i hi);exact Option.some.inj this
 refine polyVar_call fun s44 W43 hE43 h43=>⟨s44,rfl,?_⟩
 have hX:MdV 317 188 W43 [s44.v,.slice none 0 0,.bool false,.slice none 0 0,.slice none 0 0,.bool false,.slice none 0 0] aX:=MdV.mk (x:=aX) h43 (SpV.zero W43)
 refine tmodMul_call (hD.ext hE43) hX hX aX_b aX_b hB.bd (by omega) (by omega) (by omega) (by omega) (by omega) (by omega) (by decide) (by decide) fun r W46 hE46 h46=>h46.out fun s47 s48 b49 s50 s51 b52 s53 h46 hp hr=>?_
 have hdr:=a_right hbe
 rw[if_pos hdr,mdMul_congr hbe,a_mul] at hp hr
 refine⟨fun _=>⟨fun _=>?_,fun e=>absurd e (by simp[hdr])⟩,fun e=>absurd e (by simp[hok'])⟩
 obtain⟨xs,hrow,ha⟩:=hp
 have hxl:=ha.len
 refine polyTerms_call hrow (by simp at hxl;simp[hxl]) fun s57 W56 hE56 ⟨_,hO⟩=>⟨s57,rfl,fun _=>?_,fun e=>absurd ?_ e⟩
 ·refine refRatOf_call (z:=0) (by unfold I64;omega) fun b60 s61 s62 W59 hE59 h59=>⟨b60,s61,s62,rfl,refRatOf_call (z:=4) (by unfold I64;omega) fun b65 s66 s67 W64 hE64 h64=>⟨b65,s66,s67,rfl,?_⟩⟩
  exact law5Is_call (x:=(0,4)) (hr.ext (hE56.trans (hE59.trans hE64))) (RSpV.mk (x:=(0,4)) (h59.ext hE64) h64) sz_4 (by omega) fun W69 hE69 _=>⟨true,rfl,fun W71 _=>⟨rfl,trivial⟩⟩
 ·have:=hO.row.1
  simp at hxl
  rw[hxl] at this
  simp at this
  omega
theorem law15alive_call {W0 W:PW} {M:Nat→Prop} {K:Value→PW→Prop} (kont: ∀(W':PW),Ext W W'→(True)→K (.bool true) W'):
  callN Go.Proofs.Tryz.prog W0 M 46 [] W K:=
 callN_of (fun W' hE=>law15alive_ok (M:=fun _=>False) ) (fun W' v W'' hE hE' hP=>by
  obtain⟨rfl,h⟩:=hP
  exact kont W'' (hE.trans hE') h)
end Go.Proofs.YthpmkcidkcmlgaaGreat

/- tmod.Compose, for polynomials of seven terms. -/
set_option maxRecDepth 100000
set_option linter.unusedVariables false
set_option linter.unusedSimpArgs false
namespace Go.Proofs.YthpmkcidkcmlgaaGreat
open Go Go.SX
def mdRep (b:Nat→Iv) (n:Int) (v y:Mdl):Nat→Mdl
 | 0=>v
 | k+1=>mdMul b n (mdRep b n v y k) y
def mdTm (b:Nat→Iv) (n:Int) (y:Nat→Mdl) (t:Tm):Nat→Mdl
 | 0=>cutP b n (cst t.2)
 | j+1=>mdRep b n (mdTm b n y t j) (y j) (mex t.1 j)
def mdComp (b:Nat→Iv) (n:Int) (y:Nat→Mdl) (f:List Tm):Mdl:=f.foldl (fun a t=>mdAdd a (mdTm b n y t 3)) mdlZ
theorem mdComp_snoc (b:Nat→Iv) (n:Int) (y:Nat→Mdl) (f:List Tm) (t:Tm):mdComp b n y (f ++ [t])=mdAdd (mdComp b n y f) (mdTm b n y t 3):=by simp[mdComp]
def rB:Nat→Nat
 | 0=>10126
 | c+1=>2*(4003+c*28015+28015)+2*(rB c+7)+18372
theorem rB_mono: ∀{c d:Nat},c≤d→rB c≤rB d
 | c,0,h=>by
  have:c=0:=by omega
  subst this
  exact Nat.le_refl _
 | c,d+1,h=>by
  by_cases e:c=d+1
  ·subst e;exact Nat.le_refl _
  ·have:=rB_mono (c:=c) (d:=d) (by omega)
   rw[rB]
   omega
theorem rB_4:rB 4=2014676:=by decide
structure MO7 (x:Mdl):Prop where
 b:MdB 28015 7 1 x
 len:x.1.length≤7
structure MB (c:Nat) (x:Mdl):Prop where
 b:MdB (4003+c*28015) (rB c) 8 x
 len:x.1.length≤7^c
theorem md_len (b:Nat→Iv) (n:Int) (x y:Mdl):(mdMul b n x y).1.length≤x.1.length*y.1.length:=by
 have h1:=low_len n (pnorm (ppairs x.1 y.1))
 have h2:=pnorm_len (ppairs x.1 y.1)
 rw[ppairs_len] at h2
 show(lowP n (pnorm (ppairs x.1 y.1))).length≤_
 omega
theorem MB.step {c:Nat} {b:Nat→Iv} {n:Int} {x y:Mdl} (h:MB c x) (hy:MO7 y) (hB:DomB b) (hR:DRight b n):MB (c+1) (mdMul b n x y):=by
 have h8:n≤8:=hR.2.2.2.2
 have hm:=MdB.mul (n:=n) h.b hy.b hB.bd (Nat.le_refl 7) (by omega) (by omega) (by omega)
 have hok:POk (pnorm (ppairs x.1 y.1)):=fun t ht=>(pairs_exp h.b.ok hy.b.ok (by omega) t ht).1
 refine⟨⟨hm.bd.mono (by omega),hm.rest.mono (Nat.le_of_eq rfl),hm.good,low_exp hok h8⟩,?_⟩
 have h1:=md_len b n x y
 have h2:=Nat.mul_le_mul h.len hy.len
 rw[Nat.pow_succ]
 omega
theorem cst_b {q:Rat} (hq:Sz 4000 q):Bd 4003 (cst q)∧PExp 0 (cst q)∧(cst q).length≤1:=
 ⟨(bd_one hq).norm,PExp.norm fun t ht=>by
  rw[List.mem_singleton.1 ht]
  refine⟨?_,?_⟩
  ·exact(by decide:(⟨0,0,0⟩:Mon).ok)
  ·exact⟨Int.le_refl 0,Int.le_refl 0,Int.le_refl 0⟩,pnorm_len [((⟨0,0,0⟩:Mon),q)]⟩
theorem MB.ofc {b:Nat→Iv} {n:Int} {q:Rat} (hq:Sz 4000 q) (hB:DomB b):MB 0 (cutP b n (cst q)):=by
 obtain⟨hbd,he,hl⟩:=cst_b hq
 have hc:=MdB.cut (n:=n) hbd (pnorm_good _) hB.bd (Nat.le_refl 7) he (by omega)
 refine⟨⟨hc.bd,hc.rest,hc.good,fun t ht=>?_⟩,?_⟩
 ·have:=hc.ok t ht
  exact⟨this.1,by omega,by omega,by omega⟩
 ·have h1:=low_len n (cst q)
  show(lowP n (cst q)).length≤1
  omega
theorem MB.rep {c:Nat} {b:Nat→Iv} {n:Int} {v y:Mdl} (h:MB c v) (hy:MO7 y) (hB:DomB b) (hR:DRight b n): ∀k,MB (c+k) (mdRep b n v y k)
 | 0=>h
 | k+1=>(MB.rep h hy hB hR k).step hy hB hR
def sex (t:Tm):Nat→Nat
 | 0=>0
 | j+1=>sex t j+mex t.1 j
theorem sex_mono (t:Tm): ∀{i j:Nat},i≤j→sex t i≤sex t j
 | i,0,h=>by
  have:i=0:=by omega
  subst this
  exact Nat.le_refl _
 | i,j+1,h=>by
  by_cases e:i=j+1
  ·subst e;exact Nat.le_refl _
  ·have:=sex_mono t (i:=i) (j:=j) (by omega)
   rw[sex]
   omega
theorem MB.tm {b:Nat→Iv} {n:Int} {y:Nat→Mdl} {t:Tm} (ht:Sz 4000 t.2) (hy: ∀i,MO7 (y i)) (hB:DomB b) (hR:DRight b n): ∀j,MB (sex t j) (mdTm b n y t j)
 | 0=>MB.ofc ht hB
 | j+1=>(MB.tm ht hy hB hR j).rep (hy j) hB hR _
theorem MB.small {c:Nat} {x:Mdl} (h:MB c x) (hc:c≤4):MdB 116063 2014676 8 x∧x.1.length≤2401:=by
 have h1:=rB_mono hc
 rw[rB_4] at h1
 have h2:=Nat.mul_le_mul_right 28015 hc
 exact⟨⟨h.b.bd.mono (by omega),h.b.rest.mono h1,h.b.good,h.b.ok⟩,Nat.le_trans h.len (Nat.pow_le_pow_right (by omega) hc)⟩
theorem comp_b {b:Nat→Iv} {n:Int} {y:Nat→Mdl} {f:List Tm} (hf: ∀t∈f,Sz 4000 t.2∧sex t 3≤4) (hy: ∀i,MO7 (y i)) (hB:DomB b) (hR:DRight b n): ∀i,i≤f.length→MdB (1+i*116064) (1+i*2014677) 8 (mdComp b n y (f.take i))∧(mdComp b n y (f.take i)).1.length≤i*2401
 | 0,_=>⟨⟨⟨1,0,trivial,by decide,by rw[nl_one];omega,by rw[nl_zero];omega⟩,BdI.zero (by omega),PGood.nil,fun t ht=>(by cases ht)⟩,Nat.zero_le _⟩
 | i+1,hi=>by
  obtain⟨h1,h2⟩:=comp_b hf hy hB hR i (by omega)
  have hil:i<f.length:=by omega
  obtain⟨g1,g2⟩:=hf _ (List.getElem_mem hil)
  obtain⟨k1,k2⟩:=(MB.tm g1 hy hB hR 3).small g2
  rw[List.take_succ_eq_append_getElem hil,mdComp_snoc]
  have ha:=MdB.add h1 k1
  refine⟨⟨ha.bd.mono (by omega),ha.rest.mono (by omega),ha.good,ha.ok⟩,?_⟩
  have h3:=pnorm_len ((mdComp b n y (f.take i)).1 ++ (mdTm b n y f[i] 3).1)
  rw[List.length_append] at h3
  show(pnorm ((mdComp b n y (f.take i)).1 ++ (mdTm b n y f[i] 3).1)).length≤_
  omega
def tkO (W0:PW) (b:Nat→Iv) (n:Int) (y:Nat→Mdl) (f:List Tm) (L:List PL) (W:PW):Prop:=match L with
 | [.val (.int .i64 i),_,.cells l]=>∃j:Nat,i=(j:Int)∧j≤f.length∧Ext W0 W∧(¬DRight b n→j=0)∧MdV 317 188 W l (mdComp b n y (f.take j))
 | _=>False
def tkV (W0:PW) (b:Nat→Iv) (n:Int) (y:Nat→Mdl) (t:Tm) (L:List PL) (W:PW):Prop:=match L with
 | [.val (.bool c),.val (.int .i64 i),.cells l]=>∃v:Nat,i=(v:Int)∧v≤3∧Ext W0 W∧c=decide (DRight b n)∧(DRight b n→MdV 317 188 W l (mdTm b n y t v))
 | _=>False
def tkR (W0:PW) (b:Nat→Iv) (n:Int) (x z:Mdl) (m:Nat) (L:List PL) (W:PW):Prop:=match L with
 | [.val (.bool c),.val (.int .u8 i),.cells l]=>∃v:Nat,i=(v:Int)∧v≤m∧Ext W0 W∧c=decide (DRight b n)∧(DRight b n→MdV 317 188 W l (mdRep b n x z v))
 | _=>False
theorem pow6 {c:Nat} (h:c≤3):7^c≤343:=Nat.le_trans (Nat.pow_le_pow_right (by omega) h) (by decide)
theorem tmodCompose_ok {W0:PW} {M:Nat→Prop} {l ly:List Value} {s:Sl} {f:List Tm} {y:Nat→Mdl} {b:Nat→Iv} {n:Int} (hD:DomV 317 W0 l b n) (h:IsPoly 317 188 W0 s f) (hY:M3V 317 188 W0 ly y) (hf: ∀t∈f,Sz 4000 t.2∧sex t 3≤4) (hl:f.length≤7) (hy: ∀i,MO7 (y i)) (hB:DomB b):
  PCallsM Go.Proofs.Tryz.prog 68 [.agg ⟨l⟩,.agg ⟨[s.v]⟩,.agg ⟨ly⟩] W0 M fun v W'=>∃(r:List Value),v = .tuple ⟨[.agg ⟨r⟩,.bool (decide (DRight b n))]⟩∧MdV 317 188 W' r (if DRight b n then mdComp b n y f else mdlZ):=by
 obtain⟨l',rfl,hb⟩:=hD
 have hb0:=hb
 obtain⟨s0,b0,t0,s1,b1,t1,s2,b2,t2,s3,b3,t3,s4,b4,t4,s5,b5,t5,rfl,_⟩:=hb
 have hY0:=hY
 obtain⟨p0,s0',a0,t0',u0,b0',w0,p1,s1',a1,t1',u1,b1',w1,p2,s2',a2,t2',u2,b2',w2,rfl,_⟩:=hY
 apply calltmod_Compose
 have z7: ∀i,IvS 7 (b i):=fun i=>(hB.bd i).sz
 obtain⟨xs,hr,ha⟩:=h
 have hxl:=ha.len
 refine polyTerms_call hr (by omega) fun s3' W2 hE2 ⟨_,hO⟩=>⟨s3',rfl,?_⟩
 have h2:IsPoly 317 188 W2 s3' f:=⟨xs,hO.row,ha.mono fun _ _ e=>e.ext hE2⟩
 have hn:=h2.n
 refine⟨tkO W2 b n y f,cn1 f.length,⟨0,rfl,Nat.zero_le _,Ext.refl _,fun _=>rfl,MdV.zero W2⟩,?_⟩
 rintro s6 s7 b8 s9 s10 b11 s12 s13 s14 b15 s16 s17 b18 s19 i20 W21 ⟨j,rfl,hj,hE21,hj0,hS⟩
 refine⟨fun hlt=>?_,fun hge=>?_⟩
 ·have hjl:j<f.length:=by omega
  have hmem:=List.getElem_mem hjl
  obtain⟨g1,g2⟩:=hf _ hmem
  have hP:=h2.ext hE21
  obtain⟨h0,c1,d1,c2,e1,_,_,hq⟩:=hP.at (List.getElem?_eq_getElem hjl)
  have E21:=hE2.trans hE21
  refine⟨hP.inB (by omega) (by omega),_,_,_,c1,d1,c2,e1,polyConst_call hq g1 (by omega) fun s30 W29 hE29 h29=>⟨s30,rfl,?_⟩⟩
  obtain⟨hcb,hce,hcl⟩:=cst_b g1
  refine tmodCut_call (p:=cst f[j].2) (DomV.mk (hb0.ext (E21.trans hE29))) h29 (pnorm_good _) hcb hB.bd (Nat.le_refl 7) hce (by omega) (by omega) (by omega) fun r W32 hE32 h32=>h32.out fun _ _ _ _ _ _ _ h32 _ _=>?_
  refine⟨tkV W32 b n y f[j],fun L _=>match L with | [_,.val (.int .i64 i),_]=>3-i.toNat | _=>0,⟨0,rfl,Nat.zero_le _,Ext.refl _,rfl,fun hR=>by rw[if_pos hR] at h32;exact h32⟩,?_⟩
  rintro s43 s44 b45 s46 s47 b48 s49 b50 i51 W52 ⟨v,rfl,hv,hE52,rfl,hT⟩
  refine⟨fun hlt3=>?_,fun hge3=>?_⟩
  ·have hv3:v<3:=by omega
   refine⟨⟨by omega,by omega⟩,_,take_mon f[j].1 hv3,?_⟩
   rw[mex_eget h0 v]
   have hmx:mex f[j].1 v≤255:=by have:=eget_le h0 v;have:=mex_eget h0 v;omega
   have hsx:=sex_mono f[j] (show v+1≤3 by omega)
   rw[show sex f[j] (v+1)=sex f[j] v+mex f[j].1 v from rfl] at hsx
   refine⟨tkR W52 b n (mdTm b n y f[j] v) (y v) (mex f[j].1 v),fun L _=>match L with | [_,.val (.int .u8 i),_]=>mex f[j].1 v-i.toNat | _=>0,⟨0,rfl,Nat.zero_le _,Ext.refl _,rfl,hT⟩,?_⟩
   rintro s56 s57 b58 s59 s60 b61 s62 b63 i64 W65 ⟨k,rfl,hk,hE65,rfl,hQ⟩
   refine⟨fun hltk=>?_,fun hgek=>⟨by unfold I64;omega,⟨v+1,by push_cast;rfl,by omega,hE52.trans hE65,rfl,fun hR=>?_⟩,?_⟩⟩
   ·have hwr:IntKind.wrap .u8 ((k:Int)+1)=((k+1:Nat):Int):=by rw[wrap8 (by omega) (by omega)];push_cast;rfl
    rw[hwr]
    have hmu:mex f[j].1 v-Int.toNat ((k+1:Nat):Int)<mex f[j].1 v-Int.toNat (k:Int):=by omega
    refine⟨fun hyes=>?_,fun hno=>⟨⟨k+1,rfl,by omega,hE65,rfl,fun hR=>absurd hR (of_decide_eq_false hno)⟩,hmu⟩⟩
    have hR:DRight b n:=of_decide_eq_true hyes
    have hE:=E21.trans (hE29.trans (hE32.trans (hE52.trans hE65)))
    obtain⟨_,_,_,_,_,_,_,hbx,hyv⟩:=(hY0.ext hE).box hv3
    have hmb:=(MB.tm g1 hy hB hR v).rep (hy v) hB hR k
    have hc3:sex f[j] v+k≤3:=by omega
    have p6:=pow6 hc3
    have r3:=rB_mono hc3
    have r3':rB 3=882082:=by decide
    have k3:=Nat.mul_le_mul_right 28015 hc3
    have yl:=(hy v).len
    have ml:=hmb.len
    refine⟨⟨by omega,by omega⟩,_,_,_,_,_,_,_,hbx,?_⟩
    refine tmodMul_call (DomV.mk (hb0.ext hE)) (hQ hR) hyv hmb.b (hy v).b hB.bd (Nat.le_refl 7) (by omega) (by omega) (by omega) (by omega) (by omega) (by omega) (by omega) fun r W74 hE74 h74=>h74.out fun _ _ _ _ _ _ _ h74 _ _=>⟨⟨k+1,rfl,by omega,hE65.trans hE74,rfl,fun _=>?_⟩,hmu⟩
    rw[if_pos hR] at h74
    exact h74
   ·have:k=mex f[j].1 v:=by omega
    subst this
    exact hQ hR
   ·show 3-Int.toNat ((v:Int)+1)<3-Int.toNat (v:Int)
    omega
  ·have:v=3:=by omega
   subst this
   refine⟨fun hno W83 hE83=>?_,fun hyes=>?_⟩
   ·have hR:¬DRight b n:=by simpa using hno
    rw[decide_eq_false hR,if_neg hR]
    exact⟨_,rfl,MdV.zero W83⟩
   ·have hR:DRight b n:=by simpa using hyes
    obtain⟨k1,k2⟩:=(MB.tm g1 hy hB hR 3).small g2
    obtain⟨c1,c2⟩:=comp_b hf hy hB hR j hj
    have hj5:=Nat.mul_le_mul_right 116064 (show j≤7 by omega)
    have hj6:=Nat.mul_le_mul_right 2014677 (show j≤7 by omega)
    have hj7:=Nat.mul_le_mul_right 2401 (show j≤7 by omega)
    refine tmodAdd_call (k:=1000000) (r:=20000000) (hS.ext (hE29.trans (hE32.trans hE52))) (hT hR) (c1.bd.mono (by omega)) (k1.bd.mono (by omega)) (c1.rest.mono (by omega)).sz (k1.rest.mono (by omega)).sz (by omega) (by omega) (by omega) (by omega) fun r W85 hE85 h85=>h85.out1 fun _ _ _ _ _ _ _ h85 _ _=>⟨by unfold I64;omega,⟨j+1,by push_cast;rfl,by omega,hE21.trans (hE29.trans (hE32.trans (hE52.trans hE85))),fun e=>absurd hR e,?_⟩,?_⟩
    ·rw[List.take_succ_eq_append_getElem hjl,mdComp_snoc]
     exact h85
    ·show f.length-Int.toNat ((j:Int)+1)<f.length-Int.toNat (j:Int)
     omega
 ·have:j=f.length:=by omega
  refine tmodRight_call (k:=7) (DomV.mk (hb0.ext (hE2.trans hE21))) z7 (by omega) fun W94 hE94 _=>⟨_,rfl,fun W96 hE96=>⟨_,rfl,?_⟩⟩
  by_cases hR:DRight b n
  ·rw[if_pos hR]
   subst this
   rw[List.take_length] at hS
   exact hS.ext (hE94.trans hE96)
  ·rw[if_neg hR]
   have hj':=hj0 hR
   subst hj'
   exact hS.ext (hE94.trans hE96)
theorem tmodCompose_call {W0 W:PW} {M:Nat→Prop} {l ly:List Value} {s:Sl} {f:List Tm} {y:Nat→Mdl} {b:Nat→Iv} {n:Int} {K:Value→PW→Prop} (hD:DomV 317 W l b n) (h:IsPoly 317 188 W s f) (hY:M3V 317 188 W ly y) (hf: ∀t∈f,Sz 4000 t.2∧sex t 3≤4) (hl:f.length≤7) (hy: ∀i,MO7 (y i)) (hB:DomB b) (kont: ∀(r:List Value) (W':PW),Ext W W'→(MdV 317 188 W' r (if DRight b n then mdComp b n y f else mdlZ))→K (.tuple ⟨[.agg ⟨r⟩,.bool (decide (DRight b n))]⟩) W'):
  callN Go.Proofs.Tryz.prog W0 M 68 [.agg ⟨l⟩,.agg ⟨[s.v]⟩,.agg ⟨ly⟩] W K:=
 callN_of (fun W' hE=>tmodCompose_ok (M:=fun _=>False) (hD.ext hE) (h.ext hE) (hY.ext hE) hf hl hy hB) (fun W' v W'' hE hE' hP=>by
  obtain⟨r,rfl,h⟩:=hP
  exact kont r W'' (hE.trans hE') h)
end Go.Proofs.YthpmkcidkcmlgaaGreat

/- poly.Diff, cinctureref1.Diff; cincturelaw8.PolyDiffs. -/
set_option maxRecDepth 100000
set_option linter.unusedVariables false
set_option linter.unusedSimpArgs false
namespace Go.Proofs.YthpmkcidkcmlgaaGreat
open Go Go.SX
def decM (m:Mon) (k:Nat):Mon:=if k=0 then⟨m.x-1,m.y,m.z⟩ else if k=1 then⟨m.x,m.y-1,m.z⟩ else⟨m.x,m.y,m.z-1⟩
def dterm (k:Nat) (t:Tm):List Tm:=if 0<eget t.1 k then[(decM t.1 k,t.2*((eget t.1 k:Int):Rat))] else[]
def dlist (p:List Tm) (k:Nat):List Tm:=p.flatMap (dterm k)
def diffP (p:List Tm) (i:Int):List Tm:=if 0≤i∧i<3 then pnorm (dlist p i.toNat) else[]
theorem dlist_snoc {p:List Tm} {j:Nat} (hj:j<p.length) (k:Nat):dlist (p.take (j+1)) k=dlist (p.take j) k ++ dterm k p[j]:=by
 rw[take_snocR hj]
 unfold dlist
 rw[List.flatMap_append]
 rw[show List.flatMap (dterm k) [p[j]]=dterm k p[j] from by simp[List.flatMap]]
theorem dterm_len (k:Nat) (t:Tm):(dterm k t).length≤1:=by
 unfold dterm
 split<;>simp
theorem dlist_len (p:List Tm) (k:Nat):(dlist p k).length≤p.length:=by
 induction p with
 | nil=>simp[dlist]
 | cons t r ih=>
  have e:dlist (t :: r) k=dterm k t ++ dlist r k:=rfl
  have:=dterm_len k t
  rw[e]
  simp only[List.length_append,List.length_cons]
  omega
theorem decM_ok {m:Mon} {k:Nat} (h:m.ok) (hk:k<3) (hp:0<eget m k):(decM m k).ok:=by
 unfold Mon.ok at h
 unfold eget at hp
 unfold decM
 rcases(by omega:k=0∨k=1∨k=2) with rfl | rfl | rfl
 ·simp at hp;exact⟨⟨by show 0≤m.x-1;omega,by show m.x-1≤255;omega⟩,h.2.1,h.2.2⟩
 ·simp at hp;exact⟨h.1,⟨by show 0≤m.y-1;omega,by show m.y-1≤255;omega⟩,h.2.2⟩
 ·simp at hp;exact⟨h.1,h.2.1,by show 0≤m.z-1;omega,by show m.z-1≤255;omega⟩
theorem dlist_bd {l:Nat} {p:List Tm} (h:Bd l p) (ho:POk p) (k:Nat):Bd (l+1) (dlist p k):=by
 obtain⟨D,N,h1,h2,h3,h4⟩:=h
 have key: ∀{p:List Tm} {N:Nat},Fit D N p→POk p→Fit D (N*255) (dlist p k):=by
  intro p
  induction p with
  | nil=>intro N _ _;trivial
  | cons t r ih=>
   rintro N ⟨a,b,g1,g2,g3⟩ ho
   have e:dlist (t :: r) k=dterm k t ++ dlist r k:=rfl
   rw[e]
   have hr:=ih g3 fun x hx=>ho x (by simp[hx])
   have ht:Fit D (a*255) (dterm k t):=by
    unfold dterm
    split
    ·have hk:=eget_ok (ho t (by simp)) k
     have h5:FitQ 1 255 ((eget t.1 k:Int):Rat):=(FitQ.int (eget t.1 k)).mono (by omega)
     have h6:=g2.mul h5
     rw[Nat.mul_one] at h6
     exact⟨a*255,0,by omega,h6,trivial⟩
    ·trivial
   have:=ht.append hr
   rw[←Nat.add_mul] at this
   exact this.mono (Nat.mul_le_mul_right _ g1)
 have h5:=nl_mul N 255
 have h6:nl 255≤1:=nl_le (by decide)
 exact⟨D,N*255,key h1 ho,h2,by omega,by omega⟩
theorem boxAt6 (m:Mon) {k:Nat} (hk:k<3) (r:List Value):BoxAt (.int .u8 m.x :: .int .u8 m.y :: .int .u8 m.z :: r) (0+Int.toNat (k:Int)*1+0) [.int .u8 (eget m k)]:=by
 rcases(by omega:k=0∨k=1∨k=2) with rfl | rfl | rfl<;>exact⟨by simp,rfl⟩
theorem polyDiff_ok {W0:PW} {M:Nat→Prop} {s:Sl} {p:List Tm} {i:Int} {l:Nat} (h:IsPoly 317 188 W0 s p) (hB:Bd l p) (hl:l≤268435456) (hp:p.length≤1073741824):
  PCallsM Go.Proofs.Tryz.prog 77 [.agg ⟨[s.v]⟩,.int .i64 i] W0 M fun v W'=>∃(s':Sl),v = .agg ⟨[Sl.v s']⟩∧IsPoly 317 188 W' s' (diffP p i):=by
 apply callpoly_Diff
 have hn:=h.n
 refine⟨fun h0 W1 _=>⟨⟨none,0,0⟩,rfl,?_⟩,fun h0=>⟨fun h3 W2 _=>⟨⟨none,0,0⟩,rfl,?_⟩,fun h3=>?_⟩⟩
 ·unfold diffP;rw[if_neg (by omega)];exact IsPoly.nil W1
 ·unfold diffP;rw[if_neg (by omega)];exact IsPoly.nil W2
 obtain⟨k,rfl⟩:=Int.eq_ofNat_of_zero_le (by omega:0≤i)
 have hk3:k<3:=by omega
 have hkr:(0:Int)≤(k:Int)∧(k:Int)<3:=⟨by omega,by omega⟩
 refine⟨fun L W=>match L with
  | [.row xs,.val (.int .i64 i)]=>∃j:Nat,i=(j:Int)∧j≤p.length∧Ext W0 W∧All2 (PT 317 W) xs (dlist (p.take j) k)
  | _=>False,cnL p.length,⟨0,rfl,by omega,Ext.refl _,trivial⟩,?_⟩
 rintro l5 i6 W7 ⟨j,rfl,hj,hE7,ha⟩
 have hal:=ha.len
 have hdl:=dlist_len (p.take j) k
 rw[List.length_take] at hdl
 refine⟨fun hlt=>?_,fun hge s46 W47 hE47 hO _=>?_⟩
 ·have hjl:j<p.length:=by omega
  have hP:=h.ext hE7
  obtain⟨h0',s1,b1,s2,e1,_,_,hr⟩:=hP.at (List.getElem?_eq_getElem hjl)
  have hek:=eget_ok h0' k
  have hmu:p.length-Int.toNat ((j:Int)+1)<p.length-Int.toNat (j:Int):=by omega
  have hbx:=boxAt6 p[j].1 hk3 [s1.v,.bool b1,s2.v]
  have hw:IntKind.wrap .u8 (eget p[j].1 k-1)=eget p[j].1 k-1∨¬0<eget p[j].1 k:=by
   by_cases h:0<eget p[j].1 k
   ·exact .inl (wrap8 (by omega) (by omega))
   ·exact .inr h
  refine⟨hP.inB (by omega) (by omega),_,_,_,s1,b1,s2,e1,hkr,_,hbx,fun hpos=>⟨hkr,_,hbx,hkr,by omega,⟨⟨trivial,fun e=>?_⟩,fun e=>?_⟩,fun e=>?_⟩,fun hz=>⟨by unfold I64;omega,⟨j+1,by push_cast;rfl,by omega,hE7,?_⟩,hmu⟩⟩
  case refine_4=>
   rw[dlist_snoc hjl]
   unfold dterm
   rw[if_neg hz,List.append_nil]
   exact ha
  all_goals
   have hw':IntKind.wrap .u8 (eget p[j].1 k-1)=eget p[j].1 k-1:=hw.resolve_right (fun h=>h hpos)
   have hok:=decM_ok h0' hk3 hpos
   have hdt:dterm k p[j] = [(decM p[j].1 k,p[j].2*((eget p[j].1 k:Int):Rat))]:=by unfold dterm;rw[if_pos hpos]
   have e':k=_:=e
   subst e'
   refine⟨by unfold I64;omega,ratOf_call (z:=eget p[j].1 _) (by unfold I64;omega) fun s18 b19 s20 W17 hE17 h17=>⟨s18,b19,s20,rfl,ratMul_call (hr.ext hE17) h17 (hB.sz _ (List.getElem_mem hjl)) ((FitQ.int _).sz (by decide) (k:=l+1) (by rw[nl_one];omega) (Nat.le_trans (nl_mono (by omega:_≤255)) (Nat.le_trans (nl_le (by decide:255<B^1)) (by omega)))) (by omega) (by omega) fun s23 b24 s25 W22 hE22 h22=>⟨s23,b24,s25,rfl,by simp;omega,by unfold I64;omega,⟨j+1,by push_cast;rfl,by omega,hE7.trans (hE17.trans hE22),?_⟩,hmu⟩⟩⟩
   rw[dlist_snoc hjl,hdt]
   refine(ha.mono fun _ _ h=>h.ext (hE17.trans hE22)).snoc ⟨hok,s23,b24,s25,?_,h22⟩
   rw[hw']
   rfl
 ·have:j=p.length:=by omega
  subst this
  rw[List.take_length] at ha
  have hdl:=dlist_len p k
  refine polyNew_call (isPoly_of hO.row (ha.mono fun _ _ h=>h.ext hE47)) (dlist_bd hB h.ok k) (by omega) (by omega) fun s' W49 hE49 hp'=>⟨s',rfl,fun W51 hE51=>⟨s',rfl,?_⟩⟩
  unfold diffP
  rw[if_pos hkr]
  exact hp'.ext hE51
theorem polyDiff_call {W0 W:PW} {M:Nat→Prop} {s:Sl} {p:List Tm} {i:Int} {l:Nat} {K:Value→PW→Prop} (h:IsPoly 317 188 W s p) (hB:Bd l p) (hl:l≤268435456) (hp:p.length≤1073741824) (kont: ∀(s':Sl) (W':PW),Ext W W'→(IsPoly 317 188 W' s' (diffP p i))→K (.agg ⟨[Sl.v s']⟩) W'):
  callN Go.Proofs.Tryz.prog W0 M 77 [.agg ⟨[s.v]⟩,.int .i64 i] W K:=
 callN_of (fun W' hE=>polyDiff_ok (M:=fun _=>False) (h.ext hE) hB hl hp) (fun W' v W'' hE hE' hP=>by
  obtain⟨s',rfl,h⟩:=hP
  exact kont s' W'' (hE.trans hE') h)
end Go.Proofs.YthpmkcidkcmlgaaGreat

/- cincturelaw8.PolyLeibniz. -/
set_option maxRecDepth 100000
set_option linter.unusedVariables false
set_option linter.unusedSimpArgs false
namespace Go.Proofs.YthpmkcidkcmlgaaGreat
open Go Go.SX
def incM (m:Mon) (k:Nat):Mon:=if k=0 then⟨m.x+1,m.y,m.z⟩ else if k=1 then⟨m.x,m.y+1,m.z⟩ else⟨m.x,m.y,m.z+1⟩
theorem mon_ext_iff {a b:Mon} :a=b↔a.x=b.x∧a.y=b.y∧a.z=b.z:=⟨fun h=>by rw[h];exact⟨rfl,rfl,rfl⟩,fun h=>Mon.ext3 h.1 h.2.1 h.2.2⟩
theorem decM_iff {a m:Mon} {k:Nat} :decM a k=m↔a=incM m k:=by
 unfold decM incM
 (repeat' split)<;>(rw[mon_ext_iff,mon_ext_iff];dsimp only;omega)
theorem eget_inc (m:Mon) (k:Nat):eget (incM m k) k=eget m k+1:=by
 unfold eget incM
 (repeat' split)<;>rfl
theorem dlist_cons (t:Tm) (r:List Tm) (k:Nat):dlist (t :: r) k=dterm k t ++ dlist r k:=rfl
theorem ptot_dlist {p:List Tm} (hp:POk p) (k:Nat) (m:Mon):ptot (dlist p k) m=ptot p (incM m k)*((eget m k+1:Int):Rat):=by
 induction p with
 | nil=>simp[dlist,ptot,Rat.zero_mul]
 | cons t r ih=>
  have e:=(eget_ok (hp t (by simp)) k).1
  rw[dlist_cons,ptot_append,ih fun x hx=>hp x (by simp[hx]),ptot,Rat.add_mul]
  congr 1
  by_cases h:t.1=incM m k
  ·have h2:eget t.1 k=eget m k+1:=by rw[h,eget_inc]
   rw[if_pos h,←h2]
   unfold dterm
   split
   ·rw[ptot,if_pos (decM_iff.2 h),ptot,Rat.add_zero]
   ·have:eget t.1 k=0:=by omega
    rw[this]
    simp[ptot,Rat.mul_zero]
  ·rw[if_neg h,Rat.zero_mul]
   unfold dterm
   split
   ·rw[ptot,if_neg fun h'=>h (decM_iff.1 h'),ptot,Rat.add_zero]
   ·rfl
theorem diffP_in {p:List Tm} {i:Int} (h:0≤i∧i≤2):diffP p i=pnorm (dlist p i.toNat):=by
 unfold diffP
 rw[if_pos (by omega)]
end Go.Proofs.YthpmkcidkcmlgaaGreat
