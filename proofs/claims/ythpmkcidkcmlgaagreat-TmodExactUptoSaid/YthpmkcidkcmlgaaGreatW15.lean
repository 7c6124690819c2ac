/- cinctureref1: PolyAdd, PolyScale, PolySub, Var, Const, PolySame. -/
import Derived.Test.YthpmkcidkcmlgaaGreatW14
import Derived.Test.YthpmkcidkcmlgaaGreatR11
import Derived.Test.YthpmkcidkcmlgaaGreatR10
set_option linter.unusedVariables false
set_option linter.unusedSimpArgs false
set_option maxRecDepth 100000
set_option linter.unusedVariables false
set_option linter.unusedSimpArgs false
namespace Go.Proofs.YthpmkcidkcmlgaaGreat
open Go Go.SX
end Go.Proofs.YthpmkcidkcmlgaaGreat

/- cinctureref1.PolyMul. -/
set_option maxRecDepth 100000
set_option linter.unusedVariables false
set_option linter.unusedSimpArgs false
namespace Go.Proofs.YthpmkcidkcmlgaaGreat
open Go Go.SX
end Go.Proofs.YthpmkcidkcmlgaaGreat

/- poly.Compose, cinctureref1.Compose. -/
set_option maxRecDepth 100000
set_option linter.unusedVariables false
set_option linter.unusedSimpArgs false
namespace Go.Proofs.YthpmkcidkcmlgaaGreat
open Go Go.SX
noncomputable def stepM (c:Option (List Tm)) (q:List Tm):Option (List Tm):=match c with
 | none=>none
 | some c=>if MulOK c q then some (pnorm (ppairs c q)) else none
noncomputable def runF (c:List Tm) (l:List (List Tm)):Option (List Tm):=l.foldl stepM (some c)
def facs (q:Nat→List Tm) (e:Nat→Nat):Nat→List (List Tm)
 | 0=>[]
 | m+1=>facs q e m ++ List.replicate (e m) (q m)
def ege (t:Tm) (i:Nat):Nat:=(eget t.1 i).toNat
def cst (r:Rat):List Tm:=pnorm [(⟨0,0,0⟩,r)]
noncomputable def termC (q:Nat→List Tm) (t:Tm):Option (List Tm):=runF (cst t.2) (facs q (ege t) 3)
noncomputable def compL (q:Nat→List Tm):List Tm→Option (List Tm)
 | []=>some []
 | t :: r=>match termC q t,compL q r with
  | some c,some d=>some (c ++ d)
  | _,_=>none
theorem foldl_none (l:List (List Tm)):l.foldl stepM none=none:=by
 induction l with
 | nil=>rfl
 | cons q r ih=>exact ih
theorem runF_snoc (c:List Tm) (l:List (List Tm)) (q:List Tm):runF c (l ++ [q])=stepM (runF c l) q:=by simp[runF]
theorem runF_app (c:List Tm) (l r:List (List Tm)) (h:runF c l=none):runF c (l ++ r)=none:=by
 unfold runF at *
 rw[List.foldl_append,h,foldl_none]
theorem compL_snoc (q:Nat→List Tm) (l:List Tm) (t:Tm):compL q (l ++ [t])=match compL q l,termC q t with
  | some d,some c=>some (d ++ c)
  | _,_=>none:=by
 induction l with
 | nil=>
  simp only[List.nil_append,compL]
  cases termC q t<;>simp
 | cons u r ih=>
  simp only[List.cons_append,compL,ih]
  cases termC q u<;>cases compL q r<;>cases termC q t<;>simp
theorem compL_bad {q:Nat→List Tm} {p:List Tm} {t:Tm} (ht:t∈p) (h:termC q t=none):compL q p=none:=by
 induction p with
 | nil=>simp at ht
 | cons u r ih=>
  rw[compL]
  rcases List.mem_cons.1 ht with rfl | ht
  ·rw[h]
  ·rw[ih ht]
   cases termC q u<;>rfl
theorem runF_bd {k:Nat} : ∀{l:List (List Tm)} {c d:List Tm} {b a:Nat} (_:runF c l=some d) (_: ∀q∈l,Bd k q∧q.length≤10) (_:Bd b c) (_:c.length≤a),Bd (b+l.length*k) d∧d.length≤a*10^l.length
 | [],c,d,b,a,h,_,h1,h2=>by
  simp[runF] at h
  subst h
  simpa using⟨h1,h2⟩
 | q :: r,c,d,b,a,h,hq,h1,h2=>by
  have e:runF c (q :: r)=r.foldl stepM (stepM (some c) q):=rfl
  rw[e] at h
  unfold stepM at h
  dsimp only at h
  split at h
  ·have hq0:=hq q (by simp)
   have hl:(pnorm (ppairs c q)).length≤a*10:=by
    have:=pnorm_len (ppairs c q)
    rw[ppairs_len] at this
    exact Nat.le_trans this (Nat.mul_le_mul h2 hq0.2)
   have:=runF_bd (l:=r) (c:=pnorm (ppairs c q)) h (fun x hx=>hq x (by simp[hx])) ((h1.pairs hq0.1).norm) hl
   refine⟨this.1.mono ?_,Nat.le_trans this.2 ?_⟩
   ·rw[List.length_cons,Nat.add_mul]
    omega
   ·rw[List.length_cons,Nat.pow_succ,Nat.mul_assoc,Nat.mul_comm 10]
    exact Nat.le_refl _
  ·have h:r.foldl stepM none=some d:=h
   rw[foldl_none] at h
   cases h
theorem facs_mem {q:Nat→List Tm} {e:Nat→Nat} {m:Nat} {x:List Tm} (h:x∈facs q e m): ∃i,i<m∧x=q i:=by
 induction m with
 | zero=>simp[facs] at h
 | succ m ih=>
  rcases List.mem_append.1 h with h | h
  ·obtain⟨i,h1,h2⟩:=ih h
   exact⟨i,by omega,h2⟩
  ·exact⟨m,by omega,List.eq_of_mem_replicate h⟩
structure FacOK (k:Nat) (q:Nat→List Tm) (p:List Tm):Prop where
 fac: ∀i,i<3→Bd k (q i)∧(q i).length≤10
 sz: ∀t∈p,Sz k t.2
 deg: ∀t∈p,t.1.deg≤5
 ok:POk p
 len:p.length≤14
 k:k≤100000
theorem cst_bd {k:Nat} {r:Rat} (h:Sz k r):Bd (k+3) (cst r)∧(cst r).length≤1:=⟨(bd_one h).norm,pnorm_len _⟩
theorem facs3_len (q:Nat→List Tm) {t:Tm} (h:t.1.ok):(facs q (ege t) 3).length=t.1.deg.toNat:=by
 obtain⟨⟨h1,_⟩,⟨h2,_⟩,h3,_⟩:=h
 simp only[facs,List.nil_append,List.length_append,List.length_replicate,ege,eget,Mon.deg]
 simp
 omega
theorem facs_part_len (q:Nat→List Tm) {t:Tm} {m n:Nat} (hm:m<3) (hn:n≤ege t m):(facs q (ege t) m ++ List.replicate n (q m)).length≤(facs q (ege t) 3).length:=by
 rcases(by omega:m=0∨m=1∨m=2) with rfl | rfl | rfl<;>simp[facs]<;>omega
theorem FacOK.part {k:Nat} {q:Nat→List Tm} {p:List Tm} (h:FacOK k q p) {t:Tm} (ht:t∈p) {m n:Nat} (hm:m<3) (hn:n≤ege t m) {c:List Tm} (hc:runF (cst t.2) (facs q (ege t) m ++ List.replicate n (q m))=some c):Bd (6*k+3) c∧c.length≤100000:=by
 have h0:=cst_bd (h.sz t ht)
 have hl:=facs_part_len q hm hn
 rw[facs3_len q (h.ok t ht)] at hl
 have hd:=h.deg t ht
 have h5:(facs q (ege t) m ++ List.replicate n (q m)).length≤5:=by omega
 have:=runF_bd hc (fun x hx=>by
  rcases List.mem_append.1 hx with hx | hx
  ·obtain⟨i,hi,rfl⟩:=facs_mem hx
   exact h.fac i (by omega)
  ·rw[List.eq_of_mem_replicate hx]
   exact h.fac m hm) h0.1 h0.2
 refine⟨this.1.mono ?_,Nat.le_trans this.2 ?_⟩
 ·have:=Nat.mul_le_mul_right k h5
  omega
 ·have:=Nat.pow_le_pow_right (show 0<10 by omega) h5
  omega
theorem FacOK.all {k:Nat} {q:Nat→List Tm} {p:List Tm} (h:FacOK k q p) {t:Tm} (ht:t∈p) {c:List Tm} (hc:termC q t=some c):Bd (6*k+3) c∧c.length≤100000:=by
 have e:facs q (ege t) 3=facs q (ege t) 2 ++ List.replicate (ege t 2) (q 2):=rfl
 unfold termC at hc
 rw[e] at hc
 exact h.part ht (by omega) (Nat.le_refl _) hc
theorem FacOK.take {k:Nat} {q:Nat→List Tm} {p:List Tm} (h:FacOK k q p) (j:Nat):FacOK k q (p.take j):=⟨h.fac,fun t ht=>h.sz t (List.mem_of_mem_take ht),fun t ht=>h.deg t (List.mem_of_mem_take ht),fun t ht=>h.ok t (List.mem_of_mem_take ht),by have:=h.len;rw[List.length_take];omega,h.k⟩
theorem FacOK.sum {k:Nat} {q:Nat→List Tm} : ∀{p:List Tm} (_:FacOK k q p) {d:List Tm} (_:compL q p=some d),Bd (p.length*(6*k+4)+1) d∧d.length≤p.length*100000
 | [],h,d,hd=>by
  simp only[compL,Option.some.injEq] at hd
  subst hd
  exact⟨⟨1,0,trivial,by decide,by rw[nl_one];omega,by rw[nl_zero];omega⟩,by simp⟩
 | t :: r,h,d,hd=>by
  rw[compL] at hd
  split at hd
  ·rename_i c d' h1 h2
   simp only[Option.some.injEq] at hd
   subst hd
   have a:=h.all (List.mem_cons_self ..) h1
   have b:=FacOK.sum (p:=r) ⟨h.fac,fun u hu=>h.sz u (List.mem_cons_of_mem _ hu),fun u hu=>h.deg u (List.mem_cons_of_mem _ hu),fun u hu=>h.ok u (List.mem_cons_of_mem _ hu),by have:=h.len;simp at this;omega,h.k⟩ h2
   refine⟨(a.1.append b.1).mono ?_,?_⟩
   ·rw[List.length_cons,Nat.add_mul]
    omega
   ·rw[List.length_append,List.length_cons,Nat.add_mul]
    omega
  ·cases hd
def selS (s0 s1 s2:Sl) (m:Nat):Sl:=if m=0 then s0 else if m=1 then s1 else s2
def selQ (q0 q1 q2:List Tm) (m:Nat):List Tm:=if m=0 then q0 else if m=1 then q1 else q2
theorem boxAt_sel (s0 s1 s2:Sl) {m:Nat} (hm:m<3):BoxAt [s0.v,s1.v,s2.v] (0+Int.toNat (m:Int)*1+0) [(selS s0 s1 s2 m).v]:=by
 rcases(by omega:m=0∨m=1∨m=2) with rfl | rfl | rfl<;>exact⟨by simp,rfl⟩
theorem IsPoly_sel {W:PW} {s0 s1 s2:Sl} {q0 q1 q2:List Tm} (h0:IsPoly 317 188 W s0 q0) (h1:IsPoly 317 188 W s1 q1) (h2:IsPoly 317 188 W s2 q2) (m:Nat):IsPoly 317 188 W (selS s0 s1 s2 m) (selQ q0 q1 q2 m):=by
 unfold selS selQ
 (repeat' split)<;>assumption
theorem ege_step {q:Nat→List Tm} {t:Tm} {m n:Nat} :facs q (ege t) m ++ List.replicate (n+1) (q m)=facs q (ege t) m ++ List.replicate n (q m) ++ [q m]:=by
 rw[List.replicate_succ',List.append_assoc]
theorem term_fail {q:Nat→List Tm} {t:Tm} {m n:Nat} (hm:m<3) (hn:n≤ege t m) (h:runF (cst t.2) (facs q (ege t) m ++ List.replicate n (q m))=none):termC q t=none:=by
 have key: ∃r,facs q (ege t) 3=facs q (ege t) m ++ List.replicate n (q m) ++ r:=by
  have hr:List.replicate (ege t m) (q m)=List.replicate n (q m) ++ List.replicate (ege t m-n) (q m):=by rw[List.replicate_append_replicate];congr 1;omega
  rcases(by omega:m=0∨m=1∨m=2) with rfl | rfl | rfl
  ·refine⟨List.replicate (ege t 0-n) (q 0) ++ (List.replicate (ege t 1) (q 1) ++ List.replicate (ege t 2) (q 2)),?_⟩
   simp only[facs,hr,List.nil_append,List.append_assoc]
  ·refine⟨List.replicate (ege t 1-n) (q 1) ++ List.replicate (ege t 2) (q 2),?_⟩
   simp only[facs,hr,List.nil_append,List.append_assoc]
  ·refine⟨List.replicate (ege t 2-n) (q 2),?_⟩
   simp only[facs,hr,List.nil_append,List.append_assoc]
 obtain⟨r,hr⟩:=key
 unfold termC
 rw[hr]
 exact runF_app _ _ _ h
def cpO (W0:PW) (q:Nat→List Tm) (p:List Tm) (L:List PL) (W:PW):Prop:=match L with
 | [.row l,.val (.int .i64 i),_]=>∃(j:Nat) (acc:List Tm),i=(j:Int)∧j≤p.length∧Ext W0 W∧compL q (p.take j)=some acc∧All2 (PT 317 W) l acc
 | _=>False
def cpI (W0:PW) (q:Nat→List Tm) (t:Tm) (L:List PL) (W:PW):Prop:=match L with
 | [_,.val (.int .i64 i),.cells [.slice A n c],_]=>∃(m:Nat) (d:List Tm),i=(m:Int)∧m≤3∧Ext W0 W∧runF (cst t.2) (facs q (ege t) m)=some d∧IsPoly 317 188 W ⟨A,n,c⟩ d
 | _=>False
def cpK (W0:PW) (q:Nat→List Tm) (t:Tm) (m:Nat) (L:List PL) (W:PW):Prop:=match L with
 | [_,.val (.int .u8 i),.cells [.slice A n c],_]=>∃(k:Nat) (d:List Tm),i=(k:Int)∧k≤ege t m∧Ext W0 W∧runF (cst t.2) (facs q (ege t) m ++ List.replicate k (q m))=some d∧IsPoly 317 188 W ⟨A,n,c⟩ d
 | _=>False
theorem at_eget (m:Mon) {k:Nat} (hk:k<3):List.take 1 (List.drop (Int.toNat (k:Int)*1) [Value.int .u8 m.x,.int .u8 m.y,.int .u8 m.z]) = [.int .u8 (eget m k)]:=by
 rcases(by omega:k=0∨k=1∨k=2) with rfl | rfl | rfl<;>rfl
theorem polyCompose_ok {W0:PW} {M:Nat→Prop} {s s0 s1 s2:Sl} {p q0 q1 q2:List Tm} {k:Nat} (h:IsPoly 317 188 W0 s p) (g0:IsPoly 317 188 W0 s0 q0) (g1:IsPoly 317 188 W0 s1 q1) (g2:IsPoly 317 188 W0 s2 q2) (hf:FacOK k (selQ q0 q1 q2) p):
  PCallsM Go.Proofs.Tryz.prog 76 [.agg ⟨[s.v]⟩,.agg ⟨[s0.v,s1.v,s2.v]⟩] W0 M fun v W'=>∃(s':Sl),v = .tuple ⟨[.agg ⟨[Sl.v s']⟩,.bool (compL (selQ q0 q1 q2) p).isSome]⟩∧IsPoly 317 188 W' s' (pnorm ((compL (selQ q0 q1 q2) p).getD [])):=by
 apply callpoly_Compose
 have hn:=h.n
 have hk:=hf.k
 have hpl:=hf.len
 refine⟨cpO W0 (selQ q0 q1 q2) p,fun L _=>match L with | [_,.val (.int .i64 i),_]=>p.length-i.toNat | _=>0,⟨0,[],rfl,Nat.zero_le _,Ext.refl _,rfl,trivial⟩,?_⟩
 rintro s3 l4 i5 W6 ⟨j,acc,rfl,hj,hE6,hacc,hall⟩
 have hal:=hall.len
 have hsum:=(hf.take j).sum hacc
 rw[List.length_take] at hsum
 have hm1:min j p.length*(6*k+4)≤14*600004:=Nat.mul_le_mul (by omega) (by omega)
 refine⟨fun hlt=>?_,fun hge s38 W39 hE39 hO _=>?_⟩
 ·have hjl:j<p.length:=by omega
  have hpm:p[j]∈p:=List.getElem_mem hjl
  obtain⟨h0,c1,d1,c2,e1,_,_,hr⟩:=(h.ext hE6).at (List.getElem?_eq_getElem hjl)
  refine⟨(h.ext hE6).inB (by omega) (by omega),_,_,_,c1,d1,c2,e1,polyConst_call hr (hf.sz _ hpm) (by omega) fun s15 W14 hE14 h15=>⟨s15,rfl,?_⟩⟩
  refine⟨cpI W14 (selQ q0 q1 q2) p[j],fun L _=>match L with | [_,.val (.int .i64 i),_,_]=>3-i.toNat | _=>0,⟨0,cst p[j].2,rfl,by omega,Ext.refl _,rfl,h15⟩,?_⟩
  rintro s18 s19 b20 i21 W22 ⟨m,d,rfl,hm,hE22,hd,hP⟩
  have hP:IsPoly 317 188 W22 s18 d:=hP
  refine⟨fun hlt3=>?_,fun hge3=>?_⟩
  ·have hm3:m<3:=by omega
   have hek:=eget_ok h0 m
   refine⟨⟨by omega,by omega⟩,_,at_eget p[j].1 hm3,?_⟩
   refine⟨cpK W14 (selQ q0 q1 q2) p[j] m,fun L _=>match L with | [_,.val (.int .u8 i),_,_]=>256-i.toNat | _=>0,⟨0,d,rfl,Nat.zero_le _,hE22,by simpa using hd,hP⟩,?_⟩
   rintro s26 s27 b28 i29 W30 ⟨n,d',rfl,hn',hE30,hd',hP'⟩
   have hP':IsPoly 317 188 W30 s26 d':=hP'
   have hE0:=(hE6.trans hE14).trans hE30
   have hne:(ege p[j] m:Int)=eget p[j].1 m:=by unfold ege;omega
   refine⟨fun hlt'=>?_,fun hge'=>⟨by unfold I64;omega,⟨m+1,d',by push_cast;rfl,by omega,hE30,?_,hP'⟩,?_⟩⟩
   ·have hb:=hf.part hpm hm3 hn' hd'
    have hq:=hf.fac m hm3
    have hbq:=hq.1.mono (show k≤6*k+3 by omega)
    refine⟨⟨by omega,by omega⟩,_,boxAt_sel s0 s1 s2 hm3,?_⟩
    refine polyMul_call hP' (IsPoly_sel (g0.ext hE0) (g1.ext hE0) (g2.ext hE0) m) hb.1 hbq (by omega) (by omega) (by omega) (by have:=Nat.mul_le_mul hb.2 hq.2;omega) fun s34 W33 hE33 h33=>⟨s34,_,rfl,fun hno W36 _=>?_,fun hyes=>⟨⟨n+1,pnorm (ppairs d' (selQ q0 q1 q2 m)),?_,by omega,hE30.trans hE33,?_,?_⟩,?_⟩⟩
    ·have hM:¬MulOK d' (selQ q0 q1 q2 m):=by simpa using hno
     have ht:termC (selQ q0 q1 q2) p[j]=none:=term_fail hm3 (show n+1≤_ by omega) (by rw[ege_step,runF_snoc,hd',stepM];rw[if_neg hM])
     rw[compL_bad hpm ht]
     exact⟨⟨none,0,0⟩,rfl,IsPoly.nil W36⟩
    ·rw[wrap8 (by omega) (by omega)];push_cast;rfl
    ·have hM:MulOK d' (selQ q0 q1 q2 m):=by simpa using hyes
     rw[ege_step,runF_snoc,hd',stepM]
     rw[if_pos hM]
    ·have hM:MulOK d' (selQ q0 q1 q2 m):=by simpa using hyes
     rw[mulP_of hM] at h33
     exact h33
    ·show 256-Int.toNat (IntKind.wrap .u8 ((n:Int)+1))<256-Int.toNat (n:Int)
     rw[wrap8 (by omega) (by omega)]
     omega
   ·have:n=ege p[j] m:=by omega
    subst this
    exact hd'
   ·show 3-Int.toNat ((m:Int)+1)<3-Int.toNat (m:Int)
    omega
  ·have:m=3:=by omega
   subst this
   have ht:termC (selQ q0 q1 q2) p[j]=some d:=hd
   obtain⟨xs,x1,x2⟩:=hP
   have xl:=x2.len
   have hb:=hf.all hpm ht
   refine⟨xs,⟨_,x1⟩,by have:min j p.length*100000≤14*100000:=Nat.mul_le_mul_right _ (by omega);omega,by unfold I64;omega,⟨j+1,acc ++ d,by push_cast;rfl,by omega,(hE6.trans hE14).trans hE22,?_,?_⟩,?_⟩
   ·rw[take_snocR hjl,compL_snoc,hacc,ht]
   ·exact(hall.mono fun _ _ h=>h.ext (hE14.trans hE22)).append x2
   ·show p.length-Int.toNat ((j:Int)+1)<p.length-Int.toNat (j:Int)
    omega
 ·have:j=p.length:=by omega
  subst this
  rw[List.take_length] at hacc
  have hm2:min p.length p.length*100000≤14*100000:=Nat.mul_le_mul_right _ (by omega)
  refine polyNew_call (isPoly_of hO.row (hall.mono fun _ _ h=>h.ext hE39)) hsum.1 (by omega) (by omega) fun s42 W41 hE41 h42=>⟨s42,rfl,fun W43 hE43=>⟨s42,?_,?_⟩⟩
  ·rw[hacc];rfl
  ·rw[hacc]
   exact h42.ext hE43
theorem polyCompose_call {W0 W:PW} {M:Nat→Prop} {s s0 s1 s2:Sl} {p q0 q1 q2:List Tm} {k:Nat} {K:Value→PW→Prop} (h:IsPoly 317 188 W s p) (g0:IsPoly 317 188 W s0 q0) (g1:IsPoly 317 188 W s1 q1) (g2:IsPoly 317 188 W s2 q2) (hf:FacOK k (selQ q0 q1 q2) p) (kont: ∀(s':Sl) (W':PW),Ext W W'→(IsPoly 317 188 W' s' (pnorm ((compL (selQ q0 q1 q2) p).getD [])))→K (.tuple ⟨[.agg ⟨[Sl.v s']⟩,.bool (compL (selQ q0 q1 q2) p).isSome]⟩) W'):
  callN Go.Proofs.Tryz.prog W0 M 76 [.agg ⟨[s.v]⟩,.agg ⟨[s0.v,s1.v,s2.v]⟩] W K:=
 callN_of (fun W' hE=>polyCompose_ok (M:=fun _=>False) (h.ext hE) (g0.ext hE) (g1.ext hE) (g2.ext hE) hf) (fun W' v W'' hE hE' hP=>by
  obtain⟨s',rfl,h⟩:=hP
  exact kont s' W'' (hE.trans hE') h)
end Go.Proofs.YthpmkcidkcmlgaaGreat
