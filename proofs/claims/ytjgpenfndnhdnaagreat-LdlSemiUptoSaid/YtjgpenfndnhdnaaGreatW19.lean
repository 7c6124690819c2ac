/- Values of sums, products and compositions. -/
import Derived.Test.YtjgpenfndnhdnaaGreatW18
import Derived.Test.YtjgpenfndnhdnaaGreatLib4
import Derived.Test.YtjgpenfndnhdnaaGreatW16
import Derived.Test.YtjgpenfndnhdnaaGreatW8
import Derived.Test.YtjgpenfndnhdnaaGreatW17
import Derived.Test.YtjgpenfndnhdnaaGreatR25
import Derived.Test.YtjgpenfndnhdnaaGreatLib3
import Derived.Test.YtjgpenfndnhdnaaGreatRows
import Derived.WalkKit
import Derived.ProofKit
import Derived.OpenShut
import Derived.JoinedCond
import Derived.Carry
import Derived.Deep.Strs
import Derived.Deep.Slices
set_option linter.unusedVariables false
set_option linter.unusedSimpArgs false
set_option linter.unusedVariables false
set_option linter.unusedSimpArgs false
namespace Go.Proofs.YtjgpenfndnhdnaaGreat
open Go Go.SX
def evM (u:Pt) (m:Mon):Rat:=u.get 0^(eget m 0).toNat*u.get 1^(eget m 1).toNat*u.get 2^(eget m 2).toNat
theorem ctm_ev (t:Tm) (u:Pt):ctm t u 3=t.2*evM u t.1:=by
 simp only[ctm,evM,Rat.mul_assoc]
theorem atQ_lin (u:Pt) (p:List Tm):atQ u p=lin (evM u) p:=by
 have key: ∀(p:List Tm) (a:Rat),p.foldl (fun a t=>a+ctm t u 3) a=a+lin (evM u) p:=by
  intro p
  induction p with
  | nil=>intro a;simp[lin,Rat.add_zero]
  | cons t r ih=>
   intro a
   rw[List.foldl_cons,ih,lin,ctm_ev,Rat.add_assoc]
 rw[atQ,key,Rat.zero_add]
theorem rpow_add (x:Rat) (a b:Nat):x^(a+b)=x^a*x^b:=by
 induction b with
 | zero=>simp[Rat.mul_one]
 | succ b ih=>rw[←Nat.add_assoc,Rat.pow_succ,Rat.pow_succ,ih,Rat.mul_assoc]
theorem evM_add (u:Pt) {a b:Mon} (ha:a.ok) (hb:b.ok):evM u (a.add b)=evM u a*evM u b:=by
 have h: ∀k,(eget (a.add b) k).toNat=(eget a k).toNat+(eget b k).toNat:=fun k=>by
  have h1:=(eget_ok ha k).1
  have h2:=(eget_ok hb k).1
  have e:eget (a.add b) k=eget a k+eget b k:=by unfold eget Mon.add;(repeat' split)<;>rfl
  omega
 unfold evM
 rw[h,h,h,rpow_add,rpow_add,rpow_add]
 grind
theorem lin_row {G:Mon→Rat} {a:Tm} {q:List Tm} (h: ∀b∈q,G (a.1.add b.1)=G a.1*G b.1):lin G (q.map fun b=>(a.1.add b.1,a.2*b.2))=a.2*G a.1*lin G q:=by
 induction q with
 | nil=>simp[lin,Rat.mul_zero]
 | cons b r ih=>
  rw[List.map_cons,lin,lin,ih fun x hx=>h x (by simp[hx])]
  dsimp only
  rw[h b (by simp)]
  grind
theorem lin_pairs {G:Mon→Rat} {p q:List Tm} (h: ∀a∈p,∀b∈q,G (a.1.add b.1)=G a.1*G b.1):lin G (ppairs p q)=lin G p*lin G q:=by
 induction p with
 | nil=>simp[ppairs,lin,Rat.zero_mul]
 | cons a r ih=>
  have e:ppairs (a :: r) q=(q.map fun b=>(a.1.add b.1,a.2*b.2)) ++ ppairs r q:=rfl
  rw[e,lin_append,lin_row fun b hb=>h a (by simp) b hb,ih fun x hx b hb=>h x (by simp[hx]) b hb,lin]
  grind
theorem at_mul (u:Pt) {p q:List Tm} (hp:POk p) (hq:POk q):atQ u (pnorm (ppairs p q))=atQ u p*atQ u q:=by
 rw[atQ_lin,atQ_lin,atQ_lin,lin_pnorm,lin_pairs fun a ha b hb=>evM_add u (hp a ha) (hq b hb)]
theorem at_add (u:Pt) (p q:List Tm):atQ u (pnorm (p ++ q))=atQ u p+atQ u q:=by
 rw[atQ_lin,atQ_lin,atQ_lin,lin_pnorm,lin_append]
end Go.Proofs.YtjgpenfndnhdnaaGreat

/- A form at constants has a matrix' value: plain law. -/
set_option linter.unusedVariables false
set_option linter.unusedSimpArgs false
namespace Go.Proofs.YtjgpenfndnhdnaaGreat
open Go Go.SX
theorem lin_pmap (G:Mon→Rat) (r:Rat): ∀p:List Tm,lin G (pmap p r)=r*lin G p
 | []=>by simp[pmap,lin,Rat.mul_zero]
 | t :: p=>by
  have ih:=lin_pmap G r p
  unfold pmap at ih⊢
  rw[List.map_cons,lin,ih,lin]
  grind
theorem at_pmap (u:Pt) (p:List Tm) (r:Rat):atQ u (pnorm (pmap p r))=r*atQ u p:=by
 rw[atQ_lin,atQ_lin,lin_pnorm,lin_pmap]
def Z0 (p:List Tm):Prop:=∀t∈p,t.1=⟨0,0,0⟩
theorem Z0.norm {p:List Tm} (h:Z0 p):Z0 (pnorm p):=fun t ht=>let⟨x,hx,e⟩:=mem_pnorm ht;e.trans (h x hx)
theorem Z0.append {p q:List Tm} (h:Z0 p) (k:Z0 q):Z0 (p ++ q):=fun t ht=>(List.mem_append.1 ht).elim (h t) (k t)
theorem Z0.pmap {p:List Tm} (h:Z0 p) (r:Rat):Z0 (pmap p r):=fun t ht=>by
 obtain⟨x,hx,rfl⟩:=List.mem_map.1 ht
 exact h x hx
theorem Z0.pairs {p q:List Tm} (h:Z0 p) (k:Z0 q):Z0 (ppairs p q):=fun t ht=>by
 obtain⟨a,ha,hm⟩:=List.mem_flatMap.1 ht
 obtain⟨b,hb,rfl⟩:=List.mem_map.1 hm
 show a.1.add b.1=_
 rw[h a ha,k b hb]
 rfl
theorem Z0.ok {p:List Tm} (h:Z0 p):POk p:=fun t ht=>by rw[h t ht];decide
theorem Z0.mul {p q:List Tm} (h:Z0 p) (k:Z0 q):MulOK p q:=fun a ha b hb=>by rw[h a ha,k b hb];decide
theorem Z0.len {p:List Tm} (h:Z0 p) (hG:PGood p):p.length≤1:=by
 match p,h,hG with
 | [],_,_=>simp
 | [_],_,_=>simp
 | a :: b :: r,h,hG=>
  have h1:=(List.pairwise_cons.1 hG.srt).1 b (by simp)
  rw[h a (by simp),h b (by simp)] at h1
  exact absurd h1 (by unfold Mon.lt;decide)
theorem cst_z0 (r:Rat):Z0 (cst r):=Z0.norm fun t ht=>by simp at ht;subst ht;rfl
theorem formK_z0 (u:Pt) {q:Nat→List Tm} (hq: ∀i,Z0 (q i)) (m:Nat→Nat→Rat) (i:Nat) {a0:List Tm} (h0:Z0 a0): ∀k,∃a,formK q m i (some a0) k=some a∧Z0 a∧atQ u a=atQ u a0+lsum (fun t=>m i t*(atQ u (q i)*atQ u (q t))) k
 | 0=>⟨a0,rfl,h0,by simp only[lsum];rw[Rat.add_zero]⟩
 | k+1=>by
  obtain⟨a,e,hz,hv⟩:=formK_z0 u hq m i h0 k
  refine⟨pnorm (a ++ pnorm (pmap (pnorm (ppairs (q i) (q k))) (m i k))),?_,(hz.append (((hq i).pairs (hq k)).norm.pmap _).norm).norm,?_⟩
  ·rw[formK,e,stepA,if_pos ((hq i).mul (hq k))]
  ·rw[at_add,at_pmap,at_mul u (hq i).ok (hq k).ok,hv,lsum]
   grind
theorem formI_z0 (u:Pt) {q:Nat→List Tm} (hq: ∀i,Z0 (q i)) (m:Nat→Nat→Rat) (n:Nat): ∀j,∃a,formI q m n j=some a∧Z0 a∧atQ u a=lsum (fun i=>lsum (fun t=>m i t*(atQ u (q i)*atQ u (q t))) n) j
 | 0=>⟨[],rfl,fun t ht=>(by cases ht),rfl⟩
 | j+1=>by
  obtain⟨a,e,hz,hv⟩:=formI_z0 u hq m n j
  obtain⟨b,e2,hz2,hv2⟩:=formK_z0 u hq m j hz n
  exact⟨b,by rw[formI,e,e2],hz2,by rw[hv2,hv,lsum]⟩
end Go.Proofs.YtjgpenfndnhdnaaGreat

/- cincturelaw8.Point. -/
set_option maxRecDepth 100000
set_option linter.unusedVariables false
set_option linter.unusedSimpArgs false
namespace Go.Proofs.YtjgpenfndnhdnaaGreat
open Go Go.SX
theorem Pt.sz {a b c:Rat} (ha:Sz 3 a) (hb:Sz 3 b) (hc:Sz 3 c): ∀k,Sz 3 ((Pt.mk a b c).get k):=fun k=>by
 unfold Pt.get
 split
 ·exact ha
 ·split
  ·exact hb
  ·exact hc
end Go.Proofs.YtjgpenfndnhdnaaGreat

/- cincturelaw14.LdlSemi. -/
set_option maxRecDepth 100000
set_option linter.unusedVariables false
set_option linter.unusedSimpArgs false
namespace Go.Proofs.YtjgpenfndnhdnaaGreat
open Go Go.SX
def lsI (W1:PW) (r:Nat) (l:List PL) (W:PW):Prop:=match l with
 | [.row l,.val (.int .i64 i)]=>Ext W1 W∧∃(k:Nat) (zs:List Rat),i=(k:Int)∧k≤r∧zs.length=k∧(∀q∈zs,Sz 3 q)∧All2 (PolyX 260 136 W) l (zs.map cst)
 | _=>False
theorem cst_sys {zs:List Rat} (hz: ∀q∈zs,Sz 3 q) (hl:zs.length≤5):SysOK (zs.map cst):=
 ⟨fun q hq=>by
  obtain⟨x,hx,rfl⟩:=List.mem_map.1 hq
  refine⟨((bd_one (m:=⟨0,0,0⟩) (hz x hx)).norm).mono (by omega),?_⟩
  have:=pnorm_len [((⟨0,0,0⟩:Mon),x)]
  unfold cst
  simp at this
  omega,by simpa using hl⟩
theorem cst_qat (zs:List Rat) (i:Nat):Z0 (qat (zs.map cst) i):=by
 unfold qat
 rw[List.getD_eq_getElem?_getD,List.getElem?_map]
 cases zs[i]? with
 | none=>exact fun t ht=>(by cases ht)
 | some q=>exact cst_z0 q
theorem ls_b {n:Nat} (h:n≤1):n*(3000000+3*(3*255+1)+1)+1≤400000000:=by
 rcases(by omega:n=0∨n=1) with rfl | rfl<;>decide
theorem lawSemi_ok {W0:PW} {M:Nat→Prop} {s sx:Sl} {T:List (List ByteArray)} {X:List ByteArray} (h:IsTx W0 s T) (hx:RowA W0 1 sx (tcel X)) (hl:T.length≤1099511627776) (hw: ∀l∈T,l.length≤1099511627776) (hb:TB T) (hX: ∀t∈X,t.size≤1099511627776):
  PCallsM Go.Proofs.Tryz.prog 8 [s.v,sx.v] W0 M fun v W'=>v = .bool true∧True:=by
 apply calllaw14_LdlSemi
 refine lawEven_call h hl hw hb fun s3 T' W2 hE2 ⟨hT',hTB⟩=>⟨s3,rfl,lawRaw_call hT' (fun i j=>hTB.txt i j) fun s6 s7 Q W5 hE5 ⟨hm,_,hSm⟩=>⟨s6,s7,rfl,lawAlive_call fun W9 hE9 _=>⟨true,rfl,fun e=>(by cases e),fun _=>?_⟩⟩⟩
 have hr5:=hSm.1
 have hm9:=hm.ext hE9
 refine matRight_call hm9 (by omega) fun b17 W16 hE16 hR=>⟨b17,rfl,fun _=>lawAlive_call fun W19 _ _=>⟨true,rfl,fun W21 _=>⟨rfl,trivial⟩⟩,fun _=>⟨fun _=>lawAlive_call fun W23 _ _=>⟨true,rfl,fun W25 _=>⟨rfl,trivial⟩⟩,fun hge=>?_⟩⟩
 have hmn:=hm.n
 have hx16:=(((hx.ext hE2).ext hE5).ext hE9).ext hE16
 have hxn:=hx16.nt
 refine⟨lsI W16 Q.length,fun l _=>match l with | [_,.val (.int .i64 i)]=>Q.length-i.toNat | _=>0,⟨Ext.refl _,0,[],rfl,Nat.zero_le _,rfl,fun q hq=>(by cases hq),trivial⟩,?_⟩
 rintro l28 i29 W30 ⟨hE30,k,zs,rfl,hk,hzl,hz,hP⟩
 have hll:=hP.len
 rw[List.length_map] at hll
 refine⟨fun hlt=>?_,fun hge2 s47 W48 hE48 hO48 _=>?_⟩
 ·have hkX:k<X.length:=by omega
  have hxt:=hX _ (List.getElem_mem hkX)
  have hx30:=hx16.ext hE30
  refine⟨hx30.inBt (by omega) (by omega),X[k],hx30.text hkX,law3Num_call hxt fun s34 b35 s36 b37 s38 s39 W33 hE33 ⟨hq,_⟩=>⟨s34,b35,s36,b37,s38,s39,_,rfl,fun _ W41 _=>⟨rfl,trivial⟩,fun hs=>?_⟩⟩
  refine⟨hx30.inBt (by omega) (by omega),X[k],(hx30.ext hE33).text hkX,fun _ W43 _=>⟨rfl,trivial⟩,fun h16=>?_⟩
  obtain⟨q,hq'⟩:=Option.isSome_iff_exists.1 (show(numQ X[k]).isSome=true by simpa using hs)
  rw[hq'] at hq
  have hq:IsRat 260 W33 s34 b35 s36 q:=hq
  have hsq:Sz 3 q:=by
   unfold numQ at hq'
   rw[if_pos (by omega)] at hq'
   exact(parseQ_sz hq').2 (by omega)
  refine polyConst_call hq hsq (by omega) fun s46 W45 hE45 h46=>⟨s46,rfl,by simp;omega,by unfold I64;omega,⟨(hE30.trans hE33).trans hE45,k+1,zs ++ [q],by push_cast;rfl,by omega,by simp[hzl],fun x hx=>?_,?_⟩,?_⟩
  ·rcases List.mem_append.1 hx with hx | hx
   ·exact hz x hx
   ·rw[List.mem_singleton.1 hx];exact hsq
  ·rw[List.map_append]
   exact(hP.mono fun _ _ h=>(h.ext hE33).ext hE45).append ⟨⟨s46,rfl,h46⟩,trivial⟩
  ·show Q.length-Int.toNat ((k:Int)+1)<Q.length-Int.toNat (k:Int)
   omega
 have hkr:k=Q.length:=by omega
 subst hkr
 have hsys:=cst_sys hz (by omega)
 have hps:Ps W48 s47 (zs.map cst):=⟨l28,⟨_,hO48.row⟩,hP.mono fun _ _ h=>h.ext hE48⟩
 have hm48:=((hm9.ext hE16).ext hE30).ext hE48
 have hpl:(zs.map cst).length=Q.length:=by simp[hzl]
 refine gramForm_call hps hm48 hsys (by omega) (fun i j=>hSm.sz i j) fun s51 W50 hE50 h50=>⟨s51,_,rfl,fun hno=>?_,fun hyes=>?_⟩
 ·refine ldlSemi_call (hm48.ext hE50) hr5 (fun i j _ _=>hSm.sz i j) (by decide) (by decide) (Ub3 hr5) fun b55 W54 hE54 h55=>⟨b55,rfl,fun W56 _=>⟨?_,trivial⟩⟩
  cases b55 with
  | false=>rfl
  | true=>
   exfalso
   obtain⟨L,D,hS,_⟩:=h55.1 rfl
   have hF:FormOK (zs.map cst) Q.length (qw Q):=⟨hS.1,hS.2.1,hpl⟩
   rw[formP_good hF] at hno
   obtain⟨a,ea,_⟩:=formI_z0 ⟨0,0,0⟩ (cst_qat zs) (qm Q) (zs.map cst).length (zs.map cst).length
   rw[ea] at hno
   cases hno
 ·refine ldlSemi_call (hm48.ext hE50) hr5 (fun i j _ _=>hSm.sz i j) (by decide) (by decide) (Ub3 hr5) fun b59 W58 hE58 h59=>⟨b59,rfl,fun _ W60 _=>⟨rfl,trivial⟩,fun hb=>?_⟩
  obtain⟨L,D,hS,hPa,hD⟩:=h59.1 (by simpa using hb)
  have hF:FormOK (zs.map cst) Q.length (qw Q):=⟨hS.1,hS.2.1,hpl⟩
  rw[formP_good hF] at h50
  obtain⟨a,ea,haz,hav⟩:=formI_z0 ⟨0,0,0⟩ (cst_qat zs) (qm Q) (zs.map cst).length (zs.map cst).length
  obtain⟨hB,hG,hO⟩:=formI_ok hsys (fun i j=>hSm.sz i j) (Nat.le_refl _) ea
  rw[ea] at h50
  have h50:IsPoly 260 136 W50 s51 a:=h50
  have hal:=haz.len hG
  have hcm:cmb ((zs.map cst).length*(zs.map cst).length)≤3000000:=by
   unfold cmb
   have:=Nat.mul_le_mul_right 112070 (Nat.mul_le_mul hsys.len hsys.len)
   omega
  have hsa: ∀t∈a,Sz 3000000 t.2:=(hB.mono hcm).sz
  have hu: ∀i,Sz 3 ((⟨0,0,0⟩:Pt).get i):=Pt.sz (Sz.zero (by omega)) (Sz.zero (by omega)) (Sz.zero (by omega))
  have m1:=ls_b hal
  have hsz:=atQ_sz hsa hu (e:=255) (fun t ht i=>eget_le (hO t ht) i)
  refine polyAt_call (u:=⟨0,0,0⟩) (k:=3000000) (l:=3) (s0:=⟨none,0,0⟩) (b0:=false) (t0:=⟨none,0,0⟩) (s1:=⟨none,0,0⟩) (b1:=false) (t1:=⟨none,0,0⟩) (s2:=⟨none,0,0⟩) (b2:=false) (t2:=⟨none,0,0⟩) (h50.ext hE58) (isRat_zero W58) (isRat_zero W58) (isRat_zero W58) hsa hu (by decide) m1 (by decide) fun s63 b64 s65 W62 hE62 h62=>⟨s63,b64,s65,rfl,ratSign_call h62 hsz (Nat.le_trans m1 (by decide)) fun W67 _ _=>⟨_,rfl,fun W69 _=>⟨?_,trivial⟩⟩⟩
  have hnn:0≤atQ ⟨0,0,0⟩ a:=by
   rw[hav,hpl]
   exact hPa.psd hS.2.2 hD (fun i=>atQ ⟨0,0,0⟩ (qat (zs.map cst) i))
  have h0:0≤cmpQ (atQ ⟨0,0,0⟩ a) 0:=Int.not_lt.1 fun e=>cmpQ_neg.1 e hnn
  rw[decide_eq_true h0]
end Go.Proofs.YtjgpenfndnhdnaaGreat

/- Arguments opened: what every kind of argument needs. -/
set_option maxRecDepth 100000
set_option linter.unusedVariables false
set_option linter.unusedSimpArgs false
namespace Go.Proofs.YtjgpenfndnhdnaaGreat
open Go Go.SX Go.ChangeShapes Go.WideShapes Go.ChangeAt Go.RowKit Go.Deep
theorem ownKnob_none:ownKnob Go.Proofs.Tryz.prog.godebug=none:=by kernel_rfl
theorem laidOut:laidOutB Go.Proofs.Tryz.prog=true:=by kernel_rfl
theorem cells_str:Go.Proofs.Tryz.prog.cellsOf 9=1:=by kernel_rfl
theorem cell_block {W:World} {b o:Nat} {v:Value} (h:W.cell? ⟨b,o,none⟩=some v): ∃cs t fz,W.heap[b]?=some (.cells cs t fz)∧cs[o]?=some v:=by
 unfold World.cell? at h
 cases e:W.heap[b]? with
 | none=>simp[e] at h
 | some ob=>
  cases ob with
  | cells cs t fz=>exact⟨cs,t,fz,rfl,by simpa[e] using h⟩
  | _=>simp[e] at h
theorem bulk_one {H:Type} (d:DataW H):1≤Rows.uptoBulk d:=by
 cases d with
 | lit l=>cases l<;>simp[Rows.uptoBulk]
 | nil=>simp[Rows.uptoBulk]
 | ptr d=>simp[Rows.uptoBulk]
 | slice elems spare=>simp[Rows.uptoBulk]
 | agg parts=>simp[Rows.uptoBulk]
 | iface t d=>simp[Rows.uptoBulk]
 | map entries=>simp[Rows.uptoBulk]
 | held h=>simp[Rows.uptoBulk]
theorem bulk_part {H:Type} {d:DataW H} {l:List (DataW H)} (h:d∈l):Rows.uptoBulk d≤Rows.uptoBulkAll l:=by
 induction l with
 | nil=>cases h
 | cons x r ih=>
  simp only[Rows.uptoBulkAll]
  cases List.mem_cons.1 h with
  | inl e=>subst e;omega
  | inr e=>have:=ih e;omega
theorem bulk_length {H:Type} (l:List (DataW H)):l.length≤Rows.uptoBulkAll l:=by
 induction l with
 | nil=>simp[Rows.uptoBulkAll]
 | cons x r ih=>have:=bulk_one x;simp only[Rows.uptoBulkAll,List.length_cons];omega
theorem rowA_of_cells {W:World} {a:Addr} {n c:Nat} {V:Nat→Value} (h: ∀j,j<n→W.cell? (a.add j)=some (V j)) (hn:n≤c) (hc:c≤maxLen) (h1: ∀j,j<n→(V j).oneCell'=true):RowA ⟨W,fun _=>False⟩ 1 ⟨some a,n,c⟩ ((List.range n).map fun j=>[V j]):=by
 have hel: ∀x∈(List.range n).map (fun j=>[V j]),x.length=1∧∀u∈x,u.oneCell'=true:=by
  intro x hx
  obtain⟨j,hj,rfl⟩:=List.mem_map.1 hx
  exact⟨rfl,fun u hu=>by rw[List.mem_singleton.1 hu];exact h1 j (List.mem_range.1 hj)⟩
 by_cases h0:n=0
 ·subst h0
  exact⟨0,rfl,Nat.zero_le _,hc,hel,.inl rfl⟩
 ·obtain⟨b,off,sp⟩:=a
  have hsp:sp=none:=by simpa[Addr.add] using World.cell?_spot (h 0 (by omega))
  subst hsp
  have h': ∀j,j<n→W.cell? ⟨b,off+j,none⟩=some (V j):=fun j hj=>by rw[←add_plain];exact h j hj
  obtain⟨cs,t,fz,hh,_⟩:=cell_block (h' 0 (by omega))
  refine⟨t,by simp,hn,hc,hel,.inr ⟨b,off,cs,fz,rfl,id,hh,fun j v hj=>?_⟩⟩
  have e:((List.range n).map fun j=>[V j]).flatten=(List.range n).map V:=by
   rw[←List.flatMap_def]
   generalize List.range n=l
   induction l with
   | nil=>rfl
   | cons y r ih=>simp[List.flatMap_cons,ih]
  rw[e] at hj
  have hjn:j<n:=by
   have:=(List.getElem?_eq_some_iff.1 hj).1
   simpa using this
  obtain⟨cs',t',fz',hh',hv⟩:=cell_block (h' j hjn)
  rw[hh] at hh'
  cases hh'
  simp[hjn] at hj
  rw[←hj]
  exact hv
end Go.Proofs.YtjgpenfndnhdnaaGreat

/- The argument, a slice of slices of strings, opened into tables. -/
set_option maxRecDepth 100000
set_option linter.unusedVariables false
set_option linter.unusedSimpArgs false
namespace Go.Proofs.YtjgpenfndnhdnaaGreat
open Go Go.SX Go.ChangeShapes Go.WideShapes Go.ChangeAt Go.RowKit Go.Deep
instance:Inhabited (Sl×List ByteArray):=⟨(⟨none,0,0⟩,[])⟩
theorem cells_strs:Go.Proofs.Tryz.prog.cellsOf 105=1:=by kernel_rfl
theorem open_texts {H:Type} {enc:TypeId×Value→H} {W:World} {fuel:Nat} {v:Value} {d:DataW H} {p:List MemPlace} (h:DataW.trod enc Go.Proofs.Tryz.prog W 0 (fun _=>true) true fuel 105 [v]=some (d,p)):
  ∃y:Sl×List ByteArray,v=y.1.v∧RowA ⟨W,fun _=>False⟩ 1 y.1 (tcel y.2)∧y.2.length≤Rows.uptoBulk d∧∀t∈y.2,t.size≤Rows.uptoBulk d:=by
 rcases open_strs Go.Proofs.Tryz.underlying105 Go.Proofs.Tryz.underlying9 cells_str h with⟨hcs,hx⟩ | ⟨a,len,cap,m,Sx,hcs,_,hl,hm,hmm,hx,hcell⟩
 ·have hv:v = .slice none 0 0:=by simpa using hcs
  subst hv
  exact⟨(⟨none,0,0⟩,[]),rfl,⟨0,rfl,Nat.le_refl _,Nat.zero_le _,fun x h=>by simp[tcel] at h,.inl rfl⟩,Nat.zero_le _,fun t h=>by simp at h⟩
 ·have hv:v = .slice (some a) len cap:=by simpa using hcs
  subst hv
  simp only[if_true] at hmm
  subst hmm
  simp only[Prod.mk.injEq] at hx
  obtain⟨rfl,_⟩:=hx
  have hr:=rowA_of_cells (V:=fun j=>.string (Sx j)) (fun j hj=>(hcell j (by omega)).1) hl hm (fun _ _=>rfl)
  refine⟨(⟨some a,len,m⟩,(List.range len).map Sx),rfl,?_,?_,fun t ht=>?_⟩
  ·have e:tcel ((List.range len).map Sx)=(List.range len).map fun j=>[Value.string (Sx j)]:=by simp[tcel]
   rw[e]
   exact hr
  ·have:=bulk_length ((List.range len).map fun i=>(DataW.lit (.string (Sx i).data.toList):DataW H))
   simp only[List.length_map,List.length_range] at this
   simp only[List.length_map,List.length_range,Rows.uptoBulk]
   omega
  ·obtain⟨j,hj,rfl⟩:=List.mem_map.1 ht
   have:=bulk_part (List.mem_map.2 ⟨j,hj,rfl⟩:(DataW.lit (.string (Sx j).data.toList):DataW H)∈(List.range len).map fun i=>(DataW.lit (.string (Sx i).data.toList):DataW H))
   have e:(Sx j).data.toList.length=(Sx j).size:=by rw[Array.length_toList];rfl
   simp only[Rows.uptoBulk] at this⊢
   omega
theorem open_table {H:Type} {enc:TypeId×Value→H} {W:World} {fuel:Nat} {v:Value} {d:DataW H} {p:List MemPlace} (h:DataW.trod enc Go.Proofs.Tryz.prog W 0 (fun _=>true) true fuel 23 [v]=some (d,p)):
  ∃(s:Sl) (T:List (List ByteArray)),v=s.v∧IsTx ⟨W,fun _=>False⟩ s T∧T.length≤Rows.uptoBulk d∧∀l∈T,l.length≤Rows.uptoBulk d∧∀t∈l,t.size≤Rows.uptoBulk d:=by
 rcases open_slice1 Go.Proofs.Tryz.underlying23 cells_strs h with⟨hcs,hx⟩ | ⟨a,len,cap,m,n,V,D,Pl,hcs,_,hl,hm,hmm,hx,hcell⟩
 ·have hv:v = .slice none 0 0:=by simpa using hcs
  subst hv
  exact⟨⟨none,0,0⟩,[],rfl,⟨[],⟨0,rfl,Nat.le_refl _,Nat.zero_le _,fun x h=>by simp at h,.inl rfl⟩,rfl,fun i h=>by simp at h⟩,Nat.zero_le _,fun l h=>by simp at h⟩
 ·have hv:v = .slice (some a) len cap:=by simpa using hcs
  subst hv
  simp only[if_true] at hmm
  subst hmm
  simp only[Prod.mk.injEq] at hx
  obtain⟨rfl,_⟩:=hx
  obtain⟨y,hy⟩:=choose_lt (fun i hi=>open_texts (hcell i hi).2)
  have hr:=rowA_of_cells (V:=V) (fun j hj=>(hcell j (by omega)).1) hl hm (fun j hj=>by rw[(hy j (by omega)).1];rfl)
  have hbulk: ∀i,i<len→Rows.uptoBulk (D i)≤Rows.uptoBulkAll ((List.range len).map D):=fun i hi=>bulk_part (List.mem_map.2 ⟨i,List.mem_range.2 hi,rfl⟩)
  have hlen:=bulk_length ((List.range len).map D)
  simp only[List.length_map,List.length_range] at hlen
  refine⟨⟨some a,len,m⟩,(List.range len).map fun i=>(y i).2,rfl,⟨(List.range len).map fun i=>(y i).1,?_,by simp,fun i hi hi'=>?_⟩,?_,fun l hl=>?_⟩
  ·have e:(((List.range len).map fun i=>(y i).1).map fun x=>[x.v])=(List.range len).map fun j=>[V j]:=by
    rw[List.map_map]
    apply List.map_congr_left
    intro j hj
    have:=(hy j (by have:=List.mem_range.1 hj;omega)).1
    simp[this]
   rw[e]
   exact hr
  ·have hi2:i<len:=by simpa using hi
   simp only[List.getElem_map,List.getElem_range]
   exact(hy i (by omega)).2.1
  ·simp only[List.length_map,List.length_range,Rows.uptoBulk]
   omega
  ·obtain⟨j,hj,rfl⟩:=List.mem_map.1 hl
   have hj':=List.mem_range.1 hj
   have h1:=hbulk j hj'
   obtain⟨_,_,h2,h3⟩:=hy j (by omega)
   simp only[Rows.uptoBulk]
   refine⟨by omega,fun t ht=>?_⟩
   have:=h3 t ht
   omega
end Go.Proofs.YtjgpenfndnhdnaaGreat

/- cincturelaw14.LdlSemi answers true for every input whose bulk is at most 1048576 (the second form), and its arguments read behind the call as they did ahead of it. -/
set_option maxRecDepth 100000
set_option linter.unusedVariables false
set_option linter.unusedSimpArgs false
namespace Go.Proofs.YtjgpenfndnhdnaaGreat
open Go Go.SX Go.ChangeShapes Go.WideShapes Go.ChangeAt Go.RowKit Go.Deep
theorem contract (H:Type) (enc:TypeId×Value→H) (W:World) (base:Nat) (args:Array Value) (ds gs:List (DataW H)) (before:List MemPlace)
  (hval: ∀(j:Nat) t v,Go.Proofs.Tryz.f8.params[j]?=some t→args[j]?=some v→Value.okWide Go.Proofs.Tryz.prog W .any base t v)
  (hW:DataW.Whole enc Go.Proofs.Tryz.prog Go.Proofs.Tryz.f8.params.toList Rows.ldlSemiSpec.vars false W args.toList ds gs before) (hk:Rows.uptoSmall H (ds ++ gs)=true):
  Calls Go.Proofs.Tryz.prog 8 args W fun e W'=>∃v,e = .returned v∧Rows.ldlSemiSpec.post enc Go.Proofs.Tryz.prog Go.Proofs.Tryz.f8 false true false false W args v W':=by
 have hW':=hW
 obtain⟨p,q,hA0,hV,rfl,hfz,hnd⟩:=hW
 have hA:DataW.TrodAll enc Go.Proofs.Tryz.prog W 0 (fun _=>true) true Go.Proofs.Tryz.f8.params.toList args.toList ds p:=hA0
 rw[Go.Proofs.Tryz.params8] at hA hval
 obtain⟨v0,vs0,d0,ds0,p0,q0,hargs,rfl,rfl,h0,r0⟩:=trodAll_cons hA
 obtain⟨v1,vs1,d1,ds1,p1,q1,rfl,rfl,rfl,h1,r1⟩:=trodAll_cons r0
 obtain⟨rfl,rfl,rfl⟩:=trodAll_nil r1
 obtain rfl:args = #[v0,v1]:=by cases args;simp_all
 obtain⟨rfl,rfl⟩:=trodVars_none hV
 obtain⟨a0,n0,c0,rfl⟩:=okWide_slice Go.Proofs.Tryz.underlying23 (hval 0 23 v0 rfl rfl)
 obtain⟨a1,n1,c1,rfl⟩:=okWide_slice Go.Proofs.Tryz.underlying105 (hval 1 105 v1 rfl rfl)
 clear hA0
 simp only[List.append_nil] at hW' hk
 have hlt: ∀x∈p0 ++ p1,x.block<W.heap.size:=fun x hx=>by simpa using hW'.lt x (by simpa using hx)
 have hbulk:Rows.uptoBulkAll [d0,d1]≤1048576:=of_decide_eq_true hk
 simp only[Rows.uptoBulkAll] at hbulk
 have h0k:=h0
 obtain⟨fuel0,hf0⟩:=h0
 have hf0':DataW.trod enc Go.Proofs.Tryz.prog W 0 (fun _=>true) true fuel0 23 [.slice a0 n0 c0]=some (d0,p0):=by simpa[Value.cells] using hf0
 obtain⟨s0,L0,hs0,hL0,hb0,hc0⟩:=open_table hf0'
 have h1k:=h1
 obtain⟨fuel1,hf1⟩:=h1
 have hf1':DataW.trod enc Go.Proofs.Tryz.prog W 0 (fun _=>true) true fuel1 105 [.slice a1 n1 c1]=some (d1,p1):=by simpa[Value.cells] using hf1
 obtain⟨⟨s1,L1⟩,hs1,hL1,hb1,hc1⟩:=open_texts hf1'
 have hc:=lawSemi_ok (M:=fun _=>False) hL0 hL1 (by omega) (fun l hl=>by have:=(hc0 l hl).1;omega) (fun l hl t ht=>by have:=(hc0 l hl).2 t ht;omega) (fun t ht=>by have:=hc1 t ht;omega)
 have hcall:=hc.2 (fun b h=>h.elim)
 rw[hs0,hs1]
 refine hcall.mono fun e W' ⟨v,he,hkeep,hv,_⟩=>⟨v,he,?_⟩
 subst hv
 have hbel:=hkeep.below
 refine⟨[d0,d1],[],_,[],p0 ++ p1,[],(by rw[←hs0,←hs1];simpa using hW'),trodAll_mk1 (shut_bool Go.Proofs.Tryz.underlying4 _),(by rw[←hs0,←hs1];exact trodAll_mk2 (Below.trod laidOut (by kernel_rfl) (of_decide_eq_true (by kernel_rfl)) h0k hbel fun x hx=>hlt x (by simp[hx])) (Below.trod laidOut (by kernel_rfl) (of_decide_eq_true (by kernel_rfl)) h1k hbel fun x hx=>hlt x (by simp[hx]))),rfl,hbel.frame _,fun h=>by cases h⟩
theorem lifted (os:Os) (started:os.Started) (H:Type) (enc:TypeId×Value→H) (F:Stop.Interp):
  ReturnsInHanded {} Go.Proofs.Tryz.checked os 8 .any ((Rows.OpenSpec.upto Rows.ldlSemiSpec).pre6 enc Go.Proofs.Tryz.prog Go.Proofs.Tryz.f8 Rows.ldlSemiUptoRow.domain false) (((Rows.OpenSpec.upto Rows.ldlSemiSpec).at F).post enc Go.Proofs.Tryz.prog Go.Proofs.Tryz.f8 false true false false):=by
 refine returnsInHanded_of_cond (C:=Go.Proofs.Tryz.checked) (s:=Rows.OpenSpec.upto Rows.ldlSemiSpec) (k:=Rows.uptoSmall) rfl ownKnob_none started (by kernel_rfl) Go.Proofs.Tryz.func8
  (OpenSpec.witness (enc:=enc) (C:=Go.Proofs.Tryz.checked) (s:=Rows.OpenSpec.upto Rows.ldlSemiSpec) (k:=Rows.uptoSmall) rfl false ⟨#[],#[.slice none 0 0,.slice none 0 0],[]⟩ 8 (by kernel_rfl) (by kernel_rfl) (by kernel_rfl)
   (x:=([.nil,.nil],[],[])) (by kernel_rfl) rfl (by kernel_rfl)) ?_
 intro W base args ds gs before hval hW _ hk _
 exact contract H enc W base args ds gs before hval hW hk
theorem ldlSemi_holds:Rows.LdlSemiUptoSaid:=
 OpenClaim.holds_of_cond 8 Go.Proofs.Tryz.f8 rfl rfl rfl rfl rfl rfl rfl ⟨rfl,rfl,rfl,rfl,rfl⟩ rfl rfl rfl rfl rfl (by kernel_rfl) Go.Proofs.Tryz.func8 (by kernel_rfl)
  (of_decide_eq_true (by kernel_rfl)) (by unfold Func.isWrapper;first | (rw[if_pos (by decide +kernel)];kernel_rfl) | (rw[if_neg (by decide +kernel)];exact⟨rfl,rfl⟩))
  (fun os started H enc _ F=>lifted os started H enc F)
#print axioms ldlSemi_holds
end Go.Proofs.YtjgpenfndnhdnaaGreat
