/- cincturelaw14.LdlBelow. -/
import Derived.Test.YthpmkcidkcmlgaaGreatW19
import Derived.Test.YthpmkcidkcmlgaaGreatW20
import Derived.Test.YthpmkcidkcmlgaaGreatW18
import Derived.Test.YthpmkcidkcmlgaaGreatLib3
import Derived.Test.YthpmkcidkcmlgaaGreatRows
import Derived.WalkKit
import Derived.ProofKit
import Derived.OpenShut
import Derived.JoinedCond
import Derived.Carry
import Derived.Deep.Strs
import Derived.Deep.Slices
import Derived.Test.YthpmkcidkcmlgaaGreatLib4
set_option linter.unusedVariables false
set_option linter.unusedSimpArgs false
set_option maxRecDepth 100000
set_option linter.unusedVariables false
set_option linter.unusedSimpArgs false
namespace Go.Proofs.YthpmkcidkcmlgaaGreat
open Go Go.SX
def bwI (W0:PW) (r:Nat) (D:Nat→Rat) (L:List PL) (W:PW):Prop:=match L with
 | [.val (.int .i64 i)]=>∃k:Nat,i=(k:Int)∧k≤r∧Ext W0 W∧∀t,t<k→0≤D t
 | _=>False
def bwJ (W0:PW) (r:Nat) (z:Nat→Rat) (L:List PL) (W:PW):Prop:=match L with
 | [.row l,.val (.int .i64 i)]=>∃k:Nat,i=(k:Int)∧k≤r∧Ext W0 W∧All2 (PolyX 317 188 W) l ((List.range k).map fun t=>cst (z t))
 | _=>False
theorem col_sys {z:Nat→Rat} {r:Nat} (hr:r≤5) (hz: ∀i,i<r→Sz 25001 (z i)):SysOK ((List.range r).map fun t=>cst (z t)):=
 ⟨fun q hq=>by
  obtain⟨i,hi,rfl⟩:=List.mem_map.1 hq
  have hi:=List.mem_range.1 hi
  refine⟨((bd_one (m:=⟨0,0,0⟩) (hz i hi)).norm).mono (by omega),?_⟩
  have:=pnorm_len [((⟨0,0,0⟩:Mon),z i)]
  unfold cst
  simp at this
  omega,by simpa using hr⟩
theorem col_at {z:Nat→Rat} {r i:Nat} (hi:i<r):qat ((List.range r).map fun t=>cst (z t)) i=cst (z i):=by
 unfold qat
 rw[List.getD_eq_getElem?_getD,List.getElem?_map,List.getElem?_range hi]
 rfl
theorem col_z0 (z:Nat→Rat) (r i:Nat):Z0 (qat ((List.range r).map fun t=>cst (z t)) i):=by
 by_cases hi:i<r
 ·rw[col_at hi]
  exact cst_z0 _
 ·unfold qat
  rw[List.getD_eq_getElem?_getD,List.getElem?_eq_none (by simpa using hi)]
  exact fun t ht=>(by cases ht)
theorem bw_b {n:Nat} (h:n≤1):n*(3000000+3*(3*255+1)+1)+1≤400000000:=by
 rcases(by omega:n=0∨n=1) with rfl | rfl<;>decide
theorem pt_sz3 {a b c:Rat} (ha:Sz 3 a) (hb:Sz 3 b) (hc:Sz 3 c): ∀k,Sz 3 ((Pt.mk a b c).get k):=fun k=>by
 unfold Pt.get
 (repeat' split)<;>assumption
theorem ldlBelow_ok {W0:PW} {M:Nat→Prop} {s:Sl} {T:List (List ByteArray)} (h:IsTx W0 s T) (hl:T.length≤1099511627776) (hw: ∀l∈T,l.length≤1099511627776) (hb:TB T):
  PCallsM Go.Proofs.Tryz.prog 6 [s.v] W0 M fun v W'=>v = .bool true∧True:=by
 apply calllaw14_LdlBelow
 refine lawEven_call h hl hw hb fun s3 T' W2 hE2 ⟨hT',hTB⟩=>⟨s3,rfl,lawRaw_call hT' (fun i j=>hTB.txt i j) fun s6 s7 Q W5 hE5 ⟨hm,_,hSm⟩=>⟨s6,s7,rfl,lawAlive_call fun W9 hE9 _=>⟨true,rfl,fun e=>(by cases e),fun _=>?_⟩⟩⟩
 have hr5:=hSm.1
 have hm9:=hm.ext hE9
 have hz3: ∀i j,i<Q.length→j<qw Q i→Sz 3 (qm Q i j):=fun i j _ _=>hSm.sz i j
 refine ldlOf_call hm9 hr5 hz3 (by decide) (by decide) (Ub3 hr5) fun s14 s15 b16 W13 hE13 ⟨hbf,hbt⟩=>⟨s14,s15,b16,rfl,fun _ W17 _=>⟨rfl,trivial⟩,fun hb16=>?_⟩
 obtain⟨hS,L,D,hu,hd,hP,hsz⟩:=hbt (by simpa using hb16)
 refine ldlSemi_call (hm9.ext hE13) hr5 hz3 (by decide) (by decide) (Ub3 hr5) fun b20 W19 hE19 hb20=>⟨b20,rfl,fun _ W21 _=>⟨rfl,trivial⟩,fun hno=>?_⟩
 obtain⟨r,hr⟩: ∃r,Q.length=r:=⟨_,rfl⟩
 rw[hr] at hr5 hS hu hd hP hsz hb20
 have hmr:=hm9.ext (hE13.trans hE19)
 rw[hr] at hmr
 have hr1:1≤r:=hS.1.2.1
 have hsym: ∀i t,i<r→t<r→qm Q i t=qm Q t i:=fun i t hi ht=>hS.2.2 i t (by omega) (by omega)
 have hzm: ∀i j,i<r→j<r→Sz 3 (qm Q i j):=fun i j _ _=>hSm.sz i j
 have hu19:=hu.ext hE19
 have hd19:=hd.ext hE19
 have hnn:NewFrom W0.w.heap.size W19:=(hE2.trans (hE5.trans (hE9.trans (hE13.trans hE19)))).size
 refine matTurn_call hnn hu19 (by omega) fun s24 b25 W23 hE23 ⟨_,ht⟩=>⟨s24,b25,rfl,?_⟩
 have hRP:RightP r (fun _=>r):=⟨fun _ _=>rfl,hr1,by omega,hr1,by dsimp only;omega⟩
 have ht:=(ht hRP).mat
 have hU:=up_turn hP
 have hA:=aug_sz hr5 hP hzm
 have hG:=GI.all hU
 have hZ:=GI.sz hr5 hU hA
 refine matInverse_call (K0:=25000) ht hr1 hr5 (fun i hi=>by rw[(hG i (by omega)).diag i hi];decide) (fun i hi a b ha hb=>(hZ i hi a b ha hb).mono (gz_le a (by omega) i (by omega)).1) (by omega) (by omega) fun s28 W27 hE27 hv=>⟨s28,true,rfl,fun e=>(by cases e),fun _=>?_⟩
 obtain⟨V,hV⟩: ∃V:Nat→Nat→Rat,(fun a b=>gj (augM r (fun i j=>L j i) oneF) r a (r+b)/gj (augM r (fun i j=>L j i) oneF) r a a)=V:=⟨_,rfl⟩
 rw[hV] at hv
 have gr:=hG r (Nat.le_refl _)
 have hVv: ∀a b,a<r→V a b=gj (augM r (fun i j=>L j i) oneF) r a (r+b):=fun a b ha=>by
  rw[←hV]
  dsimp only
  rw[gr.diag a ha,Rat.div_def,show((1:Rat))⁻¹ = 1 from by decide +kernel,Rat.mul_one]
 have hVz: ∀a b,a<r→b<r→Sz 25000 (V a b):=fun a b ha hb=>by
  rw[hVv a b ha]
  exact(hZ r (Nat.le_refl _) a (r+b) ha (by omega)).mono (gz_le a (by omega) r (by omega)).1
 have hBT: ∀a b,a<r→b<r→lsum (fun k=>V a k*L b k) r=if a=b then 1 else 0:=fun a b ha hb=>by
  rw[←gr.unit a b ha hb,gr.comb a b ha hb]
  exact lsum_congr fun k _=>by rw[hVv a k ha]
 have hTB':=@right_inv (fun i j=>L j i) V r hU hBT
 have hdn:=hd.n
 rw[hdn]
 refine lawShaped2_call hv (by omega) fun b33 W32 hE32 hb33=>⟨b33,rfl,fun hf=>?_,fun _=>?_⟩
 ·have:=hb33.2 ⟨fun _ _=>rfl,rfl⟩
  rw[this] at hf
  cases hf
 have hd32:=hd19.ext (hE23.trans (hE27.trans hE32))
 refine⟨bwI W32 r D,cn1 r,⟨0,rfl,Nat.zero_le _,Ext.refl _,fun t ht=>by omega⟩,?_⟩
 rintro i37 W38 ⟨k,rfl,hk,hE38,hnn0⟩
 refine⟨fun hlt=>?_,fun hge W76 _=>?_⟩
 rotate_left
 ·exfalso
  have:k=r:=by omega
  subst this
  have:=hb20.2 ⟨L,D,hS,hP,hnn0⟩
  rw[this] at hno
  cases hno
 have hkr:k<r:=by omega
 have hd38:=hd32.ext hE38
 obtain⟨s39,b40,s41,e39,d39⟩:=hd38.at hkr
 have zd:Sz 1000000 (D k):=(hsz.2 k hkr).mono (Ub_le r (by omega)).1
 refine⟨hd38.inB (by omega) (by omega),s39,b40,s41,e39,ratSign_call d39 zd (by omega) fun W43 hE43 _=>⟨_,rfl,fun h0=>⟨by unfold I64;omega,⟨k+1,by push_cast;rfl,by omega,hE38.trans hE43,fun t ht=>?_⟩,?_⟩,fun h0=>?_⟩⟩
 ·by_cases e:t=k
  ·subst e
   exact Decidable.not_not.1 fun hn=>absurd (cmpQ_neg.2 hn) (by omega)
  ·exact hnn0 t (by omega)
 ·show r-Int.toNat ((k:Int)+1)<r-Int.toNat (k:Int)
  omega
 have hv43:=hv.ext (hE32.trans (hE38.trans hE43))
 have hvn:=hv.n
 refine⟨bwJ W43 r (fun i=>V i k),fun L _=>match L with | [_,.val (.int .i64 i)]=>r-i.toNat | _=>0,⟨0,rfl,Nat.zero_le _,Ext.refl _,trivial⟩,?_⟩
 rintro l47 i48 W49 ⟨p,rfl,hp,hE49,hPl⟩
 have hll:=hPl.len
 simp only[List.length_map,List.length_range] at hll
 refine⟨fun hltp=>?_,fun hge s57 W58 hE58 hO58 _=>?_⟩
 ·have hpr:p<r:=by omega
  have hv49:=hv43.ext hE49
  obtain⟨x,x1,x2⟩:=hv49.at (i:=p) hpr
  obtain⟨s51,b52,s53,e51,d51⟩:=x2.at (i:=k) hkr
  refine⟨hv49.inB (by omega) (by omega),x,x1,x2.inB (by omega) (by omega),s51,b52,s53,e51,polyConst_call d51 (hVz p k hpr hkr) (by omega) fun s56 W55 hE55 h56=>⟨s56,rfl,by simp;omega,by unfold I64;omega,⟨p+1,by push_cast;rfl,by omega,hE49.trans hE55,?_⟩,?_⟩⟩
  ·rw[List.range_succ,List.map_append]
   exact(hPl.mono fun _ _ h=>h.ext hE55).append ⟨⟨s56,rfl,h56⟩,trivial⟩
  ·show r-Int.toNat ((p:Int)+1)<r-Int.toNat (p:Int)
   omega
 have hpr:p=r:=by omega
 subst hpr
 have hsys:=col_sys (z:=fun i=>V i k) hr5 (fun i hi=>(hVz i k hi hkr).mono (by omega))
 have hps:Ps W58 s57 ((List.range p).map fun t=>cst (V t k)):=⟨l47,⟨_,hO58.row⟩,hPl.mono fun _ _ h=>h.ext hE58⟩
 have hm58:=hmr.ext (hE23.trans (hE27.trans (hE32.trans (hE38.trans (hE43.trans (hE49.trans hE58))))))
 have hpl:((List.range p).map fun t=>cst (V t k)).length=p:=by simp
 refine gramForm_call hps hm58 hsys (by omega) (fun i j=>(hSm.sz i j).mono (by omega)) fun s61 W60 hE60 h60=>⟨s61,_,rfl,?_⟩
 have hF:FormOK ((List.range p).map fun t=>cst (V t k)) p (qw Q):=⟨hS.1,hS.2.1,hpl⟩
 rw[formP_good hF] at h60⊢
 obtain⟨a,ea,haz,hav⟩:=formI_z0 ⟨0,0,0⟩ (col_z0 (fun i=>V i k) p) (qm Q) ((List.range p).map fun t=>cst (V t k)).length ((List.range p).map fun t=>cst (V t k)).length
 obtain⟨hB,hGd,hOk⟩:=formI_ok hsys (fun i j=>(hSm.sz i j).mono (by omega)) (Nat.le_refl _) ea
 rw[ea] at h60⊢
 have h60:IsPoly 317 188 W60 s61 a:=h60
 have hal:=haz.len hGd
 have hcm:cmb (((List.range p).map fun t=>cst (V t k)).length*((List.range p).map fun t=>cst (V t k)).length)≤3000000:=by
  unfold cmb
  have:=Nat.mul_le_mul_right 116070 (Nat.mul_le_mul hsys.len hsys.len)
  omega
 have hsa: ∀t∈a,Sz 3000000 t.2:=(hB.mono hcm).sz
 have hu0: ∀i,Sz 3 ((⟨0,0,0⟩:Pt).get i):=pt_sz3 (Sz.zero (by omega)) (Sz.zero (by omega)) (Sz.zero (by omega))
 have m1:=bw_b hal
 have hsz0:=atQ_sz hsa hu0 (e:=255) (fun t ht i=>eget_le (hOk t ht) i)
 have hval:atQ ⟨0,0,0⟩ a=D k:=by
  rw[hav,hpl,←form_part hP hsym hkr (z:=fun i=>V i k) fun j hj=>hTB' hj k hkr]
  exact lsum_congr fun i hi=>lsum_congr fun t ht=>by rw[col_at hi,col_at ht,at_cst,at_cst]
 have E60:=hE43.trans (hE49.trans (hE58.trans hE60))
 refine⟨fun _=>?_,fun e=>(by cases e)⟩
 have hd60:=hd38.ext E60
 obtain⟨s63,b64,s65,e63,d63⟩:=hd60.at hkr
 refine⟨hd60.inB (by omega) (by omega),s63,b64,s65,e63,?_⟩
 refine polyAt_call (u:=⟨0,0,0⟩) (k:=3000000) (l:=3) (s0:=⟨none,0,0⟩) (b0:=false) (t0:=⟨none,0,0⟩) (s1:=⟨none,0,0⟩) (b1:=false) (t1:=⟨none,0,0⟩) (s2:=⟨none,0,0⟩) (b2:=false) (t2:=⟨none,0,0⟩) h60 (isRat_zero W60) (isRat_zero W60) (isRat_zero W60) hsa hu0 (by decide) m1 (by decide) fun s68 b69 s70 W67 hE67 h67=>⟨s68,b69,s70,rfl,hE67,?_⟩
 rw[hval] at h67 hsz0
 refine ratCmp_call h67 (d63.ext hE67) zd zd (by omega) (by omega) fun W72 _ _=>⟨_,rfl,fun W74 _=>⟨?_,trivial⟩⟩
 rw[decide_eq_true ((cmpQ_zero _ _).2 rfl)]
end Go.Proofs.YthpmkcidkcmlgaaGreat

/- Arguments opened: what every kind of argument needs. -/
set_option maxRecDepth 100000
set_option linter.unusedVariables false
set_option linter.unusedSimpArgs false
namespace Go.Proofs.YthpmkcidkcmlgaaGreat
open Go Go.SX Go.ChangeShapes Go.WideShapes Go.ChangeAt Go.RowKit Go.Deep
theorem ownKnob_none:ownKnob Go.Proofs.Tryz.prog.godebug=none:=by kernel_rfl
theorem laidOut:laidOutB Go.Proofs.Tryz.prog=true:=by kernel_rfl
theorem cells_str:Go.Proofs.Tryz.prog.cellsOf 9=1:=by kernel_rfl
theorem cell_block {W:World} {b o:Nat} {v:Value} (h:W.cell? ⟨b,o,none⟩=some v): ∃cs t fz,W.heap[b]?=some (.cells cs t fz)∧cs[o]?=some v:=by
 unfold World.cell? at h
 cases e:W.heap[b]? with
 | none=>simp[e] at h
 | some ob=>
  cases ob with
  | cells cs t fz=>exact⟨cs,t,fz,rfl,by simpa[e] using h⟩
  | _=>simp[e] at h
theorem bulk_one {H:Type} (d:DataW H):1≤Rows.uptoBulk d:=by
 cases d with
 | lit l=>cases l<;>simp[Rows.uptoBulk]
 | nil=>simp[Rows.uptoBulk]
 | ptr d=>simp[Rows.uptoBulk]
 | slice elems spare=>simp[Rows.uptoBulk]
 | agg parts=>simp[Rows.uptoBulk]
 | iface t d=>simp[Rows.uptoBulk]
 | map entries=>simp[Rows.uptoBulk]
 | held h=>simp[Rows.uptoBulk]
theorem bulk_part {H:Type} {d:DataW H} {l:List (DataW H)} (h:d∈l):Rows.uptoBulk d≤Rows.uptoBulkAll l:=by
 induction l with
 | nil=>cases h
 | cons x r ih=>
  simp only[Rows.uptoBulkAll]
  cases List.mem_cons.1 h with
  | inl e=>subst e;omega
  | inr e=>have:=ih e;omega
theorem bulk_length {H:Type} (l:List (DataW H)):l.length≤Rows.uptoBulkAll l:=by
 induction l with
 | nil=>simp[Rows.uptoBulkAll]
 | cons x r ih=>have:=bulk_one x;simp only[Rows.uptoBulkAll,List.length_cons];omega
theorem rowA_of_cells {W:World} {a:Addr} {n c:Nat} {V:Nat→Value} (h: ∀j,j<n→W.cell? (a.add j)=some (V j)) (hn:n≤c) (hc:c≤maxLen) (h1: ∀j,j<n→(V j).oneCell'=true):RowA ⟨W,fun _=>False⟩ 1 ⟨some a,n,c⟩ ((List.range n).map fun j=>[V j]):=by
 have hel: ∀x∈(List.range n).map (fun j=>[V j]),x.length=1∧∀u∈x,u.oneCell'=true:=by
  intro x hx
  obtain⟨j,hj,rfl⟩:=List.mem_map.1 hx
  exact⟨rfl,fun u hu=>by rw[List.mem_singleton.1 hu];exact h1 j (List.mem_range.1 hj)⟩
 by_cases h0:n=0
 ·subst h0
  exact⟨0,rfl,Nat.zero_le _,hc,hel,.inl rfl⟩
 ·obtain⟨b,off,sp⟩:=a
  have hsp:sp=none:=by simpa[Addr.add] using World.cell?_spot (h 0 (by omega))
  subst hsp
  have h': ∀j,j<n→W.cell? ⟨b,off+j,none⟩=some (V j):=fun j hj=>by rw[←add_plain];exact h j hj
  obtain⟨cs,t,fz,hh,_⟩:=cell_block (h' 0 (by omega))
  refine⟨t,by simp,hn,hc,hel,.inr ⟨b,off,cs,fz,rfl,id,hh,fun j v hj=>?_⟩⟩
  have e:((List.range n).map fun j=>[V j]).flatten=(List.range n).map V:=by
   rw[←List.flatMap_def]
   generalize List.range n=l
   induction l with
   | nil=>rfl
   | cons y r ih=>simp[List.flatMap_cons,ih]
  rw[e] at hj
  have hjn:j<n:=by
   have:=(List.getElem?_eq_some_iff.1 hj).1
   simpa using this
  obtain⟨cs',t',fz',hh',hv⟩:=cell_block (h' j hjn)
  rw[hh] at hh'
  cases hh'
  simp[hjn] at hj
  rw[←hj]
  exact hv
end Go.Proofs.YthpmkcidkcmlgaaGreat

/- The argument, a slice of slices of strings, opened into tables. -/
set_option maxRecDepth 100000
set_option linter.unusedVariables false
set_option linter.unusedSimpArgs false
namespace Go.Proofs.YthpmkcidkcmlgaaGreat
open Go Go.SX Go.ChangeShapes Go.WideShapes Go.ChangeAt Go.RowKit Go.Deep
instance:Inhabited (Sl×List ByteArray):=⟨(⟨none,0,0⟩,[])⟩
theorem cells_strs:Go.Proofs.Tryz.prog.cellsOf 179=1:=by kernel_rfl
theorem open_texts {H:Type} {enc:TypeId×Value→H} {W:World} {fuel:Nat} {v:Value} {d:DataW H} {p:List MemPlace} (h:DataW.trod enc Go.Proofs.Tryz.prog W 0 (fun _=>true) true fuel 179 [v]=some (d,p)):
  ∃y:Sl×List ByteArray,v=y.1.v∧RowA ⟨W,fun _=>False⟩ 1 y.1 (tcel y.2)∧y.2.length≤Rows.uptoBulk d∧∀t∈y.2,t.size≤Rows.uptoBulk d:=by
 rcases open_strs Go.Proofs.Tryz.underlying179 Go.Proofs.Tryz.underlying9 cells_str h with⟨hcs,hx⟩ | ⟨a,len,cap,m,Sx,hcs,_,hl,hm,hmm,hx,hcell⟩
 ·have hv:v = .slice none 0 0:=by simpa using hcs
  subst hv
  exact⟨(⟨none,0,0⟩,[]),rfl,⟨0,rfl,Nat.le_refl _,Nat.zero_le _,fun x h=>by simp[tcel] at h,.inl rfl⟩,Nat.zero_le _,fun t h=>by simp at h⟩
 ·have hv:v = .slice (some a) len cap:=by simpa using hcs
  subst hv
  simp only[if_true] at hmm
  subst hmm
  simp only[Prod.mk.injEq] at hx
  obtain⟨rfl,_⟩:=hx
  have hr:=rowA_of_cells (V:=fun j=>.string (Sx j)) (fun j hj=>(hcell j (by omega)).1) hl hm (fun _ _=>rfl)
  refine⟨(⟨some a,len,m⟩,(List.range len).map Sx),rfl,?_,?_,fun t ht=>?_⟩
  ·have e:tcel ((List.range len).map Sx)=(List.range len).map fun j=>[Value.string (Sx j)]:=by simp[tcel]
   rw[e]
   exact hr
  ·have:=bulk_length ((List.range len).map fun i=>(DataW.lit (.string (Sx i).data.toList):DataW H))
   simp only[List.length_map,List.length_range] at this
   simp only[List.length_map,List.length_range,Rows.uptoBulk]
   omega
  ·obtain⟨j,hj,rfl⟩:=List.mem_map.1 ht
   have:=bulk_part (List.mem_map.2 ⟨j,hj,rfl⟩:(DataW.lit (.string (Sx j).data.toList):DataW H)∈(List.range len).map fun i=>(DataW.lit (.string (Sx i).data.toList):DataW H))
   have e:(Sx j).data.toList.length=(Sx j).size:=by rw[Array.length_toList];rfl
   simp only[Rows.uptoBulk] at this⊢
   omega
theorem open_table {H:Type} {enc:TypeId×Value→H} {W:World} {fuel:Nat} {v:Value} {d:DataW H} {p:List MemPlace} (h:DataW.trod enc Go.Proofs.Tryz.prog W 0 (fun _=>true) true fuel 74 [v]=some (d,p)):
  ∃(s:Sl) (T:List (List ByteArray)),v=s.v∧IsTx ⟨W,fun _=>False⟩ s T∧T.length≤Rows.uptoBulk d∧∀l∈T,l.length≤Rows.uptoBulk d∧∀t∈l,t.size≤Rows.uptoBulk d:=by
 rcases open_slice1 Go.Proofs.Tryz.underlying74 cells_strs h with⟨hcs,hx⟩ | ⟨a,len,cap,m,n,V,D,Pl,hcs,_,hl,hm,hmm,hx,hcell⟩
 ·have hv:v = .slice none 0 0:=by simpa using hcs
  subst hv
  exact⟨⟨none,0,0⟩,[],rfl,⟨[],⟨0,rfl,Nat.le_refl _,Nat.zero_le _,fun x h=>by simp at h,.inl rfl⟩,rfl,fun i h=>by simp at h⟩,Nat.zero_le _,fun l h=>by simp at h⟩
 ·have hv:v = .slice (some a) len cap:=by simpa using hcs
  subst hv
  simp only[if_true] at hmm
  subst hmm
  simp only[Prod.mk.injEq] at hx
  obtain⟨rfl,_⟩:=hx
  obtain⟨y,hy⟩:=choose_lt (fun i hi=>open_texts (hcell i hi).2)
  have hr:=rowA_of_cells (V:=V) (fun j hj=>(hcell j (by omega)).1) hl hm (fun j hj=>by rw[(hy j (by omega)).1];rfl)
  have hbulk: ∀i,i<len→Rows.uptoBulk (D i)≤Rows.uptoBulkAll ((List.range len).map D):=fun i hi=>bulk_part (List.mem_map.2 ⟨i,List.mem_range.2 hi,rfl⟩)
  have hlen:=bulk_length ((List.range len).map D)
  simp only[List.length_map,List.length_range] at hlen
  refine⟨⟨some a,len,m⟩,(List.range len).map fun i=>(y i).2,rfl,⟨(List.range len).map fun i=>(y i).1,?_,by simp,fun i hi hi'=>?_⟩,?_,fun l hl=>?_⟩
  ·have e:(((List.range len).map fun i=>(y i).1).map fun x=>[x.v])=(List.range len).map fun j=>[V j]:=by
    rw[List.map_map]
    apply List.map_congr_left
    intro j hj
    have:=(hy j (by have:=List.mem_range.1 hj;omega)).1
    simp[this]
   rw[e]
   exact hr
  ·have hi2:i<len:=by simpa using hi
   simp only[List.getElem_map,List.getElem_range]
   exact(hy i (by omega)).2.1
  ·simp only[List.length_map,List.length_range,Rows.uptoBulk]
   omega
  ·obtain⟨j,hj,rfl⟩:=List.mem_map.1 hl
   have hj':=List.mem_range.1 hj
   have h1:=hbulk j hj'
   obtain⟨_,_,h2,h3⟩:=hy j (by omega)
   simp only[Rows.uptoBulk]
   refine⟨by omega,fun t ht=>?_⟩
   have:=h3 t ht
   omega
end Go.Proofs.YthpmkcidkcmlgaaGreat

/- cincturelaw14.LdlBelow answers true for every input whose bulk is at most 1048576 (the second form), and its arguments read behind the call as they did ahead of it. -/
set_option maxRecDepth 100000
set_option linter.unusedVariables false
set_option linter.unusedSimpArgs false
namespace Go.Proofs.YthpmkcidkcmlgaaGreat
open Go Go.SX Go.ChangeShapes Go.WideShapes Go.ChangeAt Go.RowKit Go.Deep
theorem contract (H:Type) (enc:TypeId×Value→H) (W:World) (base:Nat) (args:Array Value) (ds gs:List (DataW H)) (before:List MemPlace)
  (hval: ∀(j:Nat) t v,Go.Proofs.Tryz.f6.params[j]?=some t→args[j]?=some v→Value.okWide Go.Proofs.Tryz.prog W .any base t v)
  (hW:DataW.Whole enc Go.Proofs.Tryz.prog Go.Proofs.Tryz.f6.params.toList Rows.ldlBelowSpec.vars false W args.toList ds gs before) (hk:Rows.uptoSmall H (ds ++ gs)=true):
  Calls Go.Proofs.Tryz.prog 6 args W fun e W'=>∃v,e = .returned v∧Rows.ldlBelowSpec.post enc Go.Proofs.Tryz.prog Go.Proofs.Tryz.f6 false true false false W args v W':=by
 have hW':=hW
 obtain⟨p,q,hA0,hV,rfl,hfz,hnd⟩:=hW
 have hA:DataW.TrodAll enc Go.Proofs.Tryz.prog W 0 (fun _=>true) true Go.Proofs.Tryz.f6.params.toList args.toList ds p:=hA0
 rw[Go.Proofs.Tryz.params6] at hA hval
 obtain⟨v0,vs0,d0,ds0,p0,q0,hargs,rfl,rfl,h0,r0⟩:=trodAll_cons hA
 obtain⟨rfl,rfl,rfl⟩:=trodAll_nil r0
 obtain rfl:args = #[v0]:=by cases args;simp_all
 obtain⟨rfl,rfl⟩:=trodVars_none hV
 obtain⟨a0,n0,c0,rfl⟩:=okWide_slice Go.Proofs.Tryz.underlying74 (hval 0 74 v0 rfl rfl)
 clear hA0
 simp only[List.append_nil] at hW' hk
 have hlt: ∀x∈p0,x.block<W.heap.size:=fun x hx=>by simpa using hW'.lt x (by simpa using hx)
 have hbulk:Rows.uptoBulkAll [d0]≤1048576:=of_decide_eq_true hk
 simp only[Rows.uptoBulkAll] at hbulk
 have h0k:=h0
 obtain⟨fuel0,hf0⟩:=h0
 have hf0':DataW.trod enc Go.Proofs.Tryz.prog W 0 (fun _=>true) true fuel0 74 [.slice a0 n0 c0]=some (d0,p0):=by simpa[Value.cells] using hf0
 obtain⟨s0,L0,hs0,hL0,hb0,hc0⟩:=open_table hf0'
 have hc:=ldlBelow_ok (M:=fun _=>False) hL0 (by omega) (fun l hl=>by have:=(hc0 l hl).1;omega) (fun l hl t ht=>by have:=(hc0 l hl).2 t ht;omega)
 have hcall:=hc.2 (fun b h=>h.elim)
 rw[hs0]
 refine hcall.mono fun e W' ⟨v,he,hkeep,hv,_⟩=>⟨v,he,?_⟩
 subst hv
 have hbel:=hkeep.below
 refine⟨[d0],[],_,[],p0,[],(by rw[←hs0];simpa using hW'),trodAll_mk1 (shut_bool Go.Proofs.Tryz.underlying4 _),(by rw[←hs0];exact trodAll_mk1 (Below.trod laidOut (by kernel_rfl) (of_decide_eq_true (by kernel_rfl)) h0k hbel fun x hx=>hlt x (by simp[hx]))),rfl,hbel.frame _,fun h=>by cases h⟩
theorem lifted (os:Os) (started:os.Started) (H:Type) (enc:TypeId×Value→H) (F:Stop.Interp):
  ReturnsInHanded {} Go.Proofs.Tryz.checked os 6 .any ((Rows.OpenSpec.upto Rows.ldlBelowSpec).pre6 enc Go.Proofs.Tryz.prog Go.Proofs.Tryz.f6 Rows.ldlBelowUptoRow.domain false) (((Rows.OpenSpec.upto Rows.ldlBelowSpec).at F).post enc Go.Proofs.Tryz.prog Go.Proofs.Tryz.f6 false true false false):=by
 refine returnsInHanded_of_cond (C:=Go.Proofs.Tryz.checked) (s:=Rows.OpenSpec.upto Rows.ldlBelowSpec) (k:=Rows.uptoSmall) rfl ownKnob_none started (by kernel_rfl) Go.Proofs.Tryz.func6
  (OpenSpec.witness (enc:=enc) (C:=Go.Proofs.Tryz.checked) (s:=Rows.OpenSpec.upto Rows.ldlBelowSpec) (k:=Rows.uptoSmall) rfl false ⟨#[],#[.slice none 0 0],[]⟩ 8 (by kernel_rfl) (by kernel_rfl) (by kernel_rfl)
   (x:=([.nil],[],[])) (by kernel_rfl) rfl (by kernel_rfl)) ?_
 intro W base args ds gs before hval hW _ hk _
 exact contract H enc W base args ds gs before hval hW hk
theorem row_f0:facts0 Go.Proofs.Tryz.checked.prog 6 Go.Proofs.Tryz.f6 (Rows.OpenSpec.upto Rows.ldlBelowSpec).bare Rows.ldlBelowUptoRow=true:=by kernel_rfl
theorem row_f1:facts1 Go.Proofs.Tryz.checked.prog 6 Go.Proofs.Tryz.f6 (Rows.OpenSpec.upto Rows.ldlBelowSpec).bare Rows.ldlBelowUptoRow=true:=by kernel_rfl
theorem row_f2:facts2 Go.Proofs.Tryz.checked.prog 6 Go.Proofs.Tryz.f6 (Rows.OpenSpec.upto Rows.ldlBelowSpec).bare Rows.ldlBelowUptoRow=true:=by kernel_rfl
theorem row_f3:facts3 Go.Proofs.Tryz.checked.prog 6 Go.Proofs.Tryz.f6 (Rows.OpenSpec.upto Rows.ldlBelowSpec).bare Rows.ldlBelowUptoRow=true:=by kernel_rfl
theorem row_f4:facts4 Go.Proofs.Tryz.checked.prog 6 Go.Proofs.Tryz.f6 (Rows.OpenSpec.upto Rows.ldlBelowSpec).bare Rows.ldlBelowUptoRow=true:=by kernel_rfl
theorem ldlBelow_holds:Rows.LdlBelowUptoSaid:=
 OpenClaim.holds_of_cond 6 Go.Proofs.Tryz.f6 rfl rfl rfl rfl rfl rfl rfl ⟨rfl,rfl,rfl,rfl,rfl⟩ rfl rfl rfl rfl rfl (by kernel_rfl) Go.Proofs.Tryz.func6 (joined_of row_f0 row_f1 row_f2 row_f3 row_f4)
  (of_decide_eq_true (by kernel_rfl)) (by unfold Func.isWrapper;first | (rw[if_pos (by decide +kernel)];kernel_rfl) | (rw[if_neg (by decide +kernel)];exact⟨rfl,rfl⟩))
  (fun os started H enc _ F=>lifted os started H enc F)
#print axioms ldlBelow_holds
end Go.Proofs.YthpmkcidkcmlgaaGreat
