/- cincturelaw14.LdlSquares. -/
import Derived.Test.YthpmkcidkcmlgaaGreatW22
import Derived.Test.YthpmkcidkcmlgaaGreatW19
import Derived.Test.YthpmkcidkcmlgaaGreatW23
import Derived.Test.YthpmkcidkcmlgaaGreatW24
import Derived.Test.YthpmkcidkcmlgaaGreatW17
import Derived.Test.YthpmkcidkcmlgaaGreatW25
import Derived.Test.YthpmkcidkcmlgaaGreatLib4
set_option linter.unusedVariables false
set_option linter.unusedSimpArgs false
set_option maxRecDepth 100000
set_option linter.unusedVariables false
set_option linter.unusedSimpArgs false
namespace Go.Proofs.YthpmkcidkcmlgaaGreat
open Go Go.SX
theorem noParts_no2 {r:Nat} {c:Nat→Nat} {m L:Nat→Nat→Rat} {D:Nat→Rat} (hS:SymP r c m) (hP:Parts m L D r r):¬NoParts r c m:=by
 rintro(h | ⟨L',D',k,j,hP',hk,h0,hkj,hjr,hne⟩)
 ·exact h hS
 ·have hu:=Parts.unique (c:=k) (by omega) (hP.less (by omega)) hP'
  have hl: ∀i,i<r→leftF m L D i k=leftF m L' D' i k:=fun i hi=>leftF_congr fun t ht=>⟨(hu t ht).2 i hi,(hu t ht).2 k (by omega),(hu t ht).1⟩
  have hd:D k=0:=by rw[hP.diag k (by omega),hl k (by omega),←hk,h0]
  exact hne (by rw[←hl j hjr];exact(hP.low j k (by omega) hkj hjr).2 hd)
def lqI (W0:PW) (n:Nat) (L:List PL) (W:PW):Prop:=match L with
 | [.val (.int .i64 i)]=>∃j:Nat,i=(j:Int)∧j≤n∧Ext W0 W
 | _=>False
theorem sqs_okR {q:Nat→List Tm} {L:Nat→Nat→Rat} {D:Nat→Rat} {r:Nat} (hr:r≤4) (hq: ∀k,k<r→Bd 56029 (q k)∧(q k).length≤14) (hs:SzO 3 L D r r) (hok: ∀x∈sqsP q L D r r,POk x.q):SqOK 300000 9696 (sqsP q L D r r) where
 bd s h:=by
  have h1:=hok s h
  obtain⟨i,hi,rfl⟩:=sqsP_mem h
  obtain⟨b1,b2⟩:=colP_bd (L:=L) (j:=i) hq (fun k hk=>(hs.1 k i hk hi).mono (ub4 hr)) r (Nat.le_refl _)
  exact⟨b1.mono (by omega),by dsimp only;omega,colP_good _ _ _ _,h1⟩
 ws s h:=by
  obtain⟨i,hi,rfl⟩:=sqsP_mem h
  exact(hs.2 i hi).mono (ub4 hr)
 len:=Nat.le_trans (sqsP_len r) (by omega)
 K1:=by omega
 w1:=by omega
theorem sqs_ok2 {tu tt:TypeId} {W:PW} {s:Sl} {l:List SqP} (h:SX.IsSqs tu tt W s l): ∀x∈l,POk x.q:=fun x hx=>by
 obtain⟨xs,_,ha⟩:=h
 obtain⟨v,_,⟨_,_,_,_,_,_,hp⟩⟩:=all2_mem ha hx
 exact hp.ok
theorem sqs_g {q:Nat→List Tm} {L:Nat→Nat→Rat} {D:Nat→Rat} {n j:Nat} : ∀s∈sqsP q L D n j,s.g=0:=fun s h=>by
 obtain⟨i,_,rfl⟩:=sqsP_mem h
 rfl
theorem ldlSquaresLaw_ok {W0:PW} {M:Nat→Prop} {s t:Sl} {T:List (List (Mon×ByteArray))} {T2:List (List ByteArray)} (h1:IsAPolys W0 s T) (h2:IsTx W0 t T2) (z1: ∀l∈T,l.length≤1099511627776∧∀t∈l,t.2.size≤1099511627776) (l2:T2.length≤1099511627776) (z2: ∀l∈T2,l.length≤1099511627776∧∀t∈l,t.size≤1099511627776):
  PCallsM Go.Proofs.Tryz.prog 5 [s.v,t.v] W0 M fun v W'=>v = .bool true∧True:=by
 apply calllaw14_LdlSquares
 have alv: ∀W,callN Go.Proofs.Tryz.prog W0 M 30 [] W fun v11 W12=>∃b13:Bool,v11 = .bool b13∧∀(W14:PW),Ext W12 W14→Value.bool b13 = .bool true∧True:=fun W=>lawAlive_call fun W12 _ _=>⟨true,rfl,fun W14 _=>⟨rfl,trivial⟩⟩
 refine lawSystem_call h1 z1 fun s3 s4 b5 W2 hE2 g=>⟨s3,s4,b5,rfl,fun _=>alv _,fun hb5=>lawAlive_call fun W11 hE11 _=>⟨true,rfl,fun e=>(by cases e),fun _=>?_⟩⟩
 obtain⟨ps,hof,h4,p1,p2⟩:=g (by simpa using hb5)
 have hpl:=All2.len hof
 have hp:SysOK ps:=⟨fun q hq=>by
  obtain⟨l,ho⟩:=hof.mem hq
  exact⟨ho.bd,ho.len⟩,by omega⟩
 refine lawEven_call (h2.ext (hE2.trans hE11)) l2 (fun l hl=>(z2 l hl).1) (fun l hl=>(z2 l hl).2) fun s19 T' W18 hE18 ⟨hT,hB⟩=>⟨s19,rfl,lawRaw_call hT hB.txt fun s22 s23 Q W21 hE21 ⟨hm,hx,hSm⟩=>⟨s22,s23,rfl,?_⟩⟩
 have hx':=RQMs.mat hx
 have hr5:=hSm.1
 have hz3: ∀i j,i<Q.length→j<qw Q i→Sz 3 (qm Q i j):=fun i j _ _=>hSm.sz i j
 have hE0:=hE11.trans (hE18.trans hE21)
 have hok: ∀i,POk (qat ps i):=fun i=>by
  by_cases hi:i<ps.length
  ·rw[qat_at hi]
   obtain⟨x,_,hxp⟩:=p1.at hi
   exact hxp.ok
  ·rw[show qat ps i = [] from by unfold qat;rw[List.getD_eq_getElem?_getD,List.getElem?_eq_none (by omega)];rfl]
   exact fun t ht=>(by cases ht)
 have hex: ∀i,PExp 4 (qat ps i):=fun i=>by
  by_cases hi:i<ps.length
  ·have h:=hok i
   rw[qat_at hi] at h⊢
   obtain⟨l,ho⟩:=hof.mem (List.getElem_mem hi)
   exact ho.exp h
  ·rw[show qat ps i = [] from by unfold qat;rw[List.getD_eq_getElem?_getD,List.getElem?_eq_none (by omega)];rfl]
   exact fun t ht=>(by cases ht)
 refine ldlSquares_call (p1.ext hE0) hm hp (by omega) hr5 hz3 fun s26 b27 l W25 hE25 ⟨a1,a2,a3⟩=>⟨s26,b27,rfl,?_⟩
 refine refSquares_call (p2.ext (hE0.trans hE25)) (hx'.ext hE25) hp (by omega) hr5 hz3 fun s30 b31 l' W29 hE29 ⟨c1,c2,c3⟩=>⟨s30,b31,rfl,?_⟩
 have hbb:b27=b31:=by
  cases b27 with
  | false=>
   cases b31 with
   | false=>rfl
   | true=>
    obtain⟨e1,hS,L,D,hP,_⟩:=c3 rfl
    exact((a2 rfl).2.elim (fun h=>absurd h (noParts_no2 hS hP)) fun h=>absurd e1 h)
  | true=>
   cases b31 with
   | true=>rfl
   | false=>
    obtain⟨e1,hS,L,D,hP,_⟩:=a3 rfl
    exact((c2 rfl).2.elim (fun h=>absurd h (noParts_no2 hS hP)) fun h=>absurd e1 h)
 subst hbb
 have hll:l=l':=by
  cases b27 with
  | false=>rw[(a2 rfl).1,(c2 rfl).1]
  | true=>
   obtain⟨e1,hS,L,D,hP,_,k1⟩:=a3 rfl
   obtain⟨_,_,L',D',hP',_,k2⟩:=c3 rfl
   rw[k1,k2]
   exact sqsP_congr fun k hk=>Parts.unique (Nat.le_refl _) hP hP' k hk
 subst hll
 have hqs:=qat_sys hp
 have hpok:=sqs_ok2 a1
 have hso:SqOK 300000 9696 l∧∀s∈l,s.g=0:=by
  cases b27 with
  | false=>rw[(a2 rfl).1];exact⟨⟨fun s h=>(by cases h),fun s h=>(by cases h),Nat.zero_le _,by omega,by omega⟩,fun s h=>(by cases h)⟩
  | true=>
   obtain⟨e1,hS,L,D,hP,hsz,k1⟩:=a3 rfl
   rw[k1] at hpok⊢
   exact⟨sqs_okR (by omega) (by rw[←e1];exact hqs) hsz hpok,sqs_g⟩
 obtain⟨hso,hg0⟩:=hso
 have n26:=a1.n
 have n30:=c1.n
 refine⟨fun hne=>absurd rfl hne,fun _=>⟨fun hne=>absurd (by rw[n26,n30]) hne,fun _=>⟨lqI W29 l.length,cn1 l.length,⟨0,rfl,Nat.zero_le _,Ext.refl _⟩,?_⟩⟩⟩
 rintro i36 W37 ⟨j,rfl,hj,hE37⟩
 refine⟨fun hlt=>?_,fun hge=>⟨fun _ W56 _=>⟨rfl,trivial⟩,fun hb=>?_⟩⟩
 ·have hjl:j<l.length:=by omega
  have hl6:=hso.len
  have hmem:=List.getElem_mem hjl
  have hA:=SX.IsSqs.ext a1 (hE29.trans hE37)
  have hC:=c1.ext hE37
  obtain⟨x,⟨s38,b39,s40,s50,rfl,q1,q2⟩,hel⟩:=hA.at hjl
  obtain⟨y,⟨b41,s42,s43,s51,rfl,r1,r2⟩,hel2⟩:=hC.at hjl
  have ib1:=hA.inB (i:=(j:Int)) (by omega) (by omega)
  have ib2:=hC.inB (i:=(j:Int)) (by omega) (by omega)
  obtain⟨z1,z2,z3,z4⟩:=hso.bd _ hmem
  refine⟨ib1,s38,b39,s40,hel 0 rfl,ib2,b41,s42,s43,hel2 0 rfl,law3Is_call q1 r1 (hso.ws _ hmem) (hso.ws _ hmem) (by omega) fun W45 hE45 _=>⟨_,rfl,fun hno=>absurd hno (by simp),fun _=>⟨ib1,_,(hel 3 rfl).ext hE45,fun hne=>absurd (hg0 _ hmem) hne,fun _=>⟨ib1,s50,(hel 4 rfl).ext hE45,ib2,s51,(hel2 4 rfl).ext hE45,?_⟩⟩⟩⟩
  refine law8Is_call (q2.ext hE45) (r2.ext hE45) z1.sz (by omega) (by omega) fun W53 hE53 _=>⟨true,rfl,hE53,fun e=>(by cases e),fun _=>⟨by unfold I64;omega,⟨j+1,by push_cast;rfl,by omega,hE37.trans (hE45.trans hE53)⟩,?_⟩⟩
  show l.length-Int.toNat ((j:Int)+1)<l.length-Int.toNat (j:Int)
  omega
 have hb:b27=true:=by simpa using hb
 subst hb
 obtain⟨e1,hS,L,D,hP,hsz,k1⟩:=a3 rfl
 refine ratOf_call (z:=0) (by unfold I64;omega) fun s59 b60 s61 W58 hE58 h58=>⟨s59,b60,s61,rfl,ratOf_call (z:=1) (by unfold I64;omega) fun s64 b65 s66 W63 hE63 h63=>⟨s64,b65,s66,rfl,?_⟩⟩
 have h58:IsRat 317 W58 s59 b60 s61 0:=h58
 have h63:IsRat 317 W63 s64 b65 s66 1:=h63
 refine spanNew_call (k:=1) (h58.ext hE63) h63 (Sz.zero (by omega)) (Sz.one (by omega)) (by omega) fun lv W68 hE68 h68=>?_
 rw[if_pos (by decide)] at h68
 obtain⟨s69,b70,s71,s72,b73,s74,rfl,u1,u2⟩:=h68
 refine⟨s69,b70,s71,s72,b73,s74,_,rfl,fun s76 W77 hE77 hO77 _=>?_⟩
 have hBox:IsBox 317 W77 s76 [((0:Rat),(1:Rat))]:=⟨_,⟨_,hO77.row⟩,⟨⟨s69,b70,s71,s72,b73,s74,rfl,u1.ext hE77,u2.ext hE77⟩,trivial⟩⟩
 have hk: ∀x∈[((0:Rat),(1:Rat))],IvS 4000 x:=fun x hx=>by rw[List.mem_singleton.1 hx];exact⟨Sz.zero (by omega),Sz.one (by omega)⟩
 have hE1:=hE37.trans (hE58.trans (hE63.trans (hE68.trans hE77)))
 refine gramSum_call (SX.IsSqs.ext a1 (hE29.trans hE1)) hBox hso hk (by simp) fun s80 W79 hE79 h80=>⟨s80,_,rfl,?_⟩
 have hE2':=hE0.trans (hE25.trans (hE29.trans (hE1.trans hE79)))
 refine gramForm_call (p1.ext hE2') (hm.ext (hE25.trans (hE29.trans (hE1.trans hE79)))) hp (by omega) (fun i j=>(hSm.sz i j).mono (by omega)) fun s84 W83 hE83 h84=>⟨s84,_,rfl,?_⟩
 have hF:FormOK ps Q.length (qw Q):=⟨hS.1,hS.2.1,e1⟩
 rw[formP_good hF] at h84⊢
 subst k1
 have hsym: ∀i k,i<ps.length→k<ps.length→qm Q i k=qm Q k i:=fun i k hi hk=>hS.2.2 i k (by omega) (by omega)
 rw[←e1] at hP hso h80⊢
 obtain⟨a,ea,ef⟩:=sum_form (e:=4) (by omega) hp (fun i j=>(hSm.sz i j).mono (by omega)) hex hP hsym hso
 rw[ef] at h84⊢
 rw[ea] at h80⊢
 obtain⟨hB',hG',hO'⟩:=formI_ok hp (fun i j=>(hSm.sz i j).mono (by omega)) (Nat.le_refl _) ef
 have h84:IsPoly 317 188 W83 s84 a:=h84
 have h80:IsPoly 317 188 W79 s80 a:=h80
 refine⟨fun _=>⟨fun _=>?_,fun e=>(by cases e)⟩,fun e=>(by cases e)⟩
 have hal:=hG'.len h84.ok
 refine polySame_call (h80.ext hE83) h84 hB'.sz hB'.sz ?_ (by omega) fun W87 hE87 _=>⟨_,rfl,fun W89 _=>⟨by simp,trivial⟩⟩
 unfold cmb
 have:=Nat.mul_le_mul_right 116070 (Nat.mul_le_mul hp.len hp.len)
 omega
end Go.Proofs.YthpmkcidkcmlgaaGreat

/- An argument that is a slice of slices of terms, opened. -/
set_option maxRecDepth 100000
set_option linter.unusedVariables false
set_option linter.unusedSimpArgs false
namespace Go.Proofs.YthpmkcidkcmlgaaGreat
open Go Go.SX Go.ChangeShapes Go.WideShapes Go.ChangeAt Go.RowKit Go.Deep
instance:Inhabited (Sl×List (Mon×ByteArray)):=⟨(⟨none,0,0⟩,[])⟩
theorem cells_terms:Go.Proofs.Tryz.prog.cellsOf 22=1:=by kernel_rfl
theorem open_termss {H:Type} {enc:TypeId×Value→H} {W:World} {fuel:Nat} {v:Value} {d:DataW H} {p:List MemPlace} (h:DataW.trod enc Go.Proofs.Tryz.prog W 0 (fun _=>true) true fuel 73 [v]=some (d,p)):
  ∃(s:Sl) (T:List (List (Mon×ByteArray))),v=s.v∧IsAPolys ⟨W,fun _=>False⟩ s T∧T.length≤Rows.uptoBulk d∧∀l∈T,l.length≤Rows.uptoBulk d∧∀t∈l,t.2.size≤Rows.uptoBulk d:=by
 rcases open_slice1 Go.Proofs.Tryz.underlying73 cells_terms h with⟨hcs,hx⟩ | ⟨a,len,cap,m,n,V,D,Pl,hcs,_,hl,hm,hmm,hx,hcell⟩
 ·have hv:v = .slice none 0 0:=by simpa using hcs
  subst hv
  exact⟨⟨none,0,0⟩,[],rfl,⟨[],⟨0,rfl,Nat.le_refl _,Nat.zero_le _,fun x h=>by simp at h,.inl rfl⟩,rfl,fun i h=>by simp at h⟩,Nat.zero_le _,fun l h=>by simp at h⟩
 ·have hv:v = .slice (some a) len cap:=by simpa using hcs
  subst hv
  simp only[if_true] at hmm
  subst hmm
  simp only[Prod.mk.injEq] at hx
  obtain⟨rfl,_⟩:=hx
  obtain⟨y,hy⟩:=choose_lt (α:=Sl×List (Mon×ByteArray)) (p:=fun i y=>V i=y.1.v∧IsAPoly ⟨W,fun _=>False⟩ y.1 y.2∧y.2.length≤Rows.uptoBulk (D i)∧∀t∈y.2,t.2.size≤Rows.uptoBulk (D i)) fun i hi=>by
   obtain⟨s,L,h1,h2,h3,h4⟩:=open_terms (hcell i hi).2
   exact⟨(s,L),h1,h2,h3,h4⟩
  have hr:=rowA_of_cells (V:=V) (fun j hj=>(hcell j (by omega)).1) hl hm (fun j hj=>by rw[(hy j (by omega)).1];rfl)
  have hbulk: ∀i,i<len→Rows.uptoBulk (D i)≤Rows.uptoBulkAll ((List.range len).map D):=fun i hi=>bulk_part (List.mem_map.2 ⟨i,List.mem_range.2 hi,rfl⟩)
  have hlen:=bulk_length ((List.range len).map D)
  simp only[List.length_map,List.length_range] at hlen
  refine⟨⟨some a,len,m⟩,(List.range len).map fun i=>(y i).2,rfl,⟨(List.range len).map fun i=>(y i).1,?_,by simp,fun i hi hi'=>?_⟩,?_,fun l hl=>?_⟩
  ·have e:(((List.range len).map fun i=>(y i).1).map fun x=>[x.v])=(List.range len).map fun j=>[V j]:=by
    rw[List.map_map]
    apply List.map_congr_left
    intro j hj
    have:=(hy j (by have:=List.mem_range.1 hj;omega)).1
    simp[this]
   rw[e]
   exact hr
  ·have hi2:i<len:=by simpa using hi
   simp only[List.getElem_map,List.getElem_range]
   exact(hy i (by omega)).2.1
  ·simp only[List.length_map,List.length_range,Rows.uptoBulk]
   omega
  ·obtain⟨j,hj,rfl⟩:=List.mem_map.1 hl
   have hj':=List.mem_range.1 hj
   have h1:=hbulk j hj'
   obtain⟨_,_,h2,h3⟩:=hy j (by omega)
   simp only[Rows.uptoBulk]
   refine⟨by omega,fun t ht=>?_⟩
   have:=h3 t ht
   omega
end Go.Proofs.YthpmkcidkcmlgaaGreat

/- The argument, a slice of slices of strings, opened into tables. -/
set_option maxRecDepth 100000
set_option linter.unusedVariables false
set_option linter.unusedSimpArgs false
namespace Go.Proofs.YthpmkcidkcmlgaaGreat
open Go Go.SX Go.ChangeShapes Go.WideShapes Go.ChangeAt Go.RowKit Go.Deep
instance:Inhabited (Sl×List ByteArray):=⟨(⟨none,0,0⟩,[])⟩
theorem cells_strs:Go.Proofs.Tryz.prog.cellsOf 179=1:=by kernel_rfl
theorem open_texts {H:Type} {enc:TypeId×Value→H} {W:World} {fuel:Nat} {v:Value} {d:DataW H} {p:List MemPlace} (h:DataW.trod enc Go.Proofs.Tryz.prog W 0 (fun _=>true) true fuel 179 [v]=some (d,p)):
  ∃y:Sl×List ByteArray,v=y.1.v∧RowA ⟨W,fun _=>False⟩ 1 y.1 (tcel y.2)∧y.2.length≤Rows.uptoBulk d∧∀t∈y.2,t.size≤Rows.uptoBulk d:=by
 rcases open_strs Go.Proofs.Tryz.underlying179 Go.Proofs.Tryz.underlying9 cells_str h with⟨hcs,hx⟩ | ⟨a,len,cap,m,Sx,hcs,_,hl,hm,hmm,hx,hcell⟩
 ·have hv:v = .slice none 0 0:=by simpa using hcs
  subst hv
  exact⟨(⟨none,0,0⟩,[]),rfl,⟨0,rfl,Nat.le_refl _,Nat.zero_le _,fun x h=>by simp[tcel] at h,.inl rfl⟩,Nat.zero_le _,fun t h=>by simp at h⟩
 ·have hv:v = .slice (some a) len cap:=by simpa using hcs
  subst hv
  simp only[if_true] at hmm
  subst hmm
  simp only[Prod.mk.injEq] at hx
  obtain⟨rfl,_⟩:=hx
  have hr:=rowA_of_cells (V:=fun j=>.string (Sx j)) (fun j hj=>(hcell j (by omega)).1) hl hm (fun _ _=>rfl)
  refine⟨(⟨some a,len,m⟩,(List.range len).map Sx),rfl,?_,?_,fun t ht=>?_⟩
  ·have e:tcel ((List.range len).map Sx)=(List.range len).map fun j=>[Value.string (Sx j)]:=by simp[tcel]
   rw[e]
   exact hr
  ·have:=bulk_length ((List.range len).map fun i=>(DataW.lit (.string (Sx i).data.toList):DataW H))
   simp only[List.length_map,List.length_range] at this
   simp only[List.length_map,List.length_range,Rows.uptoBulk]
   omega
  ·obtain⟨j,hj,rfl⟩:=List.mem_map.1 ht
   have:=bulk_part (List.mem_map.2 ⟨j,hj,rfl⟩:(DataW.lit (.string (Sx j).data.toList):DataW H)∈(List.range len).map fun i=>(DataW.lit (.string (Sx i).data.toList):DataW H))
   have e:(Sx j).data.toList.length=(Sx j).size:=by rw[Array.length_toList];rfl
   simp only[Rows.uptoBulk] at this⊢
   omega
theorem open_table {H:Type} {enc:TypeId×Value→H} {W:World} {fuel:Nat} {v:Value} {d:DataW H} {p:List MemPlace} (h:DataW.trod enc Go.Proofs.Tryz.prog W 0 (fun _=>true) true fuel 74 [v]=some (d,p)):
  ∃(s:Sl) (T:List (List ByteArray)),v=s.v∧IsTx ⟨W,fun _=>False⟩ s T∧T.length≤Rows.uptoBulk d∧∀l∈T,l.length≤Rows.uptoBulk d∧∀t∈l,t.size≤Rows.uptoBulk d:=by
 rcases open_slice1 Go.Proofs.Tryz.underlying74 cells_strs h with⟨hcs,hx⟩ | ⟨a,len,cap,m,n,V,D,Pl,hcs,_,hl,hm,hmm,hx,hcell⟩
 ·have hv:v = .slice none 0 0:=by simpa using hcs
  subst hv
  exact⟨⟨none,0,0⟩,[],rfl,⟨[],⟨0,rfl,Nat.le_refl _,Nat.zero_le _,fun x h=>by simp at h,.inl rfl⟩,rfl,fun i h=>by simp at h⟩,Nat.zero_le _,fun l h=>by simp at h⟩
 ·have hv:v = .slice (some a) len cap:=by simpa using hcs
  subst hv
  simp only[if_true] at hmm
  subst hmm
  simp only[Prod.mk.injEq] at hx
  obtain⟨rfl,_⟩:=hx
  obtain⟨y,hy⟩:=choose_lt (fun i hi=>open_texts (hcell i hi).2)
  have hr:=rowA_of_cells (V:=V) (fun j hj=>(hcell j (by omega)).1) hl hm (fun j hj=>by rw[(hy j (by omega)).1];rfl)
  have hbulk: ∀i,i<len→Rows.uptoBulk (D i)≤Rows.uptoBulkAll ((List.range len).map D):=fun i hi=>bulk_part (List.mem_map.2 ⟨i,List.mem_range.2 hi,rfl⟩)
  have hlen:=bulk_length ((List.range len).map D)
  simp only[List.length_map,List.length_range] at hlen
  refine⟨⟨some a,len,m⟩,(List.range len).map fun i=>(y i).2,rfl,⟨(List.range len).map fun i=>(y i).1,?_,by simp,fun i hi hi'=>?_⟩,?_,fun l hl=>?_⟩
  ·have e:(((List.range len).map fun i=>(y i).1).map fun x=>[x.v])=(List.range len).map fun j=>[V j]:=by
    rw[List.map_map]
    apply List.map_congr_left
    intro j hj
    have:=(hy j (by have:=List.mem_range.1 hj;omega)).1
    simp[this]
   rw[e]
   exact hr
  ·have hi2:i<len:=by simpa using hi
   simp only[List.getElem_map,List.getElem_range]
   exact(hy i (by omega)).2.1
  ·simp only[List.length_map,List.length_range,Rows.uptoBulk]
   omega
  ·obtain⟨j,hj,rfl⟩:=List.mem_map.1 hl
   have hj':=List.mem_range.1 hj
   have h1:=hbulk j hj'
   obtain⟨_,_,h2,h3⟩:=hy j (by omega)
   simp only[Rows.uptoBulk]
   refine⟨by omega,fun t ht=>?_⟩
   have:=h3 t ht
   omega
end Go.Proofs.YthpmkcidkcmlgaaGreat

/- cincturelaw14.LdlSquares answers true for every input whose bulk is at most 1048576 (the second form), and its arguments read behind the call as they did ahead of it. -/
set_option maxRecDepth 100000
set_option linter.unusedVariables false
set_option linter.unusedSimpArgs false
namespace Go.Proofs.YthpmkcidkcmlgaaGreat
open Go Go.SX Go.ChangeShapes Go.WideShapes Go.ChangeAt Go.RowKit Go.Deep
theorem contract (H:Type) (enc:TypeId×Value→H) (W:World) (base:Nat) (args:Array Value) (ds gs:List (DataW H)) (before:List MemPlace)
  (hval: ∀(j:Nat) t v,Go.Proofs.Tryz.f5.params[j]?=some t→args[j]?=some v→Value.okWide Go.Proofs.Tryz.prog W .any base t v)
  (hW:DataW.Whole enc Go.Proofs.Tryz.prog Go.Proofs.Tryz.f5.params.toList Rows.ldlSquaresSpec.vars false W args.toList ds gs before) (hk:Rows.uptoSmall H (ds ++ gs)=true):
  Calls Go.Proofs.Tryz.prog 5 args W fun e W'=>∃v,e = .returned v∧Rows.ldlSquaresSpec.post enc Go.Proofs.Tryz.prog Go.Proofs.Tryz.f5 false true false false W args v W':=by
 have hW':=hW
 obtain⟨p,q,hA0,hV,rfl,hfz,hnd⟩:=hW
 have hA:DataW.TrodAll enc Go.Proofs.Tryz.prog W 0 (fun _=>true) true Go.Proofs.Tryz.f5.params.toList args.toList ds p:=hA0
 rw[Go.Proofs.Tryz.params5] at hA hval
 obtain⟨v0,vs0,d0,ds0,p0,q0,hargs,rfl,rfl,h0,r0⟩:=trodAll_cons hA
 obtain⟨v1,vs1,d1,ds1,p1,q1,rfl,rfl,rfl,h1,r1⟩:=trodAll_cons r0
 obtain⟨rfl,rfl,rfl⟩:=trodAll_nil r1
 obtain rfl:args = #[v0,v1]:=by cases args;simp_all
 obtain⟨rfl,rfl⟩:=trodVars_none hV
 obtain⟨a0,n0,c0,rfl⟩:=okWide_slice Go.Proofs.Tryz.underlying73 (hval 0 73 v0 rfl rfl)
 obtain⟨a1,n1,c1,rfl⟩:=okWide_slice Go.Proofs.Tryz.underlying74 (hval 1 74 v1 rfl rfl)
 clear hA0
 simp only[List.append_nil] at hW' hk
 have hlt: ∀x∈p0 ++ p1,x.block<W.heap.size:=fun x hx=>by simpa using hW'.lt x (by simpa using hx)
 have hbulk:Rows.uptoBulkAll [d0,d1]≤1048576:=of_decide_eq_true hk
 simp only[Rows.uptoBulkAll] at hbulk
 have h0k:=h0
 obtain⟨fuel0,hf0⟩:=h0
 have hf0':DataW.trod enc Go.Proofs.Tryz.prog W 0 (fun _=>true) true fuel0 73 [.slice a0 n0 c0]=some (d0,p0):=by simpa[Value.cells] using hf0
 obtain⟨s0,L0,hs0,hL0,hb0,hc0⟩:=open_termss hf0'
 have h1k:=h1
 obtain⟨fuel1,hf1⟩:=h1
 have hf1':DataW.trod enc Go.Proofs.Tryz.prog W 0 (fun _=>true) true fuel1 74 [.slice a1 n1 c1]=some (d1,p1):=by simpa[Value.cells] using hf1
 obtain⟨s1,L1,hs1,hL1,hb1,hc1⟩:=open_table hf1'
 have hc:=ldlSquaresLaw_ok (M:=fun _=>False) hL0 hL1 (fun l hl=>⟨by have:=(hc0 l hl).1;omega,fun t ht=>by have:=(hc0 l hl).2 t ht;omega⟩) (by omega) (fun l hl=>⟨by have:=(hc1 l hl).1;omega,fun t ht=>by have:=(hc1 l hl).2 t ht;omega⟩)
 have hcall:=hc.2 (fun b h=>h.elim)
 rw[hs0,hs1]
 refine hcall.mono fun e W' ⟨v,he,hkeep,hv,_⟩=>⟨v,he,?_⟩
 subst hv
 have hbel:=hkeep.below
 refine⟨[d0,d1],[],_,[],p0 ++ p1,[],(by rw[←hs0,←hs1];simpa using hW'),trodAll_mk1 (shut_bool Go.Proofs.Tryz.underlying4 _),(by rw[←hs0,←hs1];exact trodAll_mk2 (Below.trod laidOut (by kernel_rfl) (of_decide_eq_true (by kernel_rfl)) h0k hbel fun x hx=>hlt x (by simp[hx])) (Below.trod laidOut (by kernel_rfl) (of_decide_eq_true (by kernel_rfl)) h1k hbel fun x hx=>hlt x (by simp[hx]))),rfl,hbel.frame _,fun h=>by cases h⟩
theorem lifted (os:Os) (started:os.Started) (H:Type) (enc:TypeId×Value→H) (F:Stop.Interp):
  ReturnsInHanded {} Go.Proofs.Tryz.checked os 5 .any ((Rows.OpenSpec.upto Rows.ldlSquaresSpec).pre6 enc Go.Proofs.Tryz.prog Go.Proofs.Tryz.f5 Rows.ldlSquaresUptoRow.domain false) (((Rows.OpenSpec.upto Rows.ldlSquaresSpec).at F).post enc Go.Proofs.Tryz.prog Go.Proofs.Tryz.f5 false true false false):=by
 refine returnsInHanded_of_cond (C:=Go.Proofs.Tryz.checked) (s:=Rows.OpenSpec.upto Rows.ldlSquaresSpec) (k:=Rows.uptoSmall) rfl ownKnob_none started (by kernel_rfl) Go.Proofs.Tryz.func5
  (OpenSpec.witness (enc:=enc) (C:=Go.Proofs.Tryz.checked) (s:=Rows.OpenSpec.upto Rows.ldlSquaresSpec) (k:=Rows.uptoSmall) rfl false ⟨#[],#[.slice none 0 0,.slice none 0 0],[]⟩ 8 (by kernel_rfl) (by kernel_rfl) (by kernel_rfl)
   (x:=([.nil,.nil],[],[])) (by kernel_rfl) rfl (by kernel_rfl)) ?_
 intro W base args ds gs before hval hW _ hk _
 exact contract H enc W base args ds gs before hval hW hk
theorem row_f0:facts0 Go.Proofs.Tryz.checked.prog 5 Go.Proofs.Tryz.f5 (Rows.OpenSpec.upto Rows.ldlSquaresSpec).bare Rows.ldlSquaresUptoRow=true:=by kernel_rfl
theorem row_f1:facts1 Go.Proofs.Tryz.checked.prog 5 Go.Proofs.Tryz.f5 (Rows.OpenSpec.upto Rows.ldlSquaresSpec).bare Rows.ldlSquaresUptoRow=true:=by kernel_rfl
theorem row_f2:facts2 Go.Proofs.Tryz.checked.prog 5 Go.Proofs.Tryz.f5 (Rows.OpenSpec.upto Rows.ldlSquaresSpec).bare Rows.ldlSquaresUptoRow=true:=by kernel_rfl
theorem row_f3:facts3 Go.Proofs.Tryz.checked.prog 5 Go.Proofs.Tryz.f5 (Rows.OpenSpec.upto Rows.ldlSquaresSpec).bare Rows.ldlSquaresUptoRow=true:=by kernel_rfl
theorem row_f4:facts4 Go.Proofs.Tryz.checked.prog 5 Go.Proofs.Tryz.f5 (Rows.OpenSpec.upto Rows.ldlSquaresSpec).bare Rows.ldlSquaresUptoRow=true:=by kernel_rfl
theorem ldlSquares_holds:Rows.LdlSquaresUptoSaid:=
 OpenClaim.holds_of_cond 5 Go.Proofs.Tryz.f5 rfl rfl rfl rfl rfl rfl rfl ⟨rfl,rfl,rfl,rfl,rfl⟩ rfl rfl rfl rfl rfl (by kernel_rfl) Go.Proofs.Tryz.func5 (joined_of row_f0 row_f1 row_f2 row_f3 row_f4)
  (of_decide_eq_true (by kernel_rfl)) (by unfold Func.isWrapper;first | (rw[if_pos (by decide +kernel)];kernel_rfl) | (rw[if_neg (by decide +kernel)];exact⟨rfl,rfl⟩))
  (fun os started H enc _ F=>lifted os started H enc F)
#print axioms ldlSquares_holds
end Go.Proofs.YthpmkcidkcmlgaaGreat
