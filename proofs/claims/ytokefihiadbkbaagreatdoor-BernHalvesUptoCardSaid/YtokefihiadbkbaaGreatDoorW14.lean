/- cincturelaw10.BernHalves. -/
import Derived.Test.YtokefihiadbkbaaGreatDoorW13
import Derived.Test.YtokefihiadbkbaaGreatDoorR19
import Derived.Test.YtokefihiadbkbaaGreatDoorW12
import Derived.Test.YtokefihiadbkbaaGreatDoorCards
import Derived.Test.YtokefihiadbkbaaGreatDoorTie
import Derived.Deep.DeepHandedRow
import Derived.Lib.LaidTab
import Derived.Test.YtokefihiadbkbaaGreatDoorLib4
set_option linter.unusedVariables false
set_option linter.unusedSimpArgs false
set_option maxRecDepth 100000
namespace Go.Proofs.YtokefihiadbkbaaGreatDoor
open Go Go.SX
theorem Jt2 {bs:List Iv} {j:Nat} (hj:j<bs.length) (x:Iv) (k:Nat):Bm3 (bs.set j x) k=if k=j then x else Bm3 bs k:=by
 unfold Bm3
 rw[List.getD_eq_getElem?_getD,List.getD_eq_getElem?_getD,List.getElem?_set]
 by_cases e:k=j
 ·rw[if_pos e,if_pos e.symm,if_pos (by omega)]
  rfl
 ·rw[if_neg e,if_neg fun h=>e h.symm]
theorem Jt5 {x:Iv} (h:x.1<x.2):x.1<Ga6 x∧Ga6 x<x.2:=by
 unfold Ga6
 have two:(0:Rat)<2:=by decide
 exact⟨(Rat.lt_div_iff two).2 (by grind),(Rat.div_lt_iff two).2 (by grind)⟩
theorem Jt4 (a b:Rat):a+Ig4*(b-a)=(a+b)/2:=by
 have h:Ig4=1/2:=by decide +kernel
 rw[h]
 grind
theorem Ju5 {bs:List Iv} (h:Cn7 bs) {j:Nat} {x:Iv} (h1:x.1<x.2):Cn7 (bs.set j x):=⟨by rw[List.length_set];exact h.1,fun y hy=>by
 rcases List.mem_or_eq_of_mem_set hy with hy | rfl
 ·exact h.2 y hy
 ·exact h1⟩
theorem Jt6 {p:List Tm} {bs:List Iv} (h:Ii7 p bs) {j:Nat} {x:Iv} (h1:x.1<x.2):Ii7 p (bs.set j x):=⟨⟨Ju5 h.1.1 h1,by rw[List.length_set];exact h.1.2⟩,by rw[List.length_set];exact h.2⟩
theorem Jt3 {p:List Tm} {bs:List Iv} (hp:Av6 p) (ho:POk p) (h:Ii7 p bs) {j:Nat} (hj:j<bs.length) {x:Iv} (h1:x.1<x.2) {T:(Nat→Rat)→Nat→Rat} (hT:Jp9 (tpN (Ie8 p bs.length) j) T)
  (hg: ∀m i,m<tpN (Ie8 p bs.length) j→i<tpN (Ie8 p bs.length) j→T (gB (Bm3 bs j).1 (Bm3 bs j).2 (tpN (Ie8 p bs.length) j-1) m) i=gB x.1 x.2 (tpN (Ie8 p bs.length) j-1) m i) {k:Nat} (hk:k<stN (Ie8 p bs.length) bs.length):
  Id6 (stN (Ie8 p bs.length) j) (tpN (Ie8 p bs.length) j) T (Jk3 p bs) k=Jk3 p (bs.set j x) k:=by
 have h2:=Jt6 h (j:=j) h1
 have hl:=Io1 p bs.length
 have hf:=Jk7 ho h
 have hb:=Jm9 hp ho h2 (k:=k) (by rw[List.length_set];exact hk)
 rw[List.length_set] at hb
 rw[hb]
 obtain⟨R,hR⟩:=Ig5 (Ie8 p bs.length) j (bs.length-(j+1))
 rw[show j+1+(bs.length-(j+1))=bs.length by omega] at hR
 rw[Jm2 (n:=bs.length) (R:=R) hj hT (fun k hk=>Jm9 hp ho h (by rw[hR];exact hk)) (by rw[←hR];exact hk)]
 refine Jf9 fun t ht=>Jf8 _ fun i hi=>?_
 dsimp only
 by_cases e:i=j
 ·subst e
  rw[if_pos rfl]
  unfold gF
  rw[Jt2 hi,if_pos rfl]
  exact hg _ _ ((hf t ht).1 i (by omega)) (Jq8 _ _ _)
 ·rw[if_neg e]
  unfold gF
  rw[Jt2 hj,if_neg e]
theorem Jt7 {p:List Tm} {bs:List Iv} (hp:Av6 p) (ho:POk p) (h:Ii7 p bs) {j:Nat} (hj:j<bs.length) {k:Nat} (hk:k<stN (Ie8 p bs.length) bs.length):Id6 (stN (Ie8 p bs.length) j) (tpN (Ie8 p bs.length) j) loT (Jk3 p bs) k=Jk3 p (loB bs j) k:=by
 have hx:=h.1.1.2 _ (List.getElem_mem hj)
 rw[←Fi1 hj] at hx
 refine Jt3 hp ho h hj (Jt5 hx).1 (Ju4 _) (fun m i hm hi=>?_) hk
 have:=Ie4 (Ie8 p bs.length) j
 refine(Ju6 (by omega)).trans ?_
 rw[Jt4]
 rfl
theorem Ju2 {p:List Tm} {bs:List Iv} (hp:Av6 p) (ho:POk p) (h:Ii7 p bs) {j:Nat} (hj:j<bs.length) {k:Nat} (hk:k<stN (Ie8 p bs.length) bs.length):Id6 (stN (Ie8 p bs.length) j) (tpN (Ie8 p bs.length) j) (hiT (tpN (Ie8 p bs.length) j)) (Jk3 p bs) k=Jk3 p (hiB bs j) k:=by
 have hx:=h.1.1.2 _ (List.getElem_mem hj)
 rw[←Fi1 hj] at hx
 refine Jt3 hp ho h hj (Jt5 hx).2 (Ju3 _) (fun m i hm hi=>?_) hk
 have:=Ie4 (Ie8 p bs.length) j
 refine(Ju7 (by omega)).trans ?_
 rw[Jt4]
 rfl
theorem Jt8 {p:List Tm} {bs:List Iv} (hp:Av6 p) (ho:POk p) (h:Ii7 p bs) {j:Nat} (hj:j<bs.length):Ft1 (Jo0 (Jk3 p (loB bs j)) (stN (Ie8 p bs.length) bs.length)) (Jo0 (Jk3 p bs) (stN (Ie8 p bs.length) bs.length)):=by
 have key: ∀k,k<stN (Ie8 p bs.length) bs.length→inI (Jo0 (Jk3 p bs) (stN (Ie8 p bs.length) bs.length)) (Jk3 p (loB bs j) k):=fun k hk=>by
  rw[←Jt7 hp ho h hj hk]
  obtain⟨R,hR⟩:=Ig5 (Ie8 p bs.length) j (bs.length-(j+1))
  rw[show j+1+(bs.length-(j+1))=bs.length by omega] at hR
  have hs:=Ie2 (Ie8 p bs.length) j
  have hn:=Ie4 (Ie8 p bs.length) j
  obtain⟨h1,h2,h3,h4⟩:=Id8 (k:=k) hs hn
  have hh:0≤Ig4∧Ig4≤1:=by decide +kernel
  refine Jp7 (n:=tpN (Ie8 p bs.length) j) hh.1 hh.2 (fun i hi=>Jn3 _ _ ?_) _ _ (by omega)
  have:=(Ig2 (R:=R) hs hn (by rw[←hR];omega) h1 hi).1
  rw[←hR] at this
  exact this
 exact Ju1 (key 0 (Jk0 p bs)) _ key
theorem Ju0 {bs:List Iv} {j:Nat} (hj:j<bs.length) (hk: ∀x∈bs,IvS 4 x):(∀x∈loB bs j,IvS 20 x)∧∀x∈hiB bs j,IvS 20 x:=by
 have hx:=hk _ (List.getElem_mem hj)
 rw[←Fi1 hj] at hx
 have hm:Sz 20 (Ga6 (Bm3 bs j)):=((hx.1.add hx.2).div Ge1 (Nat.le_refl 1)).mono (by omega)
 constructor
 ·intro x h
  rcases List.mem_or_eq_of_mem_set h with h | rfl
  ·exact⟨(hk x h).1.mono (by omega),(hk x h).2.mono (by omega)⟩
  ·exact⟨hx.1.mono (by omega),hm⟩
 ·intro x h
  rcases List.mem_or_eq_of_mem_set h with h | rfl
  ·exact⟨(hk x h).1.mono (by omega),(hk x h).2.mono (by omega)⟩
  ·exact⟨hm,hx.2.mono (by omega)⟩
def bhI (W0:PW) (n:Nat) (L:List PL) (W:PW):Prop:=match L with
 | [.val (.int .i64 z)]=>∃j:Nat,z=(j:Int)∧j≤n∧Ext W0 W
 | _=>False
theorem Jt1 {W0:PW} {M:Nat→Prop} {s sb:Sl} {L:List (Mon×ByteArray)} {Lt:List (ByteArray×ByteArray)} {i:Int} (hT:Ac6 W0) (h:Af3 W0 s L) (hb:Bs7 W0 sb Lt) (hl:L.length≤1099511627776) (hz: ∀t∈L,t.2.size≤1099511627776) (hl2:Lt.length≤1099511627776) (hz2: ∀t∈Lt,t.1.size≤1099511627776∧t.2.size≤1099511627776):
  Aa0 Tryz.prog 7 [s.v,sb.v,.int .i64 i] W0 M fun v W'=>v = .bool true∧True:=by
 apply Js9
 have alv: ∀{W:PW},Ac6 W→Aa1 Tryz.prog W0 M 13 [] W fun v11 W12=>∃b13:Bool,v11 = .bool b13∧∀(W14:PW),Ext W12 W14→Value.bool b13 = .bool true∧True:=fun hT=>Ii9 hT fun W12 _ _=>⟨true,rfl,fun W14 _=>⟨rfl,trivial⟩⟩
 refine Dn6 h hl hz fun s3 s4 b5 W2 hE2 hp=>⟨s3,s4,b5,rfl,?_⟩
 refine Gb4 (hT.ext hE2) (hb.ext hE2) hl2 hz2 fun s8 s9 b10 W7 hE7 hbx=>⟨s8,s9,b10,rfl,fun _=>alv (hT.ext (hE2.trans hE7)),fun h5=>⟨fun _=>alv (hT.ext (hE2.trans hE7)),fun h10=>Ii9 (hT.ext (hE2.trans hE7)) fun W20 hE20 _=>⟨true,rfl,fun e=>(by cases e),fun _=>?_⟩⟩⟩
 obtain⟨p,op,q1,r1⟩:=hp (by simpa using h5)
 obtain⟨bs,x1,_,hBox,hk⟩:=hbx (by simpa using h10)
 have E20:=hE2.trans (hE7.trans hE20)
 have q1:=q1.ext (hE7.trans hE20)
 have r1:=r1.ext (hE7.trans hE20)
 have x1:=x1.ext hE20
 have hlen:=op.len
 have hn:=x1.n
 have hbl:=hBox.1
 refine Co3 q1 (by omega) fun W27 hE27 _=>⟨_,rfl,fun _=>alv (hT.ext (E20.trans hE27)),fun hv=>⟨fun e=>by omega,fun _=>?_⟩⟩
 have ho:=q1.ok
 have hg:=op.1.Aq3
 have pe:=op.exp ho
 have tp:=fun i=>Jn5 pe (by omega) i
 have t0:=tp 0
 have t1:=tp 1
 have t2:=tp 2
 have ti:=Jn1 ⟨t0.1,by omega⟩ ⟨t1.1,by omega⟩ ⟨t2.1,by omega⟩
 refine Jg6 (r1.ext hE27) (by omega) fun W38 hE38 _=>⟨_,rfl,by unfold I64;omega,?_⟩
 refine Jg6 (r1.ext (hE27.trans hE38)) (by omega) fun W41 hE41 _=>⟨_,rfl,by unfold I64;omega,ti.1,?_⟩
 refine Jg6 (r1.ext (hE27.trans (hE38.trans hE41))) (by omega) fun W44 hE44 _=>⟨_,rfl,by unfold I64;omega,ti.2,fun _=>alv (hT.ext (E20.trans (hE27.trans (hE38.trans (hE41.trans hE44))))),fun _=>⟨by unfold I64;omega,?_⟩⟩
 have E44:=hE27.trans (hE38.trans (hE41.trans hE44))
 have hc:Ii7 p bs:=Jm4 op ho (by omega) (by omega) hBox (by omega)
 have hzz:=Jr1 op ho hk (by omega)
 refine Fy4 (by omega) (by omega) (by omega) fun i52 W51 hE51 hi=>⟨i52,rfl,?_⟩
 obtain⟨j,rfl⟩:=Int.eq_ofNat_of_zero_le hi.1
 have hj:j<bs.length:=by omega
 have hsp:Fx5 bs (j:Int):=⟨hBox,by omega,by omega⟩
 have E51:=E44.trans hE51
 refine Fz4 (x1.ext E51) hk (by omega) (by omega) fun s55 s56 W54 hE54 ⟨y1,y2⟩=>⟨s55,s56,_,rfl,?_⟩
 rw[if_pos hsp,Int.toNat_natCast] at y1 y2
 have E54:=E51.trans hE54
 obtain⟨v1,v2⟩:=Ju0 hj hk
 have hx:=hBox.2 _ (List.getElem_mem hj)
 rw[←Fi1 hj] at hx
 have c1:Ii7 p (loB bs j):=Jt6 hc (Jt5 hx).1
 have c2:Ii7 p (hiB bs j):=Jt6 hc (Jt5 hx).2
 have l1:(loB bs j).length=bs.length:=List.length_set
 have l2:(hiB bs j).length=bs.length:=List.length_set
 have hz1:BxN 56029 20 p (loB bs j):=⟨hzz.bd,v1,ho,hzz.len,by omega,by omega,by omega⟩
 have hz2:BxN 56029 20 p (hiB bs j):=⟨hzz.bd,v2,ho,hzz.len,by omega,by omega,by omega⟩
 obtain⟨D,N,hf,hD,k1,k2⟩:=Jn0 hzz hc
 have hfew:=Jm7 hc
 have hl':=Io1 p bs.length
 have clo:=fun {k} hk=>Jt7 hg ho hc hj (k:=k) hk
 have chi:=fun {k} hk=>Ju2 hg ho hc hj (k:=k) hk
 have s1:=fun {k} hk=>Jj3 hz1 c1 (i:=k) (by rw[l1];exact hk)
 have s2:=fun {k} hk=>Jj3 hz2 c2 (i:=k) (by rw[l2];exact hk)
 refine Ik5 (q1.ext E54) (x1.ext E54) hzz (by omega) fun s60 W59 hE59 h59=>⟨s60,_,rfl,?_⟩
 rw[if_pos hc] at h59
 have E59:=E54.trans hE59
 refine Ji0 (q1.ext E59) (x1.ext E59) (by omega) (by omega) fun s64 W63 hE63 h63=>⟨s64,rfl,?_⟩
 have H:Gc4 (stN (Ie8 p bs.length) bs.length) (Ie8 p bs.length) (j:Int):=⟨hc.2,by rw[hl'],by omega,by omega⟩
 refine Ij1 (h59.ext hE63) h63 (by omega) (by omega) hf hD k1 k2 (by omega) fun s67 s68 W66 hE66 ⟨h67,h68⟩=>⟨s67,s68,_,rfl,?_⟩
 rw[if_pos H,Int.toNat_natCast] at h67 h68
 have E66:=E59.trans (hE63.trans hE66)
 have F66:=hE59.trans (hE63.trans hE66)
 refine Ik5 (q1.ext E66) (y1.ext F66) hz1 (by omega) fun s72 W71 hE71 h71=>⟨s72,_,rfl,?_⟩
 refine Ik5 (q1.ext (E66.trans hE71)) (y2.ext (F66.trans hE71)) hz2 (by omega) fun s76 W75 hE75 h75=>⟨s76,_,rfl,?_⟩
 have h71:Gv6 231 42 W71 s72 (stN (Ie8 p bs.length) bs.length) (Jk3 p (loB bs j)):=by rw[if_pos c1,l1] at h71;rw[show Jk3 p (loB bs j)=Iw7 (Ie8 p bs.length) (loB bs j) (ten (Ie8 p bs.length) p p.length) bs.length by unfold Jk3;rw[l1]];exact h71
 have h75:Gv6 231 42 W75 s76 (stN (Ie8 p bs.length) bs.length) (Jk3 p (hiB bs j)):=by rw[if_pos c2,l2] at h75;rw[show Jk3 p (hiB bs j)=Iw7 (Ie8 p bs.length) (hiB bs j) (ten (Ie8 p bs.length) p p.length) bs.length by unfold Jk3;rw[l2]];exact h75
 have n67:=h67.n
 have n68:=h68.n
 have n72:=h71.n
 have n76:=h75.n
 refine⟨fun e=>absurd e (by rw[decide_eq_true hsp];decide),fun _=>⟨fun e=>absurd e (by rw[decide_eq_true H];decide),fun _=>⟨fun e=>absurd e (by rw[decide_eq_true c1];decide),fun _=>⟨fun e=>absurd e (by rw[decide_eq_true c2];decide),fun _=>⟨fun e=>absurd (show((s67.n:Nat):Int)=((s72.n:Nat):Int) by omega) e,fun _=>⟨fun e=>absurd (show((s68.n:Nat):Int)=((s76.n:Nat):Int) by omega) e,fun _=>?_⟩⟩⟩⟩⟩⟩
 have g67:=h67.ext (hE71.trans hE75)
 have g68:=h68.ext (hE71.trans hE75)
 have g72:=h71.ext hE75
 have hrng:=Jt8 hg ho hc hj
 have zr0:=Jp6 hzz hc
 have zr1:=Jp6 hz1 c1
 rw[l1] at zr1
 have d0:decide (Ii7 p bs)=true:=decide_eq_true hc
 have d1:decide (Ii7 p (loB bs j))=true:=decide_eq_true c1
 refine⟨bhI W75 (stN (Ie8 p bs.length) bs.length),Iv2 (stN (Ie8 p bs.length) bs.length),⟨0,rfl,Nat.zero_le _,Ext.refl _⟩,?_⟩
 rintro i86 W87 ⟨k,rfl,hkn,hE87⟩
 refine⟨fun hlt=>?_,fun hge=>?_⟩
 ·have hk':k<stN (Ie8 p bs.length) bs.length:=by omega
  obtain⟨s88,b89,s90,e88,g88⟩:=(g67.ext hE87).at hk'
  obtain⟨s91,b92,s93,e91,g91⟩:=(g72.ext hE87).at hk'
  obtain⟨s98,b99,s100,e98,g98⟩:=(g68.ext hE87).at hk'
  obtain⟨s101,b102,s103,e101,g101⟩:=(h75.ext hE87).at hk'
  rw[clo hk'] at g88
  rw[chi hk'] at g98
  refine⟨(g67.ext hE87).inB (by omega) (by omega),s88,b89,s90,e88,(g72.ext hE87).inB (by omega) (by omega),s91,b92,s93,e91,?_⟩
  refine Aj2 g88 g91 (s1 hk') (s1 hk') (by omega) (by omega) fun W95 hE95 _=>⟨_,rfl,fun e=>absurd (Hv6.2 rfl) e,fun _=>?_⟩
  refine⟨(g68.ext hE87).inB (by omega) (by omega),s98,b99,s100,e98.ext hE95,(h75.ext hE87).inB (by omega) (by omega),s101,b102,s103,e101.ext hE95,?_⟩
  exact Aj2 (g98.ext hE95) (g101.ext hE95) (s2 hk') (s2 hk') (by omega) (by omega) fun W105 hE105 _=>⟨_,rfl,fun e=>absurd (Hv6.2 rfl) e,fun _=>⟨by unfold I64;omega,⟨k+1,by push_cast;rfl,by omega,hE87.trans (hE95.trans hE105)⟩,by show stN (Ie8 p bs.length) bs.length-Int.toNat ((k:Int)+1)<stN (Ie8 p bs.length) bs.length-Int.toNat (k:Int);omega⟩⟩
 ·have E87:=E66.trans (hE71.trans (hE75.trans hE87))
  refine Jh8 (q1.ext E87) (x1.ext E87) hzz (by omega) fun l W109 hE109 h109=>h109.Ge9 fun s110 b111 s112 s113 b114 s115 h109=>?_
  refine Jh8 (q1.ext (E87.trans hE109)) (y1.ext (F66.trans (hE71.trans (hE75.trans (hE87.trans hE109))))) hz1 (by omega) fun l W118 hE118 h118=>h118.Ge9 fun s119 b120 s121 s122 b123 s124 h118=>?_
  rw[if_pos hc] at h109
  rw[if_pos c1,l1] at h118
  refine⟨fun _=>⟨fun _=>?_,fun e=>absurd e (by rw[d1];decide)⟩,fun e=>absurd e (by rw[d0];decide)⟩
  exact Fx1 h118 (h109.ext hE118) zr1 zr0 (by omega) fun W127 hE127 _=>⟨_,rfl,fun W129 _=>⟨congrArg Value.bool (decide_eq_true hrng),trivial⟩⟩
end Go.Proofs.YtokefihiadbkbaaGreatDoor
/- An argument that is a slice of terms with texts, opened. -/
namespace Go.Proofs.YtokefihiadbkbaaGreatDoor
open Go Go.SX Go.ChangeShapes Go.WideShapes Go.ChangeAt Go.RowKit Go.Deep
instance:Inhabited (Mon×ByteArray):=⟨(⟨0,0,0⟩,⟨#[]⟩)⟩
theorem Cd6:Tryz.prog.cellsOf 191=4:=by kernel_rfl
theorem Dv1:Tryz.prog.cellsOf 136=3:=by kernel_rfl
theorem Ew8:Tryz.prog.cellsOf 5=1:=by kernel_rfl
theorem Fg4 {n:Int} (h:(Lit.int .u8 n).wf=true):0≤n∧n≤255:=by
 simp[Lit.wf,IntKind.min,IntKind.max,IntKind.bits,IntKind.signed] at h
 omega
theorem Er8 {H:Type} {enc:TypeId×Value→H} {W:World} {fuel:Nat} {cs:List Value} {x:DataW H×List MemPlace} (h:DataW.trod enc Tryz.prog W 0 (fun _=>true) true fuel 191 cs=some x):
  ∃t:Mon×ByteArray,AT cs t∧t.2.size≤Rows.uptoBulk x.1:=by
 obtain⟨xs,k,rfl,rfl,hl,hxl,hf⟩:=DataW.trod_struct Tryz.underlying191 h
 rw[Cd6] at hl
 have g0:DataW.trod enc Tryz.prog W 0 (fun _=>true) true k 136 ((cs.drop 0).take (Tryz.prog.cellsOf 136))=xs[0]?:=hf 0 _ rfl
 have g1:DataW.trod enc Tryz.prog W 0 (fun _=>true) true k 9 ((cs.drop 3).take (Tryz.prog.cellsOf 9))=xs[1]?:=hf 1 _ rfl
 rw[Dv1] at g0
 rw[Ct5] at g1
 match cs,hl,xs,hxl with
 | [v0,v1,v2,v3],_,[y0,y1],_=>
  have g0:DataW.trod enc Tryz.prog W 0 (fun _=>true) true k 136 [v0,v1,v2]=some y0:=g0
  have g1:DataW.trod enc Tryz.prog W 0 (fun _=>true) true k 9 [v3]=some y1:=g1
  obtain⟨zs,m,rfl,rfl,_,hzl,hz⟩:=DataW.trod_array Tryz.underlying136 g0
  obtain⟨s,hs,rfl,hsz⟩:=DataW.trod_string Tryz.underlying9 g1
  have e0:=hz 0 (by omega)
  have e1:=hz 1 (by omega)
  have e2:=hz 2 (by omega)
  rw[Ew8] at e0 e1 e2
  match zs,hzl with
  | [w0,w1,w2],_=>
   have e0:DataW.trod enc Tryz.prog W 0 (fun _=>true) true m 5 [v0]=some w0:=e0
   have e1:DataW.trod enc Tryz.prog W 0 (fun _=>true) true m 5 [v1]=some w1:=e1
   have e2:DataW.trod enc Tryz.prog W 0 (fun _=>true) true m 5 [v2]=some w2:=e2
   obtain⟨n0,h0,_,k0⟩:=DataW.trod_int Tryz.underlying5 e0
   obtain⟨n1,h1,_,k1⟩:=DataW.trod_int Tryz.underlying5 e1
   obtain⟨n2,h2,_,k2⟩:=DataW.trod_int Tryz.underlying5 e2
   have hs: [v3] = [Value.string s]:=hs
   have h0: [v0] = [Value.int .u8 n0]:=h0
   have h1: [v1] = [Value.int .u8 n1]:=h1
   have h2: [v2] = [Value.int .u8 n2]:=h2
   simp only[List.cons.injEq,and_true] at hs h0 h1 h2
   subst hs h0 h1 h2
   refine⟨(⟨n0,n1,n2⟩,s),⟨⟨Fg4 k0,Fg4 k1,Fg4 k2⟩,rfl⟩,?_⟩
   have e:s.data.toList.length=s.size:=by rw[Array.length_toList];rfl
   simp only[List.map_cons,List.map_nil,Rows.uptoBulk,Rows.uptoBulkAll]
   omega
theorem Et3 {n:Nat} {V:Nat→List Value} {y:Nat→Mon×ByteArray} (h: ∀i,i<n→AT (V i) (y i)):An5 AT ((List.range n).map V) ((List.range n).map y):=by
 induction n with
 | zero=>trivial
 | succ n ih=>
  rw[List.range_succ,List.map_append,List.map_append]
  exact(ih fun i hi=>h i (by omega)).append ⟨h n (by omega),trivial⟩
theorem Dt5 {H:Type} {enc:TypeId×Value→H} {W:World} {fuel:Nat} {v:Value} {d:DataW H} {p:List MemPlace} (h:DataW.trod enc Tryz.prog W 0 (fun _=>true) true fuel 22 [v]=some (d,p)):
  ∃(s:Sl) (L:List (Mon×ByteArray)),v=s.v∧Af3 ⟨W,fun _=>False⟩ s L∧L.length≤Rows.uptoBulk d∧∀t∈L,t.2.size≤Rows.uptoBulk d:=by
 rcases open_slice Tryz.underlying22 h with⟨hcs,hx⟩ | ⟨a,len,cap,m,n,D,Pl,hcs,_,hl,hm,hmm,hx,hcell⟩
 ·have hv:v = .slice none 0 0:=by simpa using hcs
  subst hv
  exact⟨⟨none,0,0⟩,[],rfl,⟨[],⟨0,rfl,Nat.le_refl _,Nat.zero_le _,fun x h=>by simp at h,.inl rfl⟩,trivial⟩,Nat.zero_le _,fun l h=>by simp at h⟩
 ·have hv:v = .slice (some a) len cap:=by simpa using hcs
  subst hv
  simp only[if_true] at hmm
  subst hmm
  simp only[Prod.mk.injEq] at hx
  obtain⟨rfl,_⟩:=hx
  rw[Cd6] at hcell
  obtain⟨q,hq⟩: ∃q:Nat→List Value×(Mon×ByteArray),∀i,i<m→W.cells? 0 (a.add (i*4)) 4=some (q i).1∧AT (q i).1 (q i).2∧(q i).2.2.size≤Rows.uptoBulk (D i):=choose_lt (α:=List Value×(Mon×ByteArray)) (p:=fun i q=>W.cells? 0 (a.add (i*4)) 4=some q.1∧AT q.1 q.2∧q.2.2.size≤Rows.uptoBulk (D i)) fun i hi=>by
   obtain⟨cs',h1,h2⟩:=hcell i hi
   obtain⟨t,h3,h4⟩:=Er8 h2
   exact⟨(cs',t),h1,h3,h4⟩
  have hr:=Bz7 (W:=W) (a:=a) (n:=len) (c:=m) (sz:=4) (V:=fun i=>(q i).1) (fun j hj i v hv=>by
   obtain⟨_,hlen,hc⟩:=World.cells?_some (hq j (by omega)).1
   have hi:i<4:=by have:=(List.getElem?_eq_some_iff.1 hv).1;omega
   have:=hc i hi
   rw[add_add] at this
   rw[this];exact hv) (fun j hj=>(World.cells?_some (hq j (by omega)).1).2.1) (by omega) hl hm (fun j hj u hu=>by
   rw[(hq j (by omega)).2.1.2] at hu
   simp only[List.mem_cons,List.not_mem_nil,or_false] at hu
   rcases hu with rfl | rfl | rfl | rfl<;>rfl)
  have hbulk: ∀i,i<len→Rows.uptoBulk (D i)≤Rows.uptoBulkAll ((List.range len).map D):=fun i hi=>Eo6 (List.mem_map.2 ⟨i,List.mem_range.2 hi,rfl⟩)
  have hlen:=Dj1 ((List.range len).map D)
  simp only[List.length_map,List.length_range] at hlen
  refine⟨⟨some a,len,m⟩,(List.range len).map fun i=>(q i).2,rfl,⟨_,hr,Et3 fun i hi=>(hq i (by omega)).2.1⟩,?_,fun t ht=>?_⟩
  ·simp only[List.length_map,List.length_range,Rows.uptoBulk]
   omega
  ·obtain⟨j,hj,rfl⟩:=List.mem_map.1 ht
   have hj':=List.mem_range.1 hj
   have h1:=hbulk j hj'
   have h2:=(hq j (by omega)).2.2
   simp only[Rows.uptoBulk]
   omega
end Go.Proofs.YtokefihiadbkbaaGreatDoor
/- cincturelaw10.BernHalves answers true for every input whose bulk is at most 1048576 (the second form), and its arguments read behind the call as they did ahead of it. -/
namespace Go.Proofs.YtokefihiadbkbaaGreatDoor
open Go Go.SX Go.ChangeShapes Go.WideShapes Go.ChangeAt Go.RowKit Go.Deep
theorem Fs9:Tryz.prog.globalNamed "math/bits.deBruijn32tab" = some 1:=by kernel_rfl
theorem Ew9:(Tryz.prog.globals[1]?).map (·.type)=some 301:=by kernel_rfl
theorem Ev1:Tryz.prog.cellsOf 301=32:=by kernel_rfl
theorem Fh1:Tryz.prog.cellsOf 5=1:=by kernel_rfl
theorem Fr5 {W:World} (h:laidMetH Tryz.prog Rows.bernHalvesUptoRow.laid W):Ac6 ⟨W,fun _=>False⟩:=by
 have ht:Go.Lib.TabIs Tryz.prog W "math/bits.deBruijn32tab" .u8 (Go.Lib.deBruijn32tab.map fun n:Nat=>(n:Int)):=Go.Lib.tabIs_of_head (rest:=[]) Fs9 Ew9 Tryz.underlying301 Tryz.underlying5 Fh1 Ev1 h
 have hc: ∀j,j<32→W.cell? ⟨1,j,none⟩=some (.int .u8 ((Go.Lib.deBruijn32tab.getD j 0:Nat):Int)):=fun j hj=>by
  rw[ht.cell Fs9 j (by simpa[Go.Lib.deBruijn32tab] using hj)]
  have hall: ∀j,j<32→(Go.Lib.deBruijn32tab.map fun n:Nat=>(n:Int)).getD j 0=((Go.Lib.deBruijn32tab.getD j 0:Nat):Int):=by decide
  rw[hall j hj]
 refine⟨hc,?_,fun h=>h⟩
 have:=hc 0 (by omega)
 unfold World.cell? at this
 split at this
 ·rename_i e
  exact(Array.getElem?_eq_some_iff.1 e).1
 ·cases this
theorem Fa3 (H:Type) (enc:TypeId×Value→H) (W:World) (base:Nat) (args:Array Value) (ds gs:List (DataW H)) (before:List MemPlace)
  (hval: ∀(j:Nat) t v,Tryz.f7.params[j]?=some t→args[j]?=some v→Value.okWide Tryz.prog W .any base t v)
  (hW:DataW.Whole enc Tryz.prog Tryz.f7.params.toList Rows.bernHalvesSpec.vars false W args.toList ds gs before) (hk:Rows.uptoSmall H (ds ++ gs)=true) (hL:laidMetH Tryz.prog Rows.bernHalvesUptoRow.laid W):
  Calls Tryz.prog 7 args W fun e W'=>∃v,e = .returned v∧Rows.bernHalvesSpec.post enc Tryz.prog Tryz.f7 false true false false W args v W':=by
 have hW':=hW
 obtain⟨p,q,hA0,hV,rfl,hfz,hnd⟩:=hW
 have hA:DataW.TrodAll enc Tryz.prog W 0 (fun _=>true) true Tryz.f7.params.toList args.toList ds p:=hA0
 rw[Tryz.params7] at hA hval
 obtain⟨v0,vs0,d0,ds0,p0,q0,hargs,rfl,rfl,h0,r0⟩:=trodAll_cons hA
 obtain⟨v1,vs1,d1,ds1,p1,q1,rfl,rfl,rfl,h1,r1⟩:=trodAll_cons r0
 obtain⟨v2,vs2,d2,ds2,p2,q2,rfl,rfl,rfl,h2,r2⟩:=trodAll_cons r1
 obtain⟨rfl,rfl,rfl⟩:=trodAll_nil r2
 obtain rfl:args = #[v0,v1,v2]:=by cases args;simp_all
 obtain⟨rfl,rfl⟩:=trodVars_none hV
 obtain⟨a0,n0,c0,rfl⟩:=okWide_slice Tryz.underlying22 (hval 0 22 v0 rfl rfl)
 obtain⟨a1,n1,c1,rfl⟩:=okWide_slice Tryz.underlying23 (hval 1 23 v1 rfl rfl)
 obtain⟨z2,rfl⟩:=okWide_int Tryz.underlying3 (hval 2 3 v2 rfl rfl)
 clear hA0
 simp only[List.append_nil] at hW' hk
 have hlt: ∀x∈p0 ++ (p1 ++ p2),x.block<W.heap.size:=fun x hx=>by simpa using hW'.lt x (by simpa using hx)
 have hbulk:Rows.uptoBulkAll [d0,d1,d2]≤1048576:=of_decide_eq_true hk
 simp only[Rows.uptoBulkAll] at hbulk
 have h0k:=h0
 obtain⟨fuel0,hf0⟩:=h0
 have hf0':DataW.trod enc Tryz.prog W 0 (fun _=>true) true fuel0 22 [.slice a0 n0 c0]=some (d0,p0):=by simpa[Value.cells] using hf0
 obtain⟨s0,L0,hs0,hL0,hb0,hc0⟩:=Dt5 hf0'
 have h1k:=h1
 obtain⟨fuel1,hf1⟩:=h1
 have hf1':DataW.trod enc Tryz.prog W 0 (fun _=>true) true fuel1 23 [.slice a1 n1 c1]=some (d1,p1):=by simpa[Value.cells] using hf1
 obtain⟨s1,L1,hs1,hL1,hb1,hc1⟩:=Gc9 hf1'
 have h2k:=h2
 have hc:=Jt1 (M:=fun _=>False) (i:=z2) (Fr5 hL) hL0 hL1 (by omega) (fun t ht=>by have:=hc0 t ht;omega) (by omega) (fun t ht=>by have:=hc1 t ht;omega)
 have hcall:=hc.2 (fun b h=>h.elim)
 rw[hs0,hs1]
 refine hcall.mono fun e W' ⟨v,he,hkeep,hv,_⟩=>⟨v,he,?_⟩
 subst hv
 have hbel:=hkeep.below
 refine⟨[d0,d1,d2],[],_,[],p0 ++ (p1 ++ p2),[],(by rw[←hs0,←hs1];simpa using hW'),trodAll_mk1 (shut_bool Tryz.underlying4 _),(by rw[←hs0,←hs1];exact trodAll_mk3 (Below.trod laidOut (by kernel_rfl) (of_decide_eq_true (by kernel_rfl)) h0k hbel fun x hx=>hlt x (by simp[hx])) (Below.trod laidOut (by kernel_rfl) (of_decide_eq_true (by kernel_rfl)) h1k hbel fun x hx=>hlt x (by simp[hx])) (Below.trod laidOut (by kernel_rfl) (of_decide_eq_true (by kernel_rfl)) h2k hbel fun x hx=>hlt x (by simp[hx]))),rfl,hbel.frame _,fun h=>by cases h⟩
noncomputable def Bu8 (os:Os):World:=
 {World.holding Tryz.prog os ⟨#[],#[],[]⟩ with heap:=(World.holding Tryz.prog os ⟨#[],#[],[]⟩).heap.modify 1 fun
   | .cells _ t frozen=>.cells #[.int .u8 0,.int .u8 1,.int .u8 28,.int .u8 2,.int .u8 29,.int .u8 14,.int .u8 24,.int .u8 3,.int .u8 30,.int .u8 22,.int .u8 20,.int .u8 15,.int .u8 25,.int .u8 17,.int .u8 4,.int .u8 8,.int .u8 31,.int .u8 27,.int .u8 13,.int .u8 23,.int .u8 21,.int .u8 19,.int .u8 16,.int .u8 7,.int .u8 26,.int .u8 12,.int .u8 18,.int .u8 6,.int .u8 11,.int .u8 5,.int .u8 10,.int .u8 9] t frozen
   | o=>o }
theorem Fa2 (os:Os):laidMet Tryz.prog Rows.bernHalvesUptoRow.laid ((Bu8 os).forCall (fun _ _=>0) ⟨#[],#[.slice none 0 0,.slice none 0 0,.int .i64 0],[]⟩).memory:=
 laidMet_of_run' 8 (by kernel_rfl) (by kernel_rfl)
theorem reads (os:Os) {H:Type} (enc:TypeId×Value→H): ∃places,DataW.whole enc Tryz.prog ((Bu8 os).forCall (fun _ _=>0) ⟨#[],#[.slice none 0 0,.slice none 0 0,.int .i64 0],[]⟩).memory Tryz.f7.params.toList Rows.bernHalvesSpec.vars false (#[.slice none 0 0,.slice none 0 0,.int .i64 0]:Array Value).toList 8=some ([.nil,.nil,.lit (.int .i64 0)],[],places):=
 ⟨[],by kernel_rfl⟩
theorem lifted (os:Os) (started:os.Started) (H:Type) (enc:TypeId×Value→H) (F:Stop.Interp):
  ReturnsInHanded {} Tryz.checked os 7 .any ((Rows.OpenSpec.upto Rows.bernHalvesSpec).preRow enc Tryz.prog Tryz.f7 Rows.bernHalvesUptoRow.domain false Rows.bernHalvesUptoRow.laid) (((Rows.OpenSpec.upto Rows.bernHalvesSpec).at F).post enc Tryz.prog Tryz.f7 false true false false):=by
 obtain⟨places,hx⟩:=reads os enc
 refine returnsInHanded_of_row (C:=Tryz.checked) (s:=Rows.OpenSpec.upto Rows.bernHalvesSpec) Cp9 started (by kernel_rfl) Tryz.func7
  (witness_row_at (enc:=enc) (C:=Tryz.checked) false (Bu8 os) #[.slice none 0 0,.slice none 0 0,.int .i64 0] rfl (by kernel_rfl) (by kernel_rfl) (by kernel_rfl)
   (OpenSpec.preRow_of_cond 8 hx (by kernel_rfl) (fun k hk=>by cases hk;kernel_rfl) (by kernel_rfl) (Fa2 os))) ?_
 intro W base args ds gs before hval hW _ hcond _ hL _ _
 exact Fa3 H enc W base args ds gs before hval hW (hcond _ rfl) hL
theorem Fj9:Fc7 Tryz.checked.prog 7 Tryz.f7 (Rows.OpenSpec.upto Rows.bernHalvesSpec).bare Rows.bernHalvesUptoRow=true:=by kernel_rfl
theorem Fl9:Fd9 Tryz.checked.prog 7 Tryz.f7 (Rows.OpenSpec.upto Rows.bernHalvesSpec).bare Rows.bernHalvesUptoRow=true:=by kernel_rfl
theorem Fl2:Fe1 Tryz.checked.prog 7 Tryz.f7 (Rows.OpenSpec.upto Rows.bernHalvesSpec).bare Rows.bernHalvesUptoRow=true:=by kernel_rfl
theorem Fn7:Fd2 Tryz.checked.prog 7 Tryz.f7 (Rows.OpenSpec.upto Rows.bernHalvesSpec).bare Rows.bernHalvesUptoRow=true:=by kernel_rfl
theorem Fj6:Fd4 Tryz.checked.prog 7 Tryz.f7 (Rows.OpenSpec.upto Rows.bernHalvesSpec).bare Rows.bernHalvesUptoRow=true:=by kernel_rfl
theorem Et8:Rows.BernHalvesUptoSaid:=
 OpenClaim.holds_of_cond 7 Tryz.f7 rfl rfl rfl rfl rfl rfl rfl ⟨rfl,rfl,rfl,rfl,rfl⟩ rfl rfl rfl rfl rfl (by kernel_rfl) Tryz.func7 (Eo7 Fj9 Fl9 Fl2 Fn7 Fj6)
  (of_decide_eq_true (by kernel_rfl)) (by unfold Func.isWrapper;first | (rw[if_pos (by decide +kernel)];kernel_rfl) | (rw[if_neg (by decide +kernel)];exact⟨rfl,rfl⟩))
  (fun os started H enc _ F=>by rw[OpenClaim.pre_eq_preRow];exact lifted os started H enc F)
theorem plain (f:FuncId) (fn:Func) (hf:Tryz.pinned.checked.prog.funcNamed "cincture/cincturelaw10.BernHalves" = some f) (hfn:Tryz.pinned.checked.prog.funcs[f]?=some fn):
  false=Tryz.pinned.checked.prog.looks []∧∀(j:Nat) t,fn.params[j]?=some t→Tryz.pinned.checked.prog.wantsStandIn t=false:=by
 obtain rfl:f=7:=Option.some.inj ((show Tryz.prog.funcNamed "cincture/cincturelaw10.BernHalves" = some 7 by kernel_rfl).symm.trans hf) |>.symm
 obtain rfl:fn=Tryz.f7:=(Option.some.inj (Tryz.func7.symm.trans hfn)).symm
 refine⟨by kernel_rfl,fun j t ht=>?_⟩
 rw[Tryz.params7] at ht
 have hm:t∈[22,23,3]:=by simpa using Array.mem_of_getElem? ht
 have hall:([22,23,3].all fun u=>!Tryz.prog.wantsStandIn u)=true:=by kernel_rfl
 exact(show Tryz.prog.wantsStandIn t=false by simpa using List.all_eq_true.1 hall t hm)
theorem bernHalves_card:Rows.BernHalvesUptoCardSaid:=
 Claim7.holds_tied_plain_at .later [] _ _ _ _ Et8 (fun _ h=>by cases h) (by kernel_rfl) (fun _ h=>by cases h) bernHalvesUpto_row_tie rfl ⟨rfl,rfl⟩ (by kernel_rfl) rfl plain (by kernel_rfl)
#print axioms bernHalves_card
end Go.Proofs.YtokefihiadbkbaaGreatDoor
