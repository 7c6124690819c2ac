/- law6.Raw and law13.Squares. -/
import Derived.Test.YtjkkidjbppphpaaGreatDoorW17
import Derived.Test.YtjkkidjbppphpaaGreatDoorW23
import Derived.Test.YtjkkidjbppphpaaGreatDoorW21
import Derived.Test.YtjkkidjbppphpaaGreatDoorW20
import Derived.Test.YtjkkidjbppphpaaGreatDoorW13
import Derived.Test.YtjkkidjbppphpaaGreatDoorW8
import Derived.Test.YtjkkidjbppphpaaGreatDoorR19
import Derived.Test.YtjkkidjbppphpaaGreatDoorCards
import Derived.Test.YtjkkidjbppphpaaGreatDoorTie
import Derived.Deep.DeepHandedRow
import Derived.Lib.LaidTab
import Derived.Test.YtjkkidjbppphpaaGreatDoorLib4
set_option linter.unusedVariables false
set_option linter.unusedSimpArgs false
set_option maxRecDepth 100000
namespace Go.Proofs.YtjkkidjbppphpaaGreatDoor
open Go Go.SX
def Gy6 (x:Iv):Prop:=IvS 4000 x∧x.1≤x.2
def r6I (W0:PW) (Lt:List (ByteArray×ByteArray)) (n:Nat) (L:List PL) (W:PW):Prop:=match L with
 | [.row l3,.row l4,.val (.int .i64 i)]=>∃(j:Nat) (m:List Iv),i=(j:Int)∧j≤n∧j≤5∧Ext W0 W∧An5 (SpV 284 W) l3 m∧An5 (Ah6 284 W) l4 m∧m.length≤j∧(∀x∈m,Gy6 x)∧∀x∈m,∃t∈Lt,spP t.1 t.2=some x
 | _=>False
def cn3 (n:Nat) (L:List PL) (_:PW):Nat:=match L with
 | [_,_,.val (.int .i64 i)]=>n-i.toNat
 | _=>0
theorem Hm2 {W0:PW} {M:Nat→Prop} {s:Sl} {L:List (ByteArray×ByteArray)} (h:Bs7 W0 s L) (hl:L.length≤1099511627776) (hz: ∀t∈L,t.1.size≤1099511627776∧t.2.size≤1099511627776):
  Aa0 Tryz.prog 52 [s.v] W0 M fun v W'=>∃(s1:Sl),∃(s2:Sl),∃(bs:List Iv),v = .tuple ⟨[Sl.v s1,Sl.v s2]⟩∧Bc3 284 W' s1 bs∧Fx4 284 W' s2 bs∧(bs.length≤5∧(∀x∈bs,Gy6 x)∧∀x∈bs,∃t∈L,spP t.1 t.2=some x):=by
 apply Hj7
 obtain⟨ty,h⟩:=h
 have hn:s.n=L.length:=by have:=h.1;rw[List.length_map] at this;exact this
 refine⟨r6I W0 L L.length,cn3 L.length,⟨0,[],rfl,Nat.zero_le _,Nat.zero_le _,Ext.refl _,trivial,trivial,Nat.zero_le _,fun x hx=>(by cases hx),fun x hx=>(by cases hx)⟩,?_⟩
 rintro l3 l4 i5 W6 ⟨j,m,rfl,hj,hj5,hE6,a3,a4,hm,hs,hf⟩
 have n3:=a3.len
 have n4:=a4.len
 have fin: ∀{y1 y2:TypeId} (s24:Sl) (W25:PW),Ext W6 W25→SX.Own W25 y1 6 s24 l3→Fr W0 W6 s24→∀(s26:Sl) (W27:PW),Ext W25 W27→SX.Own W27 y2 6 s26 l4→Fr W0 W25 s26→∀(W28:PW),Ext W27 W28→∃(s1 s2:Sl) (bs:List Iv),Value.tuple ⟨[Sl.v s24,Sl.v s26]⟩ = .tuple ⟨[Sl.v s1,Sl.v s2]⟩∧Bc3 284 W28 s1 bs∧Fx4 284 W28 s2 bs∧bs.length≤5∧(∀x∈bs,Gy6 x)∧∀x∈bs,∃t∈L,spP t.1 t.2=some x:=
  fun {y1 y2} s24 W25 hE25 hO25 _ s26 W27 hE27 hO27 _ W28 hE28=>⟨s24,s26,m,rfl,⟨l3,⟨_,hO25.row.ext (hE27.trans hE28)⟩,a3.mono fun _ _ h=>h.ext (hE25.trans (hE27.trans hE28))⟩,⟨l4,⟨_,hO27.row.ext hE28⟩,a4.mono fun _ _ h=>h.ext (hE25.trans (hE27.trans hE28))⟩,by omega,hs,hf⟩
 refine⟨fun hlt=>⟨fun h5=>?_,fun _=>fin⟩,fun _=>fin⟩
 have hjl:j<L.length:=by omega
 have hL:=h.ext hE6
 obtain⟨za,zb⟩:=hz _ (List.getElem_mem hjl)
 have hmu:L.length-Int.toNat ((j:Int)+1)<L.length-Int.toNat (j:Int):=by omega
 refine⟨hL.inB (by omega) (by rw[List.length_map];omega),L[j].1,L[j].2,hL.part (x:=prc L[j]) (by rw[Int.toNat_natCast,List.getElem?_map,List.getElem?_eq_getElem hjl];rfl) 0 rfl,?_⟩
 refine Dd8 za zb fun l l' ok x W10 hE10 ⟨k1,k2,k3,k4⟩=>?_
 have hE:=hE6.trans hE10
 obtain⟨s11,b12,s13,s14,b15,s16,rfl,q1,q2⟩:=k1
 obtain⟨b17,s18,s19,b20,s21,s22,rfl,r1,r2⟩:=k2
 refine⟨s11,b12,s13,s14,b15,s16,b17,s18,s19,b20,s21,s22,ok,rfl,fun hok=>?_,fun hno=>⟨by unfold I64;omega,⟨j+1,m,by push_cast;rfl,by omega,by omega,hE,a3.mono fun _ _ h=>h.ext hE10,a4.mono fun _ _ h=>h.ext hE10,by omega,hs,hf⟩,hmu⟩⟩
 obtain⟨e1,e2,e3⟩:=k3 hok
 obtain⟨p1,p2,p3⟩:=Dp3 e1
 have hx:Gy6 x:=⟨⟨(Aw6 p1).1,(Aw6 p2).1⟩,p3⟩
 refine(fun h=>⟨Fc8 h _,h⟩) ⟨by simp only[List.length_cons,List.length_nil];omega,by simp only[List.length_cons,List.length_nil];omega,by unfold I64;omega,⟨j+1,m ++ [x],by push_cast;rfl,by omega,by omega,hE,(a3.mono fun _ _ h=>h.ext hE10).append ⟨⟨s11,b12,s13,s14,b15,s16,rfl,q1,q2⟩,trivial⟩,(a4.mono fun _ _ h=>h.ext hE10).append ⟨⟨b17,s18,s19,b20,s21,s22,rfl,r1,r2⟩,trivial⟩,by simp only[List.length_append,List.length_cons,List.length_nil];omega,fun y hy=>?_,fun y hy=>?_⟩,hmu⟩
 ·rcases List.mem_append.1 hy with hy | hy
  ·exact hs y hy
  ·rw[List.mem_singleton.1 hy];exact hx
 ·rcases List.mem_append.1 hy with hy | hy
  ·exact hf y hy
  ·rw[List.mem_singleton.1 hy];exact⟨_,List.getElem_mem hjl,e1⟩
theorem Hi0 {W0 W:PW} {M:Nat→Prop} {s:Sl} {L:List (ByteArray×ByteArray)} {K:Value→PW→Prop} (h:Bs7 W s L) (hl:L.length≤1099511627776) (hz: ∀t∈L,t.1.size≤1099511627776∧t.2.size≤1099511627776) (kont: ∀(s1:Sl) (s2:Sl) (bs:List Iv) (W':PW),Ext W W'→(Bc3 284 W' s1 bs∧Fx4 284 W' s2 bs∧(bs.length≤5∧(∀x∈bs,Gy6 x)∧∀x∈bs,∃t∈L,spP t.1 t.2=some x))→K (.tuple ⟨[Sl.v s1,Sl.v s2]⟩) W'):
  Aa1 Tryz.prog W0 M 52 [s.v] W K:=
 Aa2 (fun W' hE=>Hm2 (M:=fun _=>False) (h.ext hE) hl hz) (fun W' v W'' hE hE' hP=>by
  obtain⟨s1,s2,bs,rfl,h⟩:=hP
  exact kont s1 s2 bs W'' (hE.trans hE') h)
end Go.Proofs.YtjkkidjbppphpaaGreatDoor
/- cincturelaw9.BoundTells. -/
namespace Go.Proofs.YtjkkidjbppphpaaGreatDoor
open Go Go.SX
theorem Hg0 {W0:PW} {M:Nat→Prop} {s sb:Sl} {L:List (Mon×ByteArray)} {Lt:List (ByteArray×ByteArray)} (hT:Ac6 W0) (h:Af3 W0 s L) (hb:Bs7 W0 sb Lt) (hl:L.length≤1099511627776) (hz: ∀t∈L,t.2.size≤1099511627776) (hl2:Lt.length≤1099511627776) (hz2: ∀t∈Lt,t.1.size≤1099511627776∧t.2.size≤1099511627776):
  Aa0 Tryz.prog 11 [s.v,sb.v] W0 M fun v W'=>v = .bool true∧True:=by
 apply Hd0
 have alv: ∀{W:PW},Ac6 W→Aa1 Tryz.prog W0 M 16 [] W fun v11 W12=>∃b13:Bool,v11 = .bool b13∧∀(W14:PW),Ext W12 W14→Value.bool b13 = .bool true∧True:=fun hT=>Ba2 hT fun W12 _ _=>⟨true,rfl,fun W14 _=>⟨rfl,trivial⟩⟩
 refine Dn6 h hl hz fun s3 s4 b5 W2 hE2 hp=>⟨s3,s4,b5,rfl,fun _=>alv (hT.ext hE2),fun h5=>Ba2 (hT.ext hE2) fun W11 hE11 _=>⟨true,rfl,fun e=>(by cases e),fun _=>?_⟩⟩
 obtain⟨p,op,q1,r1⟩:=hp (by simpa using h5)
 have E11:=hE2.trans hE11
 refine Fy8 (hb.ext E11) hl2 fun b19 W18 hE18 h30=>⟨b19,rfl,fun _=>alv (hT.ext (E11.trans hE18)),fun hb19=>?_⟩
 have h30:=h30 (by simpa using hb19)
 refine Hi0 (hb.ext (E11.trans hE18)) hl2 hz2 fun s26 s27 bs W25 hE25 ⟨x1,y1,hbl,hsm,hfrom⟩=>⟨s26,s27,rfl,?_⟩
 have hk: ∀x∈bs,IvS 4 x:=fun x hx=>by
  obtain⟨t,ht,e⟩:=hfrom x hx
  obtain⟨e1,e2,_⟩:=Dp3 e
  exact⟨Ct3 e1 (h30 t ht).1,Ct3 e2 (h30 t ht).2⟩
 have E25:=hE11.trans (hE18.trans hE25)
 have q1:=q1.ext E25
 have r1:=r1.ext E25
 have hlen:=op.len
 have ho:=q1.ok
 have hg:=op.1.Aq3
 have hz:=Ge7 op ho hk hbl
 have zn:=(hz.n.over.mono (show _≤67000000 by omega)).sz
 have zm:=hz.Hr5
 have z0:IvS 67000000 ((0:Rat),(0:Rat)):=⟨Sz.zero (by omega),Sz.zero (by omega)⟩
 have zn':IvS 67000000 (if An3 p bs then Aq8 (Bm3 bs) p else(0,0)):=by split<;>assumption
 have zm':IvS 67000000 (if An3 p bs then Hc0 p bs bs.length else(0,0)):=by split<;>assumption
 refine Bi4 q1 x1 hz.n fun l W29 hE29 h29=>h29.Ge9 fun s30 b31 s32 s33 b34 s35 h29=>?_
 refine He5 (r1.ext hE29) (y1.ext hE29) hz.n fun l W38 hE38 h38=>h38.Ge9 fun b39 s40 s41 b42 s43 s44 h38=>?_
 have E38:=hE29.trans hE38
 refine Hc9 (q1.ext E38) (x1.ext E38) hz fun l W47 hE47 h47=>h47.Ge9 fun s48 b49 s50 s51 b52 s53 h47=>?_
 have E47:=E38.trans hE47
 refine Hi7 (r1.ext E47) (y1.ext E47) hz fun l W56 hE56 h56=>h56.Ge9 fun b57 s58 s59 b60 s61 s62 h56=>?_
 have E56:=E47.trans hE56
 refine Hf6 (q1.ext E56) (x1.ext E56) hz fun l ok W65 hE65 ⟨h65,hok⟩=>h65.Ge9 fun s66 b67 s68 s69 b70 s71 h65=>?_
 have E65:=E56.trans hE65
 refine Hj0 (h38.ext (hE47.trans (hE56.trans hE65))) (h56.ext hE65) zn' zm' (by omega) fun l W74 hE74 h74=>h74.Ge9 fun b75 s76 s77 b78 s79 s80 h74=>?_
 have E74:=E65.trans hE74
 refine Bv2 (q1.ext E74) (x1.ext E74) hk (by omega) (by omega) (by omega) fun W83 hE83 _=>⟨_,rfl,?_⟩
 refine Hc7 (r1.ext (E74.trans hE83)) (y1.ext (E74.trans hE83)) hk (by omega) (by omega) (by omega) fun W86 hE86 _=>⟨_,rfl,fun _=>?_,fun e=>absurd rfl e⟩
 have F:=hE83.trans hE86
 have off:decide (An3 p bs)=false→¬An3 p bs:=of_decide_eq_false
 have hok2:ok=decide (An3 p bs):=by
  rw[hok,decide_eq_decide]
  exact⟨fun e=>e.1,fun e=>⟨e,Ho0 hg ho e⟩⟩
 subst hok2
 have hmeet:(Au7 (if An3 p bs then Aq8 (Bm3 bs) p else(0,0)).1 (if An3 p bs then Hc0 p bs bs.length else(0,0)).1,Az9 (if An3 p bs then Aq8 (Bm3 bs) p else(0,0)).2 (if An3 p bs then Hc0 p bs bs.length else(0,0)).2)=(if An3 p bs then Hm5 p bs else((0:Rat),(0:Rat))):=by
  by_cases hs:An3 p bs
  ·rw[if_pos hs,if_pos hs,if_pos hs,Hq7 (Ho0 hg ho hs)]
  ·rw[if_neg hs,if_neg hs,if_neg hs]
   decide +kernel
 rw[hmeet] at h74
 have zb:IvS 67000000 (if An3 p bs then Hm5 p bs else((0:Rat),(0:Rat))):=by
  split
  ·exact Hr2 zn zm (by omega)
  ·exact z0
 refine Hc5 (h29.ext (hE38.trans (hE47.trans (hE56.trans (hE65.trans (hE74.trans F)))))) (h38.ext (hE47.trans (hE56.trans (hE65.trans (hE74.trans F))))) zn' (by omega) (fun e=>if_neg (off e)) fun W89 hE89 _=>⟨true,rfl,fun _=>?_,fun e=>(by cases e)⟩
 refine Hc5 (h47.ext (hE56.trans (hE65.trans (hE74.trans (F.trans hE89))))) (h56.ext (hE65.trans (hE74.trans (F.trans hE89)))) zm' (by omega) (fun e=>if_neg (off e)) fun W92 hE92 _=>⟨true,rfl,fun _=>?_,fun e=>(by cases e)⟩
 refine Hc5 (h65.ext (hE74.trans (F.trans (hE89.trans hE92)))) (h74.ext (F.trans (hE89.trans hE92))) zb (by omega) (fun e=>if_neg (off e)) fun W95 hE95 _=>⟨true,rfl,fun W97 _=>⟨rfl,trivial⟩⟩
end Go.Proofs.YtjkkidjbppphpaaGreatDoor
/- cincturelaw9.BoundTells answers true for every input whose bulk is at most 1048576 (the second form), and its arguments read behind the call as they did ahead of it. -/
namespace Go.Proofs.YtjkkidjbppphpaaGreatDoor
open Go Go.SX Go.ChangeShapes Go.WideShapes Go.ChangeAt Go.RowKit Go.Deep
theorem Fs9:Tryz.prog.globalNamed "math/bits.deBruijn32tab" = some 1:=by kernel_rfl
theorem Ew9:(Tryz.prog.globals[1]?).map (·.type)=some 347:=by kernel_rfl
theorem Ev1:Tryz.prog.cellsOf 347=32:=by kernel_rfl
theorem Fh1:Tryz.prog.cellsOf 5=1:=by kernel_rfl
theorem Fr5 {W:World} (h:laidMetH Tryz.prog Rows.boundTellsUptoRow.laid W):Ac6 ⟨W,fun _=>False⟩:=by
 have ht:Go.Lib.TabIs Tryz.prog W "math/bits.deBruijn32tab" .u8 (Go.Lib.deBruijn32tab.map fun n:Nat=>(n:Int)):=Go.Lib.tabIs_of_head (rest:=[]) Fs9 Ew9 Tryz.underlying347 Tryz.underlying5 Fh1 Ev1 h
 have hc: ∀j,j<32→W.cell? ⟨1,j,none⟩=some (.int .u8 ((Go.Lib.deBruijn32tab.getD j 0:Nat):Int)):=fun j hj=>by
  rw[ht.cell Fs9 j (by simpa[Go.Lib.deBruijn32tab] using hj)]
  have hall: ∀j,j<32→(Go.Lib.deBruijn32tab.map fun n:Nat=>(n:Int)).getD j 0=((Go.Lib.deBruijn32tab.getD j 0:Nat):Int):=by decide
  rw[hall j hj]
 refine⟨hc,?_,fun h=>h⟩
 have:=hc 0 (by omega)
 unfold World.cell? at this
 split at this
 ·rename_i e
  exact(Array.getElem?_eq_some_iff.1 e).1
 ·cases this
theorem Fa3 (H:Type) (enc:TypeId×Value→H) (W:World) (base:Nat) (args:Array Value) (ds gs:List (DataW H)) (before:List MemPlace)
  (hval: ∀(j:Nat) t v,Tryz.f11.params[j]?=some t→args[j]?=some v→Value.okWide Tryz.prog W .any base t v)
  (hW:DataW.Whole enc Tryz.prog Tryz.f11.params.toList Rows.boundTellsSpec.vars false W args.toList ds gs before) (hk:Rows.uptoSmall H (ds ++ gs)=true) (hL:laidMetH Tryz.prog Rows.boundTellsUptoRow.laid W):
  Calls Tryz.prog 11 args W fun e W'=>∃v,e = .returned v∧Rows.boundTellsSpec.post enc Tryz.prog Tryz.f11 false true false false W args v W':=by
 have hW':=hW
 obtain⟨p,q,hA0,hV,rfl,hfz,hnd⟩:=hW
 have hA:DataW.TrodAll enc Tryz.prog W 0 (fun _=>true) true Tryz.f11.params.toList args.toList ds p:=hA0
 rw[Tryz.params11] at hA hval
 obtain⟨v0,vs0,d0,ds0,p0,q0,hargs,rfl,rfl,h0,r0⟩:=trodAll_cons hA
 obtain⟨v1,vs1,d1,ds1,p1,q1,rfl,rfl,rfl,h1,r1⟩:=trodAll_cons r0
 obtain⟨rfl,rfl,rfl⟩:=trodAll_nil r1
 obtain rfl:args = #[v0,v1]:=by cases args;simp_all
 obtain⟨rfl,rfl⟩:=trodVars_none hV
 obtain⟨a0,n0,c0,rfl⟩:=okWide_slice Tryz.underlying22 (hval 0 22 v0 rfl rfl)
 obtain⟨a1,n1,c1,rfl⟩:=okWide_slice Tryz.underlying58 (hval 1 58 v1 rfl rfl)
 clear hA0
 simp only[List.append_nil] at hW' hk
 have hlt: ∀x∈p0 ++ p1,x.block<W.heap.size:=fun x hx=>by simpa using hW'.lt x (by simpa using hx)
 have hbulk:Rows.uptoBulkAll [d0,d1]≤1048576:=of_decide_eq_true hk
 simp only[Rows.uptoBulkAll] at hbulk
 have h0k:=h0
 obtain⟨fuel0,hf0⟩:=h0
 have hf0':DataW.trod enc Tryz.prog W 0 (fun _=>true) true fuel0 22 [.slice a0 n0 c0]=some (d0,p0):=by simpa[Value.cells] using hf0
 obtain⟨s0,L0,hs0,hL0,hb0,hc0⟩:=Dt5 hf0'
 have h1k:=h1
 obtain⟨fuel1,hf1⟩:=h1
 have hf1':DataW.trod enc Tryz.prog W 0 (fun _=>true) true fuel1 58 [.slice a1 n1 c1]=some (d1,p1):=by simpa[Value.cells] using hf1
 obtain⟨s1,L1,hs1,hL1,hb1,hc1⟩:=Gc9 hf1'
 have hc:=Hg0 (M:=fun _=>False) (Fr5 hL) hL0 hL1 (by omega) (fun t ht=>by have:=hc0 t ht;omega) (by omega) (fun t ht=>by have:=hc1 t ht;omega)
 have hcall:=hc.2 (fun b h=>h.elim)
 rw[hs0,hs1]
 refine hcall.mono fun e W' ⟨v,he,hkeep,hv,_⟩=>⟨v,he,?_⟩
 subst hv
 have hbel:=hkeep.below
 refine⟨[d0,d1],[],_,[],p0 ++ p1,[],(by rw[←hs0,←hs1];simpa using hW'),trodAll_mk1 (shut_bool Tryz.underlying4 _),(by rw[←hs0,←hs1];exact trodAll_mk2 (Below.trod laidOut (by kernel_rfl) (of_decide_eq_true (by kernel_rfl)) h0k hbel fun x hx=>hlt x (by simp[hx])) (Below.trod laidOut (by kernel_rfl) (of_decide_eq_true (by kernel_rfl)) h1k hbel fun x hx=>hlt x (by simp[hx]))),rfl,hbel.frame _,fun h=>by cases h⟩
noncomputable def Bu8 (os:Os):World:=
 {World.holding Tryz.prog os ⟨#[],#[],[]⟩ with heap:=(World.holding Tryz.prog os ⟨#[],#[],[]⟩).heap.modify 1 fun
   | .cells _ t frozen=>.cells #[.int .u8 0,.int .u8 1,.int .u8 28,.int .u8 2,.int .u8 29,.int .u8 14,.int .u8 24,.int .u8 3,.int .u8 30,.int .u8 22,.int .u8 20,.int .u8 15,.int .u8 25,.int .u8 17,.int .u8 4,.int .u8 8,.int .u8 31,.int .u8 27,.int .u8 13,.int .u8 23,.int .u8 21,.int .u8 19,.int .u8 16,.int .u8 7,.int .u8 26,.int .u8 12,.int .u8 18,.int .u8 6,.int .u8 11,.int .u8 5,.int .u8 10,.int .u8 9] t frozen
   | o=>o }
theorem Fa2 (os:Os):laidMet Tryz.prog Rows.boundTellsUptoRow.laid ((Bu8 os).forCall (fun _ _=>0) ⟨#[],#[.slice none 0 0,.slice none 0 0],[]⟩).memory:=
 laidMet_of_run' 8 (by kernel_rfl) (by kernel_rfl)
theorem reads (os:Os) {H:Type} (enc:TypeId×Value→H): ∃places,DataW.whole enc Tryz.prog ((Bu8 os).forCall (fun _ _=>0) ⟨#[],#[.slice none 0 0,.slice none 0 0],[]⟩).memory Tryz.f11.params.toList Rows.boundTellsSpec.vars false (#[.slice none 0 0,.slice none 0 0]:Array Value).toList 8=some ([.nil,.nil],[],places):=
 ⟨[],by kernel_rfl⟩
theorem lifted (os:Os) (started:os.Started) (H:Type) (enc:TypeId×Value→H) (F:Stop.Interp):
  ReturnsInHanded {} Tryz.checked os 11 .any ((Rows.OpenSpec.upto Rows.boundTellsSpec).preRow enc Tryz.prog Tryz.f11 Rows.boundTellsUptoRow.domain false Rows.boundTellsUptoRow.laid) (((Rows.OpenSpec.upto Rows.boundTellsSpec).at F).post enc Tryz.prog Tryz.f11 false true false false):=by
 obtain⟨places,hx⟩:=reads os enc
 refine returnsInHanded_of_row (C:=Tryz.checked) (s:=Rows.OpenSpec.upto Rows.boundTellsSpec) Cp9 started (by kernel_rfl) Tryz.func11
  (witness_row_at (enc:=enc) (C:=Tryz.checked) false (Bu8 os) #[.slice none 0 0,.slice none 0 0] rfl (by kernel_rfl) (by kernel_rfl) (by kernel_rfl)
   (OpenSpec.preRow_of_cond 8 hx (by kernel_rfl) (fun k hk=>by cases hk;kernel_rfl) (by kernel_rfl) (Fa2 os))) ?_
 intro W base args ds gs before hval hW _ hcond _ hL _ _
 exact Fa3 H enc W base args ds gs before hval hW (hcond _ rfl) hL
theorem Fj9:Fc7 Tryz.checked.prog 11 Tryz.f11 (Rows.OpenSpec.upto Rows.boundTellsSpec).bare Rows.boundTellsUptoRow=true:=by kernel_rfl
theorem Fl9:Fd9 Tryz.checked.prog 11 Tryz.f11 (Rows.OpenSpec.upto Rows.boundTellsSpec).bare Rows.boundTellsUptoRow=true:=by kernel_rfl
theorem Fl2:Fe1 Tryz.checked.prog 11 Tryz.f11 (Rows.OpenSpec.upto Rows.boundTellsSpec).bare Rows.boundTellsUptoRow=true:=by kernel_rfl
theorem Fn7:Fd2 Tryz.checked.prog 11 Tryz.f11 (Rows.OpenSpec.upto Rows.boundTellsSpec).bare Rows.boundTellsUptoRow=true:=by kernel_rfl
theorem Fj6:Fd4 Tryz.checked.prog 11 Tryz.f11 (Rows.OpenSpec.upto Rows.boundTellsSpec).bare Rows.boundTellsUptoRow=true:=by kernel_rfl
theorem Et8:Rows.BoundTellsUptoSaid:=
 OpenClaim.holds_of_cond 11 Tryz.f11 rfl rfl rfl rfl rfl rfl rfl ⟨rfl,rfl,rfl,rfl,rfl⟩ rfl rfl rfl rfl rfl (by kernel_rfl) Tryz.func11 (Eo7 Fj9 Fl9 Fl2 Fn7 Fj6)
  (of_decide_eq_true (by kernel_rfl)) (by unfold Func.isWrapper;first | (rw[if_pos (by decide +kernel)];kernel_rfl) | (rw[if_neg (by decide +kernel)];exact⟨rfl,rfl⟩))
  (fun os started H enc _ F=>by rw[OpenClaim.pre_eq_preRow];exact lifted os started H enc F)
theorem plain (f:FuncId) (fn:Func) (hf:Tryz.pinned.checked.prog.funcNamed "cincture/cincturelaw9.BoundTells" = some f) (hfn:Tryz.pinned.checked.prog.funcs[f]?=some fn):
  false=Tryz.pinned.checked.prog.looks []∧∀(j:Nat) t,fn.params[j]?=some t→Tryz.pinned.checked.prog.wantsStandIn t=false:=by
 obtain rfl:f=11:=Option.some.inj ((show Tryz.prog.funcNamed "cincture/cincturelaw9.BoundTells" = some 11 by kernel_rfl).symm.trans hf) |>.symm
 obtain rfl:fn=Tryz.f11:=(Option.some.inj (Tryz.func11.symm.trans hfn)).symm
 refine⟨by kernel_rfl,fun j t ht=>?_⟩
 rw[Tryz.params11] at ht
 have hm:t∈[22,58]:=by simpa using Array.mem_of_getElem? ht
 have hall:([22,58].all fun u=>!Tryz.prog.wantsStandIn u)=true:=by kernel_rfl
 exact(show Tryz.prog.wantsStandIn t=false by simpa using List.all_eq_true.1 hall t hm)
theorem boundTells_card:Rows.BoundTellsUptoCardSaid:=
 Claim7.holds_tied_plain_at .later [] _ _ _ _ Et8 (fun _ h=>by cases h) (by kernel_rfl) (fun _ h=>by cases h) boundTellsUpto_row_tie rfl ⟨rfl,rfl⟩ (by kernel_rfl) rfl plain (by kernel_rfl)
#print axioms boundTells_card
end Go.Proofs.YtjkkidjbppphpaaGreatDoor
