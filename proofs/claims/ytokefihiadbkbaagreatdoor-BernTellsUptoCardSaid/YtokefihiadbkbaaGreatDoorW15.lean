/- ref Coefs. -/
import Derived.Test.YtokefihiadbkbaaGreatDoorW14
import Derived.Test.YtokefihiadbkbaaGreatDoorW12
import Derived.Test.YtokefihiadbkbaaGreatDoorW6
import Derived.Test.YtokefihiadbkbaaGreatDoorR20
import Derived.Test.YtokefihiadbkbaaGreatDoorW10
import Derived.Test.YtokefihiadbkbaaGreatDoorW13
import Derived.Test.YtokefihiadbkbaaGreatDoorW8
import Derived.Test.YtokefihiadbkbaaGreatDoorW5
import Derived.Test.YtokefihiadbkbaaGreatDoorCards
import Derived.Test.YtokefihiadbkbaaGreatDoorTie
import Derived.Deep.DeepHandedRow
import Derived.Lib.LaidTab
import Derived.Test.YtokefihiadbkbaaGreatDoorLib4
set_option linter.unusedVariables false
set_option linter.unusedSimpArgs false
set_option maxRecDepth 100000
namespace Go.Proofs.YtokefihiadbkbaaGreatDoor
open Go Go.SX
theorem Lb3 {p:List Tm} (ho:POk p) {t:Tm} (ht:t∈p) {i:Nat} (hi:i<3):(eg t.1 i:Int)≤Fd0 (Fv8 (i:Int)) 0 p:=by
 have h1:=(Hv3 (w:=Fv8 (i:Int)) (n:=0) (p:=p)).2 t ht
 have h2:Fv8 (i:Int) t.1=An6 t.1 i:=by unfold Fv8;rw[if_pos ⟨by omega,by omega⟩,Int.toNat_natCast]
 rw[h2] at h1
 have:=(Dg9 (ho t ht) i).1
 unfold eg
 omega
theorem Lc1 {p:List Tm} {bs:List Iv} (ho:POk p) (ok:Ii7 p bs) (h60:(Fd0 (Fv8 0) 0 p+1)*(Fd0 (Fv8 1) 0 p+1)*(Fd0 (Fv8 2) 0 p+1)≤60): ∀t∈p,t.1.deg≤18:=fun t ht=>by
 have hfits:=Jk7 ho ok
 have htl:=Io1 p bs.length
 have h16:=ok.2.1
 have tle: ∀i:Nat,i<3→0≤Fd0 (Fv8 (i:Int)) 0 p∧∀t∈p,(eg t.1 i:Int)≤16∧(eg t.1 i:Int)≤Fd0 (Fv8 (i:Int)) 0 p:=fun i hi=>⟨(Hv3 (w:=Fv8 (i:Int)) (n:=0) (p:=p)).1,fun t ht=>⟨by
  by_cases hi2:i<bs.length
  ·have h1:=(hfits t ht).1 i (by omega)
   have:=If0 h16 i
   omega
  ·have:=(hfits t ht).2 i (by omega) hi
   omega,Lb3 ho ht hi⟩⟩
 obtain⟨a0,a1⟩:=tle 0 (by omega)
 obtain⟨c0,c1⟩:=tle 1 (by omega)
 obtain⟨d0,d1⟩:=tle 2 (by omega)
 have a1:=a1 t ht
 have c1:=c1 t ht
 have d1:=d1 t ht
 obtain⟨x,hx⟩:=Int.eq_ofNat_of_zero_le a0
 obtain⟨y,hy⟩:=Int.eq_ofNat_of_zero_le c0
 obtain⟨z,hz⟩:=Int.eq_ofNat_of_zero_le d0
 have hx:Fd0 (Fv8 0) 0 p=(x:Int):=hx
 have hy:Fd0 (Fv8 1) 0 p=(y:Int):=hy
 have hz:Fd0 (Fv8 2) 0 p=(z:Int):=hz
 have a2:(eg t.1 0:Int)≤Fd0 (Fv8 0) 0 p:=a1.2
 have c2:(eg t.1 1:Int)≤Fd0 (Fv8 1) 0 p:=c1.2
 have d2:(eg t.1 2:Int)≤Fd0 (Fv8 2) 0 p:=d1.2
 rw[hx,hy,hz] at h60
 have h60:(x+1)*(y+1)*(z+1)≤60:=by exact_mod_cast h60
 have m1:(eg t.1 0+1)*(eg t.1 1+1)*(eg t.1 2+1)≤(x+1)*(y+1)*(z+1):=Nat.mul_le_mul (Nat.mul_le_mul (by omega) (by omega)) (by omega)
 have:=Lc2 (eg t.1 0) (by omega) (eg t.1 1) (by omega) (eg t.1 2) (by omega) (by omega)
 have hok:=ho t ht
 obtain⟨⟨x0,_⟩,⟨y0,_⟩,z0,_⟩:=hok
 have f0:(eg t.1 0:Int)=t.1.x:=Int.toNat_of_nonneg x0
 have f1:(eg t.1 1:Int)=t.1.y:=Int.toNat_of_nonneg y0
 have f2:(eg t.1 2:Int)=t.1.z:=Int.toNat_of_nonneg z0
 unfold Mon.deg
 omega
theorem Kw4 {W0:PW} {M:Nat→Prop} {s sb:Sl} {p:List Tm} {bs:List Iv} (h:Ag1 231 142 W0 s p) (hb:Fx4 231 W0 sb bs) (hg:Av6 p) (ho:POk p) (hk: ∀x∈bs,IvS 4 x) (hl:bs.length≤5) (hs: ∀t∈p,Sz 4 t.2) (hp:p.length≤14) (h60:(Fd0 (Fv8 0) 0 p+1)*(Fd0 (Fv8 1) 0 p+1)*(Fd0 (Fv8 2) 0 p+1)≤60):
  Aa0 Tryz.prog 24 [s.v,sb.v] W0 M fun v W'=>∃(s1:Sl),v = .tuple ⟨[Sl.v s1,.bool (decide (Ii7 p bs))]⟩∧Bf7 231 47 W' s1 (if Ii7 p bs then stN (Ie8 p bs.length) bs.length else 0) (Jk3 p bs):=by
 apply Kt4
 have hn:=h.n
 have hbn:=hb.n
 have bad:¬Ii7 p bs→∀W':PW,∃s1:Sl,(Value.tuple ⟨[.slice none 0 0,.bool false]⟩) = .tuple ⟨[Sl.v s1,.bool (decide (Ii7 p bs))]⟩∧Bf7 231 47 W' s1 (if Ii7 p bs then stN (Ie8 p bs.length) bs.length else 0) (Jk3 p bs):=fun hno W'=>⟨⟨none,0,0⟩,by rw[decide_eq_false hno],by rw[if_neg hno];exact⟨[],⟨rfl,Nat.le_refl _,by simp[maxLen],by simp,.inl rfl⟩,rfl,fun i h=>absurd h (Nat.not_lt_zero _)⟩⟩
 refine Hc7 h hb hk (by omega) (by omega) (by omega) fun W2 hE2 _=>⟨_,rfl,fun hno W4 _=>bad (fun ok=>by simp[ok.1] at hno) W4,fun hyes=>?_⟩
 have hS:An3 p bs:=by simpa using hyes
 have hb3:=hS.1.1
 have ebn:((sb.2:Nat):Int)=((bs.length:Nat):Int):=by
  have:sb.2=bs.length:=hbn
  omega
 rw[ebn]
 refine Kv7 (h.ext hE2) (by omega) (by omega) fun s7 W6 hE6 h7=>⟨s7,rfl,?_⟩
 have htl:=Io1 p bs.length
 have hzn:=h7.n
 refine⟨rcA W6 (Ie8 p bs.length) bs,cnA bs.length,⟨0,⟨none,0,0⟩,⟨none,0,0⟩,⟨none,0,0⟩,rfl,Nat.zero_le _,Ext.refl _,rfl,fun x hx=>(by simp at hx),rfl,Ag1.nil W6,Ag1.nil W6,Ag1.nil W6⟩,?_⟩
 rintro s10 s11 s12 i13 i14 W15 ⟨j,a,b,c,rfl,hj,hE15,rfl,hall,el,ga,gb,gc⟩
 simp only[List.cons.injEq,and_true] at el
 obtain⟨e1,e2,e3⟩:=el
 obtain rfl:=Sl.Ck0 e1
 obtain rfl:=Sl.Ck0 e2
 obtain rfl:=Sl.Ck0 e3
 have E15:=hE2.trans (hE6.trans hE15)
 refine⟨fun hlt=>?_,fun hge=>?_⟩
 ·have hjl:j<bs.length:=by omega
  have hjz:j<(Ie8 p bs.length).length:=by omega
  have z15:=h7.ext hE15
  have ib:=z15.inB (i:=(j:Int)) (by omega) (by omega)
  have ez:=z15.at hjz
  have hz0:0≤(Ie8 p bs.length)[j]:=by rw[Is2 hjz];exact(Hv3 (w:=Fv8 (j:Int)) (n:=0) (p:=p)).1
  refine⟨ib,_,ez,fun hbig W17 _=>bad (fun ok=>by have:=(ok.2.1 _ (List.getElem_mem hjz)).2;omega) W17,fun hsm=>?_⟩
  have hall': ∀x∈(Ie8 p bs.length).take (j+1),0≤x∧x≤16:=fun x hx=>by
   rw[List.take_succ_eq_append_getElem hjz] at hx
   rcases List.mem_append.1 hx with hx | hx
   ·exact hall x hx
   ·rw[List.mem_singleton.1 hx];omega
  have e:(stN (Ie8 p bs.length) j:Int)*((Ie8 p bs.length)[j]+1)=(stN (Ie8 p bs.length) (j+1):Int):=by rw[←Ih5 hjz hz0,stN];push_cast;rfl
  have b1:stN (Ie8 p bs.length) (j+1)≤1419857:=by rw[←Im3 (m:=j+1) (j+1) (Nat.le_refl _)];exact Im9 hall' (by omega)
  have hB:=hb.ext E15
  obtain⟨x,⟨b19,s20,s21,b25,s26,s27,rfl,w1,w2⟩,hel⟩:=hB.at hjl
  have hx:=hk _ (List.getElem_mem hjl)
  have ibb:=hB.inB (i:=(j:Int)) (by omega) (by omega)
  refine⟨ib,_,ez,?_⟩
  rw[e]
  refine⟨by unfold I64;omega,by unfold I64;omega,ibb,b19,s20,s21,hel 0 rfl,ibb,b19,s20,s21,b25,s26,s27,hel 0 rfl,?_⟩
  refine Kf1 w1 hx.1 (by omega) fun s30 W29 hE29 h29=>⟨s30,rfl,hE29,?_⟩
  refine Kj4 fun s33 W32 hE32 h32=>⟨s33,rfl,hE32,?_⟩
  refine Ku3 (Ah6.mk (w1.ext (hE29.trans hE32)) (w2.ext (hE29.trans hE32))) hx (by omega) fun b36 s37 s38 W35 hE35 h35=>⟨b36,s37,s38,rfl,?_⟩
  have hv:Bd 4 (Dc6 (j:Int)):=by
   unfold Dc6
   split
   ·exact Cq4 (Sz.one (Nat.le_refl 1))
   ·exact⟨1,0,trivial,by decide,by rw[Ax0];omega,by rw[Ag9];omega⟩
  have hvl:(Dc6 (j:Int)).length≤1:=by unfold Dc6;split<;>simp
  have hw:Sz 9 (bs[j].2-bs[j].1):=(hx.2.sub hx.1).mono (by omega)
  refine Ks5 (h32.ext hE35) h35 hv hw (by omega) (by omega) (by omega) fun s41 W40 hE40 h40=>⟨s41,rfl,?_⟩
  have l1:=El2 [((⟨0,0,0⟩:Mon),bs[j].1)]
  have l1:(Ag2 [((⟨0,0,0⟩:Mon),bs[j].1)]).length≤1:=l1
  have l2:=El2 (pmap (Dc6 (j:Int)) (bs[j].2-bs[j].1))
  rw[Ew2] at l2
  refine Jv3 (k:=20) (h29.ext (hE32.trans (hE35.trans hE40))) h40 (Ce8 _) ((Cq4 hx.1).norm.mono (by omega)) ((Bd.pmap hv hw).norm.mono (by omega)) (by omega) (by omega) (by omega) fun s44 W43 hE43 h43=>⟨s44,rfl,⟨by omega,by omega⟩,by omega,?_⟩
  have E43:=hE29.trans (hE32.trans (hE35.trans (hE40.trans hE43)))
  have hnew:Kr7 bs (j+1) j=Ag2 (Ag2 [(⟨0,0,0⟩,bs[j].1)] ++ Ag2 (pmap (Dc6 (j:Int)) (bs[j].2-bs[j].1))):=by
   unfold Kr7
   rw[if_pos (by omega),Fi1 hjl]
   rfl
  have hold: ∀i,i≠j→Kr7 bs (j+1) i=Kr7 bs j i:=fun i hi=>by
   unfold Kr7
   by_cases h:i<j
   ·rw[if_pos h,if_pos (by omega)]
   ·rw[if_neg h,if_neg (by omega)]
  have hmu:bs.length-Int.toNat ((j:Int)+1)<bs.length-Int.toNat (j:Int):=by omega
  rw[←hnew] at h43
  have ga:=ga.ext E43
  have gb:=gb.ext E43
  have gc:=gc.ext E43
  refine⟨⟨⟨trivial,fun e9=>?_⟩,fun e9=>?_⟩,fun e9=>?_⟩
  ·have:j=0:=by omega
   subst this
   exact⟨by unfold I64;omega,⟨1,s44,s11,s12,rfl,by omega,hE15.trans E43,rfl,hall',rfl,h43,by rw[hold 1 (by omega)];exact gb,by rw[hold 2 (by omega)];exact gc⟩,hmu⟩
  ·have:j=1:=by omega
   subst this
   exact⟨by unfold I64;omega,⟨2,s10,s44,s12,rfl,by omega,hE15.trans E43,rfl,hall',rfl,by rw[hold 0 (by omega)];exact ga,h43,by rw[hold 2 (by omega)];exact gc⟩,hmu⟩
  ·have:j=2:=by omega
   subst this
   exact⟨by unfold I64;omega,⟨3,s10,s11,s44,rfl,by omega,hE15.trans E43,rfl,hall',rfl,by rw[hold 0 (by omega)];exact ga,by rw[hold 1 (by omega)];exact gb,h43⟩,hmu⟩
 have hje:j=bs.length:=by omega
 subst hje
 have hT:Ie1 (Ie8 p bs.length):=⟨fun z hz=>hall z (by rw[List.take_of_length_le (by omega)];exact hz),by omega,by omega⟩
 have ok:Ii7 p bs:=⟨hS,hT⟩
 have h16:=hT.1
 have hfits:=Jk7 ho ok
 have hdeg:=Lc1 ho ok h60
 have hfac:Ky3 60 (Kt8 (Kr7 bs bs.length 0) (Kr7 bs bs.length 1) (Kr7 bs bs.length 2)) p:=⟨fun i hi=>by rw[Kt3 bs _ i hi];exact Kz8 hk _ _,fun t ht=>(hs t ht).mono (by omega),hdeg,ho,hp,by omega⟩
 obtain⟨d,hd⟩:=Kt9 (q:=Kt8 (Kr7 bs bs.length 0) (Kr7 bs bs.length 1) (Kr7 bs bs.length 2)) (fun i hi=>by rw[Kt3 bs _ i hi];exact Ky5 _ _ _) ho hdeg
 refine Ks7 (h.ext E15) ga gb gc hfac fun s47 W46 hE46 h46=>⟨s47,_,rfl,fun e=>absurd e (by rw[hd];simp),fun _=>?_⟩
 rw[hd] at h46
 have h46:Ag1 231 142 W46 s47 (Ag2 d):=h46
 have hsum:=hfac.sum hd
 have hpd:=El2 d
 have hm:p.length*(19*60+4)≤14*(19*60+4):=Nat.mul_le_mul_right _ hp
 have hm2:p.length*262144≤14*262144:=Nat.mul_le_mul_right _ hp
 have bq:Bd 16017 (Ag2 d):=hsum.1.norm.mono (by omega)
 have hcof: ∀{k},k<stN (Ie8 p bs.length) bs.length→lin (fun m=>rfQ (Ie8 p bs.length) k m bs.length) (Ag2 d)=Jk3 p bs k:=fun {k} hk'=>by
  rw[Gi6]
  exact La9 hg ho ok hk' (Kt3 bs _) hd
 have hfew:=Jm7 ok
 have hN0:=Jk0 p bs
 have qok:=h46.ok
 have qn:=h46.n
 have z46:=h7.ext (hE15.trans hE46)
 generalize hq:Ag2 d=q at *
 generalize hzs:Ie8 p bs.length=zs at *
 generalize hF:Jk3 p bs=F at *
 have hNle:stN zs bs.length≤4913:=hfew
 refine⟨⟨rfl,by omega,by omega⟩,rcK W46 (stN zs bs.length) F,Jb8 (stN zs bs.length),⟨0,rfl,Nat.zero_le _,Ext.refl _,?_⟩,?_⟩
 ·rw[Int.toNat_natCast]
  exact(Iy7 W46 _).congr fun a _=>by rw[if_neg (Nat.not_lt_zero _)]
 rintro l52 i53 W54 ⟨k,rfl,hkN,hE54,g52⟩
 have hl52:=g52.1
 refine⟨fun hlt=>?_,fun hge s128 W129 hE129 hO129 _ W130 hE130=>⟨s128,by rw[decide_eq_true ok],?_⟩⟩
 rotate_left
 ·have:k=stN zs bs.length:=by omega
  rw[if_pos ok]
  exact⟨_,hO129.row.ext hE130,(g52.congr fun a ha=>by rw[if_pos (by omega)]).ext (hE129.trans hE130)⟩
 have hk':k<stN zs bs.length:=by omega
 refine Ak1 (z:=0) (by unfold I64;omega) fun b57 s58 s59 W56 hE56 h56=>⟨b57,s58,s59,rfl,⟨by omega,by omega⟩,by omega,?_⟩
 refine⟨rcP W56 zs bs.length k,cnA bs.length,⟨0,rfl,Nat.zero_le _,Ext.refl _,by rw[stN,Nat.div_one],rfl⟩,?_⟩
 rintro i62 i63 i64 i65 i66 W67 ⟨i,rfl,hi,hE67,rfl,el⟩
 simp only[List.cons.injEq,Value.int.injEq,and_true,true_and] at el
 obtain⟨rfl,rfl,rfl⟩:=el
 have z67:=z46.ext (hE54.trans (hE56.trans hE67))
 refine⟨fun hlt2=>?_,fun hge2=>?_⟩
 ·have hil:i<bs.length:=by omega
  have hiz:i<zs.length:=by omega
  have ib:=z67.inB (i:=(i:Int)) (by omega) (by omega)
  have ez:=z67.at hiz
  have b0:=h16 _ (List.getElem_mem hiz)
  have htop:=Ih5 hiz b0.1
  have hst:=Ie2 zs i
  have htp:=Ie4 zs i
  have hkd:k/stN zs i≤k:=Nat.div_le_self _ _
  have e1:Int.tmod ((k/stN zs i:Nat):Int) (zs[i]+1)=((dig zs i k:Nat):Int):=by rw[←htop];exact(Int.ofNat_tmod _ _).symm
  have e2:IntKind.wrap .i64 (Int.tdiv ((k/stN zs i:Nat):Int) (zs[i]+1))=((k/stN zs (i+1):Nat):Int):=by
   rw[←htop,stN,←Nat.div_div_eq_div_mul]
   have e3:Int.tdiv ((k/stN zs i:Nat):Int) ((tpN zs i:Nat):Int)=((k/stN zs i/tpN zs i:Nat):Int):=(Int.ofNat_tdiv _ _).symm
   rw[e3]
   have:k/stN zs i/tpN zs i≤k:=Nat.le_trans (Nat.div_le_self _ _) hkd
   generalize k/stN zs i/tpN zs i=y at this⊢
   exact wrap_i64 (by unfold I64;omega)
  have ps:=fun j=>@La3 zs k i j
  have hmu:bs.length-Int.toNat ((i:Int)+1)<bs.length-Int.toNat (i:Int):=by omega
  refine⟨ib,_,ez,by unfold I64;omega,by omega,⟨by omega,by omega⟩,by omega,?_⟩
  rw[e1]
  have fin: ∀{x y z:Int},x=plc zs k (i+1) 0→y=plc zs k (i+1) 1→z=plc zs k (i+1) 2→SX.inB s7 (i:Int)∧∃i69:Int,Aa7 W67 s7 1 (Int.toNat (i:Int)) 0 [.int IntKind.i64 i69]∧I64 (i69+1)∧i69+1≠0∧I64 ((i:Int)+1)∧stp (rcP W56 zs bs.length k) (cnA bs.length) [PL.val (.int IntKind.i64 (IntKind.wrap IntKind.i64 (Int.tdiv ((k/stN zs i:Nat):Int) (i69+1)))),PL.val (.int IntKind.i64 ((i:Int)+1)),PL.cells [.int IntKind.i64 x,.int IntKind.i64 y,.int IntKind.i64 z]] W67 [PL.val (.int IntKind.i64 ((k/stN zs i:Nat):Int)),PL.val (.int IntKind.i64 (i:Int)),PL.cells [.int IntKind.i64 (plc zs k i 0),.int IntKind.i64 (plc zs k i 1),.int IntKind.i64 (plc zs k i 2)]] W67:=fun {x y z} hx hy hz=>by
   refine⟨ib,_,ez,by unfold I64;omega,by omega,by unfold I64;omega,⟨i+1,by push_cast;rfl,by omega,hE67,e2,by rw[hx,hy,hz]⟩,hmu⟩
  refine⟨⟨⟨trivial,fun e9=>?_⟩,fun e9=>?_⟩,fun e9=>?_⟩
  ·have:i=0:=by omega
   exact fin (by rw[ps,if_pos this.symm]) (by rw[ps,if_neg (by omega)]) (by rw[ps,if_neg (by omega)])
  ·have:i=1:=by omega
   exact fin (by rw[ps,if_neg (by omega)]) (by rw[ps,if_pos this.symm]) (by rw[ps,if_neg (by omega)])
  ·have:i=2:=by omega
   exact fin (by rw[ps,if_neg (by omega)]) (by rw[ps,if_neg (by omega)]) (by rw[ps,if_pos this.symm])
 have hie:i=bs.length:=by omega
 subst hie
 have E67:=hE54.trans (hE56.trans hE67)
 refine⟨rcT W67 (stN zs bs.length) k F (fun m=>rfQ zs k m bs.length) q,Jb8 q.length,⟨0,rfl,Nat.zero_le _,Ext.refl _,?_⟩,?_⟩
 ·rw[Int.toNat_natCast]
  exact((g52.ext (hE56.trans hE67)).set hk' (h56.ext hE67)).congr fun a ha=>by
   by_cases e:a=k
   ·rw[if_pos e,if_pos e];rfl
   ·rw[if_neg e,if_neg e]
 rintro l74 i75 W76 ⟨t,rfl,htq,hE76,g74⟩
 have hl74:=g74.1
 have Q76:=h46.ext (E67.trans hE76)
 refine⟨fun hlt3=>?_,fun hge3=>⟨by unfold I64;omega,⟨k+1,by push_cast;rfl,by omega,E67.trans hE76,g74.congr fun a ha=>?_⟩,by show stN zs bs.length-Int.toNat ((k:Int)+1)<stN zs bs.length-Int.toNat (k:Int);omega⟩⟩
 rotate_left
 ·have:t=q.length:=by omega
  subst this
  rw[List.take_length]
  by_cases e:a=k
  ·rw[if_pos e,if_pos (by omega),e]
   exact hcof hk'
  ·rw[if_neg e]
   by_cases e2:a<k
   ·rw[if_pos e2,if_pos (by omega)]
   ·rw[if_neg e2,if_neg (by omega)]
 have htl3:t<q.length:=by omega
 obtain⟨h0,d1,c1,c2,_,_,e3,hr⟩:=Q76.at (List.getElem?_eq_getElem htl3)
 have ibq:=Q76.inB (i:=(t:Int)) (by omega) (by omega)
 have szt:Sz 16017 q[t].2:=bq.sz _ (List.getElem_mem htl3)
 refine⟨ibq,d1,c1,c2,e3,rcV W76 zs bs.length k q[t],cnA bs.length,⟨0,d1,c1,c2,rfl,rfl,Nat.zero_le _,Ext.refl _,fun _=>⟨fun j hj=>absurd hj (Nat.not_lt_zero _),by rw[rfQ,Jg4,Rat.mul_one];exact hr⟩,fun e=>(by cases e)⟩,?_⟩
 rintro b82 s83 s84 b85 i86 W87 ⟨y,b9,s9,u9,rfl,el,hy,hE87,hin,hout⟩
 simp only[List.cons.injEq,Value.bool.injEq,and_true] at el
 obtain⟨rfl,q1,q2⟩:=el
 obtain rfl:=Sl.Ck0 q1
 obtain rfl:=Sl.Ck0 q2
 have hstep:lin (fun m=>rfQ zs k m bs.length) (q.take (t+1))=lin (fun m=>rfQ zs k m bs.length) (q.take t)+q[t].2*rfQ zs k q[t].1 bs.length:=by
  rw[List.take_succ_eq_append_getElem htl3,Gl3]
  show _+(q[t].2*rfQ zs k q[t].1 bs.length+0)=_
  rw[Rat.add_zero]
 have hmuT:q.length-Int.toNat ((t:Int)+1)<q.length-Int.toNat (t:Int):=by omega
 have skip:b85=false→∀{l:List (List Value)},l=l74→I64 ((t:Int)+1)∧stp (rcT W67 (stN zs bs.length) k F (fun m=>rfQ zs k m bs.length) q) (Jb8 q.length) [PL.val (.int IntKind.i64 ((t:Int)+1)),PL.row l] W87 [PL.val (.int IntKind.i64 (t:Int)),PL.row l74] W76:=fun hb85 l el=>by
  subst el
  obtain⟨j,hj,hdj⟩:=hout hb85
  refine⟨by unfold I64;omega,⟨t+1,by push_cast;rfl,by omega,hE76.trans hE87,(g74.ext hE87).congr fun a _=>?_⟩,hmuT⟩
  rw[hstep,Kx4 hj hdj,Rat.mul_zero,Rat.add_zero]
 refine⟨fun hlt4=>⟨fun hb85=>?_,fun hb85=>⟨fun e=>(by rw[hb85] at e;cases e),fun _=>skip hb85 rfl⟩⟩,fun hge4=>⟨fun hb85=>?_,fun hb85=>skip hb85 rfl⟩⟩
 ·have hyl:y<bs.length:=by omega
  have hyz:y<zs.length:=by omega
  obtain⟨hle,hv⟩:=hin hb85
  have Q87:=Q76.ext hE87
  have z87:=z46.ext (E67.trans (hE76.trans hE87))
  have hek:=Dg9 h0 y
  have b0:=h16 _ (List.getElem_mem hyz)
  have htop:=Ih5 hyz b0.1
  have hdg:=Jq8 zs y k
  have htpl:=If0 h16 y
  have eeg:An6 q[t].1 y=((eg q[t].1 y:Nat):Int):=by unfold eg;omega
  have hmu:bs.length-Int.toNat ((y:Int)+1)<bs.length-Int.toNat (y:Int):=by omega
  refine⟨Q87.inB (by omega) (by omega),⟨by omega,by omega⟩,_,Kz6 Q87 (List.getElem?_eq_getElem htl3) (by omega),by unfold I64;omega,⟨by omega,by omega⟩,_,Kz0 (by omega) hyl,fun hle2=>?_,fun hnle=>⟨by unfold I64;omega,⟨y+1,b82,s83,s84,by push_cast;rfl,rfl,by omega,hE87,fun e=>absurd (of_decide_eq_true e) hnle,fun _=>⟨y,hyl,by omega⟩⟩,hmu⟩⟩
  have hle3:eg q[t].1 y≤dig zs y k:=by omega
  have ez:zs[y]=((tpN zs y-1:Nat):Int):=by omega
  refine⟨⟨by omega,by omega⟩,_,Kz0 (by omega) hyl,z87.inB (by omega) (by omega),_,z87.at hyz,?_⟩
  rw[eeg,ez]
  refine Cs3 (by omega) hle3 fun b94 s95 s96 W93 hE93 h93=>⟨b94,s95,s96,rfl,hE93,?_⟩
  refine Cs3 (by omega) (by omega) fun b99 s100 s101 W98 hE98 h98=>⟨b99,s100,s101,rfl,?_⟩
  have z1:Sz 1 ((ch (dig zs y k) (eg q[t].1 y):Nat):Rat):=Ii4 (Iq6 (by omega) _)
  have z2:Sz 1 ((ch (tpN zs y-1) (eg q[t].1 y):Nat):Rat):=Ii4 (Iq6 (by omega) _)
  refine Io3 (h93.ext hE98) h98 z1 z2 (Jl9 (by omega)) (by omega) (by omega) fun b104 s105 s106 W103 hE103 h103=>⟨b104,s105,s106,rfl,?_⟩
  have E103:=hE93.trans (hE98.trans hE103)
  have zv:=(szt.mul (La5 h16 k q[t].1 (n:=y) (by omega)))
  refine Am6 (hv.ext E103) h103 zv (z1.div z2 (by omega)) (by omega) (by omega) fun b109 s110 s111 W108 hE108 h108=>⟨b109,s110,s111,rfl,by unfold I64;omega,⟨y+1,b109,s110,s111,by push_cast;rfl,rfl,by omega,hE87.trans (E103.trans hE108),fun _=>⟨fun j hj=>?_,?_⟩,fun e=>absurd (of_decide_eq_false e) (by omega)⟩,hmu⟩
  ·by_cases e:j=y
   ·rw[e];exact hle3
   ·exact hle j (by omega)
  ·show Ab6 _ _ _ _ _ (q[t].2*(rfQ zs k q[t].1 y*((ch (dig zs y k) (eg q[t].1 y):Rat)/(ch (tpN zs y-1) (eg q[t].1 y):Rat))))
   rw[←Rat.mul_assoc]
   exact h108
 ·have hye:y=bs.length:=by omega
  subst hye
  obtain⟨_,hv⟩:=hin hb85
  obtain⟨b120,s121,s122,_,a120,q120⟩:=g74.own hk'
  have q120:Ab6 231 W76 b120 s121 s122 (lin (fun m=>rfQ zs k m bs.length) (q.take t)):=by
   have:=q120
   rw[if_pos rfl] at this
   exact this
  have zl:=Kz3 h16 k (n:=bs.length) (by omega) bq t
  have zv:=(szt.mul (La5 h16 k q[t].1 (n:=bs.length) (by omega)))
  rw[Int.toNat_natCast]
  refine⟨⟨by omega,by omega⟩,b120,s121,s122,a120,?_⟩
  refine Bj7 (q120.ext hE87) hv zl zv (by omega) (by omega) fun b125 s126 s127 W124 hE124 h124=>⟨b125,s126,s127,rfl,⟨by omega,by omega⟩,by omega,by unfold I64;omega,⟨t+1,by push_cast;rfl,by omega,hE76.trans (hE87.trans hE124),?_⟩,hmuT⟩
  rw[←hstep] at h124
  exact((g74.ext (hE87.trans hE124)).set hk' h124).congr fun a ha=>by
   by_cases e:a=k
   ·rw[if_pos e,if_pos e]
   ·rw[if_neg e,if_neg e,if_neg e]
theorem Ku4 {W0 W:PW} {M:Nat→Prop} {s sb:Sl} {p:List Tm} {bs:List Iv} {K:Value→PW→Prop} (h:Ag1 231 142 W s p) (hb:Fx4 231 W sb bs) (hg:Av6 p) (ho:POk p) (hk: ∀x∈bs,IvS 4 x) (hl:bs.length≤5) (hs: ∀t∈p,Sz 4 t.2) (hp:p.length≤14) (h60:(Fd0 (Fv8 0) 0 p+1)*(Fd0 (Fv8 1) 0 p+1)*(Fd0 (Fv8 2) 0 p+1)≤60) (kont: ∀(s1:Sl) (W':PW),Ext W W'→(Bf7 231 47 W' s1 (if Ii7 p bs then stN (Ie8 p bs.length) bs.length else 0) (Jk3 p bs))→K (.tuple ⟨[Sl.v s1,.bool (decide (Ii7 p bs))]⟩) W'):
  Aa1 Tryz.prog W0 M 24 [s.v,sb.v] W K:=
 Aa2 (fun W' hE=>Kw4 (M:=fun _=>False) (h.ext hE) (hb.ext hE) hg ho hk hl hs hp h60) (fun W' v W'' hE hE' hP=>by
  obtain⟨s1,rfl,h⟩:=hP
  exact kont s1 W'' (hE.trans hE') h)
end Go.Proofs.YtokefihiadbkbaaGreatDoor
/- law10.Is. -/
namespace Go.Proofs.YtokefihiadbkbaaGreatDoor
open Go Go.SX
theorem It5 {W0:PW} {M:Nat→Prop} {s t:Sl} {c k:Nat} {f:Nat→Rat} {x:List Rat} (h:Gv6 231 42 W0 s c f) (h2:Id5 W0 t x) (hx:x.length=c) (he: ∀i,i<c→f i=x.getD i 0) (hz: ∀i,i<c→Sz k (f i)) (hk:k≤100000000) (hc:c≤1000000):
  Aa0 Tryz.prog 26 [s.v,t.v] W0 M fun v W'=>v = .bool true∧True:=by
 apply Io5
 have hn:=h.n
 have hn2:=h2.n
 refine⟨fun hne=>absurd (show((s.n:Nat):Int)=((t.n:Nat):Int) by omega) hne,fun _=>?_⟩
 refine⟨fun L W=>match L with
  | [.val (.int .i64 z)]=>∃j:Nat,z=(j:Int)∧j≤c∧Ext W0 W
  | _=>False,Iv2 c,⟨0,rfl,Nat.zero_le _,Ext.refl _⟩,?_⟩
 rintro i4 W5 ⟨j,rfl,hj,hE5⟩
 refine⟨fun hlt=>?_,fun hge W16 hE16=>⟨rfl,trivial⟩⟩
 have hjc:j<c:=by omega
 obtain⟨s6,b7,s8,e6,g6⟩:=(h.ext hE5).at hjc
 obtain⟨b9,s10,s11,e9,g9⟩:=(h2.ext hE5).at (i:=j) (by omega)
 rw[←he j hjc] at g9
 refine⟨(h.ext hE5).inB (by omega) (by omega),s6,b7,s8,e6,(h2.ext hE5).inB (by omega) (by omega),b9,s10,s11,e9,?_⟩
 exact Bv1 g6 g9 (hz j hjc) (hz j hjc) hk fun W13 hE13 _=>⟨_,rfl,fun e=>by simp at e,fun _=>⟨by unfold I64;omega,⟨j+1,by push_cast;rfl,by omega,hE5.trans hE13⟩,by show c-Int.toNat ((j:Int)+1)<c-Int.toNat (j:Int);omega⟩⟩
theorem If1 {W0 W:PW} {M:Nat→Prop} {s t:Sl} {c k:Nat} {f:Nat→Rat} {x:List Rat} {K:Value→PW→Prop} (h:Gv6 231 42 W s c f) (h2:Id5 W t x) (hx:x.length=c) (he: ∀i,i<c→f i=x.getD i 0) (hz: ∀i,i<c→Sz k (f i)) (hk:k≤100000000) (hc:c≤1000000) (kont: ∀(W':PW),Ext W W'→(True)→K (.bool true) W'):
  Aa1 Tryz.prog W0 M 26 [s.v,t.v] W K:=
 Aa2 (fun W' hE=>It5 (M:=fun _=>False) (h.ext hE) (h2.ext hE) hx he hz hk hc) (fun W' v W'' hE hE' hP=>by
  obtain⟨rfl,h⟩:=hP
  exact kont W'' (hE.trans hE') h)
end Go.Proofs.YtokefihiadbkbaaGreatDoor
/- law6.Raw and law13.Squares. -/
namespace Go.Proofs.YtokefihiadbkbaaGreatDoor
open Go Go.SX
def Gy6 (x:Iv):Prop:=IvS 4000 x∧x.1≤x.2
def r6I (W0:PW) (Lt:List (ByteArray×ByteArray)) (n:Nat) (L:List PL) (W:PW):Prop:=match L with
 | [.row l3,.row l4,.val (.int .i64 i)]=>∃(j:Nat) (m:List Iv),i=(j:Int)∧j≤n∧j≤5∧Ext W0 W∧An5 (SpV 231 W) l3 m∧An5 (Ah6 231 W) l4 m∧m.length≤j∧(∀x∈m,Gy6 x)∧∀x∈m,∃t∈Lt,spP t.1 t.2=some x
 | _=>False
def cn3 (n:Nat) (L:List PL) (_:PW):Nat:=match L with
 | [_,_,.val (.int .i64 i)]=>n-i.toNat
 | _=>0
theorem Hm2 {W0:PW} {M:Nat→Prop} {s:Sl} {L:List (ByteArray×ByteArray)} (h:Bs7 W0 s L) (hl:L.length≤1099511627776) (hz: ∀t∈L,t.1.size≤1099511627776∧t.2.size≤1099511627776):
  Aa0 Tryz.prog 23 [s.v] W0 M fun v W'=>∃(s1:Sl),∃(s2:Sl),∃(bs:List Iv),v = .tuple ⟨[Sl.v s1,Sl.v s2]⟩∧Bc3 231 W' s1 bs∧Fx4 231 W' s2 bs∧(bs.length≤5∧(∀x∈bs,Gy6 x)∧∀x∈bs,∃t∈L,spP t.1 t.2=some x):=by
 apply Hj7
 obtain⟨ty,h⟩:=h
 have hn:s.n=L.length:=by have:=h.1;rw[List.length_map] at this;exact this
 refine⟨r6I W0 L L.length,cn3 L.length,⟨0,[],rfl,Nat.zero_le _,Nat.zero_le _,Ext.refl _,trivial,trivial,Nat.zero_le _,fun x hx=>(by cases hx),fun x hx=>(by cases hx)⟩,?_⟩
 rintro l3 l4 i5 W6 ⟨j,m,rfl,hj,hj5,hE6,a3,a4,hm,hs,hf⟩
 have n3:=a3.len
 have n4:=a4.len
 have fin: ∀{y1 y2:TypeId} (s24:Sl) (W25:PW),Ext W6 W25→SX.Own W25 y1 6 s24 l3→Fr W0 W6 s24→∀(s26:Sl) (W27:PW),Ext W25 W27→SX.Own W27 y2 6 s26 l4→Fr W0 W25 s26→∀(W28:PW),Ext W27 W28→∃(s1 s2:Sl) (bs:List Iv),Value.tuple ⟨[Sl.v s24,Sl.v s26]⟩ = .tuple ⟨[Sl.v s1,Sl.v s2]⟩∧Bc3 231 W28 s1 bs∧Fx4 231 W28 s2 bs∧bs.length≤5∧(∀x∈bs,Gy6 x)∧∀x∈bs,∃t∈L,spP t.1 t.2=some x:=
  fun {y1 y2} s24 W25 hE25 hO25 _ s26 W27 hE27 hO27 _ W28 hE28=>⟨s24,s26,m,rfl,⟨l3,⟨_,hO25.row.ext (hE27.trans hE28)⟩,a3.mono fun _ _ h=>h.ext (hE25.trans (hE27.trans hE28))⟩,⟨l4,⟨_,hO27.row.ext hE28⟩,a4.mono fun _ _ h=>h.ext (hE25.trans (hE27.trans hE28))⟩,by omega,hs,hf⟩
 refine⟨fun hlt=>⟨fun h5=>?_,fun _=>fin⟩,fun _=>fin⟩
 have hjl:j<L.length:=by omega
 have hL:=h.ext hE6
 obtain⟨za,zb⟩:=hz _ (List.getElem_mem hjl)
 have hmu:L.length-Int.toNat ((j:Int)+1)<L.length-Int.toNat (j:Int):=by omega
 refine⟨hL.inB (by omega) (by rw[List.length_map];omega),L[j].1,L[j].2,hL.part (x:=prc L[j]) (by rw[Int.toNat_natCast,List.getElem?_map,List.getElem?_eq_getElem hjl];rfl) 0 rfl,?_⟩
 refine Dd8 za zb fun l l' ok x W10 hE10 ⟨k1,k2,k3,k4⟩=>?_
 have hE:=hE6.trans hE10
 obtain⟨s11,b12,s13,s14,b15,s16,rfl,q1,q2⟩:=k1
 obtain⟨b17,s18,s19,b20,s21,s22,rfl,r1,r2⟩:=k2
 refine⟨s11,b12,s13,s14,b15,s16,b17,s18,s19,b20,s21,s22,ok,rfl,fun hok=>?_,fun hno=>⟨by unfold I64;omega,⟨j+1,m,by push_cast;rfl,by omega,by omega,hE,a3.mono fun _ _ h=>h.ext hE10,a4.mono fun _ _ h=>h.ext hE10,by omega,hs,hf⟩,hmu⟩⟩
 obtain⟨e1,e2,e3⟩:=k3 hok
 obtain⟨p1,p2,p3⟩:=Dp3 e1
 have hx:Gy6 x:=⟨⟨(Aw6 p1).1,(Aw6 p2).1⟩,p3⟩
 refine(fun h=>⟨Fc8 h _,h⟩) ⟨by simp only[List.length_cons,List.length_nil];omega,by simp only[List.length_cons,List.length_nil];omega,by unfold I64;omega,⟨j+1,m ++ [x],by push_cast;rfl,by omega,by omega,hE,(a3.mono fun _ _ h=>h.ext hE10).append ⟨⟨s11,b12,s13,s14,b15,s16,rfl,q1,q2⟩,trivial⟩,(a4.mono fun _ _ h=>h.ext hE10).append ⟨⟨b17,s18,s19,b20,s21,s22,rfl,r1,r2⟩,trivial⟩,by simp only[List.length_append,List.length_cons,List.length_nil];omega,fun y hy=>?_,fun y hy=>?_⟩,hmu⟩
 ·rcases List.mem_append.1 hy with hy | hy
  ·exact hs y hy
  ·rw[List.mem_singleton.1 hy];exact hx
 ·rcases List.mem_append.1 hy with hy | hy
  ·exact hf y hy
  ·rw[List.mem_singleton.1 hy];exact⟨_,List.getElem_mem hjl,e1⟩
theorem Hi0 {W0 W:PW} {M:Nat→Prop} {s:Sl} {L:List (ByteArray×ByteArray)} {K:Value→PW→Prop} (h:Bs7 W s L) (hl:L.length≤1099511627776) (hz: ∀t∈L,t.1.size≤1099511627776∧t.2.size≤1099511627776) (kont: ∀(s1:Sl) (s2:Sl) (bs:List Iv) (W':PW),Ext W W'→(Bc3 231 W' s1 bs∧Fx4 231 W' s2 bs∧(bs.length≤5∧(∀x∈bs,Gy6 x)∧∀x∈bs,∃t∈L,spP t.1 t.2=some x))→K (.tuple ⟨[Sl.v s1,Sl.v s2]⟩) W'):
  Aa1 Tryz.prog W0 M 23 [s.v] W K:=
 Aa2 (fun W' hE=>Hm2 (M:=fun _=>False) (h.ext hE) hl hz) (fun W' v W'' hE hE' hP=>by
  obtain⟨s1,s2,bs,rfl,h⟩:=hP
  exact kont s1 s2 bs W'' (hE.trans hE') h)
end Go.Proofs.YtokefihiadbkbaaGreatDoor
/- cincturelaw10.BernTells. -/
namespace Go.Proofs.YtokefihiadbkbaaGreatDoor
open Go Go.SX
theorem Lb8 {L:List (Mon×ByteArray)} {exp:Int} {p:List Tm} (h:Ff1 L exp p): ∀t∈p,Sz 4 t.2:=fun t ht=>by
 obtain⟨x,hx,_,hq,_⟩:=Fa5 h.1.1 ht
 exact Ct3 hq (h.2.2 x hx).1
theorem Kz1 (F:Nat→Rat) (n:Nat):Ir0 F (n+1)=Ir0 F n ++ [F n]:=by unfold Ir0;rw[List.range_succ,List.map_append];rfl
theorem Ku9 (a:Rat):Az9 a a=a∧Au7 a a=a:=by
 constructor
 ·rcases Dj0 a a with e | e<;>exact e
 ·rcases Dj7 a a with e | e<;>exact e
theorem Kv6 (F:Nat→Rat): ∀n,Af9 (Ir0 F (n+1))=Jo0 F (n+1)
 | 0=>by
  have e:Ir0 F (0+1) = [F 0]:=rfl
  rw[e]
  show(F 0,F 0)=(Az9 (F 0) (F 0),Au7 (F 0) (F 0))
  rw[(Ku9 _).1,(Ku9 _).2]
 | n+1=>by
  have hne:Ir0 F (n+1)≠[]:=fun e=>by
   have:=congrArg List.length e
   rw[Is8,List.length_nil] at this
   omega
  rw[Kz1,Du9 hne,Kv6 F n]
  rfl
theorem Kv2 {W0:PW} {M:Nat→Prop} {s sb:Sl} {L:List (Mon×ByteArray)} {Lt:List (ByteArray×ByteArray)} (hT:Ac6 W0) (h:Af3 W0 s L) (hb:Bs7 W0 sb Lt) (hl:L.length≤1099511627776) (hz: ∀t∈L,t.2.size≤1099511627776) (hl2:Lt.length≤1099511627776) (hz2: ∀t∈Lt,t.1.size≤1099511627776∧t.2.size≤1099511627776):
  Aa0 Tryz.prog 4 [s.v,sb.v] W0 M fun v W'=>v = .bool true∧True:=by
 apply Ks3
 have alv: ∀{W:PW},Ac6 W→Aa1 Tryz.prog W0 M 13 [] W fun v11 W12=>∃b13:Bool,v11 = .bool b13∧∀(W14:PW),Ext W12 W14→Value.bool b13 = .bool true∧True:=fun hT=>Ii9 hT fun W12 _ _=>⟨true,rfl,fun W14 _=>⟨rfl,trivial⟩⟩
 refine Dn6 h hl hz fun s3 s4 b5 W2 hE2 hp=>⟨s3,s4,b5,rfl,fun _=>alv (hT.ext hE2),fun h5=>Ii9 (hT.ext hE2) fun W11 hE11 _=>⟨true,rfl,fun e=>(by cases e),fun _=>?_⟩⟩
 obtain⟨p,op,q1,r1⟩:=hp (by simpa using h5)
 have E11:=hE2.trans hE11
 refine Fy8 (hb.ext E11) hl2 fun b19 W18 hE18 h30=>⟨b19,rfl,fun _=>alv (hT.ext (E11.trans hE18)),fun hb19=>?_⟩
 have h30:=h30 (by simpa using hb19)
 have q1:=q1.ext (hE11.trans hE18)
 have r1:=r1.ext (hE11.trans hE18)
 have T18:=hT.ext (E11.trans hE18)
 have hlen:=op.len
 have ho:=q1.ok
 have hg:=op.1.Aq3
 have pe:=op.exp ho
 have tp:=fun i=>Jn5 pe (by omega) i
 have t0:=tp 0
 have t1:=tp 1
 have t2:=tp 2
 have ti:=Jn1 ⟨t0.1,by omega⟩ ⟨t1.1,by omega⟩ ⟨t2.1,by omega⟩
 refine Jg6 r1 (by omega) fun W25 hE25 _=>⟨_,rfl,by unfold I64;omega,?_⟩
 refine Jg6 (r1.ext hE25) (by omega) fun W28 hE28 _=>⟨_,rfl,by unfold I64;omega,ti.1,?_⟩
 refine Jg6 (r1.ext (hE25.trans hE28)) (by omega) fun W31 hE31 _=>⟨_,rfl,by unfold I64;omega,ti.2,fun _=>alv (T18.ext (hE25.trans (hE28.trans hE31))),fun h60=>?_⟩
 have E31:=hE25.trans (hE28.trans hE31)
 refine Hi0 (hb.ext (E11.trans (hE18.trans E31))) hl2 hz2 fun s39 s40 bs W38 hE38 ⟨x1,y1,hbl,hsm,hfrom⟩=>⟨s39,s40,rfl,?_⟩
 have hk: ∀x∈bs,IvS 4 x:=fun x hx=>by
  obtain⟨t,ht,e⟩:=hfrom x hx
  obtain⟨e1,e2,_⟩:=Dp3 e
  exact⟨Ct3 e1 (h30 t ht).1,Ct3 e2 (h30 t ht).2⟩
 have E38:=E31.trans hE38
 have hzz:BxN 56029 4 p bs:=Jr1 op ho hk hbl
 refine Ik5 (q1.ext E38) x1 hzz (by omega) fun s43 W42 hE42 h42=>⟨s43,_,rfl,?_⟩
 refine Ku4 (r1.ext (E38.trans hE42)) (y1.ext hE42) hg ho hk hbl (Lb8 op) hlen (by omega) fun s47 W46 hE46 h46=>⟨s47,_,rfl,?_⟩
 have E46:=hE42.trans hE46
 refine Jh8 (q1.ext (E38.trans E46)) (x1.ext E46) hzz (by omega) fun l W50 hE50 h50=>h50.Ge9 fun s51 b52 s53 s54 b55 s56 h50=>?_
 refine⟨fun e=>absurd rfl e,fun _=>⟨fun e=>absurd rfl e,fun _=>?_⟩⟩
 have zc: ∀i,i<(if Ii7 p bs then stN (Ie8 p bs.length) bs.length else 0)→Sz 1256029 (Jk3 p bs i):=fun i hi=>by
  by_cases ok:Ii7 p bs
  ·rw[if_pos ok] at hi
   exact(Jj3 hzz ok hi).mono (by omega)
  ·rw[if_neg ok] at hi
   exact absurd hi (Nat.not_lt_zero _)
 have few:(if Ii7 p bs then stN (Ie8 p bs.length) bs.length else 0)≤4913:=by
  split
  ·rename_i ok;exact Jm7 ok
  ·omega
 obtain⟨xs,hr,hq⟩:=h46.ext hE50
 refine If1 (h42.ext (hE46.trans hE50)) (Il3 hr hq) (Is8 _ _) (fun i hi=>(Iw2 hi).symm) zc (by omega) (by omega) fun W61 hE61 _=>⟨true,rfl,fun e=>(by cases e),fun _=>?_⟩
 by_cases ok:Ii7 p bs
 ·rw[decide_eq_true ok]
  rw[if_pos ok] at h46 h50 zc few
  refine⟨fun e=>(by cases e),fun _=>?_⟩
  have hN:=Jk0 p bs
  obtain⟨N,eN⟩: ∃N,stN (Ie8 p bs.length) bs.length=N+1:=⟨stN (Ie8 p bs.length) bs.length-1,by omega⟩
  rw[eN] at h46 h50 zc few
  have hlq:Bf7 231 47 W61 s47 (Ir0 (Jk3 p bs) (N+1)).length (Cc4 (Ir0 (Jk3 p bs) (N+1))):=by
   rw[Is8]
   obtain⟨xs,hr,hq⟩:=h46.ext (hE50.trans hE61)
   exact⟨xs,hr,hq.congr fun i hi=>(Iw2 hi).symm⟩
  have hzl: ∀x∈Ir0 (Jk3 p bs) (N+1),Sz 1256029 x:=fun x hx=>by
   obtain⟨i,hi,rfl⟩:=List.mem_map.1 hx
   exact zc i (List.mem_range.1 hi)
  refine At0 hlq hzl (fun e=>by have:=congrArg List.length e;rw[Is8,List.length_nil] at this;omega) (by omega) (by rw[Is8];omega) fun l W69 hE69 h69=>h69.out fun b70 s71 s72 b73 s74 s75 h69=>?_
  rw[Kv6] at h69
  have zr:=Jl2 (F:=Jk3 p bs) (K:=1256029) (zc 0 (by omega)) (N+1) zc
  exact Bt3 (h50.ext (hE61.trans hE69)) h69 zr (by omega) fun W77 hE77 _=>⟨true,rfl,fun W79 _=>⟨rfl,trivial⟩⟩
 ·rw[decide_eq_false ok]
  rw[if_neg ok] at h50
  refine⟨fun _=>?_,fun e=>(by cases e)⟩
  exact Bt3 (x:=(0,0)) (k:=1) (h50.ext hE61) (Ah6.mk (s:=⟨none,0,0⟩) (t:=⟨none,0,0⟩) (s':=⟨none,0,0⟩) (t':=⟨none,0,0⟩) (Dv5 W61) (Dv5 W61)) ⟨Sz.zero (Nat.le_refl 1),Sz.zero (Nat.le_refl 1)⟩ (by omega) fun W65 hE65 _=>⟨true,rfl,fun W67 _=>⟨rfl,trivial⟩⟩
end Go.Proofs.YtokefihiadbkbaaGreatDoor
/- An argument that is a slice of terms with texts, opened. -/
namespace Go.Proofs.YtokefihiadbkbaaGreatDoor
open Go Go.SX Go.ChangeShapes Go.WideShapes Go.ChangeAt Go.RowKit Go.Deep
instance:Inhabited (Mon×ByteArray):=⟨(⟨0,0,0⟩,⟨#[]⟩)⟩
theorem Cd6:Tryz.prog.cellsOf 191=4:=by kernel_rfl
theorem Dv1:Tryz.prog.cellsOf 136=3:=by kernel_rfl
theorem Ew8:Tryz.prog.cellsOf 5=1:=by kernel_rfl
theorem Fg4 {n:Int} (h:(Lit.int .u8 n).wf=true):0≤n∧n≤255:=by
 simp[Lit.wf,IntKind.min,IntKind.max,IntKind.bits,IntKind.signed] at h
 omega
theorem Er8 {H:Type} {enc:TypeId×Value→H} {W:World} {fuel:Nat} {cs:List Value} {x:DataW H×List MemPlace} (h:DataW.trod enc Tryz.prog W 0 (fun _=>true) true fuel 191 cs=some x):
  ∃t:Mon×ByteArray,AT cs t∧t.2.size≤Rows.uptoBulk x.1:=by
 obtain⟨xs,k,rfl,rfl,hl,hxl,hf⟩:=DataW.trod_struct Tryz.underlying191 h
 rw[Cd6] at hl
 have g0:DataW.trod enc Tryz.prog W 0 (fun _=>true) true k 136 ((cs.drop 0).take (Tryz.prog.cellsOf 136))=xs[0]?:=hf 0 _ rfl
 have g1:DataW.trod enc Tryz.prog W 0 (fun _=>true) true k 9 ((cs.drop 3).take (Tryz.prog.cellsOf 9))=xs[1]?:=hf 1 _ rfl
 rw[Dv1] at g0
 rw[Ct5] at g1
 match cs,hl,xs,hxl with
 | [v0,v1,v2,v3],_,[y0,y1],_=>
  have g0:DataW.trod enc Tryz.prog W 0 (fun _=>true) true k 136 [v0,v1,v2]=some y0:=g0
  have g1:DataW.trod enc Tryz.prog W 0 (fun _=>true) true k 9 [v3]=some y1:=g1
  obtain⟨zs,m,rfl,rfl,_,hzl,hz⟩:=DataW.trod_array Tryz.underlying136 g0
  obtain⟨s,hs,rfl,hsz⟩:=DataW.trod_string Tryz.underlying9 g1
  have e0:=hz 0 (by omega)
  have e1:=hz 1 (by omega)
  have e2:=hz 2 (by omega)
  rw[Ew8] at e0 e1 e2
  match zs,hzl with
  | [w0,w1,w2],_=>
   have e0:DataW.trod enc Tryz.prog W 0 (fun _=>true) true m 5 [v0]=some w0:=e0
   have e1:DataW.trod enc Tryz.prog W 0 (fun _=>true) true m 5 [v1]=some w1:=e1
   have e2:DataW.trod enc Tryz.prog W 0 (fun _=>true) true m 5 [v2]=some w2:=e2
   obtain⟨n0,h0,_,k0⟩:=DataW.trod_int Tryz.underlying5 e0
   obtain⟨n1,h1,_,k1⟩:=DataW.trod_int Tryz.underlying5 e1
   obtain⟨n2,h2,_,k2⟩:=DataW.trod_int Tryz.underlying5 e2
   have hs: [v3] = [Value.string s]:=hs
   have h0: [v0] = [Value.int .u8 n0]:=h0
   have h1: [v1] = [Value.int .u8 n1]:=h1
   have h2: [v2] = [Value.int .u8 n2]:=h2
   simp only[List.cons.injEq,and_true] at hs h0 h1 h2
   subst hs h0 h1 h2
   refine⟨(⟨n0,n1,n2⟩,s),⟨⟨Fg4 k0,Fg4 k1,Fg4 k2⟩,rfl⟩,?_⟩
   have e:s.data.toList.length=s.size:=by rw[Array.length_toList];rfl
   simp only[List.map_cons,List.map_nil,Rows.uptoBulk,Rows.uptoBulkAll]
   omega
theorem Et3 {n:Nat} {V:Nat→List Value} {y:Nat→Mon×ByteArray} (h: ∀i,i<n→AT (V i) (y i)):An5 AT ((List.range n).map V) ((List.range n).map y):=by
 induction n with
 | zero=>trivial
 | succ n ih=>
  rw[List.range_succ,List.map_append,List.map_append]
  exact(ih fun i hi=>h i (by omega)).append ⟨h n (by omega),trivial⟩
theorem Dt5 {H:Type} {enc:TypeId×Value→H} {W:World} {fuel:Nat} {v:Value} {d:DataW H} {p:List MemPlace} (h:DataW.trod enc Tryz.prog W 0 (fun _=>true) true fuel 22 [v]=some (d,p)):
  ∃(s:Sl) (L:List (Mon×ByteArray)),v=s.v∧Af3 ⟨W,fun _=>False⟩ s L∧L.length≤Rows.uptoBulk d∧∀t∈L,t.2.size≤Rows.uptoBulk d:=by
 rcases open_slice Tryz.underlying22 h with⟨hcs,hx⟩ | ⟨a,len,cap,m,n,D,Pl,hcs,_,hl,hm,hmm,hx,hcell⟩
 ·have hv:v = .slice none 0 0:=by simpa using hcs
  subst hv
  exact⟨⟨none,0,0⟩,[],rfl,⟨[],⟨0,rfl,Nat.le_refl _,Nat.zero_le _,fun x h=>by simp at h,.inl rfl⟩,trivial⟩,Nat.zero_le _,fun l h=>by simp at h⟩
 ·have hv:v = .slice (some a) len cap:=by simpa using hcs
  subst hv
  simp only[if_true] at hmm
  subst hmm
  simp only[Prod.mk.injEq] at hx
  obtain⟨rfl,_⟩:=hx
  rw[Cd6] at hcell
  obtain⟨q,hq⟩: ∃q:Nat→List Value×(Mon×ByteArray),∀i,i<m→W.cells? 0 (a.add (i*4)) 4=some (q i).1∧AT (q i).1 (q i).2∧(q i).2.2.size≤Rows.uptoBulk (D i):=choose_lt (α:=List Value×(Mon×ByteArray)) (p:=fun i q=>W.cells? 0 (a.add (i*4)) 4=some q.1∧AT q.1 q.2∧q.2.2.size≤Rows.uptoBulk (D i)) fun i hi=>by
   obtain⟨cs',h1,h2⟩:=hcell i hi
   obtain⟨t,h3,h4⟩:=Er8 h2
   exact⟨(cs',t),h1,h3,h4⟩
  have hr:=Bz7 (W:=W) (a:=a) (n:=len) (c:=m) (sz:=4) (V:=fun i=>(q i).1) (fun j hj i v hv=>by
   obtain⟨_,hlen,hc⟩:=World.cells?_some (hq j (by omega)).1
   have hi:i<4:=by have:=(List.getElem?_eq_some_iff.1 hv).1;omega
   have:=hc i hi
   rw[add_add] at this
   rw[this];exact hv) (fun j hj=>(World.cells?_some (hq j (by omega)).1).2.1) (by omega) hl hm (fun j hj u hu=>by
   rw[(hq j (by omega)).2.1.2] at hu
   simp only[List.mem_cons,List.not_mem_nil,or_false] at hu
   rcases hu with rfl | rfl | rfl | rfl<;>rfl)
  have hbulk: ∀i,i<len→Rows.uptoBulk (D i)≤Rows.uptoBulkAll ((List.range len).map D):=fun i hi=>Eo6 (List.mem_map.2 ⟨i,List.mem_range.2 hi,rfl⟩)
  have hlen:=Dj1 ((List.range len).map D)
  simp only[List.length_map,List.length_range] at hlen
  refine⟨⟨some a,len,m⟩,(List.range len).map fun i=>(q i).2,rfl,⟨_,hr,Et3 fun i hi=>(hq i (by omega)).2.1⟩,?_,fun t ht=>?_⟩
  ·simp only[List.length_map,List.length_range,Rows.uptoBulk]
   omega
  ·obtain⟨j,hj,rfl⟩:=List.mem_map.1 ht
   have hj':=List.mem_range.1 hj
   have h1:=hbulk j hj'
   have h2:=(hq j (by omega)).2.2
   simp only[Rows.uptoBulk]
   omega
end Go.Proofs.YtokefihiadbkbaaGreatDoor
/- cincturelaw10.BernTells answers true for every input whose bulk is at most 1048576 (the second form), and its arguments read behind the call as they did ahead of it. -/
namespace Go.Proofs.YtokefihiadbkbaaGreatDoor
open Go Go.SX Go.ChangeShapes Go.WideShapes Go.ChangeAt Go.RowKit Go.Deep
theorem Fs9:Tryz.prog.globalNamed "math/bits.deBruijn32tab" = some 1:=by kernel_rfl
theorem Ew9:(Tryz.prog.globals[1]?).map (·.type)=some 301:=by kernel_rfl
theorem Ev1:Tryz.prog.cellsOf 301=32:=by kernel_rfl
theorem Fh1:Tryz.prog.cellsOf 5=1:=by kernel_rfl
theorem Fr5 {W:World} (h:laidMetH Tryz.prog Rows.bernTellsUptoRow.laid W):Ac6 ⟨W,fun _=>False⟩:=by
 have ht:Go.Lib.TabIs Tryz.prog W "math/bits.deBruijn32tab" .u8 (Go.Lib.deBruijn32tab.map fun n:Nat=>(n:Int)):=Go.Lib.tabIs_of_head (rest:=[]) Fs9 Ew9 Tryz.underlying301 Tryz.underlying5 Fh1 Ev1 h
 have hc: ∀j,j<32→W.cell? ⟨1,j,none⟩=some (.int .u8 ((Go.Lib.deBruijn32tab.getD j 0:Nat):Int)):=fun j hj=>by
  rw[ht.cell Fs9 j (by simpa[Go.Lib.deBruijn32tab] using hj)]
  have hall: ∀j,j<32→(Go.Lib.deBruijn32tab.map fun n:Nat=>(n:Int)).getD j 0=((Go.Lib.deBruijn32tab.getD j 0:Nat):Int):=by decide
  rw[hall j hj]
 refine⟨hc,?_,fun h=>h⟩
 have:=hc 0 (by omega)
 unfold World.cell? at this
 split at this
 ·rename_i e
  exact(Array.getElem?_eq_some_iff.1 e).1
 ·cases this
theorem Fa3 (H:Type) (enc:TypeId×Value→H) (W:World) (base:Nat) (args:Array Value) (ds gs:List (DataW H)) (before:List MemPlace)
  (hval: ∀(j:Nat) t v,Tryz.f4.params[j]?=some t→args[j]?=some v→Value.okWide Tryz.prog W .any base t v)
  (hW:DataW.Whole enc Tryz.prog Tryz.f4.params.toList Rows.bernTellsSpec.vars false W args.toList ds gs before) (hk:Rows.uptoSmall H (ds ++ gs)=true) (hL:laidMetH Tryz.prog Rows.bernTellsUptoRow.laid W):
  Calls Tryz.prog 4 args W fun e W'=>∃v,e = .returned v∧Rows.bernTellsSpec.post enc Tryz.prog Tryz.f4 false true false false W args v W':=by
 have hW':=hW
 obtain⟨p,q,hA0,hV,rfl,hfz,hnd⟩:=hW
 have hA:DataW.TrodAll enc Tryz.prog W 0 (fun _=>true) true Tryz.f4.params.toList args.toList ds p:=hA0
 rw[Tryz.params4] at hA hval
 obtain⟨v0,vs0,d0,ds0,p0,q0,hargs,rfl,rfl,h0,r0⟩:=trodAll_cons hA
 obtain⟨v1,vs1,d1,ds1,p1,q1,rfl,rfl,rfl,h1,r1⟩:=trodAll_cons r0
 obtain⟨rfl,rfl,rfl⟩:=trodAll_nil r1
 obtain rfl:args = #[v0,v1]:=by cases args;simp_all
 obtain⟨rfl,rfl⟩:=trodVars_none hV
 obtain⟨a0,n0,c0,rfl⟩:=okWide_slice Tryz.underlying22 (hval 0 22 v0 rfl rfl)
 obtain⟨a1,n1,c1,rfl⟩:=okWide_slice Tryz.underlying23 (hval 1 23 v1 rfl rfl)
 clear hA0
 simp only[List.append_nil] at hW' hk
 have hlt: ∀x∈p0 ++ p1,x.block<W.heap.size:=fun x hx=>by simpa using hW'.lt x (by simpa using hx)
 have hbulk:Rows.uptoBulkAll [d0,d1]≤1048576:=of_decide_eq_true hk
 simp only[Rows.uptoBulkAll] at hbulk
 have h0k:=h0
 obtain⟨fuel0,hf0⟩:=h0
 have hf0':DataW.trod enc Tryz.prog W 0 (fun _=>true) true fuel0 22 [.slice a0 n0 c0]=some (d0,p0):=by simpa[Value.cells] using hf0
 obtain⟨s0,L0,hs0,hL0,hb0,hc0⟩:=Dt5 hf0'
 have h1k:=h1
 obtain⟨fuel1,hf1⟩:=h1
 have hf1':DataW.trod enc Tryz.prog W 0 (fun _=>true) true fuel1 23 [.slice a1 n1 c1]=some (d1,p1):=by simpa[Value.cells] using hf1
 obtain⟨s1,L1,hs1,hL1,hb1,hc1⟩:=Gc9 hf1'
 have hc:=Kv2 (M:=fun _=>False) (Fr5 hL) hL0 hL1 (by omega) (fun t ht=>by have:=hc0 t ht;omega) (by omega) (fun t ht=>by have:=hc1 t ht;omega)
 have hcall:=hc.2 (fun b h=>h.elim)
 rw[hs0,hs1]
 refine hcall.mono fun e W' ⟨v,he,hkeep,hv,_⟩=>⟨v,he,?_⟩
 subst hv
 have hbel:=hkeep.below
 refine⟨[d0,d1],[],_,[],p0 ++ p1,[],(by rw[←hs0,←hs1];simpa using hW'),trodAll_mk1 (shut_bool Tryz.underlying4 _),(by rw[←hs0,←hs1];exact trodAll_mk2 (Below.trod laidOut (by kernel_rfl) (of_decide_eq_true (by kernel_rfl)) h0k hbel fun x hx=>hlt x (by simp[hx])) (Below.trod laidOut (by kernel_rfl) (of_decide_eq_true (by kernel_rfl)) h1k hbel fun x hx=>hlt x (by simp[hx]))),rfl,hbel.frame _,fun h=>by cases h⟩
noncomputable def Bu8 (os:Os):World:=
 {World.holding Tryz.prog os ⟨#[],#[],[]⟩ with heap:=(World.holding Tryz.prog os ⟨#[],#[],[]⟩).heap.modify 1 fun
   | .cells _ t frozen=>.cells #[.int .u8 0,.int .u8 1,.int .u8 28,.int .u8 2,.int .u8 29,.int .u8 14,.int .u8 24,.int .u8 3,.int .u8 30,.int .u8 22,.int .u8 20,.int .u8 15,.int .u8 25,.int .u8 17,.int .u8 4,.int .u8 8,.int .u8 31,.int .u8 27,.int .u8 13,.int .u8 23,.int .u8 21,.int .u8 19,.int .u8 16,.int .u8 7,.int .u8 26,.int .u8 12,.int .u8 18,.int .u8 6,.int .u8 11,.int .u8 5,.int .u8 10,.int .u8 9] t frozen
   | o=>o }
theorem Fa2 (os:Os):laidMet Tryz.prog Rows.bernTellsUptoRow.laid ((Bu8 os).forCall (fun _ _=>0) ⟨#[],#[.slice none 0 0,.slice none 0 0],[]⟩).memory:=
 laidMet_of_run' 8 (by kernel_rfl) (by kernel_rfl)
theorem reads (os:Os) {H:Type} (enc:TypeId×Value→H): ∃places,DataW.whole enc Tryz.prog ((Bu8 os).forCall (fun _ _=>0) ⟨#[],#[.slice none 0 0,.slice none 0 0],[]⟩).memory Tryz.f4.params.toList Rows.bernTellsSpec.vars false (#[.slice none 0 0,.slice none 0 0]:Array Value).toList 8=some ([.nil,.nil],[],places):=
 ⟨[],by kernel_rfl⟩
theorem lifted (os:Os) (started:os.Started) (H:Type) (enc:TypeId×Value→H) (F:Stop.Interp):
  ReturnsInHanded {} Tryz.checked os 4 .any ((Rows.OpenSpec.upto Rows.bernTellsSpec).preRow enc Tryz.prog Tryz.f4 Rows.bernTellsUptoRow.domain false Rows.bernTellsUptoRow.laid) (((Rows.OpenSpec.upto Rows.bernTellsSpec).at F).post enc Tryz.prog Tryz.f4 false true false false):=by
 obtain⟨places,hx⟩:=reads os enc
 refine returnsInHanded_of_row (C:=Tryz.checked) (s:=Rows.OpenSpec.upto Rows.bernTellsSpec) Cp9 started (by kernel_rfl) Tryz.func4
  (witness_row_at (enc:=enc) (C:=Tryz.checked) false (Bu8 os) #[.slice none 0 0,.slice none 0 0] rfl (by kernel_rfl) (by kernel_rfl) (by kernel_rfl)
   (OpenSpec.preRow_of_cond 8 hx (by kernel_rfl) (fun k hk=>by cases hk;kernel_rfl) (by kernel_rfl) (Fa2 os))) ?_
 intro W base args ds gs before hval hW _ hcond _ hL _ _
 exact Fa3 H enc W base args ds gs before hval hW (hcond _ rfl) hL
theorem Fj9:Fc7 Tryz.checked.prog 4 Tryz.f4 (Rows.OpenSpec.upto Rows.bernTellsSpec).bare Rows.bernTellsUptoRow=true:=by kernel_rfl
theorem Fl9:Fd9 Tryz.checked.prog 4 Tryz.f4 (Rows.OpenSpec.upto Rows.bernTellsSpec).bare Rows.bernTellsUptoRow=true:=by kernel_rfl
theorem Fl2:Fe1 Tryz.checked.prog 4 Tryz.f4 (Rows.OpenSpec.upto Rows.bernTellsSpec).bare Rows.bernTellsUptoRow=true:=by kernel_rfl
theorem Fn7:Fd2 Tryz.checked.prog 4 Tryz.f4 (Rows.OpenSpec.upto Rows.bernTellsSpec).bare Rows.bernTellsUptoRow=true:=by kernel_rfl
theorem Fj6:Fd4 Tryz.checked.prog 4 Tryz.f4 (Rows.OpenSpec.upto Rows.bernTellsSpec).bare Rows.bernTellsUptoRow=true:=by kernel_rfl
theorem Et8:Rows.BernTellsUptoSaid:=
 OpenClaim.holds_of_cond 4 Tryz.f4 rfl rfl rfl rfl rfl rfl rfl ⟨rfl,rfl,rfl,rfl,rfl⟩ rfl rfl rfl rfl rfl (by kernel_rfl) Tryz.func4 (Eo7 Fj9 Fl9 Fl2 Fn7 Fj6)
  (of_decide_eq_true (by kernel_rfl)) (by unfold Func.isWrapper;first | (rw[if_pos (by decide +kernel)];kernel_rfl) | (rw[if_neg (by decide +kernel)];exact⟨rfl,rfl⟩))
  (fun os started H enc _ F=>by rw[OpenClaim.pre_eq_preRow];exact lifted os started H enc F)
theorem plain (f:FuncId) (fn:Func) (hf:Tryz.pinned.checked.prog.funcNamed "cincture/cincturelaw10.BernTells" = some f) (hfn:Tryz.pinned.checked.prog.funcs[f]?=some fn):
  false=Tryz.pinned.checked.prog.looks []∧∀(j:Nat) t,fn.params[j]?=some t→Tryz.pinned.checked.prog.wantsStandIn t=false:=by
 obtain rfl:f=4:=Option.some.inj ((show Tryz.prog.funcNamed "cincture/cincturelaw10.BernTells" = some 4 by kernel_rfl).symm.trans hf) |>.symm
 obtain rfl:fn=Tryz.f4:=(Option.some.inj (Tryz.func4.symm.trans hfn)).symm
 refine⟨by kernel_rfl,fun j t ht=>?_⟩
 rw[Tryz.params4] at ht
 have hm:t∈[22,23]:=by simpa using Array.mem_of_getElem? ht
 have hall:([22,23].all fun u=>!Tryz.prog.wantsStandIn u)=true:=by kernel_rfl
 exact(show Tryz.prog.wantsStandIn t=false by simpa using List.all_eq_true.1 hall t hm)
theorem bernTells_card:Rows.BernTellsUptoCardSaid:=
 Claim7.holds_tied_plain_at .later [] _ _ _ _ Et8 (fun _ h=>by cases h) (by kernel_rfl) (fun _ h=>by cases h) bernTellsUpto_row_tie rfl ⟨rfl,rfl⟩ (by kernel_rfl) rfl plain (by kernel_rfl)
#print axioms bernTells_card
end Go.Proofs.YtokefihiadbkbaaGreatDoor
