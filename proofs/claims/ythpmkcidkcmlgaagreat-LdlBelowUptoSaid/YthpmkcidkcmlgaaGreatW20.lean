/- ldl.Of. -/
import Derived.Test.YthpmkcidkcmlgaaGreatW15
import Derived.Test.YthpmkcidkcmlgaaGreatR5
import Derived.Test.YthpmkcidkcmlgaaGreatLib2
import Derived.Test.YthpmkcidkcmlgaaGreatR9
import Derived.Test.YthpmkcidkcmlgaaGreatW18
set_option linter.unusedVariables false
set_option linter.unusedSimpArgs false
set_option maxRecDepth 100000
set_option linter.unusedVariables false
set_option linter.unusedSimpArgs false
namespace Go.Proofs.YthpmkcidkcmlgaaGreat
open Go Go.SX
def ofI (κ:Nat) (m:Nat→Nat→Rat) (W0:PW) (r:Nat) (s7 s8:Sl) (l:List PL) (W:PW):Prop:=
 match l with
 | [.val (.int .i64 i)]=>∃(k:Nat) (L:Nat→Nat→Rat) (D:Nat→Rat) (xs:List (List Value)),i=(k:Int)∧k≤r∧ExtN W0.w.heap.size W0 W∧
   OMat 317 51 100 (fun g=>W0.w.heap.size≤g∧¬s8.v.ownBlock=some g) W s7 r r L∧Go.SX.Own W 51 3 s8 xs∧Qs 317 W xs r D∧Outer m L D r k∧SzO κ L D r k
 | _=>False
def ofI2 (κ:Nat) (m:Nat→Nat→Rat) (W0:PW) (r k:Nat) (s7 s8:Sl) (l:List PL) (W:PW):Prop:=
 match l with
 | [.val (.int .i64 i)]=>∃(j:Nat) (L:Nat→Nat→Rat) (D:Nat→Rat) (xs:List (List Value)),i=(j:Int)∧k<j∧j≤r∧ExtN W0.w.heap.size W0 W∧
   OMat 317 51 100 (fun g=>W0.w.heap.size≤g∧¬s8.v.ownBlock=some g) W s7 r r L∧Go.SX.Own W 51 3 s8 xs∧Qs 317 W xs r D∧Inner m L D r k j∧SzI κ L D r k j
 | _=>False
def ofM (r:Nat) (l:List PL) (W:PW):Nat:=
 match l with
 | [.val (.int .i64 i)]=>r-i.toNat
 | _=>0
def NoParts (r:Nat) (c:Nat→Nat) (m:Nat→Nat→Rat):Prop:=¬SymP r c m∨∃(L:Nat→Nat→Rat) (D:Nat→Rat) (k j:Nat),Parts m L D r k∧D k=leftF m L D k k∧D k=0∧k<j∧j<r∧leftF m L D j k≠0
theorem ldlOf_ok {W0:PW} {M:Nat→Prop} {s:Sl} {r κ:Nat} {c:Nat→Nat} {m:Nat→Nat→Rat} (h:IsMat 317 51 100 W0 s r c m) (hr:r≤5) (hz: ∀i j,i<r→j<c i→Sz κ (m i j)) (hK:1≤κ) (hK2:κ≤100000000) (hU: ∀k,k≤r→Ub κ k≤100000000∧Sk κ k≤1000000000):
  PCallsM Go.Proofs.Tryz.prog 37 [s.v] W0 M fun v W'=>∃(u:Sl),∃(d:Sl),∃(b:Bool),v = .tuple #[Sl.v u,Sl.v d,.bool b]∧(b=false→u=⟨none,0,0⟩∧d=⟨none,0,0⟩∧NoParts r c m)∧(b=true→SymP r c m∧∃(L:Nat→Nat→Rat) (D:Nat→Rat),IsMat 317 51 100 W' u r (fun _=>r) L∧IsQs 317 51 W' d r D∧Parts m L D r r∧SzO κ L D r r):=by
 apply callldl_Of
 have hsn:=h.n
 have hnn:NewFrom W0.w.heap.size W0:=Nat.le_refl _
 have bad:NoParts r c m→∀W':PW,∃(u d:Sl) (b:Bool),(Value.tuple #[.slice none 0 0,.slice none 0 0,.bool false]) = .tuple #[Sl.v u,Sl.v d,.bool b]∧(b=false→u=⟨none,0,0⟩∧d=⟨none,0,0⟩∧NoParts r c m)∧(b=true→SymP r c m∧∃(L:Nat→Nat→Rat) (D:Nat→Rat),IsMat 317 51 100 W' u r (fun _=>r) L∧IsQs 317 51 W' d r D∧Parts m L D r r∧SzO κ L D r r):=
  fun hN W'=>⟨⟨none,0,0⟩,⟨none,0,0⟩,false,rfl,fun _=>⟨rfl,rfl,hN⟩,fun h=>(by cases h)⟩
 refine ldlSym_call h (by omega) hz (by omega) fun b W2 hE2 hb=>⟨b,rfl,fun hf W4 _=>bad (.inl fun h=>by rw[hb.2 h] at hf;cases hf) W4,fun ht=>?_⟩
 have hSym:=hb.1 (by simpa using ht)
 obtain⟨⟨hc',hr1,hr12,hc1,hc12⟩,hcr,hsym⟩:=hSym
 have hSym:=hb.1 (by simpa using ht)
 have hc: ∀i,i<r→c i=r:=fun i hi=>by have:=hc' i hi;omega
 rw[hsn]
 refine⟨matOne_call (hnn.ext hE2) hr1 hr12 fun s7 W6 hE6 h7=>⟨s7,rfl,⟨rfl,by omega,by omega⟩,fun s8 W9 hE9 hO hf=>?_⟩,⟨rfl,by omega,by omega⟩,matOne_call (hnn.ext hE2) hr1 hr12 fun s7 W6 hE6 h7=>⟨s7,rfl,fun s8 W9 hE9 hO hf=>?_⟩⟩
 ·have hfr: ∀g,s8.v.ownBlock=some g→W0.w.heap.size≤g:=fun g hg=>(hf g hg).1
  have h9:=(h7.avoid (A:=fun g=>s8.v.ownBlock=some g) fun g hg hlt=>(hf g hg).2 hlt).ext hE9
  rw[show Int.toNat (r:Int)=r from rfl] at hO
  refine⟨ofI κ m W0 r s7 s8,ofM r,⟨0,_,_,_,rfl,Nat.zero_le _,((hE2.trans hE6).trans hE9).toM _,h9,hO,qs_zero W9 r,outer_zero m _ r,fun a j _ h=>absurd h (Nat.not_lt_zero _),fun j h=>absurd h (Nat.not_lt_zero _)⟩,?_⟩
  rintro i13 W14 ⟨k,L,D,xs,rfl,hk,hE14,h14,ho14,hq14,hout,hsz⟩
  refine⟨fun hlt=>?_,fun hge W67 hE67=>⟨s7,s8,true,rfl,fun h=>(by cases h),fun _=>⟨hSym,L,D,(h14.ext hE67).mat,⟨xs,(ho14.ext hE67).row,hq14.ext hE67⟩,?_⟩⟩⟩
  ·have hkr:k<r:=by omega
   have hub:=hU k (by omega)
   have hck:=hc k hkr
   have hmk:=hz k k hkr (by omega)
   refine ldlLeft_call (h.new hE14 (Nat.le_refl _)) h14.mat ⟨xs,ho14.row,hq14⟩ hkr (by omega) hkr hkr (by omega) (by omega) (by omega) (by omega) hmk (fun j hj=>⟨hsz.1 k j hkr hj,hsz.2 j hj,hsz.1 k j hkr hj⟩) (by omega) (by omega) fun s17 b18 s19 W16 hE16 h17=>⟨s17,b18,s19,rfl,?_⟩
   have o16:=ho14.ext hE16
   have hxl:xs.length=r:=hq14.1
   have hq16:IsQs 317 51 W16 s8 r D:=⟨xs,o16.row,hq14.ext hE16⟩
   refine⟨hq16.inB (by omega) (by omega),?_⟩
   refine storeN_own (j:=k) o16 (by omega) rfl (fun u hu=>?_) (fun g hg=>.inr (hfr g hg)) fun W20 g hg hw hO20=>⟨by unfold I64;omega,?_⟩
   ·simp only[List.mem_cons,List.not_mem_nil,or_false] at hu
    rcases hu with rfl | rfl | rfl<;>rfl
   have hszk:Sz (Sk κ k) (leftF m L D k k):=left_sz hmk fun t ht=>((hsz.1 k t hkr ht).mul (hsz.2 t ht)).mul (hsz.1 k t hkr ht)
   refine⟨ofI2 κ m W0 r k s7 s8,ofM r,⟨k+1,L,_,_,by push_cast;rfl,by omega,by omega,(hE14.trans (hE16.toM _)).trans (hw.extN (hfr g hg)),(h14.ext hE16).other hw (fun h=>h.2 hg) (by decide) (by decide),hO20,(hw.qs (hq14.ext hE16) (by decide)).set (by omega) (hw.rat h17 (by decide)),inner_start hout hkr,⟨hsz.1,fun j hj=>?_⟩,?_,fun a h1 h2=>(by omega)⟩,?_⟩
   ·show Sz _ (if j=k then _ else _)
    rw[if_neg (by omega)]
    exact hsz.2 j hj
   ·show Sz _ (if k=k then _ else _)
    rw[if_pos rfl]
    exact hszk
   clear hsz hout hO20 hq16 hszk o16 hxl hq14 ho14 h14 hw
   rintro i23 W24 ⟨j,L,D,ys,rfl,hkj,hjr,hE24,h24,ho24,hq24,hin,hsz⟩
   refine⟨fun hlt2=>?_,fun hge2=>⟨by unfold I64;omega,⟨k+1,L,D,ys,by push_cast;rfl,by omega,hE24,h24,ho24,hq24,?_,?_⟩,?_⟩⟩
   ·have hjr:j<r:=by omega
    have hcj:=hc j hjr
    have hmj:=hz j k hjr (by omega)
    refine ldlLeft_call (h.new hE24 (Nat.le_refl _)) h24.mat ⟨ys,ho24.row,hq24⟩ hjr (by omega) hjr hkr (by omega) (by omega) (by omega) (by omega) hmj (fun t ht=>⟨hsz.1.1 j t hjr ht,hsz.1.2 t ht,hsz.1.1 k t hkr ht⟩) (by omega) (by omega) fun s27 b28 s29 W26 hE26 h27=>⟨s27,b28,s29,rfl,?_⟩
    have hszl:Sz (Sk κ k) (leftF m L D j k):=left_sz hmj fun t ht=>((hsz.1.1 j t hjr ht).mul (hsz.1.2 t ht)).mul (hsz.1.1 k t hkr ht)
    have hszd:=hsz.2.1
    have hq26:IsQs 317 51 W26 s8 r D:=⟨ys,(ho24.ext hE26).row,hq24.ext hE26⟩
    obtain⟨s30,b31,s32,u1,hdk⟩:=hq26.at (i:=k) hkr
    refine⟨hq26.inB (by omega) (by omega),s30,b31,s32,u1,?_⟩
    ·refine ratDiv_call h27 hdk hszl hszd (by omega) (by omega) (by unfold Sk;omega) fun s35 b36 s37 W34 hE34 h35=>⟨s35,b36,s37,_,rfl,fun _ W=>Ext W34 W∧(D k=0→leftF m L D j k=0),⟨fun hz=>?_,fun hz=>⟨Ext.refl _,fun h0=>?_⟩⟩,?_⟩
     ·refine ratSign_call (h27.ext hE34) hszl (by omega) fun W41 hE41 _=>⟨_,rfl,fun hne W43 _=>bad (.inr ⟨L,D,k,j,hin.parts,hin.dk,by simpa using hz,hkj,hjr,fun e=>hne ((cmpQ_zero _ 0).2 e)⟩) W43,fun heq=>⟨hE41,fun _=>(cmpQ_zero _ 0).1 ?_⟩⟩
      omega
     ·simp[h0] at hz
     ·rintro b45 b46 W47 ⟨hE47,h0⟩
      have h47:=((h24.ext hE26).ext hE34).ext hE47
      obtain⟨y,y1,y2⟩:=h47.mat.at (i:=j) hjr
      refine⟨h47.mat.inB (by omega) (by omega),y,y1,y2.inB (by omega) (by omega),?_⟩
      refine h47.store (j:=k) y1 hjr (by omega) (h35.ext hE47) (by decide) (by decide) (fun g hg=>.inr hg.1) fun W49 hp h49=>⟨by unfold I64;omega,⟨j+1,_,D,ys,by push_cast;rfl,by omega,by omega,(((hE24.trans (hE26.toM _)).trans (hE34.toM _)).trans (hE47.toM _)).trans (hp.extN fun g hg=>hg.1),h49,hp.own (((ho24.ext hE26).ext hE34).ext hE47) (fun g hg hN=>hN.2 hg),hp.qs (((hq24.ext hE26).ext hE34).ext hE47) (by decide),inner_step hin hkj hjr h0,⟨⟨fun a c ha hc=>?_,hsz.1.2⟩,hsz.2.1,fun a ha1 ha2=>?_⟩⟩,?_⟩
      ·show Sz _ (if a=j∧c=k then _ else _)
       rw[if_neg (by omega)]
       exact hsz.1.1 a c ha hc
      ·show Sz _ (if a=j∧k=k then _ else _)
       by_cases e:a=j
       ·rw[if_pos ⟨e,rfl⟩,Ub_succ]
        exact hszl.div hszd (by unfold Sk;omega)
       ·rw[if_neg (by omega)]
        exact hsz.2.2 a ha1 (by omega)
      ·show r-Int.toNat ((j:Int)+1)<r-Int.toNat (j:Int)
       omega
   ·have:j=r:=by omega
    subst this
    exact inner_end hin hkr
   ·have:j=r:=by omega
    subst this
    exact szI_end hK hsz hin hkr
   ·show r-Int.toNat ((k:Int)+1)<r-Int.toNat (k:Int)
    omega
  ·have:k=r:=by omega
   subst this
   exact⟨hout.1,hsz⟩
 ·have hfr: ∀g,s8.v.ownBlock=some g→W0.w.heap.size≤g:=fun g hg=>(hf g hg).1
  have h9:=(h7.avoid (A:=fun g=>s8.v.ownBlock=some g) fun g hg hlt=>(hf g hg).2 hlt).ext hE9
  rw[show Int.toNat (r:Int)=r from rfl] at hO
  refine⟨ofI κ m W0 r s7 s8,ofM r,⟨0,_,_,_,rfl,Nat.zero_le _,((hE2.trans hE6).trans hE9).toM _,h9,hO,qs_zero W9 r,outer_zero m _ r,fun a j _ h=>absurd h (Nat.not_lt_zero _),fun j h=>absurd h (Nat.not_lt_zero _)⟩,?_⟩
  rintro i13 W14 ⟨k,L,D,xs,rfl,hk,hE14,h14,ho14,hq14,hout,hsz⟩
  refine⟨fun hlt=>?_,fun hge W67 hE67=>⟨s7,s8,true,rfl,fun h=>(by cases h),fun _=>⟨hSym,L,D,(h14.ext hE67).mat,⟨xs,(ho14.ext hE67).row,hq14.ext hE67⟩,?_⟩⟩⟩
  ·have hkr:k<r:=by omega
   have hub:=hU k (by omega)
   have hck:=hc k hkr
   have hmk:=hz k k hkr (by omega)
   refine ldlLeft_call (h.new hE14 (Nat.le_refl _)) h14.mat ⟨xs,ho14.row,hq14⟩ hkr (by omega) hkr hkr (by omega) (by omega) (by omega) (by omega) hmk (fun j hj=>⟨hsz.1 k j hkr hj,hsz.2 j hj,hsz.1 k j hkr hj⟩) (by omega) (by omega) fun s17 b18 s19 W16 hE16 h17=>⟨s17,b18,s19,rfl,?_⟩
   have o16:=ho14.ext hE16
   have hxl:xs.length=r:=hq14.1
   have hq16:IsQs 317 51 W16 s8 r D:=⟨xs,o16.row,hq14.ext hE16⟩
   refine⟨hq16.inB (by omega) (by omega),?_⟩
   refine storeN_own (j:=k) o16 (by omega) rfl (fun u hu=>?_) (fun g hg=>.inr (hfr g hg)) fun W20 g hg hw hO20=>⟨by unfold I64;omega,?_⟩
   ·simp only[List.mem_cons,List.not_mem_nil,or_false] at hu
    rcases hu with rfl | rfl | rfl<;>rfl
   have hszk:Sz (Sk κ k) (leftF m L D k k):=left_sz hmk fun t ht=>((hsz.1 k t hkr ht).mul (hsz.2 t ht)).mul (hsz.1 k t hkr ht)
   refine⟨ofI2 κ m W0 r k s7 s8,ofM r,⟨k+1,L,_,_,by push_cast;rfl,by omega,by omega,(hE14.trans (hE16.toM _)).trans (hw.extN (hfr g hg)),(h14.ext hE16).other hw (fun h=>h.2 hg) (by decide) (by decide),hO20,(hw.qs (hq14.ext hE16) (by decide)).set (by omega) (hw.rat h17 (by decide)),inner_start hout hkr,⟨hsz.1,fun j hj=>?_⟩,?_,fun a h1 h2=>(by omega)⟩,?_⟩
   ·show Sz _ (if j=k then _ else _)
    rw[if_neg (by omega)]
    exact hsz.2 j hj
   ·show Sz _ (if k=k then _ else _)
    rw[if_pos rfl]
    exact hszk
   clear hsz hout hO20 hq16 hszk o16 hxl hq14 ho14 h14 hw
   rintro i23 W24 ⟨j,L,D,ys,rfl,hkj,hjr,hE24,h24,ho24,hq24,hin,hsz⟩
   refine⟨fun hlt2=>?_,fun hge2=>⟨by unfold I64;omega,⟨k+1,L,D,ys,by push_cast;rfl,by omega,hE24,h24,ho24,hq24,?_,?_⟩,?_⟩⟩
   ·have hjr:j<r:=by omega
    have hcj:=hc j hjr
    have hmj:=hz j k hjr (by omega)
    refine ldlLeft_call (h.new hE24 (Nat.le_refl _)) h24.mat ⟨ys,ho24.row,hq24⟩ hjr (by omega) hjr hkr (by omega) (by omega) (by omega) (by omega) hmj (fun t ht=>⟨hsz.1.1 j t hjr ht,hsz.1.2 t ht,hsz.1.1 k t hkr ht⟩) (by omega) (by omega) fun s27 b28 s29 W26 hE26 h27=>⟨s27,b28,s29,rfl,?_⟩
    have hszl:Sz (Sk κ k) (leftF m L D j k):=left_sz hmj fun t ht=>((hsz.1.1 j t hjr ht).mul (hsz.1.2 t ht)).mul (hsz.1.1 k t hkr ht)
    have hszd:=hsz.2.1
    have hq26:IsQs 317 51 W26 s8 r D:=⟨ys,(ho24.ext hE26).row,hq24.ext hE26⟩
    obtain⟨s30,b31,s32,u1,hdk⟩:=hq26.at (i:=k) hkr
    refine⟨hq26.inB (by omega) (by omega),s30,b31,s32,u1,?_⟩
    ·refine ratDiv_call h27 hdk hszl hszd (by omega) (by omega) (by unfold Sk;omega) fun s35 b36 s37 W34 hE34 h35=>⟨s35,b36,s37,_,rfl,fun _ W=>Ext W34 W∧(D k=0→leftF m L D j k=0),⟨fun hz=>?_,fun hz=>⟨Ext.refl _,fun h0=>?_⟩⟩,?_⟩
     ·refine ratSign_call (h27.ext hE34) hszl (by omega) fun W41 hE41 _=>⟨_,rfl,fun hne W43 _=>bad (.inr ⟨L,D,k,j,hin.parts,hin.dk,by simpa using hz,hkj,hjr,fun e=>hne ((cmpQ_zero _ 0).2 e)⟩) W43,fun heq=>⟨hE41,fun _=>(cmpQ_zero _ 0).1 ?_⟩⟩
      omega
     ·simp[h0] at hz
     ·rintro b45 b46 W47 ⟨hE47,h0⟩
      have h47:=((h24.ext hE26).ext hE34).ext hE47
      obtain⟨y,y1,y2⟩:=h47.mat.at (i:=j) hjr
      refine⟨h47.mat.inB (by omega) (by omega),y,y1,y2.inB (by omega) (by omega),?_⟩
      refine h47.store (j:=k) y1 hjr (by omega) (h35.ext hE47) (by decide) (by decide) (fun g hg=>.inr hg.1) fun W49 hp h49=>⟨by unfold I64;omega,⟨j+1,_,D,ys,by push_cast;rfl,by omega,by omega,(((hE24.trans (hE26.toM _)).trans (hE34.toM _)).trans (hE47.toM _)).trans (hp.extN fun g hg=>hg.1),h49,hp.own (((ho24.ext hE26).ext hE34).ext hE47) (fun g hg hN=>hN.2 hg),hp.qs (((hq24.ext hE26).ext hE34).ext hE47) (by decide),inner_step hin hkj hjr h0,⟨⟨fun a c ha hc=>?_,hsz.1.2⟩,hsz.2.1,fun a ha1 ha2=>?_⟩⟩,?_⟩
      ·show Sz _ (if a=j∧c=k then _ else _)
       rw[if_neg (by omega)]
       exact hsz.1.1 a c ha hc
      ·show Sz _ (if a=j∧k=k then _ else _)
       by_cases e:a=j
       ·rw[if_pos ⟨e,rfl⟩,Ub_succ]
        exact hszl.div hszd (by unfold Sk;omega)
       ·rw[if_neg (by omega)]
        exact hsz.2.2 a ha1 (by omega)
      ·show r-Int.toNat ((j:Int)+1)<r-Int.toNat (j:Int)
       omega
   ·have:j=r:=by omega
    subst this
    exact inner_end hin hkr
   ·have:j=r:=by omega
    subst this
    exact szI_end hK hsz hin hkr
   ·show r-Int.toNat ((k:Int)+1)<r-Int.toNat (k:Int)
    omega
  ·have:k=r:=by omega
   subst this
   exact⟨hout.1,hsz⟩
theorem ldlOf_call {W0 W:PW} {M:Nat→Prop} {s:Sl} {r κ:Nat} {c:Nat→Nat} {m:Nat→Nat→Rat} {K:Value→PW→Prop} (h:IsMat 317 51 100 W s r c m) (hr:r≤5) (hz: ∀i j,i<r→j<c i→Sz κ (m i j)) (hK:1≤κ) (hK2:κ≤100000000) (hU: ∀k,k≤r→Ub κ k≤100000000∧Sk κ k≤1000000000) (kont: ∀(u:Sl) (d:Sl) (b:Bool) (W':PW),Ext W W'→((b=false→u=⟨none,0,0⟩∧d=⟨none,0,0⟩∧NoParts r c m)∧(b=true→SymP r c m∧∃(L:Nat→Nat→Rat) (D:Nat→Rat),IsMat 317 51 100 W' u r (fun _=>r) L∧IsQs 317 51 W' d r D∧Parts m L D r r∧SzO κ L D r r))→K (.tuple #[Sl.v u,Sl.v d,.bool b]) W'):
  callN Go.Proofs.Tryz.prog W0 M 37 [s.v] W K:=
 callN_of (fun W' hE=>ldlOf_ok (M:=fun _=>False) (h.ext hE) hr hz hK hK2 hU) (fun W' v W'' hE hE' hP=>by
  obtain⟨u,d,b,rfl,h⟩:=hP
  exact kont u d b W'' (hE.trans hE') h)
end Go.Proofs.YthpmkcidkcmlgaaGreat

/- ldl.Semi. -/
set_option maxRecDepth 100000
set_option linter.unusedVariables false
set_option linter.unusedSimpArgs false
namespace Go.Proofs.YthpmkcidkcmlgaaGreat
open Go Go.SX
def sn1 (r:Nat) (l:List PL) (_:PW):Nat:=match l with
 | [.val (.int .i64 i)]=>r-i.toNat
 | _=>0
theorem noParts_not {r:Nat} {c:Nat→Nat} {m L:Nat→Nat→Rat} {D:Nat→Rat} (hS:SymP r c m) (hP:Parts m L D r r):¬NoParts r c m:=by
 rintro(h | ⟨L',D',k,j,hP',hk,h0,hkj,hjr,hne⟩)
 ·exact h hS
 ·have hu:=Parts.unique (c:=k) (by omega) (hP.less (by omega)) hP'
  have hl: ∀i,i<r→leftF m L D i k=leftF m L' D' i k:=fun i hi=>leftF_congr fun t ht=>⟨(hu t ht).2 i hi,(hu t ht).2 k (by omega),(hu t ht).1⟩
  have hd:D k=0:=by rw[hP.diag k (by omega),hl k (by omega),←hk,h0]
  exact hne (by rw[←hl j hjr];exact(hP.low j k (by omega) hkj hjr).2 hd)
theorem cmpQ_neg {q:Rat} :cmpQ q 0<0↔¬0≤q:=by
 unfold cmpQ
 rw[Rat.not_le]
 split
 ·simp[*]
 ·split<;>simp_all
theorem ldlSemi_ok {W0:PW} {M:Nat→Prop} {s:Sl} {r κ:Nat} {c:Nat→Nat} {m:Nat→Nat→Rat} (h:IsMat 317 51 100 W0 s r c m) (hr:r≤5) (hz: ∀i j,i<r→j<c i→Sz κ (m i j)) (hK:1≤κ) (hK2:κ≤100000000) (hU: ∀k,k≤r→Ub κ k≤100000000∧Sk κ k≤1000000000):
  PCallsM Go.Proofs.Tryz.prog 38 [s.v] W0 M fun v W'=>∃(b:Bool),v = .bool b∧(b=true↔∃(L:Nat→Nat→Rat) (D:Nat→Rat),SymP r c m∧Parts m L D r r∧∀j,j<r→0≤D j):=by
 apply callldl_Semi
 refine ldlOf_call h hr hz hK hK2 hU fun u d b W2 hE2 ⟨hbf,hbt⟩=>⟨u,d,b,rfl,?_⟩
 cases b with
 | false=>
  obtain⟨_,rfl,hN⟩:=hbf rfl
  refine⟨fun l2 W=>match l2 with | [.val (.int .i64 i)]=>i=0 | _=>False,fun _ _=>0,rfl,?_⟩
  rintro i8 W9 rfl
  exact⟨fun h=>absurd h (by decide),fun _ W17 _=>⟨false,rfl,fun h=>(by cases h),fun⟨L,D,hS,hP,_⟩=>absurd hN (noParts_not hS hP)⟩⟩
 | true=>
  obtain⟨hS,L,D,_,hd,hP,hsz⟩:=hbt rfl
  have hub:=(hU r (Nat.le_refl _)).1
  have hdn:=hd.n
  refine⟨fun l2 W=>match l2 with | [.val (.int .i64 i)]=>Ext W2 W∧∃k:Nat,i=(k:Int)∧k≤r∧∀j,j<k→0≤D j | _=>False,sn1 r,⟨Ext.refl _,0,rfl,Nat.zero_le _,fun j h=>by omega⟩,?_⟩
  rintro i8 W9 ⟨hE,k,rfl,hk,hj⟩
  refine⟨fun hlt=>?_,fun hge W17 _=>⟨true,rfl,fun _=>⟨L,D,hS,hP,fun j h=>hj j (by omega)⟩,fun _=>rfl⟩⟩
  have hkr:k<r:=by omega
  obtain⟨p1,pb,p2,p3,p4⟩:=(hd.ext hE).at hkr
  refine⟨(hd.ext hE).inB (by omega) (by omega),p1,pb,p2,p3,ratSign_call p4 (hsz.2 k hkr) (by omega) fun W14 hE14 _=>⟨_,rfl,fun hneg W16 _=>⟨false,rfl,fun h=>(by cases h),fun⟨L',D',_,hP',hD'⟩=>?_⟩,fun hpos=>⟨by unfold I64;omega,⟨hE.trans hE14,k+1,by push_cast;rfl,by omega,fun j h=>?_⟩,?_⟩⟩⟩
  ·have h1:=(Parts.unique (Nat.le_refl _) hP hP' k hkr).1
   have h2:=hD' k hkr
   rw[←h1] at h2
   exact absurd h2 (cmpQ_neg.1 hneg)
  ·by_cases e:j=k
   ·subst e;exact Rat.not_lt.1 fun h=>hpos (cmpQ_neg.2 (Rat.not_le.2 h))
   ·exact hj j (by omega)
  ·show r-Int.toNat ((k:Int)+1)<r-Int.toNat (k:Int)
   omega
theorem ldlSemi_call {W0 W:PW} {M:Nat→Prop} {s:Sl} {r κ:Nat} {c:Nat→Nat} {m:Nat→Nat→Rat} {K:Value→PW→Prop} (h:IsMat 317 51 100 W s r c m) (hr:r≤5) (hz: ∀i j,i<r→j<c i→Sz κ (m i j)) (hK:1≤κ) (hK2:κ≤100000000) (hU: ∀k,k≤r→Ub κ k≤100000000∧Sk κ k≤1000000000) (kont: ∀(b:Bool) (W':PW),Ext W W'→((b=true↔∃(L:Nat→Nat→Rat) (D:Nat→Rat),SymP r c m∧Parts m L D r r∧∀j,j<r→0≤D j))→K (.bool b) W'):
  callN Go.Proofs.Tryz.prog W0 M 38 [s.v] W K:=
 callN_of (fun W' hE=>ldlSemi_ok (M:=fun _=>False) (h.ext hE) hr hz hK hK2 hU) (fun W' v W'' hE hE' hP=>by
  obtain⟨b,rfl,h⟩:=hP
  exact kont b W'' (hE.trans hE') h)
end Go.Proofs.YthpmkcidkcmlgaaGreat

/- cincturelaw14.even. -/
set_option maxRecDepth 100000
set_option linter.unusedVariables false
set_option linter.unusedSimpArgs false
namespace Go.Proofs.YthpmkcidkcmlgaaGreat
open Go Go.SX
def TB (T:List (List ByteArray)):Prop:=∀l∈T,∀t∈l,t.size≤1099511627776
theorem TB.txt {T:List (List ByteArray)} (h:TB T) (i j:Nat):(txt T i j).size≤1099511627776:=by
 unfold Go.Proofs.YthpmkcidkcmlgaaGreat.txt
 cases e:T[i]? with
 | none=>exact Nat.zero_le _
 | some l=>
  show(l[j]?.getD ⟨⟨[]⟩⟩).size≤_
  cases e2:l[j]? with
  | none=>exact Nat.zero_le _
  | some t=>exact h l (List.mem_of_getElem? e) t (List.mem_of_getElem? e2)
def evI (W0:PW) (n:Nat) (l:List PL) (W:PW):Prop:=
 match l with
 | [.row l3,.val (.int .i64 i)]=>ExtN W0.w.heap.size W0 W∧∃(ss:List Sl) (T':List (List ByteArray)),l3=(ss.map fun x=>[x.v])∧i=(T'.length:Int)∧T'.length≤n∧OTab 9 (W0.w.heap.size≤·) W ss T'∧TB T'
 | _=>False
def evI2 (W0:PW) (k:Nat) (S:List Sl) (l:List PL) (W:PW):Prop:=
 match l with
 | [.val (.int .i64 i)]=>ExtN W0.w.heap.size W0 W∧∃(T':List (List ByteArray)) (j:Nat),i=(j:Int)∧j≤k∧T'.length=k+1∧OTab 9 (W0.w.heap.size≤·) W S T'∧TB T'
 | _=>False
def evnM (n:Nat) (l:List PL) (W:PW):Nat:=
 match l with
 | [_,.val (.int .i64 i)]=>n-i.toNat
 | [.val (.int .i64 i)]=>n-i.toNat
 | _=>0
theorem lawEven_ok {W0:PW} {M:Nat→Prop} {s:Sl} {T:List (List ByteArray)} (h:IsTx W0 s T) (hl:T.length≤1099511627776) (hw: ∀l∈T,l.length≤1099511627776) (hb:TB T):
  PCallsM Go.Proofs.Tryz.prog 32 [s.v] W0 M fun v W'=>∃(s':Sl),∃(T':List (List ByteArray)),v=Sl.v s'∧IsTx W' s' T'∧TB T':=by
 apply calllaw14_even
 have hn:=h.n
 refine⟨evI W0 T.length,evnM T.length,⟨ExtM.refl _ _,[],[],rfl,rfl,Nat.zero_le _,⟨rfl,fun i h=>by simp at h,fun i j h=>by simp at h⟩,fun l h=>by simp at h⟩,?_⟩
 rintro l3 i4 W5 ⟨hE5,ss,T',rfl,rfl,hTn,hO,hTB⟩
 have h5:=h.new hE5 (Nat.le_refl _)
 refine⟨fun hlt=>?_,fun hge s34 W35 hE35 hO35 hf35 W37 hE37=>⟨s34,T',rfl,⟨ss,⟨_,(hO35.ext hE37).row⟩,hO.1,fun i hi hi'=>⟨_,(((hO.2.1 i hi hi').1.ext hE35).ext hE37).row⟩⟩,hTB⟩⟩
 have hk:T'.length<T.length:=by omega
 obtain⟨k,hk'⟩: ∃k,T'.length=k:=⟨_,rfl⟩
 rw[hk'] at hk⊢
 obtain⟨x,e1,e2⟩:=h5.at (i:=k) hk
 have hwk:=hw T[k] (List.getElem_mem hk)
 refine⟨h5.inB (by omega) (by omega),x,e1,tcel T[k],e2,by rw[tcel_length];omega,fun s8 W9 hE9 hO9 hf9=>?_⟩
 have hsl:=hO.1
 have eS:(ss.map fun x=>[x.v]) ++ [[s8.v]]=((ss ++ [s8]).map fun x=>[x.v]):=by simp
 obtain⟨S,hS⟩: ∃S,ss ++ [s8]=S:=⟨_,rfl⟩
 have hSl:S.length=k+1:=by rw[←hS];simp;omega
 rw[eS,hS]
 have hO2:=hO.snoc hE9 hO9 fun g hg=>hf9 g hg
 rw[hS] at hO2
 refine⟨by rw[List.length_map];simp only[List.length_cons,List.length_nil];omega,evI2 W0 k S,evnM k,⟨hE5.trans (hE9.toM _),_,0,rfl,Nat.zero_le _,by simp;omega,hO2,fun l hl=>?_⟩,?_⟩
 ·rcases List.mem_append.1 hl with h | h
  ·exact hTB l h
  ·rw[List.mem_singleton.1 h]
   exact hb T[k] (List.getElem_mem hk)
 rintro i13 W14 ⟨hE14,T2,j,rfl,hj,hT2,h14,hB14⟩
 have own: ∀i (hi:i<k+1),OwnAt (S.map fun x=>[x.v]) i 0 [Sl.v (S[i]'(by omega))]:=fun i hi=>⟨[Sl.v (S[i]'(by omega))],by simp[List.getElem?_eq_getElem (show i<S.length by omega)],rfl⟩
 have hSm:(S.map fun x=>[x.v]).length=k+1:=by rw[List.length_map];exact hSl
 have next:I64 ((k:Int)+1)∧evI W0 T.length [PL.row (S.map fun x=>[x.v]),PL.val (.int .i64 ((k:Int)+1))] W14∧evnM T.length [PL.row (S.map fun x=>[x.v]),PL.val (.int .i64 ((k:Int)+1))] W14<evnM T.length [PL.row (ss.map fun x=>[x.v]),PL.val (.int .i64 (k:Int))] W5:=by
  refine⟨by unfold I64;omega,⟨hE14,S,T2,rfl,by omega,by omega,h14,hB14⟩,?_⟩
  show T.length-Int.toNat ((k:Int)+1)<T.length-Int.toNat (k:Int)
  omega
 rw[hSm]
 rw[show Int.toNat (k:Int)=k from rfl,show Int.toNat (j:Int)=j from rfl]
 have hkS:k<S.length:=by omega
 have hkT:k<T2.length:=by omega
 have ok:=(h14.2.1 k hkS hkT).1
 have nk:(S[k]).n=T2[k].length:=by rw[ok.n,tcel_length]
 refine⟨fun hlt2=>⟨by omega,S[k],own k (by omega),fun hlt3=>?_,fun _=>next⟩,fun _=>next⟩
 have hjS:j<S.length:=by omega
 have hjT:j<T2.length:=by omega
 have oj:=(h14.2.1 j hjS hjT).1
 have nj:(S[j]).n=T2[j].length:=by rw[oj.n,tcel_length]
 refine⟨by omega,S[j],own j (by omega),fun hlt4=>?_,fun _=>next⟩
 have hjk:j<T2[k].length:=by omega
 have hkj:k<T2[j].length:=by omega
 refine⟨by omega,S[k],own k (by omega),by omega,S[j],own j (by omega),Row.inBt oj.row (by omega) (by omega),_,Row.text oj.row hkj,Row.inBt ok.row (by omega) (by omega),?_⟩
 refine h14.store hkS hkT hjk (fun g hg=>.inr hg) fun W20 g hg hw' h20=>⟨by unfold I64;omega,⟨hE14.trans (hw'.extN hg),_,j+1,by push_cast;rfl,by omega,by simpa using hT2,h20,fun l hl t ht=>?_⟩,?_⟩
 ·rcases List.mem_or_eq_of_mem_set hl with hl | rfl
  ·exact hB14 l hl t ht
  ·rcases List.mem_or_eq_of_mem_set ht with ht | rfl
   ·exact hB14 _ (List.getElem_mem hkT) t ht
   ·exact hB14 _ (List.getElem_mem hjT) _ (List.getElem_mem hkj)
 ·show k-Int.toNat ((j:Int)+1)<k-Int.toNat (j:Int)
  omega
theorem lawEven_call {W0 W:PW} {M:Nat→Prop} {s:Sl} {T:List (List ByteArray)} {K:Value→PW→Prop} (h:IsTx W s T) (hl:T.length≤1099511627776) (hw: ∀l∈T,l.length≤1099511627776) (hb:TB T) (kont: ∀(s':Sl) (T':List (List ByteArray)) (W':PW),Ext W W'→(IsTx W' s' T'∧TB T')→K (Sl.v s') W'):
  callN Go.Proofs.Tryz.prog W0 M 32 [s.v] W K:=
 callN_of (fun W' hE=>lawEven_ok (M:=fun _=>False) (h.ext hE) hl hw hb) (fun W' v W'' hE hE' hP=>by
  obtain⟨s',T',rfl,h⟩:=hP
  exact kont s' T' W'' (hE.trans hE') h)
end Go.Proofs.YthpmkcidkcmlgaaGreat

/- cincturelaw14.alive. -/
set_option maxRecDepth 100000
set_option linter.unusedVariables false
set_option linter.unusedSimpArgs false
namespace Go.Proofs.YthpmkcidkcmlgaaGreat
open Go Go.SX
def b1:ByteArray:=⟨⟨[49]⟩⟩
def b2:ByteArray:=⟨⟨[50]⟩⟩
def aT:List (List ByteArray):=[[b2,b1],[b1,b2]]
theorem parse_b1:parseQ b1=some 1:=by
 have h1:slashAt b1=none:=by decide
 have h2:parseI b1=some 1:=by decide
 unfold parseQ
 rw[h1,h2];rfl
theorem parse_b2:parseQ b2=some 2:=by
 have h1:slashAt b2=none:=by decide
 have h2:parseI b2=some 2:=by decide
 unfold parseQ
 rw[h1,h2];rfl
def aM (i j:Nat):Rat:=(parseQ (txt aT i j)).getD 0
theorem aM00:aM 0 0=2:=by show(parseQ b2).getD 0=2;rw[parse_b2];rfl
theorem aM01:aM 0 1=1:=by show(parseQ b1).getD 0=1;rw[parse_b1];rfl
theorem aM10:aM 1 0=1:=by show(parseQ b1).getD 0=1;rw[parse_b1];rfl
theorem aM11:aM 1 1=2:=by show(parseQ b2).getD 0=2;rw[parse_b2];rfl
theorem two_cases {P:Nat→Prop} (h0:P 0) (h1:P 1): ∀i,i<2→P i:=by
 intro i hi
 rcases(show i=0∨i=1 by omega) with rfl | rfl
 ·exact h0
 ·exact h1
theorem aSym:SymP 2 (fun _=>2) aM:=
 ⟨⟨fun _ _=>rfl,by decide,by decide,by decide,by decide⟩,rfl,fun i j hi hj=>two_cases (P:=fun i=>aM i j=aM j i) (two_cases (P:=fun j=>aM 0 j=aM j 0) rfl (by rw[aM01,aM10]) j hj) (two_cases (P:=fun j=>aM 1 j=aM j 1) (by rw[aM01,aM10]) rfl j hj) i hi⟩
theorem aParts {L:Nat→Nat→Rat} {D:Nat→Rat} (h:Parts aM L D 2 2):D 0=2∧D 1=3/2:=by
 have h0:=h.diag 0 (by omega)
 have h1:=h.diag 1 (by omega)
 have hl:=(h.low 1 0 (by omega) (by omega) (by omega)).1
 simp only[leftF,lsum,aM00,aM10,aM11] at h0 h1 hl
 have e0:D 0=2:=by rw[h0];grind
 have e1:L 1 0=1/2:=by rw[hl,e0];grind
 refine⟨e0,?_⟩
 rw[h1,e1,e0]
 grind
theorem aNoParts:¬NoParts 2 (fun _=>2) aM:=by
 rintro(h | ⟨L,D,k,j,_,h1,h2,h3,h4,_⟩)
 ·exact h aSym
 ·have:k=0:=by omega
  subst this
  rw[h2] at h1
  simp only[leftF,lsum,aM00] at h1
  grind
theorem txt_two:decQ 2=b2:=by
 have h:(2:Rat).den=1:=by decide
 have h2:(2:Rat).num=2:=by decide
 unfold decQ
 rw[if_pos h,h2]
 unfold decI decN
 rw[if_neg (by decide),if_neg (by decide),show Int.natAbs 2=2 from rfl,dec_pos (by decide),show 2/10=0 from rfl,dec_zero]
 decide
theorem txt_half:decQ (3/2)=⟨⟨[51,47,50]⟩⟩:=by
 have e:(3/2:Rat)=mkRat 3 2:=by rw[Rat.mkRat_eq_div];rfl
 have h:(3/2:Rat).den=2:=by rw[e,Rat.den_mkRat];decide
 have h2:(3/2:Rat).num=3:=by rw[e,Rat.num_mkRat];decide
 unfold decQ
 rw[if_neg (by rw[h];decide),h2,h]
 unfold decI decN
 rw[if_neg (by decide),if_neg (by decide),if_neg (by decide),show Int.natAbs 3=3 from rfl,dec_pos (by decide),dec_pos (x:=2) (by decide),show 3/10=0 from rfl,dec_zero]
 decide
theorem aTx {W:PW} {s1 s4 s7:Sl} (h1:Row W 9 1 s1 [[.string b2],[.string b1]]) (h4:Row W 9 1 s4 [[.string b1],[.string b2]]) (h7:Row W 179 1 s7 [[s1.v],[s4.v]]):IsTx W s7 aT:=
 ⟨[s1,s4],⟨_,h7⟩,rfl,fun i hi hi'=>by
  have hi2:i<2:=hi
  rcases(show i=0∨i=1 by omega) with rfl | rfl
  ·exact⟨_,h1⟩
  ·exact⟨_,h4⟩⟩
theorem aSz {i j:Nat} :Sz 3 (aM i j):=by
 have:(txt aT i j).size≤20:=by
  unfold txt
  cases e:aT[i]? with
  | none=>exact Nat.zero_le _
  | some l=>
   show(l[j]?.getD ⟨⟨[]⟩⟩).size≤_
   cases e2:l[j]? with
   | none=>exact Nat.zero_le _
   | some t=>
    have h1: ∀l∈aT,∀t∈l,t.size≤20:=by decide
    exact h1 l (List.mem_of_getElem? e) t (List.mem_of_getElem? e2)
 unfold aM
 cases e:parseQ (txt aT i j) with
 | none=>exact Sz.zero (by omega)
 | some q=>exact(parseQ_sz e).2 this
theorem lawAlive_ok {W0 : PW} {M : Nat → Prop}   :
    PCallsM Go.Proofs.Tryz.prog 30 [] W0 M fun v W' => v = .bool true ∧ True := by
  apply calllaw14_alive
  intro s1 W2 hE2 hO1 hf1 s4 W5 hE5 hO4 hf4 s7 W8 hE8 hO7 hf7
  have ht := aTx (((hO1.ext hE5).ext hE8).row) (hO4.ext hE8).row hO7.row
  have hnn : NewFrom W8.w.heap.size W8 := Nat.le_refl _
  have hts : ∀ i j, (txt aT i j).size ≤ 1099511627776 := TB.txt (by intro l hl t ht; have h1 : ∀ l ∈ aT, ∀ t ∈ l, t.size ≤ 20 := by decide
                                                                    exact Nat.le_trans (h1 l hl t ht) (by omega))
  refine matParse_call hnn ht (by decide) hts fun s12 e W11 hE11 ⟨h1, h2⟩ => ⟨s12, e, rfl, ?_⟩
  have hR : RightP aT.length (tw aT) := ⟨two_cases (P := fun i => tw aT i = tw aT 0) rfl rfl, by decide, by decide, by decide, by decide⟩
  have he : e = 0 := by
    apply Decidable.byContradiction
    intro hne
    refine h2 hne ⟨hR, fun i j hi hj => ?_⟩
    have hi2 : i < 2 := hi
    rcases (show i = 0 ∨ i = 1 by omega) with rfl | rfl
    · have hj2 : j < 2 := hj
      rcases (show j = 0 ∨ j = 1 by omega) with rfl | rfl
      · show (parseQ b2).isSome = true; rw [parse_b2]; rfl
      · show (parseQ b1).isSome = true; rw [parse_b1]; rfl
    · have hj2 : j < 2 := hj
      rcases (show j = 0 ∨ j = 1 by omega) with rfl | rfl
      · show (parseQ b1).isSome = true; rw [parse_b1]; rfl
      · show (parseQ b2).isSome = true; rw [parse_b2]; rfl
  subst he
  have hm : IsMat 317 51 100 W11 s12 2 (fun _ => 2) aM := (h1 rfl).2.mat
  refine ldlOf_call hm (by decide) (fun i j _ _ => aSz) (by decide) (by decide) (Ub3 (by decide)) fun s16 s17 b18 W15 hE15 ⟨hf, ht'⟩ => ⟨s16, s17, b18, rfl, ?_⟩
  have hb : b18 = true := by
    cases b18 with
    | true => rfl
    | false => exact absurd (hf rfl).2.2 aNoParts
  subst hb
  obtain ⟨_, L, D, hu, hd, hP, hS⟩ := ht' rfl
  have hD := aParts hP
  have hub : Ub 3 2 ≤ 1000000 := (Ub_le 2 (by omega)).1
  refine ⟨fun _ => ⟨fun _ => ⟨fun _ => ?_, fun hne => absurd (by rw [hd.n]; rfl) hne⟩, fun h => (by cases h)⟩, fun h => absurd rfl h⟩
  obtain ⟨s19, b20, s21, e1, e2⟩ := hd.at (i := 0) (by omega)
  refine ⟨hd.inB (by omega) (by omega), s19, b20, s21, e1, ratText_call e2 (hS.2 0 (by omega)) (by omega) fun W23 hE23 _ => ⟨_, rfl, fun _ => ?_, fun hne => absurd (by rw [hD.1, txt_two]; rfl) hne⟩⟩
  have hd' := hd.ext hE23
  obtain ⟨s25, b26, s27, f1, f2⟩ := hd'.at (i := 1) (by omega)
  refine ⟨hd'.inB (by omega) (by omega), s25, b26, s27, f1, ratText_call f2 (hS.2 1 (by omega)) (by omega) fun W29 hE29 _ => ⟨_, rfl, fun W31 hE31 => ⟨?_, trivial⟩⟩⟩
  rw [hD.2, txt_half]
  rfl
theorem lawAlive_call {W0 W:PW} {M:Nat→Prop} {K:Value→PW→Prop} (kont: ∀(W':PW),Ext W W'→(True)→K (.bool true) W'):
  callN Go.Proofs.Tryz.prog W0 M 30 [] W K:=
 callN_of (fun W' hE=>lawAlive_ok (M:=fun _=>False) ) (fun W' v W'' hE hE' hP=>by
  obtain⟨rfl,h⟩:=hP
  exact kont W'' (hE.trans hE') h)
end Go.Proofs.YthpmkcidkcmlgaaGreat
