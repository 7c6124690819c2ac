/- poly: slices.Concat, Add, Scale, Sub. -/
import Derived.Test.YtahohahjnhfedaaGreatDoorW6
import Derived.Test.YtahohahjnhfedaaGreatDoorW5
import Derived.Test.YtahohahjnhfedaaGreatDoorR8
import Derived.Test.YtahohahjnhfedaaGreatDoorR9
import Derived.Test.YtahohahjnhfedaaGreatDoorLib3
import Derived.Test.YtahohahjnhfedaaGreatDoorLib4
import Derived.Test.YtahohahjnhfedaaGreatDoorW2
set_option linter.unusedVariables false
set_option linter.unusedSimpArgs false
set_option maxRecDepth 100000
namespace Go.Proofs.YtahohahjnhfedaaGreatDoor
open Go Go.SX
theorem Ep0 {W:PW} {t:TypeId} {s sp sq:Sl} (h:Row W t 1 s [[sp.v],[sq.v]]) {k:Nat} (hk:k<2):Aa7 W s 1 k 0 [(if k=0 then sp else sq).v]:=by
 rcases(by omega:k=0∨k=1) with rfl | rfl
 ·exact h.part (x:=[sp.v]) rfl 0 rfl
 ·exact h.part (x:=[sq.v]) rfl 0 rfl
def Fw4 (n0:Nat) (W0:PW) (p q:List Tm) (l:List PL) (W:PW):Prop:=match l with
 | [.val (.slice A n c),.val (.int .i64 i)]=>∃(k:Nat) (xs:List (List Value)),i=(k:Int)∧k≤2∧Eo1 n0 W0 W∧Go.SX.Own W 127 6 ⟨A,n,c⟩ xs∧(∀g,(Value.slice A n c).ownBlock=some g→n0≤g)∧An5 (PT 141 W) xs (if k=0 then[] else if k=1 then p else p ++ q)
 | _=>False
theorem Dh9 {W0:PW} {M:Nat→Prop} {s sp sq:Sl} {p q:List Tm} {ts:TypeId} (hs:Row W0 ts 1 s [[sp.v],[sq.v]]) (h1:Ab0 141 127 W0 sp p) (h2:Ab0 141 127 W0 sq q) (hp:p.length≤1073741824) (hq:q.length≤1073741824):
  Aa0 Tryz.prog 134 [s.v] W0 M fun v W'=>∃(s':Sl),v=Sl.v s'∧Ab0 141 127 W' s' (p ++ q):=by
 apply Ai2
 have hn:s.n=2:=hs.1
 have n1:=h1.n
 have n2:=h2.n
 refine⟨fun l W=>match l with
  | [.val (.int .i64 a),.val (.int .i64 i)]=>W=W0∧∃k:Nat,i=(k:Int)∧k≤2∧a=(((if 0<k then p.length else 0)+(if 1<k then q.length else 0):Nat):Int)
  | _=>False,fun l _=>match l with | [_,.val (.int .i64 i)]=>2-i.toNat | _=>0,⟨rfl,0,rfl,by omega,by simp⟩,?_⟩
 rintro i3 i4 W5 ⟨rfl,k,rfl,hk,rfl⟩
 refine⟨fun hlt=>?_,fun hge=>?_⟩
 ·have hk2:k<2:=by omega
  have hcn:(if k=0 then sp else sq).n=if k=0 then p.length else q.length:=by split<;>assumption
  refine⟨hs.inB (by omega) (by simp;omega),_,Ep0 hs hk2,?_,fun h=>?_,fun h=>⟨by unfold I64;omega,⟨rfl,k+1,by push_cast;rfl,by omega,?_⟩,?_⟩⟩
  ·show I64 (_+(((if k=0 then sp else sq).n:Nat):Int))
   rw[hcn]
   unfold I64
   repeat' split
   all_goals omega
  ·have h:(_:Int)+(((if k=0 then sp else sq).n:Nat):Int)<0:=h
   omega
  ·show _+(((if k=0 then sp else sq).n:Nat):Int)=_
   rw[hcn]
   rcases(by omega:k=0∨k=1) with rfl | rfl<;>simp
  ·show 2-Int.toNat ((k:Int)+1)<2-Int.toNat (k:Int)
   omega
 have hk2:k=2:=by omega
 subst hk2
 have hn0:(if 0<2 then p.length else 0)+(if 1<2 then q.length else 0)=p.length+q.length:=by simp
 rw[hn0]
 refine Aa2 (fun W' hE=>Es1 (M:=fun _=>False) (by omega)) fun W' v W8 hE hE8 hP=>?_
 obtain⟨s9,rfl,hf,hO⟩:=hP
 have hE08:=hE.trans hE8
 refine⟨s9,rfl,Fw4 W5.w.heap.size W5 p q,fun l _=>match l with | [_,.val (.int .i64 i)]=>2-i.toNat | _=>0,⟨0,[],rfl,by omega,hE08.toM _,hO,fun g hg=>Nat.le_trans hE.size (hf g hg),trivial⟩,?_⟩
 rintro s12 i13 W14 ⟨k,xs,rfl,hk,hEN,hO12,hfr,hall⟩
 have hO12:Go.SX.Own W14 127 6 s12 xs:=hO12
 have hfr: ∀g,s12.v.ownBlock=some g→W5.w.heap.size≤g:=hfr
 refine⟨fun hlt=>?_,fun hge W19 hE19=>⟨s12,rfl,?_⟩⟩
 ·have hk2:k<2:=by omega
  have hs14:=hs.new hEN (Nat.le_refl _)
  obtain⟨y1,r1,a1⟩:=h1.new hEN (Nat.le_refl _)
  obtain⟨y2,r2,a2⟩:=h2.new hEN (Nat.le_refl _)
  have hr:Row W14 127 6 (if k=0 then sp else sq) (if k=0 then y1 else y2):=by split<;>assumption
  have ha:An5 (PT 141 W14) (if k=0 then y1 else y2) (if k=0 then p else q):=by split<;>assumption
  have l1:=hall.len
  have l2:=ha.len
  refine⟨hs14.inB (by omega) (by simp;omega),_,Ep0 hs14 hk2,_,⟨_,hr⟩,fun W' hE'=>⟨xs,hO12.ext hE',fun g hg=>.inr (hfr g hg),?_,fun s' W'' hX hO' hob=>⟨by unfold I64;omega,⟨k+1,_,by push_cast;rfl,by omega,(hEN.trans (hE'.toM _)).trans (hX.mono fun g hg=>hfr g hg),hO',fun g hg=>?_,?_⟩,?_⟩⟩⟩
  ·rw[l1,l2]
   rcases(by omega:k=0∨k=1) with rfl | rfl
   ·simp;omega
   ·simp;omega
  ·rcases hob g hg with h | h
   ·exact hfr g h
   ·exact Nat.le_trans (Nat.le_trans hEN.size hE'.size) h
  ·have b1:=hall.mono fun _ _ h=>PT.own (hO12.ext hE') hX (by decide:141≠127) (h.ext hE')
   have b2:=ha.mono fun _ _ h=>PT.own (hO12.ext hE') hX (by decide:141≠127) (h.ext hE')
   have b3:=b1.append b2
   rcases(by omega:k=0∨k=1) with rfl | rfl
   ·simpa using b3
   ·simpa using b3
  ·show 2-Int.toNat ((k:Int)+1)<2-Int.toNat (k:Int)
   omega
 ·have hk2:k=2:=by omega
  subst hk2
  exact⟨xs,(hO12.ext hE19).row,(by simpa using hall:An5 (PT 141 W14) xs (p ++ q)).mono fun _ _ h=>h.ext hE19⟩
theorem Cn3 {W0 W:PW} {M:Nat→Prop} {s sp sq:Sl} {p q:List Tm} {ts:TypeId} {K:Value→PW→Prop} (hs:Row W ts 1 s [[sp.v],[sq.v]]) (h1:Ab0 141 127 W sp p) (h2:Ab0 141 127 W sq q) (hp:p.length≤1073741824) (hq:q.length≤1073741824) (kont: ∀(s':Sl) (W':PW),Ext W W'→(Ab0 141 127 W' s' (p ++ q))→K (Sl.v s') W'):
  Aa1 Tryz.prog W0 M 134 [s.v] W K:=
 Aa2 (fun W' hE=>Dh9 (M:=fun _=>False) (hs.ext hE) (h1.ext hE) (h2.ext hE) hp hq) (fun W' v W'' hE hE' hP=>by
  obtain⟨s',rfl,h⟩:=hP
  exact kont s' W'' (hE.trans hE') h)
theorem Dz0 {W0:PW} {M:Nat→Prop} {sp sq:Sl} {p q:List Tm} {k:Nat} (h1:Ab0 141 127 W0 sp p) (h2:Ab0 141 127 W0 sq q) (b1:Bd k p) (b2:Bd k q) (hk:k≤134217728) (hp:p.length≤536870912) (hq:q.length≤536870912):
  Aa0 Tryz.prog 102 [.agg ⟨[sp.v]⟩,.agg ⟨[sq.v]⟩] W0 M fun v W'=>∃(s':Sl),v = .agg ⟨[Sl.v s']⟩∧Ab0 141 127 W' s' (Ag2 (p ++ q)):=by
 apply Cw7
 intro s1 W2 hE2 hO _
 refine Cn3 hO.row (h1.ext hE2) (h2.ext hE2) (by omega) (by omega) fun s5 W4 hE4 h5=>⟨s5,rfl,?_⟩
 exact An2 h5 (b1.append b2) (by omega) (by simp;omega) fun s' W7 hE7 hp=>⟨s',rfl,fun W9 hE9=>⟨s',rfl,hp.ext hE9⟩⟩
theorem Cw8 {W0 W:PW} {M:Nat→Prop} {sp sq:Sl} {p q:List Tm} {k:Nat} {K:Value→PW→Prop} (h1:Ab0 141 127 W sp p) (h2:Ab0 141 127 W sq q) (b1:Bd k p) (b2:Bd k q) (hk:k≤134217728) (hp:p.length≤536870912) (hq:q.length≤536870912) (kont: ∀(s':Sl) (W':PW),Ext W W'→(Ab0 141 127 W' s' (Ag2 (p ++ q)))→K (.agg ⟨[Sl.v s']⟩) W'):
  Aa1 Tryz.prog W0 M 102 [.agg ⟨[sp.v]⟩,.agg ⟨[sq.v]⟩] W K:=
 Aa2 (fun W' hE=>Dz0 (M:=fun _=>False) (h1.ext hE) (h2.ext hE) b1 b2 hk hp hq) (fun W' v W'' hE hE' hP=>by
  obtain⟨s',rfl,h⟩:=hP
  exact kont s' W'' (hE.trans hE') h)
end Go.Proofs.YtahohahjnhfedaaGreatDoor
/- poly: Mul, Plain. -/
namespace Go.Proofs.YtahohahjnhfedaaGreatDoor
open Go Go.SX
def Ct4 (p q:List Tm):Prop:=∀a∈p,∀b∈q,(a.1.add b.1).ok
instance (p q:List Tm):Decidable (Ct4 p q):=by unfold Ct4;infer_instance
def Fm8 (p q:List Tm):List Tm:=if Ct4 p q then Ag2 (An8 p q) else[]
def Ev4 (a:Tm) (q:List Tm):List Tm:=q.map fun b=>(a.1.add b.1,a.2*b.2)
theorem Dl0 (p:List Tm) (a:Tm) (q:List Tm):An8 (p ++ [a]) q=An8 p q ++ Ev4 a q:=by simp[An8,Ev4]
theorem Df7 (p:List Tm) (a:Tm) (q:List Tm):An8 (a :: p) q=Ev4 a q ++ An8 p q:=rfl
theorem Bg4 {D a:Nat} {l l' E:List Tm} (h:Dp6 D l a E) (e:l=l'):Dp6 D l' a E:=e ▸ h
def Fo9 (g:Nat) (sp sq:Sl) (p q:List Tm) (D N:Nat) (l:List PL) (W:PW):Prop:=match l with
 | [.val (.int .i64 i),_]=>∃j:Nat,i=(j:Int)∧j≤p.length∧Ab0 141 127 W sp p∧Ab0 141 127 W sq q∧Ct4 (p.take j) q∧∃es c E a b,Ai4 141 W g es c E∧Dp6 D (An8 (p.take j) q) a E∧Fit D b (An8 (p.drop j) q)∧a+b≤N
 | _=>False
def Fp5 (g j:Nat) (sp sq:Sl) (p q:List Tm) (t:Tm) (D N:Nat) (l:List PL) (W:PW):Prop:=match l with
 | [.val (.int .i64 i),_]=>∃k:Nat,i=(k:Int)∧k≤q.length∧Ab0 141 127 W sp p∧Ab0 141 127 W sq q∧(∀b∈q.take k,(t.1.add b.1).ok)∧(∃s1 b1 s2,Ab3 141 W s1 b1 s2 t.2)∧∃es c E a b,Ai4 141 W g es c E∧Dp6 D (An8 (p.take j) q ++ Ev4 t (q.take k)) a E∧Fit D b (Ev4 t (q.drop k) ++ An8 (p.drop (j+1)) q)∧a+b≤N
 | _=>False
def cn1 (n:Nat) (l:List PL) (W:PW):Nat:=match l with
 | .val (.int .i64 i) :: _=>n-i.toNat
 | _=>0
theorem Dx5 {W0:PW} {M:Nat→Prop} {sp sq:Sl} {p q:List Tm} {k:Nat} (h1:Ab0 141 127 W0 sp p) (h2:Ab0 141 127 W0 sq q) (b1:Bd k p) (b2:Bd k q) (hk:k≤134217728) (hp:p.length≤1073741824) (hq:q.length≤1073741824) (hpq:p.length*q.length≤1073741824):
  Aa0 Tryz.prog 100 [.agg ⟨[sp.v]⟩,.agg ⟨[sq.v]⟩] W0 M fun v W'=>∃(s':Sl),v = .tuple ⟨[.agg ⟨[Sl.v s']⟩,.bool (decide (Ct4 p q))]⟩∧Ab0 141 127 W' s' (Fm8 p q):=by
 apply Dc0
 intro g W2 hE2 _ hg hS hh
 obtain⟨D,N,hF,hD,hn1,hn2⟩:=b1.Ff3 b2
 have hk1:1≤k+k:=Nat.le_trans (Fc3 hD) hn1
 refine⟨Fo9 g sp sq p q D N,cn1 p.length,⟨0,rfl,by omega,h1.ext hE2,h2.ext hE2,fun a ha=>by simp at ha,#[],0,[],0,N,Ai4.new hS hh,Dp6.nil D,hF,by omega⟩,?_⟩
 rintro s5 i6 W7 ⟨j,rfl,hj,hP,hQ,hok,es,c,E,a,b,hs,hsm,hf,hab⟩
 have np:=hP.n
 refine⟨fun hlt=>?_,fun hge=>?_⟩
 ·have hjl:j<p.length:=by omega
  obtain⟨h0,s1,d1,s2,he,_,_,hr⟩:=hP.at (List.getElem?_eq_getElem hjl)
  rw[List.drop_eq_getElem_cons hjl,Df7] at hf
  refine⟨hP.inB (by omega) (by omega),_,_,_,s1,d1,s2,he,fun l W=>Fp5 g j sp sq p q p[j] D N l W∧Ab3 141 W s1 d1 s2 p[j].2,cn1 q.length,⟨⟨0,rfl,by omega,hP,hQ,fun b hb=>by simp at hb,⟨s1,d1,s2,hr⟩,es,c,E,a,b,hs,Bg4 hsm (by simp[Ev4]),hf,hab⟩,hr⟩,?_⟩
  rintro s16 i17 W18 ⟨⟨k',rfl,hk',hP',hQ',hok',_,es',c',E',a',b',hs',hsm',hf',hab'⟩,hr'⟩
  have nq:=hQ'.n
  refine⟨fun hlt'=>?_,fun hge'=>⟨by unfold I64;omega,⟨j+1,by push_cast;rfl,by omega,hP',hQ',?_,es',c',E',a',b',hs',?_,?_,hab'⟩,?_⟩⟩
  ·have hkl:k'<q.length:=by omega
   obtain⟨h0',s3,d3,s4,he',_,_,hr3⟩:=hQ'.at (List.getElem?_eq_getElem hkl)
   refine⟨hQ'.inB (by omega) (by omega),_,_,_,s3,d3,s4,he',Cs6 h0 h0' fun W26 hE26 _=>⟨_,_,_,_,rfl,fun hno W31 hE31=>?_,fun hyes=>?_⟩⟩
   ·have hno:¬(p[j].1.add q[k'].1).ok:=by simpa using hno
    have hM:¬Ct4 p q:=fun h=>hno (h _ (List.getElem_mem hjl) _ (List.getElem_mem hkl))
    refine⟨⟨none,0,0⟩,?_,?_⟩
    ·rw[decide_eq_false hM]
    ·unfold Fm8
     rw[if_neg hM]
     exact Ab0.nil W31
   ·have hyes:(p[j].1.add q[k'].1).ok:=by simpa using hyes
    have hmm:mulMon p[j].1 q[k'].1=p[j].1.add q[k'].1:=by unfold mulMon;rw[if_pos hyes]
    rw[hmm]
    rw[List.drop_eq_getElem_cons hkl] at hf'
    obtain⟨n,m,hnm,hfq,hf''⟩:=hf'
    refine Ak9 (hr'.ext hE26) (hr3.ext hE26) (b1.sz _ (List.getElem_mem hjl)) (b2.sz _ (List.getElem_mem hkl)) (by omega) (by omega) fun s34 d35 s36 W33 hE33 h33=>⟨s34,d35,s36,rfl,?_⟩
    have hE:=hE26.trans hE33
    refine Bj5 (k:=k+k) (m:=p[j].1.add q[k'].1) (hs'.ext hE) hyes h33 (fun t ht=>((hsm'.fit.mem ht).mono (by omega:a'≤N)).sz hD hn1 hn2) ((hfq.mono (by omega:n≤N)).sz hD hn1 hn2) (by omega) hk1 (.inr hg) fun W' W'' es2 c2 E2 hE' hX hs2 hs3 hA=>⟨rfl,by unfold I64;omega,⟨⟨k'+1,by push_cast;rfl,by omega,(hP'.ext (hE.trans hE')).map hX hs2.heap,(hQ'.ext (hE.trans hE')).map hX hs2.heap,?_,⟨s1,d1,s2,(hr'.ext (hE.trans hE')).map hX hs2.heap⟩,es2,c2,E2,a'+n,m,hs3,?_,hf'',by omega⟩,(hr'.ext (hE.trans hE')).map hX hs2.heap⟩,?_⟩
    ·intro b hb
     rw[As0 hkl] at hb
     rcases List.mem_append.1 hb with hb | hb
     ·exact hok' b hb
     ·simp at hb;subst hb;exact hyes
    ·refine Bg4 (hsm'.add hA hfq) ?_
     rw[As0 hkl,show Ev4 p[j] (q.take k' ++ [q[k']])=Ev4 p[j] (q.take k') ++ [(p[j].1.add q[k'].1,p[j].2*q[k'].2)] from List.map_append,List.append_assoc]
    ·show q.length-Int.toNat ((k':Int)+1)<q.length-Int.toNat (k':Int)
     omega
  ·intro a ha b hb
   rw[As0 hjl] at ha
   rcases List.mem_append.1 ha with ha | ha
   ·exact hok a ha b hb
   ·simp at ha;subst ha
    have:k'=q.length:=by omega
    subst this
    rw[List.take_length] at hok'
    exact hok' b hb
  ·have:k'=q.length:=by omega
   subst this
   refine Bg4 hsm' ?_
   rw[List.take_length,As0 hjl,Dl0]
  ·have:k'=q.length:=by omega
   subst this
   simpa[Ev4] using hf'
  ·show p.length-Int.toNat ((j:Int)+1)<p.length-Int.toNat (j:Int)
   omega
 ·have hj':j=p.length:=by omega
  subst hj'
  rw[List.take_length] at hsm hok
  have hlen:=hsm.len
  rw[Eb1] at hlen
  refine Ch8 (k:=k+k) hs (fun t ht=>((hsm.fit.mem ht).mono (by omega:a≤N)).sz hD hn1 hn2) (by omega) (by omega) fun s' W' hE' hp'=>⟨s',rfl,fun W18 hE18=>⟨s',?_,?_⟩⟩
  ·rw[decide_eq_true hok]
  ·unfold Fm8
   rw[if_pos hok,←hsm.norm]
   exact hp'.ext hE18
theorem Ct0 {W0 W:PW} {M:Nat→Prop} {sp sq:Sl} {p q:List Tm} {k:Nat} {K:Value→PW→Prop} (h1:Ab0 141 127 W sp p) (h2:Ab0 141 127 W sq q) (b1:Bd k p) (b2:Bd k q) (hk:k≤134217728) (hp:p.length≤1073741824) (hq:q.length≤1073741824) (hpq:p.length*q.length≤1073741824) (kont: ∀(s':Sl) (W':PW),Ext W W'→(Ab0 141 127 W' s' (Fm8 p q))→K (.tuple ⟨[.agg ⟨[Sl.v s']⟩,.bool (decide (Ct4 p q))]⟩) W'):
  Aa1 Tryz.prog W0 M 100 [.agg ⟨[sp.v]⟩,.agg ⟨[sq.v]⟩] W K:=
 Aa2 (fun W' hE=>Dx5 (M:=fun _=>False) (h1.ext hE) (h2.ext hE) b1 b2 hk hp hq hpq) (fun W' v W'' hE hE' hP=>by
  obtain⟨s',rfl,h⟩:=hP
  exact kont s' W'' (hE.trans hE') h)
end Go.Proofs.YtahohahjnhfedaaGreatDoor
/- cinctureref1: Degree, MonoCmp, MonoMul; put, PolyOf. -/
namespace Go.Proofs.YtahohahjnhfedaaGreatDoor
open Go Go.SX
theorem Da6 {W0:PW} {M:Nat→Prop} {m:Mon} (hm:m.ok):
  Aa0 Tryz.prog 142 [.agg ⟨[.int .u8 m.x,.int .u8 m.y,.int .u8 m.z]⟩] W0 M fun v W'=>v = .int .i64 m.deg∧True:=by
 apply Bs4
 unfold Mon.ok at hm
 exact⟨⟨by omega,by omega⟩,by unfold I64;omega,⟨by omega,by omega⟩,by unfold I64;omega,by unfold I64;omega,⟨by omega,by omega⟩,by unfold I64;omega,by unfold I64;omega,fun W1 _=>⟨rfl,trivial⟩⟩
theorem Al9 {W0 W:PW} {M:Nat→Prop} {m:Mon} {K:Value→PW→Prop} (hm:m.ok) (kont: ∀(W':PW),Ext W W'→(True)→K (.int .i64 m.deg) W'):
  Aa1 Tryz.prog W0 M 142 [.agg ⟨[.int .u8 m.x,.int .u8 m.y,.int .u8 m.z]⟩] W K:=
 Aa2 (fun W' hE=>Da6 (M:=fun _=>False) hm) (fun W' v W'' hE hE' hP=>by
  obtain⟨rfl,h⟩:=hP
  exact kont W'' (hE.trans hE') h)
theorem Ck7 {W0:PW} {M:Nat→Prop} {a b:Mon} (ha:a.ok) (hb:b.ok):
  Aa0 Tryz.prog 107 [.agg ⟨[.int .u8 a.x,.int .u8 a.y,.int .u8 a.z]⟩,.agg ⟨[.int .u8 b.x,.int .u8 b.y,.int .u8 b.z]⟩] W0 M fun v W'=>v = .int .i64 (a.cmp b)∧True:=by
 apply Bn9
 refine Al9 ha fun W2 _ _=>⟨_,rfl,Al9 hb fun W5 hE5 _=>⟨_,rfl,fun hne=>?_,fun heq=>?_⟩⟩
 ·refine Al9 ha fun W8 _ _=>⟨_,rfl,Al9 hb fun W11 _ _=>⟨_,rfl,fun h W13 _=>⟨?_,trivial⟩,fun h W14 _=>⟨?_,trivial⟩⟩⟩
  ·rw[Ch0];unfold As4;rw[if_pos h];simp
  ·rw[Ch0];unfold As4;rw[if_neg h,if_neg hne];simp
 ·have hdeg:a.deg=b.deg:=by omega
  have hcm:a.cmp b=Ey8 a b:=by rw[Ch0];unfold As4;simp[hdeg]
  rw[hcm]
  refine⟨fun l W=>match l with | [.val (.int .i64 i)]=>∃k:Nat,i=(k:Int)∧k≤3∧∀j,j<k→An6 a j=An6 b j | _=>False,fun l _=>match l with | [.val (.int .i64 i)]=>3-i.toNat | _=>0,⟨0,rfl,by omega,fun j hj=>by omega⟩,?_⟩
  rintro i17 W18 ⟨k,rfl,hk,hj⟩
  refine⟨fun hlt=>?_,fun hge W25 _=>⟨?_,trivial⟩⟩
  ·have hk3:k<3:=by omega
   have hr:(0:Int)≤(k:Int)∧(k:Int)<3:=⟨by omega,by omega⟩
   have ba:=Aw0 a hk3 _ _ _ rfl rfl rfl
   have bb:=Aw0 b hk3 _ _ _ rfl rfl rfl
   refine⟨hr,_,ba,hr,_,bb,fun h W21 _=>⟨?_,trivial⟩,fun h=>⟨hr,_,ba,hr,_,bb,fun h' W24 _=>⟨?_,trivial⟩,fun h'=>⟨by unfold I64;omega,⟨k+1,by push_cast;rfl,by omega,fun j hjk=>?_⟩,?_⟩⟩⟩
   ·rw[Dh1 hk3 hj (by omega)];unfold As4;rw[if_pos h]
   ·rw[Dh1 hk3 hj (by omega)];unfold As4;rw[if_neg h,if_neg (by omega)]
   ·by_cases e:j=k
    ·subst e;omega
    ·exact hj j (by omega)
   ·show 3-Int.toNat ((k:Int)+1)<3-Int.toNat (k:Int)
    omega
  ·have:k=3:=by omega
   subst this
   rw[Eq5 hj]
theorem Bx0 {W0 W:PW} {M:Nat→Prop} {a b:Mon} {K:Value→PW→Prop} (ha:a.ok) (hb:b.ok) (kont: ∀(W':PW),Ext W W'→(True)→K (.int .i64 (a.cmp b)) W'):
  Aa1 Tryz.prog W0 M 107 [.agg ⟨[.int .u8 a.x,.int .u8 a.y,.int .u8 a.z]⟩,.agg ⟨[.int .u8 b.x,.int .u8 b.y,.int .u8 b.z]⟩] W K:=
 Aa2 (fun W' hE=>Ck7 (M:=fun _=>False) ha hb) (fun W' v W'' hE hE' hP=>by
  obtain⟨rfl,h⟩:=hP
  exact kont W'' (hE.trans hE') h)
end Go.Proofs.YtahohahjnhfedaaGreatDoor
/- cinctureref1: put, PolyOf. -/
namespace Go.Proofs.YtahohahjnhfedaaGreatDoor
open Go Go.SX
theorem Ce0 {α:Type} {l:List α} {j:Nat} (h:j<l.length):l.take (j+1)=l.take j ++ [l[j]]:=by
 rw[List.take_add_one,List.getElem?_eq_getElem h];rfl
theorem Hi3 {a b:Mon} :([Value.int .u8 a.x,.int .u8 a.y,.int .u8 a.z] = [.int .u8 b.x,.int .u8 b.y,.int .u8 b.z])↔a=b:=by
 constructor
 ·intro h
  simp only[List.cons.injEq,Value.int.injEq,true_and,and_true] at h
  exact Mon.Fp2 h.1 h.2.1 h.2.2
 ·rintro rfl;rfl
theorem Ds0 {z:Int} :By8 z=0↔z=0:=by
 unfold By8
 split
 ·constructor<;>intro h<;>omega
 ·split
  ·simp_all
  ·constructor<;>intro h<;>omega
theorem Ds5 {q:Rat} :q.num=0↔q=0:=Rat.num_eq_zero
theorem Hr4 {W:PW} {t:TypeId} {sz:Nat} {s:Sl} {xs:List (List Value)} (h:Row W t sz s xs):(s.n:Int)≤(s.c:Int):=by
 have:=h.2.1
 omega
def Hs3 (W0:PW) (p:List Tm) (m:Mon) (l:List PL) (W:PW):Prop:=match l with
 | [.val (.int .i64 i)]=>∃j:Nat,i=(j:Int)∧j≤p.length∧Ext W0 W∧∀t∈p.take j,t.1.lt m
 | _=>False
def Hs4 (W0:PW) (p:List Tm) (m:Mon) (l:List PL) (W:PW):Prop:=match l with
 | [.val (.int .i64 i)]=>∃j:Nat,i=(j:Int)∧j≤p.length∧Ext W0 W∧(∀t∈p.take j,t.1.lt m)∧∀t∈(p.drop j).head?,¬t.1.lt m
 | _=>False
theorem Hd3 {p:List Tm} {t:Tm} {j:Nat} (hj:j≤p.length) (h: ∀x∈p.take j,x.1.lt t.1) (h2: ∀x∈(p.drop j).head?,¬x.1.lt t.1) (hne: ∀x∈(p.drop j).head?,x.1≠t.1):Bg6 p t=if t.2=0 then p else p.take j ++ t :: p.drop j:=by
 rw[Hp3 hj h]
 cases hd:p.drop j with
 | nil=>
  rw[Bg6]
  split
  ·have:=List.take_append_drop j p
   rw[hd] at this
   exact this
  ·rfl
 | cons e r=>
  rw[hd] at h2 hne
  rw[Bg6,if_neg (h2 e (by simp)),if_neg (hne e (by simp))]
  split
  ·rw[←hd,List.take_append_drop]
  ·rfl
theorem Ho3 {W0:PW} {M:Nat→Prop} {sp s s':Sl} {p:List Tm} {m:Mon} {b:Bool} {q:Rat} {k:Nat} (hp:Ag1 141 135 W0 sp p) (hq:Ab6 141 W0 b s s' q) (hm:m.ok) (hs: ∀t∈p,Sz k t.2) (hz:Sz k q) (hk:k≤100000000) (hl:p.length≤1073741824):
  Aa0 Tryz.prog 68 [sp.v,.agg ⟨[.int .u8 m.x,.int .u8 m.y,.int .u8 m.z,.bool b,s.v,s'.v]⟩] W0 M fun v W'=>∃(s2:Sl),v=Sl.v s2∧Ag1 141 135 W' s2 (Bg6 p (m,q)):=by
 apply Hi1
 have hn:=hp.n
 have hc:(sp.n:Int)≤(sp.c:Int):=let⟨_,h,_⟩:=hp;Hr4 h
 refine⟨Hs4 W0 p m,⟨Hs3 W0 p m,fun l _=>match l with | [.val (.int .i64 i)]=>p.length-i.toNat | _=>0,⟨0,rfl,by omega,Ext.refl _,fun t ht=>by simp at ht⟩,?_⟩,?_⟩
 ·rintro i4 W5 ⟨j,rfl,hj,hE5,hlt⟩
  refine⟨fun hjn=>?_,fun hge=>⟨j,rfl,hj,hE5,hlt,fun t ht=>?_⟩⟩
  ·have hjl:j<p.length:=by omega
   obtain⟨h0,b1,s1,s2,_,e2,_,_⟩:=(hp.ext hE5).at (List.getElem?_eq_getElem hjl)
   refine⟨(hp.ext hE5).inB (by omega) (by omega),_,_,_,e2,Bx0 h0 hm fun W10 hE10 _=>⟨_,rfl,fun hneg=>⟨by unfold I64;omega,⟨j+1,by push_cast;rfl,by omega,hE5.trans hE10,fun t ht=>?_⟩,?_⟩,fun hnn=>⟨j,rfl,hj,hE5.trans hE10,hlt,fun t ht=>?_⟩⟩⟩
   ·rw[Ce0 hjl] at ht
    rcases List.mem_append.1 ht with ht | ht
    ·exact hlt t ht
    ·simp at ht;subst ht;exact Mon.Dm2.1 hneg
   ·show p.length-Int.toNat ((j:Int)+1)<p.length-Int.toNat (j:Int)
    omega
   ·rw[List.drop_eq_getElem_cons hjl] at ht
    have ht:some p[j]=some t:=ht
    have ht:=Option.some.inj ht
    subst ht
    exact fun h=>hnn (Mon.Dm2.2 h)
  ·rw[List.drop_eq_nil_of_le (by omega)] at ht
   simp at ht
 rintro i12 W13 ⟨j,rfl,hj,hE13,hlt,hge⟩
 refine⟨fun hjn=>?_,fun hjn=>?_⟩
 ·have hjl:j<p.length:=by omega
  have hib:=(hp.ext hE13).inB (i:=(j:Int)) (by omega) (by omega)
  obtain⟨h0,b1,s1,s2,_,e2,e3,hr⟩:=(hp.ext hE13).at (List.getElem?_eq_getElem hjl)
  refine⟨hib,_,_,_,e2,fun heq=>⟨hib,b1,s1,s2,e3,?_⟩,fun hneq=>?_⟩
  ·have hmm:p[j].1=m:=Hi3.1 heq
   have hpp:Bg6 p (m,q)=p.take j ++ (if p[j].2+q=0 then p.drop (j+1) else(p[j].1,p[j].2+q) :: p.drop (j+1)):=by
    rw[Hp3 hj hlt,List.drop_eq_getElem_cons hjl,Bg6,if_neg (hge _ (by rw[List.drop_eq_getElem_cons hjl];rfl)),if_pos hmm]
   refine Bj7 hr (hq.ext hE13) (hs _ (List.getElem_mem hjl)) hz (by omega) (by omega) fun b22 s23 s24 W21 hE21 h21=>⟨b22,s23,s24,rfl,?_⟩
   obtain⟨ys,r1,a1⟩:=hp.ext (hE13.trans hE21)
   have hyl:=a1.len
   refine⟨ys,⟨_,r1⟩,by omega,Aq7 h21.1 fun W27 hE27 _=>⟨_,rfl,fun hz0=>?_,fun hnz=>?_⟩⟩
   ·have hq0:p[j].2+q=0:=Ds5.1 (Ds0.1 hz0)
    have r3:=(r1.ext hE27).cut (lo:=j+1) (hi:=sp.n) (by omega) (by omega)
    refine⟨by unfold I64;omega,⟨by omega,by omega,by omega⟩,⟨by omega,by omega⟩,_,⟨_,r3⟩,by simp;omega,fun s30 W31 hE31 hO _ W32 hE32=>⟨s30,rfl,?_⟩⟩
    rw[hpp,if_pos hq0]
    refine⟨_,(hO.ext hE32).row,?_⟩
    have a2:=a1.mono fun _ _ h=>h.ext (hE27.trans (hE31.trans hE32))
    have hd:ys.take sp.n=ys:=List.take_of_length_le (by omega)
    rw[hd]
    exact(a2.take j).append (a2.drop (j+1))
   ·have hq0:¬p[j].2+q=0:=fun e=>hnz (Ds0.2 (Ds5.2 e))
    refine⟨⟨by omega,by omega⟩,by show j<_;omega,fun s33 W34 hE34 hO _ W35 hE35=>⟨s33,rfl,?_⟩⟩
    rw[hpp,if_neg hq0]
    have hset:p.take j ++ (p[j].1,p[j].2+q) :: p.drop (j+1)=p.set j (p[j].1,p[j].2+q):=by
     rw[List.set_eq_take_append_cons_drop,if_pos hjl]
    rw[hset]
    refine⟨_,(hO.ext hE35).row,?_⟩
    have a2:=a1.mono fun _ _ h=>h.ext (hE27.trans (hE34.trans hE35))
    obtain⟨x,hx,h0',b',sx,sy,rfl,hr'⟩:=a2.get (List.getElem?_eq_getElem hjl)
    have hgx:ys.getD j [] = [.int .u8 p[j].1.x,.int .u8 p[j].1.y,.int .u8 p[j].1.z,.bool b',sx.v,sy.v]:=by
     rw[List.getD_eq_getElem?_getD,hx];rfl
    show An5 _ (ys.set j (patch (ys.getD j []) 3 _)) _
    rw[hgx]
    exact a2.set j ⟨h0,b22,s23,s24,rfl,h21.ext (hE27.trans (hE34.trans hE35))⟩
  ·have hmm:¬p[j].1=m:=fun e=>hneq (Hi3.2 e)
   have hne: ∀x∈(p.drop j).head?,x.1≠m:=by
    rw[List.drop_eq_getElem_cons hjl]
    intro x hx
    have hx:some p[j]=some x:=hx
    have hx:=Option.some.inj hx
    subst hx
    exact hmm
   refine Aq7 (hq.ext hE13).1 fun W53 hE53 _=>⟨_,rfl,fun h0 W55 hE55=>⟨sp,rfl,?_⟩,fun h0=>⟨⟨by omega,by omega,by omega⟩,⟨by omega,by omega,by omega⟩,?_⟩⟩
   ·have hq0:q=0:=Ds5.1 (Ds0.1 h0)
    rw[Hd3 hj hlt hge hne,if_pos hq0]
    exact hp.ext (hE13.trans (hE53.trans hE55))
   ·have hq0:¬q=0:=fun e=>h0 (Ds0.2 (Ds5.2 e))
    obtain⟨ys,r1,a1⟩:=hp.ext (hE13.trans hE53)
    have hyl:=a1.len
    have r2:=r1.cut (lo:=0) (hi:=j) (Nat.zero_le _) (by omega)
    have r3:=r1.cut (lo:=j) (hi:=sp.n) (by omega) (by omega)
    refine Fc8 ?_ 1
    refine⟨_,⟨_,r2⟩,by simp;omega,by simp;omega,_,⟨_,r3⟩,by simp;omega,fun s58 W59 hE59 hO _ W60 hE60=>⟨s58,rfl,?_⟩⟩
    rw[Hd3 hj hlt hge hne,if_neg hq0]
    refine⟨_,(hO.ext hE60).row,?_⟩
    have a2:=a1.mono fun _ _ h=>h.ext (hE59.trans hE60)
    have hd:ys.take sp.n=ys:=List.take_of_length_le (by omega)
    rw[List.drop_zero,hd,List.append_assoc]
    exact(a2.take j).append ⟨⟨hm,b,s,s',rfl,hq.ext (hE13.trans (hE53.trans (hE59.trans hE60)))⟩,a2.drop j⟩
 ·have hne: ∀x∈(p.drop j).head?,x.1≠m:=by
   rw[List.drop_eq_nil_of_le (by omega)]
   intro x hx
   simp at hx
  refine Aq7 (hq.ext hE13).1 fun W53 hE53 _=>⟨_,rfl,fun h0 W55 hE55=>⟨sp,rfl,?_⟩,fun h0=>⟨⟨by omega,by omega,by omega⟩,⟨by omega,by omega,by omega⟩,?_⟩⟩
  ·have hq0:q=0:=Ds5.1 (Ds0.1 h0)
   rw[Hd3 hj hlt hge hne,if_pos hq0]
   exact hp.ext (hE13.trans (hE53.trans hE55))
  ·have hq0:¬q=0:=fun e=>h0 (Ds0.2 (Ds5.2 e))
   obtain⟨ys,r1,a1⟩:=hp.ext (hE13.trans hE53)
   have hyl:=a1.len
   have r2:=r1.cut (lo:=0) (hi:=j) (Nat.zero_le _) (by omega)
   have r3:=r1.cut (lo:=j) (hi:=sp.n) (by omega) (by omega)
   refine Fc8 ?_ 1
   refine⟨_,⟨_,r2⟩,by simp;omega,by simp;omega,_,⟨_,r3⟩,by simp;omega,fun s58 W59 hE59 hO _ W60 hE60=>⟨s58,rfl,?_⟩⟩
   rw[Hd3 hj hlt hge hne,if_neg hq0]
   refine⟨_,(hO.ext hE60).row,?_⟩
   have a2:=a1.mono fun _ _ h=>h.ext (hE59.trans hE60)
   have hd:ys.take sp.n=ys:=List.take_of_length_le (by omega)
   rw[List.drop_zero,hd,List.append_assoc]
   exact(a2.take j).append ⟨⟨hm,b,s,s',rfl,hq.ext (hE13.trans (hE53.trans (hE59.trans hE60)))⟩,a2.drop j⟩
theorem Hd1 {W0 W:PW} {M:Nat→Prop} {sp s s':Sl} {p:List Tm} {m:Mon} {b:Bool} {q:Rat} {k:Nat} {K:Value→PW→Prop} (hp:Ag1 141 135 W sp p) (hq:Ab6 141 W b s s' q) (hm:m.ok) (hs: ∀t∈p,Sz k t.2) (hz:Sz k q) (hk:k≤100000000) (hl:p.length≤1073741824) (kont: ∀(s2:Sl) (W':PW),Ext W W'→(Ag1 141 135 W' s2 (Bg6 p (m,q)))→K (Sl.v s2) W'):
  Aa1 Tryz.prog W0 M 68 [sp.v,.agg ⟨[.int .u8 m.x,.int .u8 m.y,.int .u8 m.z,.bool b,s.v,s'.v]⟩] W K:=
 Aa2 (fun W' hE=>Ho3 (M:=fun _=>False) (hp.ext hE) (hq.ext hE) hm hs hz hk hl) (fun W' v W'' hE hE' hP=>by
  obtain⟨s2,rfl,h⟩:=hP
  exact kont s2 W'' (hE.trans hE') h)
end Go.Proofs.YtahohahjnhfedaaGreatDoor
/- cinctureref1: PolyOf, PolyPlain; poly.Plain; book.SameTerms, law8.Is. -/
namespace Go.Proofs.YtahohahjnhfedaaGreatDoor
open Go Go.SX
def cnL (n:Nat) (l:List PL) (W:PW):Nat:=match l with
 | [_,.val (.int .i64 i)]=>n-i.toNat
 | _=>0
def Gw3 (p:List Tm):List (Mon×ByteArray):=p.map fun t=>(t.1,Ed0 t.2)
theorem Gx1 (p:List Tm):(Gw3 p).length=p.length:=by simp[Gw3]
theorem Gv2 {p:List Tm} {j:Nat} (h:j<p.length):Gw3 (p.take (j+1))=Gw3 (p.take j) ++ [(p[j].1,Ed0 p[j].2)]:=by
 rw[Ce0 h]
 exact List.map_append
def plI (W0:PW) (p:List Tm) (L:List PL) (W:PW):Prop:=match L with
 | [.row xs,.val (.int .i64 i)]=>∃j:Nat,i=(j:Int)∧j≤p.length∧Ext W0 W∧An5 AT xs (Gw3 (p.take j))
 | _=>False
theorem Kd7 {W0:PW} {M:Nat→Prop} {s:Sl} {p:List Tm} {k:Nat} (h:Ag1 141 135 W0 s p) (hs: ∀t∈p,Sz k t.2) (hk:k≤100000000) (hl:p.length≤1073741824):
  Aa0 Tryz.prog 67 [s.v] W0 M fun v W'=>∃(s':Sl),v=Sl.v s'∧Af3 W' s' (Gw3 p):=by
 apply Ka9
 have hn:=h.n
 refine⟨plI W0 p,cnL p.length,⟨0,rfl,by omega,Ext.refl _,trivial⟩,?_⟩
 rintro l3 i4 W5 ⟨j,rfl,hj,hE5,ha⟩
 have hal:=ha.len
 rw[Gx1,List.length_take] at hal
 refine⟨fun hlt=>?_,fun hge s15 W16 hE16 hO _ W17 hE17=>⟨s15,rfl,?_⟩⟩
 ·have hjl:j<p.length:=by omega
  have hp:=h.ext hE5
  have hib:=hp.inB (i:=(j:Int)) (by omega) (by omega)
  obtain⟨h0,b1,s1,s2,_,e2,e3,hr⟩:=hp.at (List.getElem?_eq_getElem hjl)
  refine⟨hib,_,_,_,e2,hib,b1,s1,s2,e3,Cl5 hr (hs _ (List.getElem_mem hjl)) hk fun W13 hE13 _=>⟨_,rfl,hE13,Ext.refl _,by simp;omega,Ext.refl _,by unfold I64;omega,⟨j+1,by push_cast;rfl,by omega,hE5.trans hE13,?_⟩,?_⟩⟩
  ·rw[Gv2 hjl]
   exact ha.snoc ⟨h0,rfl⟩
  ·show p.length-Int.toNat ((j:Int)+1)<p.length-Int.toNat (j:Int)
   omega
 ·have:j=p.length:=by omega
  subst this
  rw[List.take_length] at ha
  exact⟨_,⟨_,(hO.ext hE17).row⟩,ha⟩
theorem Kb3 {W0 W:PW} {M:Nat→Prop} {s:Sl} {p:List Tm} {k:Nat} {K:Value→PW→Prop} (h:Ag1 141 135 W s p) (hs: ∀t∈p,Sz k t.2) (hk:k≤100000000) (hl:p.length≤1073741824) (kont: ∀(s':Sl) (W':PW),Ext W W'→(Af3 W' s' (Gw3 p))→K (Sl.v s') W'):
  Aa1 Tryz.prog W0 M 67 [s.v] W K:=
 Aa2 (fun W' hE=>Kd7 (M:=fun _=>False) (h.ext hE) hs hk hl) (fun W' v W'' hE hE' hP=>by
  obtain⟨s',rfl,h⟩:=hP
  exact kont s' W'' (hE.trans hE') h)
theorem Gn3 {W0:PW} {M:Nat→Prop} {s:Sl} {p:List Tm} {k:Nat} (h:Ab0 141 127 W0 s p) (hs: ∀t∈p,Sz k t.2) (hk:k≤100000000) (hl:p.length≤1073741824):
  Aa0 Tryz.prog 66 [.agg ⟨[s.v]⟩] W0 M fun v W'=>∃(s':Sl),v=Sl.v s'∧Aq4 W0 s'∧Gv0 180 W' s' (Gw3 p):=by
 apply Gl0
 have hn:=h.n
 refine⟨plI W0 p,cnL p.length,⟨0,rfl,by omega,Ext.refl _,trivial⟩,?_⟩
 rintro l3 i4 W5 ⟨j,rfl,hj,hE5,ha⟩
 have hal:=ha.len
 rw[Gx1,List.length_take] at hal
 refine⟨fun hlt=>?_,fun hge s15 W16 hE16 hO hf W17 hE17=>⟨s15,rfl,fun g hg=>(hf g hg).1,?_⟩⟩
 ·have hjl:j<p.length:=by omega
  have hp:=h.ext hE5
  have hib:=hp.inB (i:=(j:Int)) (by omega) (by omega)
  obtain⟨h0,s1,b1,s2,e1,_,_,hr⟩:=hp.at (List.getElem?_eq_getElem hjl)
  refine⟨hib,_,_,_,s1,b1,s2,e1,Dc4 hr (hs _ (List.getElem_mem hjl)) hk fun W13 hE13 _=>⟨_,rfl,by simp;omega,by unfold I64;omega,⟨j+1,by push_cast;rfl,by omega,hE5.trans hE13,?_⟩,?_⟩⟩
  ·rw[Gv2 hjl]
   exact ha.snoc ⟨h0,rfl⟩
  ·show p.length-Int.toNat ((j:Int)+1)<p.length-Int.toNat (j:Int)
   omega
 ·have:j=p.length:=by omega
  subst this
  rw[List.take_length] at ha
  exact⟨_,hO.ext hE17,ha⟩
theorem Go4 {W0:PW} {M:Nat→Prop} {s:Sl} {p:List Tm} {k:Nat} (h:Ab0 141 127 W0 s p) (hs: ∀t∈p,Sz k t.2) (hk:k≤100000000) (hl:p.length≤1073741824):
  Aa0 Tryz.prog 66 [.agg ⟨[s.v]⟩] W0 M fun v W'=>∃(s':Sl),v=Sl.v s'∧Af3 W' s' (Gw3 p):=by
 exact(Gn3 h hs hk hl).mono (fun _ h=>h) fun v W' _ ⟨s',hv,_,hp⟩=>⟨s',hv,hp.Ft4⟩
theorem Gk2 {W0 W:PW} {M:Nat→Prop} {s:Sl} {p:List Tm} {k:Nat} {K:Value→PW→Prop} (h:Ab0 141 127 W s p) (hs: ∀t∈p,Sz k t.2) (hk:k≤100000000) (hl:p.length≤1073741824) (kont: ∀(s':Sl) (W':PW),Ext W W'→(Af3 W' s' (Gw3 p))→K (Sl.v s') W'):
  Aa1 Tryz.prog W0 M 66 [.agg ⟨[s.v]⟩] W K:=
 Aa2 (fun W' hE=>Go4 (M:=fun _=>False) (h.ext hE) hs hk hl) (fun W' v W'' hE hE' hP=>by
  obtain⟨s',rfl,h⟩:=hP
  exact kont s' W'' (hE.trans hE') h)
theorem Gp6 {W0:PW} {M:Nat→Prop} {s t:Sl} {p:List (Mon×ByteArray)} (h1:Af3 W0 s p) (h2:Af3 W0 t p) (hl:p.length≤1099511627776):
  Aa0 Tryz.prog 65 [s.v,t.v] W0 M fun v W'=>v = .bool true∧True:=by
 apply Gg8
 have n1:=h1.n
 have n2:=h2.n
 refine⟨fun h=>absurd (by omega) h,fun _=>⟨fun L W=>match L with | [.val (.int .i64 i)]=>Ext W0 W∧∃j:Nat,i=(j:Int)∧j≤p.length | _=>False,fun L _=>match L with | [.val (.int .i64 i)]=>p.length-i.toNat | _=>0,⟨Ext.refl _,0,rfl,by omega⟩,?_⟩⟩
 rintro i4 W5 ⟨hE,j,rfl,hj⟩
 refine⟨fun hlt=>?_,fun hge W15 _=>⟨rfl,trivial⟩⟩
 have hjl:j<p.length:=by omega
 obtain⟨_,e1,_,_⟩:=(h1.ext hE).at (List.getElem?_eq_getElem hjl)
 obtain⟨_,e2,_,_⟩:=(h2.ext hE).at (List.getElem?_eq_getElem hjl)
 refine⟨(h1.ext hE).inB (by omega) (by omega),_,_,_,_,e1,(h2.ext hE).inB (by omega) (by omega),_,_,_,_,e2,fun h=>absurd rfl h,fun _=>⟨by unfold I64;omega,⟨hE,j+1,by push_cast;rfl,by omega⟩,?_⟩⟩
 show p.length-Int.toNat ((j:Int)+1)<p.length-Int.toNat (j:Int)
 omega
theorem Gk1 {W0 W:PW} {M:Nat→Prop} {s t:Sl} {p:List (Mon×ByteArray)} {K:Value→PW→Prop} (h1:Af3 W s p) (h2:Af3 W t p) (hl:p.length≤1099511627776) (kont: ∀(W':PW),Ext W W'→(True)→K (.bool true) W'):
  Aa1 Tryz.prog W0 M 65 [s.v,t.v] W K:=
 Aa2 (fun W' hE=>Gp6 (M:=fun _=>False) (h1.ext hE) (h2.ext hE) hl) (fun W' v W'' hE hE' hP=>by
  obtain⟨rfl,h⟩:=hP
  exact kont W'' (hE.trans hE') h)
theorem Ko0 {W0:PW} {M:Nat→Prop} {s t:Sl} {p:List Tm} {k:Nat} (h1:Ab0 141 127 W0 s p) (h2:Ag1 141 135 W0 t p) (hs: ∀t∈p,Sz k t.2) (hk:k≤100000000) (hl:p.length≤1073741824):
  Aa0 Tryz.prog 24 [.agg ⟨[s.v]⟩,t.v] W0 M fun v W'=>v = .bool true∧True:=by
 apply Kj5
 exact Gk2 h1 hs hk hl fun s3 W2 hE2 h3=>⟨s3,rfl,Kb3 (h2.ext hE2) hs hk hl fun s6 W5 hE5 h6=>⟨s6,rfl,Gk1 (h3.ext hE5) h6 (by rw[Gx1];omega) fun W8 _ _=>⟨true,rfl,fun W10 _=>⟨rfl,trivial⟩⟩⟩⟩
theorem Ki6 {W0 W:PW} {M:Nat→Prop} {s t:Sl} {p:List Tm} {k:Nat} {K:Value→PW→Prop} (h1:Ab0 141 127 W s p) (h2:Ag1 141 135 W t p) (hs: ∀t∈p,Sz k t.2) (hk:k≤100000000) (hl:p.length≤1073741824) (kont: ∀(W':PW),Ext W W'→(True)→K (.bool true) W'):
  Aa1 Tryz.prog W0 M 24 [.agg ⟨[s.v]⟩,t.v] W K:=
 Aa2 (fun W' hE=>Ko0 (M:=fun _=>False) (h1.ext hE) (h2.ext hE) hs hk hl) (fun W' v W'' hE hE' hP=>by
  obtain⟨rfl,h⟩:=hP
  exact kont W'' (hE.trans hE') h)
end Go.Proofs.YtahohahjnhfedaaGreatDoor
/- cincturelaw8.alive. -/
namespace Go.Proofs.YtahohahjnhfedaaGreatDoor
open Go Go.SX
end Go.Proofs.YtahohahjnhfedaaGreatDoor
/- cinctureref1.PolyParse, poly.Parse, book.Terms, law8.Of. -/
namespace Go.Proofs.YtahohahjnhfedaaGreatDoor
open Go Go.SX
theorem Dd0 {W:PW} {t:TypeId} {sz:Nat} :Go.SX.Own W t sz ⟨none,0,0⟩ []:=⟨⟨by simp,by simp,.inl ⟨rfl,rfl⟩⟩,fun g hg=>by simp[Sl.v,Value.ownBlock] at hg⟩
end Go.Proofs.YtahohahjnhfedaaGreatDoor
/- Exponents up to a bound; products that fit. -/
namespace Go.Proofs.YtahohahjnhfedaaGreatDoor
open Go Go.SX
theorem Gn4 {p q:List Tm} (h:Ct4 p q):Fm8 p q=Ag2 (An8 p q):=by unfold Fm8;rw[if_pos h]
end Go.Proofs.YtahohahjnhfedaaGreatDoor
/- cincturelaw12.System: polynomials of texts. -/
namespace Go.Proofs.YtahohahjnhfedaaGreatDoor
open Go Go.SX
abbrev Ps (W:PW) (s:Sl) (ps:List (List Tm)):Prop:=Gf4 141 127 W s ps
def Kq0 (n:Nat) (l:List PL) (_:PW):Nat:=match l with
 | [.val (.int .i64 i)]=>n-i.toNat
 | _=>0
end Go.Proofs.YtahohahjnhfedaaGreatDoor
/- poly.Diff, cinctureref1.Diff; cincturelaw8.PolyDiffs. -/
namespace Go.Proofs.YtahohahjnhfedaaGreatDoor
open Go Go.SX
def Hj5 (m:Mon) (k:Nat):Mon:=if k=0 then⟨m.x-1,m.y,m.z⟩ else if k=1 then⟨m.x,m.y-1,m.z⟩ else⟨m.x,m.y,m.z-1⟩
def Hc2 (k:Nat) (t:Tm):List Tm:=if 0<An6 t.1 k then[(Hj5 t.1 k,t.2*((An6 t.1 k:Int):Rat))] else[]
def Hc1 (p:List Tm) (k:Nat):List Tm:=p.flatMap (Hc2 k)
def Hc3 (p:List Tm) (i:Int):List Tm:=if 0≤i∧i<3 then Ag2 (Hc1 p i.toNat) else[]
theorem Hc4 {p:List Tm} {j:Nat} (hj:j<p.length) (k:Nat):Hc1 (p.take (j+1)) k=Hc1 (p.take j) k ++ Hc2 k p[j]:=by
 rw[Ce0 hj]
 unfold Hc1
 rw[List.flatMap_append]
 rw[show List.flatMap (Hc2 k) [p[j]]=Hc2 k p[j] from by simp[List.flatMap]]
theorem Ho7 (k:Nat) (t:Tm):(Hc2 k t).length≤1:=by
 unfold Hc2
 split<;>simp
theorem Hd4 (p:List Tm) (k:Nat):(Hc1 p k).length≤p.length:=by
 induction p with
 | nil=>simp[Hc1]
 | cons t r ih=>
  have e:Hc1 (t :: r) k=Hc2 k t ++ Hc1 r k:=rfl
  have:=Ho7 k t
  rw[e]
  simp only[List.length_append,List.length_cons]
  omega
theorem Hl4 {m:Mon} {k:Nat} (h:m.ok) (hk:k<3) (hp:0<An6 m k):(Hj5 m k).ok:=by
 unfold Mon.ok at h
 unfold An6 at hp
 unfold Hj5
 rcases(by omega:k=0∨k=1∨k=2) with rfl | rfl | rfl
 ·simp at hp;exact⟨⟨by show 0≤m.x-1;omega,by show m.x-1≤255;omega⟩,h.2.1,h.2.2⟩
 ·simp at hp;exact⟨h.1,⟨by show 0≤m.y-1;omega,by show m.y-1≤255;omega⟩,h.2.2⟩
 ·simp at hp;exact⟨h.1,h.2.1,by show 0≤m.z-1;omega,by show m.z-1≤255;omega⟩
theorem Hg5 {l:Nat} {p:List Tm} (h:Bd l p) (ho:POk p) (k:Nat):Bd (l+1) (Hc1 p k):=by
 obtain⟨D,N,h1,h2,h3,h4⟩:=h
 have key: ∀{p:List Tm} {N:Nat},Fit D N p→POk p→Fit D (N*255) (Hc1 p k):=by
  intro p
  induction p with
  | nil=>intro N _ _;trivial
  | cons t r ih=>
   rintro N ⟨a,b,g1,g2,g3⟩ ho
   have e:Hc1 (t :: r) k=Hc2 k t ++ Hc1 r k:=rfl
   rw[e]
   have hr:=ih g3 fun x hx=>ho x (by simp[hx])
   have ht:Fit D (a*255) (Hc2 k t):=by
    unfold Hc2
    split
    ·have hk:=Dg9 (ho t (by simp)) k
     have h5:Ak3 1 255 ((An6 t.1 k:Int):Rat):=(Ak3.int (An6 t.1 k)).mono (by omega)
     have h6:=g2.mul h5
     rw[Nat.mul_one] at h6
     exact⟨a*255,0,by omega,h6,trivial⟩
    ·trivial
   have:=ht.append hr
   rw[←Nat.add_mul] at this
   exact this.mono (Nat.mul_le_mul_right _ g1)
 have h5:=Ae5 N 255
 have h6:nl 255≤1:=Bc6 (by decide)
 exact⟨D,N*255,key h1 ho,h2,by omega,by omega⟩
theorem Hq5 (m:Mon) {k:Nat} (hk:k<3) (r:List Value):As9 (.int .u8 m.x :: .int .u8 m.y :: .int .u8 m.z :: r) (0+Int.toNat (k:Int)*1+0) [.int .u8 (An6 m k)]:=by
 rcases(by omega:k=0∨k=1∨k=2) with rfl | rfl | rfl<;>exact⟨by simp,rfl⟩
theorem Hl0 {W0:PW} {M:Nat→Prop} {s:Sl} {p:List Tm} {i:Int} {l:Nat} (h:Ab0 141 127 W0 s p) (hB:Bd l p) (hl:l≤268435456) (hp:p.length≤1073741824):
  Aa0 Tryz.prog 101 [.agg ⟨[s.v]⟩,.int .i64 i] W0 M fun v W'=>∃(s':Sl),v = .agg ⟨[Sl.v s']⟩∧Ab0 141 127 W' s' (Hc3 p i):=by
 apply Hh0
 have hn:=h.n
 refine⟨fun h0 W1 _=>⟨⟨none,0,0⟩,rfl,?_⟩,fun h0=>⟨fun h3 W2 _=>⟨⟨none,0,0⟩,rfl,?_⟩,fun h3=>?_⟩⟩
 ·unfold Hc3;rw[if_neg (by omega)];exact Ab0.nil W1
 ·unfold Hc3;rw[if_neg (by omega)];exact Ab0.nil W2
 obtain⟨k,rfl⟩:=Int.eq_ofNat_of_zero_le (by omega:0≤i)
 have hk3:k<3:=by omega
 have hkr:(0:Int)≤(k:Int)∧(k:Int)<3:=⟨by omega,by omega⟩
 refine⟨fun L W=>match L with
  | [.row xs,.val (.int .i64 i)]=>∃j:Nat,i=(j:Int)∧j≤p.length∧Ext W0 W∧An5 (PT 141 W) xs (Hc1 (p.take j) k)
  | _=>False,cnL p.length,⟨0,rfl,by omega,Ext.refl _,trivial⟩,?_⟩
 rintro l5 i6 W7 ⟨j,rfl,hj,hE7,ha⟩
 have hal:=ha.len
 have hdl:=Hd4 (p.take j) k
 rw[List.length_take] at hdl
 refine⟨fun hlt=>?_,fun hge s46 W47 hE47 hO _=>?_⟩
 ·have hjl:j<p.length:=by omega
  have hP:=h.ext hE7
  obtain⟨h0',s1,b1,s2,e1,_,_,hr⟩:=hP.at (List.getElem?_eq_getElem hjl)
  have hek:=Dg9 h0' k
  have hmu:p.length-Int.toNat ((j:Int)+1)<p.length-Int.toNat (j:Int):=by omega
  have hbx:=Hq5 p[j].1 hk3 [s1.v,.bool b1,s2.v]
  have hw:IntKind.wrap .u8 (An6 p[j].1 k-1)=An6 p[j].1 k-1∨¬0<An6 p[j].1 k:=by
   by_cases h:0<An6 p[j].1 k
   ·exact .inl (Du1 (by omega) (by omega))
   ·exact .inr h
  refine⟨hP.inB (by omega) (by omega),_,_,_,s1,b1,s2,e1,hkr,_,hbx,fun hpos=>⟨hkr,_,hbx,hkr,by omega,⟨⟨trivial,fun e=>?_⟩,fun e=>?_⟩,fun e=>?_⟩,fun hz=>⟨by unfold I64;omega,⟨j+1,by push_cast;rfl,by omega,hE7,?_⟩,hmu⟩⟩
  case refine_4=>
   rw[Hc4 hjl]
   unfold Hc2
   rw[if_neg hz,List.append_nil]
   exact ha
  all_goals
   have hw':IntKind.wrap .u8 (An6 p[j].1 k-1)=An6 p[j].1 k-1:=hw.resolve_right (fun h=>h hpos)
   have hok:=Hl4 h0' hk3 hpos
   have hdt:Hc2 k p[j] = [(Hj5 p[j].1 k,p[j].2*((An6 p[j].1 k:Int):Rat))]:=by unfold Hc2;rw[if_pos hpos]
   have e':k=_:=e
   subst e'
   refine⟨by unfold I64;omega,Ay8 (z:=An6 p[j].1 _) (by unfold I64;omega) fun s18 b19 s20 W17 hE17 h17=>⟨s18,b19,s20,rfl,Ak9 (hr.ext hE17) h17 (hB.sz _ (List.getElem_mem hjl)) ((Ak3.int _).sz (by decide) (k:=l+1) (by rw[Ax0];omega) (Nat.le_trans (Ad1 (by omega:_≤255)) (Nat.le_trans (Bc6 (by decide:255<B^1)) (by omega)))) (by omega) (by omega) fun s23 b24 s25 W22 hE22 h22=>⟨s23,b24,s25,rfl,by simp;omega,by unfold I64;omega,⟨j+1,by push_cast;rfl,by omega,hE7.trans (hE17.trans hE22),?_⟩,hmu⟩⟩⟩
   rw[Hc4 hjl,hdt]
   refine(ha.mono fun _ _ h=>h.ext (hE17.trans hE22)).snoc ⟨hok,s23,b24,s25,?_,h22⟩
   rw[hw']
   rfl
 ·have:j=p.length:=by omega
  subst this
  rw[List.take_length] at ha
  have hdl:=Hd4 p k
  refine An2 (Bf5 hO.row (ha.mono fun _ _ h=>h.ext hE47)) (Hg5 hB h.ok k) (by omega) (by omega) fun s' W49 hE49 hp'=>⟨s',rfl,fun W51 hE51=>⟨s',rfl,?_⟩⟩
  unfold Hc3
  rw[if_pos hkr]
  exact hp'.ext hE51
theorem Hg6 {W0 W:PW} {M:Nat→Prop} {s:Sl} {p:List Tm} {i:Int} {l:Nat} {K:Value→PW→Prop} (h:Ab0 141 127 W s p) (hB:Bd l p) (hl:l≤268435456) (hp:p.length≤1073741824) (kont: ∀(s':Sl) (W':PW),Ext W W'→(Ab0 141 127 W' s' (Hc3 p i))→K (.agg ⟨[Sl.v s']⟩) W'):
  Aa1 Tryz.prog W0 M 101 [.agg ⟨[s.v]⟩,.int .i64 i] W K:=
 Aa2 (fun W' hE=>Hl0 (M:=fun _=>False) (h.ext hE) hB hl hp) (fun W' v W'' hE hE' hP=>by
  obtain⟨s',rfl,h⟩:=hP
  exact kont s' W'' (hE.trans hE') h)
theorem Hg1 {l:Nat} {p:List Tm} (h:Bd l p) (ho:POk p) (i:Int):Bd (l+1) (Hc3 p i):=by
 unfold Hc3
 split
 ·exact(Hg5 h ho _).norm
 ·obtain⟨D,N,h1,h2,h3,h4⟩:=h
  exact⟨1,0,trivial,by decide,by rw[Ax0];omega,by rw[Ag9];omega⟩
theorem Hj1 (p:List Tm) (i:Int):(Hc3 p i).length≤p.length:=by
 unfold Hc3
 split
 ·exact Nat.le_trans (El2 _) (Hd4 p _)
 ·simp
end Go.Proofs.YtahohahjnhfedaaGreatDoor
/- slices.Backward of bytes; mono.Vars. -/
namespace Go.Proofs.YtahohahjnhfedaaGreatDoor
open Go Go.SX Go.RowKit Go.Shelf
attribute [local go_sem] Oper.semAt_some
def Fk6 (Bs:Nat) (v:Value) (b off:Nat) (zs:List Nat) (pre:List (Nat×Nat)) (W:World):Prop:=W.cell? ⟨Bs,0,none⟩=some v∧∀j,j<zs.length-pre.length→W.cell? ⟨b,off+j,none⟩=some (.int .u8 ((zs[j]?.getD 0:Nat):Int))
def Cy9 (x:Nat×Nat):Array Value:=#[.int .i64 (x.1:Int),.int .u8 (x.2:Int)]
set_option maxRecDepth 100000 in
set_option maxHeartbeats 2000000 in
theorem Ee1 (n:Nat) (hn:1≤n) (Bs b off cap:Nat) (zs:List Nat) (hreach:zs.length≤1099511627776):
  Bv9 Fence.wide n Tryz.prog 165 #[.pointer (some ⟨Bs,0,none⟩)] Cy9 (Fk6 Bs (.slice (some ⟨b,off,none⟩) zs.length cap) b off zs) (Fi6 zs) (fun xs=>xs=bks zs zs.length) (fun pre=>∃k,k<zs.length∧pre=bks zs (k+1)):=by
 intro l J Jx W hJ hY h0
 refine callsIn_of_wp Tryz.func165 rfl trivial ?_ rfl
 simp only[Tryz.ntmps165,List.size_toArray,List.length_cons,List.length_nil,Nat.reduceAdd,Nat.reduceSub,Array.replicate_succ,Array.replicate_zero,List.push_toArray,List.append_toArray,List.nil_append,List.cons_append]
 have hbox:W.cell? ⟨Bs,0,none⟩=some (.slice (some ⟨b,off,none⟩) zs.length cap):=(hJ _ _ h0).1
 gi_wp2
 gi_loopw [3,7,8,9,10,11,12,13,14,15,16,17,18] (fun i _ _ _ _ _ _ _ _ _ _ _ _ wr=>∃m:Nat,m≤zs.length∧i = .int .i64 ((m:Int)-1)∧J (bks zs (zs.length-m)) wr)
  (fun i _ _ _ _ _ _ _ _ _ _ _ _ _=>(intOf i+1).toNat)
 case atStart=>exact⟨zs.length,Nat.le_refl _,rfl,by simpa[bks] using h0⟩
 case round=>
  obtain⟨m,hm,rfl,hJs⟩:=hrel
  obtain⟨hbx,hmem⟩:=hJ _ _ hJs
  cases m with
  | zero=>
   gi_wp2
   go_end0
   exact⟨⟨_,rfl⟩,.inl ⟨_,rfl,by simpa using hJs⟩⟩
  | succ k=>
   have hk:k<zs.length:=by omega
   have hcx:wr.cell? ⟨b,off+k,none⟩=some (.int .u8 ((zs[k]?.getD 0:Nat):Int)):=hmem k (by rw[Ah8];omega)
   have e1:((k+1:Nat):Int)-1=(k:Int):=by omega
   have hx:bk zs (zs.length-(k+1))=(k,zs[k]?.getD 0):=by simp only[bk];rw[show zs.length-1-(zs.length-(k+1))=k by omega]
   obtain⟨fn,tmps,assign,body,hy,hR⟩:=hY _ (bk zs (zs.length-(k+1))) wr hJs ⟨by rw[Ah8];omega,by rw[Ah8],by rw[Ah8]⟩
   obtain⟨d,hd⟩: ∃d,zs[k]?.getD 0=d:=⟨_,rfl⟩
   rw[hd] at hcx hx
   rw[hx] at hy hR
   rw[e1]
   dsimp only[Cy9] at hy
   have hpre:bks zs (zs.length-(k+1)) ++ [(k,d)]=bks zs (zs.length-(k+1)+1):=by rw[Bo8,hx]
   gi_wp2
   refine hR.mono ?_
   rintro e W3 (⟨rfl,hJ3⟩ | ⟨rfl,hJx3⟩)
   ·rw[hpre,show zs.length-(k+1)+1=zs.length-k by omega] at hJ3
    gi_wp2
    go_roundw
    case rel=>exact⟨k,by omega,rfl,hJ3⟩
    case measure=>simp[intOf]
   ·rw[hpre] at hJx3
    gi_wp2
    refine bodyPost_ret (results_none rfl _ _ _) rfl ?_
    exact⟨⟨_,rfl⟩,.inr ⟨_,⟨_,by omega,rfl⟩,hJx3⟩⟩
set_option maxRecDepth 100000 in
set_option maxHeartbeats 2000000 in
theorem Cm4 (n:Nat) (hn:1≤n) (Bs:Nat) (A:Option Addr) (cap:Nat) (Mem:List (Nat×Nat)→World→Prop) (hMem: ∀pre W,Mem pre W→W.cell? ⟨Bs,0,none⟩=some (.slice A 0 cap)):
  Bv9 Fence.wide n Tryz.prog 165 #[.pointer (some ⟨Bs,0,none⟩)] Cy9 Mem (Fi6 []) (fun xs=>xs=bks [] 0) (fun pre=>∃k,k<0∧pre=bks [] (k+1)):=by
 intro l J Jx W hJ hY h0
 refine callsIn_of_wp Tryz.func165 rfl trivial ?_ rfl
 simp only[Tryz.ntmps165,List.size_toArray,List.length_cons,List.length_nil,Nat.reduceAdd,Nat.reduceSub,Array.replicate_succ,Array.replicate_zero,List.push_toArray,List.append_toArray,List.nil_append,List.cons_append]
 have hbox:W.cell? ⟨Bs,0,none⟩=some (.slice A 0 cap):=hMem _ _ (hJ _ _ h0)
 gi_wp2
 gi_loopw [3,7,8] (fun i _ _ wr=>i = .int .i64 (-1)∧J [] wr) (fun _ _ _ _=>0)
 case atStart=>exact⟨by simp,h0⟩
 case round=>
  obtain⟨rfl,hJs⟩:=hrel
  gi_wp2
  go_end0
  exact⟨⟨_,rfl⟩,.inl ⟨_,rfl,hJs⟩⟩
def Fw0 (Bs:Nat) (A:Option Addr) (cap:Nat) (zs:List Nat) (pre:List (Nat×Nat)) (W:World):Prop:=W.cell? ⟨Bs,0,none⟩=some (.slice A zs.length cap)∧∀b off,A=some ⟨b,off,none⟩→∀j,j<zs.length-pre.length→W.cell? ⟨b,off+j,none⟩=some (.int .u8 ((zs[j]?.getD 0:Nat):Int))
theorem Fb7 (n:Nat) (hn:1≤n) (Bs:Nat) (A:Option Addr) (cap:Nat) (zs:List Nat) (hreach:zs.length≤1099511627776) (hA:zs = []∨∃b off,A=some ⟨b,off,none⟩):
  Bv9 Fence.wide n Tryz.prog 165 #[.pointer (some ⟨Bs,0,none⟩)] Cy9 (Fw0 Bs A cap zs) (Fi6 zs) (fun xs=>xs=bks zs zs.length) (fun pre=>∃k,k<zs.length∧pre=bks zs (k+1)):=by
 rcases hA with rfl | ⟨b,off,rfl⟩
 ·exact Cm4 n hn Bs A cap _ fun pre W h=>h.1
 ·intro l J Jx W hJ hY h0
  exact Ee1 n hn Bs b off cap zs hreach l J Jx W (fun pre W' h=>⟨(hJ pre W' h).1,(hJ pre W' h).2 b off rfl⟩) hY h0
set_option maxHeartbeats 1000000 in
theorem Cz7 (n:Nat) (a:Option Addr) (len cap:Nat) (w:World):
  CallsIn Fence.wide n Tryz.prog 145 #[.slice a len cap] w fun e w'=>e = .returned (.func (.func 165) #[] #[.pointer (some ⟨w.heap.size,0,none⟩)])∧w'=w.alloc (.cells #[.slice a len cap] 212):=by
 refine callsIn_of_wp Tryz.func145 rfl trivial ?_ rfl
 simp only[Tryz.ntmps145,List.size_toArray,List.length_cons,List.length_nil,Nat.reduceAdd,Nat.reduceSub,Array.replicate_succ,Array.replicate_zero,List.push_toArray,List.append_toArray,List.nil_append,List.cons_append]
 gi_wp2
 go_ret
 exact⟨rfl,rfl⟩
def Dn7 (zs:List Nat):Nat:=if 0<zs[2]?.getD 0 then 3 else if 0<zs[1]?.getD 0 then 2 else if 0<zs[0]?.getD 0 then 1 else 0
set_option maxRecDepth 100000 in
set_option maxHeartbeats 4000000 in
theorem Ff2 (n:Nat) (hn:3≤n) (x y z:Nat) (w:World):
  CallsIn Fence.wide n Tryz.prog 110 #[.agg #[.int .u8 (x:Int),.int .u8 (y:Int),.int .u8 (z:Int)]] w fun e W'=>e = .returned (.int .i64 (Dn7 [x,y,z]:Nat))∧An0 w W':=by
 refine callsIn_of_wp_marks Tryz.func110 rfl trivial ?_ rfl
 simp only[Tryz.ntmps110,List.size_toArray,List.length_cons,List.length_nil,Nat.reduceAdd,Nat.reduceSub,Array.replicate_succ,Array.replicate_zero,List.push_toArray,List.append_toArray,List.nil_append,List.cons_append]
 gi_wp2
 refine⟨trivial,fun _=>by omega,(Cz7 (n-1) _ _ _ _).mono ?_⟩
 rintro e w' ⟨rfl,rfl⟩
 gi_wp2
 obtain⟨W4,hW4⟩: ∃W4,(((w.alloc (.cells #[.int .u8 (x:Int),.int .u8 (y:Int),.int .u8 (z:Int)] 125)).alloc (.cells #[.int .i64 0] 3)).alloc (.cells #[.slice (some ⟨w.heap.size,0,none⟩) 3 3] 212))=W4:=⟨_,rfl⟩
 have hsz:W4.heap.size=w.heap.size+1+1+1:=by rw[←hW4];simp
 have hB4:An0 w W4:=by rw[←hW4];exact⟨((((Below.refl _ w).alloc (Nat.le_refl _) _).alloc (by simp) _).alloc (by simp;omega) _),Nat.le_refl _⟩
 have bL:Boxed W4 (w.heap.size+1+1) 212 (.slice (some ⟨w.heap.size,0,none⟩) 3 3):=by
  rw[←hW4]
  have:=Boxed.new ((w.alloc (.cells #[.int .u8 (x:Int),.int .u8 (y:Int),.int .u8 (z:Int)] 125)).alloc (.cells #[.int .i64 0] 3)) 212 (.slice (some ⟨w.heap.size,0,none⟩) 3 3)
  simpa using this
 have bR:Boxed W4 (w.heap.size+1) 3 (.int .i64 0):=by
  rw[←hW4]
  have:=Boxed.new (w.alloc (.cells #[.int .u8 (x:Int),.int .u8 (y:Int),.int .u8 (z:Int)] 125)) 3 (.int .i64 0)
  simpa using this.alloc (.cells #[.slice (some ⟨w.heap.size,0,none⟩) 3 3] 212)
 have hX0:W4.heap[w.heap.size]?=some (.cells #[.int .u8 (x:Int),.int .u8 (y:Int),.int .u8 (z:Int)] 125):=by
  rw[←hW4]
  rw[Below.heap_alloc _ _ _ (by simp;omega),Below.heap_alloc _ _ _ (by simp)]
  exact World.alloc_heap_new w _
 have hX: ∀j,j<3→W4.cell? ⟨w.heap.size,0+j,none⟩=some (.int .u8 ((([x,y,z]:List Nat)[j]?.getD 0:Nat):Int)):=fun j hj=>by
  simp only[World.cell?,hX0]
  rcases(by omega:j=0∨j=1∨j=2) with rfl | rfl | rfl<;>rfl
 rw[hW4]
 refine As7 (α:=Nat×Nat) (n:=n) rfl (by omega) (gf:=165) (lb:=#[.pointer (some ⟨w.heap.size+1+1,0,none⟩)]) rfl trivial (enters_of Tryz.func165 (by kernel_rfl) rfl)
  (Fb7 (n-1) (by omega) (w.heap.size+1+1) (some ⟨w.heap.size,0,none⟩) 3 [x,y,z] (by simp) (.inr ⟨_,_,rfl⟩)) (fun _=>rfl)
  (fun pre W=>((∀p∈pre,p.2=0)∧W.cell? ⟨w.heap.size+1,0,none⟩=some (.int .i64 0)∧W.frozen? ⟨w.heap.size+1,0,none⟩=false∧(∀j,j<3→W.cell? ⟨w.heap.size,0+j,none⟩=some (.int .u8 ((([x,y,z]:List Nat)[j]?.getD 0:Nat):Int)))∧W.cell? ⟨w.heap.size+1+1,0,none⟩=some (.slice (some ⟨w.heap.size,0,none⟩) 3 3))∧An0 w W)
  (fun c pre W=>(c = .ret∧∃ini last,pre=ini ++ [last]∧(∀p∈ini,p.2=0)∧0<last.2∧W.cell? ⟨w.heap.size+1,0,none⟩=some (.int .i64 ((last.1:Int)+1)))∧An0 w W)
  ?_ ?_ ?_ ?_
  (fun v=>{tmps:=#[.agg #[.int .u8 (x:Int),.int .u8 (y:Int),.int .u8 (z:Int)],.pointer (some ⟨w.heap.size,0,none⟩),.pointer (some ⟨w.heap.size+1,0,none⟩),.int .i64 (v.1:Int),.int .u8 (v.2:Int),.slice (some ⟨w.heap.size,0,none⟩) 3 3,
    .func (.func 165) #[] #[.pointer (some ⟨w.heap.size+1+1,0,none⟩)],.int .i64 (v.1:Int),.int .u8 (v.2:Int),undef,undef,undef,undef],defers:=[] }) ?assign ?body ?done ?stop
 case assign=>
  intro l p W K hK
  simp only[Cy9]
  gi_wp2
  exact hK
 case body=>
  rintro l pre p W ⟨⟨hp,hcr,hfr,hcy,hcl⟩,hB⟩ ⟨hlen,hpre,hpx⟩
  have hi:p.1<3:=by rw[hpx];simp only[bk];simp;omega
  obtain⟨i,v⟩:=p
  dsimp only at *
  gi_wp2
  ·have hlt:0<v:=by first | assumption | omega
   exact⟨(KeepsOthers.setCell _ _ _).from _,⟨rfl,pre,(i,v),rfl,hp,hlt,World.cell?_setCell_same' _ _ _ (by rw[hcr];rfl)⟩,hB.setCell (p:=⟨w.heap.size+1,0,none⟩) (by show w.heap.size≤w.heap.size+1;omega) _⟩
  ·have h0:v=0:=by omega
   refine⟨KeepsFrom.refl _ _,trivial,⟨fun p hp'=>?_,hcr,hfr,hcy,hcl⟩,hB⟩
   rcases List.mem_append.1 hp' with h | h
   ·exact hp p h
   ·simp at h;subst h;exact h0
 case done=>
  rintro D ps W hD rfl ⟨⟨hne,hcr,hfr,hcy,hcl⟩,hB⟩ hK
  gi_wp2
  have hK':=(KeepsOthers.setCell W ⟨w.heap.size+1,0,none⟩ (.int .i64 0)).same D _ hK rfl
  refine⟨by simp,.inl ⟨_,_,rfl,run_takeDeferred hK',?_⟩⟩
  have hc5:=cell_kept (World.cell?_setCell_same' W ⟨w.heap.size+1,0,none⟩ (.int .i64 0) (by rw[hcr];rfl)) (grownBy_putObj' _ D (.deferred none)) (fun r e=>by cases e;exact⟨_,hK',rfl⟩)
  refine⟨.int .i64 0,?_,?_,(hB.setCell (p:=⟨w.heap.size+1,0,none⟩) (by show w.heap.size≤w.heap.size+1;omega) _).put (by omega) hK' rfl rfl⟩
  ·simp[results,Tryz.f110,go_sem,hc5]
  ·have hz: ∀k,k<3→([x,y,z]:List Nat)[3-1-k]?.getD 0=0:=fun k hk=>hne (bk [x,y,z] k) (List.mem_map.2 ⟨k,List.mem_range.2 (by simpa using hk),rfl⟩)
   have h0:=hz 0 (by omega)
   have h1:=hz 1 (by omega)
   have h2:=hz 2 (by omega)
   simp at h0 h1 h2
   simp[Dn7,h0,h1,h2]
 case stop=>
  rintro D c pre W hD ⟨k,hk,rfl⟩ ⟨⟨rfl,ini,last,e1,e2,e3,hcr⟩,hB⟩ hK
  gi_wp2
  refine⟨by simp,.inl ⟨_,_,rfl,run_takeDeferred hK,?_⟩⟩
  rw[Bo8] at e1
  obtain⟨rfl,e5⟩:=List.append_inj' e1 rfl
  have e6:last=bk [x,y,z] k:=by simpa using e5.symm
  subst e6
  have hBD:=hB.put (o':=.deferred none) (by omega) hK rfl rfl
  have hc5:=cell_kept hcr (grownBy_putObj' _ D (.deferred none)) (fun r e=>by cases e;exact⟨_,hK,rfl⟩)
  have hz: ∀j,j<k→([x,y,z]:List Nat)[3-1-j]?.getD 0=0:=fun j hj=>e2 (bk [x,y,z] j) (List.mem_map.2 ⟨j,List.mem_range.2 hj,rfl⟩)
  refine⟨.int .i64 (((bk [x,y,z] k).1:Int)+1),by simp[results,Tryz.f110,go_sem,hc5],?_,hBD⟩
  have hk3:k<3:=by simpa using hk
  rcases(by omega:k=0∨k=1∨k=2) with rfl | rfl | rfl
  ·have e3:0<z:=e3
   simp[Dn7,bk,e3]
  ·have h0:=hz 0 (by omega)
   have e3:0<y:=e3
   simp at h0
   simp[Dn7,bk,e3,h0]
  ·have h0:=hz 0 (by omega)
   have h1:=hz 1 (by omega)
   have e3:0<x:=e3
   simp at h0 h1
   simp[Dn7,bk,e3,h0,h1]
 ·exact Af7.and (Own.Ey9 (fun s A B row hs hg hr=>⟨hs.1,cell_kept hs.2.1 hg hr,(frozen_kept hs.2.1 hg hr).trans hs.2.2.1,fun j hj=>cell_kept (hs.2.2.2.1 j hj) hg hr,cell_kept hs.2.2.2.2 hg hr⟩) _) (Am0 (by omega))
 ·exact fun c=>Af7.and (Own.Ey9 (fun s A B row hs hg hr=>by
   obtain⟨hc,ini,last,e1,e2,e3,e4⟩:=hs
   exact⟨hc,ini,last,e1,e2,e3,cell_kept e4 hg hr⟩) _) (Am0 (by omega))
 ·rintro pre W ⟨⟨_,_,_,hcy,hcl⟩,hB⟩
  refine⟨hcl,fun b off hA j hj=>?_⟩
  cases hA
  exact hcy j (by simp at hj;omega)
 ·exact⟨⟨by simp,bR.cell,bR.frozen,hX,bL.cell⟩,hB4⟩
def Cx8 (m:Mon):Int:=if 0<m.z then 3 else if 0<m.y then 2 else if 0<m.x then 1 else 0
theorem Dj6 {W0:PW} {M:Nat→Prop} {m:Mon} (hm:m.ok):
  Aa0 Tryz.prog 110 [.agg ⟨[.int .u8 m.x,.int .u8 m.y,.int .u8 m.z]⟩] W0 M fun v W'=>v = .int .i64 (Cx8 m)∧True:=by
 refine⟨⟨_,Tryz.func110,rfl,rfl⟩,fun _=>?_⟩
 obtain⟨⟨x0,_⟩,⟨y0,_⟩,z0,_⟩:=hm
 obtain⟨mx,my,mz⟩:=m
 obtain⟨x,rfl⟩:=Int.eq_ofNat_of_zero_le x0
 obtain⟨y,rfl⟩:=Int.eq_ofNat_of_zero_le y0
 obtain⟨z,rfl⟩:=Int.eq_ofNat_of_zero_le z0
 have:=callsIn_wide.1 (Ff2 5 (by omega) x y z W0.w)
 have e:((Dn7 [x,y,z]:Nat):Int)=Cx8 ⟨x,y,z⟩:=by
  simp only[Dn7,Cx8]
  show((if 0<z then 3 else if 0<y then 2 else if 0<x then 1 else 0:Nat):Int)=_
  (repeat' split)<;>omega
 rw[e] at this
 exact Calls.mono this fun e w' ⟨he,hB⟩=>⟨_,he,Bd7 hB,rfl,trivial⟩
theorem Cj8 {W0 W:PW} {M:Nat→Prop} {m:Mon} {K:Value→PW→Prop} (hm:m.ok) (kont: ∀(W':PW),Ext W W'→(True)→K (.int .i64 (Cx8 m)) W'):
  Aa1 Tryz.prog W0 M 110 [.agg ⟨[.int .u8 m.x,.int .u8 m.y,.int .u8 m.z]⟩] W K:=
 Aa2 (fun W' hE=>Dj6 (M:=fun _=>False) hm) (fun W' v W'' hE hE' hP=>by
  obtain⟨rfl,h⟩:=hP
  exact kont W'' (hE.trans hE') h)
end Go.Proofs.YtahohahjnhfedaaGreatDoor
/- poly.Degree, poly.Top. -/
namespace Go.Proofs.YtahohahjnhfedaaGreatDoor
open Go Go.SX
def Fv8 (i:Int) (m:Mon):Int:=if 0≤i∧i<3 then An6 m i.toNat else 0
def Fw5 (W0:PW) (p:List Tm) (i:Int) (L:List PL) (W:PW):Prop:=match L with
 | [.val (.int .i64 a),.val (.int .i64 k)]=>∃j:Nat,k=(j:Int)∧j≤p.length∧Ext W0 W∧a=Fd0 (Fv8 i) 0 (p.take j)
 | _=>False
def Fv5 (p:List Tm) (L:List PL) (_:PW):Nat:=match L with
 | [_,.val (.int .i64 k)]=>p.length-k.toNat
 | _=>0
def Fw1 (W0:PW) (p:List Tm) (L:List PL) (W:PW):Prop:=match L with
 | [.val (.int .i64 a),.val (.int .i64 k)]=>∃j:Nat,k=(j:Int)∧j≤p.length∧Ext W0 W∧a=Fd0 Cx8 0 (p.take j)
 | _=>False
theorem Dd3 {W0:PW} {M:Nat→Prop} {s:Sl} {p:List Tm} (h:Ab0 141 127 W0 s p) (hl:p.length≤1099511627776):
  Aa0 Tryz.prog 70 [.agg ⟨[s.v]⟩] W0 M fun v W'=>v = .int .i64 (Fd0 Cx8 0 p)∧True:=by
 apply Cn0
 have hn:=h.n
 refine⟨Fw1 W0 p,Fv5 p,⟨0,rfl,by omega,Ext.refl _,rfl⟩,?_⟩
 rintro i3 i4 W5 ⟨j,rfl,hj,hE,rfl⟩
 refine⟨fun hlt=>?_,fun hge W13 _=>⟨?_,trivial⟩⟩
 ·have hjl:j<p.length:=by omega
  have hP:=h.ext hE
  obtain⟨k0,c1,d1,c2,e1,_,_,hr⟩:=hP.at (List.getElem?_eq_getElem hjl)
  have hmu:p.length-Int.toNat ((j:Int)+1)<p.length-Int.toNat (j:Int):=by omega
  refine⟨hP.inB (by omega) (by omega),_,_,_,c1,d1,c2,e1,Cj8 k0 fun W13 hE13 _=>⟨_,rfl,by unfold I64;omega,⟨j+1,by push_cast;rfl,by omega,hE.trans hE13,by rw[Ce0 hjl,Em4]⟩,hmu⟩⟩
 ·have:j=p.length:=by omega
  subst this
  rw[List.take_length]
theorem Co3 {W0 W:PW} {M:Nat→Prop} {s:Sl} {p:List Tm} {K:Value→PW→Prop} (h:Ab0 141 127 W s p) (hl:p.length≤1099511627776) (kont: ∀(W':PW),Ext W W'→(True)→K (.int .i64 (Fd0 Cx8 0 p)) W'):
  Aa1 Tryz.prog W0 M 70 [.agg ⟨[s.v]⟩] W K:=
 Aa2 (fun W' hE=>Dd3 (M:=fun _=>False) (h.ext hE) hl) (fun W' v W'' hE hE' hP=>by
  obtain⟨rfl,h⟩:=hP
  exact kont W'' (hE.trans hE') h)
end Go.Proofs.YtahohahjnhfedaaGreatDoor
/- poly.Same. -/
namespace Go.Proofs.YtahohahjnhfedaaGreatDoor
open Go Go.SX
end Go.Proofs.YtahohahjnhfedaaGreatDoor
/- cinctureref1: PolyAdd, PolyScale, PolySub, Var, Const, PolySame. -/
namespace Go.Proofs.YtahohahjnhfedaaGreatDoor
open Go Go.SX
theorem Kj7 {W0:PW} {M:Nat→Prop} {s t:Sl} {b:Bool} {q:Rat} {k:Nat} (h:Ab6 141 W0 b s t q) (hq:Sz k q) (hk:k≤100000000):
  Aa0 Tryz.prog 25 [.agg ⟨[.bool b,s.v,t.v]⟩] W0 M fun v W'=>∃(s':Sl),v=Sl.v s'∧Ag1 141 135 W' s' (Ag2 [(⟨0,0,0⟩,q)]):=by
 apply Ke4
 exact Hd1 (sp:=⟨none,0,0⟩) (m:=⟨0,0,0⟩) (Ag1.nil W0) h (by decide) (fun t ht=>by simp at ht) hq hk (by simp) fun s' W2 hE2 h2=>⟨s',rfl,fun W4 hE4=>⟨s',rfl,h2.ext hE4⟩⟩
theorem Kf1 {W0 W:PW} {M:Nat→Prop} {s t:Sl} {b:Bool} {q:Rat} {k:Nat} {K:Value→PW→Prop} (h:Ab6 141 W b s t q) (hq:Sz k q) (hk:k≤100000000) (kont: ∀(s':Sl) (W':PW),Ext W W'→(Ag1 141 135 W' s' (Ag2 [(⟨0,0,0⟩,q)]))→K (Sl.v s') W'):
  Aa1 Tryz.prog W0 M 25 [.agg ⟨[.bool b,s.v,t.v]⟩] W K:=
 Aa2 (fun W' hE=>Kj7 (M:=fun _=>False) (h.ext hE) hq hk) (fun W' v W'' hE hE' hP=>by
  obtain⟨s',rfl,h⟩:=hP
  exact kont s' W'' (hE.trans hE') h)
end Go.Proofs.YtahohahjnhfedaaGreatDoor
