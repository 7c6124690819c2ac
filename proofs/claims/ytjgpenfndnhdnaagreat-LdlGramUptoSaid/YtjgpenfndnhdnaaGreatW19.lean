/- The matrix of a polynomial of degree 2 has its values: plain law. -/
import Derived.Test.YtjgpenfndnhdnaaGreatW18
import Derived.Test.YtjgpenfndnhdnaaGreatLib4
import Derived.Test.YtjgpenfndnhdnaaGreatW8
import Derived.Test.YtjgpenfndnhdnaaGreatW15
import Derived.Test.YtjgpenfndnhdnaaGreatW16
import Derived.Test.YtjgpenfndnhdnaaGreatW14
import Derived.Test.YtjgpenfndnhdnaaGreatR24
import Derived.Test.YtjgpenfndnhdnaaGreatLib3
import Derived.Test.YtjgpenfndnhdnaaGreatRows
import Derived.WalkKit
import Derived.ProofKit
import Derived.OpenShut
import Derived.JoinedCond
import Derived.Carry
import Derived.Deep.Strs
import Derived.Deep.Slices
set_option linter.unusedVariables false
set_option linter.unusedSimpArgs false
set_option maxRecDepth 100000
set_option linter.unusedVariables false
set_option linter.unusedSimpArgs false
namespace Go.Proofs.YtjgpenfndnhdnaaGreat
open Go Go.SX
def mons:List Mon:=[⟨0,0,0⟩,⟨1,0,0⟩,⟨0,1,0⟩,⟨0,0,1⟩,⟨2,0,0⟩,⟨1,1,0⟩,⟨1,0,1⟩,⟨0,2,0⟩,⟨0,1,1⟩,⟨0,0,2⟩]
theorem mem_mons {m:Mon} (h:m.ok) (hd:m.deg≤2):m∈mons:=by
 obtain⟨x,y,z⟩:=m
 unfold Mon.ok at h
 unfold Mon.deg at hd
 dsimp only at h hd
 rcases(by omega:x=0∨x=1∨x=2) with rfl | rfl | rfl<;>rcases(by omega:y=0∨y=1∨y=2) with rfl | rfl | rfl<;>rcases(by omega:z=0∨z=1∨z=2) with rfl | rfl | rfl<;>first | (exfalso;omega) | simp[mons]
def zat (u:Pt) (n i:Nat):Rat:=if i<n then u.get i else 1
theorem place_val (u:Pt) (c:Rat): ∀n:Nat,1≤n→n≤3→∀m∈mons,varsM m≤(n:Int)→ctm (m,c) u 3=c*(zat u n (pa m n)*zat u n (pb m n)):=by
 intro n h1 h3 m hm hv
 rcases(by omega:n=1∨n=2∨n=3) with rfl | rfl | rfl<;>simp only[mons,List.mem_cons,List.not_mem_nil,or_false] at hm<;>rcases hm with rfl | rfl | rfl | rfl | rfl | rfl | rfl | rfl | rfl | rfl<;>first
  | (exfalso;revert hv;decide)
  | (simp[ctm,zat,pa,pb,pl,eget,Pt.get,Rat.pow_succ,Rat.mul_one,Rat.one_mul]<;>grind)
theorem place_inj: ∀n∈[1,2,3],∀m∈mons,∀m'∈mons,varsM m≤((n:Nat):Int)→varsM m'≤(n:Int)→pa m n=pa m' n∧pb m n=pb m' n∨pa m n=pb m' n∧pb m n=pa m' n→m=m':=by
 decide
theorem lsum_one {a:Nat} {f:Nat→Rat} : ∀{n:Nat},a<n→lsum (fun j=>if j=a then f j else 0) n=f a
 | 0,h=>by omega
 | n+1,h=>by
  simp only[lsum]
  by_cases e:n=a
  ·subst e
   rw[if_pos rfl,lsum_zero fun j hj=>if_neg (by omega),Rat.zero_add]
  ·rw[if_neg e,lsum_one (by omega),Rat.add_zero]
theorem quad_set {M:Nat→Nat→Rat} {z:Nat→Rat} {a b r:Nat} {q:Rat} (h:M a b=0) (ha:a<r) (hb:b<r):quad (setM M a b q) z r=quad M z r+q*(z a*z b):=by
 have e: ∀i,lsum (fun k=>setM M a b q i k*(z i*z k)) r=lsum (fun k=>M i k*(z i*z k)) r+(if i=a then q*(z i*z b) else 0):=fun i=>by
  by_cases hi:i=a
  ·subst hi
   rw[if_pos rfl,←lsum_one (f:=fun k=>q*(z i*z k)) hb,←lsum_add]
   refine lsum_congr fun k _=>?_
   unfold setM
   by_cases hk:k=b
   ·subst hk
    rw[if_pos ⟨rfl,rfl⟩,if_pos rfl,h]
    grind
   ·rw[if_neg (fun e=>hk e.2),if_neg hk,Rat.add_zero]
  ·rw[if_neg hi,Rat.add_zero]
   refine lsum_congr fun k _=>?_
   unfold setM
   rw[if_neg (fun e=>hi e.1)]
 unfold quad
 simp only[e]
 rw[lsum_add,lsum_one (f:=fun i=>q*(z i*z b)) ha]
theorem quad_gset {M:Nat→Nat→Rat} {z:Nat→Rat} {n:Nat} {t:Tm} (ha:pa t.1 n<n+1) (hb:pb t.1 n<n+1) (h1:M (pa t.1 n) (pb t.1 n)=0) (h2:M (pb t.1 n) (pa t.1 n)=0):
  quad (gset n M t) z (n+1)=quad M z (n+1)+t.2*(z (pa t.1 n)*z (pb t.1 n)):=by
 unfold gset
 by_cases e:pa t.1 n=pb t.1 n
 ·rw[if_neg (fun h=>h e),←e]
  rw[←e] at h1
  have:setM (setM M (pa t.1 n) (pa t.1 n) t.2) (pa t.1 n) (pa t.1 n) t.2=setM M (pa t.1 n) (pa t.1 n) t.2:=by
   funext i k
   unfold setM
   split<;>rfl
  rw[this,quad_set h1 ha ha]
 ·rw[if_pos e,quad_set (by unfold setM;rw[if_neg (fun h=>e h.1.symm)];exact h2) hb ha,quad_set h1 ha hb]
  grind
theorem gmat_sz {n K:Nat} (hK:1≤K): ∀(l:List Tm) (M:Nat→Nat→Rat),(∀i j,Sz (K+1) (M i j))→(∀t∈l,Sz K t.2)→∀i j,Sz (K+1) (l.foldl (gset n) M i j)
 | [],M,h,_,i,j=>h i j
 | t :: l,M,h,hl,i,j=>by
  rw[List.foldl_cons]
  refine gmat_sz hK l _ (fun i j=>?_) (fun x hx=>hl x (by simp[hx])) i j
  have ht:=hl t (by simp)
  have hq:Sz (K+1) (if pa t.1 n≠pb t.1 n then t.2/2 else t.2):=by
   split
   ·exact ht.div (l:=1) (by have:=sz_two;simpa using this) (Nat.le_refl _)
   ·exact ht.mono (by omega)
  unfold gset setM
  split
  ·exact hq
  ·split
   ·exact hq
   ·exact h i j
theorem lt_irr (m:Mon):¬m.lt m:=by unfold Mon.lt;omega
theorem gmat_inv {n:Nat} {p:List Tm} (h1:1≤n) (h3:n≤3) (hG:PGood p) (hok:POk p) (hd: ∀t∈p,t.1.deg≤2) (hv: ∀t∈p,varsM t.1≤(n:Int)) (u:Pt):
  ∀k,k≤p.length→quad (gmat n (p.take k)) (zat u n) (n+1)=atQ u (p.take k)∧∀i j,gmat n (p.take k) i j≠0→∃t∈p.take k,i=pa t.1 n∧j=pb t.1 n∨i=pb t.1 n∧j=pa t.1 n
 | 0,_=>⟨by
   show quad (fun _ _=>0) _ _=0
   exact lsum_zero fun i _=>lsum_zero fun k _=>Rat.zero_mul _,fun i j h=>absurd rfl h⟩
 | k+1,hk=>by
  obtain⟨ih1,ih2⟩:=gmat_inv h1 h3 hG hok hd hv u k (by omega)
  have hkl:k<p.length:=by omega
  have hm:=List.getElem_mem hkl
  have hin:=mem_mons (hok _ hm) (hd _ hm)
  have ea:=pa_eq (hok _ hm) (hv _ hm)
  have eb:=pb_eq (hok _ hm) (hv _ hm)
  have hn:n∈[1,2,3]:=by simp;omega
  have new: ∀i j,(i=pa p[k].1 n∧j=pb p[k].1 n∨i=pb p[k].1 n∧j=pa p[k].1 n)→gmat n (p.take k) i j=0:=by
   intro i j hij
   apply Decidable.byContradiction
   intro hne
   obtain⟨t,ht,h⟩:=ih2 i j hne
   have htp:=List.mem_of_mem_take ht
   have e:=place_inj n hn t.1 (mem_mons (hok _ htp) (hd _ htp)) p[k].1 hin (hv _ htp) (hv _ hm) (by omega)
   obtain⟨a,ha,rfl⟩:=List.getElem_of_mem ht
   have hak:a<k:=by simp at ha;omega
   have:=List.pairwise_iff_getElem.1 hG.srt a k (by omega) hkl hak
   rw[List.getElem_take] at e
   rw[e] at this
   exact lt_irr _ this
  have e:gmat n (p.take (k+1))=gset n (gmat n (p.take k)) p[k]:=by
   rw[take_snocR hkl]
   unfold gmat
   rw[List.foldl_append,List.foldl_cons,List.foldl_nil]
  rw[e]
  refine⟨?_,fun i j hne=>?_⟩
  ·rw[quad_gset ea.2 eb.2 (new _ _ (.inl ⟨rfl,rfl⟩)) (new _ _ (.inr ⟨rfl,rfl⟩)),ih1,take_snocR hkl,atQ_snoc,←place_val u p[k].2 n h1 h3 p[k].1 hin (hv _ hm)]
  ·rw[take_snocR hkl]
   unfold gset setM at hne
   by_cases c1:i=pb p[k].1 n∧j=pa p[k].1 n
   ·exact⟨p[k],List.mem_append_right _ (List.mem_singleton.2 rfl),.inr c1⟩
   ·rw[if_neg c1] at hne
    by_cases c2:i=pa p[k].1 n∧j=pb p[k].1 n
    ·exact⟨p[k],List.mem_append_right _ (List.mem_singleton.2 rfl),.inl c2⟩
    ·rw[if_neg c2] at hne
     obtain⟨t,ht,h⟩:=ih2 i j hne
     exact⟨t,List.mem_append_left _ ht,h⟩
theorem gmat_val {n:Nat} {p:List Tm} (h1:1≤n) (h3:n≤3) (hG:PGood p) (hok:POk p) (hd: ∀t∈p,t.1.deg≤2) (hv: ∀t∈p,varsM t.1≤(n:Int)) (u:Pt):quad (gmat n p) (zat u n) (n+1)=atQ u p:=by
 have:=(gmat_inv h1 h3 hG hok hd hv u p.length (Nat.le_refl _)).1
 rwa [List.take_length] at this
end Go.Proofs.YtjgpenfndnhdnaaGreat

/- cincturelaw8.Point. -/
set_option maxRecDepth 100000
set_option linter.unusedVariables false
set_option linter.unusedSimpArgs false
namespace Go.Proofs.YtjgpenfndnhdnaaGreat
open Go Go.SX
def vS:Value→Sl
 | .slice a n c=>⟨a,n,c⟩
 | _=>⟨none,0,0⟩
def vB:Value→Bool
 | .bool b=>b
 | _=>false
def vat (c:List Value) (i:Nat):Value:=c.getD i (.bool false)
def IsPt (W:PW) (c d:List Value) (u:Pt):Prop:=
 (∀k,Sz 3 (u.get k))∧
 (IsRat 260 W (vS (vat c 0)) (vB (vat c 1)) (vS (vat c 2)) u.x∧IsRat 260 W (vS (vat c 3)) (vB (vat c 4)) (vS (vat c 5)) u.y∧IsRat 260 W (vS (vat c 6)) (vB (vat c 7)) (vS (vat c 8)) u.z)∧
 (IsRefQ 260 W (vB (vat d 0)) (vS (vat d 1)) (vS (vat d 2)) u.x∧IsRefQ 260 W (vB (vat d 3)) (vS (vat d 4)) (vS (vat d 5)) u.y∧IsRefQ 260 W (vB (vat d 6)) (vS (vat d 7)) (vS (vat d 8)) u.z)
theorem IsPt.ext {W W':PW} {c d:List Value} {u:Pt} (h:IsPt W c d u) (e:Ext W W'):IsPt W' c d u:=
 ⟨h.1,⟨h.2.1.1.ext e,h.2.1.2.1.ext e,h.2.1.2.2.ext e⟩,⟨h.2.2.1.ext e,h.2.2.2.1.ext e,h.2.2.2.2.ext e⟩⟩
def OkPt (ok:Bool) (W:PW) (c d:List Value):Prop:=ok=true→∃u:Pt,IsPt W c d u
def pointI (W0:PW) (l:List PL) (W:PW):Prop:=match l with
 | [.val (.int .i64 i),.cells _,.cells _,.cells c,.cells d]=>∃(j:Nat) (u:Pt),i=(j:Int)∧j≤3∧Ext W0 W∧IsPt W c d u
 | _=>False
def pointM (l:List PL) (_:PW):Nat:=match l with
 | .val (.int .i64 i) :: _=>(3-i).toNat
 | _=>0
theorem Pt.sz {a b c:Rat} (ha:Sz 3 a) (hb:Sz 3 b) (hc:Sz 3 c): ∀k,Sz 3 ((Pt.mk a b c).get k):=fun k=>by
 unfold Pt.get
 split
 ·exact ha
 ·split
  ·exact hb
  ·exact hc
theorem law8Point_ok {W0:PW} {M:Nat→Prop} {a b c:ByteArray} (ha:a.size≤1099511627776) (hb:b.size≤1099511627776) (hc:c.size≤1099511627776):
  PCallsM Go.Proofs.Tryz.prog 35 [.agg ⟨[.string a,.string b,.string c]⟩] W0 M fun v W'=>∃(s0:Sl),∃(b0:Bool),∃(t0:Sl),∃(s1:Sl),∃(b1:Bool),∃(t1:Sl),∃(s2:Sl),∃(b2:Bool),∃(t2:Sl),∃(e0:Bool),∃(p0:Sl),∃(q0:Sl),∃(e1:Bool),∃(p1:Sl),∃(q1:Sl),∃(e2:Bool),∃(p2:Sl),∃(q2:Sl),∃(ok:Bool),v = .tuple ⟨[.agg ⟨[Sl.v s0,.bool b0,Sl.v t0,Sl.v s1,.bool b1,Sl.v t1,Sl.v s2,.bool b2,Sl.v t2]⟩,.agg ⟨[.bool e0,Sl.v p0,Sl.v q0,.bool e1,Sl.v p1,Sl.v q1,.bool e2,Sl.v p2,Sl.v q2]⟩,.bool ok]⟩∧OkPt ok W' [Sl.v s0,.bool b0,Sl.v t0,Sl.v s1,.bool b1,Sl.v t1,Sl.v s2,.bool b2,Sl.v t2] [.bool e0,Sl.v p0,Sl.v q0,.bool e1,Sl.v p1,Sl.v q1,.bool e2,Sl.v p2,Sl.v q2]:=by
 apply calllaw8_Point
 refine⟨pointI W0,pointM,⟨0,⟨0,0,0⟩,rfl,by omega,Ext.refl _,Pt.sz (Sz.zero (by omega)) (Sz.zero (by omega)) (Sz.zero (by omega)),⟨isRat_nil W0,isRat_nil W0,isRat_nil W0⟩,⟨isRefQ_nil W0,isRefQ_nil W0,isRefQ_nil W0⟩⟩,?_⟩
 rintro s3 b4 s5 s6 b7 s8 s9 b10 s11 b12 s13 s14 b15 s16 s17 b18 s19 s20 s21 b22 s23 s24 b25 s26 s27 b28 s29 b30 s31 s32 b33 s34 s35 b36 s37 s38 i39 W40 ⟨j,u,rfl,hj,hE,hI⟩
 refine⟨fun hlt=>?_,fun hge W54 hE54=>⟨s21,b22,s23,s24,b25,s26,s27,b28,s29,b30,s31,s32,b33,s34,s35,b36,s37,s38,true,rfl,fun _=>⟨u,hI.ext hE54⟩⟩⟩
 have hj3:j<3:=by omega
 obtain⟨t,hbt,hts⟩: ∃t:ByteArray,BoxAt [.string a,.string b,.string c] (0+Int.toNat (j:Int)*1+0) [.string t]∧t.size≤1099511627776:=by
  rcases(show j=0∨j=1∨j=2 by omega) with rfl | rfl | rfl
  ·exact⟨a,⟨by simp,rfl⟩,ha⟩
  ·exact⟨b,⟨by simp,rfl⟩,hb⟩
  ·exact⟨c,⟨by simp,rfl⟩,hc⟩
 refine⟨⟨by omega,hlt⟩,t,hbt,law3Num_call hts fun s44 b45 s46 b47 s48 s49 W43 hE43 ⟨hq,hq2⟩=>⟨s44,b45,s46,b47,s48,s49,_,rfl,fun hs W51 hE51=>⟨s21,b22,s23,s24,b25,s26,s27,b28,s29,b30,s31,s32,b33,s34,s35,b36,s37,s38,false,rfl,fun h=>by cases h⟩,fun hs=>⟨⟨by omega,hlt⟩,t,hbt,fun h16 W53 hE53=>⟨s21,b22,s23,s24,b25,s26,s27,b28,s29,b30,s31,s32,b33,s34,s35,b36,s37,s38,false,rfl,fun h=>by cases h⟩,fun h16=>?_⟩⟩⟩
 obtain⟨q,hq'⟩:=Option.isSome_iff_exists.1 (show(numQ t).isSome=true by simpa using hs)
 rw[hq'] at hq hq2
 have hq:IsRat 260 W43 s44 b45 s46 q:=hq
 have hq2:IsRefQ 260 W43 b47 s48 s49 q:=hq2
 have hsq:Sz 3 q:=by
  unfold numQ at hq'
  rw[if_pos (by omega)] at hq'
  exact(parseQ_sz hq').2 (by omega)
 obtain⟨hz,⟨c0,c1,c2⟩,⟨d0,d1,d2⟩⟩:=hI.ext hE43
 have z0:Sz 3 u.x:=hz 0
 have z1:Sz 3 u.y:=hz 1
 have z2:Sz 3 u.z:=hz 2
 have hE':=hE.trans hE43
 refine⟨⟨by omega,hlt⟩,by omega,⟨⟨trivial,fun e=>?_⟩,fun e=>?_⟩,fun e=>?_⟩
 ·refine⟨⟨by omega,hlt⟩,by omega,⟨⟨trivial,fun _=>⟨by unfold I64;omega,⟨j+1,⟨q,u.y,u.z⟩,by push_cast;rfl,by omega,hE',Pt.sz hsq z1 z2,⟨hq,c1,c2⟩,⟨hq2,d1,d2⟩⟩,by show(3-((j:Int)+1)).toNat<(3-(j:Int)).toNat;omega⟩⟩,fun f=>(by omega)⟩,fun f=>(by omega)⟩
 ·refine⟨⟨by omega,hlt⟩,by omega,⟨⟨trivial,fun f=>(by omega)⟩,fun _=>⟨by unfold I64;omega,⟨j+1,⟨u.x,q,u.z⟩,by push_cast;rfl,by omega,hE',Pt.sz z0 hsq z2,⟨c0,hq,c2⟩,⟨d0,hq2,d2⟩⟩,by show(3-((j:Int)+1)).toNat<(3-(j:Int)).toNat;omega⟩⟩,fun f=>(by omega)⟩
 ·refine⟨⟨by omega,hlt⟩,by omega,⟨⟨trivial,fun f=>(by omega)⟩,fun f=>(by omega)⟩,fun _=>⟨by unfold I64;omega,⟨j+1,⟨u.x,u.y,q⟩,by push_cast;rfl,by omega,hE',Pt.sz z0 z1 hsq,⟨c0,c1,hq⟩,⟨d0,d1,hq2⟩⟩,by show(3-((j:Int)+1)).toNat<(3-(j:Int)).toNat;omega⟩⟩
theorem law8Point_call {W0 W:PW} {M:Nat→Prop} {a b c:ByteArray} {K:Value→PW→Prop} (ha:a.size≤1099511627776) (hb:b.size≤1099511627776) (hc:c.size≤1099511627776) (kont: ∀(s0:Sl) (b0:Bool) (t0:Sl) (s1:Sl) (b1:Bool) (t1:Sl) (s2:Sl) (b2:Bool) (t2:Sl) (e0:Bool) (p0:Sl) (q0:Sl) (e1:Bool) (p1:Sl) (q1:Sl) (e2:Bool) (p2:Sl) (q2:Sl) (ok:Bool) (W':PW),Ext W W'→(OkPt ok W' [Sl.v s0,.bool b0,Sl.v t0,Sl.v s1,.bool b1,Sl.v t1,Sl.v s2,.bool b2,Sl.v t2] [.bool e0,Sl.v p0,Sl.v q0,.bool e1,Sl.v p1,Sl.v q1,.bool e2,Sl.v p2,Sl.v q2])→K (.tuple ⟨[.agg ⟨[Sl.v s0,.bool b0,Sl.v t0,Sl.v s1,.bool b1,Sl.v t1,Sl.v s2,.bool b2,Sl.v t2]⟩,.agg ⟨[.bool e0,Sl.v p0,Sl.v q0,.bool e1,Sl.v p1,Sl.v q1,.bool e2,Sl.v p2,Sl.v q2]⟩,.bool ok]⟩) W'):
  callN Go.Proofs.Tryz.prog W0 M 35 [.agg ⟨[.string a,.string b,.string c]⟩] W K:=
 callN_of (fun W' hE=>law8Point_ok (M:=fun _=>False) ha hb hc) (fun W' v W'' hE hE' hP=>by
  obtain⟨s0,b0,t0,s1,b1,t1,s2,b2,t2,e0,p0,q0,e1,p1,q1,e2,p2,q2,ok,rfl,h⟩:=hP
  exact kont s0 b0 t0 s1 b1 t1 s2 b2 t2 e0 p0 q0 e1 p1 q1 e2 p2 q2 ok W'' (hE.trans hE') h)
end Go.Proofs.YtjgpenfndnhdnaaGreat

/- cincturelaw14.LdlGram. -/
set_option maxRecDepth 100000
set_option linter.unusedVariables false
set_option linter.unusedSimpArgs false
namespace Go.Proofs.YtjgpenfndnhdnaaGreat
open Go Go.SX
def lgI (W1:PW) (l:List PL) (W:PW):Prop:=match l with
 | [.val (.int .i64 i),.cells c]=>∃(j:Nat) (u:Pt),i=(j:Int)∧j≤3∧Ext W1 W∧(∀k,Sz 3 (u.get k))∧IsRat 260 W (vS (vat c 0)) (vB (vat c 1)) (vS (vat c 2)) u.x∧IsRat 260 W (vS (vat c 3)) (vB (vat c 4)) (vS (vat c 5)) u.y∧IsRat 260 W (vS (vat c 6)) (vB (vat c 7)) (vS (vat c 8)) u.z
 | _=>False
theorem cmpQ_nn {q:Rat} (h:0≤q):0≤cmpQ q 0:=Int.not_lt.1 fun e=>cmpQ_neg.1 e h
theorem ldlGram_ok {W0:PW} {M:Nat→Prop} {s:Sl} {L:List (Mon×ByteArray)} {n:Int} {a b c:ByteArray} (h1:IsAPoly W0 s L) (l1:L.length≤1099511627776) (z1: ∀t∈L,t.2.size≤1099511627776) (ha:a.size≤1099511627776) (hb:b.size≤1099511627776) (hc:c.size≤1099511627776):
  PCallsM Go.Proofs.Tryz.prog 7 [s.v,.int .i64 n,.agg ⟨[.string a,.string b,.string c]⟩] W0 M fun v W'=>v = .bool true∧True:=by
 apply calllaw14_LdlGram
 refine law8Of_call h1 l1 z1 fun s3 s4 b5 W2 hE2 g1=>⟨s3,s4,b5,rfl,law8Point_call ha hb hc fun s8 b9 s10 s11 b12 s13 s14 b15 s16 b17 s18 s19 b20 s21 s22 b23 s24 s25 b26 W7 hE7 g2=>⟨s8,b9,s10,s11,b12,s13,s14,b15,s16,b17,s18,s19,b20,s21,s22,b23,s24,s25,b26,rfl,?_⟩⟩
 refine bookWithin_call (by omega) (by omega) (by omega) fun i29 W28 hE28 hi=>⟨i29,rfl,fun _=>lawAlive_call fun W31 _ _=>⟨true,rfl,fun W33 _=>⟨rfl,trivial⟩⟩,fun hb5=>⟨fun _=>lawAlive_call fun W31 _ _=>⟨true,rfl,fun W33 _=>⟨rfl,trivial⟩⟩,fun hb26=>lawAlive_call fun W39 hE39 _=>⟨true,rfl,fun e=>(by cases e),fun _=>?_⟩⟩⟩
 obtain⟨p,op,p1,_⟩:=g1 (by simpa using hb5)
 obtain⟨u,hu,⟨c0,c1,c2⟩,_⟩:=g2 (by simpa using hb26)
 have lp:=op.len
 have hG:=op.1.good
 have hEa:=(hE7.trans hE28).trans hE39
 have q1:=p1.ext hEa
 refine gramMatrix_call q1 hG op.1.sz (by omega) fun s47 b48 W46 hE46 ⟨hg1,hg2⟩=>⟨s47,b48,rfl,fun _ W49 _=>⟨rfl,trivial⟩,fun hb48=>?_⟩
 have hb48:b48=true:=by simpa using hb48
 obtain⟨hn1,hn3,hdeg,hvar⟩:=hg1.1 hb48
 have hm:=hg2 hb48
 obtain⟨k,rfl⟩:=Int.eq_ofNat_of_zero_le (show 0≤i29 by omega)
 rw[Int.toNat_natCast] at hm
 have hsm: ∀i j,Sz 4001 (gmat k p i j):=gmat_sz (by omega) p _ (fun _ _=>Sz.zero (by omega)) op.1.sz
 refine ldlSemi_call hm (by omega) (fun i j _ _=>hsm i j) (by omega) (by omega) (fun t ht=>Ub4001 t (by omega)) fun b52 W51 hE51 hb52=>⟨b52,rfl,fun _ W53 _=>⟨rfl,trivial⟩,fun hb52'=>?_⟩
 obtain⟨L',D,hS,hP,hD⟩:=hb52.1 (by simpa using hb52')
 have hE1:=(hE28.trans hE39).trans (hE46.trans hE51)
 refine⟨lgI W51,fun l _=>match l with | [.val (.int .i64 i),_]=>3-i.toNat | _=>0,⟨k,u,rfl,by omega,Ext.refl _,hu,c0.ext hE1,c1.ext hE1,c2.ext hE1⟩,?_⟩
 rintro s56 b57 s58 s59 b60 s61 s62 b63 s64 i65 W66 ⟨j,v,rfl,hj,hE66,hv,v0,v1,v2⟩
 have v0:IsRat 260 W66 s56 b57 s58 v.x:=v0
 have v1:IsRat 260 W66 s59 b60 s61 v.y:=v1
 have v2:IsRat 260 W66 s62 b63 s64 v.z:=v2
 have y0:Sz 3 v.x:=hv 0
 have y1:Sz 3 v.y:=hv 1
 have y2:Sz 3 v.z:=hv 2
 have y:Sz 3 (0:Rat):=Sz.zero (by omega)
 have hmu:3-Int.toNat ((j:Int)+1)<3-Int.toNat (j:Int)∨¬(j:Int)<3:=by omega
 refine⟨fun hlt=>⟨by omega,by omega,⟨⟨trivial,fun _=>⟨by unfold I64;omega,⟨j+1,⟨0,v.y,v.z⟩,by push_cast;rfl,by omega,hE66,Pt.sz y y1 y2,isRat_zero W66,v1,v2⟩,hmu.resolve_right (by omega)⟩⟩,fun _=>⟨by unfold I64;omega,⟨j+1,⟨v.x,0,v.z⟩,by push_cast;rfl,by omega,hE66,Pt.sz y0 y y2,v0,isRat_zero W66,v2⟩,hmu.resolve_right (by omega)⟩⟩,fun _=>⟨by unfold I64;omega,⟨j+1,⟨v.x,v.y,0⟩,by push_cast;rfl,by omega,hE66,Pt.sz y0 y1 y,v0,v1,isRat_zero W66⟩,hmu.resolve_right (by omega)⟩⟩,fun hge=>?_⟩
 have hok:=p1.ok
 have hsz:=atQ_sz (u:=v) op.1.sz hv (e:=255) (fun t ht i=>eget_le (hok t ht) i)
 have m1:=Nat.mul_le_mul_right (4000+3*(3*255+1)+1) lp
 refine polyAt_call (q1.ext ((hE46.trans hE51).trans hE66)) v0 v1 v2 op.1.sz hv (by omega) (by omega) (by omega) fun s69 b70 s71 W68 hE68 h69=>⟨s69,b70,s71,rfl,ratSign_call h69 hsz (by omega) fun W73 _ _=>⟨_,rfl,fun W75 _=>⟨?_,trivial⟩⟩⟩
 have hval:=gmat_val (n:=k) (by omega) (by omega) hG hok (fun t ht=>by have:=(le_maxf (w:=Mon.deg) (n:=-1) (p:=p)).2 t ht;omega) (fun t ht=>by have:=(le_maxf (w:=varsM) (n:=0) (p:=p)).2 t ht;omega) v
 have hnn:0≤atQ v p:=by
  rw[←hval]
  exact hP.psd hS.2.2 hD (zat v k)
 rw[decide_eq_true (cmpQ_nn hnn)]
end Go.Proofs.YtjgpenfndnhdnaaGreat

/- Arguments opened: what every kind of argument needs. -/
set_option maxRecDepth 100000
set_option linter.unusedVariables false
set_option linter.unusedSimpArgs false
namespace Go.Proofs.YtjgpenfndnhdnaaGreat
open Go Go.SX Go.ChangeShapes Go.WideShapes Go.ChangeAt Go.RowKit Go.Deep
theorem ownKnob_none:ownKnob Go.Proofs.Tryz.prog.godebug=none:=by kernel_rfl
theorem laidOut:laidOutB Go.Proofs.Tryz.prog=true:=by kernel_rfl
theorem cells_str:Go.Proofs.Tryz.prog.cellsOf 9=1:=by kernel_rfl
theorem cell_block {W:World} {b o:Nat} {v:Value} (h:W.cell? ⟨b,o,none⟩=some v): ∃cs t fz,W.heap[b]?=some (.cells cs t fz)∧cs[o]?=some v:=by
 unfold World.cell? at h
 cases e:W.heap[b]? with
 | none=>simp[e] at h
 | some ob=>
  cases ob with
  | cells cs t fz=>exact⟨cs,t,fz,rfl,by simpa[e] using h⟩
  | _=>simp[e] at h
theorem bulk_one {H:Type} (d:DataW H):1≤Rows.uptoBulk d:=by
 cases d with
 | lit l=>cases l<;>simp[Rows.uptoBulk]
 | nil=>simp[Rows.uptoBulk]
 | ptr d=>simp[Rows.uptoBulk]
 | slice elems spare=>simp[Rows.uptoBulk]
 | agg parts=>simp[Rows.uptoBulk]
 | iface t d=>simp[Rows.uptoBulk]
 | map entries=>simp[Rows.uptoBulk]
 | held h=>simp[Rows.uptoBulk]
theorem bulk_part {H:Type} {d:DataW H} {l:List (DataW H)} (h:d∈l):Rows.uptoBulk d≤Rows.uptoBulkAll l:=by
 induction l with
 | nil=>cases h
 | cons x r ih=>
  simp only[Rows.uptoBulkAll]
  cases List.mem_cons.1 h with
  | inl e=>subst e;omega
  | inr e=>have:=ih e;omega
theorem bulk_length {H:Type} (l:List (DataW H)):l.length≤Rows.uptoBulkAll l:=by
 induction l with
 | nil=>simp[Rows.uptoBulkAll]
 | cons x r ih=>have:=bulk_one x;simp only[Rows.uptoBulkAll,List.length_cons];omega
theorem rowA_of_cellsN {W:World} {a:Addr} {n c sz:Nat} {V:Nat→List Value} (h: ∀j,j<n→∀i v,(V j)[i]?=some v→W.cell? (a.add (j*sz+i))=some v) (hV: ∀j,j<n→(V j).length=sz) (hsz:0<sz) (hn:n≤c) (hc:c≤maxLen) (h1: ∀j,j<n→∀u∈V j,u.oneCell'=true):
  RowA ⟨W,fun _=>False⟩ sz ⟨some a,n,c⟩ ((List.range n).map V):=by
 have hel: ∀x∈(List.range n).map V,x.length=sz∧∀u∈x,u.oneCell'=true:=by
  intro x hx
  obtain⟨j,hj,rfl⟩:=List.mem_map.1 hx
  exact⟨hV j (List.mem_range.1 hj),h1 j (List.mem_range.1 hj)⟩
 by_cases h0:n=0
 ·subst h0
  exact⟨0,rfl,Nat.zero_le _,hc,hel,.inl rfl⟩
 ·obtain⟨b,off,sp⟩:=a
  have hlen0:=hV 0 (by omega)
  obtain⟨v0,hv0⟩: ∃v,(V 0)[0]?=some v:=⟨_,List.getElem?_eq_getElem (by omega)⟩
  have hc0:=h 0 (by omega) 0 v0 hv0
  have hsp:sp=none:=by simpa[Addr.add] using World.cell?_spot hc0
  subst hsp
  obtain⟨cs,t,fz,hh,_⟩:=cell_block (by rw[←add_plain];exact hc0)
  refine⟨t,by simp,hn,hc,hel,.inr ⟨b,off,cs,fz,rfl,id,hh,fun j v hj=>?_⟩⟩
  have hjl:=(List.getElem?_eq_some_iff.1 hj).1
  rw[flatten_length (sz:=sz) (fun x hx=>(hel x hx).1)] at hjl
  simp only[List.length_map,List.length_range] at hjl
  have hi:j/sz<n:=(Nat.div_lt_iff_lt_mul hsz).2 hjl
  have hm:j%sz<sz:=Nat.mod_lt _ hsz
  have e:j/sz*sz+j%sz=j:=by rw[Nat.mul_comm];exact Nat.div_add_mod j sz
  have hx:((List.range n).map V)[j/sz]?=some (V (j/sz)):=by simp[hi]
  have hl:=hV _ hi
  have hf:=flatten_at (sz:=sz) (fun x hx=>(hel x hx).1) hx (j:=j%sz) (v:=(V (j/sz))[j%sz]'(by omega)) (List.getElem?_eq_getElem (by omega))
  rw[e,hj] at hf
  have hcell:=h _ hi (j%sz) v (by rw[hf];exact List.getElem?_eq_getElem (by omega))
  rw[e,add_plain] at hcell
  obtain⟨cs',t',fz',hh',hv⟩:=cell_block hcell
  rw[hh] at hh'
  cases hh'
  exact hv
end Go.Proofs.YtjgpenfndnhdnaaGreat

/- An argument that is a slice of terms with texts, opened. -/
set_option maxRecDepth 100000
set_option linter.unusedVariables false
set_option linter.unusedSimpArgs false
namespace Go.Proofs.YtjgpenfndnhdnaaGreat
open Go Go.SX Go.ChangeShapes Go.WideShapes Go.ChangeAt Go.RowKit Go.Deep
instance:Inhabited (Mon×ByteArray):=⟨(⟨0,0,0⟩,⟨#[]⟩)⟩
theorem cells_term:Go.Proofs.Tryz.prog.cellsOf 118=4:=by kernel_rfl
theorem cells_mono:Go.Proofs.Tryz.prog.cellsOf 116=3:=by kernel_rfl
theorem cells_u8:Go.Proofs.Tryz.prog.cellsOf 5=1:=by kernel_rfl
theorem u8_ok {n:Int} (h:(Lit.int .u8 n).wf=true):0≤n∧n≤255:=by
 simp[Lit.wf,IntKind.min,IntKind.max,IntKind.bits,IntKind.signed] at h
 omega
theorem open_term {H:Type} {enc:TypeId×Value→H} {W:World} {fuel:Nat} {cs:List Value} {x:DataW H×List MemPlace} (h:DataW.trod enc Go.Proofs.Tryz.prog W 0 (fun _=>true) true fuel 118 cs=some x):
  ∃t:Mon×ByteArray,AT cs t∧t.2.size≤Rows.uptoBulk x.1:=by
 obtain⟨xs,k,rfl,rfl,hl,hxl,hf⟩:=DataW.trod_struct Go.Proofs.Tryz.underlying118 h
 rw[cells_term] at hl
 have g0:DataW.trod enc Go.Proofs.Tryz.prog W 0 (fun _=>true) true k 116 ((cs.drop 0).take (Go.Proofs.Tryz.prog.cellsOf 116))=xs[0]?:=hf 0 _ rfl
 have g1:DataW.trod enc Go.Proofs.Tryz.prog W 0 (fun _=>true) true k 9 ((cs.drop 3).take (Go.Proofs.Tryz.prog.cellsOf 9))=xs[1]?:=hf 1 _ rfl
 rw[cells_mono] at g0
 rw[cells_str] at g1
 match cs,hl,xs,hxl with
 | [v0,v1,v2,v3],_,[y0,y1],_=>
  have g0:DataW.trod enc Go.Proofs.Tryz.prog W 0 (fun _=>true) true k 116 [v0,v1,v2]=some y0:=g0
  have g1:DataW.trod enc Go.Proofs.Tryz.prog W 0 (fun _=>true) true k 9 [v3]=some y1:=g1
  obtain⟨zs,m,rfl,rfl,_,hzl,hz⟩:=DataW.trod_array Go.Proofs.Tryz.underlying116 g0
  obtain⟨s,hs,rfl,hsz⟩:=DataW.trod_string Go.Proofs.Tryz.underlying9 g1
  have e0:=hz 0 (by omega)
  have e1:=hz 1 (by omega)
  have e2:=hz 2 (by omega)
  rw[cells_u8] at e0 e1 e2
  match zs,hzl with
  | [w0,w1,w2],_=>
   have e0:DataW.trod enc Go.Proofs.Tryz.prog W 0 (fun _=>true) true m 5 [v0]=some w0:=e0
   have e1:DataW.trod enc Go.Proofs.Tryz.prog W 0 (fun _=>true) true m 5 [v1]=some w1:=e1
   have e2:DataW.trod enc Go.Proofs.Tryz.prog W 0 (fun _=>true) true m 5 [v2]=some w2:=e2
   obtain⟨n0,h0,_,k0⟩:=DataW.trod_int Go.Proofs.Tryz.underlying5 e0
   obtain⟨n1,h1,_,k1⟩:=DataW.trod_int Go.Proofs.Tryz.underlying5 e1
   obtain⟨n2,h2,_,k2⟩:=DataW.trod_int Go.Proofs.Tryz.underlying5 e2
   have hs: [v3] = [Value.string s]:=hs
   have h0: [v0] = [Value.int .u8 n0]:=h0
   have h1: [v1] = [Value.int .u8 n1]:=h1
   have h2: [v2] = [Value.int .u8 n2]:=h2
   simp only[List.cons.injEq,and_true] at hs h0 h1 h2
   subst hs h0 h1 h2
   refine⟨(⟨n0,n1,n2⟩,s),⟨⟨u8_ok k0,u8_ok k1,u8_ok k2⟩,rfl⟩,?_⟩
   have e:s.data.toList.length=s.size:=by rw[Array.length_toList];rfl
   simp only[List.map_cons,List.map_nil,Rows.uptoBulk,Rows.uptoBulkAll]
   omega
theorem all2_map {n:Nat} {V:Nat→List Value} {y:Nat→Mon×ByteArray} (h: ∀i,i<n→AT (V i) (y i)):All2 AT ((List.range n).map V) ((List.range n).map y):=by
 induction n with
 | zero=>trivial
 | succ n ih=>
  rw[List.range_succ,List.map_append,List.map_append]
  exact(ih fun i hi=>h i (by omega)).append ⟨h n (by omega),trivial⟩
theorem open_terms {H:Type} {enc:TypeId×Value→H} {W:World} {fuel:Nat} {v:Value} {d:DataW H} {p:List MemPlace} (h:DataW.trod enc Go.Proofs.Tryz.prog W 0 (fun _=>true) true fuel 29 [v]=some (d,p)):
  ∃(s:Sl) (L:List (Mon×ByteArray)),v=s.v∧IsAPoly ⟨W,fun _=>False⟩ s L∧L.length≤Rows.uptoBulk d∧∀t∈L,t.2.size≤Rows.uptoBulk d:=by
 rcases open_slice Go.Proofs.Tryz.underlying29 h with⟨hcs,hx⟩ | ⟨a,len,cap,m,n,D,Pl,hcs,_,hl,hm,hmm,hx,hcell⟩
 ·have hv:v = .slice none 0 0:=by simpa using hcs
  subst hv
  exact⟨⟨none,0,0⟩,[],rfl,⟨[],⟨0,rfl,Nat.le_refl _,Nat.zero_le _,fun x h=>by simp at h,.inl rfl⟩,trivial⟩,Nat.zero_le _,fun l h=>by simp at h⟩
 ·have hv:v = .slice (some a) len cap:=by simpa using hcs
  subst hv
  simp only[if_true] at hmm
  subst hmm
  simp only[Prod.mk.injEq] at hx
  obtain⟨rfl,_⟩:=hx
  rw[cells_term] at hcell
  obtain⟨q,hq⟩: ∃q:Nat→List Value×(Mon×ByteArray),∀i,i<m→W.cells? 0 (a.add (i*4)) 4=some (q i).1∧AT (q i).1 (q i).2∧(q i).2.2.size≤Rows.uptoBulk (D i):=choose_lt (α:=List Value×(Mon×ByteArray)) (p:=fun i q=>W.cells? 0 (a.add (i*4)) 4=some q.1∧AT q.1 q.2∧q.2.2.size≤Rows.uptoBulk (D i)) fun i hi=>by
   obtain⟨cs',h1,h2⟩:=hcell i hi
   obtain⟨t,h3,h4⟩:=open_term h2
   exact⟨(cs',t),h1,h3,h4⟩
  have hr:=rowA_of_cellsN (W:=W) (a:=a) (n:=len) (c:=m) (sz:=4) (V:=fun i=>(q i).1) (fun j hj i v hv=>by
   obtain⟨_,hlen,hc⟩:=World.cells?_some (hq j (by omega)).1
   have hi:i<4:=by have:=(List.getElem?_eq_some_iff.1 hv).1;omega
   have:=hc i hi
   rw[add_add] at this
   rw[this];exact hv) (fun j hj=>(World.cells?_some (hq j (by omega)).1).2.1) (by omega) hl hm (fun j hj u hu=>by
   rw[(hq j (by omega)).2.1.2] at hu
   simp only[List.mem_cons,List.not_mem_nil,or_false] at hu
   rcases hu with rfl | rfl | rfl | rfl<;>rfl)
  have hbulk: ∀i,i<len→Rows.uptoBulk (D i)≤Rows.uptoBulkAll ((List.range len).map D):=fun i hi=>bulk_part (List.mem_map.2 ⟨i,List.mem_range.2 hi,rfl⟩)
  have hlen:=bulk_length ((List.range len).map D)
  simp only[List.length_map,List.length_range] at hlen
  refine⟨⟨some a,len,m⟩,(List.range len).map fun i=>(q i).2,rfl,⟨_,hr,all2_map fun i hi=>(hq i (by omega)).2.1⟩,?_,fun t ht=>?_⟩
  ·simp only[List.length_map,List.length_range,Rows.uptoBulk]
   omega
  ·obtain⟨j,hj,rfl⟩:=List.mem_map.1 ht
   have hj':=List.mem_range.1 hj
   have h1:=hbulk j hj'
   have h2:=(hq j (by omega)).2.2
   simp only[Rows.uptoBulk]
   omega
end Go.Proofs.YtjgpenfndnhdnaaGreat

/- An argument of three strings, opened. -/
set_option maxRecDepth 100000
set_option linter.unusedVariables false
set_option linter.unusedSimpArgs false
namespace Go.Proofs.YtjgpenfndnhdnaaGreat
open Go Go.SX Go.ChangeShapes Go.WideShapes Go.ChangeAt Go.RowKit Go.Deep
theorem three_of {r:Reach} {w:World} {base:Nat} {v:Value} (h:Value.okWide Go.Proofs.Tryz.prog w r base 90 v): ∃xs:Array Value,v = .agg xs∧xs.size=3:=by
 simp only[Value.okWide,Go.Proofs.Tryz.underlying90] at h
 obtain⟨cs,h1,h2,_⟩:=h
 exact⟨cs,h1,by rw[h2];kernel_rfl⟩
theorem open_three {H:Type} {enc:TypeId×Value→H} {W:World} {fuel:Nat} {l:List Value} {d:DataW H} {p:List MemPlace} (h:DataW.trod enc Go.Proofs.Tryz.prog W 0 (fun _=>true) true fuel 90 l=some (d,p)) (hl:l.length=3):
  ∃a b c:ByteArray,l = [.string a,.string b,.string c]∧a.size≤Rows.uptoBulk d∧b.size≤Rows.uptoBulk d∧c.size≤Rows.uptoBulk d:=by
 obtain⟨zs,m,rfl,hx,_,hzl,hz⟩:=DataW.trod_array Go.Proofs.Tryz.underlying90 h
 have e0:=hz 0 (by omega)
 have e1:=hz 1 (by omega)
 have e2:=hz 2 (by omega)
 rw[cells_str] at e0 e1 e2
 match l,hl,zs,hzl with
 | [v0,v1,v2],_,[w0,w1,w2],_=>
  have e0:DataW.trod enc Go.Proofs.Tryz.prog W 0 (fun _=>true) true m 9 [v0]=some w0:=e0
  have e1:DataW.trod enc Go.Proofs.Tryz.prog W 0 (fun _=>true) true m 9 [v1]=some w1:=e1
  have e2:DataW.trod enc Go.Proofs.Tryz.prog W 0 (fun _=>true) true m 9 [v2]=some w2:=e2
  obtain⟨s0,h0,rfl,_⟩:=DataW.trod_string Go.Proofs.Tryz.underlying9 e0
  obtain⟨s1,h1,rfl,_⟩:=DataW.trod_string Go.Proofs.Tryz.underlying9 e1
  obtain⟨s2,h2,rfl,_⟩:=DataW.trod_string Go.Proofs.Tryz.underlying9 e2
  have k0:v0=Value.string s0:=(List.cons.inj (show[v0] = [Value.string s0] from h0)).1
  have k1:v1=Value.string s1:=(List.cons.inj (show[v1] = [Value.string s1] from h1)).1
  have k2:v2=Value.string s2:=(List.cons.inj (show[v2] = [Value.string s2] from h2)).1
  subst k0 k1 k2
  simp only[Prod.mk.injEq] at hx
  obtain⟨rfl,_⟩:=hx
  have k0:s0.data.toList.length=s0.size:=by rw[Array.length_toList];rfl
  have k1:s1.data.toList.length=s1.size:=by rw[Array.length_toList];rfl
  have k2:s2.data.toList.length=s2.size:=by rw[Array.length_toList];rfl
  refine⟨s0,s1,s2,rfl,?_⟩
  simp only[List.map_cons,List.map_nil,Rows.uptoBulk,Rows.uptoBulkAll]
  omega
end Go.Proofs.YtjgpenfndnhdnaaGreat

/- cincturelaw14.LdlGram answers true for every input whose bulk is at most 1048576 (the second form), and its arguments read behind the call as they did ahead of it. -/
set_option maxRecDepth 100000
set_option linter.unusedVariables false
set_option linter.unusedSimpArgs false
namespace Go.Proofs.YtjgpenfndnhdnaaGreat
open Go Go.SX Go.ChangeShapes Go.WideShapes Go.ChangeAt Go.RowKit Go.Deep
theorem contract (H:Type) (enc:TypeId×Value→H) (W:World) (base:Nat) (args:Array Value) (ds gs:List (DataW H)) (before:List MemPlace)
  (hval: ∀(j:Nat) t v,Go.Proofs.Tryz.f7.params[j]?=some t→args[j]?=some v→Value.okWide Go.Proofs.Tryz.prog W .any base t v)
  (hW:DataW.Whole enc Go.Proofs.Tryz.prog Go.Proofs.Tryz.f7.params.toList Rows.ldlGramSpec.vars false W args.toList ds gs before) (hk:Rows.uptoSmall H (ds ++ gs)=true):
  Calls Go.Proofs.Tryz.prog 7 args W fun e W'=>∃v,e = .returned v∧Rows.ldlGramSpec.post enc Go.Proofs.Tryz.prog Go.Proofs.Tryz.f7 false true false false W args v W':=by
 have hW':=hW
 obtain⟨p,q,hA0,hV,rfl,hfz,hnd⟩:=hW
 have hA:DataW.TrodAll enc Go.Proofs.Tryz.prog W 0 (fun _=>true) true Go.Proofs.Tryz.f7.params.toList args.toList ds p:=hA0
 rw[Go.Proofs.Tryz.params7] at hA hval
 obtain⟨v0,vs0,d0,ds0,p0,q0,hargs,rfl,rfl,h0,r0⟩:=trodAll_cons hA
 obtain⟨v1,vs1,d1,ds1,p1,q1,rfl,rfl,rfl,h1,r1⟩:=trodAll_cons r0
 obtain⟨v2,vs2,d2,ds2,p2,q2,rfl,rfl,rfl,h2,r2⟩:=trodAll_cons r1
 obtain⟨rfl,rfl,rfl⟩:=trodAll_nil r2
 obtain rfl:args = #[v0,v1,v2]:=by cases args;simp_all
 obtain⟨rfl,rfl⟩:=trodVars_none hV
 obtain⟨a0,n0,c0,rfl⟩:=okWide_slice Go.Proofs.Tryz.underlying29 (hval 0 29 v0 rfl rfl)
 obtain⟨z1,rfl⟩:=okWide_int Go.Proofs.Tryz.underlying3 (hval 1 3 v1 rfl rfl)
 obtain⟨⟨l2⟩,rfl,hx2⟩:=three_of (hval 2 90 v2 rfl rfl)
 clear hA0
 simp only[List.append_nil] at hW' hk
 have hlt: ∀x∈p0 ++ (p1 ++ p2),x.block<W.heap.size:=fun x hx=>by simpa using hW'.lt x (by simpa using hx)
 have hbulk:Rows.uptoBulkAll [d0,d1,d2]≤1048576:=of_decide_eq_true hk
 simp only[Rows.uptoBulkAll] at hbulk
 have h0k:=h0
 obtain⟨fuel0,hf0⟩:=h0
 have hf0':DataW.trod enc Go.Proofs.Tryz.prog W 0 (fun _=>true) true fuel0 29 [.slice a0 n0 c0]=some (d0,p0):=by simpa[Value.cells] using hf0
 obtain⟨s0,L0,hs0,hL0,hb0,hc0⟩:=open_terms hf0'
 have h1k:=h1
 have h2k:=h2
 obtain⟨fuel2,hf2⟩:=h2
 have hf2':DataW.trod enc Go.Proofs.Tryz.prog W 0 (fun _=>true) true fuel2 90 l2=some (d2,p2):=by simpa[Value.cells] using hf2
 obtain⟨xa2,xb2,xc2,rfl,hxa2,hxb2,hxc2⟩:=open_three hf2' hx2
 have hc:=ldlGram_ok (M:=fun _=>False) (n:=z1) (a:=xa2) (b:=xb2) (c:=xc2) hL0 (by omega) (fun t ht=>by have:=hc0 t ht;omega) (by omega) (by omega) (by omega)
 have hcall:=hc.2 (fun b h=>h.elim)
 rw[hs0]
 refine hcall.mono fun e W' ⟨v,he,hkeep,hv,_⟩=>⟨v,he,?_⟩
 subst hv
 have hbel:=hkeep.below
 refine⟨[d0,d1,d2],[],_,[],p0 ++ (p1 ++ p2),[],(by rw[←hs0];simpa using hW'),trodAll_mk1 (shut_bool Go.Proofs.Tryz.underlying4 _),(by rw[←hs0];exact trodAll_mk3 (Below.trod laidOut (by kernel_rfl) (of_decide_eq_true (by kernel_rfl)) h0k hbel fun x hx=>hlt x (by simp[hx])) (Below.trod laidOut (by kernel_rfl) (of_decide_eq_true (by kernel_rfl)) h1k hbel fun x hx=>hlt x (by simp[hx])) (Below.trod laidOut (by kernel_rfl) (of_decide_eq_true (by kernel_rfl)) h2k hbel fun x hx=>hlt x (by simp[hx]))),rfl,hbel.frame _,fun h=>by cases h⟩
theorem lifted (os:Os) (started:os.Started) (H:Type) (enc:TypeId×Value→H) (F:Stop.Interp):
  ReturnsInHanded {} Go.Proofs.Tryz.checked os 7 .any ((Rows.OpenSpec.upto Rows.ldlGramSpec).pre6 enc Go.Proofs.Tryz.prog Go.Proofs.Tryz.f7 Rows.ldlGramUptoRow.domain false) (((Rows.OpenSpec.upto Rows.ldlGramSpec).at F).post enc Go.Proofs.Tryz.prog Go.Proofs.Tryz.f7 false true false false):=by
 refine returnsInHanded_of_cond (C:=Go.Proofs.Tryz.checked) (s:=Rows.OpenSpec.upto Rows.ldlGramSpec) (k:=Rows.uptoSmall) rfl ownKnob_none started (by kernel_rfl) Go.Proofs.Tryz.func7
  (OpenSpec.witness (enc:=enc) (C:=Go.Proofs.Tryz.checked) (s:=Rows.OpenSpec.upto Rows.ldlGramSpec) (k:=Rows.uptoSmall) rfl false ⟨#[],#[.slice none 0 0,.int .i64 0,.agg ⟨[.string ⟨#[]⟩,.string ⟨#[]⟩,.string ⟨#[]⟩]⟩],[]⟩ 8 (by kernel_rfl) (by kernel_rfl) (by kernel_rfl)
   (x:=([.nil,.lit (.int .i64 0),.agg [.lit (.string []),.lit (.string []),.lit (.string [])]],[],[])) (by kernel_rfl) rfl (by kernel_rfl)) ?_
 intro W base args ds gs before hval hW _ hk _
 exact contract H enc W base args ds gs before hval hW hk
theorem ldlGram_holds:Rows.LdlGramUptoSaid:=
 OpenClaim.holds_of_cond 7 Go.Proofs.Tryz.f7 rfl rfl rfl rfl rfl rfl rfl ⟨rfl,rfl,rfl,rfl,rfl⟩ rfl rfl rfl rfl rfl (by kernel_rfl) Go.Proofs.Tryz.func7 (by kernel_rfl)
  (of_decide_eq_true (by kernel_rfl)) (by unfold Func.isWrapper;first | (rw[if_pos (by decide +kernel)];kernel_rfl) | (rw[if_neg (by decide +kernel)];exact⟨rfl,rfl⟩))
  (fun os started H enc _ F=>lifted os started H enc F)
#print axioms ldlGram_holds
end Go.Proofs.YtjgpenfndnhdnaaGreat
