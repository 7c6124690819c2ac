/- Tables of texts: mat.Parse, cincturelaw14.even, alive. -/
import Derived.Test.YtjgpenfndnhdnaaGreatW14
import Derived.Test.YtjgpenfndnhdnaaGreatW10
import Derived.Test.YtjgpenfndnhdnaaGreatW8
import Derived.Test.YtjgpenfndnhdnaaGreatR10
import Derived.Test.YtjgpenfndnhdnaaGreatLib3
import Derived.Test.YtjgpenfndnhdnaaGreatW15
set_option linter.unusedVariables false
set_option linter.unusedSimpArgs false
set_option maxRecDepth 100000
set_option linter.unusedVariables false
set_option linter.unusedSimpArgs false
namespace Go.Proofs.YtjgpenfndnhdnaaGreat
open Go Go.SX
def tw (T:List (List ByteArray)) (i:Nat):Nat:=(T[i]?.getD []).length
theorem tw_eq {T:List (List ByteArray)} {i:Nat} (h:i<T.length):tw T i=T[i].length:=by
 unfold tw
 rw[List.getElem?_eq_getElem h];rfl
def txt (T:List (List ByteArray)) (i j:Nat):ByteArray:=(T[i]?.getD [])[j]?.getD ⟨⟨[]⟩⟩
theorem txt_eq {T:List (List ByteArray)} {i j:Nat} (h:i<T.length) (hj:j<T[i].length):txt T i j=T[i][j]:=by
 unfold txt
 rw[List.getElem?_eq_getElem h]
 simp[hj]
theorem txEven_ok {W0:PW} {M:Nat→Prop} {s:Sl} {T:List (List ByteArray)} (h:IsTx W0 s T) (hr:T.length≤1099511627776):
  PCallsM Go.Proofs.Tryz.prog 98 [s.v] W0 M fun v W'=>∃(b:Bool),v = .bool b∧(b=true↔RightP T.length (tw T)):=by
 apply callmat_even_string
 have hn:=h.n
 refine⟨fun l W=>match l with | [.val (.int .i64 i)]=>Ext W0 W∧∃k:Nat,i=(k:Int)∧k≤T.length∧∀i,i<k→tw T i=tw T 0 | _=>False,fun l _=>match l with | [.val (.int .i64 i)]=>T.length-i.toNat | _=>0,⟨Ext.refl _,0,rfl,Nat.zero_le _,fun i h=>(by omega)⟩,?_⟩
 rintro i3 W4 ⟨hE4,k,rfl,hk,hck⟩
 have h4:=h.ext hE4
 refine⟨fun hlt=>?_,fun hge=>⟨fun h1=>⟨fun h12=>?_,fun h12=>fun W14 _=>⟨false,rfl,?_⟩⟩,fun h1=>fun W21 _=>⟨false,rfl,?_⟩⟩⟩
 ·obtain⟨x,e1,e2⟩:=h4.at (i:=k) (by omega)
  obtain⟨y,f1,f2⟩:=h4.at (i:=0) (by omega)
  have n1:=e2.nt.trans (tw_eq (by omega)).symm
  have n2:=f2.nt.trans (tw_eq (by omega)).symm
  refine⟨h4.inB (by omega) (by omega),x,e1,h4.inB (by omega) (by omega),y,f1,fun hne W7 _=>⟨false,rfl,?_⟩,fun heq=>⟨by unfold I64;omega,⟨hE4,k+1,by push_cast;rfl,by omega,fun i hi=>?_⟩,?_⟩⟩
  ·refine⟨fun h=>(by cases h),fun h=>?_⟩
   have:=h.1 k (by omega)
   omega
  ·by_cases e:i=k
   ·subst e;omega
   ·exact hck i (by omega)
  ·show T.length-Int.toNat ((k:Int)+1)<T.length-Int.toNat (k:Int)
   omega
 ·have hkr:k=T.length:=by omega
  obtain⟨y,f1,f2⟩:=h4.at (i:=0) (by omega)
  have n2:=f2.nt.trans (tw_eq (by omega)).symm
  have ib:=h4.inB (i:=0) (by omega) (by omega)
  refine⟨ib,y,f1,fun hy=>⟨ib,y,f1,fun W10 _=>⟨_,rfl,?_⟩⟩,fun hy W11 _=>⟨false,rfl,?_⟩⟩
  ·rw[decide_eq_true_iff]
   exact⟨fun h=>⟨fun i hi=>hck i (by omega),by omega,by omega,by omega,by omega⟩,fun h=>by have:=h.2.2.2.2;omega⟩
  ·refine⟨fun h=>(by cases h),fun h=>?_⟩
   have:=h.2.2.2.1
   omega
 ·refine⟨fun h=>(by cases h),fun h=>?_⟩
  have:=h.2.2.1
  omega
 ·refine⟨fun h=>(by cases h),fun h=>?_⟩
  have:=h.2.1
  omega
theorem txEven_call {W0 W:PW} {M:Nat→Prop} {s:Sl} {T:List (List ByteArray)} {K:Value→PW→Prop} (h:IsTx W s T) (hr:T.length≤1099511627776) (kont: ∀(b:Bool) (W':PW),Ext W W'→((b=true↔RightP T.length (tw T)))→K (.bool b) W'):
  callN Go.Proofs.Tryz.prog W0 M 98 [s.v] W K:=
 callN_of (fun W' hE=>txEven_ok (M:=fun _=>False) (h.ext hE) hr) (fun W' v W'' hE hE' hP=>by
  obtain⟨b,rfl,h⟩:=hP
  exact kont b W'' (hE.trans hE') h)
theorem matParse_ok {W0:PW} {M:Nat→Prop} {n0:Nat} {s:Sl} {T:List (List ByteArray)} (hn:NewFrom n0 W0) (h:IsTx W0 s T) (hr:T.length≤1099511627776) (ht: ∀i j,(txt T i j).size≤1099511627776):
  PCallsM Go.Proofs.Tryz.prog 44 [s.v] W0 M fun v W'=>∃(s':Sl),∃(e:Int),v = .tuple #[Sl.v s',.int .i64 e]∧(e=0→RightP T.length (tw T)∧OMat 260 62 119 (n0≤·) W' s' T.length (tw T 0) (fun i j=>(parseQ (txt T i j)).getD 0))∧(e≠0→¬(RightP T.length (tw T)∧∀i j,i<T.length→j<tw T i→(parseQ (txt T i j)).isSome=true)):=by
 apply callmat_Parse
 have hsn:=h.n
 refine txEven_call h hr fun b W2 hE2 hb=>⟨b,rfl,fun hf W4 _=>⟨⟨none,0,0⟩,1,rfl,fun h=>(by cases h),fun _ h=>?_⟩,fun ht'=>?_⟩
 ·rw[hb.2 h.1] at hf;cases hf
 have hbt:b=true:=by simpa using ht'
 have hR:=hb.1 hbt
 have hR':=hR
 obtain⟨hc,hr1,hr12,hc1,hc12⟩:=hR'
 have h2:=h.ext hE2
 obtain⟨y,f1,f2⟩:=h2.at (i:=0) (by omega)
 have ny:=f2.nt.trans (tw_eq (by omega)).symm
 refine⟨h2.inB (by omega) (by omega),y,f1,?_⟩
 rw[ny,hsn]
 obtain⟨n1,hn1⟩: ∃n1,W2.w.heap.size=n1:=⟨_,rfl⟩
 have hle:W2.w.heap.size≤n1:=by omega
 have hn1':NewFrom n1 W2:=by unfold NewFrom;omega
 have h01:W0.w.heap.size≤n1:=Nat.le_trans hE2.size hle
 refine matNone_call hn1' (by omega) (by omega) fun s8 W7 hE7 h8=>⟨s8,rfl,?_⟩
 refine⟨fun l W=>match l with | [.val (.int .i64 i)]=>∃k:Nat,i=(k:Int)∧k≤T.length∧ExtN n1 W2 W∧OMat 260 62 119 (n1≤·) W s8 T.length (tw T 0) (fun a b=>if a<k then(parseQ (txt T a b)).getD 0 else 0) | _=>False,fun l _=>match l with | [.val (.int .i64 i)]=>T.length-i.toNat | _=>0,⟨0,rfl,Nat.zero_le _,hE7.toM _,h8.congr fun i j _ _=>by simp⟩,?_⟩
 rintro i11 W12 ⟨k,rfl,hk,hE12,h12⟩
 refine⟨fun hlt=>?_,fun hge W28 hE28=>⟨s8,0,rfl,fun _=>⟨hR,?_⟩,fun h=>absurd rfl h⟩⟩
 ·have hkr:k<T.length:=by omega
  obtain⟨x,e1,e2⟩:=h2.at (i:=k) hkr
  have nx:=e2.nt.trans (tw_eq hkr).symm
  have hck:=hc k hkr
  have hkt:=tw_eq hkr
  refine⟨(h2.new hE12 hle).inB (by omega) (by omega),x,e1.new hE12 hle,?_⟩
  refine⟨fun l W=>match l with | [.val (.int .i64 i)]=>∃l:Nat,i=(l:Int)∧l≤tw T 0∧ExtN n1 W2 W∧OMat 260 62 119 (n1≤·) W s8 T.length (tw T 0) (fun a b=>if a<k∨(a=k∧b<l) then(parseQ (txt T a b)).getD 0 else 0) | _=>False,fun l _=>match l with | [.val (.int .i64 i)]=>tw T 0-i.toNat | _=>0,⟨0,rfl,Nat.zero_le _,hE12,h12.congr fun i j _ _=>by simp⟩,?_⟩
  rintro i16 W17 ⟨l,rfl,hl,hE17,h17⟩
  refine⟨fun hlt2=>?_,fun hge2=>⟨by unfold I64;omega,⟨k+1,by push_cast;rfl,by omega,hE17,h17.congr fun a b ha hb=>?_⟩,?_⟩⟩
  ·have hlc:l<tw T 0:=by omega
   have e17:=e2.new hE17 hle
   have hlt3:l<T[k].length:=by omega
   have htx:=txt_eq hkr hlt3
   refine⟨e17.inBt (by omega) (by omega),_,e17.text hlt3,?_⟩
   rw[←htx]
   refine ratParse_call (ht k l) fun s21 b22 s23 W20 hE20 h21=>⟨s21,b22,s23,_,rfl,fun hne W25 _=>⟨⟨none,0,0⟩,_,rfl,fun h=>absurd h hne,fun _ hall=>?_⟩,fun heq=>?_⟩
   ·have:=hall.2 k l hkr (by omega)
    rw[er_ne hne] at this
    cases this
   ·have h20:=h17.ext hE20
    obtain⟨z,z1,z2⟩:=h20.mat.at (i:=k) hkr
    refine⟨h20.mat.inB (by omega) (by omega),z,z1,z2.inB (by omega) (by omega),?_⟩
    refine h20.store (j:=l) z1 hkr hlc h21 (by decide) (by decide) (fun g hg=>.inr (Nat.le_trans h01 hg)) fun W22 hp h22=>⟨by unfold I64;omega,⟨l+1,by push_cast;rfl,by omega,(hE17.trans (hE20.toM _)).trans (hp.extN fun g hg=>hg),h22.congr fun a b ha hb=>?_⟩,?_⟩
    ·unfold setM
     by_cases e:a=k∧b=l
     ·rw[if_pos e,if_pos (by omega),e.1,e.2]
     ·rw[if_neg e]
      dsimp only
      by_cases e':a<k∨(a=k∧b<l)
      ·rw[if_pos e',if_pos (by omega)]
      ·rw[if_neg e',if_neg (by omega)]
    ·show tw T 0-Int.toNat ((l:Int)+1)<tw T 0-Int.toNat (l:Int)
     omega
  ·by_cases e':a<k∨(a=k∧b<l)
   ·rw[if_pos e',if_pos (by omega)]
   ·rw[if_neg e',if_neg (by omega)]
  ·show T.length-Int.toNat ((k:Int)+1)<T.length-Int.toNat (k:Int)
   omega
 ·refine((h12.ext hE28).mono fun g hg=>Nat.le_trans (hn.ext hE2) (Nat.le_trans hle hg)).congr fun a b ha hb=>?_
  rw[if_pos (by omega)]
theorem matParse_call {W0 W:PW} {M:Nat→Prop} {n0:Nat} {s:Sl} {T:List (List ByteArray)} {K:Value→PW→Prop} (hn:NewFrom n0 W) (h:IsTx W s T) (hr:T.length≤1099511627776) (ht: ∀i j,(txt T i j).size≤1099511627776) (kont: ∀(s':Sl) (e:Int) (W':PW),Ext W W'→((e=0→RightP T.length (tw T)∧OMat 260 62 119 (n0≤·) W' s' T.length (tw T 0) (fun i j=>(parseQ (txt T i j)).getD 0))∧(e≠0→¬(RightP T.length (tw T)∧∀i j,i<T.length→j<tw T i→(parseQ (txt T i j)).isSome=true)))→K (.tuple #[Sl.v s',.int .i64 e]) W'):
  callN Go.Proofs.Tryz.prog W0 M 44 [s.v] W K:=
 callN_of (fun W' hE=>matParse_ok (M:=fun _=>False) (hn.ext hE) (h.ext hE) hr ht) (fun W' v W'' hE hE' hP=>by
  obtain⟨s',e,rfl,h⟩:=hP
  exact kont s' e W'' (hE.trans hE') h)
end Go.Proofs.YtjgpenfndnhdnaaGreat

/- cincturelaw11.Raw. -/
set_option maxRecDepth 100000
set_option linter.unusedVariables false
set_option linter.unusedSimpArgs false
namespace Go.Proofs.YtjgpenfndnhdnaaGreat
open Go Go.SX
end Go.Proofs.YtjgpenfndnhdnaaGreat

/- cincturelaw14.even. -/
set_option maxRecDepth 100000
set_option linter.unusedVariables false
set_option linter.unusedSimpArgs false
namespace Go.Proofs.YtjgpenfndnhdnaaGreat
open Go Go.SX
def TB (T:List (List ByteArray)):Prop:=∀l∈T,∀t∈l,t.size≤1099511627776
theorem TB.txt {T:List (List ByteArray)} (h:TB T) (i j:Nat):(txt T i j).size≤1099511627776:=by
 unfold Go.Proofs.YtjgpenfndnhdnaaGreat.txt
 cases e:T[i]? with
 | none=>exact Nat.zero_le _
 | some l=>
  show(l[j]?.getD ⟨⟨[]⟩⟩).size≤_
  cases e2:l[j]? with
  | none=>exact Nat.zero_le _
  | some t=>exact h l (List.mem_of_getElem? e) t (List.mem_of_getElem? e2)
def evI (W0:PW) (n:Nat) (l:List PL) (W:PW):Prop:=
 match l with
 | [.row l3,.val (.int .i64 i)]=>ExtN W0.w.heap.size W0 W∧∃(ss:List Sl) (T':List (List ByteArray)),l3=(ss.map fun x=>[x.v])∧i=(T'.length:Int)∧T'.length≤n∧OTab 9 (W0.w.heap.size≤·) W ss T'∧TB T'
 | _=>False
end Go.Proofs.YtjgpenfndnhdnaaGreat

/- cincturelaw14.alive. -/
set_option maxRecDepth 100000
set_option linter.unusedVariables false
set_option linter.unusedSimpArgs false
namespace Go.Proofs.YtjgpenfndnhdnaaGreat
open Go Go.SX
def b1:ByteArray:=⟨⟨[49]⟩⟩
def b2:ByteArray:=⟨⟨[50]⟩⟩
def aT:List (List ByteArray):=[[b2,b1],[b1,b2]]
theorem parse_b1:parseQ b1=some 1:=by
 have h1:slashAt b1=none:=by decide
 have h2:parseI b1=some 1:=by decide
 unfold parseQ
 rw[h1,h2];rfl
theorem parse_b2:parseQ b2=some 2:=by
 have h1:slashAt b2=none:=by decide
 have h2:parseI b2=some 2:=by decide
 unfold parseQ
 rw[h1,h2];rfl
def aM (i j:Nat):Rat:=(parseQ (txt aT i j)).getD 0
theorem aM00:aM 0 0=2:=by show(parseQ b2).getD 0=2;rw[parse_b2];rfl
theorem aM01:aM 0 1=1:=by show(parseQ b1).getD 0=1;rw[parse_b1];rfl
theorem aM10:aM 1 0=1:=by show(parseQ b1).getD 0=1;rw[parse_b1];rfl
theorem aM11:aM 1 1=2:=by show(parseQ b2).getD 0=2;rw[parse_b2];rfl
theorem two_cases {P:Nat→Prop} (h0:P 0) (h1:P 1): ∀i,i<2→P i:=by
 intro i hi
 rcases(show i=0∨i=1 by omega) with rfl | rfl
 ·exact h0
 ·exact h1
theorem aSym:SymP 2 (fun _=>2) aM:=
 ⟨⟨fun _ _=>rfl,by decide,by decide,by decide,by decide⟩,rfl,fun i j hi hj=>two_cases (P:=fun i=>aM i j=aM j i) (two_cases (P:=fun j=>aM 0 j=aM j 0) rfl (by rw[aM01,aM10]) j hj) (two_cases (P:=fun j=>aM 1 j=aM j 1) (by rw[aM01,aM10]) rfl j hj) i hi⟩
theorem aParts {L:Nat→Nat→Rat} {D:Nat→Rat} (h:Parts aM L D 2 2):D 0=2∧D 1=3/2:=by
 have h0:=h.diag 0 (by omega)
 have h1:=h.diag 1 (by omega)
 have hl:=(h.low 1 0 (by omega) (by omega) (by omega)).1
 simp only[leftF,lsum,aM00,aM10,aM11] at h0 h1 hl
 have e0:D 0=2:=by rw[h0];grind
 have e1:L 1 0=1/2:=by rw[hl,e0];grind
 refine⟨e0,?_⟩
 rw[h1,e1,e0]
 grind
theorem aNoParts:¬NoParts 2 (fun _=>2) aM:=by
 rintro(h | ⟨L,D,k,j,_,h1,h2,h3,h4,_⟩)
 ·exact h aSym
 ·have:k=0:=by omega
  subst this
  rw[h2] at h1
  simp only[leftF,lsum,aM00] at h1
  grind
theorem txt_two:decQ 2=b2:=by
 have h:(2:Rat).den=1:=by decide
 have h2:(2:Rat).num=2:=by decide
 unfold decQ
 rw[if_pos h,h2]
 unfold decI decN
 rw[if_neg (by decide),if_neg (by decide),show Int.natAbs 2=2 from rfl,dec_pos (by decide),show 2/10=0 from rfl,dec_zero]
 decide
theorem txt_half:decQ (3/2)=⟨⟨[51,47,50]⟩⟩:=by
 have e:(3/2:Rat)=mkRat 3 2:=by rw[Rat.mkRat_eq_div];rfl
 have h:(3/2:Rat).den=2:=by rw[e,Rat.den_mkRat];decide
 have h2:(3/2:Rat).num=3:=by rw[e,Rat.num_mkRat];decide
 unfold decQ
 rw[if_neg (by rw[h];decide),h2,h]
 unfold decI decN
 rw[if_neg (by decide),if_neg (by decide),if_neg (by decide),show Int.natAbs 3=3 from rfl,dec_pos (by decide),dec_pos (x:=2) (by decide),show 3/10=0 from rfl,dec_zero]
 decide
theorem aTx {W:PW} {s1 s4 s7:Sl} (h1:Row W 9 1 s1 [[.string b2],[.string b1]]) (h4:Row W 9 1 s4 [[.string b1],[.string b2]]) (h7:Row W 105 1 s7 [[s1.v],[s4.v]]):IsTx W s7 aT:=
 ⟨[s1,s4],⟨_,h7⟩,rfl,fun i hi hi'=>by
  have hi2:i<2:=hi
  rcases(show i=0∨i=1 by omega) with rfl | rfl
  ·exact⟨_,h1⟩
  ·exact⟨_,h4⟩⟩
theorem aSz {i j:Nat} :Sz 3 (aM i j):=by
 have:(txt aT i j).size≤20:=by
  unfold txt
  cases e:aT[i]? with
  | none=>exact Nat.zero_le _
  | some l=>
   show(l[j]?.getD ⟨⟨[]⟩⟩).size≤_
   cases e2:l[j]? with
   | none=>exact Nat.zero_le _
   | some t=>
    have h1: ∀l∈aT,∀t∈l,t.size≤20:=by decide
    exact h1 l (List.mem_of_getElem? e) t (List.mem_of_getElem? e2)
 unfold aM
 cases e:parseQ (txt aT i j) with
 | none=>exact Sz.zero (by omega)
 | some q=>exact(parseQ_sz e).2 this
theorem lawAlive_ok {W0 : PW} {M : Nat → Prop}   :
    PCallsM Go.Proofs.Tryz.prog 37 [] W0 M fun v W' => v = .bool true ∧ True := by
  apply calllaw14_alive
  intro s1 W2 hE2 hO1 hf1 s4 W5 hE5 hO4 hf4 s7 W8 hE8 hO7 hf7
  have ht := aTx (((hO1.ext hE5).ext hE8).row) (hO4.ext hE8).row hO7.row
  have hnn : NewFrom W8.w.heap.size W8 := Nat.le_refl _
  have hts : ∀ i j, (txt aT i j).size ≤ 1099511627776 := TB.txt (by intro l hl t ht; have h1 : ∀ l ∈ aT, ∀ t ∈ l, t.size ≤ 20 := by decide
                                                                    exact Nat.le_trans (h1 l hl t ht) (by omega))
  refine matParse_call hnn ht (by decide) hts fun s12 e W11 hE11 ⟨h1, h2⟩ => ⟨s12, e, rfl, ?_⟩
  have hR : RightP aT.length (tw aT) := ⟨two_cases (P := fun i => tw aT i = tw aT 0) rfl rfl, by decide, by decide, by decide, by decide⟩
  have he : e = 0 := by
    apply Decidable.byContradiction
    intro hne
    refine h2 hne ⟨hR, fun i j hi hj => ?_⟩
    have hi2 : i < 2 := hi
    rcases (show i = 0 ∨ i = 1 by omega) with rfl | rfl
    · have hj2 : j < 2 := hj
      rcases (show j = 0 ∨ j = 1 by omega) with rfl | rfl
      · show (parseQ b2).isSome = true; rw [parse_b2]; rfl
      · show (parseQ b1).isSome = true; rw [parse_b1]; rfl
    · have hj2 : j < 2 := hj
      rcases (show j = 0 ∨ j = 1 by omega) with rfl | rfl
      · show (parseQ b1).isSome = true; rw [parse_b1]; rfl
      · show (parseQ b2).isSome = true; rw [parse_b2]; rfl
  subst he
  have hm : IsMat 260 62 119 W11 s12 2 (fun _ => 2) aM := (h1 rfl).2.mat
  refine ldlOf_call hm (by decide) (fun i j _ _ => aSz) (by decide) (by decide) (Ub3 (by decide)) fun s16 s17 b18 W15 hE15 ⟨hf, ht'⟩ => ⟨s16, s17, b18, rfl, ?_⟩
  have hb : b18 = true := by
    cases b18 with
    | true => rfl
    | false => exact absurd (hf rfl).2.2 aNoParts
  subst hb
  obtain ⟨_, L, D, hu, hd, hP, hS⟩ := ht' rfl
  have hD := aParts hP
  have hub : Ub 3 2 ≤ 1000000 := (Ub_le 2 (by omega)).1
  refine ⟨fun _ => ⟨fun _ => ⟨fun _ => ?_, fun hne => absurd (by rw [hd.n]; rfl) hne⟩, fun h => (by cases h)⟩, fun h => absurd rfl h⟩
  obtain ⟨s19, b20, s21, e1, e2⟩ := hd.at (i := 0) (by omega)
  refine ⟨hd.inB (by omega) (by omega), s19, b20, s21, e1, ratText_call e2 (hS.2 0 (by omega)) (by omega) fun W23 hE23 _ => ⟨_, rfl, fun _ => ?_, fun hne => absurd (by rw [hD.1, txt_two]; rfl) hne⟩⟩
  have hd' := hd.ext hE23
  obtain ⟨s25, b26, s27, f1, f2⟩ := hd'.at (i := 1) (by omega)
  refine ⟨hd'.inB (by omega) (by omega), s25, b26, s27, f1, ratText_call f2 (hS.2 1 (by omega)) (by omega) fun W29 hE29 _ => ⟨_, rfl, fun W31 hE31 => ⟨?_, trivial⟩⟩⟩
  rw [hD.2, txt_half]
  rfl
theorem lawAlive_call {W0 W:PW} {M:Nat→Prop} {K:Value→PW→Prop} (kont: ∀(W':PW),Ext W W'→(True)→K (.bool true) W'):
  callN Go.Proofs.Tryz.prog W0 M 37 [] W K:=
 callN_of (fun W' hE=>lawAlive_ok (M:=fun _=>False) ) (fun W' v W'' hE hE' hP=>by
  obtain⟨rfl,h⟩:=hP
  exact kont W'' (hE.trans hE') h)
end Go.Proofs.YtjgpenfndnhdnaaGreat
