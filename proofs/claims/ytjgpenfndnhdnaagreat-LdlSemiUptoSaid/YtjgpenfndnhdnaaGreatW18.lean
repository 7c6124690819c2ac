/- cincturelaw14.even. -/
import Derived.Test.YtjgpenfndnhdnaaGreatW16
import Derived.Test.YtjgpenfndnhdnaaGreatW17
import Derived.Test.YtjgpenfndnhdnaaGreatW14
import Derived.Test.YtjgpenfndnhdnaaGreatW12
import Derived.Test.YtjgpenfndnhdnaaGreatR21
set_option linter.unusedVariables false
set_option linter.unusedSimpArgs false
set_option maxRecDepth 100000
set_option linter.unusedVariables false
set_option linter.unusedSimpArgs false
namespace Go.Proofs.YtjgpenfndnhdnaaGreat
open Go Go.SX
def TB (T:List (List ByteArray)):Prop:=∀l∈T,∀t∈l,t.size≤1099511627776
theorem TB.txt {T:List (List ByteArray)} (h:TB T) (i j:Nat):(txt T i j).size≤1099511627776:=by
 unfold Go.Proofs.YtjgpenfndnhdnaaGreat.txt
 cases e:T[i]? with
 | none=>exact Nat.zero_le _
 | some l=>
  show(l[j]?.getD ⟨⟨[]⟩⟩).size≤_
  cases e2:l[j]? with
  | none=>exact Nat.zero_le _
  | some t=>exact h l (List.mem_of_getElem? e) t (List.mem_of_getElem? e2)
def evI (W0:PW) (n:Nat) (l:List PL) (W:PW):Prop:=
 match l with
 | [.row l3,.val (.int .i64 i)]=>ExtN W0.w.heap.size W0 W∧∃(ss:List Sl) (T':List (List ByteArray)),l3=(ss.map fun x=>[x.v])∧i=(T'.length:Int)∧T'.length≤n∧OTab 9 (W0.w.heap.size≤·) W ss T'∧TB T'
 | _=>False
def evI2 (W0:PW) (k:Nat) (S:List Sl) (l:List PL) (W:PW):Prop:=
 match l with
 | [.val (.int .i64 i)]=>ExtN W0.w.heap.size W0 W∧∃(T':List (List ByteArray)) (j:Nat),i=(j:Int)∧j≤k∧T'.length=k+1∧OTab 9 (W0.w.heap.size≤·) W S T'∧TB T'
 | _=>False
def evnM (n:Nat) (l:List PL) (W:PW):Nat:=
 match l with
 | [_,.val (.int .i64 i)]=>n-i.toNat
 | [.val (.int .i64 i)]=>n-i.toNat
 | _=>0
theorem lawEven_ok {W0:PW} {M:Nat→Prop} {s:Sl} {T:List (List ByteArray)} (h:IsTx W0 s T) (hl:T.length≤1099511627776) (hw: ∀l∈T,l.length≤1099511627776) (hb:TB T):
  PCallsM Go.Proofs.Tryz.prog 41 [s.v] W0 M fun v W'=>∃(s':Sl),∃(T':List (List ByteArray)),v=Sl.v s'∧IsTx W' s' T'∧TB T':=by
 apply calllaw14_even
 have hn:=h.n
 refine⟨evI W0 T.length,evnM T.length,⟨ExtM.refl _ _,[],[],rfl,rfl,Nat.zero_le _,⟨rfl,fun i h=>by simp at h,fun i j h=>by simp at h⟩,fun l h=>by simp at h⟩,?_⟩
 rintro l3 i4 W5 ⟨hE5,ss,T',rfl,rfl,hTn,hO,hTB⟩
 have h5:=h.new hE5 (Nat.le_refl _)
 refine⟨fun hlt=>?_,fun hge s34 W35 hE35 hO35 hf35 W37 hE37=>⟨s34,T',rfl,⟨ss,⟨_,(hO35.ext hE37).row⟩,hO.1,fun i hi hi'=>⟨_,(((hO.2.1 i hi hi').1.ext hE35).ext hE37).row⟩⟩,hTB⟩⟩
 have hk:T'.length<T.length:=by omega
 obtain⟨k,hk'⟩: ∃k,T'.length=k:=⟨_,rfl⟩
 rw[hk'] at hk⊢
 obtain⟨x,e1,e2⟩:=h5.at (i:=k) hk
 have hwk:=hw T[k] (List.getElem_mem hk)
 refine⟨h5.inB (by omega) (by omega),x,e1,tcel T[k],e2,by rw[tcel_length];omega,fun s8 W9 hE9 hO9 hf9=>?_⟩
 have hsl:=hO.1
 have eS:(ss.map fun x=>[x.v]) ++ [[s8.v]]=((ss ++ [s8]).map fun x=>[x.v]):=by simp
 obtain⟨S,hS⟩: ∃S,ss ++ [s8]=S:=⟨_,rfl⟩
 have hSl:S.length=k+1:=by rw[←hS];simp;omega
 rw[eS,hS]
 have hO2:=hO.snoc hE9 hO9 fun g hg=>hf9 g hg
 rw[hS] at hO2
 refine⟨by rw[List.length_map];simp only[List.length_cons,List.length_nil];omega,evI2 W0 k S,evnM k,⟨hE5.trans (hE9.toM _),_,0,rfl,Nat.zero_le _,by simp;omega,hO2,fun l hl=>?_⟩,?_⟩
 ·rcases List.mem_append.1 hl with h | h
  ·exact hTB l h
  ·rw[List.mem_singleton.1 h]
   exact hb T[k] (List.getElem_mem hk)
 rintro i13 W14 ⟨hE14,T2,j,rfl,hj,hT2,h14,hB14⟩
 have own: ∀i (hi:i<k+1),OwnAt (S.map fun x=>[x.v]) i 0 [Sl.v (S[i]'(by omega))]:=fun i hi=>⟨[Sl.v (S[i]'(by omega))],by simp[List.getElem?_eq_getElem (show i<S.length by omega)],rfl⟩
 have hSm:(S.map fun x=>[x.v]).length=k+1:=by rw[List.length_map];exact hSl
 have next:I64 ((k:Int)+1)∧evI W0 T.length [PL.row (S.map fun x=>[x.v]),PL.val (.int .i64 ((k:Int)+1))] W14∧evnM T.length [PL.row (S.map fun x=>[x.v]),PL.val (.int .i64 ((k:Int)+1))] W14<evnM T.length [PL.row (ss.map fun x=>[x.v]),PL.val (.int .i64 (k:Int))] W5:=by
  refine⟨by unfold I64;omega,⟨hE14,S,T2,rfl,by omega,by omega,h14,hB14⟩,?_⟩
  show T.length-Int.toNat ((k:Int)+1)<T.length-Int.toNat (k:Int)
  omega
 rw[hSm]
 rw[show Int.toNat (k:Int)=k from rfl,show Int.toNat (j:Int)=j from rfl]
 have hkS:k<S.length:=by omega
 have hkT:k<T2.length:=by omega
 have ok:=(h14.2.1 k hkS hkT).1
 have nk:(S[k]).n=T2[k].length:=by rw[ok.n,tcel_length]
 refine⟨fun hlt2=>⟨by omega,S[k],own k (by omega),fun hlt3=>?_,fun _=>next⟩,fun _=>next⟩
 have hjS:j<S.length:=by omega
 have hjT:j<T2.length:=by omega
 have oj:=(h14.2.1 j hjS hjT).1
 have nj:(S[j]).n=T2[j].length:=by rw[oj.n,tcel_length]
 refine⟨by omega,S[j],own j (by omega),fun hlt4=>?_,fun _=>next⟩
 have hjk:j<T2[k].length:=by omega
 have hkj:k<T2[j].length:=by omega
 refine⟨by omega,S[k],own k (by omega),by omega,S[j],own j (by omega),Row.inBt oj.row (by omega) (by omega),_,Row.text oj.row hkj,Row.inBt ok.row (by omega) (by omega),?_⟩
 refine h14.store hkS hkT hjk (fun g hg=>.inr hg) fun W20 g hg hw' h20=>⟨by unfold I64;omega,⟨hE14.trans (hw'.extN hg),_,j+1,by push_cast;rfl,by omega,by simpa using hT2,h20,fun l hl t ht=>?_⟩,?_⟩
 ·rcases List.mem_or_eq_of_mem_set hl with hl | rfl
  ·exact hB14 l hl t ht
  ·rcases List.mem_or_eq_of_mem_set ht with ht | rfl
   ·exact hB14 _ (List.getElem_mem hkT) t ht
   ·exact hB14 _ (List.getElem_mem hjT) _ (List.getElem_mem hkj)
 ·show k-Int.toNat ((j:Int)+1)<k-Int.toNat (j:Int)
  omega
theorem lawEven_call {W0 W:PW} {M:Nat→Prop} {s:Sl} {T:List (List ByteArray)} {K:Value→PW→Prop} (h:IsTx W s T) (hl:T.length≤1099511627776) (hw: ∀l∈T,l.length≤1099511627776) (hb:TB T) (kont: ∀(s':Sl) (T':List (List ByteArray)) (W':PW),Ext W W'→(IsTx W' s' T'∧TB T')→K (Sl.v s') W'):
  callN Go.Proofs.Tryz.prog W0 M 41 [s.v] W K:=
 callN_of (fun W' hE=>lawEven_ok (M:=fun _=>False) (h.ext hE) hl hw hb) (fun W' v W'' hE hE' hP=>by
  obtain⟨s',T',rfl,h⟩:=hP
  exact kont s' T' W'' (hE.trans hE') h)
end Go.Proofs.YtjgpenfndnhdnaaGreat

/- cincturelaw14.alive. -/
set_option maxRecDepth 100000
set_option linter.unusedVariables false
set_option linter.unusedSimpArgs false
namespace Go.Proofs.YtjgpenfndnhdnaaGreat
open Go Go.SX
def b1:ByteArray:=⟨⟨[49]⟩⟩
def b2:ByteArray:=⟨⟨[50]⟩⟩
def aT:List (List ByteArray):=[[b2,b1],[b1,b2]]
theorem parse_b1:parseQ b1=some 1:=by
 have h1:slashAt b1=none:=by decide
 have h2:parseI b1=some 1:=by decide
 unfold parseQ
 rw[h1,h2];rfl
theorem parse_b2:parseQ b2=some 2:=by
 have h1:slashAt b2=none:=by decide
 have h2:parseI b2=some 2:=by decide
 unfold parseQ
 rw[h1,h2];rfl
def aM (i j:Nat):Rat:=(parseQ (txt aT i j)).getD 0
theorem aM00:aM 0 0=2:=by show(parseQ b2).getD 0=2;rw[parse_b2];rfl
theorem aM01:aM 0 1=1:=by show(parseQ b1).getD 0=1;rw[parse_b1];rfl
theorem aM10:aM 1 0=1:=by show(parseQ b1).getD 0=1;rw[parse_b1];rfl
theorem aM11:aM 1 1=2:=by show(parseQ b2).getD 0=2;rw[parse_b2];rfl
theorem two_cases {P:Nat→Prop} (h0:P 0) (h1:P 1): ∀i,i<2→P i:=by
 intro i hi
 rcases(show i=0∨i=1 by omega) with rfl | rfl
 ·exact h0
 ·exact h1
theorem aSym:SymP 2 (fun _=>2) aM:=
 ⟨⟨fun _ _=>rfl,by decide,by decide,by decide,by decide⟩,rfl,fun i j hi hj=>two_cases (P:=fun i=>aM i j=aM j i) (two_cases (P:=fun j=>aM 0 j=aM j 0) rfl (by rw[aM01,aM10]) j hj) (two_cases (P:=fun j=>aM 1 j=aM j 1) (by rw[aM01,aM10]) rfl j hj) i hi⟩
theorem aParts {L:Nat→Nat→Rat} {D:Nat→Rat} (h:Parts aM L D 2 2):D 0=2∧D 1=3/2:=by
 have h0:=h.diag 0 (by omega)
 have h1:=h.diag 1 (by omega)
 have hl:=(h.low 1 0 (by omega) (by omega) (by omega)).1
 simp only[leftF,lsum,aM00,aM10,aM11] at h0 h1 hl
 have e0:D 0=2:=by rw[h0];grind
 have e1:L 1 0=1/2:=by rw[hl,e0];grind
 refine⟨e0,?_⟩
 rw[h1,e1,e0]
 grind
theorem aNoParts:¬NoParts 2 (fun _=>2) aM:=by
 rintro(h | ⟨L,D,k,j,_,h1,h2,h3,h4,_⟩)
 ·exact h aSym
 ·have:k=0:=by omega
  subst this
  rw[h2] at h1
  simp only[leftF,lsum,aM00] at h1
  grind
theorem txt_two:decQ 2=b2:=by
 have h:(2:Rat).den=1:=by decide
 have h2:(2:Rat).num=2:=by decide
 unfold decQ
 rw[if_pos h,h2]
 unfold decI decN
 rw[if_neg (by decide),if_neg (by decide),show Int.natAbs 2=2 from rfl,dec_pos (by decide),show 2/10=0 from rfl,dec_zero]
 decide
theorem txt_half:decQ (3/2)=⟨⟨[51,47,50]⟩⟩:=by
 have e:(3/2:Rat)=mkRat 3 2:=by rw[Rat.mkRat_eq_div];rfl
 have h:(3/2:Rat).den=2:=by rw[e,Rat.den_mkRat];decide
 have h2:(3/2:Rat).num=3:=by rw[e,Rat.num_mkRat];decide
 unfold decQ
 rw[if_neg (by rw[h];decide),h2,h]
 unfold decI decN
 rw[if_neg (by decide),if_neg (by decide),if_neg (by decide),show Int.natAbs 3=3 from rfl,dec_pos (by decide),dec_pos (x:=2) (by decide),show 3/10=0 from rfl,dec_zero]
 decide
theorem aTx {W:PW} {s1 s4 s7:Sl} (h1:Row W 9 1 s1 [[.string b2],[.string b1]]) (h4:Row W 9 1 s4 [[.string b1],[.string b2]]) (h7:Row W 105 1 s7 [[s1.v],[s4.v]]):IsTx W s7 aT:=
 ⟨[s1,s4],⟨_,h7⟩,rfl,fun i hi hi'=>by
  have hi2:i<2:=hi
  rcases(show i=0∨i=1 by omega) with rfl | rfl
  ·exact⟨_,h1⟩
  ·exact⟨_,h4⟩⟩
theorem aSz {i j:Nat} :Sz 3 (aM i j):=by
 have:(txt aT i j).size≤20:=by
  unfold txt
  cases e:aT[i]? with
  | none=>exact Nat.zero_le _
  | some l=>
   show(l[j]?.getD ⟨⟨[]⟩⟩).size≤_
   cases e2:l[j]? with
   | none=>exact Nat.zero_le _
   | some t=>
    have h1: ∀l∈aT,∀t∈l,t.size≤20:=by decide
    exact h1 l (List.mem_of_getElem? e) t (List.mem_of_getElem? e2)
 unfold aM
 cases e:parseQ (txt aT i j) with
 | none=>exact Sz.zero (by omega)
 | some q=>exact(parseQ_sz e).2 this
theorem lawAlive_ok {W0 : PW} {M : Nat → Prop}   :
    PCallsM Go.Proofs.Tryz.prog 37 [] W0 M fun v W' => v = .bool true ∧ True := by
  apply calllaw14_alive
  intro s1 W2 hE2 hO1 hf1 s4 W5 hE5 hO4 hf4 s7 W8 hE8 hO7 hf7
  have ht := aTx (((hO1.ext hE5).ext hE8).row) (hO4.ext hE8).row hO7.row
  have hnn : NewFrom W8.w.heap.size W8 := Nat.le_refl _
  have hts : ∀ i j, (txt aT i j).size ≤ 1099511627776 := TB.txt (by intro l hl t ht; have h1 : ∀ l ∈ aT, ∀ t ∈ l, t.size ≤ 20 := by decide
                                                                    exact Nat.le_trans (h1 l hl t ht) (by omega))
  refine matParse_call hnn ht (by decide) hts fun s12 e W11 hE11 ⟨h1, h2⟩ => ⟨s12, e, rfl, ?_⟩
  have hR : RightP aT.length (tw aT) := ⟨two_cases (P := fun i => tw aT i = tw aT 0) rfl rfl, by decide, by decide, by decide, by decide⟩
  have he : e = 0 := by
    apply Decidable.byContradiction
    intro hne
    refine h2 hne ⟨hR, fun i j hi hj => ?_⟩
    have hi2 : i < 2 := hi
    rcases (show i = 0 ∨ i = 1 by omega) with rfl | rfl
    · have hj2 : j < 2 := hj
      rcases (show j = 0 ∨ j = 1 by omega) with rfl | rfl
      · show (parseQ b2).isSome = true; rw [parse_b2]; rfl
      · show (parseQ b1).isSome = true; rw [parse_b1]; rfl
    · have hj2 : j < 2 := hj
      rcases (show j = 0 ∨ j = 1 by omega) with rfl | rfl
      · show (parseQ b1).isSome = true; rw [parse_b1]; rfl
      · show (parseQ b2).isSome = true; rw [parse_b2]; rfl
  subst he
  have hm : IsMat 260 62 119 W11 s12 2 (fun _ => 2) aM := (h1 rfl).2.mat
  refine ldlOf_call hm (by decide) (fun i j _ _ => aSz) (by decide) (by decide) (Ub3 (by decide)) fun s16 s17 b18 W15 hE15 ⟨hf, ht'⟩ => ⟨s16, s17, b18, rfl, ?_⟩
  have hb : b18 = true := by
    cases b18 with
    | true => rfl
    | false => exact absurd (hf rfl).2.2 aNoParts
  subst hb
  obtain ⟨_, L, D, hu, hd, hP, hS⟩ := ht' rfl
  have hD := aParts hP
  have hub : Ub 3 2 ≤ 1000000 := (Ub_le 2 (by omega)).1
  refine ⟨fun _ => ⟨fun _ => ⟨fun _ => ?_, fun hne => absurd (by rw [hd.n]; rfl) hne⟩, fun h => (by cases h)⟩, fun h => absurd rfl h⟩
  obtain ⟨s19, b20, s21, e1, e2⟩ := hd.at (i := 0) (by omega)
  refine ⟨hd.inB (by omega) (by omega), s19, b20, s21, e1, ratText_call e2 (hS.2 0 (by omega)) (by omega) fun W23 hE23 _ => ⟨_, rfl, fun _ => ?_, fun hne => absurd (by rw [hD.1, txt_two]; rfl) hne⟩⟩
  have hd' := hd.ext hE23
  obtain ⟨s25, b26, s27, f1, f2⟩ := hd'.at (i := 1) (by omega)
  refine ⟨hd'.inB (by omega) (by omega), s25, b26, s27, f1, ratText_call f2 (hS.2 1 (by omega)) (by omega) fun W29 hE29 _ => ⟨_, rfl, fun W31 hE31 => ⟨?_, trivial⟩⟩⟩
  rw [hD.2, txt_half]
  rfl
theorem lawAlive_call {W0 W:PW} {M:Nat→Prop} {K:Value→PW→Prop} (kont: ∀(W':PW),Ext W W'→(True)→K (.bool true) W'):
  callN Go.Proofs.Tryz.prog W0 M 37 [] W K:=
 callN_of (fun W' hE=>lawAlive_ok (M:=fun _=>False) ) (fun W' v W'' hE hE' hP=>by
  obtain⟨rfl,h⟩:=hP
  exact kont W'' (hE.trans hE') h)
end Go.Proofs.YtjgpenfndnhdnaaGreat

/- whole.Pow, rat.Pow; cinctureref1.times. -/
set_option maxRecDepth 100000
set_option linter.unusedVariables false
set_option linter.unusedSimpArgs false
namespace Go.Proofs.YtjgpenfndnhdnaaGreat
open Go Go.SX
theorem and1 {i:Nat} (h:i<256):bits .and .i64 (i:Int) 1=((i%2:Nat):Int):=by
 have key: ∀i:Nat,i<256→bits .and .i64 (i:Int) 1=((i%2:Nat):Int):=by decide +kernel
 exact key i h
theorem shr1 (i:Nat):ishr (i:Int) 1=((i/2:Nat):Int):=by
 unfold ishr
 rw[Int.fdiv_eq_ediv_of_nonneg _ (by decide)]
 omega
theorem nl_pow {z:Int} {k:Nat} (h:nl z.natAbs≤k) (e:Nat):nl (z^e).natAbs≤k*e+1:=by
 induction e with
 | zero=>simp[nl_one]
 | succ e ih=>
  rw[Int.pow_succ,Int.natAbs_mul]
  have:=nl_mul (z^e).natAbs z.natAbs
  rw[Nat.mul_add]
  omega
theorem wholePow_ok {W0:PW} {M:Nat→Prop} {s:Sl} {b:Bool} {z:Int} {n k:Nat} (h:IsInt 260 W0 s b z) (hz:nl z.natAbs≤k) (hk:k≤1048576) (hn:n≤255):
  PCallsM Go.Proofs.Tryz.prog 138 [.agg ⟨[s.v,.bool b]⟩,.int .i64 (n:Int)] W0 M fun v W'=>∃(s':Sl),∃(b':Bool),v = .agg ⟨[Sl.v s',.bool b']⟩∧IsInt 260 W' s' b' (z^n):=by
 apply callwhole_Pow
 have en:mn (mx (n:Int) 0) 255=(n:Int):=by unfold mn mx;split<;>(try split)<;>omega
 unfold Rwhole_Pow
 rw[en]
 refine wholeOf_call (z:=1) (by unfold I64;omega) fun s3 b4 W2 hE2 h2=>⟨s3,b4,rfl,?_⟩
 refine⟨fun l W=>match l with
  | [.val (.int .i64 i),.cells [.slice A m c,.bool x],.cells [.slice A' m' c',.bool y]]=>∃(j e f:Nat),i=(j:Int)∧Ext W0 W∧f+e*j=n∧e≤2*n+1∧j≤255∧IsInt 260 W ⟨A,m,c⟩ x (z^f)∧IsInt 260 W ⟨A',m',c'⟩ y (z^e)
  | _=>False,fun l _=>match l with | [.val (.int .i64 i),_,_]=>i.toNat | _=>0,⟨n,1,0,rfl,hE2,by omega,by omega,hn,by simpa using h2,by rw[show z^1=z by rw[Int.pow_succ,Int.pow_zero,Int.one_mul]];exact h.ext hE2⟩,?_⟩
 rintro s7 b8 s9 b10 i11 W12 ⟨j,e,f,rfl,hE,hfe,he,hj,hf1,hf2⟩
 have hf1:IsInt 260 W12 s7 b8 (z^f):=hf1
 have hf2:IsInt 260 W12 s9 b10 (z^e):=hf2
 have hjn:e*j≤n:=by omega
 refine⟨fun hpos=>?_,fun hz0 W25 hE25=>⟨s7,b8,rfl,?_⟩⟩
 ·have hj1:1≤j:=by omega
  have hen:e≤n:=Nat.le_trans (Nat.le_mul_of_pos_right e hj1) hjn
  have hsz: ∀x,x≤511→nl (z^x).natAbs≤68719476736:=fun x hx=>by
   have h1:=nl_pow hz x
   have h2:=Nat.mul_le_mul hk hx
   omega
  have hee:(e+e)*(j/2)=e*(2*(j/2)):=by rw[←Nat.two_mul,Nat.mul_comm 2 e,Nat.mul_assoc]
  have hi:Int.toNat (ishr (j:Int) 1)<Int.toNat (j:Int):=by rw[shr1];omega
  refine⟨fun hodd=>?_,fun heven=>?_⟩
  ·have ho:j%2=1:=by rw[and1 (by omega)] at hodd;omega
   have hj2:j=2*(j/2)+1:=by omega
   have hej:e*j=e*(2*(j/2))+e:=by conv=>lhs;rw[hj2,Nat.mul_add,Nat.mul_one]
   refine wholeMul_call hf1 hf2 (hsz f (by omega)) (hsz e (by omega)) fun s15 b16 W14 hE14 h14=>⟨s15,b16,rfl,wholeMul_call (hf2.ext hE14) (hf2.ext hE14) (hsz e (by omega)) (hsz e (by omega)) fun s19 b20 W18 hE18 h18=>⟨s19,b20,rfl,⟨j/2,e+e,f+e,by rw[shr1],hE.trans (hE14.trans hE18),by omega,by omega,by omega,?_,?_⟩,hi⟩⟩
   ·rw[Int.pow_add];exact h14.ext hE18
   ·rw[Int.pow_add];exact h18
  ·have ho:j%2=0:=by
    rw[and1 (by omega)] at heven
    omega
   have hj2:j=2*(j/2):=by omega
   have hej:e*j=e*(2*(j/2)):=by conv=>lhs;rw[hj2]
   refine wholeMul_call hf2 hf2 (hsz e (by omega)) (hsz e (by omega)) fun s23 b24 W22 hE22 h22=>⟨s23,b24,rfl,⟨j/2,e+e,f,by rw[shr1],hE.trans hE22,by omega,by omega,by omega,hf1.ext hE22,?_⟩,hi⟩
   rw[Int.pow_add];exact h22
 ·have:j=0:=by omega
  subst this
  rw[Nat.mul_zero,Nat.add_zero] at hfe
  rw[←hfe]
  exact hf1.ext hE25
theorem wholePow_call {W0 W:PW} {M:Nat→Prop} {s:Sl} {b:Bool} {z:Int} {n k:Nat} {K:Value→PW→Prop} (h:IsInt 260 W s b z) (hz:nl z.natAbs≤k) (hk:k≤1048576) (hn:n≤255) (kont: ∀(s':Sl) (b':Bool) (W':PW),Ext W W'→(IsInt 260 W' s' b' (z^n))→K (.agg ⟨[Sl.v s',.bool b']⟩) W'):
  callN Go.Proofs.Tryz.prog W0 M 138 [.agg ⟨[s.v,.bool b]⟩,.int .i64 (n:Int)] W K:=
 callN_of (fun W' hE=>wholePow_ok (M:=fun _=>False) (h.ext hE) hz hk hn) (fun W' v W'' hE hE' hP=>by
  obtain⟨s',b',rfl,h⟩:=hP
  exact kont s' b' W'' (hE.trans hE') h)
theorem dn_pow (q:Rat) (n:Nat):dn (q^n)=if dn q=0∨n=0 then 0 else q.den^n:=by
 unfold dn
 rw[Rat.den_pow]
 by_cases h1:q.den=1
 ·simp[h1]
 ·by_cases h2:n=0
  ·subst h2;simp
  ·have:q.den^n≠1:=by
    have hd:=q.den_nz
    obtain⟨m,rfl⟩: ∃m,n=m+1:=⟨n-1,by omega⟩
    rw[Nat.pow_succ]
    have:1≤q.den^m:=Nat.pow_pos (by omega)
    have:=Nat.mul_le_mul this (show 2≤q.den by omega)
    omega
   have hz:q.den≠0:=q.den_nz
   simp[h1,h2,this,hz]
theorem ratPow_ok {W0:PW} {M:Nat→Prop} {s t:Sl} {b:Bool} {q:Rat} {n k:Nat} (h:IsRat 260 W0 s b t q) (hz:Sz k q) (hk:k≤1048576) (hn:n≤255):
  PCallsM Go.Proofs.Tryz.prog 92 [.agg ⟨[s.v,.bool b,t.v]⟩,.int .i64 (n:Int)] W0 M fun v W'=>∃(s':Sl),∃(b':Bool),∃(t':Sl),v = .agg ⟨[Sl.v s',.bool b',Sl.v t']⟩∧IsRat 260 W' s' b' t' (q^n):=by
 apply callrat_Pow
 have hd:=hz.dn
 refine wholePow_call h.1 hz.1 hk hn fun s3 b4 W2 hE2 h2=>⟨s3,b4,rfl,natBits_call (h.2.ext hE2) (by omega) fun W6 hE6 _=>⟨_,rfl,fun hb=>⟨fun hn0=>?_,fun hn0 W20 hE20=>⟨s3,b4,⟨none,0,0⟩,rfl,(h2.ext hE6).ext hE20,?_⟩⟩,fun hb W21 hE21=>⟨s3,b4,⟨none,0,0⟩,rfl,(h2.ext hE6).ext hE21,?_⟩⟩⟩
 ·refine ratDen_call (h.ext (hE2.trans hE6)) hz (by omega) fun s10 b11 W9 hE9 h9=>⟨s10,b11,rfl,wholePow_call h9 (by rw[Int.natAbs_natCast];exact hz.2) hk hn fun s14 b15 W13 hE13 h13=>⟨s14,b15,rfl,wholeAbs_call h13 fun s18 W17 hE17 h17=>⟨s18,rfl,fun W19 hE19=>⟨s3,b4,s18,rfl,(h2.ext (hE6.trans (hE9.trans (hE13.trans hE17)))).ext hE19,?_⟩⟩⟩⟩
  have hdq:dn q≠0:=fun e=>by
   rw[e] at hb
   simp[blen] at hb
  have e:dn (q^n)=q.den^n:=by rw[dn_pow,if_neg (by omega)]
  rw[e]
  have e2:((q.den:Int)^n).natAbs=q.den^n:=by rw[Int.natAbs_pow,Int.natAbs_natCast]
  rw[e2] at h17
  exact h17.ext hE19
 ·have:n=0:=by omega
  rw[dn_pow,if_pos (.inr this)]
  exact isNat_zero W20
 ·have:dn q=0:=(blen_eq_zero (x:=dn q)).1 (by omega)
  rw[dn_pow,if_pos (.inl this)]
  exact isNat_zero W21
theorem ratPow_call {W0 W:PW} {M:Nat→Prop} {s t:Sl} {b:Bool} {q:Rat} {n k:Nat} {K:Value→PW→Prop} (h:IsRat 260 W s b t q) (hz:Sz k q) (hk:k≤1048576) (hn:n≤255) (kont: ∀(s':Sl) (b':Bool) (t':Sl) (W':PW),Ext W W'→(IsRat 260 W' s' b' t' (q^n))→K (.agg ⟨[Sl.v s',.bool b',Sl.v t']⟩) W'):
  callN Go.Proofs.Tryz.prog W0 M 92 [.agg ⟨[s.v,.bool b,t.v]⟩,.int .i64 (n:Int)] W K:=
 callN_of (fun W' hE=>ratPow_ok (M:=fun _=>False) (h.ext hE) hz hk hn) (fun W' v W'' hE hE' hP=>by
  obtain⟨s',b',t',rfl,h⟩:=hP
  exact kont s' b' t' W'' (hE.trans hE') h)
end Go.Proofs.YtjgpenfndnhdnaaGreat

/- cinctureref1.times; poly.At, cinctureref1.At. -/
set_option maxRecDepth 100000
set_option linter.unusedVariables false
set_option linter.unusedSimpArgs false
namespace Go.Proofs.YtjgpenfndnhdnaaGreat
open Go Go.SX
theorem Sz.powq {k:Nat} {q:Rat} (h:Sz k q) (n:Nat):Sz (k*n+1) (q^n):=by
 induction n with
 | zero=>rw[Rat.pow_zero];exact Sz.one (by omega)
 | succ n ih=>
  rw[Rat.pow_succ]
  exact(ih.mul h).mono (by rw[Nat.mul_add];omega)
structure Pt where
 x:Rat
 y:Rat
 z:Rat
def Pt.get (u:Pt) (k:Nat):Rat:=if k=0 then u.x else if k=1 then u.y else u.z
def ctm (t:Tm) (u:Pt):Nat→Rat
 | 0=>t.2
 | j+1=>ctm t u j*u.get j^(eget t.1 j).toNat
def atQ (u:Pt) (p:List Tm):Rat:=p.foldl (fun a t=>a+ctm t u 3) 0
theorem atQ_snoc (u:Pt) (l:List Tm) (t:Tm):atQ u (l ++ [t])=atQ u l+ctm t u 3:=by simp[atQ]
theorem ctm_sz {t:Tm} {u:Pt} {k l e:Nat} (ht:Sz k t.2) (hu: ∀i,Sz l (u.get i)) (he: ∀i,(eget t.1 i).toNat≤e): ∀j,Sz (k+j*(l*e+1)) (ctm t u j)
 | 0=>by rw[Nat.zero_mul,Nat.add_zero];exact ht
 | j+1=>by
  have h1:=ctm_sz ht hu he j
  have h2:=Sz.powq (hu j) (eget t.1 j).toNat
  have h3:=Nat.mul_le_mul_left l (he j)
  exact(h1.mul h2).mono (by rw[Nat.add_mul,Nat.one_mul];omega)
theorem atQ_sz {u:Pt} {k l e:Nat} {p:List Tm} (hp: ∀t∈p,Sz k t.2) (hu: ∀i,Sz l (u.get i)) (he: ∀t∈p,∀i,(eget t.1 i).toNat≤e):Sz (p.length*(k+3*(l*e+1)+1)+1) (atQ u p):=by
 have key: ∀j,j≤p.length→Sz (j*(k+3*(l*e+1)+1)+1) (atQ u (p.take j)):=by
  intro j
  induction j with
  | zero=>intro _;exact Sz.zero (by omega)
  | succ j ih=>
   intro hj
   have hjl:j<p.length:=by omega
   rw[take_snocR hjl,atQ_snoc]
   have h1:=ih (by omega)
   have h2:=ctm_sz (hp _ (List.getElem_mem hjl)) hu (he _ (List.getElem_mem hjl)) 3
   refine(h1.add h2).mono ?_
   rw[Nat.add_mul,Nat.one_mul]
   omega
 have:=key p.length (Nat.le_refl _)
 rwa [List.take_length] at this
theorem eget_le {m:Mon} (h:m.ok) (i:Nat):(eget m i).toNat≤255:=by
 have:=eget_ok h i
 omega
def atO (W0:PW) (p:List Tm) (u:Pt) (L:List PL) (W:PW):Prop:=match L with
 | [.val (.int .i64 i),.cells [.slice A m c,.bool x,.slice A' m' c']]=>∃j:Nat,i=(j:Int)∧j≤p.length∧Ext W0 W∧IsRat 260 W ⟨A,m,c⟩ x ⟨A',m',c'⟩ (atQ u (p.take j))
 | _=>False
def atI (W1:PW) (t:Tm) (u:Pt) (L:List PL) (W:PW):Prop:=match L with
 | [.val (.int .i64 i),.cells [.slice A m c,.bool x,.slice A' m' c']]=>∃j:Nat,i=(j:Int)∧j≤3∧Ext W1 W∧IsRat 260 W ⟨A,m,c⟩ x ⟨A',m',c'⟩ (ctm t u j)
 | _=>False
theorem polyAt_ok {W0:PW} {M:Nat→Prop} {s s0 t0 s1 t1 s2 t2:Sl} {b0 b1 b2:Bool} {p:List Tm} {u:Pt} {k l:Nat} (h:IsPoly 260 136 W0 s p) (g0:IsRat 260 W0 s0 b0 t0 u.x) (g1:IsRat 260 W0 s1 b1 t1 u.y) (g2:IsRat 260 W0 s2 b2 t2 u.z) (hp: ∀t∈p,Sz k t.2) (hu: ∀i,Sz l (u.get i)) (hl:l≤100000) (hb:p.length*(k+3*(l*255+1)+1)+1≤400000000) (hk:k+3*(l*255+1)≤400000000):
  PCallsM Go.Proofs.Tryz.prog 39 [.agg ⟨[s.v]⟩,.agg ⟨[s0.v,.bool b0,t0.v,s1.v,.bool b1,t1.v,s2.v,.bool b2,t2.v]⟩] W0 M fun v W'=>∃(s':Sl),∃(b':Bool),∃(t':Sl),v = .agg ⟨[Sl.v s',.bool b',Sl.v t']⟩∧IsRat 260 W' s' b' t' (atQ u p):=by
 apply callpoly_At
 have hn:=h.n
 have hpl:p.length≤400000000:=by
  have:=Nat.le_mul_of_pos_right p.length (show 0<k+3*(l*255+1)+1 by omega)
  omega
 refine⟨atO W0 p u,cn1 p.length,⟨0,rfl,by omega,Ext.refl _,isRat_zero W0⟩,?_⟩
 rintro s3 b4 s5 i6 W7 ⟨j,rfl,hj,hE7,hs⟩
 have hs:IsRat 260 W7 s3 b4 s5 (atQ u (p.take j)):=hs
 refine⟨fun hlt=>?_,fun hge W40 hE40=>⟨s3,b4,s5,rfl,?_⟩⟩
 ·have hjl:j<p.length:=by omega
  have hP:=h.ext hE7
  have hm:=List.getElem_mem hjl
  obtain⟨h0,c1,d1,c2,e1,_,_,hr⟩:=hP.at (List.getElem?_eq_getElem hjl)
  have hcs:=fun i=>ctm_sz (j:=i) (hp _ hm) hu (fun i=>eget_le h0 i)
  have hbd: ∀i,i≤3→k+i*(l*255+1)≤400000000:=fun i hi=>by
   have:=Nat.mul_le_mul_right (l*255+1) hi
   omega
  refine⟨hP.inB (by omega) (by omega),_,_,_,c1,d1,c2,e1,atI W7 p[j] u,cn1 3,⟨0,rfl,by omega,Ext.refl _,hr⟩,?_⟩
  rintro s16 b17 s18 i19 W20 ⟨m,rfl,hm3,hE20,hc⟩
  have hc:IsRat 260 W20 s16 b17 s18 (ctm p[j] u m):=hc
  refine⟨fun hlt'=>?_,fun hge'=>?_⟩
  ·have hm3':m<3:=by omega
   have hmr:(0:Int)≤(m:Int)∧(m:Int)<3:=⟨by omega,by omega⟩
   have hek:=eget_ok h0 m
   have hE:=hE7.trans hE20
   obtain⟨x1,y1,z1,hbx,hux⟩: ∃(x1:Sl) (y1:Bool) (z1:Sl),BoxAt [s0.v,.bool b0,t0.v,s1.v,.bool b1,t1.v,s2.v,.bool b2,t2.v] (0+Int.toNat (m:Int)*3+0) [x1.v,.bool y1,z1.v]∧IsRat 260 W20 x1 y1 z1 (u.get m):=by
    rcases(by omega:m=0∨m=1∨m=2) with rfl | rfl | rfl
    ·exact⟨s0,b0,t0,⟨by simp,rfl⟩,g0.ext hE⟩
    ·exact⟨s1,b1,t1,⟨by simp,rfl⟩,g1.ext hE⟩
    ·exact⟨s2,b2,t2,⟨by simp,rfl⟩,g2.ext hE⟩
   obtain⟨n,hnn⟩:=Int.eq_ofNat_of_zero_le hek.1
   refine⟨hmr,_,take_mon p[j].1 hm3',hmr,x1,y1,z1,hbx,by unfold I64;omega,?_⟩
   rw[hnn]
   have hp2:=Nat.mul_le_mul_left l (by omega:n≤255)
   refine ratPow_call hux (hu m) (by omega) (by omega) fun s27 b28 s29 W26 hE26 h26=>⟨s27,b28,s29,rfl,ratMul_call (hc.ext hE26) h26 (hcs m) (Sz.powq (hu m) n) (by have:=hbd m (by omega);omega) (by omega) fun s32 b33 s34 W31 hE31 h31=>⟨s32,b33,s34,rfl,by unfold I64;omega,⟨m+1,by push_cast;rfl,by omega,hE20.trans (hE26.trans hE31),?_⟩,?_⟩⟩
   ·show IsRat 260 W31 s32 b33 s34 (ctm p[j] u m*u.get m^(eget p[j].1 m).toNat)
    rw[hnn]
    exact h31
   ·show 3-Int.toNat ((m:Int)+1)<3-Int.toNat (m:Int)
    omega
  ·have:m=3:=by omega
   subst this
   have hsz:=atQ_sz (u:=u) (p:=p.take j) (k:=k) (l:=l) (e:=255) (fun t ht=>hp t (List.mem_of_mem_take ht)) hu (fun t ht i=>eget_le (h.ok t (List.mem_of_mem_take ht)) i)
   have hl2:(p.take j).length*(k+3*(l*255+1)+1)≤p.length*(k+3*(l*255+1)+1):=Nat.mul_le_mul_right _ (by rw[List.length_take];omega)
   refine ratAdd_call (hs.ext hE20) hc hsz (hcs 3) (by omega) (by omega) fun s37 b38 s39 W36 hE36 h36=>⟨s37,b38,s39,rfl,by unfold I64;omega,⟨j+1,by push_cast;rfl,by omega,hE7.trans (hE20.trans hE36),?_⟩,?_⟩
   ·rw[take_snocR hjl,atQ_snoc]
    exact h36
   ·show p.length-Int.toNat ((j:Int)+1)<p.length-Int.toNat (j:Int)
    omega
 ·have:j=p.length:=by omega
  subst this
  rw[List.take_length] at hs
  exact hs.ext hE40
theorem polyAt_call {W0 W:PW} {M:Nat→Prop} {s s0 t0 s1 t1 s2 t2:Sl} {b0 b1 b2:Bool} {p:List Tm} {u:Pt} {k l:Nat} {K:Value→PW→Prop} (h:IsPoly 260 136 W s p) (g0:IsRat 260 W s0 b0 t0 u.x) (g1:IsRat 260 W s1 b1 t1 u.y) (g2:IsRat 260 W s2 b2 t2 u.z) (hp: ∀t∈p,Sz k t.2) (hu: ∀i,Sz l (u.get i)) (hl:l≤100000) (hb:p.length*(k+3*(l*255+1)+1)+1≤400000000) (hk:k+3*(l*255+1)≤400000000) (kont: ∀(s':Sl) (b':Bool) (t':Sl) (W':PW),Ext W W'→(IsRat 260 W' s' b' t' (atQ u p))→K (.agg ⟨[Sl.v s',.bool b',Sl.v t']⟩) W'):
  callN Go.Proofs.Tryz.prog W0 M 39 [.agg ⟨[s.v]⟩,.agg ⟨[s0.v,.bool b0,t0.v,s1.v,.bool b1,t1.v,s2.v,.bool b2,t2.v]⟩] W K:=
 callN_of (fun W' hE=>polyAt_ok (M:=fun _=>False) (h.ext hE) (g0.ext hE) (g1.ext hE) (g2.ext hE) hp hu hl hb hk) (fun W' v W'' hE hE' hP=>by
  obtain⟨s',b',t',rfl,h⟩:=hP
  exact kont s' b' t' W'' (hE.trans hE') h)
end Go.Proofs.YtjgpenfndnhdnaaGreat

/- poly.Compose, cinctureref1.Compose. -/
set_option maxRecDepth 100000
set_option linter.unusedVariables false
set_option linter.unusedSimpArgs false
namespace Go.Proofs.YtjgpenfndnhdnaaGreat
open Go Go.SX
def cst (r:Rat):List Tm:=pnorm [(⟨0,0,0⟩,r)]
end Go.Proofs.YtjgpenfndnhdnaaGreat
