/- cincturelaw13.GramForms. -/
import Derived.Test.YthpmkcidkcmlgaaGreatW18
import Derived.Test.YthpmkcidkcmlgaaGreatW13
import Derived.Test.YthpmkcidkcmlgaaGreatW17
import Derived.Test.YthpmkcidkcmlgaaGreatW16
import Derived.Test.YthpmkcidkcmlgaaGreatR14
set_option linter.unusedVariables false
set_option linter.unusedSimpArgs false
set_option maxRecDepth 100000
set_option linter.unusedVariables false
set_option linter.unusedSimpArgs false
namespace Go.Proofs.YthpmkcidkcmlgaaGreat
open Go Go.SX
def g0:ByteArray:=⟨⟨[48]⟩⟩
def g1:ByteArray:=⟨⟨[49]⟩⟩
theorem pmap_ok {p:List Tm} (h:POk p) (r:Rat):POk (pmap p r):=fun t ht=>by
 obtain⟨u,hu,rfl⟩:=List.mem_map.1 ht
 exact h u hu
theorem pairs_ok2 {p q:List Tm} (h:MulOK p q):POk (pnorm (ppairs p q)):=POk.norm fun t ht=>by
 obtain⟨a,ha,hm⟩:=List.mem_flatMap.1 ht
 obtain⟨b,hb,rfl⟩:=List.mem_map.1 hm
 exact h a ha b hb
theorem formK_ok {ps:List (List Tm)} {m:Nat→Nat→Rat} (hp:SysOK ps) (hz: ∀i j,Sz 4001 (m i j)) {i:Nat} (hi:i<ps.length) {a0:List Tm} {t:Nat} (h0:Bd (cmb t) a0∧PGood a0∧POk a0): ∀{k:Nat} {a:List Tm} (_:k≤ps.length) (_:formK (qat ps) m i (some a0) k=some a),Bd (cmb (t+k)) a∧PGood a∧POk a
 | 0,a,_,h=>by
  simp only[formK,Option.some.injEq] at h
  subst h
  exact h0
 | k+1,a,hk,h=>by
  rw[formK] at h
  unfold stepA at h
  split at h
  ·cases h
  ·rename_i a' ha'
   split at h
   ·rename_i hM
    simp only[Option.some.injEq] at h
    subst h
    have ih:=formK_ok hp hz hi h0 (by omega) ha'
    have m1:=hp.bd _ (List.getElem_mem hi)
    have m2:=hp.bd _ (List.getElem_mem (show k<ps.length by omega))
    rw[qat_at hi,qat_at (show k<ps.length by omega)] at hM⊢
    have hzb:Bd (56029+56029+4001) (pmap (pnorm (ppairs ps[i] ps[k])) (m i k)):=Bd.pmap ((m1.1.pairs m2.1).norm) (hz i k)
    refine⟨(ih.1.append hzb.norm).norm.mono ?_,pnorm_good _,(ih.2.2.append (pmap_ok (pairs_ok2 hM) _).norm).norm⟩
    rw[show t+(k+1)=(t+k)+1 by omega,cmb_succ]
    omega
   ·cases h
theorem formI_ok {ps:List (List Tm)} {m:Nat→Nat→Rat} (hp:SysOK ps) (hz: ∀i j,Sz 4001 (m i j)): ∀{i:Nat} {a:List Tm} (_:i≤ps.length) (_:formI (qat ps) m ps.length i=some a),Bd (cmb (i*ps.length)) a∧PGood a∧POk a
 | 0,a,_,h=>by
  simp only[formI,Option.some.injEq] at h
  subst h
  exact⟨⟨1,0,trivial,by decide,by rw[nl_one];simp[cmb],by rw[nl_zero];exact Nat.zero_le _⟩,PGood.nil,fun t ht=>by simp at ht⟩
 | i+1,a,hi,h=>by
  rw[formI] at h
  cases hb:formI (qat ps) m ps.length i with
  | none=>
   rw[hb,formK_none (k:=0) rfl _ (Nat.zero_le _)] at h
   cases h
  | some a0=>
   rw[hb] at h
   have:=formK_ok hp hz (by omega) (formI_ok hp hz (by omega) hb) (Nat.le_refl _) h
   rw[Nat.add_mul,Nat.one_mul]
   exact this
end Go.Proofs.YthpmkcidkcmlgaaGreat

/- poly.Compose, cinctureref1.Compose. -/
set_option maxRecDepth 100000
set_option linter.unusedVariables false
set_option linter.unusedSimpArgs false
namespace Go.Proofs.YthpmkcidkcmlgaaGreat
open Go Go.SX
def cst (r:Rat):List Tm:=pnorm [(⟨0,0,0⟩,r)]
end Go.Proofs.YthpmkcidkcmlgaaGreat

/- The form of a polynomial's matrix is the polynomial: plain law. -/
set_option maxRecDepth 100000
set_option linter.unusedVariables false
set_option linter.unusedSimpArgs false
namespace Go.Proofs.YthpmkcidkcmlgaaGreat
open Go Go.SX
theorem formK_lin {q:Nat→List Tm} (m:Nat→Nat→Rat) {i:Nat} {a0:List Tm} : ∀k,(∀t,t<k→MulOK (q i) (q t))→∃a,formK q m i (some a0) k=some a∧∀G,lin G a=lin G a0+lsum (fun t=>m i t*lin G (ppairs (q i) (q t))) k
 | 0,_=>⟨a0,rfl,fun G=>by simp only[lsum];rw[Rat.add_zero]⟩
 | k+1,h=>by
  obtain⟨a,e,hv⟩:=formK_lin (q:=q) m (i:=i) (a0:=a0) k fun t ht=>h t (by omega)
  refine⟨pnorm (a ++ pnorm (pmap (pnorm (ppairs (q i) (q k))) (m i k))),?_,fun G=>?_⟩
  ·rw[formK,e,stepA,if_pos (h k (by omega))]
  ·rw[lin_pnorm,lin_append,lin_pnorm,show ∀r,lin G (pmap (pnorm (ppairs (q i) (q k))) r)=r*lin G (pnorm (ppairs (q i) (q k))) from fun r=>lin_pmap G r _,lin_pnorm,hv,lsum,Rat.add_assoc]
theorem formI_lin {q:Nat→List Tm} (m:Nat→Nat→Rat) {n:Nat} : ∀j,(∀i t,i<j→t<n→MulOK (q i) (q t))→∃a,formI q m n j=some a∧∀G,lin G a=lsum (fun i=>lsum (fun t=>m i t*lin G (ppairs (q i) (q t))) n) j
 | 0,_=>⟨[],rfl,fun G=>rfl⟩
 | j+1,h=>by
  obtain⟨a,e,hv⟩:=formI_lin (q:=q) m (n:=n) j fun i t hi ht=>h i t (by omega) ht
  obtain⟨b,e2,hv2⟩:=formK_lin (q:=q) m (i:=j) (a0:=a) n fun t ht=>h j t (by omega) ht
  exact⟨b,by rw[formI,e,e2],fun G=>by rw[hv2,hv,lsum]⟩
def zs (n:Nat):List (List Tm):=((List.range n).map fun i:Nat=>varP (i:Int)) ++ [cst 1]
end Go.Proofs.YthpmkcidkcmlgaaGreat
