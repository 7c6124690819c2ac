/- Texts of numbers: slices.Reverse, nat.Text, whole.Text, rat.Text. -/
import Derived.Test.YtjkkidjbppphpaaGreatDoorW7
import Derived.Test.YtjkkidjbppphpaaGreatDoorR5
import Derived.Test.YtjkkidjbppphpaaGreatDoorLib3
import Derived.Test.YtjkkidjbppphpaaGreatDoorW9
import Derived.Test.YtjkkidjbppphpaaGreatDoorR7
set_option linter.unusedVariables false
set_option linter.unusedSimpArgs false
set_option maxRecDepth 100000
namespace Go.Proofs.YtjkkidjbppphpaaGreatDoor
open Go Go.SX
theorem Own.Fi5 {W:PW} {t:TypeId} {sz:Nat} {s:Sl} {xs:List (List Value)} (h:Go.SX.Own W t sz s xs) {i:Int} (h0:0≤i) (h1:i<(xs.length:Int)):inB s i:=
 ⟨h0,by have:=h.n;omega,Row.some h.row fun e=>by subst e;simp at h1;omega⟩
theorem Own.at1 {W:PW} {t:TypeId} {s:Sl} {xs:List (List Value)} {v:Value} (h:Go.SX.Own W t 1 s xs) {i:Nat} (hi:xs[i]?=some [v]):Aa7 W s 1 i 0 [v]:=Row.elem h.row hi fun j u hj=>by simpa using hj
theorem Ea5 {W0:PW} {s:Sl} {us:List Nat} (h:Go.SX.Own W0 5 1 s (An4 us)) (hl:us.length≤1099511627776):
  Aa0 Tryz.prog 216 [s.v] W0 (fun g=>s.v.ownBlock=some g) fun v W'=>v = .tuple #[]∧Go.SX.Own W' 5 1 s (An4 us.reverse):=by
 apply Ao1
 have hn:s.n=us.length:=by rw[h.n,Ah2]
 have hbl:(An4 us).length=us.length:=Ah2 us
 have one: ∀(z:Int) (u:Value),u∈[Value.int .u8 z]→u.oneCell'=true:=by
  intro z u hu
  rw[List.mem_singleton.1 hu];rfl
 refine⟨by unfold I64;omega,fun l W=>match l with
  | [.val (.int .i64 i),.val (.int .i64 j)]=>∃(k:Nat) (ys:List (List Value)),i=(k:Int)∧j=(us.length:Int)-1-(k:Int)∧Go.SX.Own W 5 1 s ys∧ys.length=us.length∧k≤us.length∧(us.length≤2*k+1∨k<us.length)∧
    ∀a,a<(An4 us).length→ys[a]?=if a<k∨(An4 us).length≤a+k then(An4 us)[(An4 us).length-1-a]? else(An4 us)[a]?
  | _=>False,fun l _=>match l with | [.val (.int .i64 i),_]=>us.length-i.toNat | _=>0,⟨0,An4 us,rfl,by omega,h,hbl,Nat.zero_le _,by omega,fun a ha=>by rw[if_neg (by omega)]⟩,?_⟩
 rintro i3 i4 W5 ⟨k,ys,rfl,rfl,hO,hyl,hk,hk2,hys⟩
 refine⟨fun hlt=>?_,fun hge W10 hE10=>⟨rfl,?_⟩⟩
 ·have hkn:k<us.length-1-k:=by omega
  have ej:(us.length:Int)-1-(k:Int)=((us.length-1-k:Nat):Int):=by omega
  have hjl:us.length-1-k<us.length:=by omega
  have hkl:k<us.length:=by omega
  have e1:(An4 us)[us.length-1-k]?=some [.int .u8 (48+us[us.length-1-k]:Int)]:=by simp[An4,hjl]
  have e2:(An4 us)[k]?=some [.int .u8 (48+us[k]:Int)]:=by simp[An4,hkl]
  have y1:ys[us.length-1-k]?=some [.int .u8 (48+us[us.length-1-k]:Int)]:=by rw[hys _ (by omega),if_neg (by omega),e1]
  have y2:ys[k]?=some [.int .u8 (48+us[k]:Int)]:=by rw[hys _ (by omega),if_neg (by omega),e2]
  rw[ej]
  have ib1:inB s ((us.length-1-k:Nat):Int):=Own.Fi5 hO (by omega) (by omega)
  have ib2:inB s ((k:Nat):Int):=Own.Fi5 hO (by omega) (by omega)
  refine⟨ib1,_,Own.at1 hO y1,ib2,_,Own.at1 hO y2,ib2,?_⟩
  refine Ao7 (j:=k) hO (by omega) rfl (one _) (fun g hg=>.inl hg) fun W8 g hg hw hO8=>⟨ib1,?_⟩
  refine Ao7 (j:=us.length-1-k) hO8 (by rw[List.length_set];omega) rfl (one _) (fun g hg=>.inl hg) fun W9 g' hg' hw' hO9=>⟨by unfold I64;omega,by unfold I64;omega,⟨k+1,_,by push_cast;rfl,by omega,hO9,by simp[hyl],by omega,by omega,?_⟩,?_⟩
  ·have:=Dr2 (xs:=An4 us) (ys:=ys) (by omega) (by omega) (by rw[hbl];exact e1) e2 hys
   rw[hbl] at this⊢
   exact this
  ·show us.length-Int.toNat ((k:Int)+1)<us.length-Int.toNat (k:Int)
   omega
 ·have:=Do5 (xs:=An4 us) (ys:=ys) (k:=k) (by omega) (by omega) hys
  have e:An4 us.reverse=(An4 us).reverse:=by simp[An4]
  rw[e,←this]
  exact hO.ext hE10
theorem Ez1 {a p e r:Nat} (h:a+p*r=e):a+p*(r%10)+p*10*(r/10)=e:=by
 have h1:=Nat.mod_add_div r 10
 have h2:p*(r%10)+p*10*(r/10)=p*(r%10+10*(r/10)):=by grind
 rw[h1] at h2
 omega
theorem Fa1: ∀{l:List Nat} (h:l≠[]) (h0:l[l.length-1]?=some 0),dvl (l.take (l.length-1))=dvl l:=by
 intro l h h0
 have hp:=List.length_pos_iff.2 h
 have e:l=l.take (l.length-1) ++ [0]:=by
  have:=List.dropLast_concat_getLast h
  rw[List.getLast_eq_getElem,List.dropLast_eq_take] at this
  rw[List.getElem?_eq_getElem (by omega)] at h0
  rw[Option.some.inj h0] at this
  exact this.symm
 conv=>rhs;rw[e,Ay5]
 simp[dvl]
theorem Dy5 {W0 : PW} {M : Nat → Prop} {s : Sl} {x : Nat} (h : Aa6 284 W0 s x) (hx : nl x ≤ 100000000) :
    Aa0 Tryz.prog 159 [.agg #[s.v]] W0 M fun v W' => v = .string (En3 x) ∧ True := by
  apply Bn2
  intro W1 hE1
  refine ⟨fun _ => False, _, Ds4 (M := fun _ => False) (Row.ext h hE1) (by show nl x ≤ _; omega), fun _ h => h.elim, ?_⟩
  rintro v W2 hX2 ⟨s3, rfl, hO3, hf3⟩
  refine ⟨s3, rfl, ?_⟩
  have hW01 := hE1.size
  refine ⟨fun l W => match l with
    | [.row l6, .val (.slice A n c)] => W0.w.heap.size ≤ W.w.heap.size ∧ ∃ (ds : List Nat) (y : Nat), l6 = An4 ds ∧ (∀ d ∈ ds, d < 10) ∧ dvl ds + 10 ^ ds.length * y = x ∧ ds.length ≤ 32 * nl x + 9 ∧ nl y ≤ 100000000 ∧ Go.SX.Own W 284 1 ⟨A, n, c⟩ (cel (dg y)) ∧ Aq4 W0 ⟨A, n, c⟩
    | _ => False, fun l W => match l with | [_, .val (.slice A n c)] => slN W 284 ⟨A, n, c⟩ | _ => 0, ⟨Nat.le_trans hW01 hX2.size, [], x, rfl, fun d h => (by simp at h), by simp [dvl], by simp, hx, hO3, fun g hg => Nat.le_trans hW01 (hf3 g hg)⟩, ?_⟩
  rintro l6 s7 W8 ⟨hW8, ds, y, rfl, hds, hxy, hlen, hy, hO8, hF⟩
  have hO8 : Go.SX.Own W8 284 1 s7 (cel (dg y)) := hO8
  have hF : Aq4 W0 s7 := hF
  have hn7 : s7.n = nl y := by have := hO8.n; rw [Aa5] at this; exact this
  refine ⟨fun hpos => ?_, fun hz s21 W22 hE22 hO22 hf22 => ?_⟩
  · have hy0 : y ≠ 0 := fun e => by subst e; rw [Ag9] at hn7; omega
    have hb10 : ds.length < 32 * nl x := by
      have h1 : 10 ^ ds.length * 1 ≤ 10 ^ ds.length * y := Nat.mul_le_mul_left _ (by omega)
      have h2 : 2 ^ ds.length ≤ 10 ^ ds.length := Nat.pow_le_pow_left (by decide) _
      have h3 := Bb4 x
      rw [Bp0] at h3
      exact (Nat.pow_lt_pow_iff_right (by decide : 1 < 2)).1 (by omega)
    have hne : dg y ≠ [] := fun e => hy0 (by rw [← Ac5 y, e]; rfl)
    intro W' hE'
    obtain ⟨g, cs, hm, hg⟩ := (hO8.ext hE').mut hne
    refine ⟨_, _, Bw9 (by' := 1000000000) hm (Ad8 y) (by decide) (by decide) (by show nl y ≤ _; omega), ?_, ?_⟩
    · rintro b rfl
      exact ⟨hm.S, .inr (hF _ hg)⟩
    rintro v W10 hX10 ⟨ws, rfl, hwl, hwd, hwv, hput⟩
    rw [Ac5] at hwv ⊢
    have hO10 : Go.SX.Own W10 284 1 s7 (cel ws) := (hO8.ext hE').put hm hput hwl
    have hW10 : W0.w.heap.size ≤ W10.w.heap.size := Nat.le_trans (Nat.le_trans hW8 hE'.size) hX10.size
    obtain ⟨r0, hr0⟩ : ∃ r0, y % 1000000000 = r0 := ⟨_, rfl⟩
    have hr0lt : r0 < 1000000000 := by omega
    rw [hr0]
    refine ⟨_, rfl, fun l W => match l with
      | [.row l14, .val (.int .u32 i15), .val (.int .i64 i16)] => Ext W10 W ∧ ∃ (es : List Nat) (rr : Nat), l14 = An4 (ds ++ es) ∧ i15 = (rr : Int) ∧ i16 = (es.length : Int) ∧ es.length ≤ 9 ∧ (∀ d ∈ es, d < 10) ∧ dvl es + 10 ^ es.length * rr = r0 ∧ rr ≤ r0
      | _ => False, fun l _ => match l with | [_, _, .val (.int .i64 i)] => 9 - i.toNat | _ => 0, ⟨Ext.refl _, [], r0, by simp, rfl, rfl, by simp, fun d h => (by simp at h), by simp [dvl], Nat.le_refl _⟩, ?_⟩
    rintro l14 i15 i16 W17 ⟨hE17, es, rr, rfl, rfl, rfl, hel, hes, hrr, hrle⟩
    refine ⟨fun hlt => ?_, fun hge => ?_⟩
    · have e1 : Int.tmod (rr : Int) 10 = ((rr % 10 : Nat) : Int) := by rw [Int.tmod_eq_emod_of_nonneg (by omega)]; rfl
      have e2 : IntKind.wrap .u32 (48 + Int.tmod (rr : Int) 10) = ((48 + rr % 10 : Nat) : Int) := by
        rw [e1, show (48 : Int) + ((rr % 10 : Nat) : Int) = ((48 + rr % 10 : Nat) : Int) by push_cast; rfl, Ab9, Nat.mod_eq_of_lt (by unfold B; omega)]
      have e3 : IntKind.wrap .u8 (((48 + rr % 10 : Nat)) : Int) = (48 + ((rr % 10 : Nat) : Int)) := by rw [Du1 (by omega) (by omega)]; push_cast; rfl
      have e4 : IntKind.wrap .u32 (Int.tdiv (rr : Int) 10) = ((rr / 10 : Nat) : Int) := by
        rw [Int.tdiv_eq_ediv_of_nonneg (by omega), show ((rr : Int) / 10) = ((rr / 10 : Nat) : Int) by rfl, Ab9, Nat.mod_eq_of_lt (by unfold B; omega)]
      rw [e2, e3, e4]
      refine ⟨by decide, by rw [Ah2, List.length_append]; simp only [List.length_cons, List.length_nil]; omega, by decide, by unfold I64; omega, ⟨hE17, es ++ [rr % 10], rr / 10, ?_, rfl, by simp, by simp; omega, ?_, ?_, ?_⟩, ?_⟩
      · rw [← List.append_assoc, Bp9 (ds ++ es)]; rfl
      · intro d hd
        rcases List.mem_append.1 hd with h | h
        · exact hes d h
        · rw [List.mem_singleton.1 h]; omega
      · rw [Ay5, List.length_append, List.length_singleton, Nat.pow_succ]
        simp only [dvl, Nat.mul_zero, Nat.add_zero]
        exact Ez1 hrr
      · have : rr / 10 ≤ rr := Nat.div_le_self ..
        omega
      · show 9 - Int.toNat ((es.length : Int) + 1) < 9 - Int.toNat (es.length : Int)
        omega
    · have hel9 : es.length = 9 := by omega
      rw [hel9] at hrr
      have hrr0 : dvl es = r0 := by
        have : rr = 0 := by omega
        rw [this] at hrr
        simpa using hrr
      refine Ba4 (hO10.ext hE17) hwd (by rw [hwl]; show nl y ≤ _; omega) fun s20 W19 hE19 ⟨h20, hb20⟩ => ⟨s20, rfl, ⟨Nat.le_trans (Nat.le_trans hW10 hE17.size) hE19.size, ds ++ es, y / 1000000000, rfl, ?_, ?_, by rw [List.length_append]; omega, Nat.le_trans (Ad1 (Nat.div_le_self ..)) hy, ?_, fun g' hg' => hF g' (hb20 g' hg')⟩, ?_⟩
      · intro d hd
        rcases List.mem_append.1 hd with h | h
        · exact hds d h
        · exact hes d h
      · rw [Ay5, List.length_append, hel9, hrr0, Nat.pow_add, ← hr0]
        have e1 := Nat.mod_add_div y 1000000000
        have e2 : 10 ^ ds.length * (y % 1000000000) + 10 ^ ds.length * 10 ^ 9 * (y / 1000000000) = 10 ^ ds.length * y := by
          conv => rhs; rw [← e1]
          rw [Nat.mul_add, Nat.mul_assoc]
        omega
      · rw [hwv] at h20
        exact h20
      · rw [hwv] at h20
        have i20 : Aa6 284 W19 s20 (y / 1000000000) := h20.row
        have i8 : Aa6 284 W8 s7 y := hO8.row
        show slN W19 _ s20 < slN W8 _ s7
        rw [Bl5 i20, Bl5 i8]
        exact Nat.div_lt_self (by omega) (by decide)
  · have hy0 : y = 0 := Ad0.1 (by omega)
    subst hy0
    rw [Nat.mul_zero, Nat.add_zero] at hxy
    refine ⟨fun l W => match l with
      | [.val (.slice A n c)] => ∃ es : List Nat, Go.SX.Own W 5 1 ⟨A, n, c⟩ (An4 es) ∧ dvl es = x ∧ (∀ d ∈ es, d < 10) ∧ es.length ≤ 32 * nl x + 9 ∧ Aq4 W0 ⟨A, n, c⟩
      | _ => False, fun l _ => match l with | [.val (.slice A n c)] => n | _ => 0, ⟨ds, hO22, hxy, hds, hlen, fun g hg => (hf22 g hg).1⟩, ?_⟩
    rintro s26 W27 ⟨es, hO, hv, hd, hl, hfr⟩
    have hO : Go.SX.Own W27 5 1 s26 (An4 es) := hO
    have hfr : Aq4 W0 s26 := hfr
    have hn : s26.n = es.length := by rw [hO.n, Ah2]
    refine ⟨fun hpos => ?_, fun hz => ⟨fun _ W35 _ => ⟨?_, trivial⟩, fun hne => absurd hz (by omega)⟩⟩
    · have hel : es.length - 1 < es.length := by omega
      have e1 : ((s26.n : Int) - 1) = ((es.length - 1 : Nat) : Int) := by omega
      rw [e1, show Int.toNat ((es.length - 1 : Nat) : Int) = es.length - 1 from rfl]
      have hb : (An4 es)[es.length - 1]? = some [.int .u8 (48 + es[es.length - 1] : Int)] := by simp [An4, hel]
      refine ⟨by unfold I64; omega, Own.Fi5 hO (by omega) (by rw [Ah2]; omega), _, Own.at1 hO hb, fun h48 => ⟨by unfold I64; omega, ⟨by omega, by omega, by have := hO.row.2.1; omega⟩, ?_, ?_⟩, fun h48 => ⟨fun h => absurd h (by omega), fun _ => ?_⟩⟩
      · rw [show Int.toNat 0 = 0 from rfl, show TyI.size ty5 = 1 from rfl, Sl.Ar0]
        have ht := hO.take (k := es.length - 1) (by rw [Ah2]; omega)
        have e0 : es[es.length - 1] = 0 := by omega
        refine ⟨es.take (es.length - 1), by have e : An4 (es.take (es.length - 1)) = (An4 es).take (es.length - 1) := by simp [An4, List.map_take]
                                            rw [e]; exact ht, ?_, fun d hm => hd d (List.mem_of_mem_take hm), by simp; omega, fun g hg => hfr g (Cj9 hg)⟩
        rw [← hv]
        exact Fa1 (fun e => by subst e; simp at hel) (by rw [List.getElem?_eq_getElem hel, e0])
      · rw [show Int.toNat 0 = 0 from rfl, show TyI.size ty5 = 1 from rfl, Sl.Ar0]
        show es.length - 1 < s26.n
        omega
      · intro W' hE'
        refine ⟨_, _, Ea5 (hO.ext hE') (by omega), fun g hg => ⟨(hO.ext hE').2 g hg, .inr (hfr g hg)⟩, ?_⟩
        rintro v W31 hX31 ⟨rfl, hR⟩
        refine ⟨rfl, (es.reverse.map fun (d : Nat) => (48 + (d : Int))), ?_, fun W34 _ => ⟨?_, trivial⟩⟩
        · have := hR.row
          have e : An4 es.reverse = List.map (fun i33 => [Value.int IntKind.u8 i33]) (es.reverse.map fun (d : Nat) => (48 + (d : Int))) := by simp [An4]
          rw [e] at this
          exact this
        · have hlast : es.getLast? ≠ some 0 := by
            rw [List.getLast?_eq_getElem?, List.getElem?_eq_getElem hel]
            intro e
            have := Option.some.inj e
            omega
          have hdec := Eo0 hd hlast
          rw [hv] at hdec
          have hx0 : x ≠ 0 := fun e => by
            rw [e] at hdec
            have : es = [] := by rw [← hdec]; exact Ay1
            subst this
            simp at hel
          unfold En3
          rw [if_neg hx0, hdec]
    · have : es = [] := List.eq_nil_of_length_eq_zero (by omega)
      subst this
      rw [← hv]
      rfl
theorem Av4 {W0 W:PW} {M:Nat→Prop} {s:Sl} {x:Nat} {K:Value→PW→Prop} (h:Aa6 284 W s x) (hx:nl x≤100000000) (kont: ∀(W':PW),Ext W W'→(True)→K (.string (En3 x)) W'):
  Aa1 Tryz.prog W0 M 159 [.agg #[s.v]] W K:=
 Aa2 (fun W' hE=>Dy5 (M:=fun _=>False) (h.ext hE) hx) (fun W' v W'' hE hE' hP=>by
  obtain⟨rfl,h⟩:=hP
  exact kont W'' (hE.trans hE') h)
theorem Ct9 {W0:PW} {M:Nat→Prop} {s:Sl} {b:Bool} {z:Int} (h:Ab5 284 W0 s b z) (hz:nl z.natAbs≤100000000):
  Aa0 Tryz.prog 158 [.agg #[s.v,.bool b]] W0 M fun v W'=>v = .string (Dq2 z)∧True:=by
 apply Bc7
 have hs:=Av8 z.natAbs
 have hb:=h.2
 refine⟨fun ht=>Av4 h.1 hz fun W2 hE2 _=>⟨_,rfl,?_,fun W4 _=>⟨?_,trivial⟩⟩,fun hf=>Av4 h.1 hz fun W6 hE6 _=>⟨_,rfl,fun W8 _=>⟨?_,trivial⟩⟩⟩
 ·show((1:Nat):Int)+_≤_
  omega
 ·have:z<0:=by rw[hb] at ht;exact of_decide_eq_true ht
  unfold Dq2
  rw[if_pos this]
 ·have:¬z<0:=by rw[hb] at hf;exact of_decide_eq_false hf
  unfold Dq2
  rw[if_neg this]
theorem Ba3 {W0 W:PW} {M:Nat→Prop} {s:Sl} {b:Bool} {z:Int} {K:Value→PW→Prop} (h:Ab5 284 W s b z) (hz:nl z.natAbs≤100000000) (kont: ∀(W':PW),Ext W W'→(True)→K (.string (Dq2 z)) W'):
  Aa1 Tryz.prog W0 M 158 [.agg #[s.v,.bool b]] W K:=
 Aa2 (fun W' hE=>Ct9 (M:=fun _=>False) (h.ext hE) hz) (fun W' v W'' hE hE' hP=>by
  obtain⟨rfl,h⟩:=hP
  exact kont W'' (hE.trans hE') h)
theorem Dw2 {W0:PW} {M:Nat→Prop} {s t:Sl} {b:Bool} {q:Rat} {k:Nat} (h:Ab3 284 W0 s b t q) (hq:Sz k q) (hk:k≤100000000):
  Aa0 Tryz.prog 72 [.agg #[s.v,.bool b,t.v]] W0 M fun v W'=>v = .string (Ed0 q)∧True:=by
 apply Bn6
 have hd:=hq.dn
 have h1:=hq.1
 have h2:=hq.2
 have hs1:=Cr1 q.num
 have hs2:=Av8 q.den
 refine Ac9 h.2 (by omega) fun W2 hE2 _=>⟨_,rfl,fun h0=>?_,fun h0=>?_⟩
 ·have hden:q.den=1:=Aq0.1 (Ag3.1 (by omega))
  refine Ba3 (h.1.ext hE2) (by omega) fun W5 hE5 _=>⟨_,rfl,fun W7 _=>⟨?_,trivial⟩⟩
  unfold Ed0
  rw[if_pos hden]
 ·have hdn:dn q≠0:=fun e=>h0 (by rw[e];rfl)
  have hden:q.den≠1:=fun e=>hdn (Aq0.2 e)
  have h2':=h.2
  rw[Cl4 hdn] at h2'
  refine Ba3 (h.1.ext hE2) (by omega) fun W9 hE9 _=>⟨_,rfl,?_,Av4 ((h2'.ext hE2).ext hE9) (by omega) fun W12 hE12 _=>⟨_,rfl,?_,fun W14 _=>⟨?_,trivial⟩⟩⟩
  ·show _+((1:Nat):Int)≤_
   omega
  ·rw[ByteArray.size_append]
   show(((Dq2 q.num).size+1:Nat):Int)+_≤_
   omega
  ·unfold Ed0
   rw[if_neg hden]
theorem Dc4 {W0 W:PW} {M:Nat→Prop} {s t:Sl} {b:Bool} {q:Rat} {k:Nat} {K:Value→PW→Prop} (h:Ab3 284 W s b t q) (hq:Sz k q) (hk:k≤100000000) (kont: ∀(W':PW),Ext W W'→(True)→K (.string (Ed0 q)) W'):
  Aa1 Tryz.prog W0 M 72 [.agg #[s.v,.bool b,t.v]] W K:=
 Aa2 (fun W' hE=>Dw2 (M:=fun _=>False) (h.ext hE) hq hk) (fun W' v W'' hE hE' hP=>by
  obtain⟨rfl,h⟩:=hP
  exact kont W'' (hE.trans hE') h)
end Go.Proofs.YtjkkidjbppphpaaGreatDoor
/- cinctureref1: texts of numbers; cincturelaw3.Is. -/
namespace Go.Proofs.YtjkkidjbppphpaaGreatDoor
open Go Go.SX
def ntI (x:Nat) (W0:PW) (l:List PL) (W:PW):Prop:=
 match l with
 | [.row l7,.val (.slice A n c)]=>W0.w.heap.size≤W.w.heap.size∧∃(ds:List Nat) (y:Nat),l7=An4 ds∧dec x=ds ++ dec y∧nl y≤nl x∧Go.SX.Own W 284 1 ⟨A,n,c⟩ (cel (dg y))∧Aq4 W0 ⟨A,n,c⟩
 | _=>False
noncomputable def ntM (l:List PL) (W:PW):Nat:=
 match l with
 | [_,.val (.slice A n c)]=>slN W 284 ⟨A,n,c⟩
 | _=>0
def ntJ (y:Nat) (s:Sl) (W0:PW) (l:List PL) (W:PW):Prop:=
 match l with
 | [.val (.int .u64 r),.val (.int .i64 i)]=>W0.w.heap.size≤W.w.heap.size∧∃(r' k:Nat) (ws:List Nat),r=(r':Int)∧i=(k:Int)-1∧k≤nl y∧r'<10∧ws.length=nl y∧Dig ws∧Go.SX.Own W 284 1 s (cel ws)∧
   10*val (ws.drop k)+r'=val ((dg y).drop k)∧ws.take k=(dg y).take k
 | _=>False
def dnM (l:List PL) (W:PW):Nat:=
 match l with
 | [_,.val (.int .i64 i)]=>(i+1).toNat
 | _=>0
theorem Fq8 {r d V U:Nat} (h:10*V+r=U) (hr:r<10) (hd:d<B):(r*B+d)/10<B∧10*((r*B+d)/10+B*V)+(r*B+d)%10=d+B*U:=by
 have e:=Nat.mod_add_div (r*B+d) 10
 have e2:B*U=10*(B*V)+r*B:=by rw[←h,Nat.mul_add];grind
 generalize B*V=x at *
 generalize B*U=y at *
 unfold B at *
 omega
theorem Dl5 {W0:PW} {M:Nat→Prop} {s:Sl} {x:Nat} (h:Aa6 284 W0 s x) (hx:nl x≤100000000):
  Aa0 Tryz.prog 212 [s.v] W0 M fun v W'=>v = .string (En3 x)∧True:=by
 apply Bn1
 have hn:=h.n
 have lx:(cel (dg x)).length=nl x:=Aa5 _
 refine⟨fun h0 W1 hE1=>⟨?_,trivial⟩,fun h0=>⟨cel (dg x),⟨_,h⟩,by omega,fun s3 W4 hE4 hO4 hf4=>⟨ntI x W0,ntM,⟨hE4.size,[],x,rfl,rfl,Nat.le_refl _,hO4,fun g hg=>(hf4 g hg).1⟩,?_⟩⟩⟩
 ·have:x=0:=Ad0.1 (by omega)
  subst this
  rfl
 have hx0:x≠0:=fun e=>by rw[e,Ag9] at hn;omega
 have hdl:(dec x).length≤32*nl x:=by
  refine Dn5 _ ?_
  have h1:=Bb4 x
  rw[Bp0] at h1
  exact Nat.lt_of_lt_of_le h1 (Nat.pow_le_pow_left (by decide) _)
 rintro l7 s8 W9 ⟨hW9,ds,y,rfl,hdx,hny,hO9,hF⟩
 have hO9:Go.SX.Own W9 284 1 s8 (cel (dg y)):=hO9
 have hF:Aq4 W0 s8:=hF
 have hds:ds.length≤32*nl x:=by rw[hdx,List.length_append] at hdl;omega
 have hn8:s8.n=nl y:=by have:=hO9.n;rw[Aa5] at this;exact this
 refine⟨fun hpos=>⟨by unfold I64;omega,ntJ y s8 W0,dnM,⟨hW9,0,nl y,dg y,rfl,by omega,Nat.le_refl _,by decide,rfl,Ad8 y,hO9,?_,rfl⟩,?_⟩,fun hz s20 W21 hE21 hO21 hf21=>?_⟩
 ·rw[List.drop_eq_nil_of_le (by exact Nat.le_refl _)]
  rfl
 ·have hy0:y≠0:=fun e=>by rw[e,Ag9] at hn8;omega
  rintro i12 i13 W14 ⟨hW14,r,k,ws,rfl,rfl,hk,hr,hwl,hwd,hO14,hv,ht⟩
  refine⟨fun hge=>?_,fun hlt=>?_⟩
  ·have hk1:k-1<ws.length:=by omega
   have hk2:k-1<(dg y).length:=by show k-1<nl y;omega
   have e1:(k:Int)-1=((k-1:Nat):Int):=by omega
   have hkd:ws[k-1]=(dg y)[k-1]:=by
    have:(ws.take k)[k-1]?=((dg y).take k)[k-1]?:=by rw[ht]
    rw[List.getElem?_take,List.getElem?_take,if_pos (by omega),if_pos (by omega),List.getElem?_eq_getElem hk1,List.getElem?_eq_getElem hk2] at this
    exact Option.some.inj this
   have hdB:=hwd.at hk1
   obtain⟨d,hd⟩: ∃d,ws[k-1]=d:=⟨_,rfl⟩
   rw[hd] at hdB hkd
   have hib:inB s8 ((k-1:Nat):Int):=Own.Fi5 hO14 (by omega) (by rw[Aa5];omega)
   have hrB:r*B<18446744073709551616:=by unfold B;omega
   have w0:Bc5 .u64 (r:Int) 32=((r*B:Nat):Int):=Eh5 (by unfold B;omega)
   have w1:IntKind.wrap .u64 (d:Int)=(d:Int):=Ab1 (by unfold B at hdB;omega)
   have w2:bits .or .u64 ((r*B:Nat):Int) (d:Int)=((r*B+d:Nat):Int):=Dq8 hdB (by unfold B;omega)
   have w3:Int.tdiv ((r*B+d:Nat):Int) 10=(((r*B+d)/10:Nat):Int):=by rw[Int.tdiv_eq_ediv_of_nonneg (by omega)];rfl
   have w4:Int.tmod ((r*B+d:Nat):Int) 10=(((r*B+d)%10:Nat):Int):=by rw[Int.tmod_eq_emod_of_nonneg (by omega)];rfl
   have hdr:=Ah9 hk2
   rw[←hkd,show k-1+1=k by omega] at hdr
   have hdv:=Fq8 hv hr hdB
   have w5:IntKind.wrap .u32 (IntKind.wrap .u64 (((r*B+d)/10:Nat):Int))=(((r*B+d)/10:Nat):Int):=by
    rw[Ab1 (by have:=hdv.1;unfold B at this⊢;omega),Ab9,Nat.mod_eq_of_lt hdv.1]
   rw[e1]
   refine⟨hib,(d:Int),by rw[←hd];exact Own.at1 hO14 (Au0 hk1),by decide,hib,?_⟩
   rw[w0,w1,w2,w3,w4,w5]
   refine Ao7 (j:=k-1) hO14 (by rw[Aa5];exact hk1) rfl (fun u hu=>by rw[List.mem_singleton.1 hu];rfl) (fun g hg=>.inr (hF g hg)) fun W16 g hg hw hO16=>⟨by decide,by unfold I64;omega,⟨Nat.le_trans hW14 hw.Fi9.size,(r*B+d)%10,k-1,ws.set (k-1) ((r*B+d)/10),rfl,by omega,by omega,by omega,by simpa using hwl,hwd.set hdv.1,by rw[←Ae9];exact hO16,?_,?_⟩,?_⟩
   ·have h1:=Ah9 (l:=ws.set (k-1) ((r*B+d)/10)) (k:=k-1) (by simpa using hk1)
    rw[List.getElem_set_self,show k-1+1=k by omega,Ah5 (n:=k) (k:=k-1) (by omega)] at h1
    rw[h1,hdr]
    exact hdv.2
   ·rw[At3 (Nat.le_refl _)]
    have:=congrArg (List.take (k-1)) ht
    rwa [List.take_take,List.take_take,Nat.min_eq_left (by omega)] at this
   ·show Int.toNat (((k-1:Nat):Int)-1+1)<Int.toNat (((k-1:Nat):Int)+1)
    omega
  ·have hk0:k=0:=by omega
   subst hk0
   rw[List.drop_zero,List.drop_zero,Ac5] at hv
   have e1:val ws=y/10:=by omega
   have e2:r=y%10:=by omega
   have w1:IntKind.wrap .u8 (IntKind.wrap .u64 (48+(r:Int)))=48+(r:Int):=by
    rw[show(48:Int)+(r:Int)=((48+r:Nat):Int) by push_cast;rfl,Ab1 (by omega),Du1 (by omega) (by omega)]
   rw[w1]
   refine⟨by rw[Ah2];simp only[List.length_cons,List.length_nil];omega,Cm7 hO14.row hwd (by omega) fun k W18 hE18 ⟨hk,he⟩=>⟨⟨s8.A,k,s8.c⟩,rfl,⟨Nat.le_trans hW14 hE18.size,ds ++ [r],y/10,?_,?_,Nat.le_trans (Ad1 (Nat.div_le_self ..)) hny,?_,fun g hg=>hF g (Cj9 hg)⟩,?_⟩⟩
   ·rw[Bp9];rfl
   ·rw[hdx,Dj5 hy0,e2,List.append_assoc];rfl
   ·rw[←e1,he,←Bo2]
    exact(hO14.ext hE18).take (by rw[Aa5];exact hk)
   ·have i1:Aa6 284 W18 ⟨s8.A,k,s8.c⟩ (y/10):=by
     show Ad4 284 W18 _ (dg (y/10))
     rw[←e1,he]
     exact Row.ext (Ad4.take hO14.row hk) hE18
    have i2:Aa6 284 W9 s8 y:=hO9.row
    show slN W18 _ _<slN W9 _ s8
    rw[Bl5 i1,Bl5 i2]
    exact Nat.div_lt_self (by omega) (by decide)
 ·have hy0:y=0:=Ad0.1 (by omega)
  subst hy0
  rw[Ay1,List.append_nil] at hdx
  have hbl:(An4 ds).length=ds.length:=Ah2 ds
  have hn20:s20.n=ds.length:=by rw[hO21.n,hbl]
  have one: ∀(z:Int) (u:Value),u∈[Value.int .u8 z]→u.oneCell'=true:=by
   intro z u hu
   rw[List.mem_singleton.1 hu];rfl
  have w1:IntKind.wrap .i64 (Int.tdiv (ds.length:Int) 2)=((ds.length/2:Nat):Int):=by
   rw[Int.tdiv_eq_ediv_of_nonneg (by omega),show(ds.length:Int)/2=((ds.length/2:Nat):Int) by rfl]
   simp[IntKind.wrap,IntKind.bits,IntKind.signed]
   omega
  rw[hn20,w1]
  refine⟨fun l W=>match l with
   | [.val (.int .i64 i)]=>∃(k:Nat) (ys:List (List Value)),i=(k:Int)∧Go.SX.Own W 5 1 s20 ys∧ys.length=ds.length∧k≤ds.length/2∧
     ∀a,a<(An4 ds).length→ys[a]?=if a<k∨(An4 ds).length≤a+k then(An4 ds)[(An4 ds).length-1-a]? else(An4 ds)[a]?
   | _=>False,fun l _=>match l with | [.val (.int .i64 i)]=>ds.length-i.toNat | _=>0,⟨0,An4 ds,rfl,hO21,hbl,Nat.zero_le _,fun a ha=>by rw[if_neg (by omega)]⟩,?_⟩
  rintro i24 W25 ⟨k,ys,rfl,hO,hyl,hk,hys⟩
  refine⟨by decide,fun hlt=>?_,fun hge=>⟨(dec x).reverse.map fun(d:Nat)=>48+(d:Int),?_,fun W30 _=>⟨?_,trivial⟩⟩⟩
  ·have hkn:k<ds.length-1-k:=by omega
   have ej:(ds.length:Int)-1-(k:Int)=((ds.length-1-k:Nat):Int):=by omega
   have hjl:ds.length-1-k<ds.length:=by omega
   have hkl:k<ds.length:=by omega
   have e1:(An4 ds)[ds.length-1-k]?=some [.int .u8 (48+ds[ds.length-1-k]:Int)]:=by simp[An4,hjl]
   have e2:(An4 ds)[k]?=some [.int .u8 (48+ds[k]:Int)]:=by simp[An4,hkl]
   have y1:ys[ds.length-1-k]?=some [.int .u8 (48+ds[ds.length-1-k]:Int)]:=by rw[hys _ (by omega),if_neg (by omega),e1]
   have y2:ys[k]?=some [.int .u8 (48+ds[k]:Int)]:=by rw[hys _ (by omega),if_neg (by omega),e2]
   rw[ej]
   have ib1:inB s20 ((ds.length-1-k:Nat):Int):=Own.Fi5 hO (by omega) (by omega)
   have ib2:inB s20 ((k:Nat):Int):=Own.Fi5 hO (by omega) (by omega)
   have hmay: ∀g,s20.v.ownBlock=some g→may W0 M g:=fun g hg=>.inr (hf21 g hg).1
   refine⟨by unfold I64;omega,by unfold I64;omega,by unfold I64;omega,by unfold I64;omega,ib1,_,Own.at1 hO y1,ib2,_,Own.at1 hO y2,ib2,?_⟩
   refine Ao7 (j:=k) hO (by omega) rfl (one _) hmay fun W8 g hg hw hO8=>⟨ib1,?_⟩
   refine Ao7 (j:=ds.length-1-k) hO8 (by rw[List.length_set];omega) rfl (one _) hmay fun W9 g' hg' hw' hO9=>⟨by unfold I64;omega,⟨k+1,_,by push_cast;rfl,hO9,by simp[hyl],by omega,?_⟩,?_⟩
   ·have:=Dr2 (xs:=An4 ds) (ys:=ys) (by omega) (by omega) (by rw[hbl];exact e1) e2 hys
    rw[hbl] at this⊢
    exact this
   ·show ds.length-Int.toNat ((k:Int)+1)<ds.length-Int.toNat (k:Int)
    omega
  ·have:=Do5 (xs:=An4 ds) (ys:=ys) (k:=k) (by omega) (by omega) hys
   have e:((dec x).reverse.map fun(d:Nat)=>48+(d:Int)).map (fun i=>[Value.int .u8 i])=(An4 ds).reverse:=by rw[hdx];simp[An4]
   rw[e,←this]
   exact hO.row
  ·unfold En3
   rw[if_neg hx0]
theorem At9 {W0 W:PW} {M:Nat→Prop} {s:Sl} {x:Nat} {K:Value→PW→Prop} (h:Aa6 284 W s x) (hx:nl x≤100000000) (kont: ∀(W':PW),Ext W W'→(True)→K (.string (En3 x)) W'):
  Aa1 Tryz.prog W0 M 212 [s.v] W K:=
 Aa2 (fun W' hE=>Dl5 (M:=fun _=>False) (h.ext hE) hx) (fun W' v W'' hE hE' hP=>by
  obtain⟨rfl,h⟩:=hP
  exact kont W'' (hE.trans hE') h)
theorem De9 {W0:PW} {M:Nat→Prop} {s:Sl} {b:Bool} {z:Int} (h:Ab5 284 W0 s b z) (hz:nl z.natAbs≤100000000):
  Aa0 Tryz.prog 211 [.agg #[.bool b,s.v]] W0 M fun v W'=>v = .string (Dq2 z)∧True:=by
 apply Bn4
 have hs:=Av8 z.natAbs
 have hb:=h.2
 refine⟨fun ht=>At9 h.1 hz fun W2 hE2 _=>⟨_,rfl,?_,fun W4 _=>⟨?_,trivial⟩⟩,fun hf=>At9 h.1 hz fun W6 hE6 _=>⟨_,rfl,fun W8 _=>⟨?_,trivial⟩⟩⟩
 ·show((1:Nat):Int)+_≤_
  omega
 ·have:z<0:=by rw[hb] at ht;exact of_decide_eq_true ht
  unfold Dq2
  rw[if_pos this]
 ·have:¬z<0:=by rw[hb] at hf;exact of_decide_eq_false hf
  unfold Dq2
  rw[if_neg this]
theorem Bf1 {W0 W:PW} {M:Nat→Prop} {s:Sl} {b:Bool} {z:Int} {K:Value→PW→Prop} (h:Ab5 284 W s b z) (hz:nl z.natAbs≤100000000) (kont: ∀(W':PW),Ext W W'→(True)→K (.string (Dq2 z)) W'):
  Aa1 Tryz.prog W0 M 211 [.agg #[.bool b,s.v]] W K:=
 Aa2 (fun W' hE=>De9 (M:=fun _=>False) (h.ext hE) hz) (fun W' v W'' hE hE' hP=>by
  obtain⟨rfl,h⟩:=hP
  exact kont W'' (hE.trans hE') h)
theorem Di8 {W0:PW} {M:Nat→Prop} {s t:Sl} {b:Bool} {q:Rat} {k:Nat} (h:Ab6 284 W0 b s t q) (hq:Sz k q) (hk:k≤100000000):
  Aa0 Tryz.prog 156 [.agg #[.bool b,s.v,t.v]] W0 M fun v W'=>v = .string (Ed0 q)∧True:=by
 apply Bm4
 have h1:=hq.1
 have h2:=hq.2
 have hs1:=Cr1 q.num
 have hs2:=Av8 q.den
 refine Ag4 h fun s3 W2 hE2 h3=>⟨s3,rfl,Ae0 (x:=1) (by decide) fun s6 W5 hE5 h6=>⟨s6,rfl,Aj3 (h3.ext hE5) h6 (by omega) fun W8 hE8 _=>⟨_,rfl,fun h0=>?_,fun h0=>?_⟩⟩⟩
 ·have hden:q.den=1:=(Av7 _ 1).1 h0
  refine Bf1 (h.1.ext ((hE2.trans hE5).trans hE8)) (by omega) fun W11 hE11 _=>⟨_,rfl,fun W13 _=>⟨?_,trivial⟩⟩
  unfold Ed0
  rw[if_pos hden]
 ·have hden:q.den≠1:=fun e=>h0 ((Av7 _ 1).2 e)
  have hd:Aa6 284 W0 t q.den:=by
   rcases h.2 with h | h
   ·exact h
   ·exact absurd h.1 hden
  have hE:=(hE2.trans hE5).trans hE8
  refine Bf1 (h.1.ext hE) (by omega) fun W15 hE15 _=>⟨_,rfl,?_,At9 (hd.ext (hE.trans hE15)) (by omega) fun W18 hE18 _=>⟨_,rfl,?_,fun W20 _=>⟨?_,trivial⟩⟩⟩
  ·show _+((1:Nat):Int)≤_
   omega
  ·rw[ByteArray.size_append]
   show(((Dq2 q.num).size+1:Nat):Int)+_≤_
   omega
  ·unfold Ed0
   rw[if_neg hden]
theorem Cl5 {W0 W:PW} {M:Nat→Prop} {s t:Sl} {b:Bool} {q:Rat} {k:Nat} {K:Value→PW→Prop} (h:Ab6 284 W b s t q) (hq:Sz k q) (hk:k≤100000000) (kont: ∀(W':PW),Ext W W'→(True)→K (.string (Ed0 q)) W'):
  Aa1 Tryz.prog W0 M 156 [.agg #[.bool b,s.v,t.v]] W K:=
 Aa2 (fun W' hE=>Di8 (M:=fun _=>False) (h.ext hE) hq hk) (fun W' v W'' hE hE' hP=>by
  obtain⟨rfl,h⟩:=hP
  exact kont W'' (hE.trans hE') h)
theorem Ej2 {W0:PW} {M:Nat→Prop} {s t s' t':Sl} {b b':Bool} {p q:Rat} {k:Nat} (h1:Ab3 284 W0 s b t p) (h2:Ab6 284 W0 b' s' t' q) (hp:Sz k p) (hq:Sz k q) (hk:k≤100000000):
  Aa0 Tryz.prog 71 [.agg #[s.v,.bool b,t.v],.agg #[.bool b',s'.v,t'.v]] W0 M fun v W'=>v = .bool (decide (Ed0 p=Ed0 q))∧True:=by
 apply Dl2
 exact Dc4 h1 hp hk fun W2 hE2 _=>⟨_,rfl,Cl5 (h2.ext hE2) hq hk fun W5 hE5 _=>⟨_,rfl,fun W7 _=>⟨rfl,trivial⟩⟩⟩
theorem Bv1 {W0 W:PW} {M:Nat→Prop} {s t s' t':Sl} {b b':Bool} {p q:Rat} {k:Nat} {K:Value→PW→Prop} (h1:Ab3 284 W s b t p) (h2:Ab6 284 W b' s' t' q) (hp:Sz k p) (hq:Sz k q) (hk:k≤100000000) (kont: ∀(W':PW),Ext W W'→(True)→K (.bool (decide (Ed0 p=Ed0 q))) W'):
  Aa1 Tryz.prog W0 M 71 [.agg #[s.v,.bool b,t.v],.agg #[.bool b',s'.v,t'.v]] W K:=
 Aa2 (fun W' hE=>Ej2 (M:=fun _=>False) (h1.ext hE) (h2.ext hE) hp hq hk) (fun W' v W'' hE hE' hP=>by
  obtain⟨rfl,h⟩:=hP
  exact kont W'' (hE.trans hE') h)
end Go.Proofs.YtjkkidjbppphpaaGreatDoor
