/- Texts of numbers: slices.Reverse, nat.Text, whole.Text, rat.Text. -/
import Derived.Test.YtnlmddaakeigdaaGreatDoorW7
import Derived.Test.YtnlmddaakeigdaaGreatDoorR5
import Derived.Test.YtnlmddaakeigdaaGreatDoorLib3
import Derived.Test.YtnlmddaakeigdaaGreatDoorW9
import Derived.Test.YtnlmddaakeigdaaGreatDoorR7
set_option linter.unusedVariables false
set_option linter.unusedSimpArgs false
set_option maxRecDepth 100000
set_option linter.unusedVariables false
set_option linter.unusedSimpArgs false
namespace Go.Proofs.YtnlmddaakeigdaaGreatDoor
open Go Go.SX
theorem Own.inB' {W:PW} {t:TypeId} {sz:Nat} {s:Sl} {xs:List (List Value)} (h:Go.SX.Own W t sz s xs) {i:Int} (h0:0≤i) (h1:i<(xs.length:Int)):inB s i:=
 ⟨h0,by have:=h.n;omega,Row.some h.row fun e=>by subst e;simp at h1;omega⟩
theorem Own.at1 {W:PW} {t:TypeId} {s:Sl} {xs:List (List Value)} {v:Value} (h:Go.SX.Own W t 1 s xs) {i:Nat} (hi:xs[i]?=some [v]):ElemAt W s 1 i 0 [v]:=Row.elem h.row hi fun j u hj=>by simpa using hj
theorem reverse_ok {W0:PW} {s:Sl} {us:List Nat} (h:Go.SX.Own W0 5 1 s (bcel us)) (hl:us.length≤1099511627776):
  PCallsM Go.Proofs.Tryz.prog 206 [s.v] W0 (fun g=>s.v.ownBlock=some g) fun v W'=>v = .tuple #[]∧Go.SX.Own W' 5 1 s (bcel us.reverse):=by
 apply callslices_Reverse_byte_byte
 have hn:s.n=us.length:=by rw[h.n,bcel_length]
 have hbl:(bcel us).length=us.length:=bcel_length us
 have one: ∀(z:Int) (u:Value),u∈[Value.int .u8 z]→u.oneCell'=true:=by
  intro z u hu
  rw[List.mem_singleton.1 hu];rfl
 refine⟨by unfold I64;omega,fun l W=>match l with
  | [.val (.int .i64 i),.val (.int .i64 j)]=>∃(k:Nat) (ys:List (List Value)),i=(k:Int)∧j=(us.length:Int)-1-(k:Int)∧Go.SX.Own W 5 1 s ys∧ys.length=us.length∧k≤us.length∧(us.length≤2*k+1∨k<us.length)∧
    ∀a,a<(bcel us).length→ys[a]?=if a<k∨(bcel us).length≤a+k then(bcel us)[(bcel us).length-1-a]? else(bcel us)[a]?
  | _=>False,fun l _=>match l with | [.val (.int .i64 i),_]=>us.length-i.toNat | _=>0,⟨0,bcel us,rfl,by omega,h,hbl,Nat.zero_le _,by omega,fun a ha=>by rw[if_neg (by omega)]⟩,?_⟩
 rintro i3 i4 W5 ⟨k,ys,rfl,rfl,hO,hyl,hk,hk2,hys⟩
 refine⟨fun hlt=>?_,fun hge W10 hE10=>⟨rfl,?_⟩⟩
 ·have hkn:k<us.length-1-k:=by omega
  have ej:(us.length:Int)-1-(k:Int)=((us.length-1-k:Nat):Int):=by omega
  have hjl:us.length-1-k<us.length:=by omega
  have hkl:k<us.length:=by omega
  have e1:(bcel us)[us.length-1-k]?=some [.int .u8 (48+us[us.length-1-k]:Int)]:=by simp[bcel,hjl]
  have e2:(bcel us)[k]?=some [.int .u8 (48+us[k]:Int)]:=by simp[bcel,hkl]
  have y1:ys[us.length-1-k]?=some [.int .u8 (48+us[us.length-1-k]:Int)]:=by rw[hys _ (by omega),if_neg (by omega),e1]
  have y2:ys[k]?=some [.int .u8 (48+us[k]:Int)]:=by rw[hys _ (by omega),if_neg (by omega),e2]
  rw[ej]
  have ib1:inB s ((us.length-1-k:Nat):Int):=Own.inB' hO (by omega) (by omega)
  have ib2:inB s ((k:Nat):Int):=Own.inB' hO (by omega) (by omega)
  refine⟨ib1,_,Own.at1 hO y1,ib2,_,Own.at1 hO y2,ib2,?_⟩
  refine storeN_own (j:=k) hO (by omega) rfl (one _) (fun g hg=>.inl hg) fun W8 g hg hw hO8=>⟨ib1,?_⟩
  refine storeN_own (j:=us.length-1-k) hO8 (by rw[List.length_set];omega) rfl (one _) (fun g hg=>.inl hg) fun W9 g' hg' hw' hO9=>⟨by unfold I64;omega,by unfold I64;omega,⟨k+1,_,by push_cast;rfl,by omega,hO9,by simp[hyl],by omega,by omega,?_⟩,?_⟩
  ·have:=rev_step (xs:=bcel us) (ys:=ys) (by omega) (by omega) (by rw[hbl];exact e1) e2 hys
   rw[hbl] at this⊢
   exact this
  ·show us.length-Int.toNat ((k:Int)+1)<us.length-Int.toNat (k:Int)
   omega
 ·have:=rev_done (xs:=bcel us) (ys:=ys) (k:=k) (by omega) (by omega) hys
  have e:bcel us.reverse=(bcel us).reverse:=by simp[bcel]
  rw[e,←this]
  exact hO.ext hE10
theorem dig_step {a p e r:Nat} (h:a+p*r=e):a+p*(r%10)+p*10*(r/10)=e:=by
 have h1:=Nat.mod_add_div r 10
 have h2:p*(r%10)+p*10*(r/10)=p*(r%10+10*(r/10)):=by grind
 rw[h1] at h2
 omega
theorem dvl_trim: ∀{l:List Nat} (h:l≠[]) (h0:l[l.length-1]?=some 0),dvl (l.take (l.length-1))=dvl l:=by
 intro l h h0
 have hp:=List.length_pos_iff.2 h
 have e:l=l.take (l.length-1) ++ [0]:=by
  have:=List.dropLast_concat_getLast h
  rw[List.getLast_eq_getElem,List.dropLast_eq_take] at this
  rw[List.getElem?_eq_getElem (by omega)] at h0
  rw[Option.some.inj h0] at this
  exact this.symm
 conv=>rhs;rw[e,dvl_append]
 simp[dvl]
theorem natText_ok {W0 : PW} {M : Nat → Prop} {s : Sl} {x : Nat} (h : IsNat 268 W0 s x) (hx : nl x ≤ 100000000) :
    PCallsM Go.Proofs.Tryz.prog 168 [.agg #[s.v]] W0 M fun v W' => v = .string (decN x) ∧ True := by
  apply callnat_Nat_Text
  intro W1 hE1
  refine ⟨fun _ => False, _, clone_ok (M := fun _ => False) (Row.ext h hE1) (by show nl x ≤ _; omega), fun _ h => h.elim, ?_⟩
  rintro v W2 hX2 ⟨s3, rfl, hO3, hf3⟩
  refine ⟨s3, rfl, ?_⟩
  have hW01 := hE1.size
  refine ⟨fun l W => match l with
    | [.row l6, .val (.slice A n c)] => W0.w.heap.size ≤ W.w.heap.size ∧ ∃ (ds : List Nat) (y : Nat), l6 = bcel ds ∧ (∀ d ∈ ds, d < 10) ∧ dvl ds + 10 ^ ds.length * y = x ∧ ds.length ≤ 32 * nl x + 9 ∧ nl y ≤ 100000000 ∧ Go.SX.Own W 268 1 ⟨A, n, c⟩ (cel (dg y)) ∧ Fresh W0 ⟨A, n, c⟩
    | _ => False, fun l W => match l with | [_, .val (.slice A n c)] => slN W 268 ⟨A, n, c⟩ | _ => 0, ⟨Nat.le_trans hW01 hX2.size, [], x, rfl, fun d h => (by simp at h), by simp [dvl], by simp, hx, hO3, fun g hg => Nat.le_trans hW01 (hf3 g hg)⟩, ?_⟩
  rintro l6 s7 W8 ⟨hW8, ds, y, rfl, hds, hxy, hlen, hy, hO8, hF⟩
  have hO8 : Go.SX.Own W8 268 1 s7 (cel (dg y)) := hO8
  have hF : Fresh W0 s7 := hF
  have hn7 : s7.n = nl y := by have := hO8.n; rw [cel_length] at this; exact this
  refine ⟨fun hpos => ?_, fun hz s21 W22 hE22 hO22 hf22 => ?_⟩
  · have hy0 : y ≠ 0 := fun e => by subst e; rw [nl_zero] at hn7; omega
    have hb10 : ds.length < 32 * nl x := by
      have h1 : 10 ^ ds.length * 1 ≤ 10 ^ ds.length * y := Nat.mul_le_mul_left _ (by omega)
      have h2 : 2 ^ ds.length ≤ 10 ^ ds.length := Nat.pow_le_pow_left (by decide) _
      have h3 := lt_nl x
      rw [B_pow] at h3
      exact (Nat.pow_lt_pow_iff_right (by decide : 1 < 2)).1 (by omega)
    have hne : dg y ≠ [] := fun e => hy0 (by rw [← val_dg y, e]; rfl)
    intro W' hE'
    obtain ⟨g, cs, hm, hg⟩ := (hO8.ext hE').mut hne
    refine ⟨_, _, natShort_ok (by' := 1000000000) hm (dig_dg y) (by decide) (by decide) (by show nl y ≤ _; omega), ?_, ?_⟩
    · rintro b rfl
      exact ⟨hm.S, .inr (hF _ hg)⟩
    rintro v W10 hX10 ⟨ws, rfl, hwl, hwd, hwv, hput⟩
    rw [val_dg] at hwv ⊢
    have hO10 : Go.SX.Own W10 268 1 s7 (cel ws) := (hO8.ext hE').put hm hput hwl
    have hW10 : W0.w.heap.size ≤ W10.w.heap.size := Nat.le_trans (Nat.le_trans hW8 hE'.size) hX10.size
    obtain ⟨r0, hr0⟩ : ∃ r0, y % 1000000000 = r0 := ⟨_, rfl⟩
    have hr0lt : r0 < 1000000000 := by omega
    rw [hr0]
    refine ⟨_, rfl, fun l W => match l with
      | [.row l14, .val (.int .u32 i15), .val (.int .i64 i16)] => Ext W10 W ∧ ∃ (es : List Nat) (rr : Nat), l14 = bcel (ds ++ es) ∧ i15 = (rr : Int) ∧ i16 = (es.length : Int) ∧ es.length ≤ 9 ∧ (∀ d ∈ es, d < 10) ∧ dvl es + 10 ^ es.length * rr = r0 ∧ rr ≤ r0
      | _ => False, fun l _ => match l with | [_, _, .val (.int .i64 i)] => 9 - i.toNat | _ => 0, ⟨Ext.refl _, [], r0, by simp, rfl, rfl, by simp, fun d h => (by simp at h), by simp [dvl], Nat.le_refl _⟩, ?_⟩
    rintro l14 i15 i16 W17 ⟨hE17, es, rr, rfl, rfl, rfl, hel, hes, hrr, hrle⟩
    refine ⟨fun hlt => ?_, fun hge => ?_⟩
    · have e1 : Int.tmod (rr : Int) 10 = ((rr % 10 : Nat) : Int) := by rw [Int.tmod_eq_emod_of_nonneg (by omega)]; rfl
      have e2 : IntKind.wrap .u32 (48 + Int.tmod (rr : Int) 10) = ((48 + rr % 10 : Nat) : Int) := by
        rw [e1, show (48 : Int) + ((rr % 10 : Nat) : Int) = ((48 + rr % 10 : Nat) : Int) by push_cast; rfl, wrap32n, Nat.mod_eq_of_lt (by unfold B; omega)]
      have e3 : IntKind.wrap .u8 (((48 + rr % 10 : Nat)) : Int) = (48 + ((rr % 10 : Nat) : Int)) := by rw [wrap8 (by omega) (by omega)]; push_cast; rfl
      have e4 : IntKind.wrap .u32 (Int.tdiv (rr : Int) 10) = ((rr / 10 : Nat) : Int) := by
        rw [Int.tdiv_eq_ediv_of_nonneg (by omega), show ((rr : Int) / 10) = ((rr / 10 : Nat) : Int) by rfl, wrap32n, Nat.mod_eq_of_lt (by unfold B; omega)]
      rw [e2, e3, e4]
      refine ⟨by decide, by rw [bcel_length, List.length_append]; simp only [List.length_cons, List.length_nil]; omega, by decide, by unfold I64; omega, ⟨hE17, es ++ [rr % 10], rr / 10, ?_, rfl, by simp, by simp; omega, ?_, ?_, ?_⟩, ?_⟩
      · rw [← List.append_assoc, bcel_append (ds ++ es)]; rfl
      · intro d hd
        rcases List.mem_append.1 hd with h | h
        · exact hes d h
        · rw [List.mem_singleton.1 h]; omega
      · rw [dvl_append, List.length_append, List.length_singleton, Nat.pow_succ]
        simp only [dvl, Nat.mul_zero, Nat.add_zero]
        exact dig_step hrr
      · have : rr / 10 ≤ rr := Nat.div_le_self ..
        omega
      · show 9 - Int.toNat ((es.length : Int) + 1) < 9 - Int.toNat (es.length : Int)
        omega
    · have hel9 : es.length = 9 := by omega
      rw [hel9] at hrr
      have hrr0 : dvl es = r0 := by
        have : rr = 0 := by omega
        rw [this] at hrr
        simpa using hrr
      refine natCutOwn_call (hO10.ext hE17) hwd (by rw [hwl]; show nl y ≤ _; omega) fun s20 W19 hE19 ⟨h20, hb20⟩ => ⟨s20, rfl, ⟨Nat.le_trans (Nat.le_trans hW10 hE17.size) hE19.size, ds ++ es, y / 1000000000, rfl, ?_, ?_, by rw [List.length_append]; omega, Nat.le_trans (nl_mono (Nat.div_le_self ..)) hy, ?_, fun g' hg' => hF g' (hb20 g' hg')⟩, ?_⟩
      · intro d hd
        rcases List.mem_append.1 hd with h | h
        · exact hds d h
        · exact hes d h
      · rw [dvl_append, List.length_append, hel9, hrr0, Nat.pow_add, ← hr0]
        have e1 := Nat.mod_add_div y 1000000000
        have e2 : 10 ^ ds.length * (y % 1000000000) + 10 ^ ds.length * 10 ^ 9 * (y / 1000000000) = 10 ^ ds.length * y := by
          conv => rhs; rw [← e1]
          rw [Nat.mul_add, Nat.mul_assoc]
        omega
      · rw [hwv] at h20
        exact h20
      · rw [hwv] at h20
        have i20 : IsNat 268 W19 s20 (y / 1000000000) := h20.row
        have i8 : IsNat 268 W8 s7 y := hO8.row
        show slN W19 _ s20 < slN W8 _ s7
        rw [slN_eq i20, slN_eq i8]
        exact Nat.div_lt_self (by omega) (by decide)
  · have hy0 : y = 0 := nl_eq_zero.1 (by omega)
    subst hy0
    rw [Nat.mul_zero, Nat.add_zero] at hxy
    refine ⟨fun l W => match l with
      | [.val (.slice A n c)] => ∃ es : List Nat, Go.SX.Own W 5 1 ⟨A, n, c⟩ (bcel es) ∧ dvl es = x ∧ (∀ d ∈ es, d < 10) ∧ es.length ≤ 32 * nl x + 9 ∧ Fresh W0 ⟨A, n, c⟩
      | _ => False, fun l _ => match l with | [.val (.slice A n c)] => n | _ => 0, ⟨ds, hO22, hxy, hds, hlen, fun g hg => (hf22 g hg).1⟩, ?_⟩
    rintro s26 W27 ⟨es, hO, hv, hd, hl, hfr⟩
    have hO : Go.SX.Own W27 5 1 s26 (bcel es) := hO
    have hfr : Fresh W0 s26 := hfr
    have hn : s26.n = es.length := by rw [hO.n, bcel_length]
    refine ⟨fun hpos => ?_, fun hz => ⟨fun _ W35 _ => ⟨?_, trivial⟩, fun hne => absurd hz (by omega)⟩⟩
    · have hel : es.length - 1 < es.length := by omega
      have e1 : ((s26.n : Int) - 1) = ((es.length - 1 : Nat) : Int) := by omega
      rw [e1, show Int.toNat ((es.length - 1 : Nat) : Int) = es.length - 1 from rfl]
      have hb : (bcel es)[es.length - 1]? = some [.int .u8 (48 + es[es.length - 1] : Int)] := by simp [bcel, hel]
      refine ⟨by unfold I64; omega, Own.inB' hO (by omega) (by rw [bcel_length]; omega), _, Own.at1 hO hb, fun h48 => ⟨by unfold I64; omega, ⟨by omega, by omega, by have := hO.row.2.1; omega⟩, ?_, ?_⟩, fun h48 => ⟨fun h => absurd h (by omega), fun _ => ?_⟩⟩
      · rw [show Int.toNat 0 = 0 from rfl, show TyI.size ty5 = 1 from rfl, Sl.cut_zero]
        have ht := hO.take (k := es.length - 1) (by rw [bcel_length]; omega)
        have e0 : es[es.length - 1] = 0 := by omega
        refine ⟨es.take (es.length - 1), by have e : bcel (es.take (es.length - 1)) = (bcel es).take (es.length - 1) := by simp [bcel, List.map_take]
                                            rw [e]; exact ht, ?_, fun d hm => hd d (List.mem_of_mem_take hm), by simp; omega, fun g hg => hfr g (ob_same hg)⟩
        rw [← hv]
        exact dvl_trim (fun e => by subst e; simp at hel) (by rw [List.getElem?_eq_getElem hel, e0])
      · rw [show Int.toNat 0 = 0 from rfl, show TyI.size ty5 = 1 from rfl, Sl.cut_zero]
        show es.length - 1 < s26.n
        omega
      · intro W' hE'
        refine ⟨_, _, reverse_ok (hO.ext hE') (by omega), fun g hg => ⟨(hO.ext hE').2 g hg, .inr (hfr g hg)⟩, ?_⟩
        rintro v W31 hX31 ⟨rfl, hR⟩
        refine ⟨rfl, (es.reverse.map fun (d : Nat) => (48 + (d : Int))), ?_, fun W34 _ => ⟨?_, trivial⟩⟩
        · have := hR.row
          have e : bcel es.reverse = List.map (fun i33 => [Value.int IntKind.u8 i33]) (es.reverse.map fun (d : Nat) => (48 + (d : Int))) := by simp [bcel]
          rw [e] at this
          exact this
        · have hlast : es.getLast? ≠ some 0 := by
            rw [List.getLast?_eq_getElem?, List.getElem?_eq_getElem hel]
            intro e
            have := Option.some.inj e
            omega
          have hdec := dec_dvl hd hlast
          rw [hv] at hdec
          have hx0 : x ≠ 0 := fun e => by
            rw [e] at hdec
            have : es = [] := by rw [← hdec]; exact dec_zero
            subst this
            simp at hel
          unfold decN
          rw [if_neg hx0, hdec]
    · have : es = [] := List.eq_nil_of_length_eq_zero (by omega)
      subst this
      rw [← hv]
      rfl
theorem natText_call {W0 W:PW} {M:Nat→Prop} {s:Sl} {x:Nat} {K:Value→PW→Prop} (h:IsNat 268 W s x) (hx:nl x≤100000000) (kont: ∀(W':PW),Ext W W'→(True)→K (.string (decN x)) W'):
  callN Go.Proofs.Tryz.prog W0 M 168 [.agg #[s.v]] W K:=
 callN_of (fun W' hE=>natText_ok (M:=fun _=>False) (h.ext hE) hx) (fun W' v W'' hE hE' hP=>by
  obtain⟨rfl,h⟩:=hP
  exact kont W'' (hE.trans hE') h)
theorem wholeText_ok {W0:PW} {M:Nat→Prop} {s:Sl} {b:Bool} {z:Int} (h:IsInt 268 W0 s b z) (hz:nl z.natAbs≤100000000):
  PCallsM Go.Proofs.Tryz.prog 167 [.agg #[s.v,.bool b]] W0 M fun v W'=>v = .string (decI z)∧True:=by
 apply callwhole_Int_Text
 have hs:=decN_size z.natAbs
 have hb:=h.2
 refine⟨fun ht=>natText_call h.1 hz fun W2 hE2 _=>⟨_,rfl,?_,fun W4 _=>⟨?_,trivial⟩⟩,fun hf=>natText_call h.1 hz fun W6 hE6 _=>⟨_,rfl,fun W8 _=>⟨?_,trivial⟩⟩⟩
 ·show((1:Nat):Int)+_≤_
  omega
 ·have:z<0:=by rw[hb] at ht;exact of_decide_eq_true ht
  unfold decI
  rw[if_pos this]
 ·have:¬z<0:=by rw[hb] at hf;exact of_decide_eq_false hf
  unfold decI
  rw[if_neg this]
theorem wholeText_call {W0 W:PW} {M:Nat→Prop} {s:Sl} {b:Bool} {z:Int} {K:Value→PW→Prop} (h:IsInt 268 W s b z) (hz:nl z.natAbs≤100000000) (kont: ∀(W':PW),Ext W W'→(True)→K (.string (decI z)) W'):
  callN Go.Proofs.Tryz.prog W0 M 167 [.agg #[s.v,.bool b]] W K:=
 callN_of (fun W' hE=>wholeText_ok (M:=fun _=>False) (h.ext hE) hz) (fun W' v W'' hE hE' hP=>by
  obtain⟨rfl,h⟩:=hP
  exact kont W'' (hE.trans hE') h)
theorem ratText_ok {W0:PW} {M:Nat→Prop} {s t:Sl} {b:Bool} {q:Rat} {k:Nat} (h:IsRat 268 W0 s b t q) (hq:Sz k q) (hk:k≤100000000):
  PCallsM Go.Proofs.Tryz.prog 116 [.agg #[s.v,.bool b,t.v]] W0 M fun v W'=>v = .string (decQ q)∧True:=by
 apply callrat_Rat_Text
 have hd:=hq.dn
 have h1:=hq.1
 have h2:=hq.2
 have hs1:=decI_size q.num
 have hs2:=decN_size q.den
 refine natBits_call h.2 (by omega) fun W2 hE2 _=>⟨_,rfl,fun h0=>?_,fun h0=>?_⟩
 ·have hden:q.den=1:=dn_zero_iff.1 (blen_eq_zero.1 (by omega))
  refine wholeText_call (h.1.ext hE2) (by omega) fun W5 hE5 _=>⟨_,rfl,fun W7 _=>⟨?_,trivial⟩⟩
  unfold decQ
  rw[if_pos hden]
 ·have hdn:dn q≠0:=fun e=>h0 (by rw[e];rfl)
  have hden:q.den≠1:=fun e=>hdn (dn_zero_iff.2 e)
  have h2':=h.2
  rw[dn_of_ne hdn] at h2'
  refine wholeText_call (h.1.ext hE2) (by omega) fun W9 hE9 _=>⟨_,rfl,?_,natText_call ((h2'.ext hE2).ext hE9) (by omega) fun W12 hE12 _=>⟨_,rfl,?_,fun W14 _=>⟨?_,trivial⟩⟩⟩
  ·show _+((1:Nat):Int)≤_
   omega
  ·rw[ByteArray.size_append]
   show(((decI q.num).size+1:Nat):Int)+_≤_
   omega
  ·unfold decQ
   rw[if_neg hden]
theorem ratText_call {W0 W:PW} {M:Nat→Prop} {s t:Sl} {b:Bool} {q:Rat} {k:Nat} {K:Value→PW→Prop} (h:IsRat 268 W s b t q) (hq:Sz k q) (hk:k≤100000000) (kont: ∀(W':PW),Ext W W'→(True)→K (.string (decQ q)) W'):
  callN Go.Proofs.Tryz.prog W0 M 116 [.agg #[s.v,.bool b,t.v]] W K:=
 callN_of (fun W' hE=>ratText_ok (M:=fun _=>False) (h.ext hE) hq hk) (fun W' v W'' hE hE' hP=>by
  obtain⟨rfl,h⟩:=hP
  exact kont W'' (hE.trans hE') h)
end Go.Proofs.YtnlmddaakeigdaaGreatDoor

/- cinctureref1: texts of numbers; cincturelaw3.Is. -/
set_option maxRecDepth 100000
set_option linter.unusedVariables false
set_option linter.unusedSimpArgs false
namespace Go.Proofs.YtnlmddaakeigdaaGreatDoor
open Go Go.SX
end Go.Proofs.YtnlmddaakeigdaaGreatDoor
