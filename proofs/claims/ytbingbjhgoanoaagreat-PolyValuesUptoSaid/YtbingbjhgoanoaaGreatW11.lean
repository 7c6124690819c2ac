/- slices.SortFunc of a polynomial's terms. -/
import Derived.Test.YtbingbjhgoanoaaGreatLib3
import Derived.Test.YtbingbjhgoanoaaGreatW10
import Derived.Maps.Keyed
import Derived.DeepKeys5
import Derived.Test.YtbingbjhgoanoaaGreatR11
import Derived.Test.YtbingbjhgoanoaaGreatR14
import Derived.Shelf.Spec.SlicesGrow
import Derived.Shelf.SlGeneric
import Derived.Test.YtbingbjhgoanoaaGreatProg
set_option linter.unusedVariables false
set_option linter.unusedSimpArgs false
set_option maxRecDepth 100000
set_option linter.unusedVariables false
set_option linter.unusedSimpArgs false
namespace Go.Proofs.YtbingbjhgoanoaaGreat
open Go Go.SX
abbrev TmE : Type := {m : Mon // m.ok} × Sl × Bool × Sl
instance : Inhabited TmE := ⟨⟨⟨0, 0, 0⟩, by decide⟩, ⟨none, 0, 0⟩, false, ⟨none, 0, 0⟩⟩
def encTm (x : TmE) : List Value := [.int .u8 x.1.1.x, .int .u8 x.1.1.y, .int .u8 x.1.1.z, x.2.1.v, .bool x.2.2.1, x.2.2.2.v]
def cmpTm (x y : TmE) : Int := x.1.1.cmp y.1.1
theorem encTm_len (x : TmE) : (encTm x).length = 6 := rfl
theorem encTm_one (x : TmE) : ∀ v ∈ encTm x, v.oneCell' = true := by
  intro v hv
  simp only [encTm, List.mem_cons, List.not_mem_nil, or_false] at hv
  rcases hv with rfl | rfl | rfl | rfl | rfl | rfl <;> rfl
theorem ltTm (x y : TmE) : Proofs.ltOf cmpTm x y = decide (x.1.1.lt y.1.1) := by
  unfold Proofs.ltOf cmpTm
  simp only [Mon.cmp_neg]
theorem swoTm : Go.Sort.SWO (Proofs.ltOf cmpTm) where
  irrefl x := by rw [ltTm]; exact decide_eq_false (Mon.lt_irrefl _)
  trans x y z h1 h2 := by
    rw [ltTm] at *
    exact decide_eq_true (Mon.lt_trans (of_decide_eq_true h1) (of_decide_eq_true h2))
  ntrans x y z h1 h2 := by
    rw [ltTm] at *
    have h1 := of_decide_eq_false h1
    have h2 := of_decide_eq_false h2
    refine decide_eq_false fun h => ?_
    by_cases e : x.1.1 = y.1.1
    · rw [e] at h; exact h2 h
    · have := Mon.lt_total h1 e
      exact h2 (Mon.lt_trans this h)
theorem cmpLaysTm (g n : Nat) (w : World) : Proofs.CmpLays Go.Proofs.Tryz.prog 109 #[] encTm 6 cmpTm g 0 n w := by
  intro m os dk _ x y
  have h := (polyCmp_ok (W0 := ⟨Proofs.sortWorldK encTm 6 w g 0 m dk os, fun _ => False⟩) (M := fun _ => False) (a := x.1.1) (b := y.1.1) (s1 := x.2.1) (s2 := x.2.2.2) (s3 := y.2.1) (s4 := y.2.2.2) (b1 := x.2.2.1) (b2 := y.2.2.1) x.1.2 y.1.2).2 (fun b hb => hb.elim)
  refine Calls.mono h ?_
  rintro e w' ⟨v, rfl, hK, rfl, _⟩
  exact ⟨rfl, grow_of_keep hK⟩
theorem all2_enc {W : PW} {xs : List (List Value)} {p : List Tm} (h : All2 (PT 183 W) xs p) : ∃ L : List TmE, xs = L.map encTm ∧ All2 (fun (a : TmE) (t : Tm) => a.1.1 = t.1 ∧ IsRat 183 W a.2.1 a.2.2.1 a.2.2.2 t.2) L p := by
  induction xs generalizing p with
  | nil =>
    cases p with
    | nil => exact ⟨[], rfl, trivial⟩
    | cons t p => exact h.elim
  | cons x xs ih =>
    cases p with
    | nil => exact h.elim
    | cons t p =>
      obtain ⟨L, h1, h2⟩ := ih h.2
      obtain ⟨h0, s, b, s', h3, h4⟩ := h.1
      exact ⟨(⟨t.1, h0⟩, s, b, s') :: L, by rw [List.map_cons, ← h1, h3]; rfl, ⟨rfl, h4⟩, h2⟩
theorem all2_dec {W : PW} {L : List TmE} {p : List Tm} (h : All2 (fun (a : TmE) (t : Tm) => a.1.1 = t.1 ∧ IsRat 183 W a.2.1 a.2.2.1 a.2.2.2 t.2) L p) : All2 (PT 183 W) (L.map encTm) p := by
  induction L generalizing p with
  | nil =>
    cases p with
    | nil => trivial
    | cons t p => exact h.elim
  | cons x xs ih =>
    cases p with
    | nil => exact h.elim
    | cons t p =>
      obtain ⟨h1, h2⟩ := h.1
      refine ⟨⟨by rw [← h1]; exact x.1.2, _, _, _, ?_, h2⟩, ih h.2⟩
      rw [← h1]
      rfl
theorem pairwise_all2 {W : PW} {L : List TmE} {p : List Tm} (h : All2 (fun (a : TmE) (t : Tm) => a.1.1 = t.1 ∧ IsRat 183 W a.2.1 a.2.2.1 a.2.2.2 t.2) L p) (hs : L.Pairwise fun a b => ¬ b.1.1.lt a.1.1) : p.Pairwise fun a b => ¬ b.1.lt a.1 := by
  have hp : p.map (·.1) = L.map (·.1.1) := by
    clear hs
    induction L generalizing p with
    | nil =>
      cases p with
      | nil => rfl
      | cons t p => exact h.elim
    | cons x xs ih =>
      cases p with
      | nil => exact h.elim
      | cons t p => rw [List.map_cons, List.map_cons, ih h.2, h.1.1]
  have h1 : (L.map (·.1.1)).Pairwise fun a b : Mon => ¬ b.lt a := List.pairwise_map.2 hs
  rw [← hp] at h1
  exact List.pairwise_map.1 h1
theorem good_sorted {p q : List Tm} (hp : q.Perm p) (hd : (p.map (·.1)).Nodup) (hz : ∀ t ∈ p, t.2 ≠ 0) (hs : q.Pairwise fun a b => ¬ b.1.lt a.1) : q = pnorm p := by
  refine (pnorm_eq ⟨?_, fun t ht => hz t (hp.mem_iff.1 ht)⟩ fun m => ptot_perm hp m).symm
  have hd' : (q.map (·.1)).Nodup := (hp.map _).nodup_iff.2 hd
  have hd2 : q.Pairwise fun a b => a.1 ≠ b.1 := List.pairwise_map.1 hd'
  exact (hs.and hd2).imp fun ⟨h1, h2⟩ => Mon.lt_total h1 (fun e => h2 e.symm)
theorem IsRat.wr {tu tt : TypeId} {g : Nat} {W W' : PW} {s s' : Sl} {b : Bool} {q : Rat} {cs : Array Value} (h : IsRat tu W s b s' q) (hE : ExtM (· = g) W W') (hg : W.w.heap[g]? = some (.cells cs tt (0, 0))) (ht : tu ≠ tt) : IsRat tu W' s b s' q :=
  ⟨⟨Row.put h.1.1 hE hg ht, h.1.2⟩, Row.put h.2 hE hg ht⟩
theorem polySort_ok {W0 : PW} {s : Sl} {xs : List (List Value)} {p : List Tm} (hO : Go.SX.Own W0 45 6 s xs) (hA : All2 (PT 183 W0) xs p) (hd : (p.map (·.1)).Nodup) (hz : ∀ t ∈ p, t.2 ≠ 0) (hl : p.length ≤ 1099511627776) :
    PCallsM Go.Proofs.Tryz.prog 108 [s.v, .func (.func 109) #[] #[]] W0 (fun b => s.v.ownBlock = some b) fun v W' => v = .tuple #[] ∧ OPoly 183 45 W' s (pnorm p) := by
  refine ⟨⟨_, Go.Proofs.Tryz.func108, by kernel_rfl, by kernel_rfl⟩, fun hS => ?_⟩
  obtain ⟨L, rfl, hL⟩ := all2_enc hA
  have hn : s.n = L.length := by rw [hO.row.1]; simp
  have hlen : L.length = p.length := hL.len
  by_cases hne : L = []
  · subst hne
    have hp : p = [] := List.eq_nil_of_length_eq_zero hlen.symm
    subst hp
    have := Proofs.AnyF.slices_SortFunc_none sortTm s.A s.c (.func (.func 109) #[] #[]) W0.w
    change Calls Go.Proofs.Tryz.prog 108 _ _ _ at this
    have e : s.v = .slice s.A 0 s.c := by simp only [Sl.v, hn]; rfl
    rw [e]
    refine Calls.mono this ?_
    rintro e w' ⟨rfl, rfl⟩
    exact ⟨_, rfl, Keep.refl _ _, rfl, [], hO, trivial⟩
  · obtain ⟨d, rfl⟩ : ∃ d : Array TmE, d.toList = L := ⟨L.toArray, rfl⟩
    have hds : d.size ≠ 0 := fun e => hne (by simpa using e)
    obtain ⟨g, cur, hA', hob, hSg, hh, hle, hH⟩ := own_holds encTm encTm_len d hO hds
    have hg := (Array.getElem?_eq_some_iff.1 hh).1
    have hcall := Proofs.AnyQ.slices_SortFunc sortTm 6 Go.Proofs.Tryz.isAgg45 Go.Proofs.Tryz.sizeOf45 encTm encTm_len encTm_one cmpTm swoTm 109 #[] g 0 s.c d W0.w (enters_of Go.Proofs.Tryz.func109 (by kernel_rfl) rfl) (cmpLaysTm g d.size W0.w) hH hg (by simp at hlen; omega)
    change Calls Go.Proofs.Tryz.prog 108 _ _ _ at hcall
    have e : s.v = .slice (some ⟨g, 0, none⟩) d.size s.c := by simp only [Sl.v, hn, hA', Array.length_toList]
    rw [e]
    refine Calls.mono hcall ?_
    rintro e w' ⟨rfl, d', n, os, hp, hs, rfl⟩
    obtain ⟨hsz, hperm⟩ := permIn_list hp
    obtain ⟨hh', hK⟩ := sortWorld_heap encTm (k := 6) hh n d' os
    obtain ⟨q, hq1, hq2⟩ := hL.perm hperm.symm
    have hpw := sortedIn_list hs hsz
    have hgood : q = pnorm p := by
      refine good_sorted hq1.symm hd hz (pairwise_all2 hq2 (hpw.imp fun {a b} h => ?_))
      rw [ltTm] at h
      exact of_decide_eq_false h
    refine ⟨_, rfl, ?_, rfl, ?_⟩
    · refine ⟨hK.os, hK.tape, hK.output, hK.size, fun b hb hn => hK.block b hb fun e => hn ?_, hK.drawn⟩
      subst e
      rfl
    · rw [← hgood]
      have hO' := sort_own encTm encTm_len encTm_one hO hds hsz hob n os
      refine ⟨_, hO', all2_dec (hq2.mono fun a t h => ⟨h.1, ?_⟩)⟩
      refine IsRat.wr (g := g) (tt := 45) h.2 ⟨hK.size, fun b hb hs hn => ⟨hK.block b hb hn, hs⟩⟩ hh (by decide)
end Go.Proofs.YtbingbjhgoanoaaGreat

/- poly: sums.add, sums.poly, New. -/
set_option maxRecDepth 100000
set_option linter.unusedVariables false
set_option linter.unusedSimpArgs false
namespace Go.Proofs.YtbingbjhgoanoaaGreat
open Go Go.SX
theorem laidOutM : laidOutB Go.Proofs.Tryz.prog = true := by kernel_rfl
theorem keyedMon : Maps.Keyed Go.Proofs.Tryz.prog 41 := Maps.Keyed.of_law (deep_law_laid laidOutM (m := 2) (by omega) (of_decide_eq_true (by kernel_rfl)) (by kernel_rfl) (by kernel_rfl))
theorem typesSize : ∃ d, Go.Proofs.Tryz.prog.types.size + 1 = d + 2 := ⟨Go.Proofs.Tryz.prog.types.size - 1, by
  have : 1 ≤ Go.Proofs.Tryz.prog.types.size := of_decide_eq_true (by kernel_rfl)
  omega⟩
theorem keyMon {m : Mon} (h : m.ok) : ∃ l, keyOf Go.Proofs.Tryz.prog 41 m.v = some l := by
  have h1 : Go.Proofs.Tryz.prog.keyType 41 = true := by kernel_rfl
  have h2 : Go.Proofs.Tryz.prog.cellsOf 41 = 3 := by kernel_rfl
  have h3 : Go.Proofs.Tryz.prog.cellsOf 5 = 1 := by kernel_rfl
  have h4 : m.v.formed Go.Proofs.Tryz.prog 41 = true := by
    simp only [Mon.v, Value.formed, Go.Proofs.Tryz.underlying41, h2]
    rfl
  obtain ⟨d, hd⟩ := typesSize
  unfold Mon.ok at h
  have wf : ∀ z : Int, 0 ≤ z ∧ z ≤ 255 → (Lit.int .u8 z).wf = true := by
    intro z hz
    simp [Lit.wf, IntKind.min, IntKind.max, IntKind.bits, IntKind.signed]
    omega
  have w1 := wf _ h.1
  have w2 := wf _ h.2.1
  have w3 := wf _ h.2.2
  unfold keyOf
  rw [Go.Proofs.Tryz.underlying41]
  simp only [h1, h4, Bool.and_self, if_true, hd]
  simp [Program.keyLits, Go.Proofs.Tryz.underlying41, Go.Proofs.Tryz.underlying5, h2, h3, Value.cells, w1, w2, w3, List.range_succ]
theorem keysOK {W : PW} {g : Nat} {es : Array MapEntry} {c : Nat} {E : List Tm} (h : IsSums 183 W g es c E) : KeysOK Go.Proofs.Tryz.prog 41 es := fun e he => by
  obtain ⟨i, hi⟩ := List.mem_iff_getElem?.1 he
  obtain ⟨t, _, h0, hk, _⟩ := h.all.getl hi
  rw [hk]
  exact keyMon h0
end Go.Proofs.YtbingbjhgoanoaaGreat

/- poly: sums.add, sums.poly, New. -/
set_option maxRecDepth 100000
set_option linter.unusedVariables false
set_option linter.unusedSimpArgs false
namespace Go.Proofs.YtbingbjhgoanoaaGreat
open Go Go.SX
theorem nodup_inj {α : Type} : ∀ {l : List α}, l.Nodup → ∀ {i j : Nat} {a : α}, l[i]? = some a → l[j]? = some a → i = j
  | [], _, i, j, a, h, _ => by simp at h
  | x :: l, hn, 0, 0, a, _, _ => rfl
  | x :: l, hn, 0, j + 1, a, h, k => by
    simp only [List.getElem?_cons_zero, Option.some.injEq, List.getElem?_cons_succ] at h k
    subst h
    exact absurd (List.mem_of_getElem? k) (List.nodup_cons.1 hn).1
  | x :: l, hn, i + 1, 0, a, h, k => by
    simp only [List.getElem?_cons_zero, Option.some.injEq, List.getElem?_cons_succ] at h k
    subst k
    exact absurd (List.mem_of_getElem? h) (List.nodup_cons.1 hn).1
  | x :: l, hn, i + 1, j + 1, a, h, k => by
    simp only [List.getElem?_cons_succ] at h k
    rw [nodup_inj (List.nodup_cons.1 hn).2 h k]
theorem modify_set {es : Array MapEntry} {i : Nat} {e : MapEntry} (h : es[i]? = some e) (f : MapEntry → MapEntry) : (es.modify i f).toList = es.toList.set i (f e) := by
  apply List.ext_getElem?
  intro j
  rw [Array.getElem?_toList, Array.getElem?_modify, List.getElem?_set]
  have hl := (Array.getElem?_eq_some_iff.1 h).1
  split
  · rename_i e'
    subst e'
    rw [h]
    simp [hl]
  · rw [Array.getElem?_toList]
theorem sums_put {W0 W' W'' : PW} {g c c' : Nat} {es es' : Array MapEntry} {E : List Tm} {m : Mon} {q : Rat} {s s' : Sl} {b : Bool} (h : IsSums 183 W' g es c E) (hm : m.ok) (hE : ExtM (· = g) W' W'') (hS : ¬ W''.S g) (hh : W''.w.heap[g]? = some (.map es' c'))
    (hp : MapPut es c m.v (.agg ⟨[s.v, .bool b, s'.v]⟩) es' c') (q0 : Rat) (hq0 : (∃ i : Nat, E[i]? = some (m, q0)) ∨ (∀ t ∈ E, t.1 ≠ m) ∧ q0 = 0) (hq : IsRat 183 W' s b s' (q0 + q)) :
    ∃ E', IsSums 183 W'' g es' c' E' ∧ AddTo E (m, q) E' := by
  have hq' : IsRat 183 W'' s b s' (q0 + q) := hq.map hE h.heap
  have hall : All2 (ME 183 W'') es.toList E := h.all.mono fun _ _ k => k.map hE h.heap
  rcases hp with ⟨i, e, hi, hk, rfl, rfl⟩ | ⟨hn, rfl, rfl⟩
  · have hi' : es.toList[i]? = some e := by rw [Array.getElem?_toList]; exact hi
    obtain ⟨t, ht, h0, hk', _⟩ := h.all.getl hi'
    have hmt : t.1 = m := Mon.v_inj (hk'.symm.trans hk)
    have hti : E[i]? = some (m, q0) := by
      rcases hq0 with ⟨j, hj⟩ | ⟨hno, _⟩
      · have e1 : (E.map (·.1))[i]? = some m := by rw [List.getElem?_map, ht]; simp [hmt]
        have e2 : (E.map (·.1))[j]? = some m := by rw [List.getElem?_map, hj]; rfl
        rw [nodup_inj h.nd e1 e2]
        exact hj
      · exact absurd hmt (hno t (List.mem_of_getElem? ht))
    refine ⟨E.set i (m, q0 + q), ⟨hS, hh, ?_, ?_, ?_, ?_⟩, addTo_set hti⟩
    · rw [modify_set hi]
      exact hall.set i ⟨hm, rfl, s, b, s', rfl, hq'⟩
    · rw [map_fst_set hti]
      exact h.nd
    · rw [modify_set hi]
      have e1 : ((es.toList.set i { e with key := m.v, val := .agg ⟨[s.v, .bool b, s'.v]⟩ }).map (·.born)) = es.toList.map (·.born) := by
        rw [List.map_set]
        refine List.ext_getElem? fun j => ?_
        rw [List.getElem?_set]
        split
        · rename_i e'
          subst e'
          rw [if_pos (by simpa using (Array.getElem?_eq_some_iff.1 hi).1), List.getElem?_map, hi']
          rfl
        · rfl
      rw [e1]
      exact h.born
    · rw [modify_set hi]
      intro x hx
      rcases List.mem_or_eq_of_mem_set hx with hx | rfl
      · exact h.lt x hx
      · exact h.lt e (List.mem_of_getElem? hi')
  · have hno : ∀ t ∈ E, t.1 ≠ m := by
      intro t ht hm'
      obtain ⟨i, hi⟩ := List.mem_iff_getElem?.1 ht
      obtain ⟨e, he, h0, hk, _⟩ := h.all.get hi
      exact hn e (List.mem_of_getElem? he) (by rw [hk, hm'])
    have hz : q0 = 0 := by
      rcases hq0 with ⟨j, hj⟩ | ⟨_, h0⟩
      · exact absurd rfl (hno _ (List.mem_of_getElem? hj))
      · exact h0
    subst hz
    rw [Rat.zero_add] at hq'
    refine ⟨E ++ [(m, q)], ⟨hS, hh, ?_, ?_, ?_, ?_⟩, addTo_push E m q⟩
    · rw [Array.toList_push]
      exact hall.snoc ⟨hm, rfl, s, b, s', rfl, hq'⟩
    · rw [List.map_append, List.nodup_append]
      refine ⟨h.nd, by simp, fun a ha b' hb => ?_⟩
      obtain ⟨t, ht, rfl⟩ := List.mem_map.1 ha
      simp only [List.map_cons, List.map_nil, List.mem_singleton] at hb
      subst hb
      exact hno t ht
    · rw [Array.toList_push, List.map_append, List.nodup_append]
      refine ⟨h.born, by simp, fun a ha b' hb => ?_⟩
      obtain ⟨t, ht, rfl⟩ := List.mem_map.1 ha
      simp only [List.map_cons, List.map_nil, List.mem_singleton] at hb
      subst hb
      have := h.lt t ht
      omega
    · rw [Array.toList_push]
      intro x hx
      rcases List.mem_append.1 hx with hx | hx
      · have := h.lt x hx; omega
      · simp only [List.mem_singleton] at hx
        subst hx
        exact Nat.lt_succ_self _
theorem sumsAdd_ok {W0 : PW} {g c k : Nat} {es : Array MapEntry} {E : List Tm} {m : Mon} {q : Rat} {s s' : Sl} {b : Bool} (h : IsSums 183 W0 g es c E) (hm : m.ok) (hq : IsRat 183 W0 s b s' q) (hE : ∀ t ∈ E, Sz k t.2) (hz : Sz k q) (hk : k ≤ 1073741824) (hk1 : 1 ≤ k) :
    PCallsM Go.Proofs.Tryz.prog 62 [.map (some g), .agg ⟨[.int .u8 m.x, .int .u8 m.y, .int .u8 m.z]⟩, .agg ⟨[s.v, .bool b, s'.v]⟩] W0 (· = g) fun v W' => v = .tuple ⟨[]⟩ ∧ ∃ es' c' E', IsSums 183 W' g es' c' E' ∧ AddTo E (m, q) E' := by
  apply callpoly_sums_add
  refine ⟨g, rfl, keyedMon, keyMon hm, es, c, h.pub, h.heap, keysOK h, ?_, ?_⟩
  · intro e he hke
    obtain ⟨i, hi⟩ := List.mem_iff_getElem?.1 he
    obtain ⟨t, ht, h0, hk', s0, b0, s0', hv, hr⟩ := h.all.getl hi
    have hmt : t.1 = m := Mon.v_inj (hk'.symm.trans hke)
    refine ⟨s0, b0, s0', hv, ratAdd_call hr hq (hE t (List.mem_of_getElem? ht)) hz (by omega) (by omega) fun r c' u W7 hE7 h7 => ⟨r, c', u, rfl, g, rfl, keyedMon, keyMon hm, fun W' hE' => ?_⟩⟩
    have hs := h.ext (hE7.trans hE')
    refine ⟨es, c, hs.pub, hs.heap, keysOK hs, .inl rfl, fun W'' es' c'' hx hS hh hp W13 hE13 => ?_⟩
    obtain ⟨E', h1, h2⟩ := sums_put (W0 := W0) hs hm hx hS hh hp t.2 (.inl ⟨i, by rw [← hmt]; exact ht⟩) (h7.ext hE')
    exact ⟨rfl, es', c'', E', h1.ext hE13, h2⟩
  · intro hno
    refine ⟨⟨none, 0, 0⟩, false, ⟨none, 0, 0⟩, rfl, ratAdd_call (isRat_zero W0) hq (Sz.zero hk1) hz (by omega) (by omega) fun r c' u W7 hE7 h7 => ⟨r, c', u, rfl, g, rfl, keyedMon, keyMon hm, fun W' hE' => ?_⟩⟩
    have hs := h.ext (hE7.trans hE')
    refine ⟨es, c, hs.pub, hs.heap, keysOK hs, .inl rfl, fun W'' es' c'' hx hS hh hp W13 hE13 => ?_⟩
    have hne : ∀ t ∈ E, t.1 ≠ m := fun t ht hm' => by
      obtain ⟨i, hi⟩ := List.mem_iff_getElem?.1 ht
      obtain ⟨e, he, h0, hk', _⟩ := h.all.get hi
      exact hno e (List.mem_of_getElem? he) (by rw [hk', hm'])
    obtain ⟨E', h1, h2⟩ := sums_put (W0 := W0) hs hm hx hS hh hp 0 (.inr ⟨hne, rfl⟩) (h7.ext hE')
    exact ⟨rfl, es', c'', E', h1.ext hE13, h2⟩
theorem sumsAdd_call {W0 W : PW} {M : Nat → Prop} {g c k : Nat} {es : Array MapEntry} {E : List Tm} {m : Mon} {q : Rat} {s s' : Sl} {b : Bool} {K : Value → PW → Prop} (h : IsSums 183 W g es c E) (hm : m.ok) (hq : IsRat 183 W s b s' q) (hE : ∀ t ∈ E, Sz k t.2) (hz : Sz k q) (hk : k ≤ 1073741824) (hk1 : 1 ≤ k) (hg : may W0 M g)
    (kont : ∀ W' W'' es' c' E', Ext W W' → ExtM (· = g) W' W'' → IsSums 183 W' g es c E → IsSums 183 W'' g es' c' E' → AddTo E (m, q) E' → K (.tuple ⟨[]⟩) W'') :
    callN Go.Proofs.Tryz.prog W0 M 62 [.map (some g), .agg ⟨[.int .u8 m.x, .int .u8 m.y, .int .u8 m.z]⟩, .agg ⟨[s.v, .bool b, s'.v]⟩] W K := by
  intro W' hE'
  have hs := h.ext hE'
  refine ⟨(· = g), _, sumsAdd_ok hs hm (hq.ext hE') hE hz hk hk1, fun g' e => ?_, fun v W'' hX hP => ?_⟩
  · subst e
    exact ⟨hs.pub, hg⟩
  · obtain ⟨rfl, es', c', E', h1, h2⟩ := hP
    exact kont W' W'' es' c' E' hE' hX hs h1 h2
end Go.Proofs.YtbingbjhgoanoaaGreat

/- poly: sums.poly, New. -/
set_option maxRecDepth 100000
set_option linter.unusedVariables false
set_option linter.unusedSimpArgs false
namespace Go.Proofs.YtbingbjhgoanoaaGreat
open Go Go.SX
def nzT (t : Tm) : Bool := decide (t.2 ≠ 0)
theorem ptot_nz (l : List Tm) (m : Mon) : ptot (l.filter nzT) m = ptot l m := by
  induction l with
  | nil => rfl
  | cons t r ih =>
    by_cases h : t.2 = 0
    · rw [List.filter_cons_of_neg (by simp [nzT, h]), ih, ptot, h]
      split <;> rw [Rat.zero_add]
    · rw [List.filter_cons_of_pos (by simp [nzT, h]), ptot, ptot, ih]
theorem mem_leftOf {es : Array MapEntry} {sn : Array Nat} {e : MapEntry} (h : e ∈ (leftOf es sn).toList) : e ∈ es.toList ∧ sn.contains e.born = false := by
  unfold leftOf at h
  rw [Array.toList_filter, List.mem_filter] at h
  exact ⟨h.1, by simpa using h.2⟩
theorem leftOf_nil {es : Array MapEntry} {sn : Array Nat} (h : (leftOf es sn).size = 0) : ∀ e ∈ es.toList, sn.contains e.born = true := by
  intro e he
  refine Classical.byContradiction fun hn => ?_
  have : e ∈ (leftOf es sn).toList := by
    unfold leftOf
    rw [Array.toList_filter, List.mem_filter]
    exact ⟨he, by simpa using hn⟩
  rw [← Array.length_toList] at h
  rw [List.eq_nil_of_length_eq_zero h] at this
  cases this
def spI (W0 : PW) (c : Nat) (es : List MapEntry) (E : List Tm) (l : List PL) (W : PW) : Prop := match l with
  | [.row l11, PL.seen sn n] => Ext W0 W ∧ n = c ∧ ∃ L, All2 (PT 183 W) l11 L ∧ (L ++ (left2 sn es E).filter nzT).Perm (E.filter nzT)
  | _ => False
def spM (es : List MapEntry) (E : List Tm) (l : List PL) (W : PW) : Nat := match l with
  | [_, PL.seen sn n] => (left2 sn es E).length
  | _ => 0
theorem sumsPoly_ok {W0 : PW} {M : Nat → Prop} {g c k : Nat} {es : Array MapEntry} {E : List Tm} (h : IsSums 183 W0 g es c E) (hE : ∀ t ∈ E, Sz k t.2) (hk : k ≤ 1073741824) (hl : E.length ≤ 1073741824) :
    PCallsM Go.Proofs.Tryz.prog 63 [.map (some g)] W0 M fun v W' => ∃ s : Sl, v = .agg ⟨[s.v]⟩ ∧ Fresh W0 s ∧ OPoly 183 45 W' s (pnorm E) := by
  apply callpoly_sums_poly
  have hlen : es.toList.length = E.length := h.all.len
  refine ⟨g, rfl, es, c, h.pub, h.heap, ⟨rfl, rfl⟩, spI W0 c es.toList E, spM es.toList E, ⟨Ext.refl _, rfl, [], trivial, ?_⟩, ?_⟩
  · rw [show (⟨[]⟩ : Array Nat) = #[] from rfl, left2_start hlen]
    exact .refl _
  rintro x8 n9 x10 l11 W12 hF
  obtain ⟨sn, hsn⟩ : ∃ sn, seenNow x8 x10 = sn := ⟨_, rfl⟩
  rw [hsn] at hF ⊢
  obtain ⟨hE12, rfl, L, hL, hp⟩ := hF
  have hs := h.ext hE12
  have hLl : L.length ≤ E.length := by
    have h1 := hp.length_eq
    have h2 := List.length_filter_le nzT E
    simp only [List.length_append] at h1
    omega
  have hll := hL.len
  refine ⟨es, n9, hs.pub, hs.heap, fun e he => h.lt e he, Nat.le_refl _, fun hz s18 W19 hE19 hO hf => ?_, fun e he => ?_⟩
  · have hnil := left2_end (sn := sn) (es := es.toList) (E := E) (leftOf_nil hz)
    rw [hnil, List.filter_nil, List.append_nil] at hp
    have hnd : (L.map (·.1)).Nodup := (hp.map _).nodup_iff.2 (List.Nodup.sublist (List.filter_sublist.map _) h.nd)
    have hnz : ∀ t ∈ L, t.2 ≠ 0 := fun t ht => by
      have := List.mem_filter.1 (hp.mem_iff.1 ht)
      simpa [nzT] using this.2
    have hpn : pnorm L = pnorm E := pnorm_congr fun m => by rw [ptot_perm hp, ptot_nz]
    intro W' hE'
    have hO' := hO.ext hE'
    refine ⟨_, _, polySort_ok hO' (hL.mono fun _ _ h => h.ext (hE19.trans hE')) hnd hnz (by omega), fun g' hg' => ⟨hO'.2 g' hg', .inr (hf g' hg').1⟩, fun v W'' hX hP => ?_⟩
    obtain ⟨rfl, hq⟩ := hP
    refine ⟨rfl, fun W22 hE22 => ⟨s18, rfl, fun g hg => (hf g hg).1, ?_⟩⟩
    rw [← hpn]
    exact hq.ext hE22
  · obtain ⟨hem, hec⟩ := mem_leftOf he
    obtain ⟨i, hi⟩ := List.mem_iff_getElem?.1 hem
    obtain ⟨t, ht, h0, hk', s, b, s', hv, hr⟩ := hs.all.getl hi
    have hstep := left2_step h.born hi ht hec
    have hmm : (left2 (sn.push e.born) es.toList E).length < (left2 sn es.toList E).length := by
      rw [hstep.length_eq]
      simp
    refine ⟨⟨es, hs.pub, hs.heap, hem, h.born⟩, t.1.x, t.1.y, t.1.z, hk', s, b, s', hv, ratSign_call hr (hE t (List.mem_of_getElem? ht)) (by omega) fun W35 hE35 _ => ⟨_, rfl, fun hne => ⟨by simp; omega, ⟨rfl, rfl⟩, ⟨hE12.trans hE35, rfl, L ++ [t], (hL.mono fun _ _ h => h.ext hE35).snoc ⟨h0, s, b, s', rfl, hr.ext hE35⟩, ?_⟩, hmm⟩, fun heq => ⟨⟨rfl, rfl⟩, ⟨hE12.trans hE35, rfl, L, hL.mono fun _ _ h => h.ext hE35, ?_⟩, hmm⟩⟩⟩
    · have hnz : nzT t = true := by
        have : t.2 ≠ 0 := fun e => hne ((cmpQ_zero _ _).2 e)
        simp [nzT, this]
      have h1 := hstep.filter nzT
      rw [List.filter_cons_of_pos hnz] at h1
      have h2 : (L ++ [t] ++ (left2 (sn.push e.born) es.toList E).filter nzT).Perm (L ++ (left2 sn es.toList E).filter nzT) := by
        rw [List.append_assoc]
        exact (h1.symm.append_left L)
      exact h2.trans hp
    · have hnz : ¬ nzT t = true := by
        have : t.2 = 0 := (cmpQ_zero _ _).1 (by omega)
        simp [nzT, this]
      have h1 := hstep.filter nzT
      rw [List.filter_cons_of_neg hnz] at h1
      exact (h1.symm.append_left L).trans hp
theorem sumsPoly_callO {W0 W : PW} {M : Nat → Prop} {g c k : Nat} {es : Array MapEntry} {E : List Tm} {K : Value → PW → Prop} (h : IsSums 183 W g es c E) (hE : ∀ t ∈ E, Sz k t.2) (hk : k ≤ 1073741824) (hl : E.length ≤ 1073741824)
    (kont : ∀ (s : Sl) (W' : PW), Ext W W' → Fresh W s → OPoly 183 45 W' s (pnorm E) → K (.agg ⟨[s.v]⟩) W') : callN Go.Proofs.Tryz.prog W0 M 63 [.map (some g)] W K :=
  callN_of (fun W' hE' => sumsPoly_ok (M := fun _ => False) (h.ext hE') hE hk hl) (fun W' v W'' hE' hE'' hP => by
    obtain ⟨s, rfl, hf, hp⟩ := hP
    exact kont s W'' (hE'.trans hE'') (hf.back hE') hp)
theorem sumsPoly_call {W0 W : PW} {M : Nat → Prop} {g c k : Nat} {es : Array MapEntry} {E : List Tm} {K : Value → PW → Prop} (h : IsSums 183 W g es c E) (hE : ∀ t ∈ E, Sz k t.2) (hk : k ≤ 1073741824) (hl : E.length ≤ 1073741824)
    (kont : ∀ (s : Sl) (W' : PW), Ext W W' → IsPoly 183 45 W' s (pnorm E) → K (.agg ⟨[s.v]⟩) W') : callN Go.Proofs.Tryz.prog W0 M 63 [.map (some g)] W K :=
  sumsPoly_callO h hE hk hl fun s W' hE' _ hp => kont s W' hE' hp.poly
end Go.Proofs.YtbingbjhgoanoaaGreat

/- poly: New, Terms, Const, Var, Mul. -/
set_option maxRecDepth 100000
set_option linter.unusedVariables false
set_option linter.unusedSimpArgs false
namespace Go.Proofs.YtbingbjhgoanoaaGreat
open Go Go.SX
theorem nl_pos {x : Nat} (h : x ≠ 0) : 1 ≤ nl x := by
  have : nl x ≠ 0 := fun e => h (nl_eq_zero.1 e)
  omega
theorem take_snoc {α : Type} {l : List α} {j : Nat} (h : j < l.length) : l.take (j + 1) = l.take j ++ [l[j]] := by
  rw [List.take_add_one, List.getElem?_eq_getElem h]; rfl
theorem polyNewO_ok {W0 : PW} {M : Nat → Prop} {s : Sl} {l : List Tm} {k : Nat} (h : IsPoly 183 45 W0 s l) (hB : Bd k l) (hk : k ≤ 536870912) (hl : l.length ≤ 1073741824) :
    PCallsM Go.Proofs.Tryz.prog 18 [s.v] W0 M fun v W' => ∃ (s' : Sl), v = .agg ⟨[Sl.v s']⟩ ∧ Fresh W0 s' ∧ OPoly 183 45 W' s' (pnorm l) := by
  apply callpoly_New
  intro g W2 hE2 _ hg hS hh
  obtain ⟨D, N, hF, hD, hn1, hn2⟩ := hB
  have hk1 : 1 ≤ k := Nat.le_trans (nl_pos hD) hn1
  refine ⟨fun L W => match L with
    | [.val (.int .i64 i)] => ∃ j : Nat, i = (j : Int) ∧ j ≤ l.length ∧ W0.w.heap.size ≤ W.w.heap.size ∧ IsPoly 183 45 W s l ∧ ∃ es c E a b, IsSums 183 W g es c E ∧ Sums D (l.take j) a E ∧ Fit D b (l.drop j) ∧ a + b ≤ N
    | _ => False, fun L _ => match L with | [.val (.int .i64 i)] => l.length - i.toNat | _ => 0, ⟨0, rfl, by omega, hE2.size, h.ext hE2, #[], 0, [], 0, N, IsSums.new hS hh, Sums.nil D, hF, by omega⟩, ?_⟩
  rintro i5 W6 ⟨j, rfl, hj, h06, hp, es, c, E, a, b, hs, hsm, hf, hab⟩
  have hn := hp.n
  refine ⟨fun hlt => ?_, fun hge => ?_⟩
  · have hjl : j < l.length := by omega
    obtain ⟨h0, s1, b1, s2, he, _, _, hq⟩ := hp.at (List.getElem?_eq_getElem hjl)
    rw [List.drop_eq_getElem_cons hjl] at hf
    obtain ⟨n, k', hnk, hfq, hf'⟩ := hf
    refine ⟨hp.inB (by omega) (by omega), _, _, _, s1, b1, s2, he, sumsAdd_call (k := k) hs h0 hq (fun t ht => ((hsm.fit.mem ht).mono (by omega : a ≤ N)).sz hD hn1 hn2) ((hfq.mono (by omega : n ≤ N)).sz hD hn1 hn2) (by omega) hk1 (.inr hg) fun W' W'' es' c' E' hE' hX hs' hs'' hA => ⟨rfl, by unfold I64; omega, ⟨j + 1, by push_cast; rfl, by omega, Nat.le_trans h06 (Nat.le_trans hE'.size hX.size), (hp.ext hE').map hX hs'.heap, es', c', E', a + n, k', hs'', ?_, hf', by omega⟩, ?_⟩⟩
    · rw [take_snoc hjl]
      exact hsm.add hA hfq
    · show l.length - Int.toNat ((j : Int) + 1) < l.length - Int.toNat (j : Int)
      omega
  · have hj' : j = l.length := by omega
    subst hj'
    rw [List.take_length] at hsm
    have hlen := hsm.len
    exact sumsPoly_callO (k := k) hs (fun t ht => ((hsm.fit.mem ht).mono (by omega : a ≤ N)).sz hD hn1 hn2) (by omega) (by omega) fun s' W' hE' hf' hp' => ⟨s', rfl, fun W18 hE18 => ⟨s', rfl, fun g' hg' => Nat.le_trans h06 (hf' g' hg'), by rw [← hsm.norm]; exact hp'.ext hE18⟩⟩
theorem polyNew_ok {W0 : PW} {M : Nat → Prop} {s : Sl} {l : List Tm} {k : Nat} (h : IsPoly 183 45 W0 s l) (hB : Bd k l) (hk : k ≤ 536870912) (hl : l.length ≤ 1073741824) :
    PCallsM Go.Proofs.Tryz.prog 18 [s.v] W0 M fun v W' => ∃ (s' : Sl), v = .agg ⟨[Sl.v s']⟩ ∧ IsPoly 183 45 W' s' (pnorm l) := by
  exact (polyNewO_ok h hB hk hl).mono (fun _ h => h) fun v W' _ ⟨s', hv, _, hp⟩ => ⟨s', hv, hp.poly⟩
theorem polyNew_call {W0 W : PW} {M : Nat → Prop} {s : Sl} {l : List Tm} {k : Nat} {K : Value → PW → Prop} (h : IsPoly 183 45 W s l) (hB : Bd k l) (hk : k ≤ 536870912) (hl : l.length ≤ 1073741824) (kont : ∀ (s' : Sl) (W' : PW), Ext W W' → (IsPoly 183 45 W' s' (pnorm l)) → K (.agg ⟨[Sl.v s']⟩) W') :
    callN Go.Proofs.Tryz.prog W0 M 18 [s.v] W K :=
  callN_of (fun W' hE => polyNew_ok (M := fun _ => False) (h.ext hE) hB hk hl) (fun W' v W'' hE hE' hP => by
    obtain ⟨s', rfl, h⟩ := hP
    exact kont s' W'' (hE.trans hE') h)
theorem isPoly_of {W : PW} {s : Sl} {xs : List (List Value)} {p : List Tm} (h : Row W 45 6 s xs) (ha : All2 (PT 183 W) xs p) : IsPoly 183 45 W s p := ⟨xs, h, ha⟩
theorem cloneTm_ok {W0 : PW} {M : Nat → Prop} {s : Sl} {xs : List (List Value)} (h : Row W0 45 6 s xs) (hl : xs.length ≤ 1099511627776) :
    PCallsM Go.Proofs.Tryz.prog 69 [s.v] W0 M fun v W' => ∃ (s' : Sl), v = Sl.v s' ∧ Fresh W0 s' ∧ Go.SX.Own W' 45 6 s' xs := by
  apply callslices_Clone_poly_Term_poly_Term
  refine ⟨fun hn W1 hE => ?_, fun hn => ⟨xs, ⟨_, h⟩, by omega, fun s3 W4 hE4 hO hf W5 hE5 => ⟨s3, rfl, fun g hg => (hf g hg).1, by rw [List.nil_append] at hO; exact hO.ext hE5⟩⟩⟩
  have : xs = [] := Classical.byContradiction fun hne => by
    have := h.some hne
    rw [hn] at this
    cases this
  subst this
  exact ⟨⟨none, 0, 0⟩, rfl, fun g hg => by simp [Sl.v, Value.ownBlock] at hg, ⟨by simp, rfl, .inl ⟨rfl, rfl⟩⟩, fun g hg => by simp [Sl.v, Value.ownBlock] at hg⟩
theorem cloneTm_call {W0 W : PW} {M : Nat → Prop} {s : Sl} {xs : List (List Value)} {K : Value → PW → Prop} (h : Row W 45 6 s xs) (hl : xs.length ≤ 1099511627776) (kont : ∀ (s' : Sl) (W' : PW), Ext W W' → (Fresh W s' ∧ Go.SX.Own W' 45 6 s' xs) → K (Sl.v s') W') :
    callN Go.Proofs.Tryz.prog W0 M 69 [s.v] W K :=
  callN_of (fun W' hE => cloneTm_ok (M := fun _ => False) (h.ext hE) hl) (fun W' v W'' hE hE' hP => by
    obtain ⟨s', rfl, hf, h⟩ := hP
    exact kont s' W'' (hE.trans hE') ⟨hf.back hE, h⟩)
theorem polyTerms_ok {W0 : PW} {M : Nat → Prop} {s : Sl} {xs : List (List Value)} (h : Row W0 45 6 s xs) (hl : xs.length ≤ 1099511627776) :
    PCallsM Go.Proofs.Tryz.prog 23 [.agg ⟨[s.v]⟩] W0 M fun v W' => ∃ (s' : Sl), v = Sl.v s' ∧ Fresh W0 s' ∧ Go.SX.Own W' 45 6 s' xs := by
  apply callpoly_Poly_Terms
  exact cloneTm_call h hl fun s' W2 hE2 ⟨hf, hO⟩ => ⟨s', rfl, fun W4 hE4 => ⟨s', rfl, hf, hO.ext hE4⟩⟩
theorem polyTerms_call {W0 W : PW} {M : Nat → Prop} {s : Sl} {xs : List (List Value)} {K : Value → PW → Prop} (h : Row W 45 6 s xs) (hl : xs.length ≤ 1099511627776) (kont : ∀ (s' : Sl) (W' : PW), Ext W W' → (Fresh W s' ∧ Go.SX.Own W' 45 6 s' xs) → K (Sl.v s') W') :
    callN Go.Proofs.Tryz.prog W0 M 23 [.agg ⟨[s.v]⟩] W K :=
  callN_of (fun W' hE => polyTerms_ok (M := fun _ => False) (h.ext hE) hl) (fun W' v W'' hE hE' hP => by
    obtain ⟨s', rfl, hf, h⟩ := hP
    exact kont s' W'' (hE.trans hE') ⟨hf.back hE, h⟩)
theorem bd_one {k : Nat} {m : Mon} {q : Rat} (h : Sz k q) : Bd (k + 3) [(m, q)] := by
  have := Bd.of_sz (k := k) (l := [(m, q)]) (by intro t ht; simp at ht; subst ht; exact h)
  exact this.mono (by simp)
theorem polyConst_ok {W0 : PW} {M : Nat → Prop} {s t : Sl} {b : Bool} {q : Rat} {k : Nat} (h : IsRat 183 W0 s b t q) (hq : Sz k q) (hk : k ≤ 268435456) :
    PCallsM Go.Proofs.Tryz.prog 41 [.agg ⟨[s.v, .bool b, t.v]⟩] W0 M fun v W' => ∃ (s' : Sl), v = .agg ⟨[Sl.v s']⟩ ∧ IsPoly 183 45 W' s' (pnorm [(⟨0, 0, 0⟩, q)]) := by
  apply callpoly_Const
  intro s1 W2 hE2 hO _
  exact polyNew_call (isPoly_of (p := [(⟨0, 0, 0⟩, q)]) hO.row ⟨⟨(by decide : (⟨0, 0, 0⟩ : Mon).ok), s, b, t, rfl, h.ext hE2⟩, trivial⟩) (bd_one hq) (by omega) (by simp) fun s' W4 hE4 hp => ⟨s', rfl, fun W6 hE6 => ⟨s', rfl, hp.ext hE6⟩⟩
theorem polyConst_call {W0 W : PW} {M : Nat → Prop} {s t : Sl} {b : Bool} {q : Rat} {k : Nat} {K : Value → PW → Prop} (h : IsRat 183 W s b t q) (hq : Sz k q) (hk : k ≤ 268435456) (kont : ∀ (s' : Sl) (W' : PW), Ext W W' → (IsPoly 183 45 W' s' (pnorm [(⟨0, 0, 0⟩, q)])) → K (.agg ⟨[Sl.v s']⟩) W') :
    callN Go.Proofs.Tryz.prog W0 M 41 [.agg ⟨[s.v, .bool b, t.v]⟩] W K :=
  callN_of (fun W' hE => polyConst_ok (M := fun _ => False) (h.ext hE) hq hk) (fun W' v W'' hE hE' hP => by
    obtain ⟨s', rfl, h⟩ := hP
    exact kont s' W'' (hE.trans hE') h)
def unitM (i : Nat) : Mon := if i = 0 then ⟨1, 0, 0⟩ else if i = 1 then ⟨0, 1, 0⟩ else ⟨0, 0, 1⟩
def varP (i : Int) : List Tm := if 0 ≤ i ∧ i < 3 then [(unitM i.toNat, 1)] else []
theorem pnorm_one (m : Mon) : pnorm [(m, (1 : Rat))] = [(m, 1)] := by
  have : (1 : Rat) ≠ 0 := by decide
  simp [pnorm, pput, this]
theorem polyVar_ok {W0 : PW} {M : Nat → Prop} {i : Int}  :
    PCallsM Go.Proofs.Tryz.prog 39 [.int .i64 i] W0 M fun v W' => ∃ (s' : Sl), v = .agg ⟨[Sl.v s']⟩ ∧ IsPoly 183 45 W' s' (varP i) := by
  apply callpoly_Var
  refine ⟨fun h W1 hE => ⟨⟨none, 0, 0⟩, rfl, ?_⟩, fun h => ⟨fun h' W2 hE => ⟨⟨none, 0, 0⟩, rfl, ?_⟩, fun h' => ⟨⟨by omega, by omega⟩, by omega, ⟨⟨trivial, fun e => ?_⟩, fun e => ?_⟩, fun e => ?_⟩⟩⟩
  · unfold varP; rw [if_neg (by omega)]; exact IsPoly.nil W1
  · unfold varP; rw [if_neg (by omega)]; exact IsPoly.nil W2
  · have hv : varP i = pnorm [(unitM 0, 1)] := by unfold varP; rw [if_pos (by omega), pnorm_one, e]
    rw [hv]
    refine ratOf_call (z := 1) (by unfold I64; omega) fun s5 b6 s7 W4 hE4 h4 => ⟨s5, b6, s7, rfl, fun s8 W9 hE9 hO _ => ?_⟩
    exact polyNew_call (isPoly_of (p := [(unitM 0, 1)]) hO.row ⟨⟨by decide, s5, b6, s7, rfl, h4.ext hE9⟩, trivial⟩) (bd_one (Sz.one (Nat.le_refl 1))) (by omega) (by simp) fun s' W11 hE11 hp => ⟨s', rfl, fun W13 hE13 => ⟨s', rfl, hp.ext hE13⟩⟩
  · have hv : varP i = pnorm [(unitM 1, 1)] := by unfold varP; rw [if_pos (by omega), pnorm_one, e]
    rw [hv]
    refine ratOf_call (z := 1) (by unfold I64; omega) fun s5 b6 s7 W4 hE4 h4 => ⟨s5, b6, s7, rfl, fun s8 W9 hE9 hO _ => ?_⟩
    exact polyNew_call (isPoly_of (p := [(unitM 1, 1)]) hO.row ⟨⟨by decide, s5, b6, s7, rfl, h4.ext hE9⟩, trivial⟩) (bd_one (Sz.one (Nat.le_refl 1))) (by omega) (by simp) fun s' W11 hE11 hp => ⟨s', rfl, fun W13 hE13 => ⟨s', rfl, hp.ext hE13⟩⟩
  · have hv : varP i = pnorm [(unitM 2, 1)] := by unfold varP; rw [if_pos (by omega), pnorm_one, e]
    rw [hv]
    refine ratOf_call (z := 1) (by unfold I64; omega) fun s5 b6 s7 W4 hE4 h4 => ⟨s5, b6, s7, rfl, fun s8 W9 hE9 hO _ => ?_⟩
    exact polyNew_call (isPoly_of (p := [(unitM 2, 1)]) hO.row ⟨⟨by decide, s5, b6, s7, rfl, h4.ext hE9⟩, trivial⟩) (bd_one (Sz.one (Nat.le_refl 1))) (by omega) (by simp) fun s' W11 hE11 hp => ⟨s', rfl, fun W13 hE13 => ⟨s', rfl, hp.ext hE13⟩⟩
theorem polyVar_call {W0 W : PW} {M : Nat → Prop} {i : Int} {K : Value → PW → Prop}  (kont : ∀ (s' : Sl) (W' : PW), Ext W W' → (IsPoly 183 45 W' s' (varP i)) → K (.agg ⟨[Sl.v s']⟩) W') :
    callN Go.Proofs.Tryz.prog W0 M 39 [.int .i64 i] W K :=
  callN_of (fun W' hE => polyVar_ok (M := fun _ => False) ) (fun W' v W'' hE hE' hP => by
    obtain ⟨s', rfl, h⟩ := hP
    exact kont s' W'' (hE.trans hE') h)
end Go.Proofs.YtbingbjhgoanoaaGreat

/- Layings of the library's generic functions, as the kit's command says them. -/
set_option maxRecDepth 100000
namespace Go.Proofs.YtbingbjhgoanoaaGreat
open Go Go.Shelf Go.Proofs
def growTm_ren : Go.Shelf.Ren := ⟨fun | 4 => 122 | n => n, fun | 22 => 24 | 25 => 45 | 3 => 3 | 4 => 4 | 9 => 9 | 20 => 20 | 0 => 0 | n => n, fun | n => n⟩
theorem growTm : Go.Proofs.Lays8.n4 Tryz.prog growTm_ren where
  mixed := by kernel_rfl
  f4 := ⟨ "slices.Grow[[]cincture/poly.Term,cincture/poly.Term]", by decide, Tryz.func122.trans (congrArg some (by kernel_rfl))⟩
  t0 := Tryz.underlying0
  a0 := Tryz.isAgg0
  z0 := Tryz.sizeOf0
  v0 := Tryz.zeroValue0
  t3 := Tryz.underlying3
  a3 := Tryz.isAgg3
  z3 := Tryz.sizeOf3
  v3 := Tryz.zeroValue3
  t4 := Tryz.underlying4
  a4 := Tryz.isAgg4
  z4 := Tryz.sizeOf4
  v4 := Tryz.zeroValue4
  t9 := Tryz.underlying9
  a9 := Tryz.isAgg9
  z9 := Tryz.sizeOf9
  v9 := Tryz.zeroValue9
  t20 := Tryz.underlying20
  a20 := Tryz.isAgg20
  z20 := Tryz.sizeOf20
  v20 := Tryz.zeroValue20
  t22 := Tryz.underlying24
  a22 := Tryz.isAgg24
  z22 := Tryz.sizeOf24
  v22 := Tryz.zeroValue24
end Go.Proofs.YtbingbjhgoanoaaGreat

/- poly: slices.Grow, slices.Concat, Add, Scale, Sub. -/
set_option maxRecDepth 100000
set_option linter.unusedVariables false
set_option linter.unusedSimpArgs false
namespace Go.Proofs.YtbingbjhgoanoaaGreat
open Go Go.SX
theorem growTm_ok {W0 : PW} {M : Nat → Prop} {n : Nat} (hn : n ≤ 1099511627776) :
    PCallsM Go.Proofs.Tryz.prog 122 [.slice none 0 0, .int .i64 (n : Int)] W0 M fun v W' => ∃ s : Sl, v = s.v ∧ Fresh W0 s ∧ Go.SX.Own W' 45 6 s [] := by
  refine ⟨⟨_, Go.Proofs.Tryz.func122, by kernel_rfl, by kernel_rfl⟩, fun hS => ?_⟩
  by_cases h0 : n = 0
  · subst h0
    have h := Proofs.Any8.slices_Grow_room growTm none 0 0 0 W0.w (Nat.le_refl _) (by omega) (by omega) (by omega)
    change Calls Go.Proofs.Tryz.prog 122 _ _ _ at h
    refine Calls.mono h ?_
    rintro e w' ⟨rfl, rfl⟩
    exact ⟨_, rfl, Keep.refl _ _, ⟨none, 0, 0⟩, rfl, fun g hg => by simp [Sl.v, Value.ownBlock] at hg, ⟨by simp, rfl, .inl ⟨rfl, rfl⟩⟩, fun g hg => by simp [Sl.v, Value.ownBlock] at hg⟩
  · obtain ⟨⟨inf, hinf, hs1, hs2, hz⟩, _, _, hzs, _⟩ := ty45_good
    have hsz : inf.size = 6 := hs1
    have hby : inf.bytes = 64 := hs2
    have h := Proofs.Any8.slices_Grow_grow growTm inf ty45.zv hinf hz (by omega) none 0 0 n [] W0.w (Nat.le_refl _) (by omega) (by rw [hby]; omega) (by omega) (by simp) (fun _ => rfl) (fun a ha => by cases ha)
    have hg1 := grownCap_ge W0.w (0 + n) 0 (growTm_ren.t 25)
    have hg2 := grownCap_le_maxLen W0.w (0 + n) 0 (growTm_ren.t 25) (by simp only [maxLen]; omega)
    obtain ⟨G, hG⟩ : ∃ G, G = grownCap W0.w (0 + n) 0 (growTm_ren.t 25) := ⟨_, rfl⟩
    rw [← hG] at h hg1 hg2
    change Calls Go.Proofs.Tryz.prog 122 _ _ _ at h
    refine Calls.mono h ?_
    rintro e w' ⟨rfl, rfl⟩
    refine ⟨_, rfl, (Keep.alloc M W0.w.drew _).drewn, ⟨some ⟨W0.w.heap.size, 0, none⟩, 0, G⟩, rfl, fun g hg => ?_, ⟨by simp, rfl, .inr ⟨W0.w.heap.size, G, _, rfl, Nat.zero_le _, heap_alloc_new W0.w.drew _, Nat.zero_le _, hg2, ?_, ?_⟩⟩, fun g hg hs => ?_⟩
    · simp [Sl.v, Value.ownBlock] at hg
      omega
    · have hz6 : ty45.zv.cells.size = 6 := rfl
      simp only [Array.size_append, size_zeroCells, hz6]
      simp
      omega
    · simp
    · simp [Sl.v, Value.ownBlock] at hg
      have := hS g hs
      omega
end Go.Proofs.YtbingbjhgoanoaaGreat
