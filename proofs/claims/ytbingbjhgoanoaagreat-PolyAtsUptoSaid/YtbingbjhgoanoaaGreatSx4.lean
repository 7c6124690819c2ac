/- The symbolic evaluator: regions whose order is drawn are sound. -/
import Derived.Test.YtbingbjhgoanoaaGreatSx3
import Derived.Orders
import Derived.Deep.LoopGhost
set_option linter.unusedVariables false
set_option linter.unusedSimpArgs false
set_option linter.unusedVariables false
set_option linter.unusedSimpArgs false
namespace Go.SX
variable {P : Program} {tt : List (Nat × TyI)} {W0 : PW} {M : Nat → Prop}

theorem memD_iff {l : List Nat} {x : Nat} : mem l x = true ↔ x ∈ l := by
  unfold mem
  rw [List.any_eq_true]
  constructor
  · rintro ⟨y, hy, he⟩
    rw [Nat.eq_of_beq_eq_true he]; exact hy
  · exact fun h => ⟨x, h, Nat.beq_refl x⟩
theorem allI_spec {p : Nat → Oper → Bool} : ∀ {l : List Oper} {n : Nat} (_ : allI p n l = true) {i : Nat} {o : Oper} (_ : l[i]? = some o), p (n + i) o = true
  | [], n, _, i, o, h => by simp at h
  | x :: r, n, h, i, o, ho => by
    rw [allI, Bool.and_eq_true] at h
    cases i with
    | zero => simp at ho; subst ho; exact h.1
    | succ i =>
      have := allI_spec h.2 (i := i) (o := o) (by simpa using ho)
      rw [show n + (i + 1) = n.succ + i by omega]; exact this
theorem findI_some {p : Nat → Oper → Bool} : ∀ {l : List Oper} {n i : Nat} {o : Oper} (_ : findI p n l = some (i, o)), ∃ k, i = n + k ∧ l[k]? = some o ∧ p i o = true
  | [], n, i, o, h => by simp [findI] at h
  | x :: r, n, i, o, h => by
    rw [findI] at h
    split at h
    · rename_i hp
      simp only [Option.some.injEq, Prod.mk.injEq] at h
      obtain ⟨rfl, rfl⟩ := h
      exact ⟨0, rfl, rfl, hp⟩
    · obtain ⟨k, hk, ho, hp⟩ := findI_some h
      exact ⟨k + 1, by omega, by simpa using ho, hp⟩
theorem filtI_mem {p : Nat → Oper → Bool} : ∀ {l : List Oper} {n k : Nat} {o : Oper} (_ : l[k]? = some o) (_ : p (n + k) o = true), (n + k, o) ∈ filtI p n l
  | [], n, k, o, h, _ => by simp at h
  | x :: r, n, k, o, h, hp => by
    rw [filtI]
    cases k with
    | zero => simp at h; subst h; simp at hp; simp [hp]
    | succ k =>
      have := filtI_mem (l := r) (n := n.succ) (k := k) (o := o) (by simpa using h) (by rw [show n.succ + k = n + (k + 1) by omega]; exact hp)
      rw [show n.succ + k = n + (k + 1) by omega] at this
      split
      · exact List.mem_cons_of_mem _ this
      · exact this
theorem allR_spec {f : Nat × Oper → Prop} : ∀ {l : List (Nat × Oper)} (_ : allR f l) {x : Nat × Oper} (_ : x ∈ l), f x
  | [], _, x, hx => by cases hx
  | [y], h, x, hx => by simp at hx; subst hx; exact h
  | y :: z :: r, h, x, hx => by
    rcases List.mem_cons.1 hx with rfl | hx
    · exact h.1
    · exact allR_spec h.2 hx
theorem lookD_filter {α : Type} {q : Nat → Bool} : ∀ {l : List (Nat × α)} {i : Nat} {x : α} (_ : look (l.filter fun p => q p.1) i = some x), look l i = some x ∧ q i = true
  | [], i, x, h => by simp [look] at h
  | (k, y) :: r, i, x, h => by
    rw [look_cons]
    rw [List.filter_cons] at h
    by_cases hq : q k = true
    · simp only [hq, if_true, look_cons] at h
      split
      · rename_i he
        rw [if_pos he] at h
        exact ⟨h, he ▸ hq⟩
      · rename_i he
        rw [if_neg he] at h
        exact lookD_filter h
    · simp only [hq] at h
      have := lookD_filter (l := r) (by simpa using h)
      split
      · rename_i he; subst he; exact absurd this.2 hq
      · exact this
theorem preds_mem {o : Oper} {j : Nat} : j ∈ predsOf o ↔ ∃ e, e ∈ o.after ∧ Region.binds .any e = true ∧ e.on = j := by
  unfold predsOf
  rw [List.mem_filterMap]
  constructor
  · rintro ⟨e, he, h⟩
    split at h
    · rename_i hb; simp at h; exact ⟨e, by simpa using he, hb, h⟩
    · cases h
  · rintro ⟨e, he, hb, rfl⟩
    exact ⟨e, by simpa using he, by simp [hb]⟩

/-- An operation yields its value. -/
def Yld (P : Program) (ops : Array Oper) (o : Oper) (a : Act) (w : World) (v : Value) : Prop :=
  (Region.wanted o (yielded ops a.tmps) = true ∧ (execOp a.eval o).run P w = .ok (.value v) w) ∨ (Region.wanted o (yielded ops a.tmps) = false ∧ v = undef)
theorem exec_same {ops : Array Oper} {o : Oper} {a a' : Act} (hs : ∀ cs b, o.op ≠ .select cs b) (h : ∀ t, t ∈ looksO ops o → a.tmps[t]? = a'.tmps[t]?) : execOp a.eval o = execOp a'.eval o := by
  refine execOp_congr o hs fun x hx => ?_
  cases x with
  | tmp t =>
    have := h t (List.mem_append_left _ (List.mem_filterMap.2 ⟨.tmp t, by simpa using hx, rfl⟩))
    simp [Act.eval, Array.getD_eq_getD_getElem?, this]
  | _ => rfl
theorem wanted_same {ops : Array Oper} {o : Oper} {a a' : Act} (h : ∀ t, t ∈ looksO ops o → a.tmps[t]? = a'.tmps[t]?) : Region.wanted o (yielded ops a.tmps) = Region.wanted o (yielded ops a'.tmps) := by
  unfold Region.wanted
  cases hg : o.guard with
  | none => rfl
  | some gw =>
    obtain ⟨g, want⟩ := gw
    have hy : yielded ops a.tmps g = yielded ops a'.tmps g := by
      unfold yielded
      cases ht : (ops[g]?).bind (·.dst) with
      | none => rfl
      | some t =>
        have := h t (List.mem_append_right _ (by simp [hg, ht]))
        simp only [Option.bind_some, this]
    simp only [hy]
theorem put_same {a a' : Act} {dst : Option Tmp} {v v' : Value} (hs : a.tmps.size = a'.tmps.size) (h : a'.put dst v = a'.put dst v') : a.put dst v = a.put dst v' := by
  cases dst with
  | none => rfl
  | some d =>
    simp only [Act.put, Act.mk.injEq, and_true] at h ⊢
    by_cases hd : d < a.tmps.size
    · have : v = v' := by
        have h2 := congrArg (fun x => x[d]?) h
        have hd' : d < a'.tmps.size := hs ▸ hd
        simpa [Array.getElem?_setIfInBounds, hd'] using h2
      rw [this]
    · simp [Array.setIfInBounds, hd]
theorem wp_shift {o : Oper} {a a' : Act} {w : World} {Φ : Value → World → Prop} {Q : Exit → Act → World → Prop} (he : execOp a.eval o = execOp a'.eval o) (hs : a.tmps.size = a'.tmps.size)
    (h : o.wp P a' w (fun a2 w2 => ∃ v, a2 = a'.put o.dst v ∧ Φ v w2) (fun _ _ _ => False)) : o.wp P a w (fun a2 w2 => ∃ v, a2 = a.put o.dst v ∧ Φ v w2) Q := by
  unfold Oper.wp at h ⊢
  rw [he]
  generalize (execOp a'.eval o).run P w = r at h
  have fwd : ∀ v w2, (∃ v', a'.put o.dst v = a'.put o.dst v' ∧ Φ v' w2) → ∃ v', a.put o.dst v = a.put o.dst v' ∧ Φ v' w2 := fun v w2 ⟨v', h1, h2⟩ => ⟨v', put_same hs h1, h2⟩
  unfold Oper.upon at h ⊢
  split at h
  · exact fwd _ _ h
  · exact fwd _ _ h
  · rename_i d w2
    obtain ⟨v, h1, _⟩ := h
    have := congrArg (fun a => a.defers.length) h1
    cases hd : o.dst <;> simp [hd, Act.put] at this
  · refine Calls.mono h ?_
    intro e w'' he
    cases e with
    | returned v => exact fwd _ _ he
    | panicked c => exact he.elim
    | outgrown => obtain ⟨_, _, hf⟩ := he; exact hf.elim
  · exact Rows.mono h fun v w'' h => fwd _ _ h
  · exact h.elim
  · exact h.elim
theorem fin_sound2 {gd : Bool} {o : Oper} {s : SV} {st : SS} {Kf : SS → Prop} (h : fin gd o s st Kf) {W Wa : PW} {β : Nat → Nat} {σ : Nat → Value} {a : Act} (hR : Run W0 M st W β σ a Wa) (hs : SVok st.nx β σ s) :
    ∃ st', Kf st' ∧ Run W0 M st' W β σ (a.put o.dst (s.val β σ)) Wa ∧ Desc st st' ∧ (∀ i, ¬ i ∈ dstOf o → (a.put o.dst (s.val β σ)).tmps.getD i undef = a.tmps.getD i undef) ∧
      st'.C = st.C ∧ st'.nx = st.nx ∧ st'.n = st.n ∧ st'.D = st.D ∧ (∀ t, ¬ o.dst = some t → look st'.T t = look st.T t) ∧ ∀ d, o.dst = some d → ∃ s', look st'.T d = some s' ∧ ∀ β σ, s'.val β σ = s.val β σ := by
  unfold fin at h
  cases hd : o.dst with
  | none =>
    rw [hd] at h
    exact ⟨st, h, hR, Desc.refl _, fun _ _ => rfl, rfl, rfl, rfl, rfl, fun _ _ => rfl, fun d h => by cases h⟩
  | some d =>
    rw [hd] at h
    simp only at h
    have htm : ∀ v i, ¬ i ∈ dstOf o → (a.put (some d) v).tmps.getD i undef = a.tmps.getD i undef := by
      intro v i hi
      rw [getD_put, if_neg]
      rintro ⟨rfl, _⟩
      exact hi (by simp [dstOf, hd])
    have hT : ∀ (x : SV) t, ¬ some d = some t → look ((d, x) :: st.T) t = look st.T t := fun x t ht => by
      rw [look_cons, if_neg fun e => ht (by rw [e])]
    have hd' : ∀ (x : SV) t, some d = some t → look ((d, x) :: st.T) t = some x := fun x t ht => by
      rw [look_cons, if_pos (Option.some.inj ht)]
    split at h
    · rename_i hb
      have hlt : d < st.n := Nat.le_of_ble_eq_true hb
      split at h
      · obtain ⟨t, ht, hv⟩ := split_sound h
        exact ⟨_, ht, hR.putT (s := .b t) hlt trivial (hv β σ), desc_T _ _, fun i hi => htm _ i hi, rfl, rfl, rfl, rfl, hT _, fun t' ht' => ⟨_, hd' _ _ ht', fun β σ => (hv β σ).symm⟩⟩
      · exact ⟨_, h, hR.putT hlt hs rfl, desc_T _ _, fun i hi => htm _ i hi, rfl, rfl, rfl, rfl, hT _, fun t' ht' => ⟨_, hd' _ _ ht', fun _ _ => rfl⟩⟩
    · exact h.elim

/-- What an operation that is carried out leaves, seen from the state that is ahead. -/
def OutJ (W0 : PW) (M : Nat → Prop) (st : SS) (β : Nat → Nat) (σ : Nat → Value) (a : Act) (o : Oper) (K : SS → PW → Prop) (v : Value) (w : World) : Prop :=
  ∃ β1 σ1 st1 W1 Wa1, Wa1.w = w ∧ Run W0 M st1 W1 β1 σ1 (a.put o.dst v) Wa1 ∧ K st1 W1 ∧ Desc st st1 ∧ (∀ k, k < st.nx → β1 k = β k ∧ σ1 k = σ k) ∧ (∀ i, ¬ i ∈ dstOf o → (a.put o.dst v).tmps.getD i undef = a.tmps.getD i undef) ∧
    (∀ t, ¬ o.dst = some t → look st1.T t = look st.T t)
theorem sxOp_any (hT : TabOK P tt) (hF : FieldsIn tt) {ops : Array Oper} {i : Nat} {o : Oper} (ho : ops[i]? = some o) (hsel : ∀ cs b, o.op ≠ .select cs b) {st : SS} {W : PW} {K : SS → PW → Prop} (h : sxOp P tt W0 M ops.toList i o st W K)
    {β : Nat → Nat} {σ : Nat → Value} {a a' : Act} {Wa : PW} (hR : Run W0 M st W β σ a' Wa) (hs : a.tmps.size = a'.tmps.size) (hag : ∀ t, t ∈ looksO ops o → a.tmps[t]? = a'.tmps[t]?) {Q : Exit → Act → World → Prop} :
    wpOp P ops Q i (fun a2 w2 => ∃ v, a2 = a.put o.dst v ∧ OutJ W0 M st β σ a' o K v w2) a Wa.w := by
  simp only [wpOp, ho]
  rw [wanted_same hag]
  have run : effOp P tt W0 M o st W (fun s st W => fin (guards ops.toList i) o s st fun st => K st W) → o.wp P a Wa.w (fun a2 w2 => ∃ v, a2 = a.put o.dst v ∧ OutJ W0 M st β σ a' o K v w2) Q := by
    intro h
    refine wp_shift (exec_same hsel hag) hs (oper_mono (eff_sound hT hF h β σ a' Wa (fun _ _ _ => False) hR) ?_)
    rintro a2 w2 ⟨s, β', σ', st', W', Wa', hw, rfl, hR', hs, hTe, hfin, hD, hag⟩
    obtain ⟨st2, hK, hR2, hD2, htm, hC, hn, hn', _, hT2, _⟩ := fin_sound2 hfin hR' hs
    exact ⟨_, rfl, β', σ', st2, W', Wa', hw, hR2, hK, hD.trans hD2, hag, htm, fun t ht => (hT2 t ht).trans (by rw [hTe])⟩
  unfold sxOp at h
  split at h
  · rename_i hg
    have hw : Region.wanted o (yielded ops a'.tmps) = true := by simp [Region.wanted, hg]
    rw [if_pos hw]
    exact .inl (run h)
  · rename_i j want hg
    split at h
    · rename_i og hj
      split at h
      · rename_i d hd
        split at h
        · rename_i b hb
          obtain ⟨hv, _⟩ := hR.rel.T _ _ hb
          have hlt : d < a'.tmps.size := by rw [hR.rel.size]; exact hR.rel.dom _ _ hb
          have hw := wanted_of hg hj hd hlt hv
          split at h
          · rename_i he
            rw [if_pos (hw.trans he)]
            exact .inl (run h)
          · rename_i he
            rw [if_neg (by rw [hw, he]; simp)]
            obtain ⟨st2, hK, hR2, hD2, htm, hC, hn, hn', _, hT2, _⟩ := fin_sound2 h hR (s := .v undef) trivial
            exact ⟨_, rfl, β, σ, st2, W, Wa, rfl, hR2, hK, hD2, agree_refl, htm, hT2⟩
        · rename_i l hb
          rw [if_neg (by rw [wanted_un hg hj hd (hR.rel.T _ _ hb).1]; simp)]
          obtain ⟨st2, hK, hR2, hD2, htm, hC, hn, hn', _, hT2, _⟩ := fin_sound2 h hR (s := .v undef) trivial
          exact ⟨_, rfl, β, σ, st2, W, Wa, rfl, hR2, hK, hD2, agree_refl, htm, hT2⟩
        · exact h.elim
      · exact h.elim
    · exact h.elim
theorem valOp_sound (hT : TabOK P tt) (hF : FieldsIn tt) {ops : Array Oper} {o : Oper} {st : SS} {W : PW} {K : SV → Prop} (h : valOp tt ops.toList o st W K) :
    ∃ s, K s ∧ ∀ β σ a Wa, Rel β σ st a Wa → Ext W Wa → Yld P ops o a Wa.w (s.val β σ) ∧ SVok st.nx β σ s := by
  unfold valOp at h
  split at h
  · rename_i hg
    obtain ⟨s, hK, hs⟩ := fl_sound hT hF (P := P) h
    exact ⟨s, hK, fun β σ a Wa hr hx => ⟨.inl ⟨by simp [Region.wanted, hg], (hs β σ a Wa hr hx).1⟩, (hs β σ a Wa hr hx).2⟩⟩
  · rename_i j want hg
    split at h
    · rename_i og hj
      split at h
      · rename_i d hd
        split at h
        · rename_i b hb
          have hw : ∀ {β σ a Wa}, Rel β σ st a Wa → Region.wanted o (yielded ops a.tmps) = (b == want) := fun hr => by
            obtain ⟨hv, _⟩ := hr.T _ _ hb
            exact wanted_of hg hj hd (by rw [hr.size]; exact hr.dom _ _ hb) hv
          split at h
          · rename_i he
            obtain ⟨s, hK, hs⟩ := fl_sound hT hF (P := P) h
            exact ⟨s, hK, fun β σ a Wa hr hx => ⟨.inl ⟨(hw hr).trans he, (hs β σ a Wa hr hx).1⟩, (hs β σ a Wa hr hx).2⟩⟩
          · rename_i he
            exact ⟨_, h, fun β σ a Wa hr hx => ⟨.inr ⟨(hw hr).trans (by simpa using he), rfl⟩, trivial⟩⟩
        · rename_i l hb
          exact ⟨_, h, fun β σ a Wa hr hx => ⟨.inr ⟨wanted_un hg hj hd (hr.T _ _ hb).1, rfl⟩, trivial⟩⟩
        · exact h.elim
      · exact h.elim
    · exact h.elim

theorem nilW_ext (W Wa : PW) : Ext (nilW W) Wa := ⟨Nat.zero_le _, fun b hb => absurd hb (Nat.not_lt_zero b)⟩
theorem seeW_ext {b : Bool} {W Wa : PW} (h : Ext W Wa) : Ext (seeW b W) Wa := by
  cases b with
  | true => exact h
  | false => exact nilW_ext W Wa
/-- What has been had already will be had again when it comes up. -/
structure Prom (P : Program) (ops : Array Oper) (st : SS) (W : PW) (β : Nat → Nat) (σ : Nat → Value) (p : Pend) (o : Oper) (s : SV) (sp : SS) (Wi : PW) : Prop where
  op : ops[p.i]? = some o
  val : isVal ops p.i o = true
  sem : ∀ β σ a Wa, Rel β σ sp a Wa → Ext Wi Wa → Yld P ops o a Wa.w (s.val β σ)
  T : ∀ t x, look sp.T t = some x → look st.T t = some x ∧ t ∈ looksO ops o ∧ SVok sp.nx β σ x
  C : ∀ k b, look sp.C k = some b → look st.C k = some b ∧ k ∈ p.ks
  n : sp.n = st.n
  nx : sp.nx ≤ st.nx
  ext : Ext Wi W
  nw : p.nw = false → ∀ W, Ext Wi W
  dst : ∀ d, o.dst = some d → ∃ s', look st.T d = some s' ∧ ∀ β σ, s'.val β σ = s.val β σ
theorem Prom.rel {ops : Array Oper} {st : SS} {W Wa : PW} {β : Nat → Nat} {σ : Nat → Value} {a : Act} {p : Pend} {o : Oper} {s : SV} {sp : SS} {Wi : PW} (h : Prom P ops st W β σ p o s sp Wi) (hR : Run W0 M st W β σ a Wa) : Rel β σ sp a Wa :=
  ⟨hR.rel.defers, hR.rel.size.trans h.n.symm, fun i x hi => ⟨(hR.rel.T i x (h.T i x hi).1).1, (h.T i x hi).2.2⟩, fun k b hk => hR.rel.C k b (h.C k b hk).1,
    fun k k' b b' g hne h1 h2 => hR.rel.inj k k' b b' g hne (h.C k b h1).1 (h.C k' b' h2).1, fun i x hi => h.n ▸ hR.rel.dom i x (h.T i x hi).1⟩
theorem Prom.yld {ops : Array Oper} {st : SS} {W Wa : PW} {β : Nat → Nat} {σ : Nat → Value} {a : Act} {p : Pend} {o : Oper} {s : SV} {sp : SS} {Wi : PW} (h : Prom P ops st W β σ p o s sp Wi) (hR : Run W0 M st W β σ a Wa) : Yld P ops o a Wa.w (s.val β σ) :=
  h.sem β σ a Wa (h.rel hR) (h.ext.trans hR.ext)
/-- The state goes on. -/
theorem Prom.step {ops : Array Oper} {st st1 : SS} {W W1 : PW} {β β1 : Nat → Nat} {σ σ1 : Nat → Value} {p : Pend} {o : Oper} {s : SV} {sp : SS} {Wi : PW} (h : Prom P ops st W β σ p o s sp Wi)
    {oj : Oper} (hD : Desc st st1) (hag : ∀ k, k < st.nx → β1 k = β k ∧ σ1 k = σ k) (hT : ∀ t, ¬ oj.dst = some t → look st1.T t = look st.T t) (hd : ∀ d, oj.dst = some d → ¬ d ∈ looksO ops o ∧ ¬ o.dst = some d)
    (hks : ∀ k, k ∈ p.ks → ¬ k ∈ st1.D.take (Nat.sub st1.D.length st.D.length)) (hnC : ∀ k b, look st.C k = some b → k < st.nx) (hx : p.nw = true → Ext W W1) : Prom P ops st1 W1 β1 σ1 p o s sp Wi where
  op := h.op
  val := h.val
  sem := h.sem
  T := fun t x ht => by
    obtain ⟨h1, h2, h3⟩ := h.T t x ht
    refine ⟨(hT t fun e => (hd t e).1 h2).trans h1, h2, ok_agree (fun k hk => hag k (Nat.lt_of_lt_of_le hk h.nx)) h3⟩
  C := fun k b hk => by
    obtain ⟨h1, h2⟩ := h.C k b hk
    obtain ⟨new, hn, hl⟩ := hD.D
    refine ⟨(hl k (hnC k b h1) ?_).trans h1, h2⟩
    have := hks k h2
    rw [hn] at this
    simpa using this
  n := h.n.trans hD.n.symm
  nx := Nat.le_trans h.nx hD.nx
  ext := by
    cases hp : p.nw with
    | true => exact h.ext.trans (hx hp)
    | false => exact h.nw hp W1
  nw := h.nw
  dst := fun d hd' => by
    obtain ⟨s', h1, h2⟩ := h.dst d hd'
    exact ⟨s', (hT d fun e => (hd d e).2 hd').trans h1, h2⟩
/-- How far the code lags behind. -/
structure Lag (P : Program) (ops : Array Oper) (listed : Array Bool) (L : List Nat) (pd : List Pend) (st : SS) (W : PW) (β : Nat → Nat) (σ : Nat → Value) (a a' : Act) : Prop where
  sz : listed.size = ops.size
  sub : ∀ i o, ops[i]? = some o → listed.getD i false = true → i ∈ L
  pend : ∀ i o, ops[i]? = some o → i ∈ L → listed.getD i false = false → ∃ p, p ∈ pd ∧ p.i = i
  prom : ∀ p, p ∈ pd → ∃ o s sp Wi, Prom P ops st W β σ p o s sp Wi
  closed : ∀ i o, ops[i]? = some o → i ∈ L → ∀ j, j ∈ predsOf o → j ∈ L
  inL : ∀ p, p ∈ pd → p.i ∈ L
  size : a.tmps.size = a'.tmps.size
  defers : a.defers = a'.defers
  agr : ∀ t, (∀ i o, ops[i]? = some o → i ∈ L → listed.getD i false = false → ¬ o.dst = some t) → a.tmps[t]? = a'.tmps[t]?
theorem val_apart {ops : Array Oper} {i j : Nat} {o oj : Oper} (h : isVal ops i o = true) (hj : ops[j]? = some oj) (hne : i ≠ j) {d : Nat} (hd : o.dst = some d) :
    ¬ oj.dst = some d ∧ (d ∈ looksO ops oj → i ∈ predsOf oj) := by
  unfold isVal at h
  simp only [hd, Bool.and_eq_true] at h
  have := allI_spec h.2.2 (i := j) (o := oj) (by simpa using hj)
  simp only [Nat.zero_add, Bool.or_eq_true, Bool.and_eq_true, Bool.not_eq_true'] at this
  rcases this with h1 | ⟨h1, h2⟩
  · exact absurd (Nat.eq_of_beq_eq_true h1) hne
  · refine ⟨fun e => ?_, fun hm => ?_⟩
    · simp [dstIs, e] at h1
    · rcases h2 with h2 | h2
      · rw [memD_iff.2 hm] at h2; cases h2
      · exact memD_iff.1 h2
theorem val_self {ops : Array Oper} {i : Nat} {o : Oper} (h : isVal ops i o = true) {d : Nat} (hd : o.dst = some d) : ¬ d ∈ looksO ops o := by
  unfold isVal at h
  simp only [hd, Bool.and_eq_true] at h
  intro hm
  have := h.2.1
  rw [memD_iff.2 hm] at this
  cases this
structure DrawOK (ops : Array Oper) : Prop where
  sel : ∀ (j : Nat) (o : Oper) cs b, ops[j]? = some o → o.op ≠ .select cs b
  back : ∀ i o, ops[i]? = some o → ∀ j, j ∈ predsOf o → j < i
  war : ∀ i o j oj, ops[i]? = some o → ops[j]? = some oj → i ≠ j → isVal ops i o = true → ∀ d, oj.dst = some d → d ∈ looksO ops o → j ∈ predsOf o ∨ i ∈ predsOf oj
theorem drawOK_spec {ops : Array Oper} (h : drawOK ops = true) : DrawOK ops := by
  unfold drawOK at h
  rw [Bool.and_eq_true] at h
  have key : ∀ {i o}, ops[i]? = some o → _ := fun {i o} ho => allI_spec h.2 (i := i) (o := o) (by simpa using ho)
  refine ⟨fun j o cs b ho he => by have := List.all_eq_true.1 h.1 o (List.mem_of_getElem? (i := j) (by simpa using ho)); simp [noSel, he] at this, fun i o ho j hj => ?_, fun i o j oj ho hoj hne hv d hd hm => ?_⟩
  · have := key ho
    simp only [Bool.and_eq_true, Nat.zero_add] at this
    exact Nat.le_of_ble_eq_true (List.all_eq_true.1 this.1 j hj)
  · have := key ho
    simp only [Bool.and_eq_true, Nat.zero_add, Bool.or_eq_true, Bool.not_eq_true', hv] at this
    rcases this.2 with h1 | h1
    · cases h1
    have := allI_spec h1 (i := j) (o := oj) (by simpa using hoj)
    simp only [Nat.zero_add, Bool.or_eq_true, hd, Bool.not_eq_true'] at this
    rcases this with h2 | (h2 | h2) | h2
    · exact absurd (Nat.eq_of_beq_eq_true h2) hne
    · rw [memD_iff.2 hm] at h2; cases h2
    · exact .inl (memD_iff.1 h2)
    · exact .inr (memD_iff.1 h2)

/-- Values are had as soon as they may be. -/
theorem Lag.value {ops : Array Oper} (hok : DrawOK ops) {listed : Array Bool} {L : List Nat} {pd : List Pend} {st : SS} {W : PW} {β : Nat → Nat} {σ : Nat → Value} {a a' : Act} (h : Lag P ops listed L pd st W β σ a a')
    {i : Nat} {o : Oper} (ho : ops[i]? = some o) (hL : ¬ i ∈ L) (hpr : ∀ j, j ∈ predsOf o → j ∈ L) (hv : isVal ops i o = true) {Wa : PW} (hR : Run W0 M st W β σ a' Wa)
    {s : SV} {b : Bool} (hs : ∀ β σ a Wa, Rel β σ (prune (looksO ops o) st) a Wa → Ext (seeW b W) Wa → Yld P ops o a Wa.w (s.val β σ))
    {st1 : SS} (hD : Desc st st1) (hC : st1.C = st.C) (hnx : st1.nx = st.nx) (hn : st1.n = st.n) (hDD : st1.D = st.D) (hT : ∀ t, ¬ o.dst = some t → look st1.T t = look st.T t) (hd : ∀ d, o.dst = some d → ∃ s', look st1.T d = some s' ∧ ∀ β σ, s'.val β σ = s.val β σ) :
    Lag P ops listed (i :: L) (⟨i, keysOf (looksO ops o) st, b⟩ :: pd) st1 W β σ a (a'.put o.dst (s.val β σ)) := by
  have hun : listed.getD i false = false := by
    cases hb : listed.getD i false with
    | false => rfl
    | true => exact absurd (h.sub i o ho hb) hL
  have hne : ∀ p, p ∈ pd → i ≠ p.i := fun p hp e => hL (e ▸ h.inL p hp)
  refine ⟨h.sz, fun j oj hj hl => List.mem_cons_of_mem _ (h.sub j oj hj hl), fun j oj hj hl hu => ?_, fun p hp => ?_, fun j oj hj hl k hk => ?_, fun p hp => ?_, h.size.trans ?_, h.defers.trans ?_, fun t ht => ?_⟩
  · rcases List.mem_cons.1 hl with rfl | hl
    · exact ⟨_, List.mem_cons_self .., rfl⟩
    · obtain ⟨p, hp, he⟩ := h.pend j oj hj hl hu
      exact ⟨p, List.mem_cons_of_mem _ hp, he⟩
  · rcases List.mem_cons.1 hp with rfl | hp
    · refine ⟨o, s, prune (looksO ops o) st, seeW b W, ho, hv, hs, fun t x ht => ?_, fun k bl hk => ?_, hn.symm, Nat.le_of_eq hnx.symm, seeW_ext (Ext.refl W), fun hb W' => by (simp only at hb; subst hb; exact nilW_ext W W'), hd⟩
      · obtain ⟨h1, h2⟩ := lookD_filter ht
        have h2 := memD_iff.1 h2
        exact ⟨(hT t fun e => val_self hv e h2).trans h1, h2, (hR.rel.T t x h1).2⟩
      · obtain ⟨h1, h2⟩ := lookD_filter hk
        exact ⟨hC ▸ h1, memD_iff.1 h2⟩
    · obtain ⟨o', s', sp, Wi, hP⟩ := h.prom p hp
      refine ⟨o', s', sp, Wi, hP.step (oj := o) hD (fun _ _ => ⟨rfl, rfl⟩) hT (fun d hd' => ?_) (fun k _ hk => ?_) (fun k b hk => hR.nC k b hk) (fun _ => Ext.refl W)⟩
      · have := val_apart hv hP.op (hne p hp) hd'
        exact ⟨fun hm => hL (h.closed p.i o' hP.op (h.inL p hp) i (this.2 hm)), this.1⟩
      · rw [hDD, show Nat.sub st.D.length st.D.length = 0 from Nat.sub_self _] at hk; cases hk
  · rcases List.mem_cons.1 hl with rfl | hl
    · rw [ho] at hj; cases hj
      exact List.mem_cons_of_mem _ (hpr k hk)
    · exact List.mem_cons_of_mem _ (h.closed j oj hj hl k hk)
  · rcases List.mem_cons.1 hp with rfl | hp
    · exact List.mem_cons_self ..
    · exact List.mem_cons_of_mem _ (h.inL p hp)
  · cases o.dst <;> simp [Act.put]
  · cases o.dst <;> rfl
  · rw [h.agr t fun j oj hj hl hu => ht j oj hj (List.mem_cons_of_mem _ hl) hu]
    have := ht i o ho (List.mem_cons_self ..) hun
    cases hd' : o.dst with
    | none => rfl
    | some d =>
      simp only [Act.put]
      rw [Array.getElem?_setIfInBounds_ne]
      intro e
      exact this (by rw [hd', e])

/-- What is ready is had, until nothing more is. -/
theorem advance (hT : TabOK P tt) (hF : FieldsIn tt) {ops : Array Oper} (hok : DrawOK ops) {listed : Array Bool} {K : SS → PW → Prop} : ∀ (n : Nat) {L : List Nat} {pd : List Pend} {st : SS} {W : PW}
    (_ : sxDr P tt W0 M ops n L pd st W K) {β : Nat → Nat} {σ : Nat → Value} {a a' : Act} {Wa : PW} (_ : Lag P ops listed L pd st W β σ a a') (_ : Run W0 M st W β σ a' Wa),
    ∃ n' L' pd' st' a2, sxDr P tt W0 M ops (n' + 1) L' pd' st' W K ∧ Lag P ops listed L' pd' st' W β σ a a2 ∧ Run W0 M st' W β σ a2 Wa ∧ Desc st st' ∧ (∀ i, ¬ i ∈ ops.toList.flatMap dstOf → a2.tmps.getD i undef = a'.tmps.getD i undef) ∧
      findI (fun i o => readyI ops L' i o && (isVal ops i o && dynOK st' o)) 0 ops.toList = none
  | 0, L, pd, st, W, h, β, σ, a, a', Wa, hL, hR => h.elim
  | n + 1, L, pd, st, W, h, β, σ, a, a', Wa, hL, hR => by
    cases hf : findI (fun i o => readyI ops L i o && (isVal ops i o && dynOK st o)) 0 ops.toList with
    | none => exact ⟨n, L, pd, st, a', h, hL, hR, Desc.refl _, fun _ _ => rfl, hf⟩
    | some x =>
      obtain ⟨i, o⟩ := x
      rw [sxDr, hf] at h
      simp only at h
      obtain ⟨k, hk, hko, hp⟩ := findI_some hf
      obtain rfl : i = k := by omega
      have ho : ops[i]? = some o := by simpa using hko
      simp only [Bool.and_eq_true, readyI, Bool.not_eq_true'] at hp
      obtain ⟨⟨hnL, hpr⟩, hv, _⟩ := hp
      have hnL : ¬ i ∈ L := fun hm => by rw [memD_iff.2 hm] at hnL; cases hnL
      have hpr : ∀ j, j ∈ predsOf o → j ∈ L := fun j hj => memD_iff.1 (List.all_eq_true.1 hpr j hj)
      obtain ⟨s, hK, hs⟩ := valOp_sound hT hF (P := P) h
      have hRp : Rel β σ (prune (looksO ops o) st) a' Wa := by
        refine ⟨hR.rel.defers, hR.rel.size, fun i x hi => hR.rel.T i x (lookD_filter hi).1, fun k b hk => hR.rel.C k b (lookD_filter hk).1, fun k k' b b' g hne h1 h2 => hR.rel.inj k k' b b' g hne (lookD_filter h1).1 (lookD_filter h2).1, fun i x hi => hR.rel.dom i x (lookD_filter hi).1⟩
      have hso : SVok st.nx β σ s := (hs β σ a' Wa hRp (seeW_ext hR.ext)).2
      obtain ⟨st1, hK1, hR1, hD1, htm, hC, hnx, hn, hDD, hT1, hd1⟩ := fin_sound2 hK hR hso
      have hL1 := hL.value hok ho hnL hpr hv hR (fun β σ a Wa h1 h2 => (hs β σ a Wa h1 h2).1) hD1 hC hnx hn hDD hT1 hd1
      obtain ⟨n', L', pd', st', a2, h1, h2, h3, h4, h5, h6⟩ := advance hT hF hok n hK1 hL1 hR1
      refine ⟨n', L', pd', st', a2, h1, h2, h3, hD1.trans h4, fun j hj => (h5 j hj).trans (htm j fun hm => hj ?_), h6⟩
      exact List.mem_flatMap.2 ⟨o, List.mem_of_getElem? hko, hm⟩
theorem getD_tf {l : Array Bool} {i : Nat} (h : i < l.size) : l.getD i true = l.getD i false := by simp [Array.getD, h]
theorem count_lt {p p' : Nat → Bool} {i : Nat} (hp : ∀ x, p' x = true → p x = true) (h1 : p i = true) (h2 : p' i = false) : ∀ {l : List Nat} (_ : i ∈ l), (l.filter p').length < (l.filter p).length
  | x :: r, hi => by
    have hle : ∀ (l : List Nat), (l.filter p').length ≤ (l.filter p).length := fun l => by
      induction l with
      | nil => exact Nat.le_refl _
      | cons y l ih =>
        simp only [List.filter_cons]
        by_cases hy : p' y = true
        · simp [hy, hp y hy]; exact ih
        · by_cases hy2 : p y = true
          · simp [hy, hy2]; omega
          · simp [hy, hy2]; exact ih
    simp only [List.filter_cons]
    rcases List.mem_cons.1 hi with rfl | hr
    · simp [h1, h2]; have := hle r; omega
    · have := count_lt hp h1 h2 hr
      by_cases hy : p' x = true
      · simp [hy, hp x hy]; exact this
      · by_cases hy2 : p x = true
        · simp [hy, hy2]; omega
        · simp [hy, hy2]; exact this
def unl (ops : Array Oper) (listed : Array Bool) : Nat := ((List.range ops.size).filter fun i => !(listed.getD i true)).length
theorem all_listed {ops : Array Oper} (hok : DrawOK ops) {listed : Array Bool} (hs : listed.size = ops.size) (h : Region.ready .any ops listed = []) : ∀ i, i < ops.size → listed.getD i false = true := by
  intro i
  induction i using Nat.strongRecOn with
  | ind i ih =>
    intro hi
    cases hb : listed.getD i false with
    | true => rfl
    | false =>
      have ho : ops[i]? = some ops[i] := by simp [hi]
      have : i ∈ Region.ready .any ops listed := mem_ready.2 ⟨(getD_tf (hs ▸ hi)).trans hb, ops[i], ho, fun e he hbd => ih e.on (hok.back i _ ho _ (preds_mem.2 ⟨e, he, hbd, rfl⟩)) (Nat.lt_trans (hok.back i _ ho _ (preds_mem.2 ⟨e, he, hbd, rfl⟩)) hi)⟩
      rw [h] at this
      cases this
theorem act_eq {a a' : Act} (h : ∀ t : Nat, a.tmps[t]? = a'.tmps[t]?) (hd : a.defers = a'.defers) : a = a' := by
  cases a; cases a'
  simp only [Act.mk.injEq]
  exact ⟨Array.ext_getElem? h, hd⟩

theorem getD_setB {l : Array Bool} {i j : Nat} (hi : i < l.size) : (l.setIfInBounds i true).getD j false = (if i = j then true else l.getD j false) := by
  by_cases h : i = j
  · subst h; simp [Array.getD, hi]
  · rw [if_neg h, getD_set_ne false h]
theorem Lag.looks {ops : Array Oper} {listed : Array Bool} {L : List Nat} {pd : List Pend} {st : SS} {W : PW} {β : Nat → Nat} {σ : Nat → Value} {a a' : Act} (h : Lag P ops listed L pd st W β σ a a')
    {i : Nat} {o : Oper} (ho : ops[i]? = some o) (hun : listed.getD i false = false) (hpr : ∀ j, j ∈ predsOf o → listed.getD j false = true) : ∀ t, t ∈ looksO ops o → a.tmps[t]? = a'.tmps[t]? := by
  intro t ht
  refine h.agr t fun j oj hj hl hu hd => ?_
  obtain ⟨p, hp, rfl⟩ := h.pend j oj hj hl hu
  obtain ⟨o', s, sp, Wi, hP⟩ := h.prom p hp
  rw [hP.op] at hj
  cases hj
  by_cases hne : p.i = i
  · subst hne
    have := hP.op
    rw [ho] at this
    cases this
    exact val_self hP.val hd ht
  · have := hpr _ ((val_apart hP.val ho hne hd).2 ht)
    rw [hu] at this
    cases this
theorem filtI_nil {p : Nat → Oper → Bool} : ∀ {l : List Oper} {n : Nat} (_ : ∀ k o, l[k]? = some o → p (n + k) o = false), filtI p n l = [] ∧ findI p n l = none
  | [], n, h => ⟨rfl, rfl⟩
  | x :: r, n, h => by
    have h0 := h 0 x rfl
    have := filtI_nil (p := p) (l := r) (n := n.succ) fun k o hk => by rw [show n.succ + k = n + (k + 1) by omega]; exact h (k + 1) o (by simpa using hk)
    simp only [Nat.add_zero] at h0
    simp only [filtI, findI, h0, this, and_self]
theorem Lag.done {ops : Array Oper} {listed : Array Bool} {L : List Nat} {pd : List Pend} {st : SS} {W : PW} {β : Nat → Nat} {σ : Nat → Value} {a a' : Act} (h : Lag P ops listed L pd st W β σ a a')
    (hall : ∀ i, i < ops.size → listed.getD i false = true) {n : Nat} {K : SS → PW → Prop} (hs : sxDr P tt W0 M ops n L pd st W K) : K st W ∧ a = a' := by
  have hlt : ∀ {i o}, ops[i]? = some o → i < ops.size := fun ho => (Array.getElem?_eq_some_iff.1 ho).1
  refine ⟨?_, act_eq (fun t => h.agr t fun i o ho _ hu => by rw [hall i (hlt ho)] at hu; cases hu) h.defers⟩
  have hin : ∀ i o, ops.toList[i]? = some o → mem L (0 + i) = true := fun i o ho => by
    have ho : ops[i]? = some o := by simpa using ho
    rw [Nat.zero_add]
    exact memD_iff.2 (h.sub i o ho (hall i (hlt ho)))
  have hrd : ∀ i o, ops.toList[i]? = some o → readyI ops L (0 + i) o = false := fun i o ho => by
    unfold readyI
    rw [hin i o ho]
    rfl
  cases n with
  | zero => exact hs.elim
  | succ n =>
    rw [sxDr, (filtI_nil (p := fun i o => readyI ops L i o && (isVal ops i o && dynOK st o)) fun k o hk => by simp only [hrd k o hk, Bool.false_and]).2,
      (filtI_nil (p := readyI ops L) hrd).1] at hs
    exact hs
theorem Lag.sync {ops : Array Oper} (hok : DrawOK ops) {listed : Array Bool} {L : List Nat} {pd : List Pend} {st : SS} {W : PW} {β : Nat → Nat} {σ : Nat → Value} {a a' : Act} (h : Lag P ops listed L pd st W β σ a a')
    {i : Nat} {o : Oper} (ho : ops[i]? = some o) (hnL : ¬ i ∈ L) (hpr : ∀ j, j ∈ predsOf o → listed.getD j false = true) {st1 : SS} {W1 : PW} {β1 : Nat → Nat} {σ1 : Nat → Value} {v : Value} (hD : Desc st st1)
    (hag : ∀ k, k < st.nx → β1 k = β k ∧ σ1 k = σ k) (hT : ∀ t, ¬ o.dst = some t → look st1.T t = look st.T t) (hnC : ∀ k b, look st.C k = some b → k < st.nx)
    (hcl : ((pd.filter fun q => !(mem (predsOf o) q.i)).all fun q => q.ks.all fun k => !(mem (st1.D.take (Nat.sub st1.D.length st.D.length)) k)) = true)
    (hx : ((pd.filter fun q => !(mem (predsOf o) q.i)).any fun q => q.nw) = true → Ext W W1) :
    Lag P ops (listed.setIfInBounds i true) (i :: L) (pd.filter fun q => !(mem (predsOf o) q.i)) st1 W1 β1 σ1 (a.put o.dst v) (a'.put o.dst v) := by
  have hlt : ∀ {i o}, ops[i]? = some o → i < listed.size := fun ho => h.sz ▸ (Array.getElem?_eq_some_iff.1 ho).1
  have hfil : ∀ {p}, p ∈ pd.filter (fun q => !(mem (predsOf o) q.i)) ↔ p ∈ pd ∧ ¬ p.i ∈ predsOf o := fun {p} => by
    rw [List.mem_filter]
    simp only [Bool.not_eq_true', ← memD_iff, Bool.not_eq_true]
  have hnew : ∀ {j}, (listed.setIfInBounds i true).getD j false = (if i = j then true else listed.getD j false) := getD_setB (hlt ho)
  refine ⟨by simp [h.sz], fun j oj hj hl => ?_, fun j oj hj hl hu => ?_, fun p hp => ?_, fun j oj hj hl k hk => ?_, fun p hp => List.mem_cons_of_mem _ (h.inL p (hfil.1 hp).1), ?_, ?_, fun t ht => ?_⟩
  · rw [hnew] at hl
    split at hl
    · rename_i he; exact he ▸ List.mem_cons_self ..
    · exact List.mem_cons_of_mem _ (h.sub j oj hj hl)
  · rw [hnew] at hu
    split at hu
    · cases hu
    · rename_i hne
      rcases List.mem_cons.1 hl with rfl | hl
      · exact absurd rfl hne
      · obtain ⟨p, hp, rfl⟩ := h.pend j oj hj hl hu
        exact ⟨p, hfil.2 ⟨hp, fun hm => by rw [hpr _ hm] at hu; cases hu⟩, rfl⟩
  · obtain ⟨hp1, hp2⟩ := hfil.1 hp
    obtain ⟨o', s, sp, Wi, hP⟩ := h.prom p hp1
    have hne : p.i ≠ i := fun e => hnL (e ▸ h.inL p hp1)
    refine ⟨o', s, sp, Wi, hP.step (oj := o) hD hag hT (fun d hd => ⟨fun hm => ?_, fun hd' => (val_apart hP.val ho hne hd').1 hd⟩) (fun k hk hm => ?_) hnC fun hn => hx (List.any_eq_true.2 ⟨p, hp, hn⟩)⟩
    · rcases hok.war p.i o' i o hP.op ho hne hP.val d hd hm with h1 | h1
      · exact hnL (h.closed p.i o' hP.op (h.inL p hp1) i h1)
      · exact hp2 h1
    · have := List.all_eq_true.1 (List.all_eq_true.1 hcl p hp) k hk
      rw [memD_iff.2 hm] at this
      cases this
  · rcases List.mem_cons.1 hl with rfl | hl
    · rw [ho] at hj; cases hj
      have hki := hok.back _ _ ho k hk
      have hk' : k < ops.size := Nat.lt_trans hki (Array.getElem?_eq_some_iff.1 ho).1
      exact List.mem_cons_of_mem _ (h.sub k ops[k] (by simp [hk']) (hpr k hk))
    · exact List.mem_cons_of_mem _ (h.closed j oj hj hl k hk)
  · have := h.size
    cases o.dst <;> simp [Act.put, this]
  · have := h.defers
    cases o.dst <;> simp [Act.put, this]
  · have hold : ¬ o.dst = some t → a.tmps[t]? = a'.tmps[t]? := fun hd => h.agr t fun j oj hj hl hu => by
      by_cases he : i = j
      · subst he; exact absurd hl hnL
      · exact ht j oj hj (List.mem_cons_of_mem _ hl) (by rw [hnew, if_neg he]; exact hu)
    cases hd : o.dst with
    | none => rw [hd] at hold; exact hold (by simp)
    | some d =>
      simp only [Act.put, Array.getElem?_setIfInBounds, h.size]
      split
      · rfl
      · rename_i hne
        exact hold (by rw [hd]; simpa using hne)
theorem Lag.come {ops : Array Oper} {listed : Array Bool} {L : List Nat} {pd : List Pend} {st : SS} {W Wa : PW} {β : Nat → Nat} {σ : Nat → Value} {a a' : Act} (h : Lag P ops listed L pd st W β σ a a') (hR : Run W0 M st W β σ a' Wa)
    {i : Nat} {o : Oper} (ho : ops[i]? = some o) (hi : i ∈ L) {s : SV} (hdst : ∀ d, o.dst = some d → ∃ s', look st.T d = some s' ∧ ∀ β σ, s'.val β σ = s.val β σ) :
    Lag P ops (listed.setIfInBounds i true) L pd st W β σ (a.put o.dst (s.val β σ)) a' := by
  have hlt : ∀ {i o}, ops[i]? = some o → i < listed.size := fun ho => h.sz ▸ (Array.getElem?_eq_some_iff.1 ho).1
  have hnew : ∀ {j}, (listed.setIfInBounds i true).getD j false = (if i = j then true else listed.getD j false) := getD_setB (hlt ho)
  refine ⟨by simp [h.sz], fun j oj hj hl => ?_, fun j oj hj hl hu => ?_, h.prom, h.closed, h.inL, ?_, ?_, fun t ht => ?_⟩
  · rw [hnew] at hl
    split at hl
    · rename_i he; exact he ▸ hi
    · exact h.sub j oj hj hl
  · rw [hnew] at hu
    split at hu
    · cases hu
    · exact h.pend j oj hj hl hu
  · have := h.size
    cases o.dst <;> simp [Act.put, this]
  · have := h.defers
    cases o.dst <;> simp [Act.put, this]
  · have hold : ¬ o.dst = some t → a.tmps[t]? = a'.tmps[t]? := fun hd => h.agr t fun j oj hj hl hu => by
      by_cases he : i = j
      · subst he; rw [ho] at hj; cases hj; exact hd
      · exact ht j oj hj hl (by rw [hnew, if_neg he]; exact hu)
    cases hd : o.dst with
    | none => rw [hd] at hold; exact hold (by simp)
    | some d =>
      simp only [Act.put, Array.getElem?_setIfInBounds]
      split
      · rename_i he
        subst he
        obtain ⟨s', h1, h2⟩ := hdst d hd
        obtain ⟨h3, _⟩ := hR.rel.T d s' h1
        have hsz : d < a'.tmps.size := by rw [hR.rel.size]; exact hR.rel.dom d s' h1
        rw [if_pos (by rw [h.size]; exact hsz), ← h2, ← h3]
        simp [Array.getD, hsz]
      · rename_i hne
        exact hold (by rw [hd]; simpa using hne)
theorem unl_lt {ops : Array Oper} {listed : Array Bool} {i : Nat} {o : Oper} (hs : listed.size = ops.size) (ho : ops[i]? = some o) (h : listed.getD i true = false) : unl ops (listed.setIfInBounds i true) < unl ops listed := by
  have hlt : i < ops.size := (Array.getElem?_eq_some_iff.1 ho).1
  refine count_lt (i := i) (fun x hx => ?_) (by rw [h]; rfl) (by rw [getD_tf (by simp [hs, hlt]), getD_setB (hs ▸ hlt), if_pos rfl]; rfl) (List.mem_range.2 hlt)
  by_cases he : i = x
  · subst he; rw [h]; rfl
  · rw [getD_set_ne true he] at hx; exact hx
theorem draw_steps (hT : TabOK P tt) (hF : FieldsIn tt) {ops : Array Oper} (hok : DrawOK ops) {Q : Exit → Act → World → Prop} {K : SS → PW → Prop} : ∀ (fuel : Nat) (listed : Array Bool) {n : Nat} {L : List Nat} {pd : List Pend} {st : SS} {W : PW}
    (_ : sxDr P tt W0 M ops n L pd st W K) {β : Nat → Nat} {σ : Nat → Value} {a a' : Act} {Wa : PW} (_ : Lag P ops listed L pd st W β σ a a') (_ : Run W0 M st W β σ a' Wa) (_ : unl ops listed ≤ fuel)
    (_ : ∀ a2 w2, Out W0 M st β σ a' (ops.toList.flatMap dstOf) K a2 w2 → Q .normal a2 w2), wpAny P .any ops Q fuel listed a Wa.w := by
  intro fuel
  induction fuel with
  | zero =>
    intro listed n L pd st W h β σ a a' Wa hL hR hu hQ
    have hall : ∀ i, i < ops.size → listed.getD i false = true := by
      intro i hi
      cases hb : listed.getD i false with
      | true => rfl
      | false =>
        have : i ∈ (List.range ops.size).filter fun i => !(listed.getD i true) := by
          rw [List.mem_filter]
          exact ⟨List.mem_range.2 hi, by rw [getD_tf (hL.sz ▸ hi), hb]; rfl⟩
        have h0 : unl ops listed = 0 := Nat.le_zero.1 hu
        rw [unl, List.length_eq_zero_iff] at h0
        rw [h0] at this
        cases this
    have hr : Region.ready .any ops listed = [] := by
      cases hr : Region.ready .any ops listed with
      | nil => rfl
      | cons x r =>
        have hx : x ∈ Region.ready .any ops listed := hr ▸ List.mem_cons_self ..
        obtain ⟨h1, o, ho, _⟩ := mem_ready.1 hx
        have hlt : x < ops.size := (Array.getElem?_eq_some_iff.1 ho).1
        rw [getD_tf (hL.sz ▸ hlt), hall x hlt] at h1
        cases h1
    obtain ⟨hK, rfl⟩ := hL.done hall h
    exact ⟨hr, hQ _ _ ⟨β, σ, st, W, Wa, rfl, hR, hK, Desc.refl _, agree_refl, fun _ _ => rfl⟩⟩
  | succ fuel ih =>
    intro listed n L pd st W h β σ a a' Wa hL hR hu hQ
    refine ⟨fun hr => ?_, fun i hi => ?_⟩
    · obtain ⟨hK, rfl⟩ := hL.done (all_listed hok hL.sz hr) h
      exact hQ _ _ ⟨β, σ, st, W, Wa, rfl, hR, hK, Desc.refl _, agree_refl, fun _ _ => rfl⟩
    · obtain ⟨n', L', pd', st', a2, h', hL', hR', hD', hfr, hnone⟩ := advance hT hF hok n h hL hR
      have hQ' : ∀ a3 w3, Out W0 M st' β σ a2 (ops.toList.flatMap dstOf) K a3 w3 → Q .normal a3 w3 := fun a3 w3 hO => hQ _ _ (Out.of hD' agree_refl hfr (fun _ h => h) (fun _ h => h) (fun _ _ h => h) hO)
      obtain ⟨hun, o, ho, hall⟩ := mem_ready.1 hi
      have hlt : i < ops.size := (Array.getElem?_eq_some_iff.1 ho).1
      have hun' : listed.getD i false = false := (getD_tf (hL.sz ▸ hlt)).symm.trans hun
      have hpr : ∀ j, j ∈ predsOf o → listed.getD j false = true := fun j hj => by
        obtain ⟨e, he, hb, rfl⟩ := preds_mem.1 hj
        exact hall e he hb
      have hlk := hL'.looks ho hun' hpr
      have hcnt : unl ops (listed.setIfInBounds i true) ≤ fuel := Nat.le_of_lt_succ (Nat.lt_of_lt_of_le (unl_lt hL.sz ho hun) hu)
      by_cases hm : i ∈ L'
      · obtain ⟨p, hp, rfl⟩ := hL'.pend i o ho hm hun'
        obtain ⟨o', s, sp, Wi, hP⟩ := hL'.prom p hp
        have := hP.op
        rw [ho] at this
        cases this
        have hy := hP.yld hR'
        have hn := ih _ h' (hL'.come hR' ho hm hP.dst) hR' hcnt hQ'
        unfold wpOp
        simp only [ho]
        unfold Yld at hy
        rw [← wanted_same hlk, ← exec_same (hok.sel _ _ · · ho) hlk] at hy
        rcases hy with ⟨h1, h2⟩ | ⟨h1, h2⟩
        · rw [if_pos h1]
          exact .inl (wp_value h2 hn)
        · rw [if_neg (by rw [h1]; simp), ← h2]
          exact hn
      · rw [sxDr, hnone] at h'
        simp only at h'
        have hrd : readyI ops L' i o = true := by
          simp only [readyI, Bool.and_eq_true, Bool.not_eq_true', List.all_eq_true]
          refine ⟨by cases hb : mem L' i with | false => rfl | true => exact absurd (memD_iff.1 hb) hm, fun j hj => memD_iff.2 ?_⟩
          have hj' : j < ops.size := Nat.lt_trans (hok.back _ _ ho j hj) hlt
          exact hL'.sub j ops[j] (by simp [hj']) (hpr j hj)
        have hin : (i, o) ∈ filtI (readyI ops L') 0 ops.toList := by
          have := filtI_mem (p := readyI ops L') (n := 0) (k := i) (o := o) (l := ops.toList) (by simpa using ho) (by rw [Nat.zero_add]; exact hrd)
          rwa [Nat.zero_add] at this
        split at h'
        · rename_i he; rw [he] at hin; cases hin
        have hop := allR_spec h' hin
        refine wpOp_mono ?_ (sxOp_any hT hF ho (hok.sel _ _ · · ho) hop hR' hL'.size hlk)
        rintro a3 w3 ⟨v, rfl, β1, σ1, st1, W1, Wa1, rfl, hR1, hK1, hD1, hag1, htm1, hT1⟩
        simp only at hK1
        split at hK1
        · rename_i hcl
          have hboth : (((pd'.filter fun q => !(mem (predsOf o) q.i)).any fun q => q.nw) = true → Ext W W1) ∧ sxDr P tt W0 M ops n' (i :: L') (pd'.filter fun q => !(mem (predsOf o) q.i)) st1 W1 K := by
            unfold extOb at hK1
            split at hK1
            · exact ⟨fun _ => hK1.1, hK1.2⟩
            · rename_i hb; exact ⟨fun h => (by rw [hb] at h; cases h), hK1⟩
          refine ih _ hboth.2 (hL'.sync hok ho hm hpr hD1 hag1 hT1 hR'.nC hcl hboth.1) hR1 hcnt fun a4 w4 hO => hQ' _ _ ?_
          refine Out.of hD1 hag1 htm1 (fun j hj => List.mem_flatMap.2 ⟨o, List.mem_of_getElem? (by simpa using ho), hj⟩) (fun _ h => h) (fun _ _ h => h) hO
        · exact hK1.elim
theorem draw_region (hM : P.follows .mixedOrders = true) (hT : TabOK P tt) (hF : FieldsIn tt) {id : Nat} {ops : Array Oper} (hd : drawOK ops = true) {st : SS} {W : PW} {K : SS → PW → Prop} (h : sxDr P tt W0 M ops (Nat.succ ops.size) [] [] st W K)
    {β : Nat → Nat} {σ : Nat → Value} {a : Act} {Wa : PW} (hR : Run W0 M st W β σ a Wa) {Q : Exit → Act → World → Prop} (hQ : ∀ a' w', Out W0 M st β σ a (ops.toList.flatMap dstOf) K a' w' → Q .normal a' w') :
    (Code.region id ops true).wp P Q a Wa.w := by
  refine wp_region_any hM ?_
  have hR' : Run W0 M st W β σ a ⟨{ Wa.w with drawn := Wa.w.drawn + 1 }, Wa.S⟩ :=
    ⟨⟨hR.rel.defers, hR.rel.size, hR.rel.T, fun k bl hk => by have := hR.rel.C k bl hk; cases bl <;> exact this, hR.rel.inj, hR.rel.dom⟩, ⟨hR.ext.size, hR.ext.keep⟩, ⟨hR.keep.os, hR.keep.tape, hR.keep.output, hR.keep.size, hR.keep.block, Nat.le_trans hR.keep.drawn (Nat.le_succ _)⟩, hR.priv, hR.lt, hR.s0, hR.b0, hR.nC, hR.fresh⟩
  have hL : Lag P ops (Array.replicate ops.size false) [] [] st W β σ a a := by
    refine ⟨by simp, fun i o ho hl => ?_, fun i o ho hl => (by cases hl), fun p hp => (by cases hp), fun i o ho hl => (by cases hl), fun p hp => (by cases hp), rfl, rfl, fun _ _ => rfl⟩
    simp [Array.getD] at hl
  refine draw_steps hT hF (drawOK_spec hd) ops.size _ h hL hR' ?_ hQ
  have := List.length_filter_le (fun i => !((Array.replicate ops.size false).getD i true)) (List.range ops.size)
  simpa [unl] using this
end Go.SX

/- The symbolic evaluator: what a loop carries. -/
set_option linter.unusedVariables false
set_option linter.unusedSimpArgs false
namespace Go.SX
variable {P : Program} {tt : List (Nat × TyI)} {W0 : PW} {M : Nat → Prop}

theorem allCell_use {s : Shp} {K : Value → Prop} (h : allCell s K) {v : Value} (hv : shpB s v = true) : K v := by
  cases s <;> cases v <;> simp only [shpB, Bool.false_eq_true] at hv <;> first | exact h _ | (obtain rfl := of_decide_eq_true hv; exact h _) | exact h ⟨_, _, _⟩
theorem allCells_use : ∀ {l : List Shp} {K : List Value → Prop} (_ : allCells l K) {vs : List Value} (_ : shpsB l vs = true), K vs
  | [], K, h, [], _ => h
  | [], K, h, _ :: _, hv => by simp [shpsB] at hv
  | s :: r, K, h, [], hv => by simp [shpsB] at hv
  | s :: r, K, h, v :: vs, hv => by
    simp only [shpsB, Bool.and_eq_true] at hv
    exact allCells_use (l := r) (allCell_use h hv.1) hv.2
theorem allV_use {i : TyI} {K : Value → Prop} (h : allV i K) {v : Value} (hv : tyB i v = true) : K v := by
  unfold tyB at hv
  unfold allV at h
  cases ha : i.agg with
  | true =>
    rw [ha] at hv h
    cases v <;> simp only [Bool.false_eq_true] at hv
    have := allCells_use h hv
    simpa [valOf] using this
  | false =>
    rw [ha] at hv h
    exact allCells_use h (vs := [v]) (by cases v <;> exact hv)

/-! ### Heads -/
def HB : List (Nat × CarB) → SS → List PL → SS → Prop
  | (k, .box sh) :: r, st, l, st' => ∃ cs l', shpsB sh cs = true ∧ l = .cells cs :: l' ∧ HB r { st with C := (k, .box cs) :: st.C } l' st'
  | (k, .row t sz) :: r, st, l, st' => ∃ xs l', l = .row xs :: l' ∧ HB r { st with C := (k, .row t sz xs) :: st.C } l' st'
  | (k, .itr g kt et since) :: r, st, l, st' => ∃ seen last cur l', l = .seen (seenNow seen cur) last :: l' ∧ HB r { st with C := (k, .itr g kt et since seen last cur) :: st.C } l' st'
  | [], st, l, st' => l = [] ∧ st' = st
def HC : List (Nat × Car) → SS → List PL → SS → Prop
  | (d, .val i) :: r, st, l, st' => ∃ v l', tyB i v = true ∧ l = .val v :: l' ∧ HC r { st with T := (d, .v v) :: st.T } l' st'
  | (d, .own t sz) :: r, st, l, st' => ∃ xs l', l = .row xs :: l' ∧ HC r { (newBlk st (.row t sz xs)) with T := (d, .o st.nx) :: st.T } l' st'
  | [], st, l, st' => l = [] ∧ st' = st
theorem headsB_use : ∀ {bs : List (Nat × CarB)} {st : SS} {K : List PL → SS → Prop} (_ : headsB bs st K) {l : List PL} {st' : SS} (_ : HB bs st l st'), K l st'
  | [], st, K, h, l, st', hl => by obtain ⟨rfl, rfl⟩ := hl; exact h
  | (k, .box sh) :: r, st, K, h, l, st', hl => by
    obtain ⟨cs, l', hs, rfl, hr⟩ := hl
    exact headsB_use (bs := r) (allCells_use h hs) hr
  | (k, .row t sz) :: r, st, K, h, l, st', hl => by
    obtain ⟨xs, l', rfl, hr⟩ := hl
    exact headsB_use (bs := r) (h xs) hr
  | (k, .itr g kt et since) :: r, st, K, h, l, st', hl => by
    obtain ⟨seen, last, cur, l', rfl, hr⟩ := hl
    exact headsB_use (bs := r) (h seen last cur) hr
theorem headsC_use : ∀ {cs : List (Nat × Car)} {st : SS} {K : List PL → SS → Prop} (_ : headsC cs st K) {l : List PL} {st' : SS} (_ : HC cs st l st'), K l st'
  | [], st, K, h, l, st', hl => by obtain ⟨rfl, rfl⟩ := hl; exact h
  | (d, .val i) :: r, st, K, h, l, st', hl => by
    obtain ⟨v, l', hs, rfl, hr⟩ := hl
    exact headsC_use (cs := r) (allV_use h hs) hr
  | (d, .own t sz) :: r, st, K, h, l, st', hl => by
    obtain ⟨xs, l', rfl, hr⟩ := hl
    exact headsC_use (cs := r) (h xs) hr
def Head (bs : List (Nat × CarB)) (cars : List (Nat × Car)) (st : SS) (l : List PL) (sth : SS) : Prop := ∃ lb lc stB, HB bs st lb stB ∧ HC cars stB lc sth ∧ l = lc ++ lb
theorem heads_use {bs : List (Nat × CarB)} {cars : List (Nat × Car)} {st : SS} {K : List PL → SS → Prop} (h : heads bs cars st K) {l : List PL} {sth : SS} (hh : Head bs cars st l sth) : K l sth := by
  obtain ⟨lb, lc, stB, h1, h2, rfl⟩ := hh
  exact headsC_use (headsB_use h h1) h2
/-- What a head's state keeps of the one before it. -/
theorem HB.keep : ∀ {bs : List (Nat × CarB)} {st : SS} {l : List PL} {st' : SS} (_ : HB bs st l st'), st'.nx = st.nx ∧ st'.n = st.n ∧ st'.D = st.D ∧ st'.T = st.T ∧ ∀ k, (∀ b, b ∈ bs → b.1 ≠ k) → look st'.C k = look st.C k
  | [], st, l, st', h => by obtain ⟨_, rfl⟩ := h; exact ⟨rfl, rfl, rfl, rfl, fun _ _ => rfl⟩
  | (k, .box sh) :: r, st, l, st', h => by
    obtain ⟨cs, l', _, _, hr⟩ := h
    obtain ⟨h1, h2, h3, h4, h5⟩ := HB.keep hr
    refine ⟨h1, h2, h3, h4, fun k' hk => ?_⟩
    rw [h5 k' fun b hb => hk b (by simp [hb])]
    simp only [look_cons]
    rw [if_neg (hk (k, .box sh) (by simp))]
  | (k, .row t sz) :: r, st, l, st', h => by
    obtain ⟨cs, l', _, hr⟩ := h
    obtain ⟨h1, h2, h3, h4, h5⟩ := HB.keep hr
    refine ⟨h1, h2, h3, h4, fun k' hk => ?_⟩
    rw [h5 k' fun b hb => hk b (by simp [hb])]
    simp only [look_cons]
    rw [if_neg (hk (k, .row t sz) (by simp))]
  | (k, .itr g kt et since) :: r, st, l, st', h => by
    obtain ⟨seen, last, cur, l', _, hr⟩ := h
    obtain ⟨h1, h2, h3, h4, h5⟩ := HB.keep hr
    refine ⟨h1, h2, h3, h4, fun k' hk => ?_⟩
    rw [h5 k' fun b hb => hk b (by simp [hb])]
    simp only [look_cons]
    rw [if_neg (hk (k, .itr g kt et since) (by simp))]
theorem HC.keep : ∀ {cs : List (Nat × Car)} {st : SS} {l : List PL} {st' : SS} (_ : HC cs st l st'), st.nx ≤ st'.nx ∧ st'.n = st.n ∧ st'.D = st.D ∧ ∀ k, k < st.nx → look st'.C k = look st.C k
  | [], st, l, st', h => by obtain ⟨_, rfl⟩ := h; exact ⟨Nat.le_refl _, rfl, rfl, fun _ _ => rfl⟩
  | (d, .val i) :: r, st, l, st', h => by
    obtain ⟨v, l', _, _, hr⟩ := h
    obtain ⟨h1, h2, h3, h4⟩ := HC.keep hr
    exact ⟨h1, h2, h3, h4⟩
  | (d, .own t sz) :: r, st, l, st', h => by
    obtain ⟨xs, l', _, hr⟩ := h
    obtain ⟨h1, h2, h3, h4⟩ := HC.keep hr
    refine ⟨Nat.le_trans (Nat.le_succ _) h1, h2, h3, fun k hk => ?_⟩
    rw [h4 k (Nat.lt_succ_of_lt hk)]
    simp only [newBlk, look_cons]
    rw [if_neg (by omega)]

/-! ### Payments -/
def PB : List (Nat × CarB) → SS → List PL → Prop
  | (k, .box sh) :: r, st, l => ∃ cs l', l = .cells cs :: l' ∧ look st.C k = some (.box cs) ∧ shpsB sh cs = true ∧ PB r st l'
  | (k, .row t sz) :: r, st, l => ∃ xs l', l = .row xs :: l' ∧ look st.C k = some (.row t sz xs) ∧ PB r st l'
  | (k, .itr g kt et since) :: r, st, l => ∃ seen last cur l', l = .seen (seenNow seen cur) last :: l' ∧ look st.C k = some (.itr g kt et since seen last cur) ∧ PB r st l'
  | [], st, l => l = []
theorem paysB_sound : ∀ {bs : List (Nat × CarB)} {st : SS} {W : PW} {K : List PL → SS → PW → Prop} (_ : paysB bs st W K), ∃ l, K l st W ∧ PB bs st l
  | [], st, W, K, h => ⟨[], h, rfl⟩
  | (k, .box sh) :: r, st, W, K, h => by
    simp only [paysB] at h
    split at h
    · rename_i cs hC
      split at h
      · rename_i hs
        obtain ⟨l, hK, hl⟩ := paysB_sound (bs := r) h
        exact ⟨_, hK, cs, l, rfl, hC, hs, hl⟩
      · exact h.elim
    · exact h.elim
  | (k, .row t sz) :: r, st, W, K, h => by
    simp only [paysB] at h
    split at h
    · rename_i t' sz' xs hC
      split at h
      · rename_i h1 h2
        obtain rfl := Nat.eq_of_beq_eq_true h1
        obtain rfl := Nat.eq_of_beq_eq_true h2
        obtain ⟨l, hK, hl⟩ := paysB_sound (bs := r) h
        exact ⟨_, hK, xs, l, rfl, hC, hl⟩
      · exact h.elim
    · exact h.elim
  | (k, .itr g kt et since) :: r, st, W, K, h => by
    simp only [paysB] at h
    split at h
    · rename_i g' kt' et' since' seen last cur hC
      split at h
      · rename_i h1 h2
        obtain rfl := Nat.eq_of_beq_eq_true h1
        obtain rfl := Nat.eq_of_beq_eq_true h2
        obtain ⟨⟨rfl, rfl⟩, h⟩ := h
        obtain ⟨l, hK, hl⟩ := paysB_sound (bs := r) h
        exact ⟨_, hK, seen, last, cur, l, rfl, hC, hl⟩
      · exact h.elim
    · exact h.elim
def PC (a : Act) (w : World) (n : Nat) : List (Nat × Car) → List Nat → List PL → Prop
  | (d, .val i) :: r, G, l => ∃ v l', l = .val v :: l' ∧ a.tmps.getD d undef = v ∧ d < n ∧ tyB i v = true ∧ PC a w n r G l'
  | (d, .own t sz) :: r, G, l => ∃ xs l', l = .row xs :: l' ∧ d < n ∧ OwnRow w t sz (a.tmps.getD d undef) xs ∧ (∀ g, (a.tmps.getD d undef).ownBlock = some g → g ∉ G) ∧ PC a w n r ((a.tmps.getD d undef).ownBlock.toList ++ G) l'
  | [], _, l => l = []
def ownG (a : Act) : List (Nat × Car) → List Nat
  | (_, .val _) :: r => ownG a r
  | (d, .own _ _) :: r => (a.tmps.getD d undef).ownBlock.toList ++ ownG a r
  | [] => []
theorem Free.set {st : SS} {β : Nat → Nat} {σ : Nat → Value} {g k : Nat} {bl : Blk} (h : Free st β σ g) (hb : blkOf β σ k bl ≠ some g) : Free (setBlk st k bl) β σ g := by
  intro i bl' hc
  simp only [setBlk, look_cons] at hc
  split at hc
  · rename_i he; subst he; obtain rfl := Option.some.inj hc; exact hb
  · exact h i bl' hc
theorem evP_sound' {x : Operand} {st : SS} {W Wa : PW} {β : Nat → Nat} {σ : Nat → Value} {a : Act} {K : Value → SS → PW → Prop} (h : evP W0 x st W K) (hR : Run W0 M st W β σ a Wa) :
    ∃ v st' W' Wa', K v st' W' ∧ a.eval x = v ∧ Wa'.w = Wa.w ∧ Run W0 M st' W' β σ a Wa' ∧ st'.T = st.T ∧ Desc st st' ∧ (∀ g, Free st β σ g → Wa.S g → Free st' β σ g ∧ Wa'.S g) := by
  obtain ⟨s, hs, h1⟩ := ev_sound (W := W) h
  have he := (h1 β σ a Wa hR.rel hR.ext).1
  have plain : ∀ {s}, toV st s (fun v => K v st W) → a.eval x = s.val β σ → ∃ v st' W' Wa', K v st' W' ∧ a.eval x = v ∧ Wa'.w = Wa.w ∧ Run W0 M st' W' β σ a Wa' ∧ st'.T = st.T ∧ Desc st st' ∧ (∀ g, Free st β σ g → Wa.S g → Free st' β σ g ∧ Wa'.S g) := by
    intro s hs he
    obtain ⟨v, hv, h2⟩ := toV_sound (W := W) hs
    exact ⟨v, st, W, Wa, hv, he.trans (h2 β σ a Wa hR.rel hR.ext), rfl, hR, rfl, Desc.refl _, fun g h1 h2 => ⟨h1, h2⟩⟩
  cases s with
  | o k =>
    simp only [pub] at hs
    split at hs
    · rename_i t sz xs hC
      obtain ⟨hO, hS⟩ := hR.rel.C _ _ hC
      have hr := Run.set (Wa' := ⟨Wa.w, fun b => Wa.S b ∧ ¬ (σ k).ownBlock = some b⟩) (bl := .pub (σ k)) hR hC (Keep.refl _ _) (fun b hb => hb.1) (fun b hb hn => ⟨hb, by simpa [blkOf] using hn⟩) rfl (by simp [blkOf])
      obtain ⟨s, hs', hown⟩ := Own.of_row (W := ⟨Wa.w, fun b => Wa.S b ∧ ¬ (σ k).ownBlock = some b⟩) hO (fun g hg hn => hn.2 hg)
      have hr1 := hr.1.here
      have hr2 := hr.2
      have hr3 := hr.1.ext
      have hfree : ∀ g, Free st β σ g → Wa.S g → Free (setBlk st k (.pub (σ k))) β σ g ∧ (Wa.S g ∧ ¬ (σ k).ownBlock = some g) := fun g h1 h2 => ⟨h1.set (by simp [blkOf]), h2, fun e => h1 k _ hC (by simpa [blkOf] using e)⟩
      have hfr : ∀ g, (σ k).ownBlock = some g → W0.w.heap.size ≤ g ∧ (g < W.w.heap.size → W.S g) := fun g hg => ⟨hR.fresh k (.row t sz xs) g hC (by simpa [blkOf] using hg), fun hlt => Classical.byContradiction fun hn => (hR.ext.keep g hlt hn).2 (hS g hg)⟩
      rw [hs'] at hr1 hr2 hr3 hown hfree hfr
      exact ⟨s.v, _, _, ⟨Wa.w, fun b => Wa.S b ∧ ¬ s.v.ownBlock = some b⟩, hs s _ hr3 hown (fun g hg => hfr g hg), he.trans hs', rfl, hr1, rfl, hr2, hfree⟩
    · rename_i x' hC
      exact ⟨x', st, W, Wa, hs, he.trans (hR.rel.C _ _ hC), rfl, hR, rfl, Desc.refl _, fun g h1 h2 => ⟨h1, h2⟩⟩
    · exact hs.elim
  | bs k n =>
    obtain ⟨v, st', W', Wa', hK, hv, h1, h2, h3, h4, h5⟩ := pubB_sound hs hR
    exact ⟨v, st', W', Wa', hK, he.trans hv, h1, h2, h3, h4, h5⟩
  | _ => exact plain hs he
theorem paysC_sound : ∀ {cars : List (Nat × Car)} {st : SS} {W Wa : PW} {β : Nat → Nat} {σ : Nat → Value} {a : Act} {K : List PL → SS → PW → Prop} {G : List Nat} (_ : paysC W0 cars st W K) (_ : Run W0 M st W β σ a Wa)
    (_ : ∀ g, g ∈ G → Free st β σ g ∧ Wa.S g ∧ W0.w.heap.size ≤ g),
    ∃ l st1 W1 Wa1, K l st1 W1 ∧ Wa1.w = Wa.w ∧ Run W0 M st1 W1 β σ a Wa1 ∧ st1.T = st.T ∧ Desc st st1 ∧ PC a Wa.w st.n cars G l ∧ (∀ g, g ∈ G ++ ownG a cars → Free st1 β σ g ∧ Wa1.S g ∧ W0.w.heap.size ≤ g)
  | [], st, W, Wa, β, σ, a, K, G, h, hR, hG => ⟨[], st, W, Wa, h, rfl, hR, rfl, Desc.refl _, rfl, by simpa [ownG] using hG⟩
  | (d, .val i) :: r, st, W, Wa, β, σ, a, K, G, h, hR, hG => by
    simp only [paysC] at h
    have hd : d < st.n := by
      have h' := h
      simp only [evP, ev] at h'
      split at h'
      · rename_i s hs; exact hR.rel.dom _ _ hs
      · exact h'.elim
    obtain ⟨v, st1, W1, Wa1, h1, he, hw, hR1, hT1, hD1, hF1⟩ := evP_sound' h hR
    split at h1
    · rename_i hty
      obtain ⟨l, st2, W2, Wa2, hK, hw2, hR2, hT2, hD2, hP2, hG2⟩ := paysC_sound (cars := r) (G := G) h1 hR1 (fun g hg => ⟨(hF1 g (hG g hg).1 (hG g hg).2.1).1, (hF1 g (hG g hg).1 (hG g hg).2.1).2, (hG g hg).2.2⟩)
      refine ⟨_, st2, W2, Wa2, hK, hw2.trans hw, hR2, hT2.trans hT1, hD1.trans hD2, ⟨v, l, rfl, ?_, hd, hty, ?_⟩, ?_⟩
      · simpa [Act.eval] using he
      · rw [hw, hD1.n] at hP2; exact hP2
      · simpa [ownG] using hG2
    · exact h1.elim
  | (d, .own t sz) :: r, st, W, Wa, β, σ, a, K, G, h, hR, hG => by
    simp only [paysC] at h
    split at h
    · rename_i k hT
      split at h
      · rename_i t' sz' xs hC
        split at h
        · rename_i h1 h2
          obtain rfl := Nat.eq_of_beq_eq_true h1
          obtain rfl := Nat.eq_of_beq_eq_true h2
          obtain ⟨hO, hS⟩ := hR.rel.C _ _ hC
          have hv : a.tmps.getD d undef = σ k := (hR.rel.T _ _ hT).1
          obtain ⟨r1, r2⟩ := Run.set (Wa' := Wa) (bl := .dead) hR hC (Keep.refl _ _) (fun b hb => hb) (fun b hb _ => hb) trivial (by simp [blkOf])
          have hnew : ∀ g, (σ k).ownBlock = some g → Free (setBlk st k .dead) β σ g ∧ Wa.S g ∧ W0.w.heap.size ≤ g := by
            intro g hg
            refine ⟨?_, hS g hg, hR.fresh k _ g hC (by simpa [blkOf] using hg)⟩
            intro i bl' hc
            simp only [setBlk, look_cons] at hc
            split at hc
            · obtain rfl := Option.some.inj hc; simp [blkOf]
            · rename_i hne
              exact fun e => hR.rel.inj i k bl' _ g (fun e => hne e.symm) hc hC e (by simpa [blkOf] using hg)
          obtain ⟨l, st2, W2, Wa2, hK, hw2, hR2, hT2, hD2, hP2, hG2⟩ := paysC_sound (cars := r) (G := (σ k).ownBlock.toList ++ G) h r1 (by
            intro g hg
            rcases List.mem_append.1 hg with hg | hg
            · exact hnew g (by simpa using hg)
            · exact ⟨(hG g hg).1.set (by simp [blkOf]), (hG g hg).2⟩)
          refine ⟨_, st2, W2, Wa2, hK, hw2, hR2, hT2, r2.trans hD2, ⟨xs, l, rfl, hR.rel.dom _ _ hT, ?_, ?_, ?_⟩, ?_⟩
          · rw [hv]; exact hO
          · rw [hv]; exact fun g hg hin => (hG g hin).1 k _ hC (by simpa [blkOf] using hg)
          · rw [hv]; exact hP2
          · intro g hg
            refine hG2 g ?_
            simp only [ownG, hv, List.mem_append] at hg ⊢
            rcases hg with hg | hg | hg
            · exact .inl (.inr hg)
            · exact .inl (.inl hg)
            · exact .inr hg
        · exact h.elim
      · exact h.elim
    · rename_i hT
      have hv : a.tmps.getD d undef = .slice none 0 0 := (hR.rel.T _ _ hT).1
      obtain ⟨l, st2, W2, Wa2, hK, hw2, hR2, hT2, hD2, hP2, hG2⟩ := paysC_sound (cars := r) (G := G) h hR hG
      refine ⟨_, st2, W2, Wa2, hK, hw2, hR2, hT2, hD2, ⟨[], l, rfl, hR.rel.dom _ _ hT, ?_, ?_, ?_⟩, ?_⟩
      · rw [hv]; exact OwnRow.nil _ _ _
      · rw [hv]; simp [Value.ownBlock]
      · rw [hv]; simpa [Value.ownBlock] using hP2
      · intro g hg
        refine hG2 g ?_
        simpa [ownG, hv, Value.ownBlock] using hg
    · exact h.elim
end Go.SX

/- The symbolic evaluator: loops, cuts. -/
set_option linter.unusedVariables false
set_option linter.unusedSimpArgs false
namespace Go.SX
variable {P : Program} {tt : List (Nat × TyI)} {W0 : PW} {M : Nat → Prop}

theorem mem_iff {l : List Nat} {x : Nat} : mem l x = true ↔ x ∈ l := by
  simp only [mem, List.any_eq_true]
  constructor
  · rintro ⟨y, hy, hb⟩
    rw [Nat.eq_of_beq_eq_true hb]; exact hy
  · exact fun h => ⟨x, h, Nat.beq_refl x⟩
theorem look_filter {ds : List Nat} : ∀ {l : List (Nat × SV)} {i : Nat} {s : SV} (_ : look (l.filter fun x => !(mem ds x.1)) i = some s), look l i = some s ∧ ¬ i ∈ ds
  | [], i, s, h => by simp [look] at h
  | (k, x) :: r, i, s, h => by
    simp only [List.filter_cons] at h
    split at h
    · rename_i hk
      simp only [look_cons] at h ⊢
      split at h
      · rename_i he
        subst he
        refine ⟨by simpa using h, fun hm => ?_⟩
        rw [mem_iff.2 hm] at hk
        simp at hk
      · rename_i hne
        rw [if_neg hne]
        exact look_filter h
    · rename_i hk
      obtain ⟨h1, h2⟩ := look_filter (l := r) h
      refine ⟨?_, h2⟩
      simp only [look_cons]
      rw [if_neg]
      · exact h1
      · rintro rfl
        apply hk
        cases hm : mem ds k with
        | true => exact (h2 (mem_iff.1 hm)).elim
        | false => rfl
theorem Run.sub {st2 stx : SS} {W Wa : PW} {β : Nat → Nat} {σ : Nat → Value} {a : Act} (h : Run W0 M st2 W β σ a Wa) (hn : stx.n = st2.n)
    (hT : ∀ i s, look stx.T i = some s → a.tmps.getD i undef = s.val β σ ∧ SVok stx.nx β σ s ∧ i < stx.n) (hC : ∀ k bl, look stx.C k = some bl → k < stx.nx ∧ (bl = .dead ∨ look st2.C k = some bl)) : Run W0 M stx W β σ a Wa := by
  refine ⟨⟨h.rel.defers, h.rel.size.trans hn.symm, fun i s hs => ⟨(hT i s hs).1, (hT i s hs).2.1⟩, fun k bl hc => ?_, fun k k' b1 b2 g hne h1 h2 g1 g2 => ?_, fun i s hs => (hT i s hs).2.2⟩,
    h.ext, h.keep, h.priv, h.lt, h.s0, h.b0, fun k bl hc => (hC k bl hc).1, fun k bl g hc hg => ?_⟩
  · rcases (hC k bl hc).2 with rfl | hc'
    · trivial
    · exact h.rel.C k bl hc'
  · rcases (hC k b1 h1).2 with rfl | h1'
    · simp [blkOf] at g1
    · rcases (hC k' b2 h2).2 with rfl | h2'
      · simp [blkOf] at g2
      · exact h.rel.inj k k' b1 b2 g hne h1' h2' g1 g2
  · rcases (hC k bl hc).2 with rfl | hc'
    · simp [blkOf] at hg
    · exact h.fresh k bl g hc' hg
theorem makeB {st2 : SS} : ∀ {bs : List (Nat × CarB)} {stx : SS} {lb : List PL} (_ : PB bs st2 lb) (_ : ∀ k bl, look stx.C k = some bl → k < stx.nx ∧ ((∃ b, b ∈ bs ∧ b.1 = k) ∨ bl = .dead ∨ look st2.C k = some bl)) (_ : ∀ b, b ∈ bs → b.1 < stx.nx),
    ∃ stB, HB bs stx lb stB ∧ ∀ k bl, look stB.C k = some bl → k < stx.nx ∧ (bl = .dead ∨ look st2.C k = some bl)
  | [], stx, lb, h, hC, _ => by
    obtain rfl : lb = [] := h
    exact ⟨stx, ⟨rfl, rfl⟩, fun k bl hc => ⟨(hC k bl hc).1, (hC k bl hc).2.resolve_left (by simp)⟩⟩
  | (k, .box sh) :: r, stx, lb, h, hC, hB => by
    obtain ⟨cs, l', rfl, hk, hs, hr⟩ := h
    obtain ⟨stB, h1, h2⟩ := makeB (bs := r) (stx := { stx with C := (k, .box cs) :: stx.C }) hr (by
      intro i bl hc
      simp only [look_cons] at hc
      split at hc
      · rename_i he; subst he
        obtain rfl := Option.some.inj hc
        exact ⟨hB (k, .box sh) (by simp), .inr (.inr hk)⟩
      · rename_i hne
        obtain ⟨h1, h2⟩ := hC i bl hc
        refine ⟨h1, h2.imp ?_ id⟩
        rintro ⟨b, hb, rfl⟩
        rcases List.mem_cons.1 hb with rfl | hb
        · exact (hne rfl).elim
        · exact ⟨b, hb, rfl⟩) (fun b hb => hB b (by simp [hb]))
    exact ⟨stB, ⟨cs, l', hs, rfl, h1⟩, h2⟩
  | (k, .row t sz) :: r, stx, lb, h, hC, hB => by
    obtain ⟨cs, l', rfl, hk, hr⟩ := h
    obtain ⟨stB, h1, h2⟩ := makeB (bs := r) (stx := { stx with C := (k, .row t sz cs) :: stx.C }) hr (by
      intro i bl hc
      simp only [look_cons] at hc
      split at hc
      · rename_i he; subst he
        obtain rfl := Option.some.inj hc
        exact ⟨hB (k, .row t sz) (by simp), .inr (.inr hk)⟩
      · rename_i hne
        obtain ⟨h1, h2⟩ := hC i bl hc
        refine ⟨h1, h2.imp ?_ id⟩
        rintro ⟨b, hb, rfl⟩
        rcases List.mem_cons.1 hb with rfl | hb
        · exact (hne rfl).elim
        · exact ⟨b, hb, rfl⟩) (fun b hb => hB b (by simp [hb]))
    exact ⟨stB, ⟨cs, l', rfl, h1⟩, h2⟩
  | (k, .itr g kt et since) :: r, stx, lb, h, hC, hB => by
    obtain ⟨seen, last, cur, l', rfl, hk, hr⟩ := h
    obtain ⟨stB, h1, h2⟩ := makeB (bs := r) (stx := { stx with C := (k, .itr g kt et since seen last cur) :: stx.C }) hr (by
      intro i bl hc
      simp only [look_cons] at hc
      split at hc
      · rename_i he; subst he
        obtain rfl := Option.some.inj hc
        exact ⟨hB (k, .itr g kt et since) (by simp), .inr (.inr hk)⟩
      · rename_i hne
        obtain ⟨h1, h2⟩ := hC i bl hc
        refine ⟨h1, h2.imp ?_ id⟩
        rintro ⟨b, hb, rfl⟩
        rcases List.mem_cons.1 hb with rfl | hb
        · exact (hne rfl).elim
        · exact ⟨b, hb, rfl⟩) (fun b hb => hB b (by simp [hb]))
    exact ⟨stB, ⟨seen, last, cur, l', rfl, h1⟩, h2⟩
theorem PC.notin {a : Act} {w : World} {n : Nat} : ∀ {cars : List (Nat × Car)} {G : List Nat} {l : List PL} (_ : PC a w n cars G l), ∀ g, g ∈ ownG a cars → ¬ g ∈ G
  | [], G, l, h, g, hg => by simp [ownG] at hg
  | (d, .val i) :: r, G, l, h, g, hg => by
    obtain ⟨v, l', _, _, _, _, hr⟩ := h
    exact PC.notin hr g hg
  | (d, .own t sz) :: r, G, l, h, g, hg => by
    obtain ⟨xs, l', _, _, _, hn, hr⟩ := h
    simp only [ownG, List.mem_append] at hg
    rcases hg with hg | hg
    · exact hn g (by simpa using hg)
    · have := PC.notin hr g hg
      exact fun h => this (List.mem_append_right _ h)
theorem Run.addT {st : SS} {W Wa : PW} {β : Nat → Nat} {σ : Nat → Value} {a : Act} {d : Nat} {s : SV} (h : Run W0 M st W β σ a Wa) (hd : d < st.n) (hs : SVok st.nx β σ s) (hv : a.tmps.getD d undef = s.val β σ) :
    Run W0 M { st with T := (d, s) :: st.T } W β σ a Wa := by
  refine ⟨⟨h.rel.defers, h.rel.size, fun i s' hi => ?_, h.rel.C, h.rel.inj, fun i s' hi => ?_⟩, h.ext, h.keep, h.priv, h.lt, h.s0, h.b0, h.nC, h.fresh⟩
  · simp only [look_cons] at hi
    split at hi
    · rename_i he; subst he; obtain rfl := Option.some.inj hi; exact ⟨hv, hs⟩
    · exact h.rel.T i s' hi
  · simp only [look_cons] at hi
    split at hi
    · rename_i he; subst he; exact hd
    · exact h.rel.dom i s' hi
/-- A slice of a free private block gets a name. -/
theorem Run.adopt {st : SS} {W Wa : PW} {β : Nat → Nat} {σ : Nat → Value} {a : Act} {t sz : Nat} {v : Value} {xs : List (List Value)} (h : Run W0 M st W β σ a Wa) (hO : OwnRow Wa.w t sz v xs)
    (hv : ∀ g, v.ownBlock = some g → Free st β σ g ∧ Wa.S g ∧ W0.w.heap.size ≤ g) :
    Run W0 M (newBlk st (.row t sz xs)) W β (upd σ st.nx v) a Wa ∧ ∀ k, k < st.nx → β k = β k ∧ upd σ st.nx v k = σ k := by
  have hag : ∀ k, k < st.nx → β k = β k ∧ upd σ st.nx v k = σ k := fun k hk => by simp [upd, show k ≠ st.nx by omega]
  have hlook : ∀ k bl', look (newBlk st (.row t sz xs)).C k = some bl' → (k = st.nx ∧ bl' = .row t sz xs) ∨ (k < st.nx ∧ look st.C k = some bl') := by
    intro k bl' hc
    simp only [newBlk, look_cons] at hc
    split at hc
    · rename_i he; exact .inl ⟨he.symm, (Option.some.inj hc).symm⟩
    · exact .inr ⟨h.nC _ _ hc, hc⟩
  have hnb : blkOf β (upd σ st.nx v) st.nx (.row t sz xs) = v.ownBlock := by simp [blkOf, upd]
  refine ⟨⟨⟨h.rel.defers, h.rel.size, fun i s hs => ?_, fun k bl' hc => ?_, ?_, h.rel.dom⟩, h.ext, h.keep, h.priv, h.lt, h.s0, h.b0, ?_, ?_⟩, hag⟩
  · obtain ⟨h1, h2⟩ := h.rel.T i s hs
    exact ⟨h1.trans (val_agree hag h2).symm, (ok_agree hag h2).mono (Nat.le_succ _)⟩
  · rcases hlook k bl' hc with ⟨rfl, rfl⟩ | ⟨hlt, hc'⟩
    · refine ⟨by simpa [upd] using hO, fun g hg => (hv g (by simpa [upd] using hg)).2.1⟩
    · exact (h.rel.C k bl' hc').same hag hlt fun g hg' => ⟨rfl, blk_S (h.rel.C k bl' hc') hg'⟩
  · intro k k' b1 b2 g hne h1 h2 hg1 hg2
    rcases hlook k b1 h1 with ⟨rfl, rfl⟩ | ⟨hl1, hc1⟩ <;> rcases hlook k' b2 h2 with ⟨rfl, rfl⟩ | ⟨hl2, hc2⟩
    · exact hne rfl
    · rw [hnb] at hg1
      rw [blk_agree hag hl2] at hg2
      exact (hv g hg1).1 k' b2 hc2 hg2
    · rw [hnb] at hg2
      rw [blk_agree hag hl1] at hg1
      exact (hv g hg2).1 k b1 hc1 hg1
    · rw [blk_agree hag hl1] at hg1
      rw [blk_agree hag hl2] at hg2
      exact h.rel.inj k k' b1 b2 g hne hc1 hc2 hg1 hg2
  · intro k bl' hc
    rcases hlook k bl' hc with ⟨rfl, _⟩ | ⟨hlt, _⟩
    · exact Nat.lt_succ_self _
    · exact Nat.lt_succ_of_lt hlt
  · intro k bl' g hc hg'
    rcases hlook k bl' hc with ⟨rfl, rfl⟩ | ⟨hlt, hc'⟩
    · rw [hnb] at hg'; exact (hv g hg').2.2
    · rw [blk_agree hag hlt] at hg'; exact h.fresh k bl' g hc' hg'
theorem makeC : ∀ {cars : List (Nat × Car)} {stx : SS} {lc : List PL} {G : List Nat} {W Wa : PW} {β : Nat → Nat} {σ : Nat → Value} {a : Act} (_ : Run W0 M stx W β σ a Wa) (_ : PC a Wa.w stx.n cars G lc)
    (_ : ∀ g, g ∈ ownG a cars → Free stx β σ g ∧ Wa.S g ∧ W0.w.heap.size ≤ g), ∃ sth β' σ', HC cars stx lc sth ∧ Run W0 M sth W β' σ' a Wa ∧ ∀ k, k < stx.nx → β' k = β k ∧ σ' k = σ k
  | [], stx, lc, G, W, Wa, β, σ, a, hR, hP, _ => by
    obtain rfl : lc = [] := hP
    exact ⟨stx, β, σ, ⟨rfl, rfl⟩, hR, agree_refl⟩
  | (d, .val i) :: r, stx, lc, G, W, Wa, β, σ, a, hR, hP, hG => by
    obtain ⟨v, l', rfl, hv, hd, hty, hr⟩ := hP
    obtain ⟨sth, β', σ', h1, h2, h3⟩ := makeC (cars := r) (hR.addT (s := .v v) hd trivial hv) hr hG
    exact ⟨sth, β', σ', ⟨v, l', hty, rfl, h1⟩, h2, h3⟩
  | (d, .own t sz) :: r, stx, lc, G, W, Wa, β, σ, a, hR, hP, hG => by
    obtain ⟨xs, l', rfl, hd, hO, hn, hr⟩ := hP
    have hv : ∀ g, (a.tmps.getD d undef).ownBlock = some g → Free stx β σ g ∧ Wa.S g ∧ W0.w.heap.size ≤ g := fun g hg => hG g (by simp only [ownG, List.mem_append, Option.mem_toList]; exact .inl hg)
    obtain ⟨r1, r2⟩ := hR.adopt hO hv
    have r3 := r1.addT (d := d) (s := .o stx.nx) hd (Nat.lt_succ_self _) (by simp [SV.val, upd])
    obtain ⟨sth, β', σ', h1, h2, h3⟩ := makeC (cars := r) r3 hr (by
      intro g hg
      obtain ⟨f1, f2⟩ := hG g (by simp only [ownG, List.mem_append]; exact .inr hg)
      refine ⟨?_, f2⟩
      have hng := hr.notin g hg
      intro k bl hc
      simp only [newBlk, look_cons] at hc
      split at hc
      · rename_i he; subst he
        obtain rfl := Option.some.inj hc
        simp only [blkOf, upd, if_true]
        exact fun e => hng (List.mem_append_left _ (by simp only [Option.mem_toList]; exact e))
      · have hlt := hR.nC _ _ hc
        rw [blk_agree r2 hlt]
        exact f1 k bl hc)
    exact ⟨sth, β', σ', ⟨xs, l', rfl, h1⟩, h2, fun k hk => ⟨(h3 k (Nat.lt_succ_of_lt hk)).1.trans (r2 k hk).1, (h3 k (Nat.lt_succ_of_lt hk)).2.trans (r2 k hk).2⟩⟩
theorem makeHead {bs : List (Nat × CarB)} {cars : List (Nat × Car)} {st2 stb : SS} {lb lc : List PL} {W Wa : PW} {β : Nat → Nat} {σ : Nat → Value} {a : Act} (hR : Run W0 M st2 W β σ a Wa) (hB : PB bs st2 lb) (hP : PC a Wa.w st2.n cars [] lc)
    (hG : ∀ g, g ∈ ownG a cars → Free st2 β σ g ∧ Wa.S g ∧ W0.w.heap.size ≤ g) (hn : stb.n = st2.n) (hT : ∀ i s, look stb.T i = some s → a.tmps.getD i undef = s.val β σ ∧ SVok stb.nx β σ s ∧ i < stb.n)
    (hC : ∀ k bl, look stb.C k = some bl → k < stb.nx ∧ ((∃ b, b ∈ bs ∧ b.1 = k) ∨ bl = .dead ∨ look st2.C k = some bl)) (hb : ∀ b, b ∈ bs → b.1 < stb.nx) :
    ∃ sth β' σ', Head bs cars stb (lc ++ lb) sth ∧ Run W0 M sth W β' σ' a Wa ∧ ∀ k, k < stb.nx → β' k = β k ∧ σ' k = σ k := by
  obtain ⟨stB, h1, h2⟩ := makeB hB hC hb
  obtain ⟨e1, e2, e3, e4, e5⟩ := h1.keep
  have hRB : Run W0 M stB W β σ a Wa := hR.sub (e2.trans hn) (by rw [e4, e1, e2]; exact hT) (by rw [e1]; exact h2)
  obtain ⟨sth, β', σ', h3, h4, h5⟩ := makeC (G := []) (cars := cars) (lc := lc) hRB (by rw [e2, hn]; exact hP) (fun g hg => ⟨fun k bl hc => by
    rcases (h2 k bl hc).2 with rfl | hc'
    · simp [blkOf]
    · exact (hG g hg).1 k bl hc', (hG g hg).2⟩)
  exact ⟨sth, β', σ', ⟨lb, lc, stB, h1, h3, rfl⟩, h4, by rw [e1] at h5; exact h5⟩
theorem Head.keep {bs : List (Nat × CarB)} {cars : List (Nat × Car)} {stb : SS} {l : List PL} {sth : SS} (h : Head bs cars stb l sth) : stb.nx ≤ sth.nx ∧ sth.n = stb.n ∧ sth.D = stb.D ∧ ∀ k, k < stb.nx → (∀ b, b ∈ bs → b.1 ≠ k) → look sth.C k = look stb.C k := by
  obtain ⟨lb, lc, stB, h1, h2, rfl⟩ := h
  obtain ⟨e1, e2, e3, e4, e5⟩ := h1.keep
  obtain ⟨f1, f2, f3, f4⟩ := h2.keep
  exact ⟨by omega, f2.trans e2, f3.trans e3, fun k hk hb => (f4 k (by omega)).trans (e5 k hb)⟩
theorem dirty_sound {al : List Nat} {nx : Nat} {new D : List Nat} (h : dirtyOK al nx D.length (new ++ D) = true) {k : Nat} (hk : k < nx) (hb : ¬ k ∈ al) : ¬ k ∈ new := by
  intro hm
  have he : (new ++ D).take (Nat.sub (new ++ D).length D.length) = new := by
    have : Nat.sub (new ++ D).length D.length = new.length := by simp
    rw [this]
    simp
  simp only [dirtyOK, he, List.all_eq_true] at h
  have := h k hm
  simp only [Bool.or_eq_true, List.any_eq_true] at this
  rcases this with h | ⟨b, hb', he⟩
  · have : nx ≤ k := Nat.le_of_ble_eq_true h
    omega
  · exact hb (by rw [← Nat.eq_of_beq_eq_true he]; exact hb')
/-- The base of a head holds in whatever run comes back to it. -/
theorem base_ok {bs : List (Nat × CarB)} {ds : List Nat} {st1 : SS} {W1 Wa1 : PW} {β σ} {a1 : Act} (h1 : Run W0 M st1 W1 β σ a1 Wa1) {β2 : Nat → Nat} {σ2 : Nat → Value} {a2 : Act} (hag : ∀ k, k < st1.nx → β2 k = β k ∧ σ2 k = σ k)
    (ht : ∀ i, ¬ i ∈ ds → a2.tmps.getD i undef = a1.tmps.getD i undef) : ∀ i s, look (strike ds bs st1).T i = some s → a2.tmps.getD i undef = s.val β2 σ2 ∧ SVok (strike ds bs st1).nx β2 σ2 s ∧ i < (strike ds bs st1).n := by
  intro i s hs
  obtain ⟨hs', hi⟩ := look_filter hs
  obtain ⟨e1, e2⟩ := h1.rel.T i s hs'
  exact ⟨(ht i hi).trans (e1.trans (val_agree hag e2).symm), ok_agree hag e2, h1.rel.dom i s hs'⟩
theorem PB.names : ∀ {bs : List (Nat × CarB)} {st : SS} {l : List PL} (_ : PB bs st l), ∀ b, b ∈ bs → ∃ bl, look st.C b.1 = some bl
  | [], st, l, h, b, hb => by simp at hb
  | (k, .box sh) :: r, st, l, h, b, hb => by
    obtain ⟨cs, l', _, hk, _, hr⟩ := h
    rcases List.mem_cons.1 hb with rfl | hb
    · exact ⟨_, hk⟩
    · exact PB.names hr b hb
  | (k, .row t sz) :: r, st, l, h, b, hb => by
    obtain ⟨cs, l', _, hk, hr⟩ := h
    rcases List.mem_cons.1 hb with rfl | hb
    · exact ⟨_, hk⟩
    · exact PB.names hr b hb
  | (k, .itr g kt et since) :: r, st, l, h, b, hb => by
    obtain ⟨seen, last, cur, l', _, hk, hr⟩ := h
    rcases List.mem_cons.1 hb with rfl | hb
    · exact ⟨_, hk⟩
    · exact PB.names hr b hb
theorem loop_sound {c : Code} {cars : List (Nat × Car)} {bs : List (Nat × CarB)} {ds : List Nat} {body : SS → PW → (Exit → SS → PW → Prop) → Prop}
    (hbody : ∀ st W K, body st W K → ∀ β σ a Wa, Run W0 M st W β σ a Wa → c.wp P (fun e a' w' => Out W0 M st β σ a ds (K e) a' w') a Wa.w)
    {st : SS} {W : PW} {K : Exit → SS → PW → Prop} (h : loopR W0 cars bs ds st W body K) {β : Nat → Nat} {σ : Nat → Value} {a : Act} {Wa : PW} (hR : Run W0 M st W β σ a Wa) :
    (Code.loop c).wp P (fun e a' w' => Out W0 M st β σ a ds (K e) a' w') a Wa.w := by
  obtain ⟨lc0, st0, W0', Wa0, h, hw0, hR0, hT0, hD0, hP0, hG0⟩ := paysC_sound (G := []) h hR (by simp)
  obtain ⟨lb0, h, hB0⟩ := paysB_sound h
  obtain ⟨I, μ, hI0, hh⟩ := h
  have hbn : ∀ b, b ∈ bs → b.1 < st0.nx := fun b hb => by obtain ⟨bl, hbl⟩ := hB0.names b hb; exact hR0.nC _ _ hbl
  have hdesc : ∀ {l sth}, Head bs cars (strike ds bs st0) l sth → Desc st sth := by
    intro l sth hhd
    obtain ⟨e1, e2, e3, e4⟩ := hhd.keep
    refine hD0.trans ⟨e1, e2, bs.map (fun b => b.1), by rw [e3]; rfl, fun k hk hn => ?_⟩
    exact e4 k hk fun b hb e => hn (List.mem_map.2 ⟨b, hb, e⟩)
  obtain ⟨sth0, β0', σ0', hd0, hrun0, hag0⟩ := makeHead (stb := strike ds bs st0) hR0 hB0 (by rw [hw0, hD0.n]; exact hP0) (by simpa using hG0) rfl (base_ok hR0 agree_refl fun _ _ => rfl)
    (fun k bl hc => ⟨hR0.nC _ _ hc, .inr (.inr hc)⟩) hbn
  rw [← hw0]
  refine wp_loop_ghost (fun n a' w' => ∃ β' σ' W' Wa' l sth, Wa'.w = w' ∧ Head bs cars (strike ds bs st0) l sth ∧ Run W0 M sth W' β' σ' a' Wa' ∧ I l W' ∧ μ l W' = n ∧ (∀ k, k < st0.nx → β' k = β k ∧ σ' k = σ k) ∧
    ∀ i, ¬ i ∈ ds → a'.tmps.getD i undef = a.tmps.getD i undef) (μ (lc0 ++ lb0) W0') ⟨β0', σ0', W0', Wa0, _, sth0, rfl, hd0, hrun0, hI0, rfl, hag0, fun _ _ => rfl⟩ ?_
  rintro n a1 w1 ⟨β1, σ1, W1, Wa1, l, sth, rfl, hhd, hR1, hI1, hμ, hag1, htm1⟩
  refine wp_mono (hbody _ _ _ (heads_use hh hhd W1 hI1) β1 σ1 a1 Wa1 hR1) ?_
  obtain ⟨k1, k2, k3, k4⟩ := hhd.keep
  intro e a2 w2 hO
  have lift : ∀ {K'}, Out W0 M sth β1 σ1 a1 ds K' a2 w2 → Out W0 M st β σ a ds K' a2 w2 := fun hO =>
    Out.of (hdesc hhd) (fun k hk => hag1 k (Nat.lt_of_lt_of_le hk hD0.nx)) htm1 (fun _ h => h) (fun _ h => h) (fun _ _ h => h) hO
  cases e with
  | normal =>
    obtain ⟨β2, σ2, st2, W2, Wa2, rfl, hR2, hK2, hD2, hag2, htm2⟩ := hO
    obtain ⟨lc3, st3, W3, Wa3, hK3, hw3, hR3, hT3, hD3, hP3, hG3⟩ := paysC_sound (G := []) hK2 hR2 (by simp)
    obtain ⟨lb3, hK3, hB3⟩ := paysB_sound hK3
    split at hK3
    · rename_i hdirty
      obtain ⟨hI3, hμ3⟩ := hK3
      have hD13 := hD2.trans hD3
      have hag : ∀ k, k < st0.nx → β2 k = β k ∧ σ2 k = σ k := fun k hk => ⟨(hag2 k (Nat.lt_of_lt_of_le hk k1)).1.trans (hag1 k hk).1, (hag2 k (Nat.lt_of_lt_of_le hk k1)).2.trans (hag1 k hk).2⟩
      have htm : ∀ i, ¬ i ∈ ds → a2.tmps.getD i undef = a.tmps.getD i undef := fun i hi => (htm2 i hi).trans (htm1 i hi)
      obtain ⟨new, hnew, hsame⟩ := hD13.D
      obtain ⟨sth3, β3, σ3, hd3, hrun3, hag3⟩ := makeHead (stb := strike ds bs st0) hR3 hB3 (by rw [hw3, hD3.n]; exact hP3) (by simpa using hG3) (by rw [hD13.n, k2]) (base_ok hR0 hag htm)
        (fun k bl hc => by
          refine ⟨hR0.nC _ _ hc, ?_⟩
          by_cases hb : ∃ b, b ∈ bs ∧ b.1 = k
          · exact .inl hb
          · right; right
            have hb' : ∀ b, b ∈ bs → b.1 ≠ k := fun b h1 h2 => hb ⟨b, h1, h2⟩
            have hk := hR0.nC _ _ hc
            rw [hnew] at hdirty
            rw [hsame k (Nat.lt_of_lt_of_le hk k1) (dirty_sound hdirty hk (fun hm => by obtain ⟨b, h1, h2⟩ := List.mem_map.1 hm; exact hb' b h1 h2)), k4 k hk hb']
            exact hc) hbn
      refine ⟨_, by rw [← hμ]; exact hμ3, β3, σ3, W3, Wa3, _, sth3, hw3, hd3, hrun3, hI3, rfl, fun k hk => ⟨(hag3 k hk).1.trans (hag k hk).1, (hag3 k hk).2.trans (hag k hk).2⟩, htm⟩
    · exact hK3.elim
  | exit id => exact lift hO
  | goto l => exact lift hO
  | ret => exact lift hO
  | panic c => exact lift hO
  | outgrown => exact lift hO
end Go.SX

/- The symbolic evaluator: cuts; code; functions. -/
set_option linter.unusedVariables false
set_option linter.unusedSimpArgs false
namespace Go.SX
variable {P : Program} {tt : List (Nat × TyI)} {W0 : PW} {M : Nat → Prop}

theorem look_dead {ks : List Nat} {C : List (Nat × Blk)} {k : Nat} : look ((ks.map fun k => (k, Blk.dead)) ++ C) k = if k ∈ ks then some .dead else look C k := by
  induction ks with
  | nil => simp
  | cons x r ih =>
    simp only [List.map_cons, List.cons_append, look_cons, ih, List.mem_cons]
    by_cases h : x = k
    · simp [h]
    · simp [h, show ¬ k = x from fun e => h e.symm]
theorem cut_sound {cx cy : Code} {cars : List (Nat × Car)} {bs : List (Nat × CarB)} {ds dy : List Nat} {x y : SS → PW → (Exit → SS → PW → Prop) → Prop}
    (hx : ∀ st W K, x st W K → ∀ β σ a Wa, Run W0 M st W β σ a Wa → cx.wp P (fun e a' w' => Out W0 M st β σ a ds (K e) a' w') a Wa.w)
    (hy : ∀ st W K, y st W K → ∀ β σ a Wa, Run W0 M st W β σ a Wa → cy.wp P (fun e a' w' => Out W0 M st β σ a dy (K e) a' w') a Wa.w)
    {st : SS} {W : PW} {K : Exit → SS → PW → Prop} (h : cutR W0 cars bs ds st W x y K) {β : Nat → Nat} {σ : Nat → Value} {a : Act} {Wa : PW} (hR : Run W0 M st W β σ a Wa) :
    (Code.seq cx cy).wp P (fun e a' w' => Out W0 M st β σ a (ds ++ dy) (K e) a' w') a Wa.w := by
  unfold cutR at h
  split at h
  · exact h.elim
  rename_i hbs
  have hbn : ∀ b, b ∈ bs → b.1 < st.nx := fun b hb => Nat.le_of_ble_eq_true (List.all_eq_true.1 hbs b hb)
  obtain ⟨J, h1, h2⟩ := h
  refine wp_seq (wp_mono (hx _ _ _ h1 β σ a Wa hR) ?_)
  intro e a2 w2 hO
  have lift : ∀ {K'}, Out W0 M st β σ a ds K' a2 w2 → Out W0 M st β σ a (ds ++ dy) K' a2 w2 := fun hO =>
    Out.of (Desc.refl _) agree_refl (fun _ _ => rfl) (ds1 := []) (by simp) (fun _ h => List.mem_append_left _ h) (fun _ _ h => h) hO
  cases e with
  | normal =>
    obtain ⟨β2, σ2, st2, W2, Wa2, rfl, hR2, hK2, hD2, hag2, htm2⟩ := hO
    obtain ⟨lc3, st3, W3, Wa3, hK3, hw3, hR3, hT3, hD3, hP3, hG3⟩ := paysC_sound (G := []) hK2 hR2 (by simp)
    obtain ⟨lb3, hK3, hB3⟩ := paysB_sound hK3
    split at hK3
    · rename_i hdirty
      have hD13 := hD2.trans hD3
      obtain ⟨new, hnew, hsame⟩ := hD13.D
      rw [hnew] at hdirty
      have hkn : ∀ k, k ∈ killed cars st → k < st.nx := by
        intro k hk
        simp only [killed, List.mem_filterMap] at hk
        obtain ⟨c, _, hc⟩ := hk
        split at hc
        · split at hc
          · rename_i k' hT
            obtain rfl := Option.some.inj hc
            exact (hR.rel.T _ _ hT).2
          · cases hc
        · cases hc
      obtain ⟨sth3, β3, σ3, hd3, hrun3, hag3⟩ := makeHead (stb := strike ds bs (killOwn (killed cars st) st)) hR3 hB3 (by rw [hw3, hD3.n]; exact hP3) (by simpa using hG3) (by rw [hD13.n]; rfl)
        (base_ok (st1 := st) (bs := bs) hR hag2 htm2)
        (fun k bl hc => by
          have hc : (if k ∈ killed cars st then some Blk.dead else look st.C k) = some bl := by rw [← look_dead]; exact hc
          split at hc
          · rename_i hk
            exact ⟨hkn k hk, .inr (.inl (Option.some.inj hc).symm)⟩
          · rename_i hk
            refine ⟨hR.nC _ _ hc, ?_⟩
            by_cases hb : ∃ b, b ∈ bs ∧ b.1 = k
            · exact .inl hb
            · right; right
              have hlt := hR.nC _ _ hc
              rw [hsame k hlt (dirty_sound hdirty hlt (fun hm => by
                rcases List.mem_append.1 hm with hm | hm
                · obtain ⟨b, h1, h2⟩ := List.mem_map.1 hm; exact hb ⟨b, h1, h2⟩
                · exact hk hm))]
              exact hc) hbn
      have hyw := hy _ _ _ (heads_use h2 hd3 W3 hK3) β3 σ3 a2 Wa3 hrun3
      rw [hw3] at hyw
      refine wp_mono hyw ?_
      intro e a4 w4 hO
      obtain ⟨k1, k2, k3, k4⟩ := hd3.keep
      have hdesc : Desc st sth3 := by
        refine ⟨k1, k2, bs.map (fun b => b.1) ++ killed cars st, by rw [k3]; simp [strike, killOwn], fun k hk hn => ?_⟩
        simp only [List.mem_append, not_or] at hn
        rw [k4 k hk fun b hb e => hn.1 (List.mem_map.2 ⟨b, hb, e⟩)]
        show look ((killed cars st).map (fun k => (k, Blk.dead)) ++ st.C) k = _
        rw [look_dead, if_neg hn.2]
      exact Out.of hdesc (fun k hk => ⟨(hag3 k hk).1.trans (hag2 k hk).1, (hag3 k hk).2.trans (hag2 k hk).2⟩) htm2 (fun _ h => List.mem_append_left _ h) (fun _ h => List.mem_append_right _ h) (fun _ _ h => h) hO
    · exact hK3.elim
  | exit id => exact lift hO
  | goto l => exact lift hO
  | ret => exact lift hO
  | panic c => exact lift hO
  | outgrown => exact lift hO

theorem pubL_sound : ∀ {ks : List Nat} {st : SS} {W Wa : PW} {β : Nat → Nat} {σ : Nat → Value} {a : Act} {K : SS → PW → Prop} (_ : pubL W0 ks st W K) (_ : Run W0 M st W β σ a Wa),
    ∃ st' W' Wa', K st' W' ∧ Wa'.w = Wa.w ∧ Run W0 M st' W' β σ a Wa' ∧ Desc st st'
  | [], st, W, Wa, β, σ, a, K, h, hR => ⟨st, W, Wa, h, rfl, hR, Desc.refl _⟩
  | k :: r, st, W, Wa, β, σ, a, K, h, hR => by
    simp only [pubL] at h
    split at h
    · obtain ⟨v, st1, W1, Wa1, h1, _, hw, hR1, _, hD⟩ := pub_sound h hR
      obtain ⟨st2, W2, Wa2, h2, hw2, hR2, hD2⟩ := pubL_sound (ks := r) h1 hR1
      exact ⟨st2, W2, Wa2, h2, hw2.trans hw, hR2, hD.trans hD2⟩
    · exact pubL_sound (ks := r) h hR
theorem sxC_sound (hM : P.follows .mixedOrders = true) (hT : TabOK P tt) (hF : FieldsIn tt) {cuts : List Nat} : ∀ (c : Code) {U : List Nat} {st : SS} {W : PW} {K : Exit → SS → PW → Prop} (_ : sxC P tt W0 M cuts c U st W K)
    {β : Nat → Nat} {σ : Nat → Value} {a : Act} {Wa : PW} (_ : Run W0 M st W β σ a Wa), c.wp P (fun e a' w' => Out W0 M st β σ a (dsts c) (K e) a' w') a Wa.w := by
  intro c
  have here : ∀ {e : Exit} {st : SS} {W : PW} {K : Exit → SS → PW → Prop} {β σ a} {Wa : PW}, Run W0 M st W β σ a Wa → K e st W → Out W0 M st β σ a [] (K e) a Wa.w :=
    fun hR h => ⟨_, _, _, _, _, rfl, hR, h, Desc.refl _, agree_refl, fun _ _ => rfl⟩
  induction c with
  | skip => exact fun h _ _ _ _ hR => wp_skip (here hR h)
  | ret => exact fun h _ _ _ _ hR => wp_ret (here hR h)
  | exit id => exact fun h _ _ _ _ hR => wp_exit (here hR h)
  | region id ops draw =>
    intro U st W K h β σ a Wa hR
    simp only [sxC] at h
    cases draw with
    | false =>
      refine wp_region ?_
      have := sxOps_sound hT hF (Q := fun e a' w' => Out W0 M st β σ a (dsts (.region id ops false)) (K e) a' w') ops.toList 0 (by simp) h hR (fun a' w' hO => hO)
      simpa [List.range_eq_range'] using this
    | true =>
      simp only at h
      split at h
      · rename_i hd
        exact draw_region hM hT hF hd h hR fun a' w' hO => hO
      · exact h.elim
  | seq x y ihx ihy =>
    intro U st W K h β σ a Wa hR
    simp only [sxC] at h
    split at h
    · refine wp_seq (wp_mono (ihx h hR) ?_)
      intro e a2 w2 hO
      have lift : ∀ {K'}, Out W0 M st β σ a (dsts x) K' a2 w2 → Out W0 M st β σ a (dsts (.seq x y)) K' a2 w2 := fun hO =>
        Out.of (Desc.refl _) agree_refl (fun _ _ => rfl) (ds1 := []) (by simp) (fun _ h => List.mem_append_left _ h) (fun _ _ h => h) hO
      cases e with
      | normal =>
        obtain ⟨β2, σ2, st2, W2, Wa2, rfl, hR2, hK2, hD2, hag2, htm2⟩ := hO
        refine wp_mono (ihy hK2 hR2) ?_
        intro e a4 w4 hO
        exact Out.of hD2 hag2 htm2 (fun _ h => List.mem_append_left _ h) (fun _ h => List.mem_append_right _ h) (fun _ _ h => h) hO
      | exit id => exact lift hO
      | goto l => exact lift hO
      | ret => exact lift hO
      | panic c => exact lift hO
      | outgrown => exact lift hO
    · exact cut_sound (fun st W K h β σ a Wa hR => ihx h hR) (fun st W K h β σ a Wa hR => ihy h hR) h hR
  | cond c x y ihx ihy =>
    intro U st W K h β σ a Wa hR
    simp only [sxC] at h
    obtain ⟨s, hs, h1⟩ := ev_sound (W := W) h
    obtain ⟨t, ht, h2⟩ := split_sound hs
    have he := (h1 β σ a Wa hR.rel hR.ext).1.trans (h2 β σ)
    refine wp_cond he ?_
    cases t with
    | true =>
      refine wp_mono (ihx ht hR) fun e a' w' hO => ?_
      exact Out.of (Desc.refl _) agree_refl (fun _ _ => rfl) (ds1 := []) (by simp) (fun _ h => List.mem_append_left _ h) (fun _ _ h => h) hO
    | false =>
      refine wp_mono (ihy ht hR) fun e a' w' hO => ?_
      exact Out.of (Desc.refl _) agree_refl (fun _ _ => rfl) (ds1 := []) (by simp) (fun _ h => List.mem_append_right _ h) (fun _ _ h => h) hO
  | block id x ih =>
    intro U st W K h β σ a Wa hR
    simp only [sxC] at h
    refine wp_block (wp_mono (ih h hR) ?_)
    intro e a' w' hO
    cases e with
    | exit i =>
      simp only [Exit.inBlock]
      obtain ⟨β2, σ2, st2, W2, Wa2, hw, hR2, hK2, hD2, hag2, htm2⟩ := hO
      replace hK2 : (match Nat.beq i id with | true => K .normal st2 W2 | false => K (.exit i) st2 W2) := hK2
      split at hK2
      · rename_i hb
        rw [if_pos (Nat.eq_of_beq_eq_true hb)]
        exact ⟨β2, σ2, st2, W2, Wa2, hw, hR2, hK2, hD2, hag2, htm2⟩
      · rename_i hb
        rw [if_neg (Nat.ne_of_beq_eq_false hb)]
        exact ⟨β2, σ2, st2, W2, Wa2, hw, hR2, hK2, hD2, hag2, htm2⟩
    | normal => exact hO
    | goto l => exact hO
    | ret => exact hO
    | panic c => exact hO
    | outgrown => exact hO
  | loop x ih =>
    intro U st W K h β σ a Wa hR
    simp only [sxC] at h
    split at h
    · exact loop_sound (fun st W K h β σ a Wa hR => ih h hR) h hR
    · obtain ⟨st1, W1, Wa1, h1, hw, hR1, hD⟩ := pubL_sound h hR
      have := loop_sound (fun st W K h β σ a Wa hR => ih h hR) h1 hR1
      rw [hw] at this
      exact wp_mono this fun e a' w' hO => Out.of hD agree_refl (fun _ _ => rfl) (ds1 := []) (by simp) (fun _ h => h) (fun _ _ h => h) hO
  | _ => exact fun h => h.elim

/-! ### Functions -/
def resF (tmps : Array Value) : ResultVar → Sem Value
  | .tmp t => pure (tmps.getD t undef)
  | .cell a t => do loadVar t (← asAddr (tmps.getD a undef))
theorem results_eq (fn : Func) (tmps : Array Value) : results fn tmps = (do let vs ← fn.results.mapM (resF tmps); pure (if h : vs.size = 1 then vs[0] else .tuple vs)) := by
  unfold results
  have : (fun x : ResultVar => (match x with | .tmp t => pure (tmps.getD t undef) | .cell a t => do loadVar t (← asAddr (tmps.getD a undef)) : Sem Value)) = resF tmps := by
    funext x; cases x <;> rfl
  rw [← this]
  rfl
theorem resK_sound (hT : TabOK P tt) : ∀ {l : List ResultVar} {st : SS} {W Wa : PW} {β : Nat → Nat} {σ : Nat → Value} {a : Act} {K : List Value → SS → PW → Prop} (_ : resK tt W0 l st W K) (_ : Run W0 M st W β σ a Wa),
    ∃ vs st' W' Wa', K vs st' W' ∧ Wa'.w = Wa.w ∧ Run W0 M st' W' β σ a Wa' ∧ (l.mapM (resF a.tmps)).run P Wa.w = .ok vs Wa.w
  | [], st, W, Wa, β, σ, a, K, h, hR => ⟨[], st, W, Wa, h, rfl, hR, rfl⟩
  | .tmp t :: r, st, W, Wa, β, σ, a, K, h, hR => by
    obtain ⟨v, st1, W1, Wa1, h1, he, hw, hR1, hT1, hD1⟩ := evP_sound h hR
    obtain ⟨vs, st2, W2, Wa2, h2, hw2, hR2, hr2⟩ := resK_sound hT (l := r) h1 hR1
    refine ⟨v :: vs, st2, W2, Wa2, h2, hw2.trans hw, hR2, ?_⟩
    rw [hw] at hr2
    have he' : a.tmps.getD t undef = v := he
    simp only [List.mapM_cons, Sem.run_bind, Sem.run_pure, Result.andThen_ok, hr2, resF, he']
  | .cell b t :: r, st, W, Wa, β, σ, a, K, h, hR => by
    simp only [resK] at h
    split at h
    · rename_i i k off hi hb
      have hg := hT.good hi
      obtain ⟨v, hv, h1⟩ := load_sound hg hg.2.2.2.2.1 h
      obtain ⟨v', hv', h2⟩ := toV_sound (W := W) hv
      have e1 := h1 β σ a Wa hR.rel hR.ext
      have e2 : v = v' := h2 β σ a Wa hR.rel hR.ext
      subst e2
      obtain ⟨vs, st2, W2, Wa2, h2, hw2, hR2, hr2⟩ := resK_sound hT (l := r) hv' hR
      refine ⟨v :: vs, st2, W2, Wa2, h2, hw2, hR2, ?_⟩
      have hp : a.tmps.getD b undef = .pointer (some ⟨β k, off, none⟩) := (hR.rel.T _ _ hb).1
      simp only [SV.val, Instr.loadAt, Instr.sureAddr, Sem.run_bind, Sem.run_pure, Result.andThen_ok] at e1
      have ha : (asAddr (a.tmps.getD b undef)).run P Wa.w = .ok ⟨β k, off, none⟩ Wa.w := by rw [hp]; rfl
      simp only [List.mapM_cons, Sem.run_bind, Sem.run_pure, Result.andThen_ok, resF, ha, e1, hr2]
    · exact h.elim
theorem num_look : ∀ {l : List SV} {k i : Nat} {s : SV} (_ : look (num k l) i = some s), k ≤ i ∧ l[i - k]? = some s
  | [], k, i, s, h => by simp [num, look] at h
  | x :: r, k, i, s, h => by
    simp only [num, look_cons] at h
    split at h
    · rename_i he; subst he
      simpa using h
    · rename_i hne
      obtain ⟨h1, h2⟩ := num_look h
      have h1 : k + 1 ≤ i := h1
      refine ⟨by omega, ?_⟩
      rw [show i - k = (i - k.succ) + 1 by omega]
      simpa using h2
/-- A function does what its plain form says. -/
theorem fn_sound (hM : P.follows .mixedOrders = true) (hT : TabOK P tt) (hF : FieldsIn tt) {cuts : List Nat} {f : FuncId} {fn : Func} (hf : P.funcs[f]? = some fn) (hb : fn.body.isSome = true) (hname : (fn.name == "runtime.NumGoroutine") = false) {args : List Value} (hn : args.length ≤ fn.ntmps)
    {Post : Value → PW → Prop} (h : sxFn P tt W0 M cuts fn args Post) : PCallsM P f args W0 M Post := by
  refine ⟨⟨fn, hf, hb, hname⟩, fun hS => ?_⟩
  unfold sxFn at h
  split at h
  · exact h.elim
  rename_i c hc
  refine calls_of_wp hf hc ?_
  have hR : Run W0 M { T := num 0 (args.map .v), C := [], nx := 0, n := fn.ntmps, D := [] } W0 (fun _ => 0) (fun _ => undef) { tmps := args.toArray ++ Array.replicate (fn.ntmps - args.toArray.size) undef, defers := [] } W0 := by
    refine ⟨⟨rfl, by simp; omega, fun i s hs => ?_, fun k bl hk => by simp [look] at hk, fun k k' b1 b2 g _ h1 => by simp [look] at h1, fun i s hs => ?_⟩, Ext.refl _, Keep.refl _ _, fun b hb => .inl hb, hS, fun b hb => hb, hS, fun k bl hk => by simp [look] at hk, fun k bl g hk => by simp [look] at hk⟩
    · obtain ⟨_, h2⟩ := num_look hs
      simp only [Nat.sub_zero, List.getElem?_map, Option.map_eq_some_iff] at h2
      obtain ⟨v, hv, rfl⟩ := h2
      have hlt := (List.getElem?_eq_some_iff.1 hv).1
      refine ⟨?_, trivial⟩
      simp only [SV.val]
      rw [Array.getD_eq_getD_getElem?, Array.getElem?_append_left (by simpa using hlt)]
      simp [hv]
    · obtain ⟨_, h2⟩ := num_look hs
      have := (List.getElem?_eq_some_iff.1 h2).1
      simp at this
      show i < fn.ntmps
      omega
  refine wp_mono (sxC_sound hM hT hF c h hR) ?_
  have fin : ∀ {a' : Act} {w' : World}, Out W0 M { T := num 0 (args.map .v), C := [], nx := 0, n := fn.ntmps, D := [] } (fun _ => 0) (fun _ => undef) { tmps := args.toArray ++ Array.replicate (fn.ntmps - args.toArray.size) undef, defers := [] } (dsts c)
      (fun st W => resK tt W0 fn.results.toList st W fun l _ W => oneV l fun v => ∀ W', Ext W W' → Post v W') a' w' →
      a'.defers = [] ∧ ∃ v, (results fn a'.tmps).run P w' = .ok v w' ∧ ∃ v', Ending.returned v = .returned v' ∧ Keep M W0.w w' ∧ Post v' ⟨w', W0.S⟩ := by
    rintro a' w' ⟨β, σ, st, W, Wa, rfl, hR', hK, _⟩
    refine ⟨hR'.rel.defers, ?_⟩
    obtain ⟨vs, st2, W2, Wa2, h2, hw2, hR2, hr⟩ := resK_sound hT hK hR'
    have hext : Ext W2 ⟨Wa2.w, W0.S⟩ := hR2.ext.trans ⟨Nat.le_refl _, fun b hb hs => ⟨rfl, fun h => hs (hR2.s0 b h)⟩⟩
    have hrun : ∀ v, (if h : vs.toArray.size = 1 then vs.toArray[0] else .tuple vs.toArray) = v → (results fn a'.tmps).run P Wa.w = .ok v Wa.w := by
      intro v hv
      rw [results_eq, Array.mapM_eq_mapM_toList]
      simp only [Sem.run_bind, Sem.run_map, Result.andThen_ok, Sem.run_pure, hr, hv]
    rw [← hw2]
    cases vs with
    | nil => exact ⟨_, by rw [hw2]; exact hrun _ (by simp), _, rfl, hR2.keep, h2 _ hext⟩
    | cons x r =>
      cases r with
      | nil => exact ⟨x, by rw [hw2]; exact hrun x (by simp), x, rfl, hR2.keep, h2 _ hext⟩
      | cons y r => exact ⟨_, by rw [hw2]; exact hrun _ (by simp), _, rfl, hR2.keep, h2 _ hext⟩
  intro e a' w' hO
  cases e with
  | normal => exact fin hO
  | ret => exact fin hO
  | exit id => obtain ⟨_, _, _, _, _, _, _, hK, _⟩ := hO; exact hK.elim
  | goto l => obtain ⟨_, _, _, _, _, _, _, hK, _⟩ := hO; exact hK.elim
  | panic c => obtain ⟨_, _, _, _, _, _, _, hK, _⟩ := hO; exact hK.elim
  | outgrown => obtain ⟨_, _, _, _, _, _, _, hK, _⟩ := hO; exact hK.elim
end Go.SX
