/-
  A region of open order: a part of its operations in any order, then the others in the text's order, but for some that may come at any time.
-/
import Derived.Test.YtnlbekdjepkhcaaFp
set_option linter.unusedVariables false
set_option linter.unusedSimpArgs false
namespace Go.Proofs.YtnlbekdjepkhcaaF
open Go Go.Shelf Go.Proofs.YtnlbekdjepkhcaaS
section
variable {r : Option Nat} {P : Program} {ops : Array Oper} {Q : Exit → Act → World → Prop} {l : List Value} {ds : List Deferred} {w w0 : World} {n i : Nat} {B : List Nat} {DL : List (Nat × Tmp)} {o : Oper} {js : List Nat}
/-- The operations told, one behind the other, while Iw holds; then K. -/
def wpI (P : Program) (ops : Array Oper) (K : List Value → World → Prop) (Iw : World → Prop) : List Nat → List Value → World → Prop
  | [], l, w => Iw w ∧ K l w
  | k :: ks, l, w => Iw w ∧ ∃ o R, nthO ops.toList k = some o ∧ GDoes P ops o l w R ∧ ∀ u w', R u w' → wpI P ops K Iw ks (lput l o.dst u) w'
theorem wpI.iw {K : List Value → World → Prop} {Iw : World → Prop} : ∀ {ks : List Nat} {l : List Value} {w : World}, wpI P ops K Iw ks l w → Iw w
  | [], _, _, h => h.1
  | _ :: _, _, _, h => h.1
/-- All of those below q are through: what is left. -/
def Rest (r : Option Nat) (P : Program) (ops : Array Oper) (Q : Exit → Act → World → Prop) (ds : List Deferred) (n q : Nat) (l : List Value) (w : World) : Prop :=
  ∀ m, ((List.range n).filter fun j => !decide (j < q)).length = m → wpAnyIn (Wf r) 0 P .any ops Q m ((List.range n).map fun j => decide (j < q)).toArray (fr l ds) w
theorem region_floatI {Fl : List Nat} {xs : Nat → Value} {Iw : World → Prop} {p q : Nat} {K : List Value → World → Prop} {lF : List Value} (hB : bOk ops B DL [] = true) (hn : ops.size = n) (hDl : ∀ e ∈ DL, e.2 < l.length) (hlF : lF.length = l.length) (hlF1 : ∀ e ∈ DL, e.1 ∈ Fl → nth lF e.2 = xs e.1) (hlF2 : ∀ t, (∀ e ∈ DL, e.2 = t → e.1 ∉ Fl) → nth lF t = nth l t)
    (hq : q ≤ n) (hcq : ∀ i, q ≤ i → i < n → ∀ j, j < q → bit B i j = true) (hK : ∀ l w, K l w → Rest r P ops Q ds n q l w) (hFl : ∀ f ∈ Fl, (p ≤ f ∧ f < q) ∧ ∀ j, bit B f j = true → j < p ∨ j ∈ Fl) (hord : ∀ i, p ≤ i → i < q → i ∉ Fl → ∀ j, p ≤ j → j < i → j ∉ Fl → bit B i j = true)
    (hlk : ∀ f ∈ Fl, ∀ o, ops[f]? = some o → ∀ t ∈ o.looksAt ops, ∀ e ∈ DL, e.2 = t → p ≤ e.1 → (e.1 ∈ Fl ∧ bit B f e.1 = true) ∨ (e.1 ∉ Fl ∧ bit B e.1 f = true))
    (hF : ∀ f ∈ Fl, ∀ w, Iw w → ∃ o, ops[f]? = some o ∧ GDoes P ops o lF w (fun u w' => u = xs f ∧ w' = w)) :
    ∀ (m : Nat) (b : Nat → Bool) (l' li : List Value) (w : World), ((List.range n).filter fun j => !b j).length = m → (∀ j, j < p → b j = true) → (∀ j, q ≤ j → b j = false) → (∀ i, b i = true → ∀ j, bit B i j = true → b j = true) → l'.length = l.length → li.length = l.length →
      (∀ t, (∀ e ∈ DL, e.2 = t → e.1 ∈ Fl → b e.1 = true) → nth l' t = nth li t) → (∀ e ∈ DL, e.1 ∈ Fl → nth li e.2 = xs e.1) → (∀ t, (∀ e ∈ DL, e.2 = t → e.1 < p ∨ (e.1 ∉ Fl ∧ b e.1 = false)) → nth li t = nth l t) →
      wpI P ops K Iw ((List.range n).filter fun j => (!Fl.contains j && decide (j < q)) && !b j) li w → wpAnyIn (Wf r) 0 P .any ops Q m ((List.range n).map b).toArray (fr l' ds) w := by
  obtain ⟨hops, hlt, hnd1, hnd2, hMs, hMn⟩ := bOk_parts hB
  have getT : ∀ (b : Nat → Bool) (j : Nat), ((List.range n).map b).toArray.getD j true = (if j < n then b j else true) := by
    intro b j
    rw [Array.getD_eq_getD_getElem?, List.getElem?_toArray, List.getElem?_map]
    by_cases h : j < n <;> simp [h]
  have getF : ∀ (b : Nat → Bool) (j : Nat), ((List.range n).map b).toArray.getD j false = (if j < n then b j else false) := by
    intro b j
    rw [Array.getD_eq_getD_getElem?, List.getElem?_toArray, List.getElem?_map]
    by_cases h : j < n <;> simp [h]
  have all_of : ∀ b : Nat → Bool, Region.ready .any ops ((List.range n).map b).toArray = [] → ∀ i, i < n → b i = true := by
    intro b hr i
    induction i using Nat.strongRecOn with
    | _ i ih =>
      intro hi
      cases hb : b i with
      | true => rfl
      | false =>
        obtain ⟨o, ho⟩ : ∃ o, ops[i]? = some o := ⟨_, Array.getElem?_eq_getElem (by omega)⟩
        have : i ∈ Region.ready .any ops ((List.range n).map b).toArray := by
          rw [mem_ready]
          refine ⟨by rw [getT, if_pos hi, hb], o, ho, fun e he hbe => ?_⟩
          have := (hops i o ho).1 e he hbe
          rw [getF, if_pos (by omega)]
          exact ih e.on this (by omega)
        rw [hr] at this
        cases this
  have fin : ∀ (m : Nat) (b : Nat → Bool) (l' li : List Value) (w : World), ((List.range n).filter fun j => !b j).length = m → (∀ j, j < q → b j = true) → (∀ j, q ≤ j → b j = false) → l'.length = l.length → li.length = l.length → (∀ t, (∀ e ∈ DL, e.2 = t → e.1 ∈ Fl → b e.1 = true) → nth l' t = nth li t) → wpI P ops K Iw ((List.range n).filter fun j => (!Fl.contains j && decide (j < q)) && !b j) li w → wpAnyIn (Wf r) 0 P .any ops Q m ((List.range n).map b).toArray (fr l' ds) w := by
    intro m b l' li w hm hb hbq h1 h2 hr1 h
    have hbe : b = fun j => decide (j < q) := by
      funext j
      by_cases hj : j < q
      · rw [hb j hj]; simp [hj]
      · rw [hbq j (Nat.le_of_not_lt hj)]; simp [hj]
    have he : (List.range n).filter (fun j => (!Fl.contains j && decide (j < q)) && !b j) = [] := by
      rw [List.filter_eq_nil_iff]
      intro j hj
      rw [hbe]
      by_cases h : j < q <;> simp [h]
    rw [he] at h
    have : l' = li := nth_ext (by omega) fun t => hr1 t fun e he _ hef => hb _ ((hFl e.1 hef).1.2)
    rw [this, hbe]
    exact hK li w h.2 m (by rw [← hm, hbe])
  intro m
  induction m with
  | zero =>
    intro b l' li w hm hbp hbq hcl h1 h2 hr1 hr2 hr3 h
    have hb : ∀ j, j < n → b j = true := by
      intro j hj
      cases hbj : b j with
      | true => rfl
      | false =>
        have : j ∈ (List.range n).filter fun j => !b j := List.mem_filter.2 ⟨List.mem_range.2 hj, by simp [hbj]⟩
        rw [List.eq_nil_of_length_eq_zero hm] at this
        cases this
    exact fin 0 b l' li w hm (fun j hj => hb j (by omega)) hbq h1 h2 hr1 h
  | succ m ih =>
    intro b l' li w hm hbp hbq hcl h1 h2 hr1 hr2 hr3 h
    by_cases hall : ∀ j, j < q → b j = true
    · exact fin (m + 1) b l' li w hm hall hbq h1 h2 hr1 h
    refine ⟨fun hr => absurd (fun j hj => all_of b hr j (by omega)) hall, fun i hi => ?_⟩
    rw [mem_ready] at hi
    obtain ⟨hbi, o, ho, hedge⟩ := hi
    have hin : i < n := by have := (Array.getElem?_eq_some_iff.1 ho).1; omega
    rw [getT, if_pos hin] at hbi
    obtain ⟨e1, e2, e3, e4, e5, e6, e7⟩ := hops i o ho
    have hpre : ∀ j, bit B i j = true → b j = true := by
      intro j hj
      obtain ⟨e, he, hbe, hor⟩ := e2 j (e7 j hj) hj
      have hbon : b e.on = true := by
        have := hedge e he hbe
        rw [getF] at this
        split at this
        · exact this
        · cases this
      rcases hor with rfl | hor
      · exact hbon
      · exact hcl e.on hbon j hor
    have hiq : i < q := by
      rcases Nat.lt_or_ge i q with h | h
      · exact h
      · exact absurd (fun j hj => hpre j (hcq i h hin j hj)) hall
    have hbq' : ∀ j, q ≤ j → up b i j = false := fun j hj => by unfold up; rw [if_neg (by omega)]; exact hbq j hj
    have hcnt : ((List.range n).filter fun j => !up b i j).length = m := by
      have := count_up hbi List.nodup_range (List.mem_range.2 hin)
      omega
    have hbp' : ∀ j, j < p → up b i j = true := fun j hj => by unfold up; split; rfl; exact hbp j hj
    have hcl' : ∀ k, up b i k = true → ∀ j, bit B k j = true → up b i j = true := by
      intro k hk j hj
      unfold up at hk ⊢
      by_cases hji : j = i
      · rw [if_pos hji]
      · rw [if_neg hji]
        by_cases hki : k = i
        · subst hki; exact hpre j hj
        · rw [if_neg hki] at hk; exact hcl k hk j hj
    have nput : ∀ (l1 : List Value), l1.length = l.length → ∀ u t, nth (lput l1 o.dst u) t = if o.dst = some t then u else nth l1 t := by
      intro l1 hl1 u t
      cases hd : o.dst with
      | none => rw [if_neg (by simp)]; rfl
      | some d =>
        have hdl : d < l1.length := by rw [hl1]; exact hDl (i, d) (e4 d hd)
        show nth (lset l1 d u) t = _
        rw [nth_lset l1 d t u hdl]
        by_cases htd : t = d
        · subst htd; simp
        · rw [if_neg htd, if_neg (by simpa using fun h => htd h.symm)]
    have lput_len : ∀ (l1 : List Value) u, (lput l1 o.dst u).length = l1.length := by
      intro l1 u
      cases o.dst with
      | none => rfl
      | some d => exact lset_length l1 d u
    have hdst : ∀ e ∈ DL, o.dst = some e.2 → e.1 = i := by
      intro e he hd
      have hm' : (i, e.2) ∈ DL := e4 _ hd
      have h3 := find_at hnd2 hm'
      have h4 := find_at (i := e.1) hnd2 (show (e.1, e.2) ∈ DL from he)
      rw [h3] at h4
      have := Option.some.inj h4
      exact (congrArg Prod.fst this).symm
    by_cases hif : i ∈ Fl
    · obtain ⟨o', ho', hg0⟩ := hF i hif w h.iw
      rw [ho] at ho'
      obtain rfl := Option.some.inj ho'
      have hg := gdoes_congr (l1 := l') (l2 := lF) e6 (by omega) (fun t ht => by
        cases hf : DL.find? (fun e => e.2 == t) with
        | none =>
          have hno : ∀ e ∈ DL, e.2 ≠ t := fun e he het => by have := List.find?_eq_none.1 hf e he; simp [het] at this
          rw [hr1 t (fun e he het => absurd het (hno e he)), hr3 t (fun e he het => absurd het (hno e he)), hlF2 t (fun e he het => absurd het (hno e he))]
        | some e =>
          have he := List.mem_of_find?_eq_some hf
          have het : e.2 = t := by simpa using List.find?_some hf
          have huniq : ∀ e' ∈ DL, e'.2 = t → e' = e := fun e' he' het' => by
            have h3 := find_at (i := e'.1) hnd2 (show (e'.1, t) ∈ DL by rw [← het']; exact he')
            rw [hf] at h3
            have := Option.some.inj h3
            rw [this, ← het']
          rcases Nat.lt_or_ge e.1 p with hep | hep
          · have hef : e.1 ∉ Fl := fun h => by have := (hFl e.1 h).1.1; omega
            rw [hr1 t (fun e' he' het' hef' => absurd (huniq e' he' het' ▸ hef') hef), hr3 t (fun e' he' het' => .inl (by rw [huniq e' he' het']; exact hep)), hlF2 t (fun e' he' het' => by rw [huniq e' he' het']; exact hef)]
          · rcases hlk i hif o ho t ht e he het hep with ⟨hef, hbit⟩ | ⟨hef, hbit⟩
            · have hbe := hpre e.1 hbit
              rw [hr1 t (fun e' he' het' _ => by rw [huniq e' he' het']; exact hbe), ← het, hr2 e he hef, hlF1 e he hef]
            · have hbe : b e.1 = false := by
                cases hc : b e.1 with
                | false => rfl
                | true => have := hcl e.1 hc i hbit; rw [hbi] at this; cases this
              rw [hr1 t (fun e' he' het' hef' => absurd (huniq e' he' het' ▸ hef') hef), hr3 t (fun e' he' het' => .inr (by rw [huniq e' he' het']; exact ⟨hef, hbe⟩)), hlF2 t (fun e' he' het' => by rw [huniq e' he' het']; exact hef)]) hg0
      refine gdoes_wp0 ho hg (fun u w' hu => ?_)
      obtain ⟨rfl, rfl⟩ := hu
      rw [list_up]
      refine ih _ _ li _ hcnt hbp' hbq' hcl' (by rw [lput_len]; exact h1) h2 (fun t ht => ?_) hr2 (fun t ht => hr3 t (fun e he het => (ht e he het).imp id fun h => ⟨h.1, by have := h.2; unfold up at this; rwa [if_neg (fun hh => h.1 (by rw [hh]; exact hif))] at this⟩)) ?_
      · rw [nput l' h1]
        by_cases hd : o.dst = some t
        · rw [if_pos hd]
          exact (hr2 (i, t) (e4 t hd) hif).symm
        · rw [if_neg hd]
          refine hr1 t (fun e he het hef => ?_)
          have := ht e he het hef
          unfold up at this
          by_cases hei : e.1 = i
          · exfalso
            cases hd2 : o.dst with
            | none => exact e5 hd2 e he hei
            | some d =>
              have hm' := e4 d hd2
              have := fst_at hnd1 he hm' hei
              exact hd (by rw [hd2, ← het, this])
          · rwa [if_neg hei] at this
      · have : (fun j => (!Fl.contains j && decide (j < q)) && !up b i j) = (fun j => (!Fl.contains j && decide (j < q)) && !b j) := by
          funext j
          unfold up
          by_cases hj : j = i
          · have hc : Fl.contains j = true := by rw [hj]; exact List.contains_iff_mem.2 hif
            rw [hc]; rfl
          · rw [if_neg hj]
        rw [this]; exact h
    · have hmem : i ∈ (List.range n).filter fun j => (!Fl.contains j && decide (j < q)) && !b j := List.mem_filter.2 ⟨List.mem_range.2 hin, by
        have : Fl.contains i = false := by
          cases hc : Fl.contains i with
          | false => rfl
          | true => exact absurd (List.contains_iff_mem.1 hc) hif
        rw [this, hbi, decide_eq_true hiq]; rfl⟩
      cases his : (List.range n).filter fun j => (!Fl.contains j && decide (j < q)) && !b j with
      | nil => rw [his] at hmem; cases hmem
      | cons k is =>
        have hsort : ((List.range n).filter fun j => (!Fl.contains j && decide (j < q)) && !b j).Pairwise (· < ·) := List.pairwise_lt_range.sublist List.filter_sublist
        have hk : k ∈ (List.range n).filter fun j => (!Fl.contains j && decide (j < q)) && !b j := by rw [his]; exact List.mem_cons_self
        obtain ⟨hk1, hk2⟩ := List.mem_filter.1 hk
        rw [Bool.and_eq_true, Bool.and_eq_true] at hk2
        have hkF : k ∉ Fl := fun h => by have := List.contains_iff_mem.2 h; rw [this] at hk2; simp at hk2
        have hkb : b k = false := by simpa using hk2.2
        have hik : i = k := by
          rw [his] at hmem hsort
          rcases List.mem_cons.1 hmem with h | h
          · exact h
          · have hki := (List.pairwise_cons.1 hsort).1 i h
            have hpk : p ≤ k := by
              rcases Nat.lt_or_ge k p with h | h
              · rw [hbp k h] at hkb; cases hkb
              · exact h
            have hpi : p ≤ i := by
              rcases Nat.lt_or_ge i p with h | h
              · rw [hbp i h] at hbi; cases hbi
              · exact h
            have := hpre k (hord i hpi hiq hif k hpk hki hkF)
            rw [hkb] at this
            cases this
        subst hik
        have hrest := filter_up (i := i) (js := is) (b := b) (q := fun j => !Fl.contains j && decide (j < q)) List.nodup_range his
        rw [his] at h
        obtain ⟨_, o', R, ho', hg, hk⟩ := h
        have ho'' := nthO_ops ho'
        rw [ho] at ho''
        obtain rfl := Option.some.inj ho''
        refine gdoes_wp0 ho (gdoes_congr (l2 := li) e6 (by omega) (fun t ht => ?_) hg) (fun u w' hu => ?_)
        · refine hr1 t (fun e he het hef => ?_)
          have h3 := e3 t ht e he het
          rw [Bool.or_eq_true] at h3
          rcases h3 with h3 | h3
          · exact hpre _ h3
          · exfalso
            rcases (hFl e.1 hef).2 i h3 with h4 | h4
            · rw [hbp i h4] at hbi; cases hbi
            · exact hif h4
        · rw [list_up]
          refine ih _ _ (lput li o.dst u) _ hcnt hbp' hbq' hcl' (by rw [lput_len]; exact h1) (by rw [lput_len]; exact h2) (fun t ht => ?_) (fun e he hef => ?_) (fun t ht => ?_) (by rw [hrest]; exact hk u w' hu)
          · rw [nput l' h1, nput li h2]
            by_cases hd : o.dst = some t
            · rw [if_pos hd, if_pos hd]
            · rw [if_neg hd, if_neg hd]
              refine hr1 t (fun e he het hef => ?_)
              have := ht e he het hef
              unfold up at this
              have hne : ¬ e.1 = i := fun h => hif (by rw [← h]; exact hef)
              rwa [if_neg hne] at this
          · rw [nput li h2, if_neg (fun hd => hif (by rw [← hdst e he hd]; exact hef))]
            exact hr2 e he hef
          · rw [nput li h2]
            have hne : ¬ o.dst = some t := fun hd => by
              rcases ht (i, t) (e4 t hd) rfl with h4 | ⟨_, h4⟩
              · have h4 : i < p := h4
                rw [hbp i h4] at hbi; cases hbi
              · simp [up] at h4
            rw [if_neg hne]
            exact hr3 t (fun e he het => (ht e he het).imp id fun h => ⟨h.1, by
              have h5 := h.2
              unfold up at h5
              split at h5
              · cases h5
              · exact h5⟩)
theorem region_preG {O : Nat → Prop} {Ms : List Nat} {Φ : Nat → RF O} {Rs : Nat → World → Prop} {p : Nat} (DLp : List (Nat × Tmp)) (hB : bOk ops B DL Ms = true) (hn : ops.size = n) (hp : p < n) (hDp : DLp = DL.filter (fun e => decide (e.1 < p))) (hMp : ∀ t, t < Ms.length → Ms.getD t 0 < p)
    (hcut : ∀ i, p ≤ i → i < n → ∀ j, j < p → bit B i j = true) (hDl : ∀ e ∈ DL, e.2 < l.length) (hR : ∀ k w w', Rs k w → Only No w w' → Rs k w')
    (hs : ∀ i, i < p → i ∉ Ms → LStep P ops O DL l (fun v => fillL l DL v) w0 n B Ms Φ Rs i) (hm : ∀ t, t < Ms.length → MStep P ops O DL l (fun v => fillL l DL v) w0 n B Φ Rs t (Ms.getD t 0))
    (hend : ∀ (v : Nat → Value) (lo hi : Nat → Nat) w', Only O w0 w' → (∀ j, j < p → (Φ j).p (rs B j v) (v j) (lo j) (hi j) w') → Rs Ms.length w' → Rest r P ops Q ds n p (fillL l DLp v) w') :
    ∀ (m : Nat) (b : Nat → Bool) (a : Act) (w : World), ((List.range n).filter fun j => !b j).length = m → (∀ i, p ≤ i → b i = false) → Inv O l ds w0 n B DL Ms Φ Rs b a w → wpAnyIn (Wf r) 0 P .any ops Q m ((List.range n).map b).toArray a w := by
  obtain ⟨hops, hlt, hnd1, hnd2, hMs, hMn⟩ := bOk_parts hB
  have getT : ∀ (b : Nat → Bool) (j : Nat), ((List.range n).map b).toArray.getD j true = (if j < n then b j else true) := by
    intro b j
    rw [Array.getD_eq_getD_getElem?, List.getElem?_toArray, List.getElem?_map]
    by_cases h : j < n <;> simp [h]
  have getF : ∀ (b : Nat → Bool) (j : Nat), ((List.range n).map b).toArray.getD j false = (if j < n then b j else false) := by
    intro b j
    rw [Array.getD_eq_getD_getElem?, List.getElem?_toArray, List.getElem?_map]
    by_cases h : j < n <;> simp [h]
  have all_of : ∀ b : Nat → Bool, Region.ready .any ops ((List.range n).map b).toArray = [] → ∀ i, i < n → b i = true := by
    intro b hr i
    induction i using Nat.strongRecOn with
    | _ i ih =>
      intro hi
      cases hb : b i with
      | true => rfl
      | false =>
        obtain ⟨o, ho⟩ : ∃ o, ops[i]? = some o := ⟨_, Array.getElem?_eq_getElem (by omega)⟩
        have : i ∈ Region.ready .any ops ((List.range n).map b).toArray := by
          rw [mem_ready]
          refine ⟨by rw [getT, if_pos hi, hb], o, ho, fun e he hbe => ?_⟩
          have := (hops i o ho).1 e he hbe
          rw [getF, if_pos (by omega)]
          exact ih e.on this (by omega)
        rw [hr] at this
        cases this
  intro m
  induction m with
  | zero =>
    intro b a w hm0 hbp hI
    have : p ∈ (List.range n).filter fun j => !b j := List.mem_filter.2 ⟨List.mem_range.2 hp, by simp [hbp p (Nat.le_refl _)]⟩
    rw [List.eq_nil_of_length_eq_zero hm0] at this
    cases this
  | succ m ih =>
    intro b a w hm0 hbp hI
    refine ⟨fun hr => (by have := all_of b hr p hp; rw [hbp p (Nat.le_refl _)] at this; cases this), fun i hi => ?_⟩
    rw [mem_ready] at hi
    obtain ⟨h1, o, ho, hedge⟩ := hi
    have hin : i < n := by have := (Array.getElem?_eq_some_iff.1 ho).1; omega
    rw [getT, if_pos hin] at h1
    obtain ⟨⟨v, lo, hi, k, l', rfl, hlen, hl', hO, hΦ, hIv, hk, hms, hr⟩, hcl⟩ := hI
    obtain ⟨e1, e2, e3, e4, e5, e6, e7⟩ := hops i o ho
    obtain ⟨v, hl', hΦ, hold⟩ : ∃ v : Nat → Value, (∀ t, nth l' t = sel DL b v l t) ∧ (∀ j, j < n → b j = true → (Φ j).p (rs B j v) (v j) (lo j) (hi j) w) ∧ (∀ e ∈ DL, b e.1 = false → v e.1 = nth l e.2) := by
      refine ⟨fun j => if b j then v j else match DL.find? (fun e => e.1 == j) with | some e => nth l e.2 | none => undef, fun t => ?_, fun j hj hbj => ?_, fun e he hbe => ?_⟩
      · rw [hl' t]
        unfold sel
        split
        · split
          · rename_i hb; exact (if_pos hb).symm
          · rfl
        · rfl
      · have h1 : rs B j (fun j => if b j then v j else match DL.find? (fun e => e.1 == j) with | some e => nth l e.2 | none => undef) = rs B j v := by
          funext m
          unfold rs
          split
          · rename_i hm; exact if_pos (hcl j hbj m hm)
          · rfl
        rw [h1]
        simp only [hbj, if_true]
        exact hΦ j hj hbj
      · have hf : DL.find? (fun e' => e'.1 == e.1) = some e := by
          cases hf : DL.find? (fun e' => e'.1 == e.1) with
          | none => have := List.find?_eq_none.1 hf e he; simp at this
          | some e' => rw [fst_at hnd1 (List.mem_of_find?_eq_some hf) he (by simpa using List.find?_some hf)]
        simp only [hbe, hf]
        rfl
    have hold' : ∀ e ∈ DL, bit B e.1 i = true → v e.1 = nth l e.2 := fun e he hbe => hold e he (by
      cases hb : b e.1 with
      | false => rfl
      | true => have := hcl e.1 hb i hbe; rw [h1] at this; cases this)
    have hpre : ∀ j, bit B i j = true → b j = true := by
      intro j hj
      obtain ⟨e, he, hbe, hor⟩ := e2 j (e7 j hj) hj
      have hbon : b e.on = true := by
        have := hedge e he hbe
        rw [getF] at this
        split at this
        · exact this
        · cases this
      rcases hor with rfl | hor
      · exact hbon
      · exact hcl e.on hbon j hor
    have hkmin : ∀ t, t < Ms.length → bit B i (Ms.getD t 0) = true → t < k := fun t ht hb => (hms t ht).1 (hpre _ hb)
    have hkmax : ∀ t, t < Ms.length → bit B (Ms.getD t 0) i = true → k ≤ t := by
      intro t ht hb
      rcases Nat.lt_or_ge t k with h | h
      · have := hcl _ ((hms t ht).2 h) i hb
        rw [h1] at this
        cases this
      · exact h
    have hIv' : Ivs (fun j => bit B i j = true) lo hi w0 w := ⟨fun j hj => hIv.1 j (hpre j hj), fun x y hx hy => hIv.2 x y (hpre x hx) (hpre y hy)⟩
    have hΦ' : ∀ j, bit B i j = true → (Φ j).p (rs B j v) (v j) (lo j) (hi j) w := fun j hj => hΦ j (by have := e7 j hj; omega) (hpre j hj)
    have hcnt : ((List.range n).filter fun j => !up b i j).length = m := by
      have := count_up h1 List.nodup_range (List.mem_range.2 hin)
      omega
    by_cases hip : i < p
    case neg =>
      have hpi : p ≤ i := Nat.le_of_not_lt hip
      have hball : ∀ j, j < p → b j = true := fun j hj => hpre j (hcut i hpi hin j hj)
      have hbe : b = fun j => decide (j < p) := by
        funext j
        by_cases hj : j < p
        · rw [hball j hj]; simp [hj]
        · rw [hbp j (Nat.le_of_not_lt hj)]; simp [hj]
      have hke : k = Ms.length := by
        rcases Nat.lt_or_ge k Ms.length with h | h
        · have := (hms k h).1 (hball _ (hMp k h))
          omega
        · omega
      have hfl : l' = fillL l DLp v := by
        refine nth_ext (by rw [hlen, fillL_length]) (fun t => ?_)
        have hnd2' : (DLp.map (·.2)).Nodup := by rw [hDp]; exact hnd2.sublist (List.filter_sublist.map _)
        have hlt' : ∀ e ∈ DLp, e.2 < l.length := fun e he => hDl e (by rw [hDp] at he; exact (List.mem_filter.1 he).1)
        rw [hl' t, nth_fillL DLp l v t hlt' hnd2']
        unfold sel
        cases hf : DL.find? (fun e => e.2 == t) with
        | none =>
          have : DLp.find? (fun e => e.2 == t) = none := by
            rw [List.find?_eq_none] at hf ⊢
            exact fun e he => hf e (by rw [hDp] at he; exact (List.mem_filter.1 he).1)
          rw [this]
        | some e =>
          have he := List.mem_of_find?_eq_some hf
          have het : e.2 = t := by simpa using List.find?_some hf
          by_cases hep : e.1 < p
          · have hm' : (e.1, t) ∈ DLp := by rw [hDp, ← het]; exact List.mem_filter.2 ⟨he, by simpa using hep⟩
            rw [find_at hnd2' hm']
            simp [hball e.1 hep]
          · have : DLp.find? (fun e => e.2 == t) = none := by
              rw [List.find?_eq_none]
              intro e' he' h'
              rw [hDp] at he'
              obtain ⟨h1', h2'⟩ := List.mem_filter.1 he'
              have h3' : e'.2 = t := by simpa using h'
              have := find_at hnd2 (show (e'.1, t) ∈ DL by rw [← h3']; exact h1')
              rw [hf] at this
              have := Option.some.inj this
              rw [this] at hep
              simp at h2' hep
              omega
            rw [this]
            simp [hbp e.1 (Nat.le_of_not_lt hep)]
      subst hke
      have hT := hend v lo hi w hO (fun j hj => hΦ j (by omega) (hball j hj)) hr
      rw [← hfl] at hT
      have hgo := hT (m + 1) (by rw [← hm0, hbe])
      rw [← hbe] at hgo
      exact hgo.2 i (by rw [mem_ready]; exact ⟨by rw [getT, if_pos hin]; exact h1, o, ho, hedge⟩)
    have hbp' : ∀ j, p ≤ j → up b i j = false := fun j hj => by simp only [up, show j ≠ i by omega, if_false]; exact hbp j hj
    by_cases hiM : i ∈ Ms
    · obtain ⟨t, ht, hti⟩ : ∃ t, t < Ms.length ∧ Ms.getD t 0 = i := by
        obtain ⟨t, ht, hti⟩ := List.getElem_of_mem hiM
        exact ⟨t, ht, by rw [List.getD_eq_getElem?_getD, List.getElem?_eq_getElem ht]; exact hti⟩
      have hkt : k = t := by
        have h2 : ¬ t < k := fun h => by
          have := (hms t ht).2 h
          rw [hti, h1] at this
          cases this
        rcases Nat.eq_zero_or_pos t with h0 | h0
        · omega
        · have h3 := (hMs t ht).2 (t - 1) (by omega)
          rw [hti] at h3
          have := hkmin (t - 1) (by omega) h3
          omega
      subst hkt
      obtain ⟨o', ho'', hg⟩ := hm k ht v lo hi w hO (by rw [hti]; exact hΦ') (by rw [hti]; exact hIv') hr (by rw [hti]; exact hold')
      have ho' := nthO_ops ho''
      rw [hti] at ho' hg
      rw [ho] at ho'
      obtain rfl := Option.some.inj ho'
      refine gdoes_wp (l := l) (DL := DL) hB hDl ho hlen hl' hold hg (fun u w' hu => ?_)
      rw [list_up]
      obtain ⟨hu1, hu2, hu3⟩ := hu
      refine ih _ _ _ hcnt hbp' (inv_up hB hn hDl ho h1 hlen hl' hO hΦ hIv hcl hpre hu1 hu3 ht (fun s hs' => ?_) hu2)
      by_cases hst : s = k
      · subst hst; rw [hti]; simp [up]
      · have hne : Ms.getD s 0 ≠ i := by
          intro h
          rw [← hti, List.getD_eq_getElem?_getD, List.getD_eq_getElem?_getD, List.getElem?_eq_getElem hs', List.getElem?_eq_getElem ht] at h
          exact hst (nodup_at hMn hs' ht (by simpa using h))
        simp only [up, hne, if_false]
        rw [hms s hs']
        omega
    · obtain ⟨o', ho'', hg⟩ := hs i hip hiM v lo hi w k hO hΦ' hIv' hkmin hkmax hk hr hold'
      have ho' := nthO_ops ho''
      rw [ho] at ho'
      obtain rfl := Option.some.inj ho'
      refine gdoes_wp (l := l) (DL := DL) hB hDl ho hlen hl' hold hg (fun u w' hu => ?_)
      rw [list_up]
      refine ih _ _ _ hcnt hbp' (inv_up hB hn hDl ho h1 hlen hl' hO hΦ hIv hcl hpre hu.1 (No.any hu.2) hk (fun s hs' => ?_) (hR _ _ _ hr hu.2))
      have hne : Ms.getD s 0 ≠ i := by
        intro h
        refine hiM ?_
        rw [← h, List.getD_eq_getElem?_getD, List.getElem?_eq_getElem hs']
        exact List.getElem_mem hs'
      simp only [up, hne, if_false]
      exact hms s hs'


theorem drawnG {O : Nat → Prop} {id : Nat} (p : Nat) (B : List Nat) (DL DLp : List (Nat × Tmp)) (Ls : List Nat) (Ms : List Nat) (Φ : Nat → RF O) (Rs : Nat → World → Prop)
    (lv lp : (Nat → Value) → List Value) (hmx : P.follows .mixedOrders = true) (hB : bOk ops B DL Ms = true) (hn : ops.size = n) (hp : p < n) (hDp : DLp = DL.filter (fun e => decide (e.1 < p))) (hMp : (Ms.all fun t => decide (t < p)) = true)
    (hlate : ((List.range n).all fun i => decide (i < p) || (List.range p).all fun j => bit B i j) = true) (hLs : ((List.range p).all fun i => Ls.contains i || Ms.contains i) = true)
    (hDl : (DL.all fun e => decide (e.2 < l.length)) = true) (hlv : ∀ v, fillL l DL v = lv v) (hlp : ∀ v, fillL l DLp v = lp v) (hR : ∀ k w w', Rs k w → Only No w w' → Rs k w') (h0 : Rs 0 w0)
    (hs : ∀ i ∈ Ls, LStep P ops O DL l lv w0 n B Ms Φ Rs i) (hm : ∀ t, t < Ms.length → MStep P ops O DL l lv w0 n B Φ Rs t (Ms.getD t 0))
    (hend : ∀ (v : Nat → Value) (lo hi : Nat → Nat) w', Only O w0 w' → (∀ j, j < p → (Φ j).p (rs B j v) (v j) (lo j) (hi j) w') → Rs Ms.length w' → Rest r P ops Q ds n p (lp v) w') :
    (Code.region id ops true).wpIn (Wf r) 0 P Q (fr l ds) w0 := by
  obtain rfl : (fun v => fillL l DL v) = lv := funext hlv
  obtain rfl : (fun v => fillL l DLp v) = lp := funext hlp
  refine wpIn_region_any hmx ?_
  have hdr : Only No w0 { w0 with drawn := w0.drawn + 1 } := ⟨rfl, rfl, rfl, Nat.le_refl _, fun _ _ _ => rfl⟩
  have hl : Array.replicate ops.size false = ((List.range n).map fun _ => false).toArray := by
    rw [hn]
    apply Array.ext'
    simp [List.map_const']
  rw [hl, hn]
  have hDl' : ∀ e ∈ DL, e.2 < l.length := fun e he => by simpa using List.all_eq_true.1 hDl e he
  have hf : ((List.range n).filter fun _ => !false).length = n := by
    have h1 : ((List.range n).filter fun _ => !false) = List.range n := List.filter_eq_self.2 (fun _ _ => rfl)
    rw [h1, List.length_range]
  have hsel : ∀ t, nth l t = sel DL (fun _ => false) (fun _ => undef) l t := by
    intro t
    unfold sel
    split <;> simp
  refine region_preG (p := p) DLp hB hn hp hDp (fun t ht => ?_) (fun i h1 h2 j hj => ?_) hDl' hR (fun i hi hM => hs i ?_) hm hend n (fun _ => false) _ _ hf (fun _ _ => rfl) ⟨⟨fun _ => undef, fun _ => 0, fun _ => 0, 0, l, rfl, rfl, hsel, No.any hdr, (fun _ _ h => by cases h), ⟨(fun _ h => by cases h), (fun _ _ h => by cases h)⟩, Nat.zero_le _, (fun t _ => ⟨(fun h => by cases h), (fun h => absurd h (Nat.not_lt_zero t))⟩), hR _ _ _ h0 hdr⟩, (fun _ h => by cases h)⟩
  · have := List.all_eq_true.1 hMp (Ms.getD t 0) (by rw [List.getD_eq_getElem?_getD, List.getElem?_eq_getElem ht]; exact List.getElem_mem ht)
    simpa using this
  · have := List.all_eq_true.1 hlate i (List.mem_range.2 h2)
    rw [Bool.or_eq_true] at this
    rcases this with h | h
    · have : i < p := by simpa using h
      omega
    · exact List.all_eq_true.1 h j (List.mem_range.2 hj)
  · have := List.all_eq_true.1 hLs i (List.mem_range.2 hi)
    rw [Bool.or_eq_true] at this
    rcases this with h | h
    · exact List.contains_iff_mem.1 h
    · exact absurd (List.contains_iff_mem.1 h) hM
/-- All is through. -/
theorem rest_done (hn : ops.size = n) (h : Q .normal (fr l ds) w) : Rest r P ops Q ds n n l w := by
  intro m hm
  have h0 : (List.range n).filter (fun j => !decide (j < n)) = [] := by
    rw [List.filter_eq_nil_iff]
    intro j hj
    simp [List.mem_range.1 hj]
  rw [h0] at hm
  subst hm
  refine ⟨List.eq_nil_iff_forall_not_mem.2 (fun i hi => ?_), h⟩
  rw [mem_ready] at hi
  obtain ⟨h1, o, ho, _⟩ := hi
  have hin : i < n := by have := (Array.getElem?_eq_some_iff.1 ho).1; omega
  rw [Array.getD_eq_getD_getElem?, List.getElem?_toArray, List.getElem?_map, List.getElem?_range hin] at h1
  simp [hin] at h1
/-- From p to q: a chain, and those that may come at any time. -/
theorem rest_seg {p q : Nat} (Fl N : List Nat) (FD DL : List (Nat × Tmp)) (B : List Nat) (xs : Nat → Value) (lF : List Value) (Iw : World → Prop) (hB0 : bOk ops B DL [] = true) (hn : ops.size = n) (hq : q ≤ n) (hcq : ((List.range n).all fun i => decide (i < q) || (List.range q).all fun j => bit B i j) = true)
    (hFl : (Fl.all fun f => ((decide (p ≤ f) && decide (f < q)) && decide (B.getD f 0 < 2 ^ n)) && (List.range n).all fun j => !bit B f j || (decide (j < p) || Fl.contains j)) = true) (hFD : FD = DL.filter (fun e => Fl.contains e.1)) (hN : ((List.range n).filter fun j => (!Fl.contains j && decide (j < q)) && !decide (j < p)) = N) (hlF : fillL l FD xs = lF)
    (hlk : (Fl.all fun f => match ops[f]? with | some o => (o.looksAt ops).all fun t => DL.all fun e => !(e.2 == t) || (decide (e.1 < p) || ((Fl.contains e.1 && bit B f e.1) || (!Fl.contains e.1 && bit B e.1 f))) | none => true) = true)
    (hord : ((List.range q).all fun i => (decide (i < p) || Fl.contains i) || (List.range i).all fun j => (decide (j < p) || Fl.contains j) || bit B i j) = true) (hDl : (DL.all fun e => decide (e.2 < l.length)) = true) (hpq : p ≤ q)
    (hF : ∀ w, Iw w → ∀ f ∈ Fl, ∃ o, nthO ops.toList f = some o ∧ GDoes P ops o lF w (fun u w' => u = xs f ∧ w' = w)) (h : wpI P ops (Rest r P ops Q ds n q) Iw N lF w) : Rest r P ops Q ds n p l w := by
  intro m hm
  subst hlF
  have hin := bOk_parts hB0
  obtain ⟨_, hlt, hnd1, hnd2, _, _⟩ := hin
  have hDl' : ∀ e ∈ DL, e.2 < l.length := fun e he => by simpa using List.all_eq_true.1 hDl e he
  have hnd2F : (FD.map (·.2)).Nodup := by rw [hFD]; exact hnd2.sublist (List.filter_sublist.map _)
  have hmF : ∀ e, e ∈ FD ↔ e ∈ DL ∧ e.1 ∈ Fl := fun e => by rw [hFD, List.mem_filter, List.contains_iff_mem]
  have hltF : ∀ e ∈ FD, e.2 < l.length := fun e he => hDl' e ((hmF e).1 he).1
  have hlF := fun t => nth_fillL FD l xs t hltF hnd2F
  have hlF1 : ∀ e ∈ DL, e.1 ∈ Fl → nth (fillL l FD xs) e.2 = xs e.1 := fun e he hef => by
    rw [hlF e.2]
    unfold sel
    rw [find_at hnd2F (show (e.1, e.2) ∈ FD from (hmF e).2 ⟨he, hef⟩)]
    rfl
  have hlF2 : ∀ t, (∀ e ∈ DL, e.2 = t → e.1 ∉ Fl) → nth (fillL l FD xs) t = nth l t := fun t ht => by
    rw [hlF t]
    unfold sel
    cases hf : FD.find? (fun e => e.2 == t) with
    | none => rfl
    | some e =>
      have he := (hmF e).1 (List.mem_of_find?_eq_some hf)
      exact absurd he.2 (ht e he.1 (by simpa using List.find?_some hf))
  have hFl' : ∀ f ∈ Fl, (p ≤ f ∧ f < q) ∧ ∀ j, bit B f j = true → j < p ∨ j ∈ Fl := fun f hf => by
    have := List.all_eq_true.1 hFl f hf
    rw [Bool.and_eq_true, Bool.and_eq_true, Bool.and_eq_true, decide_eq_true_eq, decide_eq_true_eq, decide_eq_true_eq] at this
    obtain ⟨⟨⟨h1, h2⟩, h3⟩, h4⟩ := this
    refine ⟨⟨h1, h2⟩, fun j hj => ?_⟩
    have hjn : j < n := by
      rcases Nat.lt_or_ge j n with h | h
      · exact h
      · have h6 : B.getD f 0 < 2 ^ j := Nat.lt_of_lt_of_le h3 (Nat.pow_le_pow_right (by decide) h)
        have := Nat.testBit_lt_two_pow h6
        unfold bit at hj
        rw [this] at hj
        cases hj
    have h5 := List.all_eq_true.1 h4 j (List.mem_range.2 hjn)
    rw [Bool.or_eq_true, Bool.or_eq_true, hj] at h5
    rcases h5 with h5 | h5 | h5
    · cases h5
    · exact .inl (by simpa using h5)
    · exact .inr (List.contains_iff_mem.1 h5)
  refine region_floatI (r := r) (P := P) (ops := ops) (Q := Q) (ds := ds) (l := l) (Fl := Fl) (xs := xs) (p := p) (q := q) (K := Rest r P ops Q ds n q) (lF := fillL l FD xs) (Iw := Iw) hB0 hn hDl' (by rw [fillL_length]) hlF1 hlF2 hq (fun i h1 h2 j hj => ?_) (fun _ _ h => h) hFl' (fun i h1 h2 hif j hpj hj hjf => ?_) (fun f hf o ho t ht e he het hpe => ?_)
    (fun f hf w hw => by obtain ⟨o, ho, hg⟩ := hF w hw f hf; exact ⟨o, nthO_ops ho, hg⟩) m (fun j => decide (j < p)) l (fillL l FD xs) w hm (fun j hj => decide_eq_true hj) (fun j hj => decide_eq_false (by omega)) (fun i hi j hj => ?_) rfl (by rw [fillL_length]) (fun t ht => ?_) hlF1 (fun t ht => ?_) (by rw [hN]; exact h)
  · have := List.all_eq_true.1 hcq i (List.mem_range.2 h2)
    rw [Bool.or_eq_true] at this
    rcases this with h | h
    · have : i < q := by simpa using h
      omega
    · exact List.all_eq_true.1 h j (List.mem_range.2 hj)
  · have := List.all_eq_true.1 hord i (List.mem_range.2 h2)
    simp only [Bool.or_eq_true, decide_eq_true_eq, List.contains_iff_mem] at this
    rcases this with (h | h) | h
    · omega
    · exact absurd h hif
    · have h3 := List.all_eq_true.1 h j (List.mem_range.2 hj)
      simp only [Bool.or_eq_true, decide_eq_true_eq, List.contains_iff_mem] at h3
      rcases h3 with (h3 | h3) | h3
      · omega
      · exact absurd h3 hjf
      · exact h3
  · have h1 := List.all_eq_true.1 hlk f hf
    rw [ho] at h1
    have h2 := List.all_eq_true.1 (List.all_eq_true.1 h1 t ht) e he
    simp only [Bool.or_eq_true, Bool.and_eq_true, Bool.not_eq_true', beq_eq_false_iff_ne, decide_eq_true_eq, List.contains_iff_mem] at h2
    rcases h2 with h2 | h2 | h2 | h2
    · exact absurd het h2
    · omega
    · exact .inl h2
    · exact .inr ⟨fun hh => absurd (List.contains_iff_mem.2 hh) (by rw [h2.1]; decide), h2.2⟩
  · have hi' : i < p := by simpa using hi
    have key : ∀ i, ∀ j, i < ops.size → bit B i j = true → j < i := by
      have hops := (bOk_parts hB0).1
      intro i
      induction i using Nat.strongRecOn with
      | _ i ih =>
        intro j hs hj
        have hp := hops i _ (Array.getElem?_eq_getElem hs)
        obtain ⟨e, he, hb, h⟩ := hp.2.1 j (hp.2.2.2.2.2.2 j hj) hj
        have h1 := hp.1 e he hb
        rcases h with h | h
        · omega
        · have := ih e.on h1 j (by omega) h; omega
    have := key i j (by omega) hj
    exact decide_eq_true (by omega)
  · refine (hlF2 t (fun e he het hef => ?_)).symm
    have := ht e he het hef
    have := (hFl' e.1 hef).1.1
    simp at *
    omega
  · refine hlF2 t (fun e he het hef => ?_)
    rcases ht e he het with h | h
    · have := (hFl' e.1 hef).1.1; omega
    · exact h.1 hef
end
end Go.Proofs.YtnlbekdjepkhcaaF
