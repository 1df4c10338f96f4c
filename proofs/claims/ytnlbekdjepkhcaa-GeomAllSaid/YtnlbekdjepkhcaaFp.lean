/-
  A region of open order in which all but some moves stand one behind the other: it is walked in the text's order.
-/
import Derived.Test.YtnlbekdjepkhcaaFz
set_option linter.unusedVariables false
set_option linter.unusedSimpArgs false
namespace Go.Proofs.YtnlbekdjepkhcaaF
open Go Go.Shelf Go.Proofs.YtnlbekdjepkhcaaS
section
variable {r : Option Nat} {P : Program} {ops : Array Oper} {Q : Exit → Act → World → Prop} {l : List Value} {ds : List Deferred} {w w0 : World} {n i : Nat} {B : List Nat} {DL : List (Nat × Tmp)} {o : Oper} {js : List Nat}
/-- The operations told, one behind the other. -/
def wpS (r : Option Nat) (P : Program) (ops : Array Oper) (Q : Exit → Act → World → Prop) (ds : List Deferred) : List Nat → List Value → World → Prop
  | [], l, w => Q .normal (fr l ds) w
  | k :: ks, l, w => ∃ o R, nthO ops.toList k = some o ∧ GDoes P ops o l w R ∧ ∀ u w', R u w' → wpS r P ops Q ds ks (lput l o.dst u) w'
theorem wS.done (h : Q .normal (fr l ds) w) : wpS r P ops Q ds [] l w := h
theorem wS.op {R : Value → World → Prop} (ho : nthO ops.toList i = some o) (hg : o.guard = none) (h : Does P o (ev l) w R) (hk : ∀ u w', R u w' → wpS r P ops Q ds js (lput l o.dst u) w') : wpS r P ops Q ds (i :: js) l w := ⟨o, R, ho, gd hg h, hk⟩
theorem wS.on {R : Value → World → Prop} {g : Nat} {u : Bool} {og : Oper} {t : Tmp} (ho : nthO ops.toList i = some o) (hg : o.guard = some (g, u)) (hog : ops[g]? = some og) (hd : og.dst = some t) (hl : t < l.length) (hv : nth l t = .bool u) (h : Does P o (ev l) w R) (hk : ∀ u w', R u w' → wpS r P ops Q ds js (lput l o.dst u) w') : wpS r P ops Q ds (i :: js) l w := ⟨o, R, ho, gd_on hg hog hd hl hv h, hk⟩
theorem wS.off {g : Nat} {u : Bool} {og : Oper} {t : Tmp} (ho : nthO ops.toList i = some o) (hg : o.guard = some (g, u)) (hog : ops[g]? = some og) (hd : og.dst = some t) (hl : t < l.length) (hv : nth l t = .bool (!u)) (hk : wpS r P ops Q ds js (lput l o.dst undef) w) : wpS r P ops Q ds (i :: js) l w :=
  ⟨o, fun u w' => u = undef ∧ w' = w, ho, gd_off hg hog hd hl hv ⟨rfl, rfl⟩, by rintro _ _ ⟨rfl, rfl⟩; exact hk⟩
theorem wS.offu {g : Nat} {u : Bool} {og : Oper} {t : Tmp} (ho : nthO ops.toList i = some o) (hg : o.guard = some (g, u)) (hog : ops[g]? = some og) (hd : og.dst = some t) (hl : t < l.length) (hv : nth l t = undef) (hk : wpS r P ops Q ds js (lput l o.dst undef) w) : wpS r P ops Q ds (i :: js) l w :=
  ⟨o, fun u w' => u = undef ∧ w' = w, ho, gd_offu hg hog hd hl hv ⟨rfl, rfl⟩, by rintro _ _ ⟨rfl, rfl⟩; exact hk⟩
theorem wS.is {v : Value} (ho : nthO ops.toList i = some o) (hg : o.guard = none) (h : DV P o (ev l) w v) (hk : wpS r P ops Q ds js (lput l o.dst v) w) : wpS r P ops Q ds (i :: js) l w := wS.op ho hg h (by rintro _ _ ⟨rfl, rfl⟩; exact hk)
theorem wS.onis {v : Value} {g : Nat} {u : Bool} {og : Oper} {t : Tmp} (ho : nthO ops.toList i = some o) (hg : o.guard = some (g, u)) (hog : ops[g]? = some og) (hd : og.dst = some t) (hl : t < l.length) (hv : nth l t = .bool u) (h : DV P o (ev l) w v) (hk : wpS r P ops Q ds js (lput l o.dst v) w) : wpS r P ops Q ds (i :: js) l w := wS.on ho hg hog hd hl hv h (by rintro _ _ ⟨rfl, rfl⟩; exact hk)
theorem wS.flat (l' : List Value) (h : l = l') (hk : wpS r P ops Q ds js l' w) : wpS r P ops Q ds js l w := by rw [h]; exact hk

theorem gdoes_wp0 {R : Value → World → Prop} {K : Act → World → Prop} (ho : ops[i]? = some o) (h : GDoes P ops o l w R) (hK : ∀ u w', R u w' → K (fr (lput l o.dst u) ds) w') : wpOpIn (Wf r) 0 P ops Q i K (fr l ds) w := by
  unfold wpOpIn
  rw [ho]
  show (if Region.wanted o (yielded ops l.toArray) = true then _ else _)
  unfold GDoes at h
  split
  · next hw =>
    rw [if_pos hw] at h
    refine Does.wp (R := R) (by rw [fr_eval]; exact h) (fun u w' hu => ?_)
    rw [fr_put]
    exact hK u w' hu
  · next hw =>
    rw [if_neg hw] at h
    rw [fr_put]
    exact ⟨fun _ _ => trivial, hK _ _ h⟩
theorem filter_up {b : Nat → Bool} {q : Nat → Bool} {L : List Nat} (hnd : L.Nodup) (h : L.filter (fun j => q j && !b j) = i :: js) : L.filter (fun j => q j && !up b i j) = js := by
  have h1 : L.filter (fun j => q j && !up b i j) = (L.filter fun j => q j && !b j).filter fun j => decide (j ≠ i) := by
    rw [List.filter_filter]
    congr 1
    funext j
    unfold up
    by_cases hj : j = i
    · subst hj; simp
    · simp [hj]
  have hnd2 : (i :: js).Nodup := h ▸ hnd.sublist List.filter_sublist
  rw [h1, h, List.filter_cons_of_neg (by simp), List.filter_eq_self]
  intro j hj
  have := (List.nodup_cons.1 hnd2).1
  simp only [ne_eq, decide_eq_true_eq]
  rintro rfl
  exact this hj
theorem region_float {Fl : List Nat} {xs : Nat → Value} (hB : bOk ops B DL [] = true) (hn : ops.size = n) (hDl : ∀ e ∈ DL, e.2 < l.length) (hFl : ∀ f ∈ Fl, B.getD f 0 = 0) {p : Nat} (hord : ∀ i, p ≤ i → i < n → i ∉ Fl → ∀ j, p ≤ j → j < i → j ∉ Fl → bit B i j = true)
    (hF : ∀ f ∈ Fl, ∀ l2 w, l2.length = l.length → (∀ t, (∀ e ∈ DL, e.2 ≠ t) → nth l2 t = nth l t) → ∃ o, ops[f]? = some o ∧ GDoes P ops o l2 w (fun u w' => u = xs f ∧ w' = w)) :
    ∀ (m : Nat) (b : Nat → Bool) (l' li : List Value) (w : World), ((List.range n).filter fun j => !b j).length = m → (∀ j, j < p → j ∉ Fl → b j = true) → (∀ i, b i = true → ∀ j, bit B i j = true → b j = true) → l'.length = l.length → li.length = l.length →
      (∀ t, (∀ e ∈ DL, e.2 = t → e.1 ∈ Fl → b e.1 = true) → nth l' t = nth li t) → (∀ e ∈ DL, e.1 ∈ Fl → nth li e.2 = xs e.1) → (∀ t, (∀ e ∈ DL, e.2 ≠ t) → nth li t = nth l t) →
      wpS r P ops Q ds ((List.range n).filter fun j => !Fl.contains j && !b j) li w → wpAnyIn (Wf r) 0 P .any ops Q m ((List.range n).map b).toArray (fr l' ds) w := by
  obtain ⟨hops, hlt, hnd1, hnd2, hMs, hMn⟩ := bOk_parts hB
  have getT : ∀ (b : Nat → Bool) (j : Nat), ((List.range n).map b).toArray.getD j true = (if j < n then b j else true) := by
    intro b j
    rw [Array.getD_eq_getD_getElem?, List.getElem?_toArray, List.getElem?_map]
    by_cases h : j < n <;> simp [h]
  have getF : ∀ (b : Nat → Bool) (j : Nat), ((List.range n).map b).toArray.getD j false = (if j < n then b j else false) := by
    intro b j
    rw [Array.getD_eq_getD_getElem?, List.getElem?_toArray, List.getElem?_map]
    by_cases h : j < n <;> simp [h]
  have all_of : ∀ b : Nat → Bool, Region.ready .any ops ((List.range n).map b).toArray = [] → ∀ i, i < n → b i = true := by
    intro b hr i
    induction i using Nat.strongRecOn with
    | _ i ih =>
      intro hi
      cases hb : b i with
      | true => rfl
      | false =>
        obtain ⟨o, ho⟩ : ∃ o, ops[i]? = some o := ⟨_, Array.getElem?_eq_getElem (by omega)⟩
        have : i ∈ Region.ready .any ops ((List.range n).map b).toArray := by
          rw [mem_ready]
          refine ⟨by rw [getT, if_pos hi, hb], o, ho, fun e he hbe => ?_⟩
          have := (hops i o ho).1 e he hbe
          rw [getF, if_pos (by omega)]
          exact ih e.on this (by omega)
        rw [hr] at this
        cases this
  have fin : ∀ (b : Nat → Bool) (l' li : List Value) (w : World), (∀ j, j < n → b j = true) → l'.length = l.length → li.length = l.length → (∀ t, (∀ e ∈ DL, e.2 = t → e.1 ∈ Fl → b e.1 = true) → nth l' t = nth li t) → wpS r P ops Q ds ((List.range n).filter fun j => !Fl.contains j && !b j) li w → Q .normal (fr l' ds) w := by
    intro b l' li w hb h1 h2 hr1 h
    have he : (List.range n).filter (fun j => !Fl.contains j && !b j) = [] := by
      rw [List.filter_eq_nil_iff]
      intro j hj
      simp [hb j (List.mem_range.1 hj)]
    rw [he] at h
    have : l' = li := nth_ext (by omega) fun t => hr1 t fun e he _ _ => hb _ (by have := hlt e he; omega)
    rw [this]; exact h
  intro m
  induction m with
  | zero =>
    intro b l' li w hm hbp hcl h1 h2 hr1 hr2 hr3 h
    have hb : ∀ j, j < n → b j = true := by
      intro j hj
      cases hbj : b j with
      | true => rfl
      | false =>
        have : j ∈ (List.range n).filter fun j => !b j := List.mem_filter.2 ⟨List.mem_range.2 hj, by simp [hbj]⟩
        rw [List.eq_nil_of_length_eq_zero hm] at this
        cases this
    refine ⟨List.eq_nil_iff_forall_not_mem.2 (fun i hi => ?_), fin b l' li w hb h1 h2 hr1 h⟩
    rw [mem_ready] at hi
    obtain ⟨h1, o, ho, _⟩ := hi
    have hin : i < n := by have := (Array.getElem?_eq_some_iff.1 ho).1; omega
    rw [getT, if_pos hin, hb i hin] at h1
    cases h1
  | succ m ih =>
    intro b l' li w hm hbp hcl h1 h2 hr1 hr2 hr3 h
    refine ⟨fun hr => fin b l' li w (all_of b hr) h1 h2 hr1 h, fun i hi => ?_⟩
    rw [mem_ready] at hi
    obtain ⟨hbi, o, ho, hedge⟩ := hi
    have hin : i < n := by have := (Array.getElem?_eq_some_iff.1 ho).1; omega
    rw [getT, if_pos hin] at hbi
    obtain ⟨e1, e2, e3, e4, e5, e6, e7⟩ := hops i o ho
    have hpre : ∀ j, bit B i j = true → b j = true := by
      intro j hj
      obtain ⟨e, he, hbe, hor⟩ := e2 j (e7 j hj) hj
      have hbon : b e.on = true := by
        have := hedge e he hbe
        rw [getF] at this
        split at this
        · exact this
        · cases this
      rcases hor with rfl | hor
      · exact hbon
      · exact hcl e.on hbon j hor
    have hcnt : ((List.range n).filter fun j => !up b i j).length = m := by
      have := count_up hbi List.nodup_range (List.mem_range.2 hin)
      omega
    have hbp' : ∀ j, j < p → j ∉ Fl → up b i j = true := fun j hj hjf => by unfold up; split; rfl; exact hbp j hj hjf
    have hcl' : ∀ k, up b i k = true → ∀ j, bit B k j = true → up b i j = true := by
      intro k hk j hj
      unfold up at hk ⊢
      by_cases hji : j = i
      · rw [if_pos hji]
      · rw [if_neg hji]
        by_cases hki : k = i
        · subst hki; exact hpre j hj
        · rw [if_neg hki] at hk; exact hcl k hk j hj
    have nput : ∀ (l1 : List Value), l1.length = l.length → ∀ u t, nth (lput l1 o.dst u) t = if o.dst = some t then u else nth l1 t := by
      intro l1 hl1 u t
      cases hd : o.dst with
      | none => rw [if_neg (by simp)]; rfl
      | some d =>
        have hdl : d < l1.length := by rw [hl1]; exact hDl (i, d) (e4 d hd)
        show nth (lset l1 d u) t = _
        rw [nth_lset l1 d t u hdl]
        by_cases htd : t = d
        · subst htd; simp
        · rw [if_neg htd, if_neg (by simpa using fun h => htd h.symm)]
    have lput_len : ∀ (l1 : List Value) u, (lput l1 o.dst u).length = l1.length := by
      intro l1 u
      cases o.dst with
      | none => rfl
      | some d => exact lset_length l1 d u
    have hdst : ∀ e ∈ DL, o.dst = some e.2 → e.1 = i := by
      intro e he hd
      have hm' : (i, e.2) ∈ DL := e4 _ hd
      have h3 := find_at hnd2 hm'
      have h4 := find_at (i := e.1) hnd2 (show (e.1, e.2) ∈ DL from he)
      rw [h3] at h4
      have := Option.some.inj h4
      exact (congrArg Prod.fst this).symm
    by_cases hif : i ∈ Fl
    · obtain ⟨o', ho', hg⟩ := hF i hif l' w h1 (fun t ht => (hr1 t (fun e he het => absurd het (ht e he))).trans (hr3 t ht))
      rw [ho] at ho'
      obtain rfl := Option.some.inj ho'
      refine gdoes_wp0 ho hg (fun u w' hu => ?_)
      obtain ⟨rfl, rfl⟩ := hu
      rw [list_up]
      refine ih _ _ li _ hcnt hbp' hcl' (by rw [lput_len]; exact h1) h2 (fun t ht => ?_) hr2 hr3 ?_
      · rw [nput l' h1]
        by_cases hd : o.dst = some t
        · rw [if_pos hd]
          exact (hr2 (i, t) (e4 t hd) hif).symm
        · rw [if_neg hd]
          refine hr1 t (fun e he het hef => ?_)
          have := ht e he het hef
          unfold up at this
          by_cases hei : e.1 = i
          · exfalso
            cases hd2 : o.dst with
            | none => exact e5 hd2 e he hei
            | some d =>
              have hm' := e4 d hd2
              have := fst_at hnd1 he hm' hei
              exact hd (by rw [hd2, ← het, this])
          · rwa [if_neg hei] at this
      · have : (fun j => !Fl.contains j && !up b i j) = (fun j => !Fl.contains j && !b j) := by
          funext j
          unfold up
          by_cases hj : j = i
          · have hc : Fl.contains j = true := by rw [hj]; exact List.contains_iff_mem.2 hif
            rw [hc]; rfl
          · rw [if_neg hj]
        rw [this]; exact h
    · have hmem : i ∈ (List.range n).filter fun j => !Fl.contains j && !b j := List.mem_filter.2 ⟨List.mem_range.2 hin, by
        have : Fl.contains i = false := by
          cases hc : Fl.contains i with
          | false => rfl
          | true => exact absurd (List.contains_iff_mem.1 hc) hif
        rw [this, hbi]; rfl⟩
      cases his : (List.range n).filter fun j => !Fl.contains j && !b j with
      | nil => rw [his] at hmem; cases hmem
      | cons k is =>
        have hsort : ((List.range n).filter fun j => !Fl.contains j && !b j).Pairwise (· < ·) := List.pairwise_lt_range.sublist List.filter_sublist
        have hk : k ∈ (List.range n).filter fun j => !Fl.contains j && !b j := by rw [his]; exact List.mem_cons_self
        obtain ⟨hk1, hk2⟩ := List.mem_filter.1 hk
        rw [Bool.and_eq_true] at hk2
        have hkF : k ∉ Fl := fun h => by have := List.contains_iff_mem.2 h; rw [this] at hk2; simp at hk2
        have hkb : b k = false := by simpa using hk2.2
        have hik : i = k := by
          rw [his] at hmem hsort
          rcases List.mem_cons.1 hmem with h | h
          · exact h
          · have hki := (List.pairwise_cons.1 hsort).1 i h
            have hpk : p ≤ k := by
              rcases Nat.lt_or_ge k p with h | h
              · rw [hbp k h hkF] at hkb; cases hkb
              · exact h
            have := hpre k (hord i (by omega) hin hif k hpk hki hkF)
            rw [hkb] at this
            cases this
        subst hik
        have hrest := filter_up (i := i) (js := is) (b := b) (q := fun j => !Fl.contains j) List.nodup_range his
        rw [his] at h
        obtain ⟨o', R, ho', hg, hk⟩ := h
        have ho'' := nthO_ops ho'
        rw [ho] at ho''
        obtain rfl := Option.some.inj ho''
        refine gdoes_wp0 ho (gdoes_congr (l2 := li) e6 (by omega) (fun t ht => ?_) hg) (fun u w' hu => ?_)
        · refine hr1 t (fun e he het hef => ?_)
          have h3 := e3 t ht e he het
          rw [Bool.or_eq_true] at h3
          rcases h3 with h3 | h3
          · exact hpre _ h3
          · unfold bit at h3
            rw [hFl e.1 hef] at h3
            simp at h3
        · rw [list_up]
          refine ih _ _ (lput li o.dst u) _ hcnt hbp' hcl' (by rw [lput_len]; exact h1) (by rw [lput_len]; exact h2) (fun t ht => ?_) (fun e he hef => ?_) (fun t ht => ?_) (by rw [hrest]; exact hk u w' hu)
          · rw [nput l' h1, nput li h2]
            by_cases hd : o.dst = some t
            · rw [if_pos hd, if_pos hd]
            · rw [if_neg hd, if_neg hd]
              refine hr1 t (fun e he het hef => ?_)
              have := ht e he het hef
              unfold up at this
              have hne : ¬ e.1 = i := fun h => hif (by rw [← h]; exact hef)
              rwa [if_neg hne] at this
          · rw [nput li h2, if_neg (fun hd => hif (by rw [← hdst e he hd]; exact hef))]
            exact hr2 e he hef
          · rw [nput li h2, if_neg (fun hd => ht (i, t) (e4 t hd) rfl)]
            exact hr3 t ht
theorem drawn_float {id : Nat} (B : List Nat) (DL FD : List (Nat × Tmp)) (Fl N : List Nat) (xs : Nat → Value) (lF : List Value) (hmx : P.follows .mixedOrders = true) (hB : bOk ops B DL [] = true) (hn : ops.size = n)
    (hDl : (DL.all fun e => decide (e.2 < l.length)) = true) (hFl : (Fl.all fun f => decide (B.getD f 0 = 0)) = true) (hord : ((List.range n).all fun i => Fl.contains i || (List.range i).all fun j => Fl.contains j || bit B i j) = true)
    (hN : ((List.range n).filter fun j => !Fl.contains j) = N) (hFD : DL.filter (fun e => Fl.contains e.1) = FD) (hlF : fillL l FD xs = lF)
    (hF : ∀ l2 w, l2.length = l.length → (∀ t, (DL.all fun e => !(e.2 == t)) = true → nth l2 t = nth l t) → ∀ f ∈ Fl, ∃ o, nthO ops.toList f = some o ∧ GDoes P ops o l2 w (fun u w' => u = xs f ∧ w' = w))
    (h : ∀ w', Only No w0 w' → wpS r P ops Q ds N lF w') : (Code.region id ops true).wpIn (Wf r) 0 P Q (fr l ds) w0 := by
  have hin := bOk_parts hB
  refine wpIn_region_any hmx ?_
  have hdr : Only No w0 { w0 with drawn := w0.drawn + 1 } := ⟨rfl, rfl, rfl, Nat.le_refl _, fun _ _ _ => rfl⟩
  have hl : Array.replicate ops.size false = ((List.range n).map fun _ => false).toArray := by
    rw [hn]
    apply Array.ext'
    simp [List.map_const']
  rw [hl, hn]
  have hDl' : ∀ e ∈ DL, e.2 < l.length := fun e he => by simpa using List.all_eq_true.1 hDl e he
  have hFl' : ∀ f ∈ Fl, B.getD f 0 = 0 := fun f hf => by simpa using List.all_eq_true.1 hFl f hf
  have hmF : ∀ e, e ∈ FD ↔ e ∈ DL ∧ e.1 ∈ Fl := fun e => by rw [← hFD, List.mem_filter, List.contains_iff_mem]
  have hnd2' : (FD.map (·.2)).Nodup := by rw [← hFD]; exact hin.2.2.2.1.sublist (List.filter_sublist.map _)
  have hn2 : ∀ t, nth lF t = sel FD (fun _ => true) xs l t := fun t => by rw [← hlF]; exact nth_fillL FD l xs t (fun e he => hDl' e ((hmF e).1 he).1) hnd2'
  have hfa : ((List.range n).filter fun j => !Fl.contains j && !(fun _ => false : Nat → Bool) j) = N := by rw [← hN]; congr 1; funext j; simp
  refine region_float (Fl := Fl) (xs := xs) (p := 0) hB hn hDl' hFl' (fun i _ hi hif j _ hj hjf => ?_) (fun f hf l2 w h1 h2 => ?_) n (fun _ => false) l lF _ ?_ (fun j hj => absurd hj (Nat.not_lt_zero j)) (fun _ h => by cases h) rfl (by rw [← hlF, fillL_length]) (fun t ht => ?_) (fun e he hef => ?_) (fun t ht => ?_) (by rw [hfa]; exact h _ hdr)
  · have h1 := List.all_eq_true.1 hord i (List.mem_range.2 hi)
    rw [Bool.or_eq_true] at h1
    rcases h1 with h1 | h1
    · exact absurd (List.contains_iff_mem.1 h1) hif
    · have h2 := List.all_eq_true.1 h1 j (List.mem_range.2 hj)
      rw [Bool.or_eq_true] at h2
      rcases h2 with h2 | h2
      · exact absurd (List.contains_iff_mem.1 h2) hjf
      · exact h2
  · obtain ⟨o, ho, hg⟩ := hF l2 w h1 (fun t ht => h2 t (fun e he het => by
      have := List.all_eq_true.1 ht e he
      simp [het] at this)) f hf
    exact ⟨o, nthO_ops ho, hg⟩
  · have h1 : ((List.range n).filter fun j => !(fun _ => false : Nat → Bool) j) = List.range n := List.filter_eq_self.2 (fun _ _ => rfl)
    rw [h1, List.length_range]
  · rw [hn2 t]
    unfold sel
    cases hf : FD.find? (fun e => e.2 == t) with
    | none => rfl
    | some e =>
      have he := (hmF e).1 (List.mem_of_find?_eq_some hf)
      have het : e.2 = t := by simpa using List.find?_some hf
      have := ht e he.1 het he.2
      cases this
  · rw [hn2 e.2]
    unfold sel
    rw [find_at hnd2' (show (e.1, e.2) ∈ FD from (hmF e).2 ⟨he, hef⟩)]
    rfl
  · rw [hn2 t]
    unfold sel
    cases hf : FD.find? (fun e => e.2 == t) with
    | none => rfl
    | some e =>
      have he := (hmF e).1 (List.mem_of_find?_eq_some hf)
      exact absurd (by simpa using List.find?_some hf) (ht e he.1)
theorem region_preF {O : Nat → Prop} {Ms : List Nat} {Φ : Nat → RF O} {Rs : Nat → World → Prop} {p : Nat} (Fl : List Nat) (xs : Nat → Value) (DLp : List (Nat × Tmp)) (hB : bOk ops B DL Ms = true) (hB0 : bOk ops B DL [] = true) (hn : ops.size = n) (hp : p < n) (hDp : DLp = DL.filter (fun e => decide (e.1 < p))) (hMp : ∀ t, t < Ms.length → Ms.getD t 0 < p ∧ Ms.getD t 0 ∉ Fl)
    (hlate : ∀ i, p ≤ i → i < n → ∀ j, j < i → j ∉ Fl → bit B i j = true) (hFl : ∀ f ∈ Fl, B.getD f 0 = 0 ∧ f < p) (hDl : ∀ e ∈ DL, e.2 < l.length) (hR : ∀ k w w', Rs k w → Only No w w' → Rs k w')
    (hF : ∀ f ∈ Fl, ∀ l2 w, l2.length = l.length → (∀ t, (∀ e ∈ DL, e.2 ≠ t) → nth l2 t = nth l t) → ∃ o, ops[f]? = some o ∧ GDoes P ops o l2 w (fun u w' => u = xs f ∧ w' = w)) (hΦF : ∀ f ∈ Fl, ∀ r u lo hi w, (Φ f).p r u lo hi w ↔ u = xs f)
    (hs : ∀ i, i < p → i ∉ Ms → LStep P ops O DL l (fun v => fillL l DL v) w0 n B Ms Φ Rs i) (hm : ∀ t, t < Ms.length → MStep P ops O DL l (fun v => fillL l DL v) w0 n B Φ Rs t (Ms.getD t 0))
    (hend : ∀ (v : Nat → Value) (lo hi : Nat → Nat) w', Only O w0 w' → (∀ j, j < p → (Φ j).p (rs B j v) (v j) (lo j) (hi j) w') → Rs Ms.length w' → wpS r P ops Q ds ((List.range n).filter fun j => decide (p ≤ j)) (fillL l DLp v) w') :
    ∀ (m : Nat) (b : Nat → Bool) (a : Act) (w : World), ((List.range n).filter fun j => !b j).length = m → (∀ i, p ≤ i → b i = false) → Inv O l ds w0 n B DL Ms Φ Rs b a w → wpAnyIn (Wf r) 0 P .any ops Q m ((List.range n).map b).toArray a w := by
  obtain ⟨hops, hlt, hnd1, hnd2, hMs, hMn⟩ := bOk_parts hB
  have getT : ∀ (b : Nat → Bool) (j : Nat), ((List.range n).map b).toArray.getD j true = (if j < n then b j else true) := by
    intro b j
    rw [Array.getD_eq_getD_getElem?, List.getElem?_toArray, List.getElem?_map]
    by_cases h : j < n <;> simp [h]
  have getF : ∀ (b : Nat → Bool) (j : Nat), ((List.range n).map b).toArray.getD j false = (if j < n then b j else false) := by
    intro b j
    rw [Array.getD_eq_getD_getElem?, List.getElem?_toArray, List.getElem?_map]
    by_cases h : j < n <;> simp [h]
  have all_of : ∀ b : Nat → Bool, Region.ready .any ops ((List.range n).map b).toArray = [] → ∀ i, i < n → b i = true := by
    intro b hr i
    induction i using Nat.strongRecOn with
    | _ i ih =>
      intro hi
      cases hb : b i with
      | true => rfl
      | false =>
        obtain ⟨o, ho⟩ : ∃ o, ops[i]? = some o := ⟨_, Array.getElem?_eq_getElem (by omega)⟩
        have : i ∈ Region.ready .any ops ((List.range n).map b).toArray := by
          rw [mem_ready]
          refine ⟨by rw [getT, if_pos hi, hb], o, ho, fun e he hbe => ?_⟩
          have := (hops i o ho).1 e he hbe
          rw [getF, if_pos (by omega)]
          exact ih e.on this (by omega)
        rw [hr] at this
        cases this
  intro m
  induction m with
  | zero =>
    intro b a w hm0 hbp hI
    have : p ∈ (List.range n).filter fun j => !b j := List.mem_filter.2 ⟨List.mem_range.2 hp, by simp [hbp p (Nat.le_refl _)]⟩
    rw [List.eq_nil_of_length_eq_zero hm0] at this
    cases this
  | succ m ih =>
    intro b a w hm0 hbp hI
    refine ⟨fun hr => (by have := all_of b hr p hp; rw [hbp p (Nat.le_refl _)] at this; cases this), fun i hi => ?_⟩
    rw [mem_ready] at hi
    obtain ⟨h1, o, ho, hedge⟩ := hi
    have hin : i < n := by have := (Array.getElem?_eq_some_iff.1 ho).1; omega
    rw [getT, if_pos hin] at h1
    obtain ⟨⟨v, lo, hi, k, l', rfl, hlen, hl', hO, hΦ, hIv, hk, hms, hr⟩, hcl⟩ := hI
    obtain ⟨e1, e2, e3, e4, e5, e6, e7⟩ := hops i o ho
    obtain ⟨v, hl', hΦ, hold⟩ : ∃ v : Nat → Value, (∀ t, nth l' t = sel DL b v l t) ∧ (∀ j, j < n → b j = true → (Φ j).p (rs B j v) (v j) (lo j) (hi j) w) ∧ (∀ e ∈ DL, b e.1 = false → v e.1 = nth l e.2) := by
      refine ⟨fun j => if b j then v j else match DL.find? (fun e => e.1 == j) with | some e => nth l e.2 | none => undef, fun t => ?_, fun j hj hbj => ?_, fun e he hbe => ?_⟩
      · rw [hl' t]
        unfold sel
        split
        · split
          · rename_i hb; exact (if_pos hb).symm
          · rfl
        · rfl
      · have h1 : rs B j (fun j => if b j then v j else match DL.find? (fun e => e.1 == j) with | some e => nth l e.2 | none => undef) = rs B j v := by
          funext m
          unfold rs
          split
          · rename_i hm; exact if_pos (hcl j hbj m hm)
          · rfl
        rw [h1]
        simp only [hbj, if_true]
        exact hΦ j hj hbj
      · have hf : DL.find? (fun e' => e'.1 == e.1) = some e := by
          cases hf : DL.find? (fun e' => e'.1 == e.1) with
          | none => have := List.find?_eq_none.1 hf e he; simp at this
          | some e' => rw [fst_at hnd1 (List.mem_of_find?_eq_some hf) he (by simpa using List.find?_some hf)]
        simp only [hbe, hf]
        rfl
    have hold' : ∀ e ∈ DL, bit B e.1 i = true → v e.1 = nth l e.2 := fun e he hbe => hold e he (by
      cases hb : b e.1 with
      | false => rfl
      | true => have := hcl e.1 hb i hbe; rw [h1] at this; cases this)
    have hpre : ∀ j, bit B i j = true → b j = true := by
      intro j hj
      obtain ⟨e, he, hbe, hor⟩ := e2 j (e7 j hj) hj
      have hbon : b e.on = true := by
        have := hedge e he hbe
        rw [getF] at this
        split at this
        · exact this
        · cases this
      rcases hor with rfl | hor
      · exact hbon
      · exact hcl e.on hbon j hor
    have hkmin : ∀ t, t < Ms.length → bit B i (Ms.getD t 0) = true → t < k := fun t ht hb => (hms t ht).1 (hpre _ hb)
    have hkmax : ∀ t, t < Ms.length → bit B (Ms.getD t 0) i = true → k ≤ t := by
      intro t ht hb
      rcases Nat.lt_or_ge t k with h | h
      · have := hcl _ ((hms t ht).2 h) i hb
        rw [h1] at this
        cases this
      · exact h
    have hIv' : Ivs (fun j => bit B i j = true) lo hi w0 w := ⟨fun j hj => hIv.1 j (hpre j hj), fun x y hx hy => hIv.2 x y (hpre x hx) (hpre y hy)⟩
    have hΦ' : ∀ j, bit B i j = true → (Φ j).p (rs B j v) (v j) (lo j) (hi j) w := fun j hj => hΦ j (by have := e7 j hj; omega) (hpre j hj)
    have hcnt : ((List.range n).filter fun j => !up b i j).length = m := by
      have := count_up h1 List.nodup_range (List.mem_range.2 hin)
      omega
    by_cases hip : i < p
    case neg =>
      have hpi : p ≤ i := Nat.le_of_not_lt hip
      have hpF : p ∉ Fl := fun h => by have := (hFl p h).2; omega
      have hpe : i = p := by
        rcases Nat.lt_or_ge p i with h | h
        · have := hpre p (hlate i hpi hin p h hpF)
          rw [hbp p (Nat.le_refl _)] at this
          cases this
        · omega
      subst hpe
      have hball : ∀ j, j < i → j ∉ Fl → b j = true := fun j hj hjf => hpre j (hlate i (Nat.le_refl _) hin j hj hjf)
      have hke : k = Ms.length := by
        rcases Nat.lt_or_ge k Ms.length with h | h
        · have h2 := hMp k h
          have := (hms k h).1 (hball _ h2.1 h2.2)
          omega
        · omega
      subst hke
      have hv2 : ∀ j, b j = true → (fun j => if b j then v j else xs j) j = v j := fun j hj => if_pos hj
      have hnd2' : (DLp.map (·.2)).Nodup := by rw [hDp]; exact hnd2.sublist (List.filter_sublist.map _)
      have hlt' : ∀ e ∈ DLp, e.2 < l.length := fun e he => hDl e (by rw [hDp] at he; exact (List.mem_filter.1 he).1)
      have hT := hend (fun j => if b j then v j else xs j) lo hi w hO (fun j hj => by
        cases hbj : b j with
        | true =>
          have h1 : rs B j (fun j => if b j then v j else xs j) = rs B j v := by
            funext m
            unfold rs
            split
            · rename_i hm; exact if_pos (hcl j hbj m hm)
            · rfl
          rw [h1]
          simp only [hbj, if_true]
          exact hΦ j (by omega) hbj
        | false =>
          have hjf : j ∈ Fl := Classical.byContradiction fun h => by rw [hball j hj h] at hbj; cases hbj
          rw [hΦF j hjf]
          simp [hbj]) hr
      have hfl : ((List.range n).filter fun j => !Fl.contains j && !b j) = (List.range n).filter fun j => decide (i ≤ j) := by
        refine List.filter_congr fun j hj => ?_
        rcases Nat.lt_or_ge j i with h | h
        · have h3 : ¬ i ≤ j := by omega
          cases hc : Fl.contains j with
          | true => simp [h3]
          | false =>
            have : j ∉ Fl := fun h => by rw [List.contains_iff_mem.2 h] at hc; cases hc
            rw [hball j h this]; simp [h3]
        · have hjf : Fl.contains j = false := by
            cases hc : Fl.contains j with
            | false => rfl
            | true => have := (hFl j (List.contains_iff_mem.1 hc)).2; omega
          rw [hjf, hbp j h]; simp [h]
      rw [← hfl] at hT
      have hli : ∀ t, nth (fillL l DLp (fun j => if b j then v j else xs j)) t = sel DLp (fun _ => true) (fun j => if b j then v j else xs j) l t := fun t => nth_fillL DLp l _ t hlt' hnd2'
      have hfind : ∀ t, DLp.find? (fun e => e.2 == t) = (DL.find? (fun e => e.2 == t)).filter (fun e => decide (e.1 < i)) := by
        intro t
        cases hf : DL.find? (fun e => e.2 == t) with
        | none =>
          have : DLp.find? (fun e => e.2 == t) = none := by
            rw [List.find?_eq_none] at hf ⊢
            exact fun e he => hf e (by rw [hDp] at he; exact (List.mem_filter.1 he).1)
          rw [this]; rfl
        | some e =>
          have he := List.mem_of_find?_eq_some hf
          have het : e.2 = t := by simpa using List.find?_some hf
          by_cases hep : e.1 < i
          · have hm' : (e.1, t) ∈ DLp := by rw [hDp, ← het]; exact List.mem_filter.2 ⟨he, by simpa using hep⟩
            rw [find_at hnd2' hm']
            simp [Option.filter, hep, ← het]
          · have : DLp.find? (fun e => e.2 == t) = none := by
              rw [List.find?_eq_none]
              intro e' he' h'
              rw [hDp] at he'
              obtain ⟨h1', h2'⟩ := List.mem_filter.1 he'
              have h3' : e'.2 = t := by simpa using h'
              have := find_at hnd2 (show (e'.1, t) ∈ DL by rw [← h3']; exact h1')
              rw [hf] at this
              have := Option.some.inj this
              rw [this] at hep
              simp at h2' hep
              omega
            rw [this]
            simp [Option.filter, hep]
      have hgo := region_float (r := r) (P := P) (ops := ops) (Q := Q) (ds := ds) (Fl := Fl) (xs := xs) (p := i) hB0 hn hDl (fun f hf => (hFl f hf).1) (fun k hk hkn _ j _ hj hjf => hlate k hk hkn j hj hjf) hF (m + 1) b l' (fillL l DLp (fun j => if b j then v j else xs j)) w hm0 hball hcl hlen (by rw [fillL_length]) (fun t ht => ?_) (fun e he hef => ?_) (fun t ht => ?_) hT
      · exact hgo.2 i (by rw [mem_ready]; exact ⟨by rw [getT, if_pos hin]; exact h1, o, ho, hedge⟩)
      · rw [hli t, hl' t]
        unfold sel
        rw [hfind t]
        cases hf : DL.find? (fun e => e.2 == t) with
        | none => rfl
        | some e =>
          have he := List.mem_of_find?_eq_some hf
          have het : e.2 = t := by simpa using List.find?_some hf
          by_cases hep : e.1 < i
          · have hbe : b e.1 = true := by
              by_cases hef : e.1 ∈ Fl
              · exact ht e he het hef
              · exact hball e.1 hep hef
            simp [Option.filter, hep, hbe]
          · simp [Option.filter, hep, hbp e.1 (Nat.le_of_not_lt hep)]
      · rw [hli e.2]
        unfold sel
        rw [hfind e.2, find_at hnd2 (show (e.1, e.2) ∈ DL from he)]
        have hep := (hFl e.1 hef).2
        simp only [Option.filter, hep, decide_true, if_true]
        cases hbe : b e.1 with
        | false => rfl
        | true => exact (hΦF e.1 hef _ _ _ _ _).1 (hΦ e.1 (by have := hlt e he; omega) hbe)
      · rw [hli t]
        unfold sel
        rw [hfind t]
        have : DL.find? (fun e => e.2 == t) = none := List.find?_eq_none.2 fun e he => by simpa using ht e he
        rw [this]
        rfl
    have hbp' : ∀ j, p ≤ j → up b i j = false := fun j hj => by simp only [up, show j ≠ i by omega, if_false]; exact hbp j hj
    by_cases hiM : i ∈ Ms
    · obtain ⟨t, ht, hti⟩ : ∃ t, t < Ms.length ∧ Ms.getD t 0 = i := by
        obtain ⟨t, ht, hti⟩ := List.getElem_of_mem hiM
        exact ⟨t, ht, by rw [List.getD_eq_getElem?_getD, List.getElem?_eq_getElem ht]; exact hti⟩
      have hkt : k = t := by
        have h2 : ¬ t < k := fun h => by
          have := (hms t ht).2 h
          rw [hti, h1] at this
          cases this
        rcases Nat.eq_zero_or_pos t with h0 | h0
        · omega
        · have h3 := (hMs t ht).2 (t - 1) (by omega)
          rw [hti] at h3
          have := hkmin (t - 1) (by omega) h3
          omega
      subst hkt
      obtain ⟨o', ho'', hg⟩ := hm k ht v lo hi w hO (by rw [hti]; exact hΦ') (by rw [hti]; exact hIv') hr (by rw [hti]; exact hold')
      have ho' := nthO_ops ho''
      rw [hti] at ho' hg
      rw [ho] at ho'
      obtain rfl := Option.some.inj ho'
      refine gdoes_wp (l := l) (DL := DL) hB hDl ho hlen hl' hold hg (fun u w' hu => ?_)
      rw [list_up]
      obtain ⟨hu1, hu2, hu3⟩ := hu
      refine ih _ _ _ hcnt hbp' (inv_up hB hn hDl ho h1 hlen hl' hO hΦ hIv hcl hpre hu1 hu3 ht (fun s hs' => ?_) hu2)
      by_cases hst : s = k
      · subst hst; rw [hti]; simp [up]
      · have hne : Ms.getD s 0 ≠ i := by
          intro h
          rw [← hti, List.getD_eq_getElem?_getD, List.getD_eq_getElem?_getD, List.getElem?_eq_getElem hs', List.getElem?_eq_getElem ht] at h
          exact hst (nodup_at hMn hs' ht (by simpa using h))
        simp only [up, hne, if_false]
        rw [hms s hs']
        omega
    · obtain ⟨o', ho'', hg⟩ := hs i hip hiM v lo hi w k hO hΦ' hIv' hkmin hkmax hk hr hold'
      have ho' := nthO_ops ho''
      rw [ho] at ho'
      obtain rfl := Option.some.inj ho'
      refine gdoes_wp (l := l) (DL := DL) hB hDl ho hlen hl' hold hg (fun u w' hu => ?_)
      rw [list_up]
      refine ih _ _ _ hcnt hbp' (inv_up hB hn hDl ho h1 hlen hl' hO hΦ hIv hcl hpre hu.1 (No.any hu.2) hk (fun s hs' => ?_) (hR _ _ _ hr hu.2))
      have hne : Ms.getD s 0 ≠ i := by
        intro h
        refine hiM ?_
        rw [← h, List.getD_eq_getElem?_getD, List.getElem?_eq_getElem hs']
        exact List.getElem_mem hs'
      simp only [up, hne, if_false]
      exact hms s hs'


theorem drawnF {O : Nat → Prop} {id : Nat} (Fl N : List Nat) (xs : Nat → Value) (p : Nat) (B : List Nat) (DL DLp : List (Nat × Tmp)) (Ls : List Nat) (Ms : List Nat) (Φ : Nat → RF O) (Rs : Nat → World → Prop)
    (lv lp : (Nat → Value) → List Value) (hmx : P.follows .mixedOrders = true) (hB : bOk ops B DL Ms = true) (hn : ops.size = n) (hp : p < n) (hDp : DLp = DL.filter (fun e => decide (e.1 < p))) (hMp : (Ms.all fun t => decide (t < p) && !Fl.contains t) = true) (hB0 : bOk ops B DL [] = true) (hFl : (Fl.all fun f => decide (B.getD f 0 = 0) && decide (f < p)) = true) (hN : ((List.range n).filter fun j => decide (p ≤ j)) = N)
    (hF : ∀ l2 w, l2.length = l.length → (∀ t, (DL.all fun e => !(e.2 == t)) = true → nth l2 t = nth l t) → ∀ f ∈ Fl, ∃ o, nthO ops.toList f = some o ∧ GDoes P ops o l2 w (fun u w' => u = xs f ∧ w' = w)) (hΦF : ∀ f ∈ Fl, Φ f = RF.is O (xs f))
    (hlate : ((List.range n).all fun i => decide (i < p) || (List.range i).all fun j => Fl.contains j || bit B i j) = true) (hLs : ((List.range p).all fun i => Ls.contains i || Ms.contains i) = true)
    (hDl : (DL.all fun e => decide (e.2 < l.length)) = true) (hlv : ∀ v, fillL l DL v = lv v) (hlp : ∀ v, fillL l DLp v = lp v) (hR : ∀ k w w', Rs k w → Only No w w' → Rs k w') (h0 : Rs 0 w0)
    (hs : ∀ i ∈ Ls, LStep P ops O DL l lv w0 n B Ms Φ Rs i) (hm : ∀ t, t < Ms.length → MStep P ops O DL l lv w0 n B Φ Rs t (Ms.getD t 0))
    (hend : ∀ (v : Nat → Value) (lo hi : Nat → Nat) w', Only O w0 w' → (∀ j, j < p → (Φ j).p (rs B j v) (v j) (lo j) (hi j) w') → Rs Ms.length w' → wpS r P ops Q ds N (lp v) w') :
    (Code.region id ops true).wpIn (Wf r) 0 P Q (fr l ds) w0 := by
  obtain rfl : (fun v => fillL l DL v) = lv := funext hlv
  obtain rfl : (fun v => fillL l DLp v) = lp := funext hlp
  refine wpIn_region_any hmx ?_
  have hdr : Only No w0 { w0 with drawn := w0.drawn + 1 } := ⟨rfl, rfl, rfl, Nat.le_refl _, fun _ _ _ => rfl⟩
  have hl : Array.replicate ops.size false = ((List.range n).map fun _ => false).toArray := by
    rw [hn]
    apply Array.ext'
    simp [List.map_const']
  rw [hl, hn]
  have hDl' : ∀ e ∈ DL, e.2 < l.length := fun e he => by simpa using List.all_eq_true.1 hDl e he
  have hf : ((List.range n).filter fun _ => !false).length = n := by
    have h1 : ((List.range n).filter fun _ => !false) = List.range n := List.filter_eq_self.2 (fun _ _ => rfl)
    rw [h1, List.length_range]
  have hsel : ∀ t, nth l t = sel DL (fun _ => false) (fun _ => undef) l t := by
    intro t
    unfold sel
    split <;> simp
  have hin := bOk_parts hB
  refine region_preF (p := p) Fl xs DLp hB hB0 hn hp hDp (fun t ht => ?_) (fun i h1 h2 j hj hjf => ?_) (fun f hf => by simpa using List.all_eq_true.1 hFl f hf) hDl' hR (fun f hf l2 w h1 h2 => ?_) (fun f hf r u lo hi w => by rw [hΦF f hf]; exact Iff.rfl) (fun i hi hM => hs i ?_) hm (by rw [hN]; exact hend) n (fun _ => false) _ _ hf (fun _ _ => rfl) ⟨⟨fun _ => undef, fun _ => 0, fun _ => 0, 0, l, rfl, rfl, hsel, No.any hdr, (fun _ _ h => by cases h), ⟨(fun _ h => by cases h), (fun _ _ h => by cases h)⟩, Nat.zero_le _, (fun t _ => ⟨(fun h => by cases h), (fun h => absurd h (Nat.not_lt_zero t))⟩), hR _ _ _ h0 hdr⟩, (fun _ h => by cases h)⟩
  · have := List.all_eq_true.1 hMp (Ms.getD t 0) (by rw [List.getD_eq_getElem?_getD, List.getElem?_eq_getElem ht]; exact List.getElem_mem ht)
    rw [Bool.and_eq_true] at this
    refine ⟨by simpa using this.1, fun h => ?_⟩
    have h2 := this.2
    rw [List.contains_iff_mem.2 h] at h2
    cases h2
  · have := List.all_eq_true.1 hlate i (List.mem_range.2 h2)
    rw [Bool.or_eq_true] at this
    rcases this with h | h
    · have : i < p := by simpa using h
      omega
    · have h3 := List.all_eq_true.1 h j (List.mem_range.2 hj)
      rw [Bool.or_eq_true] at h3
      rcases h3 with h3 | h3
      · exact absurd (List.contains_iff_mem.1 h3) hjf
      · exact h3
  · obtain ⟨o, ho, hg⟩ := hF l2 w h1 (fun t ht => h2 t (fun e he het => by
      have := List.all_eq_true.1 ht e he
      simp [het] at this)) f hf
    exact ⟨o, nthO_ops ho, hg⟩
  · have := List.all_eq_true.1 hLs i (List.mem_range.2 hi)
    rw [Bool.or_eq_true] at this
    rcases this with h | h
    · exact List.contains_iff_mem.1 h
    · exact absurd (List.contains_iff_mem.1 h) hM
/-- A move of what nothing in the region writes. -/
theorem fl_nil {p : Nat → Prop} : ∀ f ∈ ([] : List Nat), p f := fun _ h => by cases h
theorem fl_cons {p : Nat → Prop} {f : Nat} {fs : List Nat} (h : p f) (hs : ∀ f ∈ fs, p f) : ∀ g ∈ f :: fs, p g := fun g hg => by
  rcases List.mem_cons.1 hg with rfl | hg
  · exact h
  · exact hs _ hg
theorem fl_move {l2 : List Value} {t : Tmp} {x : Value} {d : Option Tmp} {tt : TypeId} {s : String} {af : Array Edge} (hn : ∀ t, (DL.all fun e => !(e.2 == t)) = true → nth l2 t = nth l t) (ht : (DL.all fun e => !(e.2 == t)) = true) (hx : nth l t = x) (ho : nthO ops.toList i = some ⟨d, .move (.tmp t), tt, s, af, none⟩) :
    ∃ o, nthO ops.toList i = some o ∧ GDoes P ops o l2 w (fun u w' => u = x ∧ w' = w) := ⟨_, ho, gd rfl (d_move ((hn t ht).trans hx))⟩
end
end Go.Proofs.YtnlbekdjepkhcaaF
