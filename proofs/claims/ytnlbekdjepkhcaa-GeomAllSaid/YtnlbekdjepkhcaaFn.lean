/-
  A region of open order whose last operations stand one behind the other: those ahead of them in any order, then they, in theirs.
-/
import Derived.Test.YtnlbekdjepkhcaaFm
set_option linter.unusedVariables false
set_option linter.unusedSimpArgs false
namespace Go.Proofs.YtnlbekdjepkhcaaF
open Go Go.Proofs.YtnlbekdjepkhcaaS
section
variable {r : Option Nat} {P : Program} {ops : Array Oper} {Q : Exit → Act → World → Prop} {O : Nat → Prop} {l : List Value} {ds : List Deferred} {w0 : World} {n p : Nat} {B : List Nat} {DL : List (Nat × Tmp)} {Ms : List Nat} {Φ : Nat → RF O} {Rs : Nat → World → Prop}
theorem count_late : ∀ (n i : Nat), i ≤ n → ((List.range n).filter fun j => !decide (j < i)).length = n - i
  | 0, i, h => by simp
  | n + 1, i, h => by
    rw [List.range_succ, List.filter_append, List.length_append]
    rcases Nat.lt_or_ge n i with h1 | h1
    · have h2 : i = n + 1 := by omega
      subst h2
      have : (List.range n).filter (fun j => !decide (j < n + 1)) = [] := by
        rw [List.filter_eq_nil_iff]
        intro j hj
        have := List.mem_range.1 hj
        simp; omega
      rw [this]
      simp
    · rw [count_late n i h1]
      have : [n].filter (fun j => !decide (j < i)) = [n] := by simp; omega
      rw [this, List.length_singleton]
      omega
theorem tail_go (hB : bOk ops B DL Ms = true) (hn : ops.size = n) (hlate : ∀ i, p ≤ i → i < n → ∀ j, j < i → bit B i j = true) :
    ∀ (m t : Nat) (a : Act) (w : World), p ≤ t → t + m = n → wpListIn (Wf r) 0 P ops Q (ops.toList.drop t) a w → wpAnyIn (Wf r) 0 P .any ops Q m ((List.range n).map fun j => decide (j < t)).toArray a w := by
  obtain ⟨hops, hlt, hnd1, hnd2, hMs, hMn⟩ := bOk_parts hB
  have getT : ∀ (b : Nat → Bool) (j : Nat), ((List.range n).map b).toArray.getD j true = (if j < n then b j else true) := by
    intro b j
    rw [Array.getD_eq_getD_getElem?, List.getElem?_toArray, List.getElem?_map]
    by_cases h : j < n <;> simp [h]
  have getF : ∀ (b : Nat → Bool) (j : Nat), ((List.range n).map b).toArray.getD j false = (if j < n then b j else false) := by
    intro b j
    rw [Array.getD_eq_getD_getElem?, List.getElem?_toArray, List.getElem?_map]
    by_cases h : j < n <;> simp [h]
  have key : ∀ i, ∀ j, i < ops.size → bit B i j = true → j < i := by
    intro i
    induction i using Nat.strongRecOn with
    | _ i ih =>
      intro j hs hj
      have hp := hops i _ (Array.getElem?_eq_getElem hs)
      obtain ⟨e, he, hb, h⟩ := hp.2.1 j (hp.2.2.2.2.2.2 j hj) hj
      have h1 := hp.1 e he hb
      rcases h with h | h
      · omega
      · have := ih e.on h1 j (by omega) h; omega
  intro m
  induction m with
  | zero =>
    intro t a w hpt htn h
    have ht : t = n := by omega
    subst ht
    refine ⟨List.eq_nil_iff_forall_not_mem.2 (fun i hi => ?_), ?_⟩
    · rw [mem_ready] at hi
      obtain ⟨h1, o, ho, _⟩ := hi
      have : i < t := by have := (Array.getElem?_eq_some_iff.1 ho).1; omega
      rw [getT, if_pos this] at h1
      simp [this] at h1
    · rw [List.drop_of_length_le (by simp; omega)] at h
      exact h
  | succ m ih =>
    intro t a w hpt htn h
    have htl : t < n := by omega
    have hts : t < ops.size := by omega
    have ho : ops[t]? = some ops[t] := Array.getElem?_eq_getElem hts
    have hd : ops.toList.drop t = ops[t] :: ops.toList.drop (t + 1) := by
      rw [List.drop_eq_getElem_cons (by simpa using hts)]
      simp
    have hrt : t ∈ Region.ready .any ops ((List.range n).map fun j => decide (j < t)).toArray := by
      rw [mem_ready]
      refine ⟨by rw [getT, if_pos htl]; simp, _, ho, fun e he hb => ?_⟩
      have := (hops t _ ho).1 e he hb
      rw [getF, if_pos (by omega)]
      simpa using this
    refine ⟨fun hr => (by rw [hr] at hrt; cases hrt), fun i hi => ?_⟩
    rw [mem_ready] at hi
    obtain ⟨h1, o, hoi, hedge⟩ := hi
    have hin : i < n := by have := (Array.getElem?_eq_some_iff.1 hoi).1; omega
    rw [getT, if_pos hin] at h1
    have hti : t ≤ i := by simpa using h1
    have hie : i = t := by
      rcases Nat.lt_or_ge t i with h2 | h2
      · have hb := hlate i (by omega) hin t h2
        have hp := hops i _ hoi
        obtain ⟨e, he, hbe, hor⟩ := hp.2.1 t hts hb
        have hdn := hedge e he hbe
        have hlt' := hp.1 e he hbe
        rw [getF, if_pos (by omega)] at hdn
        have hdn' : e.on < t := by simpa using hdn
        rcases hor with hor | hor
        · omega
        · have := key e.on t (by omega) hor; omega
      · omega
    subst hie
    rw [ho] at hoi
    obtain rfl := Option.some.inj hoi
    have hset : ((List.range n).map fun j => decide (j < i)).toArray.setIfInBounds i true = ((List.range n).map fun j => decide (j < i + 1)).toArray := by
      rw [list_up]
      congr 2
      funext j
      unfold up
      by_cases hj : j = i
      · subst hj; simp
      · rw [if_neg hj, decide_eq_decide]; omega
    rw [hset]
    rw [hd] at h
    unfold wpOpIn
    rw [ho]
    simp only [wpListIn] at h
    show (if Region.wanted ops[i] (yielded ops a.tmps) = true then _ else _)
    split
    · next hw =>
      rw [if_pos hw] at h
      exact Oper.wpIn_mono (fun a' w' h' => ih (i + 1) a' w' (by omega) (by omega) h') h
    · next hw =>
      rw [if_neg hw] at h
      exact ⟨h.1, ih (i + 1) _ _ (by omega) (by omega) h.2⟩
theorem region_pre (DLp : List (Nat × Tmp)) (hB : bOk ops B DL Ms = true) (hn : ops.size = n) (hp : p < n) (hDp : DLp = DL.filter (fun e => decide (e.1 < p))) (hMp : ∀ t, t < Ms.length → Ms.getD t 0 < p) (hlate : ∀ i, p ≤ i → i < n → ∀ j, j < i → bit B i j = true) (hDl : ∀ e ∈ DL, e.2 < l.length) (hR : ∀ k w w', Rs k w → Only No w w' → Rs k w')
    (hs : ∀ i, i < p → i ∉ Ms → LStep P ops O DL l (fun v => fillL l DL v) w0 n B Ms Φ Rs i) (hm : ∀ t, t < Ms.length → MStep P ops O DL l (fun v => fillL l DL v) w0 n B Φ Rs t (Ms.getD t 0))
    (hend : ∀ v lo hi w', Only O w0 w' → (∀ j, j < p → (Φ j).p (rs B j v) (v j) (lo j) (hi j) w') → Ivs (fun j => j < p) lo hi w0 w' → Rs Ms.length w' → wpListIn (Wf r) 0 P ops Q (ops.toList.drop p) (fr (fillL l DLp v) ds) w') :
    ∀ (m : Nat) (b : Nat → Bool) (a : Act) (w : World), ((List.range n).filter fun j => !b j).length = m → (∀ i, p ≤ i → b i = false) → Inv O l ds w0 n B DL Ms Φ Rs b a w → wpAnyIn (Wf r) 0 P .any ops Q m ((List.range n).map b).toArray a w := by
  obtain ⟨hops, hlt, hnd1, hnd2, hMs, hMn⟩ := bOk_parts hB
  have getT : ∀ (b : Nat → Bool) (j : Nat), ((List.range n).map b).toArray.getD j true = (if j < n then b j else true) := by
    intro b j
    rw [Array.getD_eq_getD_getElem?, List.getElem?_toArray, List.getElem?_map]
    by_cases h : j < n <;> simp [h]
  have getF : ∀ (b : Nat → Bool) (j : Nat), ((List.range n).map b).toArray.getD j false = (if j < n then b j else false) := by
    intro b j
    rw [Array.getD_eq_getD_getElem?, List.getElem?_toArray, List.getElem?_map]
    by_cases h : j < n <;> simp [h]
  have all_of : ∀ b : Nat → Bool, Region.ready .any ops ((List.range n).map b).toArray = [] → ∀ i, i < n → b i = true := by
    intro b hr i
    induction i using Nat.strongRecOn with
    | _ i ih =>
      intro hi
      cases hb : b i with
      | true => rfl
      | false =>
        obtain ⟨o, ho⟩ : ∃ o, ops[i]? = some o := ⟨_, Array.getElem?_eq_getElem (by omega)⟩
        have : i ∈ Region.ready .any ops ((List.range n).map b).toArray := by
          rw [mem_ready]
          refine ⟨by rw [getT, if_pos hi, hb], o, ho, fun e he hbe => ?_⟩
          have := (hops i o ho).1 e he hbe
          rw [getF, if_pos (by omega)]
          exact ih e.on this (by omega)
        rw [hr] at this
        cases this
  intro m
  induction m with
  | zero =>
    intro b a w hm0 hbp hI
    have : p ∈ (List.range n).filter fun j => !b j := List.mem_filter.2 ⟨List.mem_range.2 hp, by simp [hbp p (Nat.le_refl _)]⟩
    rw [List.eq_nil_of_length_eq_zero hm0] at this
    cases this
  | succ m ih =>
    intro b a w hm0 hbp hI
    refine ⟨fun hr => (by have := all_of b hr p hp; rw [hbp p (Nat.le_refl _)] at this; cases this), fun i hi => ?_⟩
    rw [mem_ready] at hi
    obtain ⟨h1, o, ho, hedge⟩ := hi
    have hin : i < n := by have := (Array.getElem?_eq_some_iff.1 ho).1; omega
    rw [getT, if_pos hin] at h1
    obtain ⟨⟨v, lo, hi, k, l', rfl, hlen, hl', hO, hΦ, hIv, hk, hms, hr⟩, hcl⟩ := hI
    obtain ⟨e1, e2, e3, e4, e5, e6, e7⟩ := hops i o ho
    obtain ⟨v, hl', hΦ, hold⟩ : ∃ v : Nat → Value, (∀ t, nth l' t = sel DL b v l t) ∧ (∀ j, j < n → b j = true → (Φ j).p (rs B j v) (v j) (lo j) (hi j) w) ∧ (∀ e ∈ DL, b e.1 = false → v e.1 = nth l e.2) := by
      refine ⟨fun j => if b j then v j else match DL.find? (fun e => e.1 == j) with | some e => nth l e.2 | none => undef, fun t => ?_, fun j hj hbj => ?_, fun e he hbe => ?_⟩
      · rw [hl' t]
        unfold sel
        split
        · split
          · rename_i hb; exact (if_pos hb).symm
          · rfl
        · rfl
      · have h1 : rs B j (fun j => if b j then v j else match DL.find? (fun e => e.1 == j) with | some e => nth l e.2 | none => undef) = rs B j v := by
          funext m
          unfold rs
          split
          · rename_i hm; exact if_pos (hcl j hbj m hm)
          · rfl
        rw [h1]
        simp only [hbj, if_true]
        exact hΦ j hj hbj
      · have hf : DL.find? (fun e' => e'.1 == e.1) = some e := by
          cases hf : DL.find? (fun e' => e'.1 == e.1) with
          | none => have := List.find?_eq_none.1 hf e he; simp at this
          | some e' => rw [fst_at hnd1 (List.mem_of_find?_eq_some hf) he (by simpa using List.find?_some hf)]
        simp only [hbe, hf]
        rfl
    have hold' : ∀ e ∈ DL, bit B e.1 i = true → v e.1 = nth l e.2 := fun e he hbe => hold e he (by
      cases hb : b e.1 with
      | false => rfl
      | true => have := hcl e.1 hb i hbe; rw [h1] at this; cases this)
    have hpre : ∀ j, bit B i j = true → b j = true := by
      intro j hj
      obtain ⟨e, he, hbe, hor⟩ := e2 j (e7 j hj) hj
      have hbon : b e.on = true := by
        have := hedge e he hbe
        rw [getF] at this
        split at this
        · exact this
        · cases this
      rcases hor with rfl | hor
      · exact hbon
      · exact hcl e.on hbon j hor
    have hkmin : ∀ t, t < Ms.length → bit B i (Ms.getD t 0) = true → t < k := fun t ht hb => (hms t ht).1 (hpre _ hb)
    have hkmax : ∀ t, t < Ms.length → bit B (Ms.getD t 0) i = true → k ≤ t := by
      intro t ht hb
      rcases Nat.lt_or_ge t k with h | h
      · have := hcl _ ((hms t ht).2 h) i hb
        rw [h1] at this
        cases this
      · exact h
    have hIv' : Ivs (fun j => bit B i j = true) lo hi w0 w := ⟨fun j hj => hIv.1 j (hpre j hj), fun x y hx hy => hIv.2 x y (hpre x hx) (hpre y hy)⟩
    have hΦ' : ∀ j, bit B i j = true → (Φ j).p (rs B j v) (v j) (lo j) (hi j) w := fun j hj => hΦ j (by have := e7 j hj; omega) (hpre j hj)
    have hcnt : ((List.range n).filter fun j => !up b i j).length = m := by
      have := count_up h1 List.nodup_range (List.mem_range.2 hin)
      omega
    by_cases hip : i < p
    case neg =>
      have hpi : p ≤ i := Nat.le_of_not_lt hip
      have hpe : i = p := by
        rcases Nat.lt_or_ge p i with h | h
        · have := hpre p (hlate i hpi hin p h)
          rw [hbp p (Nat.le_refl _)] at this
          cases this
        · omega
      subst hpe
      have hball : ∀ j, j < i → b j = true := fun j hj => hpre j (hlate i (Nat.le_refl _) hin j hj)
      have hbe : b = fun j => decide (j < i) := by
        funext j
        by_cases hj : j < i
        · rw [hball j hj]; simp [hj]
        · rw [hbp j (Nat.le_of_not_lt hj)]; simp [hj]
      have hke : k = Ms.length := by
        rcases Nat.lt_or_ge k Ms.length with h | h
        · have := (hms k h).1 (hball _ (hMp k h))
          omega
        · omega
      have hfl : l' = fillL l DLp v := by
        refine nth_ext (by rw [hlen, fillL_length]) (fun t => ?_)
        have hnd2' : (DLp.map (·.2)).Nodup := by rw [hDp]; exact hnd2.sublist (List.filter_sublist.map _)
        have hlt' : ∀ e ∈ DLp, e.2 < l.length := fun e he => hDl e (by rw [hDp] at he; exact (List.mem_filter.1 he).1)
        rw [hl' t, nth_fillL DLp l v t hlt' hnd2']
        unfold sel
        cases hf : DL.find? (fun e => e.2 == t) with
        | none =>
          have : DLp.find? (fun e => e.2 == t) = none := by
            rw [List.find?_eq_none] at hf ⊢
            exact fun e he => hf e (by rw [hDp] at he; exact (List.mem_filter.1 he).1)
          rw [this]
        | some e =>
          have he := List.mem_of_find?_eq_some hf
          have het : e.2 = t := by simpa using List.find?_some hf
          by_cases hep : e.1 < i
          · have hm' : (e.1, t) ∈ DLp := by rw [hDp, ← het]; exact List.mem_filter.2 ⟨he, by simpa using hep⟩
            rw [find_at hnd2' hm']
            simp [hball e.1 hep]
          · have : DLp.find? (fun e => e.2 == t) = none := by
              rw [List.find?_eq_none]
              intro e' he' h'
              rw [hDp] at he'
              obtain ⟨h1', h2'⟩ := List.mem_filter.1 he'
              have h3' : e'.2 = t := by simpa using h'
              have := find_at hnd2 (show (e'.1, t) ∈ DL by rw [← h3']; exact h1')
              rw [hf] at this
              have := Option.some.inj this
              rw [this] at hep
              simp at h2' hep
              omega
            rw [this]
            simp [hbp e.1 (Nat.le_of_not_lt hep)]
      subst hke
      have hT := hend v lo hi w hO (fun j hj => hΦ j (by omega) (hball j hj)) ⟨fun j hj => hIv.1 j (hball j hj), fun x y hx hy => hIv.2 x y (hball x hx) (hball y hy)⟩ hr
      rw [← hfl] at hT
      have hgo := tail_go (r := r) (P := P) (Q := Q) hB hn hlate (n - i) i (fr l' ds) w (Nat.le_refl _) (by omega) hT
      have hcm : n - i = m + 1 := by
        rw [← hm0, hbe]
        exact (count_late n i (by omega)).symm
      rw [hcm, ← hbe] at hgo
      exact hgo.2 i (by rw [mem_ready]; exact ⟨by rw [getT, if_pos hin]; exact h1, o, ho, hedge⟩)
    have hbp' : ∀ j, p ≤ j → up b i j = false := fun j hj => by simp only [up, show j ≠ i by omega, if_false]; exact hbp j hj
    by_cases hiM : i ∈ Ms
    · obtain ⟨t, ht, hti⟩ : ∃ t, t < Ms.length ∧ Ms.getD t 0 = i := by
        obtain ⟨t, ht, hti⟩ := List.getElem_of_mem hiM
        exact ⟨t, ht, by rw [List.getD_eq_getElem?_getD, List.getElem?_eq_getElem ht]; exact hti⟩
      have hkt : k = t := by
        have h2 : ¬ t < k := fun h => by
          have := (hms t ht).2 h
          rw [hti, h1] at this
          cases this
        rcases Nat.eq_zero_or_pos t with h0 | h0
        · omega
        · have h3 := (hMs t ht).2 (t - 1) (by omega)
          rw [hti] at h3
          have := hkmin (t - 1) (by omega) h3
          omega
      subst hkt
      obtain ⟨o', ho'', hg⟩ := hm k ht v lo hi w hO (by rw [hti]; exact hΦ') (by rw [hti]; exact hIv') hr (by rw [hti]; exact hold')
      have ho' := nthO_ops ho''
      rw [hti] at ho' hg
      rw [ho] at ho'
      obtain rfl := Option.some.inj ho'
      refine gdoes_wp (l := l) (DL := DL) hB hDl ho hlen hl' hold hg (fun u w' hu => ?_)
      rw [list_up]
      obtain ⟨hu1, hu2, hu3⟩ := hu
      refine ih _ _ _ hcnt hbp' (inv_up hB hn hDl ho h1 hlen hl' hO hΦ hIv hcl hpre hu1 hu3 ht (fun s hs' => ?_) hu2)
      by_cases hst : s = k
      · subst hst; rw [hti]; simp [up]
      · have hne : Ms.getD s 0 ≠ i := by
          intro h
          rw [← hti, List.getD_eq_getElem?_getD, List.getD_eq_getElem?_getD, List.getElem?_eq_getElem hs', List.getElem?_eq_getElem ht] at h
          exact hst (nodup_at hMn hs' ht (by simpa using h))
        simp only [up, hne, if_false]
        rw [hms s hs']
        omega
    · obtain ⟨o', ho'', hg⟩ := hs i hip hiM v lo hi w k hO hΦ' hIv' hkmin hkmax hk hr hold'
      have ho' := nthO_ops ho''
      rw [ho] at ho'
      obtain rfl := Option.some.inj ho'
      refine gdoes_wp (l := l) (DL := DL) hB hDl ho hlen hl' hold hg (fun u w' hu => ?_)
      rw [list_up]
      refine ih _ _ _ hcnt hbp' (inv_up hB hn hDl ho h1 hlen hl' hO hΦ hIv hcl hpre hu.1 (No.any hu.2) hk (fun s hs' => ?_) (hR _ _ _ hr hu.2))
      have hne : Ms.getD s 0 ≠ i := by
        intro h
        refine hiM ?_
        rw [← h, List.getD_eq_getElem?_getD, List.getElem?_eq_getElem hs']
        exact List.getElem_mem hs'
      simp only [up, hne, if_false]
      exact hms s hs'


theorem drawnT {id : Nat} (p : Nat) (B : List Nat) (DL DLp : List (Nat × Tmp)) (Ls : List Nat) (Ms : List Nat) (Φ : Nat → RF O) (Rs : Nat → World → Prop)
    (lv lp : (Nat → Value) → List Value) (hmx : P.follows .mixedOrders = true) (hB : bOk ops B DL Ms = true) (hn : ops.size = n) (hp : p < n) (hDp : DLp = DL.filter (fun e => decide (e.1 < p))) (hMp : (Ms.all fun t => decide (t < p)) = true)
    (hlate : ((List.range n).all fun i => decide (i < p) || (List.range i).all fun j => bit B i j) = true) (hLs : ((List.range p).all fun i => Ls.contains i || Ms.contains i) = true)
    (hDl : (DL.all fun e => decide (e.2 < l.length)) = true) (hlv : ∀ v, fillL l DL v = lv v) (hlp : ∀ v, fillL l DLp v = lp v) (hR : ∀ k w w', Rs k w → Only No w w' → Rs k w') (h0 : Rs 0 w0)
    (hs : ∀ i ∈ Ls, LStep P ops O DL l lv w0 n B Ms Φ Rs i) (hm : ∀ t, t < Ms.length → MStep P ops O DL l lv w0 n B Φ Rs t (Ms.getD t 0))
    (hend : ∀ v lo hi w', Only O w0 w' → (∀ j, j < p → (Φ j).p (rs B j v) (v j) (lo j) (hi j) w') → Ivs (fun j => j < p) lo hi w0 w' → Rs Ms.length w' → wpL r P ops Q (ops.toList.drop p) (lp v) ds w') :
    (Code.region id ops true).wpIn (Wf r) 0 P Q (fr l ds) w0 := by
  obtain rfl : (fun v => fillL l DL v) = lv := funext hlv
  obtain rfl : (fun v => fillL l DLp v) = lp := funext hlp
  refine wpIn_region_any hmx ?_
  have hdr : Only No w0 { w0 with drawn := w0.drawn + 1 } := ⟨rfl, rfl, rfl, Nat.le_refl _, fun _ _ _ => rfl⟩
  have hl : Array.replicate ops.size false = ((List.range n).map fun _ => false).toArray := by
    rw [hn]
    apply Array.ext'
    simp [List.map_const']
  rw [hl, hn]
  have hDl' : ∀ e ∈ DL, e.2 < l.length := fun e he => by simpa using List.all_eq_true.1 hDl e he
  have hf : ((List.range n).filter fun _ => !false).length = n := by
    have h1 : ((List.range n).filter fun _ => !false) = List.range n := List.filter_eq_self.2 (fun _ _ => rfl)
    rw [h1, List.length_range]
  have hsel : ∀ t, nth l t = sel DL (fun _ => false) (fun _ => undef) l t := by
    intro t
    unfold sel
    split <;> simp
  refine region_pre DLp hB hn hp hDp (fun t ht => ?_) (fun i h1 h2 j hj => ?_) hDl' hR (fun i hi hM => hs i ?_) hm hend n (fun _ => false) _ _ hf (fun _ _ => rfl) ⟨⟨fun _ => undef, fun _ => 0, fun _ => 0, 0, l, rfl, rfl, hsel, No.any hdr, (fun _ _ h => by cases h), ⟨(fun _ h => by cases h), (fun _ _ h => by cases h)⟩, Nat.zero_le _, (fun t ht => by simp), hR _ _ _ h0 hdr⟩, (fun _ h => by cases h)⟩
  · have := List.all_eq_true.1 hMp (Ms.getD t 0) (by rw [List.getD_eq_getElem?_getD, List.getElem?_eq_getElem ht]; exact List.getElem_mem ht)
    simpa using this
  · have := List.all_eq_true.1 hlate i (List.mem_range.2 h2)
    rw [Bool.or_eq_true] at this
    rcases this with h | h
    · have : i < p := by simpa using h
      omega
    · exact List.all_eq_true.1 h j (List.mem_range.2 hj)
  · have := List.all_eq_true.1 hLs i (List.mem_range.2 hi)
    rw [Bool.or_eq_true] at this
    rcases this with h | h
    · exact List.contains_iff_mem.1 h
    · exact absurd (List.contains_iff_mem.1 h) hM
end
end Go.Proofs.YtnlbekdjepkhcaaF
