/-
  Bad blocks of one die: those that are told, in which order and how often so ever, are as many superblocks fewer.
-/
import Derived.Test.YtnlbekdjepkhcaaGm
set_option linter.unusedVariables false
set_option linter.unusedSimpArgs false
namespace Go.Proofs.YtnlbekdjepkhcaaF
open Go

/-- The block that the number i of the row names. -/
def bdK (ls : List Int) (i : Nat) : Nat := (ls.getD i 0 % ((12 : Nat) : Int)).toNat
def bdP (d : Nat) (ls : List Int) (i : Nat) : List (Int × Int) := (List.range i).map fun j => (((d : Nat) : Int), ((bdK ls j : Nat) : Int))
def seenB (ls : List Int) : Nat → List Bool
  | 0 => List.replicate 12 false
  | i + 1 => (seenB ls i).set (bdK ls i) true
def seenN (ls : List Int) (i : Nat) : Nat := (seenB ls i).count true
/-- Bad ones that are none. -/
def non3 (d : Nat) (x : Int × Int) : List (Int × Int) := [(((6 + (x.1 % ((9 : Nat) : Int)).toNat : Nat) : Int), x.2), (((d : Nat) : Int), ((12 + (x.2 % ((9 : Nat) : Int)).toNat : Nat) : Int)), (-1, ((0 : Nat) : Int))]
def nonP (d : Nat) (ns : List (Int × Int)) (i : Nat) : List (Int × Int) := (List.range i).flatMap fun j => non3 d (ns.getD j (0, 0))
section
variable {ls : List Int} {ns : List (Int × Int)} {d i k b m : Nat}
theorem bdK_lt (ls : List Int) (i : Nat) : bdK ls i < 12 := by unfold bdK; omega
theorem bdP_next : bdP d ls i ++ [(((d : Nat) : Int), ((bdK ls i : Nat) : Int))] = bdP d ls (i + 1) := by
  unfold bdP
  rw [List.range_succ, List.map_append]
  rfl
theorem bdP_len (d : Nat) (ls : List Int) (i : Nat) : (bdP d ls i).length = i := by simp [bdP]
theorem nonP_next : nonP d ns i ++ non3 d (ns.getD i (0, 0)) = nonP d ns (i + 1) := by
  unfold nonP
  rw [List.range_succ, List.flatMap_append]
  simp
theorem nonP_len (d : Nat) (ns : List (Int × Int)) : ∀ i, (nonP d ns i).length = 3 * i
  | 0 => rfl
  | i + 1 => by rw [← nonP_next, List.length_append, nonP_len d ns i]; show _ + 3 = _; omega
theorem seenB_len (ls : List Int) : ∀ i, (seenB ls i).length = 12
  | 0 => rfl
  | i + 1 => by unfold seenB; rw [List.length_set, seenB_len ls i]
theorem seen_same (h : (seenB ls i).getD (bdK ls i) false = true) : seenB ls i = seenB ls (i + 1) := by
  have hl : bdK ls i < (seenB ls i).length := by rw [seenB_len]; exact bdK_lt ls i
  rw [List.getD_eq_getElem?_getD, List.getElem?_eq_getElem hl] at h
  have h : (seenB ls i)[bdK ls i] = true := h
  show _ = (seenB ls i).set (bdK ls i) true
  rw [← h]
  exact (List.set_getElem_self hl).symm
theorem seenN_same (h : (seenB ls i).getD (bdK ls i) false = true) : seenN ls i = seenN ls (i + 1) := by unfold seenN; rw [← seen_same h]
theorem seenN_next (h : ¬ (seenB ls i).getD (bdK ls i) false = true) : seenN ls i + 1 = seenN ls (i + 1) := by
  have hl : bdK ls i < (seenB ls i).length := by rw [seenB_len]; exact bdK_lt ls i
  rw [List.getD_eq_getElem?_getD, List.getElem?_eq_getElem hl] at h
  have h : ¬ (seenB ls i)[bdK ls i] = true := h
  show _ = ((seenB ls i).set (bdK ls i) true).count true
  rw [List.count_set hl]
  simp [h, seenN]
theorem seenN_le (ls : List Int) (i : Nat) : seenN ls i ≤ 12 := by have := List.count_le_length (a := true) (l := seenB ls i); rw [seenB_len] at this; exact this
theorem seen_iff (hk : k < 12) : ∀ i, (seenB ls i).getD k false = true ↔ (((d : Nat) : Int), ((k : Nat) : Int)) ∈ bdP d ls i
  | 0 => by
    have h0 : bdP d ls 0 = [] := rfl
    have h1 : (seenB ls 0).getD k false = false := by
      show (List.replicate 12 false).getD k false = false
      rw [List.getD_eq_getElem?_getD, List.getElem?_replicate]
      split <;> rfl
    rw [h0, h1]
    simp
  | i + 1 => by
    rw [← bdP_next, List.mem_append, ← seen_iff hk i]
    show ((seenB ls i).set (bdK ls i) true).getD k false = true ↔ _
    by_cases e : bdK ls i = k
    · rw [e, List.getD_eq_getElem?_getD, List.getElem?_set_self (by rw [seenB_len]; exact hk)]
      simp
    · rw [List.getD_eq_getElem?_getD, List.getElem?_set_ne e, ← List.getD_eq_getElem?_getD]
      have : ¬ ((k : Nat) : Int) = ((bdK ls i : Nat) : Int) := fun h => e (by omega)
      simp [this]
theorem nonP_no {x y : Int} (h : (x, y) ∈ nonP d ns i) : ¬ (0 ≤ x ∧ x < 6 ∧ 0 ≤ y ∧ y < 12) := by
  unfold nonP at h
  rw [List.mem_flatMap] at h
  obtain ⟨j, _, h⟩ := h
  simp only [non3, List.mem_cons, Prod.mk.injEq, List.not_mem_nil, or_false] at h
  omega
theorem bdP_no {x y : Int} (h : (x, y) ∈ bdP d ls i) : x = ((d : Nat) : Int) := by
  unfold bdP at h
  rw [List.mem_map] at h
  obtain ⟨j, _, h⟩ := h
  injection h with h1 _
  exact h1.symm
/-- All that is told. -/
def badB (d : Nat) (ls : List Int) (ns : List (Int × Int)) (m i : Nat) : List (Int × Int) := bdP d ls m ++ nonP d ns i
theorem badB_len (d : Nat) (ls : List Int) (ns : List (Int × Int)) (m i : Nat) : (badB d ls ns m i).length = m + 3 * i := by unfold badB; rw [List.length_append, bdP_len, nonP_len]
theorem badB_next : badB d ls ns m i ++ non3 d (ns.getD i (0, 0)) = badB d ls ns m (i + 1) := by unfold badB; rw [List.append_assoc, nonP_next]
theorem badB_zero : bdP d ls m = badB d ls ns m 0 := by
  unfold badB
  rw [show nonP d ns 0 = [] from rfl, List.append_nil]
theorem bad_is (hd : d < 6) (hk : k < 12) : isBadL (badB d ls ns m i) d k = (seenB ls m).getD k false := by
  have h : (((d : Nat) : Int), ((k : Nat) : Int)) ∈ badB d ls ns m i ↔ (seenB ls m).getD k false = true := by
    rw [seen_iff (d := d) hk]
    unfold badB
    rw [List.mem_append]
    exact ⟨fun h => h.elim id fun h => absurd ⟨by omega, by omega, by omega, by omega⟩ (nonP_no h), .inl⟩
  unfold isBadL
  rw [Bool.eq_iff_iff, decide_eq_true_iff]
  exact h
theorem bad_not {c : Nat} (hc : c < 6) (hn : ¬ c = d) (hk : k < 12) : isBadL (badB d ls ns m i) c k = false := by
  refine decide_eq_false fun h => ?_
  unfold badB at h
  rw [List.mem_append] at h
  rcases h with h | h
  · have := bdP_no h
    omega
  · exact nonP_no h ⟨by omega, by omega, by omega, by omega⟩
theorem good_cnt (ls : List Int) (ns : List (Int × Int)) (m i : Nat) (hd : d < 6) : ∀ b, b ≤ 12 → (goodL (badB d ls ns m i) d b).length + ((seenB ls m).take b).count true = b
  | 0, _ => by simp [goodL]
  | b + 1, hb => by
    have ih := good_cnt ls ns m i hd b (by omega)
    have hl : b < (seenB ls m).length := by rw [seenB_len]; omega
    have e : (seenB ls m).getD b false = (seenB ls m)[b] := by rw [List.getD_eq_getElem?_getD, List.getElem?_eq_getElem hl]; rfl
    rw [List.take_succ_eq_append_getElem hl, List.count_append, ← e]
    cases hs : (seenB ls m).getD b false with
    | true =>
      rw [good_yes ((bad_is hd (by omega)).trans hs)]
      show _ + (_ + 1) = _
      omega
    | false =>
      rw [good_no ((bad_is hd (by omega)).trans hs), List.length_append]
      show _ + 1 + (_ + 0) = _
      omega
theorem good_seen (hd : d < 6) : (goodL (badB d ls ns m i) d 12).length = 12 - seenN ls m := by
  have h := good_cnt ls ns m i hd 12 (by omega)
  rw [List.take_of_length_le (by rw [seenB_len]; omega)] at h
  have h : (goodL (badB d ls ns m i) d 12).length + seenN ls m = 12 := h
  omega
theorem good_else {c : Nat} (hc : c < 6) (hn : ¬ c = d) : goodL (badB d ls ns m i) c 12 = List.range 12 := by
  unfold goodL
  rw [List.filter_eq_self]
  intro k hk
  rw [bad_not hc hn (List.mem_range.1 hk)]
  rfl
theorem nMin_seen (hd : d < 6) : nMin (badB d ls ns m i) 12 6 = 12 - seenN ls m := by
  refine Nat.le_antisymm ?_ ?_
  · rw [← good_seen (ls := ls) (ns := ns) (m := m) (i := i) hd]
    exact nMin_good _ 12 hd
  · refine nMin_ge (by omega) fun c hc => ?_
    by_cases e : c = d
    · rw [e, good_seen hd]
      exact Nat.le_refl _
    · rw [good_else hc e, List.length_range]
      omega
theorem at_lt (hd : d < 6) (hb : b < 12) (hs : ¬ (seenB ls m).getD b false = true) : (goodL (badB d ls ns m i) d b).length < 12 - seenN ls m := by
  rw [← good_seen (ls := ls) (ns := ns) (m := m) (i := i) hd]
  have h := (good_pre (bad := badB d ls ns m i) (d := d) hb (by rw [bad_is hd hb]; exact hs)).length_le
  rw [List.length_append, List.length_singleton] at h
  omega
theorem at_b (hd : d < 6) (hb : b < 12) (hs : ¬ (seenB ls m).getD b false = true) : (supR (badB d ls ns m i) 12 6 (goodL (badB d ls ns m i) d b).length).getD d 0 = b := by
  rw [supR_at hd]
  obtain ⟨t, ht⟩ := good_pre (bad := badB d ls ns m i) (d := d) hb (by rw [bad_is hd hb]; exact hs)
  rw [← ht, List.append_assoc, List.getD_eq_getElem?_getD, List.getElem?_append_right (Nat.le_refl _), Nat.sub_self]
  rfl
theorem at_else (hd : d < 6) (hb : b < 12) (hs : ¬ (seenB ls m).getD b false = true) : (supR (badB d ls ns m i) 12 6 (goodL (badB d ls ns m i) d b).length).getD ((d + 1) % 6) 0 = (goodL (badB d ls ns m i) d b).length := by
  rw [supR_at (Nat.mod_lt _ (by decide)), good_else (Nat.mod_lt _ (by decide)) (by omega)]
  have h := at_lt (ns := ns) (i := i) hd hb hs
  rw [List.getD_eq_getElem?_getD, List.getElem?_range (by omega)]
  rfl
theorem at_next (hd : d < 6) (hb : b < 12) (hs : ¬ (seenB ls m).getD b false = true) : (goodL (badB d ls ns m i) d b).length + 1 = (goodL (badB d ls ns m i) d (b + 1)).length := by
  rw [good_no (by rw [bad_is hd hb]; exact Bool.eq_false_iff.2 hs), List.length_append]
  rfl
theorem at_same (hd : d < 6) (hb : b < 12) (hs : (seenB ls m).getD b false = true) : (goodL (badB d ls ns m i) d b).length = (goodL (badB d ls ns m i) d (b + 1)).length := by
  rw [good_yes ((bad_is hd hb).trans hs)]
end
end Go.Proofs.YtnlbekdjepkhcaaF
