import Derived.Test.YtnlbekdjepkhcaaMf
/-
  What the walks of the decoder name.
-/
set_option linter.unusedVariables false
set_option linter.unusedSimpArgs false
namespace Ram
open Go.Proofs.YtnlbekdjepkhcaaF (shlB shrB)
theorem set_tab {α : Type} {n i : Nat} {f g : Nat → α} {v : α} (hv : v = g i) (h : ∀ k, k < n → k ≠ i → f k = g k) : (tab n f).set i v = tab n g := by
  rw [tab_set]
  refine tab_ext fun k hk => ?_
  by_cases he : k = i
  · rw [if_pos he, he]; exact hv
  · rw [if_neg he]; exact h k hk he
def stepTo (n i : Nat) : List UInt8 := tab n (fun t => if t < i then exI (-1 - (t : Int)) else 0)
theorem stepTo_length (n i : Nat) : (stepTo n i).length = n := tab_length
theorem stepTo_zero (n : Nat) : List.replicate n 0 = stepTo n 0 := by unfold stepTo; rw [tab_rep]; exact tab_ext fun k _ => by rw [if_neg (by omega)]
theorem stepTo_step (n i : Nat) : (stepTo n i).set i (exI (-1 - (i : Int))) = stepTo n (i + 1) := by
  unfold stepTo
  refine set_tab (by rw [if_pos (by omega)]) fun k _ hk => ?_
  by_cases h : k < i
  · rw [if_pos h, if_pos (by omega)]
  · rw [if_neg h, if_neg (by omega)]
theorem stepTo_at {n i t : Nat} (h : t < n) (hi : n ≤ i) : (stepTo n i).getD t 0 = exI (-1 - (t : Int)) := by unfold stepTo; rw [tab_at h, if_pos (by omega)]
def tmAt (l : List UInt8) (p t : Nat) : UInt8 := gm (l.getD t 0) (exI ((-1 - (t : Int)) * p))
def tmL (l : List UInt8) (p : Nat) : List UInt8 := tab l.length (tmAt l p)
def tmMid (l : List UInt8) (p i : Nat) : List UInt8 := tab l.length (fun t => if t < i then tmAt l (p + 1) t else tmAt l p t)
theorem tmL_length (l : List UInt8) (p : Nat) : (tmL l p).length = l.length := tab_length
theorem tmMid_length (l : List UInt8) (p i : Nat) : (tmMid l p i).length = l.length := tab_length
theorem tmL_zero (l : List UInt8) : l = tmL l 0 := by
  refine (eq_tab l 0).trans ?_
  unfold tmL
  refine tab_ext fun t _ => ?_
  unfold tmAt
  have : (-1 - (t : Int)) * ((0 : Nat) : Int) = 0 := Int.mul_zero _
  rw [this, show exI 0 = 1 by decide, gm_one]
theorem tmMid_zero (l : List UInt8) (p : Nat) : tmL l p = tmMid l p 0 := tab_ext fun t _ => by rw [if_neg (by omega)]
theorem tmMid_done (l : List UInt8) (p : Nat) {i : Nat} (h : l.length ≤ i) : tmMid l p i = tmL l (p + 1) := tab_ext fun t _ => by rw [if_pos (by omega)]
theorem tmMid_at (l : List UInt8) (p : Nat) {i : Nat} (h : i < l.length) : (tmMid l p i).getD i 0 = tmAt l p i := by unfold tmMid; rw [tab_at h, if_neg (by omega)]
theorem tmMid_step (l : List UInt8) (p : Nat) {i j : Nat} (h : i < l.length) (hj : l.length ≤ j) : (tmMid l p i).set i (gm ((tmMid l p i).getD i 0) ((stepTo l.length j).getD i 0)) = tmMid l p (i + 1) := by
  rw [tmMid_at l p h, stepTo_at h hj]
  unfold tmMid
  refine set_tab ?_ fun k _ hk => ?_
  · rw [if_pos (by omega)]
    unfold tmAt
    rw [gm_assoc, ← exI_add]
    congr 2
    rw [Int.natCast_add, Int.mul_add, show ((1 : Nat) : Int) = 1 from rfl, Int.mul_one]
  · by_cases h2 : k < i
    · rw [if_pos h2, if_pos (by omega)]
    · rw [if_neg h2, if_neg (by omega)]
def sgT (l : List UInt8) (p i : Nat) : UInt8 := 1 ^^^ xs i (tmAt l p)
theorem sgT_zero (l : List UInt8) (p : Nat) : sgT l p 0 = 1 := by show (1 : UInt8) ^^^ 0 = 1; decide
theorem sgT_step (l : List UInt8) (p : Nat) {i : Nat} (h : i < l.length) : sgT l p i ^^^ (tmMid l p i).getD i 0 = sgT l p (i + 1) := by
  rw [tmMid_at l p h]; unfold sgT; exact x_assoc _ _ _
theorem sgT_done (l : List UInt8) (p : Nat) : sgT l p l.length = sigL l p := rfl
def wrongTo (l : List UInt8) (p : Nat) : List Nat := (List.range p).filter (fun p => decide (sigL l p = 0))
theorem wrongTo_yes {l : List UInt8} {p : Nat} (h : sigL l p = 0) : wrongTo l p ++ [p] = wrongTo l (p + 1) := by
  unfold wrongTo; rw [List.range_succ, List.filter_append]; simp [h]
theorem wrongTo_no {l : List UInt8} {p : Nat} (h : ¬ sigL l p = 0) : wrongTo l (p + 1) = wrongTo l p := by
  unfold wrongTo; rw [List.range_succ, List.filter_append]; simp [h]
theorem wrongTo_len (l : List UInt8) (p : Nat) : (wrongTo l p).length ≤ p := by
  unfold wrongTo; exact Nat.le_trans (List.length_filter_le _ _) (by rw [List.length_range]; exact Nat.le_refl _)
theorem wrongL_lt (l : List UInt8) : ∀ k ∈ wrongL l, k < 224 := fun k hk => List.mem_range.1 (List.mem_filter.1 hk).1
theorem wrongL_len (l : List UInt8) : (wrongL l).length ≤ 224 := wrongTo_len l 224
theorem loc_n1 {s : List UInt8} {n : Nat} (h : n = 1) : locL s n = ([s.getD 0 0], true) := by unfold locL; rw [if_pos h]
theorem loc_n2 {s : List UInt8} {n : Nat} (h1 : ¬ n = 1) (h : n = 2) : locL s n = ([s.getD 0 0, gm (s.getD 2 0 ^^^ powB (s.getD 0 0) 3) (invB (s.getD 0 0))], !decide (s.getD 0 0 = 0)) := by unfold locL; rw [if_neg h1, if_pos h]
theorem loc_n3 {s : List UInt8} {n : Nat} (h1 : ¬ n = 1) (h : ¬ n = 2) : locL s n = ([s.getD 0 0, gm (gm (gm (s.getD 0 0) (s.getD 0 0)) (s.getD 2 0) ^^^ s.getD 4 0) (invB (powB (s.getD 0 0) 3 ^^^ s.getD 2 0)),
    (powB (s.getD 0 0) 3 ^^^ s.getD 2 0) ^^^ gm (s.getD 0 0) (gm (gm (gm (s.getD 0 0) (s.getD 0 0)) (s.getD 2 0) ^^^ s.getD 4 0) (invB (powB (s.getD 0 0) 3 ^^^ s.getD 2 0)))],
    !decide (powB (s.getD 0 0) 3 ^^^ s.getD 2 0 = 0)) := by unfold locL; rw [if_neg h1, if_neg h]
theorem loc_len (s : List UInt8) (n : Nat) : (locL s n).1.length ≤ 3 := by
  unfold locL
  split
  · exact Nat.le_of_ble_eq_true rfl
  · split <;> exact Nat.le_of_ble_eq_true rfl
theorem getD_lt {l : List Nat} {i m : Nat} (h : ∀ k ∈ l, k < m) (hi : i < l.length) : l.getD i 0 < m := by
  rw [List.getD_eq_getElem?_getD, List.getElem?_eq_getElem hi]
  exact h _ (List.getElem_mem hi)
theorem take_next {α : Type} {d : α} {l : List α} {i : Nat} (h : i < l.length) : l.take (i + 1) = l.take i ++ [l.getD i d] := by
  rw [List.take_succ_eq_append_getElem h]
  congr 2
  rw [List.getD_eq_getElem?_getD, List.getElem?_eq_getElem h]; rfl
theorem shl_one (p : Nat) : shlB 1 p = UInt8.ofNat (2 ^ p) := by unfold shlB; simp
theorem flip_next (w : List UInt8) {l : List Nat} {i : Nat} (h : i < l.length) : (flipL w (l.take i)).set (l.getD i 0 / 8) ((flipL w (l.take i)).getD (l.getD i 0 / 8) 0 ^^^ shlB 1 (l.getD i 0 % 8)) = flipL w (l.take (i + 1)) := by
  rw [take_next (d := 0) h, flipL_snoc, shl_one]; rfl
/-! what is decoded -/
noncomputable def decB (w : List UInt8) : Bool := if w.length = 28 then (decL w).isSome else false
noncomputable def decN (w : List UInt8) : Nat := if w.length = 28 then (decL w).elim 0 List.length else 0
noncomputable def decD (w : List UInt8) : List UInt8 := if w.length = 28 then (decL w).elim [] (fun L => (flipL w L).drop 4) else []
theorem dec_bad {w : List UInt8} (h : ¬ w.length = 28) : decD w = [] ∧ decN w = 0 ∧ decB w = false := by
  unfold decB decN decD; rw [if_neg h, if_neg h, if_neg h]; exact ⟨rfl, rfl, rfl⟩
theorem dec_some {w : List UInt8} {L : List Nat} (h : w.length = 28) (hN : Near w L) : decD w = (flipL w L).drop 4 ∧ decN w = L.length ∧ decB w = true := by
  unfold decB decN decD; rw [if_pos h, if_pos h, if_pos h, decL_some hN]; exact ⟨rfl, rfl, rfl⟩
theorem dec_none {w : List UInt8} (h : w.length = 28) (hN : ∀ L, ¬ Near w L) : decD w = [] ∧ decN w = 0 ∧ decB w = false := by
  unfold decB decN decD; rw [if_pos h, if_pos h, if_pos h, decL_none hN]; exact ⟨rfl, rfl, rfl⟩
theorem decD_len (w : List UInt8) : (decD w).length ≤ 24 := by
  by_cases h : w.length = 28
  · by_cases hN : ∃ L, Near w L
    · obtain ⟨L, hN⟩ := hN
      rw [(dec_some h hN).1, List.length_drop, flipL_length]; omega
    · rw [(dec_none h fun L hL => hN ⟨L, hL⟩).1]; exact Nat.zero_le _
  · rw [(dec_bad h).1]; exact Nat.zero_le _
theorem near_nil {w : List UInt8} (h : whole (sumsL w) = true) : Near w [] :=
  ⟨List.Pairwise.nil, fun _ h => (by cases h), Nat.zero_le _, fun i h1 h8 => (whole_sums w).1 h i h1 h8⟩
theorem near_pos {w : List UInt8} (h : ¬ whole (sumsL w) = true) {L : List Nat} (hN : Near w L) : 1 ≤ L.length := by
  rcases Nat.eq_zero_or_pos L.length with h0 | h0
  · exact absurd ((whole_sums w).2 fun i h1 h8 => by rw [hN.eq i h1 h8, List.eq_nil_of_length_eq_zero h0]; rfl) h
  · exact h0
theorem near_next {w : List UInt8} (hw : w.length = 28) {n : Nat} (h1 : 1 ≤ n) (hno : ∀ L, Near w L → n ≤ L.length) (h : ¬ ((locL (sumsL w) n).2 = true ∧ (wrongL (locL (sumsL w) n).1).length = n ∧ whole (sumsL (flipL w (wrongL (locL (sumsL w) n).1))) = true)) : ∀ L, Near w L → n + 1 ≤ L.length := fun L hN => by
  have := hno L hN
  have := try_none hw h1 h hN
  omega
theorem near_end {w : List UInt8} {n : Nat} (hn : 3 < n) (hno : ∀ L, Near w L → n ≤ L.length) (L : List Nat) : ¬ Near w L := fun hN => by have := hno L hN; have := hN.few; omega
end Ram
