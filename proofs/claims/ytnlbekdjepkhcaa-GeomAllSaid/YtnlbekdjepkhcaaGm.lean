/-
  Superblocks: of each die the blocks that are good, in their order; as many as the die with fewest has.
-/
import Derived.Test.YtnlbekdjepkhcaaMt
import Derived.Test.YtnlbekdjepkhcaaGp
set_option linter.unusedVariables false
set_option linter.unusedSimpArgs false
namespace Go.Proofs.YtnlbekdjepkhcaaF
open Go

/-- Is the block told bad? -/
def isBadL (bad : List (Int × Int)) (d b : Nat) : Bool := decide ((((d : Nat) : Int), ((b : Nat) : Int)) ∈ bad)
/-- The good ones of a die, below b. -/
def goodL (bad : List (Int × Int)) (d b : Nat) : List Nat := (List.range b).filter fun k => !isBadL bad d k
def nMin (bad : List (Int × Int)) (B : Nat) : Nat → Nat
  | 0 => B
  | d + 1 => min (nMin bad B d) (goodL bad d B).length
def supR (bad : List (Int × Int)) (B D i : Nat) : List Nat := (List.range D).map fun d => (goodL bad d B).getD i 0
def supL (bad : List (Int × Int)) (B D : Nat) : List (List Nat) := (List.range (nMin bad B D)).map (supR bad B D)
section
variable {bad : List (Int × Int)} {B D d i j : Nat}
theorem good_zero : goodL bad d 0 = [] := rfl
theorem good_yes (h : isBadL bad d i = true) : goodL bad d (i + 1) = goodL bad d i := by
  unfold goodL
  rw [List.range_succ, List.filter_append]
  simp [h]
theorem good_no (h : isBadL bad d i = false) : goodL bad d (i + 1) = goodL bad d i ++ [i] := by
  unfold goodL
  rw [List.range_succ, List.filter_append]
  simp [h]
theorem good_len (bad : List (Int × Int)) (d b : Nat) : (goodL bad d b).length ≤ b := by
  have := List.length_filter_le (fun k => !isBadL bad d k) (List.range b)
  rwa [List.length_range] at this
theorem good_at (h : i < (goodL bad d B).length) : (goodL bad d B).getD i 0 ∈ goodL bad d B := by
  rw [List.getD_eq_getElem?_getD, List.getElem?_eq_getElem h]
  exact List.getElem_mem h
theorem good_mem {b : Nat} (h : b ∈ goodL bad d B) : b < B ∧ isBadL bad d b = false := by
  obtain ⟨h1, h2⟩ := List.mem_filter.1 h
  exact ⟨List.mem_range.1 h1, by simpa using h2⟩
theorem good_lt (h : i < (goodL bad d B).length) : (goodL bad d B).getD i 0 < B ∧ isBadL bad d ((goodL bad d B).getD i 0) = false := good_mem (good_at h)
theorem good_sorted (bad : List (Int × Int)) (d B : Nat) : (goodL bad d B).Pairwise (· < ·) := List.pairwise_lt_range.sublist List.filter_sublist
theorem good_mono (hij : i < j) (h : j < (goodL bad d B).length) : (goodL bad d B).getD i 0 < (goodL bad d B).getD j 0 := by
  rw [List.getD_eq_getElem?_getD, List.getElem?_eq_getElem (by omega), List.getD_eq_getElem?_getD, List.getElem?_eq_getElem h]
  exact List.pairwise_iff_getElem.1 (good_sorted bad d B) i j (by omega) h hij
theorem nMin_le (bad : List (Int × Int)) (B : Nat) : ∀ D, nMin bad B D ≤ B
  | 0 => Nat.le_refl _
  | D + 1 => Nat.le_trans (Nat.min_le_left _ _) (nMin_le bad B D)
theorem nMin_good (bad : List (Int × Int)) (B : Nat) : ∀ {D d}, d < D → nMin bad B D ≤ (goodL bad d B).length
  | D + 1, d, h => by
    unfold nMin
    rcases Nat.lt_or_ge d D with h1 | h1
    · exact Nat.le_trans (Nat.min_le_left _ _) (nMin_good bad B h1)
    · have : d = D := by omega
      subst this
      exact Nat.min_le_right _ _
theorem nMin_ge {n : Nat} (hB : n ≤ B) : ∀ {D}, (∀ d, d < D → n ≤ (goodL bad d B).length) → n ≤ nMin bad B D
  | 0, _ => hB
  | D + 1, h => Nat.le_min.2 ⟨nMin_ge hB fun d hd => h d (by omega), h D (by omega)⟩
theorem sup_len (bad : List (Int × Int)) (B D : Nat) : (supL bad B D).length = nMin bad B D := by simp [supL]
theorem supR_len (bad : List (Int × Int)) (B D i : Nat) : (supR bad B D i).length = D := by simp [supR]
theorem sup_at (h : i < nMin bad B D) : (supL bad B D).getD i [] = supR bad B D i := by
  unfold supL
  rw [List.getD_eq_getElem?_getD, List.getElem?_map, List.getElem?_range h]
  rfl
theorem supR_at (h : d < D) : (supR bad B D i).getD d 0 = (goodL bad d B).getD i 0 := by
  unfold supR
  rw [List.getD_eq_getElem?_getD, List.getElem?_map, List.getElem?_range h]
  rfl
theorem good_none (d B : Nat) : goodL [] d B = List.range B := by
  unfold goodL
  rw [List.filter_eq_self]
  intro k _
  simp [isBadL]
theorem nMin_none (B : Nat) : ∀ D, nMin [] B D = B
  | 0 => rfl
  | D + 1 => by unfold nMin; rw [nMin_none B D, good_none, List.length_range, Nat.min_self]
/-- At most one of a die is bad: all but one of them are good. -/
theorem good_one (h : ∀ b b', isBadL bad d b = true → isBadL bad d b' = true → b = b') : ∀ B, B ≤ (goodL bad d B).length + 1 ∧ ((∀ b, b < B → isBadL bad d b = false) → (goodL bad d B).length = B)
  | 0 => ⟨Nat.zero_le _, fun _ => rfl⟩
  | B + 1 => by
    obtain ⟨h1, h2⟩ := good_one h B
    cases hb : isBadL bad d B with
    | true =>
      rw [good_yes hb]
      have h3 : ∀ b, b < B → isBadL bad d b = false := fun b hlt => by
        cases hc : isBadL bad d b with
        | false => rfl
        | true => have := h b B hc hb; omega
      have := h2 h3
      exact ⟨by omega, fun h4 => by rw [h4 B (by omega)] at hb; cases hb⟩
    | false =>
      rw [good_no hb, List.length_append, List.length_singleton]
      refine ⟨by omega, fun h4 => ?_⟩
      rw [h2 fun b hlt => h4 b (by omega)]
end
section
variable {bad : List (Int × Int)} {i : Nat} {x y : Int}
theorem pair_in (hi : i < bad.length) (h : x = (bad.getD i (0, 0)).1 ∧ y = (bad.getD i (0, 0)).2) : (x, y) ∈ bad := by
  rw [h.1, h.2, List.getD_eq_getElem?_getD, List.getElem?_eq_getElem hi]
  exact List.getElem_mem hi
theorem pair_out (hi : i = bad.length) (h : ∀ j, j < i → bad.getD j (0, 0) ≠ (x, y)) : ¬ (x, y) ∈ bad := fun hm => by
  obtain ⟨j, hj, e⟩ := List.getElem_of_mem hm
  refine h j (by omega) ?_
  rw [List.getD_eq_getElem?_getD, List.getElem?_eq_getElem hj]
  exact e
theorem pair_next (h : ∀ j, j < i → bad.getD j (0, 0) ≠ (x, y)) (hn : ¬ (x = (bad.getD i (0, 0)).1 ∧ y = (bad.getD i (0, 0)).2)) : ∀ j, j < i + 1 → bad.getD j (0, 0) ≠ (x, y) := fun j hj e => by
  rcases Nat.lt_or_ge j i with h1 | h1
  · exact h j h1 e
  · have : j = i := by omega
    subst this
    exact hn ⟨by rw [e], by rw [e]⟩
end
theorem good_prefix {bad : List (Int × Int)} {d i n : Nat} (h : i ≤ n) : goodL bad d i <+: goodL bad d n := by
  unfold goodL
  have : List.range i <+: List.range n := ⟨(List.range n).drop i, by conv => rhs; rw [← List.take_append_drop i (List.range n), List.take_range, Nat.min_eq_left h]⟩
  exact this.filter _
theorem good_pre {bad : List (Int × Int)} {d i n : Nat} (h : i < n) (hb : ¬ isBadL bad d i = true) : goodL bad d i ++ [i] <+: goodL bad d n := by
  rw [← good_no (Bool.eq_false_iff.2 hb)]
  exact good_prefix h
theorem pre_good {bad : List (Int × Int)} {d B k : Nat} {pre : List Nat} (h : pre ++ [k] <+: goodL bad d B) : pre.length < B := by
  have h1 := h.length_le
  rw [List.length_append, List.length_singleton] at h1
  have := good_len bad d B
  omega
/-- The first dies of a superblock. -/
def supTo (bad : List (Int × Int)) (B i d : Nat) : List Nat := (List.range d).map fun d => (goodL bad d B).getD i 0
theorem supTo_len (bad : List (Int × Int)) (B i d : Nat) : (supTo bad B i d).length = d := by simp [supTo]
theorem supTo_next (bad : List (Int × Int)) (B i d : Nat) : supTo bad B i d ++ [(goodL bad d B).getD i 0] = supTo bad B i (d + 1) := by
  unfold supTo
  rw [List.range_succ, List.map_append]
  rfl
theorem supTo_all (bad : List (Int × Int)) (B D i : Nat) : supTo bad B i D = supR bad B D i := rfl
theorem set_getD {l : List Value} {i : Nat} {u : Value} (h : i < l.length) : (l.set i u).getD i undef = u := by rw [List.getD_eq_getElem?_getD, List.getElem?_set_self h]; rfl
theorem set_same {l : List Value} {i : Nat} {u : Value} (h : i < l.length) (e : l.getD i undef = u) : l.set i u = l := by
  rw [List.getD_eq_getElem?_getD, List.getElem?_eq_getElem h] at e
  have e : l[i] = u := e
  rw [← e]
  exact List.set_getElem_self h
theorem set_getD_ne {l : List Value} {i k : Nat} {u : Value} (h : i ≠ k) : (l.set i u).getD k undef = l.getD k undef := by rw [List.getD_eq_getElem?_getD, List.getElem?_set_ne h, List.getD_eq_getElem?_getD]
/-! ### What may be, and what is told of it -/
def fitsI (x y z : Int) : Bool := decide (6 ≤ x ∧ x ≤ 8 ∧ 8 ≤ y ∧ y ≤ 12 ∧ 4 ≤ z ∧ z ≤ 8)
def gsec (x y z s : Int) : Int := if fitsI x y z = true ∧ 7 ≤ s ∧ s ≤ y then (s - 4) * (z - 2) * (x - 2) / 4 else 0
def gslot (x y z : Int) : Int := if fitsI x y z = true then x - 2 else 0
section
variable {x y z s : Int} {D B Q S : Nat}
theorem fits_is (h : 6 ≤ x ∧ x ≤ 8 ∧ 8 ≤ y ∧ y ≤ 12 ∧ 4 ≤ z ∧ z ≤ 8) : true = fitsI x y z := (decide_eq_true h).symm
theorem fits_no (h : ¬ (6 ≤ x ∧ x ≤ 8 ∧ 8 ≤ y ∧ y ≤ 12 ∧ 4 ≤ z ∧ z ≤ 8)) : false = fitsI x y z := (decide_eq_false h).symm
theorem fits_get (h : fitsI x y z = true) : 6 ≤ x ∧ x ≤ 8 ∧ 8 ≤ y ∧ y ≤ 12 ∧ 4 ≤ z ∧ z ≤ 8 := of_decide_eq_true h
theorem gsec_no (h : ¬ (fitsI x y z = true ∧ 7 ≤ s ∧ s ≤ y)) : gsec x y z s = 0 := if_neg h
theorem gsec_yes (h : fitsI (D : Int) (B : Int) (Q : Int) = true) (h7 : 7 ≤ S) (hS : S ≤ B) : gsec (D : Int) (B : Int) (Q : Int) (S : Int) = (((S - 4) * (Q - 2) * (D - 2) / 4 : Nat) : Int) := by
  have hf := fits_get h
  unfold gsec
  rw [if_pos ⟨h, by omega, by omega⟩]
  rw [Int.natCast_ediv, Int.natCast_mul, Int.natCast_mul, Int.ofNat_sub (by omega), Int.ofNat_sub (by omega), Int.ofNat_sub (by omega)]
  rfl
theorem sec_le (h : fitsI (D : Int) (B : Int) (Q : Int) = true) (hS : S ≤ B) : (S - 4) * (Q - 2) ≤ 48 ∧ (S - 4) * (Q - 2) * (D - 2) ≤ 288 := by
  have hf := fits_get h
  have h1 : (S - 4) * (Q - 2) ≤ 8 * 6 := Nat.mul_le_mul (by omega) (by omega)
  exact ⟨h1, Nat.mul_le_mul h1 (by omega : D - 2 ≤ 6)⟩
end
/-- The blocks that are spoilt, at most one of a die. -/
def spoilTo (B : Nat) (ls : List Int) : Nat → List (Int × Int)
  | 0 => []
  | i + 1 => if (ls.getD i 0 % ((2 * B : Nat) : Int)).toNat < B then spoilTo B ls i ++ [((i : Int), (((ls.getD i 0 % ((2 * B : Nat) : Int)).toNat : Nat) : Int))] else spoilTo B ls i
def spoilL (D B : Nat) (ls : List Int) : List (Int × Int) := spoilTo B ls (min ls.length D)
section
variable {B D i : Nat} {ls : List Int}
theorem spoil_yes (h : (ls.getD i 0 % ((2 * B : Nat) : Int)).toNat < B) : spoilTo B ls i ++ [((i : Int), (((ls.getD i 0 % ((2 * B : Nat) : Int)).toNat : Nat) : Int))] = spoilTo B ls (i + 1) := (if_pos h).symm
theorem spoil_skip (h : ¬ (ls.getD i 0 % ((2 * B : Nat) : Int)).toNat < B) : spoilTo B ls (i + 1) = spoilTo B ls i := if_neg h
theorem spoil_len (B : Nat) (ls : List Int) : ∀ i, (spoilTo B ls i).length ≤ i
  | 0 => Nat.le_refl _
  | i + 1 => by
    have := spoil_len B ls i
    unfold spoilTo
    split
    · rw [List.length_append, List.length_singleton]; omega
    · omega
theorem spoil_mem {x y : Int} : ∀ {i}, (x, y) ∈ spoilTo B ls i → ∃ j, j < i ∧ x = (j : Int) ∧ y = (((ls.getD j 0 % ((2 * B : Nat) : Int)).toNat : Nat) : Int)
  | 0, h => by cases h
  | i + 1, h => by
    unfold spoilTo at h
    split at h
    · rcases List.mem_append.1 h with h | h
      · obtain ⟨j, hj, e⟩ := spoil_mem h
        exact ⟨j, by omega, e⟩
      · have := List.mem_singleton.1 h
        injection this with h1 h2
        exact ⟨i, by omega, h1, h2⟩
    · obtain ⟨j, hj, e⟩ := spoil_mem h
      exact ⟨j, by omega, e⟩
theorem spoil_one {d b b' : Nat} (h : isBadL (spoilTo B ls i) d b = true) (h' : isBadL (spoilTo B ls i) d b' = true) : b = b' := by
  obtain ⟨j, _, e1, e2⟩ := spoil_mem (of_decide_eq_true h)
  obtain ⟨j', _, e3, e4⟩ := spoil_mem (of_decide_eq_true h')
  have : j = j' := by omega
  subst this
  omega
theorem spoilL_len (D B : Nat) (ls : List Int) : (spoilL D B ls).length ≤ D := Nat.le_trans (spoil_len _ _ _) (Nat.min_le_right _ _)
/-- At most one superblock is lost. -/
theorem spoil_min (D B : Nat) (ls : List Int) : B ≤ nMin (spoilL D B ls) B D + 1 := by
  rcases Nat.eq_zero_or_pos B with h | h
  · omega
  have := nMin_ge (bad := spoilL D B ls) (B := B) (n := B - 1) (D := D) (by omega) fun d _ => by
    have := (good_one (bad := spoilL D B ls) (d := d) (fun b b' h h' => spoil_one h h') B).1
    omega
  omega
end
/-- None of the first is this one. -/
def clearL (bad : List (Int × Int)) (d b i : Nat) : Bool := !decide ((((d : Nat) : Int), ((b : Nat) : Int)) ∈ bad.take i)
section
variable {bad : List (Int × Int)} {d b i : Nat}
theorem clear_zero : true = clearL bad d b 0 := by simp [clearL]
theorem clear_mem (hi : i < bad.length) : ((((d : Nat) : Int), ((b : Nat) : Int)) ∈ bad.take (i + 1)) ↔ ((((d : Nat) : Int), ((b : Nat) : Int)) ∈ bad.take i ∨ ((bad.getD i (0, 0)).1 = (d : Int) ∧ (bad.getD i (0, 0)).2 = (b : Int))) := by
  rw [List.take_succ_eq_append_getElem hi, List.mem_append, List.mem_singleton, List.getD_eq_getElem?_getD, List.getElem?_eq_getElem hi]
  show _ ∨ _ = bad[i] ↔ _ ∨ (bad[i].1 = _ ∧ bad[i].2 = _)
  constructor
  · rintro (h | h)
    · exact .inl h
    · exact .inr ⟨by rw [← h], by rw [← h]⟩
  · rintro (h | ⟨h1, h2⟩)
    · exact .inl h
    · exact .inr (Prod.ext h1.symm h2.symm)
theorem clear_no (hi : i < bad.length) (h : ¬ clearL bad d b i = true) : false = clearL bad d b (i + 1) := by
  have h1 : (((d : Nat) : Int), ((b : Nat) : Int)) ∈ bad.take i := by simpa [clearL] using h
  unfold clearL
  rw [decide_eq_true ((clear_mem hi).2 (.inl h1))]
  rfl
theorem clear_step (hi : i < bad.length) (h : clearL bad d b i = true) : (!decide ((bad.getD i (0, 0)).1 = (d : Int) ∧ (bad.getD i (0, 0)).2 = (b : Int))) = clearL bad d b (i + 1) := by
  have h1 : ¬ (((d : Nat) : Int), ((b : Nat) : Int)) ∈ bad.take i := by simpa [clearL] using h
  unfold clearL
  rw [decide_eq_decide.2 ((clear_mem hi).trans (or_iff_right h1))]
theorem clear_end (hi : i = bad.length) : clearL bad d b i = !isBadL bad d b := by
  unfold clearL isBadL
  rw [hi, List.take_length]
end
end Go.Proofs.YtnlbekdjepkhcaaF
