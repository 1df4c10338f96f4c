/-
  Bits of bytes, in plain lists: the places of those that are 1.
-/
set_option linter.unusedSimpArgs false
set_option linter.unusedVariables false
namespace Ram

/-- all are bytes. -/
def bytesB (l : List Int) : Bool := l.all fun x => decide (0 ≤ x) && decide (x < 256)
def nat (l : List Int) : List Nat := l.map Int.toNat
def int (l : List Nat) : List Int := l.map Int.ofNat
theorem bytesB_at {l : List Int} (h : bytesB l = true) (i : Nat) : 0 ≤ l.getD i 0 ∧ l.getD i 0 < 256 := by
  rw [List.getD_eq_getElem?_getD]
  by_cases hi : i < l.length
  · rw [List.getElem?_eq_getElem hi]
    have := List.all_eq_true.1 h l[i] (List.getElem_mem hi)
    simpa using this
  · rw [List.getElem?_eq_none (by omega)]; simp
theorem bytesB_nat {l : List Int} (h : bytesB l = true) (i : Nat) : l.getD i 0 = ((nat l).getD i 0 : Nat) := by
  have := bytesB_at h i
  rw [List.getD_eq_getElem?_getD] at *
  rw [List.getD_eq_getElem?_getD, nat, List.getElem?_map]
  cases e : l[i]? with
  | none => rfl
  | some x => simp [e] at this ⊢; omega
theorem nat_length (l : List Int) : (nat l).length = l.length := by simp [nat]
theorem int_length (l : List Nat) : (int l).length = l.length := by simp [int]
theorem nat_int (l : List Nat) : nat (int l) = l := by
  simp only [nat, int, List.map_map]
  exact (List.map_congr_left (fun x _ => rfl)).trans (List.map_id l)
theorem int_nat {l : List Int} (h : bytesB l = true) : int (nat l) = l := by
  apply List.ext_getElem?
  intro i
  simp only [int, nat, List.getElem?_map]
  cases e : l[i]? with
  | none => rfl
  | some x =>
    have hm := List.mem_of_getElem? e
    have := List.all_eq_true.1 h x hm
    simp at this
    simp only [Option.map_some, Int.ofNat_eq_natCast]; congr 1; omega
theorem nat_lt {l : List Int} (h : bytesB l = true) (i : Nat) : (nat l).getD i 0 < 256 := by
  have := bytesB_at h i; have := bytesB_nat h i; omega

def bitAt (l : List Nat) (p : Nat) : Bool := (l.getD (p / 8) 0 / 2 ^ (p % 8)) % 2 == 1
def onesTo (l : List Nat) (q : Nat) : List Nat := (List.range q).filter (bitAt l)
/-- the places of bits that are 1. -/
def onesL (l : List Nat) : List Nat := onesTo l (8 * l.length)
theorem onesTo_succ (l : List Nat) (q : Nat) : onesTo l (q + 1) = onesTo l q ++ (if bitAt l q then [q] else []) := by
  unfold onesTo
  rw [List.range_succ, List.filter_append]
  congr 1
  cases h : bitAt l q <;> simp [List.filter, h]
theorem onesTo_prefix (l : List Nat) {q q' : Nat} (h : q ≤ q') : onesTo l q <+: onesTo l q' := by
  induction h with
  | refl => exact List.prefix_rfl
  | step _ ih => rw [onesTo_succ]; exact ih.trans (List.prefix_append _ _)
theorem onesTo_length (l : List Nat) (q : Nat) : (onesTo l q).length ≤ q := by
  unfold onesTo; have := List.length_filter_le (bitAt l) (List.range q); simpa using this
theorem onesL_length (l : List Nat) : (onesL l).length ≤ 8 * l.length := onesTo_length l _
theorem mem_onesL (l : List Nat) (p : Nat) : p ∈ onesL l ↔ p < 8 * l.length ∧ bitAt l p = true := by simp [onesL, onesTo]

/-- two lists of bytes, number by number. -/
def xorL (a b : List Nat) : List Nat := List.zipWith (· ^^^ ·) a b
def xorTo (a b : List Nat) (i : Nat) : List Nat := (List.range a.length).map fun j => if j < i then a.getD j 0 ^^^ b.getD j 0 else a.getD j 0
theorem xorTo_length (a b : List Nat) (i : Nat) : (xorTo a b i).length = a.length := by simp [xorTo]
theorem xorTo_zero (a b : List Nat) : xorTo a b 0 = a := by
  apply List.ext_getElem
  · simp [xorTo]
  · intro j h1 h2
    simp only [xorTo, List.getElem_map, List.getElem_range]
    rw [if_neg (by omega), List.getD_eq_getElem?_getD, List.getElem?_eq_getElem h2]; rfl
theorem xorTo_get (a b : List Nat) (i j : Nat) (hj : j < a.length) : (xorTo a b i)[j]? = some (if j < i then a.getD j 0 ^^^ b.getD j 0 else a.getD j 0) := by
  simp [xorTo, hj]
theorem xorTo_succ (a b : List Nat) (i : Nat) (hi : i < a.length) : xorTo a b (i + 1) = (xorTo a b i).set i (a.getD i 0 ^^^ b.getD i 0) := by
  apply List.ext_getElem?
  intro j
  by_cases hj : j < a.length
  · rw [xorTo_get _ _ _ _ hj, List.getElem?_set]
    by_cases e : i = j
    · subst e; simp [hj, xorTo_length]
    · rw [if_neg e, xorTo_get _ _ _ _ hj]
      by_cases h : j < i
      · rw [if_pos h, if_pos (by omega)]
      · rw [if_neg h, if_neg (by omega)]
  · rw [List.getElem?_eq_none (by rw [xorTo_length]; omega), List.getElem?_eq_none (by rw [List.length_set, xorTo_length]; omega)]
theorem xorTo_all (a b : List Nat) (h : a.length = b.length) : xorTo a b a.length = xorL a b := by
  apply List.ext_getElem?
  intro j
  by_cases hj : j < a.length
  · rw [xorTo_get _ _ _ _ hj, if_pos hj, xorL, List.getElem?_zipWith, List.getD_eq_getElem?_getD, List.getD_eq_getElem?_getD, List.getElem?_eq_getElem hj, List.getElem?_eq_getElem (by omega : j < b.length)]
    rfl
  · rw [List.getElem?_eq_none (by rw [xorTo_length]; omega), List.getElem?_eq_none (by simp [xorL]; omega)]
theorem getD_mem_lt {l : List Nat} {n : Nat} (h : ∀ x ∈ l, x < n) (hn : 0 < n) (i : Nat) : l.getD i 0 < n := by
  rw [List.getD_eq_getElem?_getD]
  cases e : l[i]? with
  | none => simpa using hn
  | some x => exact h x (List.mem_of_getElem? e)
theorem bytesB_int {l : List Nat} (h : ∀ x ∈ l, x < 256) : bytesB (int l) = true := by
  apply List.all_eq_true.2
  intro x hx
  obtain ⟨y, hy, rfl⟩ := List.mem_map.1 hx
  have := h y hy
  simp; omega
theorem nat_mem_lt {l : List Int} (h : bytesB l = true) : ∀ x ∈ nat l, x < 256 := by
  intro x hx
  obtain ⟨y, hy, rfl⟩ := List.mem_map.1 hx
  have := List.all_eq_true.1 h y hy
  simp at this; omega
theorem xorTo_lt {a b : List Nat} (ha : ∀ x ∈ a, x < 256) (hb : ∀ x ∈ b, x < 256) (i : Nat) : ∀ x ∈ xorTo a b i, x < 256 := by
  intro x hx
  obtain ⟨j, _, rfl⟩ := List.mem_map.1 hx
  have h1 := getD_mem_lt ha (by decide) j
  have h2 := getD_mem_lt hb (by decide) j
  split
  · exact Nat.xor_lt_two_pow (n := 8) h1 h2
  · exact h1

end Ram
