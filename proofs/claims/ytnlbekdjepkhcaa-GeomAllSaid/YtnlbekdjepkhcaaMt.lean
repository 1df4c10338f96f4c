/-
  Lists by their places; a list without the noughts at its end.
-/
set_option linter.unusedSimpArgs false
set_option linter.unusedVariables false
namespace Ram

/-- The list of f's values at 0, 1, .., n - 1. -/
def tab {α : Type} (n : Nat) (f : Nat → α) : List α := (List.range n).map f
section
variable {α : Type} {n : Nat} {f g : Nat → α}
theorem tab_length : (tab n f).length = n := by simp [tab]
theorem tab_at {d : α} {i : Nat} (h : i < n) : (tab n f).getD i d = f i := by
  unfold tab
  rw [List.getD_eq_getElem?_getD, List.getElem?_map, List.getElem?_range h]; rfl
theorem tab_out {d : α} {i : Nat} (h : n ≤ i) : (tab n f).getD i d = d := by
  rw [List.getD_eq_getElem?_getD, List.getElem?_eq_none (by rw [tab_length]; exact h)]; rfl
theorem tab_ext (h : ∀ i, i < n → f i = g i) : tab n f = tab n g := List.map_congr_left fun i hi => h i (List.mem_range.1 hi)
theorem tab_set (k : Nat) (v : α) : (tab n f).set k v = tab n (fun i => if i = k then v else f i) := by
  unfold tab
  apply List.ext_getElem?
  intro i
  rw [List.getElem?_set]
  simp only [List.getElem?_map, List.length_map, List.length_range]
  by_cases h : k = i
  · subst h
    by_cases hk : k < n
    · simp [hk]
    · simp [hk]
  · rw [if_neg h]
    by_cases hi : i < n
    · simp [hi, Ne.symm h]
    · simp [hi]
theorem tab_rep (a : α) : List.replicate n a = tab n (fun _ => a) := by
  unfold tab
  apply List.ext_getElem?
  intro i
  by_cases h : i < n <;> simp [h]
theorem eq_tab (l : List α) (d : α) : l = tab l.length (fun i => l.getD i d) := by
  unfold tab
  apply List.ext_getElem?
  intro i
  by_cases h : i < l.length
  · simp [h, List.getD_eq_getElem?_getD]
  · simp [h, List.getElem?_eq_none (Nat.le_of_not_lt h)]
theorem list_ext {l l' : List α} (d : α) (hl : l.length = l'.length) (h : ∀ i, i < l.length → l.getD i d = l'.getD i d) : l = l' := by
  rw [eq_tab l d, eq_tab l' d, ← hl]
  exact tab_ext h
theorem getD_app {l m : List α} {d : α} {i : Nat} : (l ++ m).getD i d = if i < l.length then l.getD i d else m.getD (i - l.length) d := by
  rw [List.getD_eq_getElem?_getD, List.getD_eq_getElem?_getD, List.getD_eq_getElem?_getD]
  split
  · rename_i h; rw [List.getElem?_append_left h]
  · rename_i h; rw [List.getElem?_append_right (by omega)]
theorem getD_take {l : List α} {d : α} {i k : Nat} : (l.take k).getD i d = if i < k then l.getD i d else d := by
  rw [List.getD_eq_getElem?_getD, List.getD_eq_getElem?_getD, List.getElem?_take]
  split <;> simp
theorem getD_drop {l : List α} {d : α} {i k : Nat} : (l.drop k).getD i d = l.getD (k + i) d := by
  rw [List.getD_eq_getElem?_getD, List.getD_eq_getElem?_getD, List.getElem?_drop]
theorem getD_out {l : List α} {d : α} {i : Nat} (h : l.length ≤ i) : l.getD i d = d := by
  rw [List.getD_eq_getElem?_getD, List.getElem?_eq_none h]; rfl
theorem getD_set {l : List α} {d v : α} {i k : Nat} (hk : k < l.length) : (l.set k v).getD i d = if i = k then v else l.getD i d := by
  rw [List.getD_eq_getElem?_getD, List.getD_eq_getElem?_getD, List.getElem?_set]
  by_cases h : k = i
  · subst h; simp [hk]
  · rw [if_neg h, if_neg (Ne.symm h)]
theorem getD_set_self {l : List α} {d v : α} {k : Nat} (hk : k < l.length) : (l.set k v).getD k d = v := by rw [getD_set hk, if_pos rfl]
end

/-- where a list ends, its last noughts put aside, of the first n. -/
def tl (l : List UInt8) : Nat → Nat
  | 0 => 0
  | n + 1 => if l.getD n 0 = 0 then tl l n else n + 1
def tlen (l : List UInt8) : Nat := tl l l.length
def trimL (l : List UInt8) : List UInt8 := l.take (tlen l)
theorem tl_le (l : List UInt8) : ∀ n, tl l n ≤ n
  | 0 => Nat.le_refl _
  | n + 1 => by unfold tl; split <;> have := tl_le l n <;> omega
theorem tl_zero {l : List UInt8} : ∀ n i, tl l n ≤ i → i < n → l.getD i 0 = 0
  | 0, i, _, h => by omega
  | n + 1, i, h1, h2 => by
    unfold tl at h1
    split at h1
    · rename_i h
      by_cases hi : i = n
      · rw [hi]; exact h
      · exact tl_zero n i h1 (by omega)
    · omega
theorem tl_top {l : List UInt8} : ∀ n, 0 < tl l n → l.getD (tl l n - 1) 0 ≠ 0
  | 0, h => by simp [tl] at h
  | n + 1, h => by
    unfold tl at h ⊢
    split
    · rename_i h0; rw [if_pos h0] at h; exact tl_top n h
    · rename_i h0; exact h0
theorem tl_stay {l : List UInt8} {n : Nat} (h : ¬ l.getD n 0 = 0) : tl l (n + 1) = n + 1 := by unfold tl; rw [if_neg h]
theorem tl_go {l : List UInt8} {n : Nat} (h : l.getD n 0 = 0) : tl l (n + 1) = tl l n := by conv => lhs; unfold tl; rw [if_pos h]
theorem tlen_le (l : List UInt8) : tlen l ≤ l.length := tl_le l _
theorem trimL_length (l : List UInt8) : (trimL l).length = tlen l := by unfold trimL; rw [List.length_take]; have := tlen_le l; omega
theorem trimL_at (l : List UInt8) (i : Nat) : (trimL l).getD i 0 = l.getD i 0 := by
  unfold trimL
  rw [getD_take]
  split
  · rfl
  · rename_i h
    by_cases hi : i < l.length
    · exact (tl_zero _ _ (by unfold tlen at h; omega) hi).symm
    · exact (getD_out (by omega)).symm
theorem trimL_top {l : List UInt8} (h : 0 < (trimL l).length) : (trimL l).getD ((trimL l).length - 1) 0 ≠ 0 := by
  rw [trimL_at, trimL_length]
  rw [trimL_length] at h
  exact tl_top _ h
theorem trimL_len_le {l : List UInt8} {n : Nat} (h : ∀ i, n ≤ i → l.getD i 0 = 0) : (trimL l).length ≤ n := by
  rcases Nat.lt_or_ge n (trimL l).length with hlt | hge
  · exact absurd (by rw [trimL_at]; exact h _ (by omega)) (trimL_top (l := l) (by omega))
  · exact hge
/-- it depends on the numbers alone. -/
theorem trimL_congr {l m : List UInt8} (h : ∀ i, l.getD i 0 = m.getD i 0) : trimL l = trimL m := by
  have h1 : (trimL l).length ≤ (trimL m).length := trimL_len_le fun i hi => by rw [h i, ← trimL_at]; exact getD_out hi
  have h2 : (trimL m).length ≤ (trimL l).length := trimL_len_le fun i hi => by rw [← h i, ← trimL_at]; exact getD_out hi
  exact list_ext 0 (by omega) fun i _ => by rw [trimL_at, trimL_at, h i]
theorem trimL_trimL (l : List UInt8) : trimL (trimL l) = trimL l := trimL_congr fun i => trimL_at l i
theorem trimL_len (l : List UInt8) : (trimL l).length ≤ l.length := by rw [trimL_length]; exact tlen_le l
theorem trimL_nil : trimL [] = [] := rfl
theorem trimL_eq_nil {l : List UInt8} : trimL l = [] ↔ ∀ i, l.getD i 0 = 0 := by
  constructor
  · intro h i; rw [← trimL_at, h]; rfl
  · intro h; exact List.eq_nil_of_length_eq_zero (Nat.le_zero.1 (trimL_len_le fun i _ => h i))
theorem trimL_id {l : List UInt8} (h : l = [] ∨ l.getD (l.length - 1) 0 ≠ 0) : trimL l = l := by
  rcases h with h | h
  · subst h; rfl
  · have : 0 < l.length := by
      rcases Nat.eq_zero_or_pos l.length with h0 | h0
      · exact absurd (getD_out (by omega)) h
      · exact h0
    have h2 : tlen l = l.length := by
      unfold tlen
      have e : l.length = (l.length - 1) + 1 := by omega
      rw [e, tl_stay h]
    unfold trimL
    rw [h2, List.take_length]
end Ram
