/-
  What the law of places says (BitsPlaces): a row turned round, twice, none.
-/
import Derived.Test.YtnlbekdjepkhcaaMk
set_option linter.unusedVariables false
set_option linter.unusedSimpArgs false
namespace Go.Proofs.YtnlbekdjepkhcaaF
open Go Go.Shelf Go.Proofs.YtnlbekdjepkhcaaS Ram
/-- The first i of l, turned round by w. -/
def rotL (l : List Int) (w i : Nat) : List Int := (List.range i).map fun j => l.getD ((j + w) % l.length) 0
theorem rotL_len (l : List Int) (w i : Nat) : (rotL l w i).length = i := by simp [rotL]
theorem rotL_next (l : List Int) (w i : Nat) : rotL l w i ++ [l.getD ((i + w) % l.length) 0] = rotL l w (i + 1) := by
  unfold rotL
  rw [List.range_succ, List.map_append]
  rfl
theorem rotL_all (l : List Int) (w : Nat) (h : 0 < l.length) : rotL l w l.length = l.drop (w % l.length) ++ l.take (w % l.length) := by
  have hc := Nat.mod_lt w h
  apply List.ext_getElem
  · rw [rotL_len, List.length_append, List.length_drop, List.length_take]; omega
  · intro i h1 h2
    rw [rotL_len] at h1
    have h3 : (rotL l w l.length)[i]'(by rw [rotL_len]; exact h1) = l.getD ((i + w) % l.length) 0 := by simp [rotL]
    rw [h3]
    have h4 : (i + w) % l.length = if i + w % l.length < l.length then i + w % l.length else i + w % l.length - l.length := by
      rw [Nat.add_mod, Nat.mod_eq_of_lt h1]
      split
      · next h => exact Nat.mod_eq_of_lt h
      · next h => rw [Nat.mod_eq_sub_mod (by omega), Nat.mod_eq_of_lt (by omega)]
    rw [h4]
    split
    · next h =>
      rw [List.getElem_append_left (by rw [List.length_drop]; omega), List.getElem_drop, List.getD_eq_getElem?_getD, List.getElem?_eq_getElem (by omega)]
      simp [Nat.add_comm]
    · next h =>
      rw [List.getElem_append_right (by rw [List.length_drop]; omega), List.getElem_take, List.getD_eq_getElem?_getD, List.getElem?_eq_getElem (by omega)]
      simp only [List.length_drop, Option.getD_some]
      congr 1
      omega
theorem rot_flip (b : List UInt8) (l : List Int) (w : Nat) {i : Nat} (hi : i = l.length) : flipI b (rotL l w i) = flipI b l := by
  subst hi
  rcases Nat.eq_zero_or_pos l.length with h | h
  · have : l = [] := List.eq_nil_of_length_eq_zero h
    subst this
    rfl
  · rw [rotL_all l w h]
    refine flipI_congr b fun k _ => ?_
    rw [List.count_append]
    conv => rhs; rw [← List.take_append_drop (w % l.length) l]
    rw [List.count_append, Nat.add_comm]
theorem two_flip (b : List UInt8) (l : List Int) : flipI b (l ++ l) = b := by
  have : flipI b (l ++ l) = flipI b [] := flipI_congr b fun k _ => by
    rw [List.count_append, List.count_nil]
    omega
  exact this
theorem none_flip (b : List UInt8) {x y : Int} (hb : b.length ≤ 60) (hx : (8 * b.length : Int) ≤ x) (hy : (8 * b.length : Int) ≤ y) : flipI b [-1, x, y, 9223372036854775807, -9223372036854775808] = b := by
  refine flipI_none fun z hz => ?_
  simp only [List.mem_cons, List.not_mem_nil, or_false] at hz
  rcases hz with rfl | rfl | rfl | rfl | rfl <;> omega
end Go.Proofs.YtnlbekdjepkhcaaF
