import Derived.Test.YtlbaacellnlpfaaMa
/-
  Which powers of 2 have been seen.
-/
set_option linter.unusedVariables false
set_option linter.unusedSimpArgs false
namespace Ram
def seenTo (m : Int) (i : Nat) : List Nat := tab 256 (fun a => if (List.range i).any (fun j => (exI (m + (j : Int))).toNat == a) then 1 else 0)
theorem seenTo_length (m : Int) (i : Nat) : (seenTo m i).length = 256 := tab_length
theorem seenTo_zero (m : Int) : List.replicate 256 0 = seenTo m 0 := by unfold seenTo; rw [tab_rep]; exact tab_ext fun k _ => rfl
theorem exI_same {m n : Int} (h : exI m = exI n) : m % 255 = n % 255 := by
  unfold exI at h
  have := exB_eq.1 h
  omega
theorem seen_none (m : Int) {i : Nat} (h : i < 255) : (seenTo m i).getD (exI (m + (i : Int))).toNat 0 = 0 := by
  unfold seenTo
  rw [tab_at (UInt8.toNat_lt _)]
  refine if_neg fun hc => ?_
  obtain ⟨j, hj, e⟩ := List.any_eq_true.1 hc
  have hj := List.mem_range.1 hj
  have e1 : exI (m + (j : Int)) = exI (m + (i : Int)) := nat_inj (by simpa using e)
  have := exI_same e1
  omega
theorem seen_step (m : Int) {i : Nat} (h : i < 255) : (seenTo m i).set (exI (m + (i : Int))).toNat ((seenTo m i).getD (exI (m + (i : Int))).toNat 0 + 1) = seenTo m (i + 1) := by
  rw [seen_none m h]
  unfold seenTo
  rw [tab_set]
  refine tab_ext fun a ha => ?_
  rw [List.range_succ, List.any_append]
  by_cases e : a = (exI (m + (i : Int))).toNat
  · rw [if_pos e]; simp [e]
  · rw [if_neg e]
    have : ([i].any fun j => (exI (m + (j : Int))).toNat == a) = false := by simp; exact fun h => e h.symm
    rw [this, Bool.or_false]
theorem seen_one (m : Int) {i : Nat} (h : i < 255) : (seenTo m (i + 1)).getD (exI (m + (i : Int))).toNat 0 = 1 := by
  rw [← seen_step m h, getD_set_self (by rw [seenTo_length]; exact UInt8.toNat_lt _), seen_none m h]
theorem exI_ne0 (n : Int) : ¬ exI n = 0 := exB_ne0 _
end Ram
