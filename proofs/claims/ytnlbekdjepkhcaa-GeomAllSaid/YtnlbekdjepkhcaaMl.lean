import Derived.Test.YtnlbekdjepkhcaaMq
/-
  Laws of quotients.
-/
namespace Ram
/-- the field is one: every division by something can be done. -/
theorem div_some' (a : List UInt8) {b : List UInt8} (h : ¬ trimL b = []) : IsDiv a (trimL b) (quoP a b) (remP a b) ∧ (quoP a b).length ≤ a.length ∧ (remP a b).length ≤ a.length := by
  have hb : 0 < (trimL b).length := by
    rcases Nat.eq_zero_or_pos (trimL b).length with h0 | h0
    · exact absurd (List.eq_nil_of_length_eq_zero h0) h
    · exact h0
  have htop : (trimL b).getD ((trimL b).length - 1) 0 ≠ 0 := trimL_top hb
  have hta := trimL_len a
  have key : ∀ (m : Nat) (q r : List UInt8) (i : Int), (i + 1).toNat = m → i ≤ ((trimL a).length : Int) - (trimL b).length → q.length = (trimL a).length → r.length = (trimL a).length → DivInv a (trimL b) q r i →
      ∃ q' r', IsDiv a (trimL b) q' r' ∧ q'.length ≤ a.length ∧ r'.length ≤ a.length := by
    intro m
    induction m with
    | zero => intro q r i hi _ hq hr hI; exact ⟨_, _, hI.done (by omega) hb, by have := trimL_len q; omega, by have := trimL_len r; omega⟩
    | succ m ih =>
      intro q r i hi hle hq hr hI
      obtain ⟨n, rfl⟩ := Int.eq_ofNat_of_zero_le (show 0 ≤ i by omega)
      exact ih _ _ _ (by omega) (by omega) (by rw [List.length_set]; exact hq) (by rw [subl_length]; exact hr) (hI.step (by omega) (by omega) hb htop rfl)
  obtain ⟨q', r', hd, h1, h2⟩ := key _ _ _ _ rfl (Int.le_refl _) List.length_replicate rfl DivInv.init
  have := div_is hd
  rw [this.1, this.2]
  exact ⟨hd, h1, h2⟩
theorem div_some (a : List UInt8) {b : List UInt8} (h : ¬ trimL b = []) : IsDiv a (trimL b) (quoP a b) (remP a b) := (div_some' a h).1
theorem quoP_len (a b : List UInt8) : (quoP a b).length ≤ a.length := by
  by_cases h : trimL b = []
  · rw [(div_no h).1]; exact Nat.zero_le _
  · exact (div_some' a h).2.1
theorem remP_len (a b : List UInt8) : (remP a b).length ≤ a.length := by
  by_cases h : trimL b = []
  · rw [(div_no h).2]; exact Nat.zero_le _
  · exact (div_some' a h).2.2
theorem rem_lt {a b : List UInt8} (h : ¬ trimL b = []) : (remP a b).length < (trimL b).length := (div_some a h).lt
theorem quo_eq {a b : List UInt8} (h : ¬ trimL b = []) : addP (mulP (quoP a b) (trimL b)) (remP a b) = trimL a := by
  refine eq_of_co (addP_trim _ _) (trimL_trimL a) ?_
  rw [addP_co, mulP_co]
  exact (div_some a h).eq.trans (co_trim a).symm
theorem mul_div {a b : List UInt8} (h : ¬ trimL b = []) : quoP (mulP a b) b = trimL a ∧ remP (mulP a b) b = [] := by
  refine div_is ⟨?_, ?_, trimL_trimL a, rfl⟩
  · rw [mulP_co]
    have e1 : mulF (trimL a) (co (trimL b)) = mulF a (co b) := (mulF_congr (trimL a) a (co_trim a) _).trans (congrArg (mulF a) (co_trim b))
    have e2 : co ([] : List UInt8) = zeroF := rfl
    rw [e1, e2, addF_zero]
  · rcases Nat.eq_zero_or_pos (trimL b).length with h0 | h0
    · exact absurd (List.eq_nil_of_length_eq_zero h0) h
    · exact h0
theorem rem_mul {a b : List UInt8} (h : ¬ trimL b = []) : remP (mulP a b) b = [] := (mul_div h).2
theorem quo_mul {a b : List UInt8} (h : ¬ trimL b = []) : quoP (mulP a b) b = trimL a := (mul_div h).1
end Ram
