/-
  Powers go round: 255 more is the same; of a sum of numbers it is the product.
-/
import Derived.Test.YtlbaacellnlpfaaGfA
set_option linter.unusedSimpArgs false
set_option linter.unusedVariables false
namespace Go.Proofs.Ytlbaacellnlpfaa.Pure
open Go Go.RowKit Ram Go.Proofs.Ytlbaacellnlpfaa.QA Go.Proofs.YtlbaacellnlpfaaW.PrintWords Go.Proofs.YtlbaacellnlpfaaS Go.Proofs.YtlbaacellnlpfaaA

theorem GfRound : ramekinlaw2_GfRound.Pure := by
  intro a0 a1 a2 _ _ _
  have n0 := Int.emod_nonneg a0 (show (1000 : Int) ≠ 0 by decide)
  have n1 := Int.emod_lt_of_pos a0 (show (0 : Int) < 1000 by decide)
  have m0 := Int.emod_nonneg a1 (show (1000 : Int) ≠ 0 by decide)
  have m1 := Int.emod_lt_of_pos a1 (show (0 : Int) < 1000 by decide)
  have k0 := Int.emod_nonneg a2 (show (9 : Int) ≠ 0 by decide)
  have k1 := Int.emod_lt_of_pos a2 (show (0 : Int) < 9 by decide)
  unfold ramekinlaw2_GfRound.f
  rw [knownA, Option.bind_some, if_pos rfl, withinA a0 1000 (by decide) (by decide), Option.bind_some, withinA a1 1000 (by decide) (by decide), Option.bind_some, withinA a2 9 (by decide) (by decide), Option.bind_some]
  rw [w64 (x := a0 % 1000 - 500) (by omega) (by omega), w64 (x := a1 % 1000 - 500) (by omega) (by omega), w64 (x := 255 * (a2 % 9)) (by omega) (by omega)]
  obtain ⟨n, hn⟩ : ∃ n, a0 % 1000 - 500 = n := ⟨_, rfl⟩
  obtain ⟨m, hm⟩ : ∃ m, a1 % 1000 - 500 = m := ⟨_, rfl⟩
  obtain ⟨q, hq⟩ : ∃ q, a2 % 9 = q := ⟨_, rfl⟩
  have b0 : -500 ≤ n ∧ n < 500 := by omega
  have b1 : -500 ≤ m ∧ m < 500 := by omega
  have b2 : -250000 ≤ n * m ∧ n * m ≤ 250000 := by
    have := Int.mul_nonneg (show 0 ≤ 500 - n by omega) (show 0 ≤ 500 - m by omega)
    have := Int.mul_nonneg (show 0 ≤ 500 + n by omega) (show 0 ≤ 500 + m by omega)
    have := Int.mul_nonneg (show 0 ≤ 500 - n by omega) (show 0 ≤ 500 + m by omega)
    have := Int.mul_nonneg (show 0 ≤ 500 + n by omega) (show 0 ≤ 500 - m by omega)
    simp only [Int.sub_mul, Int.mul_sub, Int.add_mul, Int.mul_add] at *
    omega
  rw [hn, hm, hq]
  rw [w64 (x := n + 255 * q) (by omega) (by omega), w64 (x := n + m) (by omega) (by omega), w64 (x := n * m) (by omega) (by omega)]
  simp only [expA, Option.bind_some]
  have t : (2 : Nat) < 256 := by decide
  have e1 : gpow 2 (n + 255 * q) = gpow 2 n := gpow_mod (by omega) (by decide)
  have e2 := gpow_add t (by decide) n m
  have e3 : gpow (gpow 2 n) m = gpow 2 (n * m) := gpow_gpow t (by decide) n m
  rw [if_pos (ofN e1), mulA _ _ (gpow_lt t _) (gpow_lt t _), Option.bind_some, if_pos (ofN e2), powA _ _ (gpow_lt t _), Option.bind_some, if_pos (ofN e3), logA _ (gpow_lt t _), Option.bind_some,
    withinA _ 255 (by decide) (by decide), Option.bind_some]
  unfold glog
  rw [if_neg (gpow_ne0 t (by decide) _), gpow_two, lg_ex']
  have := Int.emod_nonneg n (show (255 : Int) ≠ 0 by decide)
  simp; omega

end Go.Proofs.Ytlbaacellnlpfaa.Pure
