/-
  Powers below nought are those of the inverse.
-/
import Derived.Test.YtlbaacellnlpfaaGfA
set_option linter.unusedSimpArgs false
set_option linter.unusedVariables false
namespace Go.Proofs.Ytlbaacellnlpfaa.Pure
open Go Go.RowKit Ram Go.Proofs.Ytlbaacellnlpfaa.QA Go.Proofs.YtlbaacellnlpfaaW.PrintWords Go.Proofs.YtlbaacellnlpfaaS Go.Proofs.YtlbaacellnlpfaaA

theorem GfQuotients : ramekinlaw2_GfQuotients.Pure := by
  intro a0 a1 h0 _
  obtain ⟨a, rfl, ha⟩ := wf8 h0
  have hn0 := Int.emod_nonneg a1 (show (600 : Int) ≠ 0 by decide)
  have hn1 := Int.emod_lt_of_pos a1 (show (0 : Int) < 600 by decide)
  obtain ⟨n, hn⟩ : ∃ n, 1 + a1 % 600 = n := ⟨_, rfl⟩
  have z : ∀ m : Int, m ≠ 0 → gpow 0 m = 0 := fun m hm => by unfold gpow; rw [if_pos rfl, if_neg hm]
  have e1 : gpow a (-n) = gpow (gpow a (-1)) n := by
    by_cases h : a = 0
    · subst h; rw [z _ (by omega), z (-1) (by decide), z _ (by omega)]
    · rw [gpow_gpow ha h]; congr 1; omega
  have e2 : gpow (gpow a (-1)) (-1) = a := by
    by_cases h : a = 0
    · subst h; rfl
    · rw [gpow_gpow ha h]; exact gpow_one ha
  unfold ramekinlaw2_GfQuotients.f
  rw [knownA, Option.bind_some, if_pos rfl, withinA a1 600 (by decide) (by decide), Option.bind_some, w64 (x := 1 + a1 % 600) (by omega) (by omega), hn, w64 (by omega) (by omega), powA _ _ ha, Option.bind_some, invA _ ha, Option.bind_some,
    powA _ _ (gpow_lt ha _), Option.bind_some, if_pos (ofN e1)]
  simp only [Option.bind_some, invA _ (gpow_lt ha _), e2, powA _ _ ha]
  by_cases h : a = 0
  · rw [if_pos (by omega)]; simp
  · rw [if_neg (by omega), mulA _ _ (gpow_lt ha _) (gpow_lt ha _), Option.bind_some, ← gpow_add ha h, Int.add_right_neg, gpow_zero, if_pos (show ((1 : Nat) : Int) = 1 from rfl)]; simp

end Go.Proofs.Ytlbaacellnlpfaa.Pure
