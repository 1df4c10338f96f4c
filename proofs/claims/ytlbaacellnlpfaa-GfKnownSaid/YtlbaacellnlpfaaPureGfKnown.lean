/-
  These products and powers are just these.
-/
import Derived.Test.YtlbaacellnlpfaaGfA
set_option linter.unusedSimpArgs false
set_option linter.unusedVariables false
namespace Go.Proofs.Ytlbaacellnlpfaa.Pure
open Go Go.RowKit Ram Go.Proofs.Ytlbaacellnlpfaa.QA Go.Proofs.YtlbaacellnlpfaaW.PrintWords Go.Proofs.YtlbaacellnlpfaaS Go.Proofs.YtlbaacellnlpfaaA

theorem GfKnown : ramekinlaw2_GfKnown.Pure := by
  intro a0 _
  have hw := withinA a0 8 (by decide) (by decide)
  unfold ramekinlaw2_GfKnown.f
  rw [knownA, Option.bind_some, if_pos rfl]
  simp only [Option.bind_some]
  rw [hw, Option.bind_some]
  have h0 : 0 ≤ a0 % 8 := by omega
  have h1 : a0 % 8 < 8 := by omega
  generalize a0 % 8 = k at h0 h1
  have : k = 0 ∨ k = 1 ∨ k = 2 ∨ k = 3 ∨ k = 4 ∨ k = 5 ∨ k = 6 ∨ k = 7 := by omega
  clear hw h0 h1
  rcases this with r | r | r | r | r | r | r | r <;> subst r <;> decide +kernel

end Go.Proofs.Ytlbaacellnlpfaa.Pure
