/-
  Powers, logarithms, inverses are the document's, of any number.
-/
import Derived.Test.YtlbaacellnlpfaaGfA
set_option linter.unusedSimpArgs false
set_option linter.unusedVariables false
namespace Go.Proofs.Ytlbaacellnlpfaa.Pure
open Go Go.RowKit Ram Go.Proofs.Ytlbaacellnlpfaa.QA Go.Proofs.YtlbaacellnlpfaaW.PrintWords Go.Proofs.YtlbaacellnlpfaaS Go.Proofs.YtlbaacellnlpfaaA

theorem GfPowers : ramekinlaw2_GfPowers.Pure := by
  intro a0 a1 h0 _
  obtain ⟨a, rfl, ha⟩ := wf8 h0
  unfold ramekinlaw2_GfPowers.f
  rw [knownA, Option.bind_some, if_pos rfl]
  simp only [expA, rexpA, logA _ ha, rlogA _ ha, invA _ ha, rinvA _ ha, powA _ _ ha, rpowA _ _ ha, withinA a1 9 (by decide) (by decide), Option.bind_some, if_true]
  simp

end Go.Proofs.Ytlbaacellnlpfaa.Pure
