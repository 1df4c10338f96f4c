/-
  gf.Mul of any two bytes is the document's product, and it is the same both ways about.
-/
import Derived.Test.YtlbaacellnlpfaaGfA
set_option linter.unusedSimpArgs false
set_option linter.unusedVariables false
namespace Go.Proofs.Ytlbaacellnlpfaa.Pure
open Go Go.RowKit Ram Go.Proofs.Ytlbaacellnlpfaa.QA Go.Proofs.YtlbaacellnlpfaaW.PrintWords Go.Proofs.YtlbaacellnlpfaaS Go.Proofs.YtlbaacellnlpfaaA

theorem loop (d : Nat) : ∀ (k a b i : Nat), d + 2 < k → i + d = 256 → a < 256 → b < 256 → ramekinlaw2_GfMul.l0 k a b i = some true := by
  induction d with
  | zero =>
    intro k a b i hk hi ha hb
    obtain ⟨k, rfl⟩ : ∃ m, k = m + 1 := ⟨k - 1, by omega⟩
    simp only [ramekinlaw2_GfMul.l0]
    rw [if_neg (by omega), mulA a b ha hb, Option.bind_some, mulA b a hb ha, Option.bind_some, gmul_comm ha hb]
    simp
  | succ d ih =>
    intro k a b i hk hi ha hb
    obtain ⟨k, rfl⟩ : ∃ m, k = m + 1 := ⟨k - 1, by omega⟩
    simp only [ramekinlaw2_GfMul.l0]
    rw [if_pos (by omega), show (i : Int) % 256 = ((i : Nat) : Int) from by omega, mulA a i ha (by omega), Option.bind_some, rmulA a i ha (by omega), Option.bind_some, if_pos rfl, w64 (by omega) (by omega)]
    exact ih k a b (i + 1) (by omega) (by omega) ha hb

theorem GfMul : ramekinlaw2_GfMul.Pure := by
  intro a0 a1 h0 h1
  obtain ⟨a, rfl, ha⟩ := wf8 h0
  obtain ⟨b, rfl, hb⟩ := wf8 h1
  refine ⟨300, ?_⟩
  unfold ramekinlaw2_GfMul.f
  rw [knownA, Option.bind_some, if_pos rfl]
  exact loop 256 300 a b 0 (by omega) (by omega) ha hb

end Go.Proofs.Ytlbaacellnlpfaa.Pure
