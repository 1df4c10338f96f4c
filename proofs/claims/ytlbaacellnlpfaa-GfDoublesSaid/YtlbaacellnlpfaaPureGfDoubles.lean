/-
  A product with 2 is the bits one further, and 29 more, if one was beyond.
-/
import Derived.Test.YtlbaacellnlpfaaGfA
set_option linter.unusedSimpArgs false
set_option linter.unusedVariables false
namespace Go.Proofs.Ytlbaacellnlpfaa.Pure
open Go Go.RowKit Ram Go.Proofs.Ytlbaacellnlpfaa.QA Go.Proofs.YtlbaacellnlpfaaW.PrintWords Go.Proofs.YtlbaacellnlpfaaS Go.Proofs.YtlbaacellnlpfaaA

theorem GfDoubles : ramekinlaw2_GfDoubles.Pure := by
  intro a0 a1 h0 _
  obtain ⟨a, rfl, ha⟩ := wf8 h0
  refine ⟨5, ?_⟩
  have h2 : ∀ x : Nat, x < 256 → gmul x 2 = xt x := fun x hx => by
    rw [gmul_comm hx (by decide), show (2 : Nat) = xt 1 from rfl, gmul_xt_left (by decide) hx, one_gmul hx]
  have hn0 := Int.emod_nonneg a1 (show (255 : Int) ≠ 0 by decide)
  have hn1 := Int.emod_lt_of_pos a1 (show (0 : Int) < 255 by decide)
  have tail : ∀ x : Int, x % 256 = ((xt a : Nat) : Int) → ramekinlaw2_GfDoubles.j0 5 a a1 x = some true := by
    intro x hx
    simp only [ramekinlaw2_GfDoubles.j0]
    rw [withinA a1 255 (by decide) (by decide), Option.bind_some, show (2 : Int) = ((2 : Nat) : Int) from rfl, mulA a 2 ha (by decide), Option.bind_some, h2 a ha, hx, if_pos rfl, expA, Option.bind_some,
      mulA _ 2 (gpow_lt (by decide) _) (by decide), Option.bind_some, expA, Option.bind_some, w64 (by omega) (by omega), gpow_add (by decide) (by decide), gpow_one (by decide)]
    simp
  unfold ramekinlaw2_GfDoubles.f
  rw [knownA, Option.bind_some, if_pos rfl, w64 (x := (a : Int)) (by omega) (by omega), w64 (by omega) (by omega)]
  by_cases h : (a : Int) * 2 > 255
  · rw [if_pos h]
    refine tail _ ?_
    rw [show (a : Int) * 2 = ((2 * a : Nat) : Int) from by omega, show (285 : Int) = ((285 : Nat) : Int) from rfl, cast_xor64 _ _ (by omega) (by omega)]
    have : xt a = 2 * a ^^^ 285 := by unfold xt; rw [if_neg (by omega)]
    rw [← this]
    have := xt_lt ha
    omega
  · rw [if_neg h]
    refine tail _ ?_
    have : xt a = 2 * a := by unfold xt; rw [if_pos (by omega)]
    omega

end Go.Proofs.Ytlbaacellnlpfaa.Pure
