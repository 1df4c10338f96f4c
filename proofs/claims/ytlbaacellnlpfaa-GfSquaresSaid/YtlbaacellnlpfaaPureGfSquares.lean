/-
  Of a sum the square is the sum of the squares; each number is one square's.
-/
import Derived.Test.YtlbaacellnlpfaaGfA
set_option linter.unusedSimpArgs false
set_option linter.unusedVariables false
namespace Go.Proofs.Ytlbaacellnlpfaa.Pure
open Go Go.RowKit Ram Go.Proofs.Ytlbaacellnlpfaa.QA Go.Proofs.YtlbaacellnlpfaaW.PrintWords Go.Proofs.YtlbaacellnlpfaaS Go.Proofs.YtlbaacellnlpfaaA

theorem GfSquares : ramekinlaw2_GfSquares.Pure := by
  intro a0 a1 h0 h1
  obtain ⟨a, rfl, ha⟩ := wf8 h0
  obtain ⟨b, rfl, hb⟩ := wf8 h1
  have hab := xor_lt ha hb
  have h2 : ∀ x : Nat, x < 256 → gpow x 2 = gmul x x := fun x hx => (gpow_nat hx 2).trans (gp_two hx)
  have e1 : ((gpow (a ^^^ b) 2 : Nat) : Int) = Go.bits .xor .u8 ((gpow a 2 : Nat) : Int) ((gpow b 2 : Nat) : Int) := by
    rw [h2 _ hab, h2 _ ha, h2 _ hb, cast_xor _ _ (gmul_lt _ ha) (gmul_lt _ hb)]
    refine ofN ?_
    rw [gmul_xor ha hb, xor_gmul, xor_gmul, gmul_comm hb ha, Nat.xor_assoc, ← Nat.xor_assoc (gmul a b), Nat.xor_self, Nat.zero_xor]
  have e2 : gpow (gpow a 128) 2 = a := by
    rw [show gpow (gpow a 128) 2 = gp (gpow a 128) 2 from gpow_nat (gpow_lt ha _) 2, show gpow a 128 = gp a 128 from gpow_nat ha 128, gp_mul ha]
    by_cases h : a = 0
    · subst h; exact gp_zero_succ _
    · rw [← gp_mod ha h]; exact gp_one ha
  have e3 : gpow a 256 = a := by
    by_cases h : a = 0
    · subst h; rfl
    · rw [gpow_mod (n := 1) (by decide) h, gpow_one ha]
  unfold ramekinlaw2_GfSquares.f
  rw [knownA, Option.bind_some, if_pos rfl, cast_xor a b ha hb, powA _ _ hab, Option.bind_some, powA _ _ ha, Option.bind_some, powA _ _ hb, Option.bind_some, if_pos e1, powA _ _ ha, Option.bind_some,
    powA _ _ (gpow_lt ha _), Option.bind_some, e2, if_pos rfl, powA _ _ ha, Option.bind_some, e3, if_pos rfl]
  by_cases h : a = 0
  · rw [if_pos (by omega), powA _ _ ha, Option.bind_some, gpow_zero]; rfl
  · rw [if_neg (by omega), powA _ _ ha, Option.bind_some, gpow_mod (n := 0) (by decide) h, gpow_zero, if_pos (show ((1 : Nat) : Int) = 1 from rfl), powA _ _ ha, Option.bind_some, gpow_zero]; rfl

end Go.Proofs.Ytlbaacellnlpfaa.Pure
