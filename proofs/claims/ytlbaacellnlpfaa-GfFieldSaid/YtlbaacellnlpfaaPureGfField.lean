/-
  Products are taken together in any order, and spread over sums; each but nought has an inverse, and is a power of 2.
-/
import Derived.Test.YtlbaacellnlpfaaGfA
set_option linter.unusedSimpArgs false
set_option linter.unusedVariables false
namespace Go.Proofs.Ytlbaacellnlpfaa.Pure
open Go Go.RowKit Ram Go.Proofs.Ytlbaacellnlpfaa.QA Go.Proofs.YtlbaacellnlpfaaW.PrintWords Go.Proofs.YtlbaacellnlpfaaS Go.Proofs.YtlbaacellnlpfaaA

theorem GfField : ramekinlaw2_GfField.Pure := by
  intro a0 a1 a2 h0 h1 h2
  obtain ⟨a, rfl, ha⟩ := wf8 h0
  obtain ⟨b, rfl, hb⟩ := wf8 h1
  obtain ⟨c, rfl, hc⟩ := wf8 h2
  refine ⟨5, ?_⟩
  unfold ramekinlaw2_GfField.f
  rw [knownA, Option.bind_some, if_pos rfl, mulA a b ha hb, Option.bind_some, mulA _ c (gmul_lt a hb) hc, Option.bind_some, mulA b c hb hc, Option.bind_some, mulA a _ ha (gmul_lt b hc), Option.bind_some,
    if_pos (ofN (gmul_assoc ha hb hc)), cast_xor b c hb hc, mulA a _ ha (xor_lt hb hc), Option.bind_some]
  simp only [Option.bind_some]
  rw [mulA a c ha hc, Option.bind_some, cast_xor _ _ (gmul_lt a hb) (gmul_lt a hc), if_pos (ofN (gmul_xor hb hc)), show (1 : Int) = ((1 : Nat) : Int) from rfl, mulA a 1 ha (by decide), Option.bind_some,
    gmul_one ha, if_pos rfl, show (0 : Int) = ((0 : Nat) : Int) from rfl, mulA a 0 ha (by decide), Option.bind_some, gmul_zero ha]
  simp only [ramekinlaw2_GfField.j0]
  by_cases h : a = 0
  · subst h
    decide +kernel
  · rw [if_neg (by simp), if_neg (by omega), invA a ha, Option.bind_some, mulA a _ ha (gpow_lt ha _), Option.bind_some]
    have e : gmul a (gpow a (-1)) = 1 := by
      have := gpow_add ha h 1 (-1)
      rw [gpow_one ha] at this
      rw [← this]; exact gpow_zero a
    rw [e, if_pos (show ((1 : Nat) : Int) = 1 from rfl), logA a ha, Option.bind_some, expA, Option.bind_some]
    unfold glog
    rw [if_neg h, gpow_two]
    have hl := lg_lt ha h
    rw [show (((lg a : Nat) : Int) % 255).toNat = lg a from by omega, ex_lg ha h]
    simp

end Go.Proofs.Ytlbaacellnlpfaa.Pure
