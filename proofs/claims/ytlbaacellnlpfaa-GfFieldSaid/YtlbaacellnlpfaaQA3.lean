-- Written by a program of this session's (ownprint.py, over the kit's print.py); Lean checks it.
import Derived.Test.YtlbaacellnlpfaaQA0
namespace Go.Proofs.Ytlbaacellnlpfaa.QA
open Go.RowKit Go.Proofs.YtlbaacellnlpfaaW.PrintWords Go.Proofs.YtlbaacellnlpfaaW.PrintLast Go.Proofs.YtlbaacellnlpfaaW.PrintMore
attribute [local go_sem] max2_int min2_int max_two min_two max_three min_three max_four min_four   -- for this text's walks alone
set_option linter.unusedVariables false
set_option linter.unusedSimpArgs false

def gf_Pow.f (a0 : Int) (a1 : Int) : Option (Int) := if 0 ≤ a0 ∧ a0 < 256 then some ((Ram.gpow a0.toNat a1 : Nat) : Int) else none
theorem gf_Pow.calls (a0 : Int) (a1 : Int) (r : Int) (w : World) (h : gf_Pow.f a0 a1 = some r) :
    Calls Try.prog 15 #[.int .u8 a0, .int .i64 a1] w fun e w' => e = .returned (.int .u8 r) ∧ Below w.heap.size w w' := by
  unfold gf_Pow.f at h
  split at h
  · rename_i hh
    obtain ⟨a, rfl⟩ := Int.eq_ofNat_of_zero_le hh.1
    exact Go.Proofs.Ytlbaacellnlpfaa.QG.gf_Pow.calls 12 a a1 r w ((Go.Proofs.YtlbaacellnlpfaaS.pow_f a a1 (by omega)).trans h)
  · cases h

end Go.Proofs.Ytlbaacellnlpfaa.QA
