-- Written by a program of this session's (ownprint.py, over the kit's print.py); Lean checks it.
import Derived.Test.YtnlbekdjepkhcaaQC0
namespace Go.Proofs.Ytnlbekdjepkhcaa.QC
open Go.RowKit Go.Proofs.YtnlbekdjepkhcaaW.PrintWords Go.Proofs.YtnlbekdjepkhcaaW.PrintLast Go.Proofs.YtnlbekdjepkhcaaW.PrintMore
attribute [local go_sem] max2_int min2_int max_two min_two max_three min_three max_four min_four   -- for this text's walks alone
set_option linter.unusedVariables false
set_option linter.unusedSimpArgs false

def bits_Ones.f (l0 : List Int) : Option (Int) := if Ram.bytesB l0 = true ∧ l0.length < 1000000000000 then some (((Ram.onesL (Ram.nat l0)).length : Nat) : Int) else none
theorem bits_Ones.calls (A0 : Option Addr) (c0 : Nat) (l0 : List Int) (r : Int) (w : World) (hr0 : Kd.C (Kd.int .u8) w A0 l0.length l0) (hc0 : l0.length ≤ c0) (h : bits_Ones.f l0 = some r) :
    Calls Try.prog 24 #[.slice A0 l0.length c0] w fun e w' => e = .returned (.int .i64 r) ∧ Below w.heap.size w w' := by
  unfold bits_Ones.f at h
  split at h
  · rename_i hh
    obtain rfl := Option.some.inj h
    exact Go.Proofs.YtnlbekdjepkhcaaS.ones_total A0 c0 l0 w hr0 hh.1 hh.2
  · cases h

end Go.Proofs.Ytnlbekdjepkhcaa.QC
