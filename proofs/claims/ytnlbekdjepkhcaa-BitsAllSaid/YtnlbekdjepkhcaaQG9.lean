-- Written by a program of this session's (ownprint.py, over the kit's print.py); Lean checks it.
import Derived.Test.YtnlbekdjepkhcaaQG0
namespace Go.Proofs.Ytnlbekdjepkhcaa.QG
open Go.RowKit Go.Proofs.YtnlbekdjepkhcaaW.PrintWords Go.Proofs.YtnlbekdjepkhcaaW.PrintLast Go.Proofs.YtnlbekdjepkhcaaW.PrintMore
attribute [local go_sem] max2_int min2_int max_two min_two max_three min_three max_four min_four   -- for this text's walks alone
set_option linter.unusedVariables false
set_option linter.unusedSimpArgs false

def bits_Apart.f (l0 : List Int) (l1 : List Int) : Option (List Int) := if l0.length = l1.length then (if Ram.bytesB l0 = true ∧ Ram.bytesB l1 = true ∧ l0.length < 1000000000000 then some (Ram.int (Ram.onesL (Ram.xorL (Ram.nat l0) (Ram.nat l1)))) else none) else some []
theorem bits_Apart.calls (A0 : Option Addr) (c0 : Nat) (l0 : List Int) (A1 : Option Addr) (c1 : Nat) (l1 : List Int) (r : List Int) (w : World) (hr0 : Kd.C (Kd.int .u8) w A0 l0.length l0) (hc0 : l0.length ≤ c0) (hr1 : Kd.C (Kd.int .u8) w A1 l1.length l1) (hc1 : l1.length ≤ c1) (h : bits_Apart.f l0 l1 = some r) :
    Calls Try.prog 19 #[.slice A0 l0.length c0, .slice A1 l1.length c1] w fun e w' => ∃ v0_ : Value, e = .returned (v0_) ∧ Kd.R (Kd.int .i64) 3 w' w.heap.size (fun _ => True) v0_ r ∧ Below w.heap.size w w' := by
  unfold bits_Apart.f at h
  split at h
  · rename_i he
    split at h
    · rename_i hh
      obtain rfl := Option.some.inj h
      exact Go.Proofs.YtnlbekdjepkhcaaS.apart_yes A0 c0 l0 A1 c1 l1 w hr0 hc0 hr1 he hh.1 hh.2.1 hh.2.2
    · cases h
  · rename_i he
    obtain rfl := Option.some.inj h
    exact Go.Proofs.YtnlbekdjepkhcaaS.apart_no A0 c0 l0 A1 c1 l1 w he

end Go.Proofs.Ytnlbekdjepkhcaa.QG
