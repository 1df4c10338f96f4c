-- Written by a program of this session's (ownprint.py, over the kit's print.py); Lean checks it.
import Derived.Test.YtlbaacellnlpfaaQA0
namespace Go.Proofs.Ytlbaacellnlpfaa.QA
open Go.RowKit Go.Proofs.YtlbaacellnlpfaaW.PrintWords Go.Proofs.YtlbaacellnlpfaaW.PrintLast Go.Proofs.YtlbaacellnlpfaaW.PrintMore
attribute [local go_sem] max2_int min2_int max_two min_two max_three min_three max_four min_four   -- for this text's walks alone
set_option linter.unusedVariables false
set_option linter.unusedSimpArgs false

def ramekinref2_Log.f (a0 : Int) : Option (Int) := if 0 ≤ a0 ∧ a0 < 256 then some (Go.Proofs.YtlbaacellnlpfaaS.glog a0.toNat) else none
theorem ramekinref2_Log.calls (a0 : Int) (r : Int) (w : World) (h : ramekinref2_Log.f a0 = some r) :
    Calls Try.prog 20 #[.int .u8 a0] w fun e w' => e = .returned (.int .i64 r) ∧ Drawn0 w w' := by
  unfold ramekinref2_Log.f at h
  split at h
  · rename_i hh
    obtain ⟨a, rfl⟩ := Int.eq_ofNat_of_zero_le hh.1
    exact Go.Proofs.Ytlbaacellnlpfaa.QG.ramekinref2_Log.calls 300 a r w ((Go.Proofs.YtlbaacellnlpfaaS.rlog_f a (by omega)).trans h)
  · cases h

def ramekinref2_Exp.f (a0 : Int) : Option (Int) := some ((Ram.gpow 2 a0 : Nat) : Int)
theorem ramekinref2_Exp.calls (a0 : Int) (r : Int) (w : World) (h : ramekinref2_Exp.f a0 = some r) :
    Calls Try.prog 21 #[.int .i64 a0] w fun e w' => e = .returned (.int .u8 r) ∧ Drawn0 w w' :=
  Go.Proofs.Ytlbaacellnlpfaa.QG.ramekinref2_Exp.calls 300 a0 r w ((Go.Proofs.YtlbaacellnlpfaaS.rexp_f a0).trans h)

def ramekinref2_Inv.f (a0 : Int) : Option (Int) := if 0 ≤ a0 ∧ a0 < 256 then some ((Ram.gpow a0.toNat (-1) : Nat) : Int) else none
theorem ramekinref2_Inv.calls (a0 : Int) (r : Int) (w : World) (h : ramekinref2_Inv.f a0 = some r) :
    Calls Try.prog 22 #[.int .u8 a0] w fun e w' => e = .returned (.int .u8 r) ∧ Drawn0 w w' := by
  unfold ramekinref2_Inv.f at h
  split at h
  · rename_i hh
    obtain ⟨a, rfl⟩ := Int.eq_ofNat_of_zero_le hh.1
    exact Go.Proofs.Ytlbaacellnlpfaa.QG.ramekinref2_Inv.calls 300 a r w ((Go.Proofs.YtlbaacellnlpfaaS.rinv_f a (by omega)).trans h)
  · cases h

def ramekinref2_Pow.f (a0 : Int) (a1 : Int) : Option (Int) := if 0 ≤ a0 ∧ a0 < 256 then some ((Ram.gpow a0.toNat a1 : Nat) : Int) else none
theorem ramekinref2_Pow.calls (a0 : Int) (a1 : Int) (r : Int) (w : World) (h : ramekinref2_Pow.f a0 a1 = some r) :
    Calls Try.prog 23 #[.int .u8 a0, .int .i64 a1] w fun e w' => e = .returned (.int .u8 r) ∧ Drawn0 w w' := by
  unfold ramekinref2_Pow.f at h
  split at h
  · rename_i hh
    obtain ⟨a, rfl⟩ := Int.eq_ofNat_of_zero_le hh.1
    exact Go.Proofs.Ytlbaacellnlpfaa.QG.ramekinref2_Pow.calls 300 a a1 r w ((Go.Proofs.YtlbaacellnlpfaaS.rpow_f a a1 (by omega) (fun _ => .inr trivial)).trans h)
  · cases h

end Go.Proofs.Ytlbaacellnlpfaa.QA
