/-
  The laws of the field over their printed forms: small helpers.
-/
import Derived.Test.YtlbaacellnlpfaaQA
set_option linter.unusedSimpArgs false
set_option linter.unusedVariables false
namespace Go.Proofs.YtlbaacellnlpfaaA
open Go Go.RowKit Ram Go.Proofs.Ytlbaacellnlpfaa.QA Go.Proofs.YtlbaacellnlpfaaW.PrintWords Go.Proofs.YtlbaacellnlpfaaS

theorem wf8 {x : Int} (h : (Lit.int .u8 x).wf = true) : ∃ a : Nat, x = (a : Int) ∧ a < 256 := by
  have : 0 ≤ x ∧ x < 256 := by simp [Lit.wf] at h; have e1 : IntKind.u8.min = 0 := rfl; have e2 : IntKind.u8.max = 255 := rfl; omega
  exact ⟨x.toNat, by omega, by omega⟩
theorem mulA (a b : Nat) (ha : a < 256) (hb : b < 256) : gf_Mul.f a b = some ((gmul a b : Nat) : Int) := by
  unfold gf_Mul.f; rw [if_pos (by omega)]; simp
theorem rmulA (a b : Nat) (ha : a < 256) (hb : b < 256) : ramekinref2_Mul.f a b = some ((gmul a b : Nat) : Int) := by
  unfold ramekinref2_Mul.f; rw [if_pos (by omega)]; simp
theorem powA (a : Nat) (n : Int) (ha : a < 256) : gf_Pow.f a n = some ((gpow a n : Nat) : Int) := by
  unfold gf_Pow.f; rw [if_pos (by omega)]; simp
theorem rpowA (a : Nat) (n : Int) (ha : a < 256) : ramekinref2_Pow.f a n = some ((gpow a n : Nat) : Int) := by
  unfold ramekinref2_Pow.f; rw [if_pos (by omega)]; simp
theorem invA (a : Nat) (ha : a < 256) : gf_Inv.f a = some ((gpow a (-1) : Nat) : Int) := by
  unfold gf_Inv.f; rw [if_pos (by omega)]; simp
theorem rinvA (a : Nat) (ha : a < 256) : ramekinref2_Inv.f a = some ((gpow a (-1) : Nat) : Int) := by
  unfold ramekinref2_Inv.f; rw [if_pos (by omega)]; simp
theorem logA (a : Nat) (ha : a < 256) : gf_Log.f a = some (glog a) := by
  unfold gf_Log.f; rw [if_pos (by omega)]; simp
theorem rlogA (a : Nat) (ha : a < 256) : ramekinref2_Log.f a = some (glog a) := by
  unfold ramekinref2_Log.f; rw [if_pos (by omega)]; simp
theorem expA (n : Int) : gf_Exp.f n = some ((gpow 2 n : Nat) : Int) := rfl
theorem rexpA (n : Int) : ramekinref2_Exp.f n = some ((gpow 2 n : Nat) : Int) := rfl
theorem knownA : ramekinlaw2_known.f = some true := by decide +kernel
theorem withinA (a n : Int) (hn : 0 < n) (hn2 : n < 4611686018427387904) : ramekinlaw2_within.f a n = some (a % n) := within_f a n hn hn2

theorem gpow_nat {a : Nat} (ha : a < 256) (n : Nat) : gpow a (n : Int) = gp a n := by
  unfold gpow
  by_cases h : a = 0
  · subst h
    rw [if_pos rfl]
    cases n with
    | zero => rfl
    | succ n => rw [if_neg (by omega), gp_zero_succ]
  · rw [if_neg h, show ((n : Int) % 255).toNat = n % 255 from by omega, gp_mod ha h]
theorem gpow_add {a : Nat} (ha : a < 256) (h : a ≠ 0) (m n : Int) : gpow a (m + n) = gmul (gpow a m) (gpow a n) := by
  rw [← ex_lg ha h, gpow_ex, gpow_ex, gpow_ex, gmul_ex, ← ex_mod (_ + _)]
  congr 1
  have h1 := Int.emod_nonneg ((lg a : Int) * m) (show (255 : Int) ≠ 0 by decide)
  have h2 := Int.emod_nonneg ((lg a : Int) * n) (show (255 : Int) ≠ 0 by decide)
  rw [Int.mul_add]; omega
theorem gpow_gpow {a : Nat} (ha : a < 256) (h : a ≠ 0) (m n : Int) : gpow (gpow a m) n = gpow a (m * n) := by
  rw [← ex_lg ha h, gpow_ex, gpow_ex, gpow_ex]
  congr 2
  have h1 := Int.emod_nonneg ((lg a : Int) * m) (show (255 : Int) ≠ 0 by decide)
  rw [Int.toNat_of_nonneg h1, ← Int.mul_assoc]
  simp [Int.mul_emod]
theorem gpow_ne0 {a : Nat} (ha : a < 256) (h : a ≠ 0) (m : Int) : gpow a m ≠ 0 := by
  rw [← ex_lg ha h, gpow_ex]; exact ex_ne0 _
theorem gpow_mod {a : Nat} {m n : Int} (h : m % 255 = n % 255) (h0 : a ≠ 0) : gpow a m = gpow a n := by
  unfold gpow; rw [if_neg h0, if_neg h0, h]
theorem gpow_zero (a : Nat) : gpow a 0 = 1 := by unfold gpow; split <;> rfl
theorem gpow_one {a : Nat} (ha : a < 256) : gpow a 1 = a := by
  have := gpow_nat ha 1; rw [gp_one ha] at this; exact this
theorem ofN {m n : Nat} (h : m = n) : (m : Int) = (n : Int) := by rw [h]

end Go.Proofs.YtlbaacellnlpfaaA
