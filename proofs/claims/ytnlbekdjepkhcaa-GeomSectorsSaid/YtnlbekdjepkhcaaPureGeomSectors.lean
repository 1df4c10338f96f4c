import Derived.Test.YtnlbekdjepkhcaaQA8
namespace Go.Proofs.Ytnlbekdjepkhcaa.Pure
open Go.RowKit Go.Proofs.Ytnlbekdjepkhcaa.QA Go.Proofs.YtnlbekdjepkhcaaW.PrintWords Go.Proofs.YtnlbekdjepkhcaaW.PrintLast

theorem tmod_emod9 (a m : Int) (hm : 0 < m) : (if a.tmod m < 0 then a.tmod m + m else a.tmod m) = a % m := by
  rcases Int.lt_or_le a 0 with h | h
  · have := Int.tmod_eq_emod (a := a) (b := m)
    simp only [Int.not_le.mpr h, false_or] at this
    have h0 := Int.emod_nonneg a (Int.ne_of_gt hm)
    have h1 := Int.emod_lt_of_pos a hm
    split at this <;> split <;> omega
  · rw [Int.tmod_eq_emod_of_nonneg h]
    have h0 := Int.emod_nonneg a (Int.ne_of_gt hm)
    split <;> omega

theorem within9 (a m : Int) (hm : 0 < m) (hm2 : m < 1000) : ramekinlaw9_within.f a m = some (a % m) := by
  unfold ramekinlaw9_within.f
  have h := tmod_emod9 a m hm
  have h0 := Int.emod_nonneg a (Int.ne_of_gt hm)
  have h1 := Int.emod_lt_of_pos a hm
  rw [if_neg (by omega)]
  split
  · rename_i hlt
    rw [if_pos hlt] at h
    rw [h]
    congr 1
    unfold wrap64
    omega
  · rename_i hlt
    rw [if_neg hlt] at h
    rw [h]

theorem sectors_all : ∀ d < 3, ∀ b < 5, ∀ p < 5, ∀ s < 16, ramekinlaw9_GeomSectors.f ((d : Nat) : Int) ((b : Nat) : Int) ((p : Nat) : Int) ((s : Nat) : Int) = some true := by
  decide +kernel

theorem GeomSectors : ramekinlaw9_GeomSectors.Pure := by
  intro a0 a1 a2 a3 _ _ _ _
  have h := sectors_all (a0 % 3).toNat (by omega) (a1 % 5).toNat (by omega) (a2 % 5).toNat (by omega) (a3 % 16).toNat (by omega)
  rw [Int.toNat_of_nonneg (by omega), Int.toNat_of_nonneg (by omega), Int.toNat_of_nonneg (by omega), Int.toNat_of_nonneg (by omega)] at h
  unfold ramekinlaw9_GeomSectors.f at h ⊢
  rw [within9 _ 3 (by omega) (by omega), within9 _ 5 (by omega) (by omega), within9 _ 5 (by omega) (by omega), within9 _ 16 (by omega) (by omega)] at h ⊢
  simp only [Int.emod_emod_of_dvd _ (Int.dvd_refl _)] at h
  exact h

end Go.Proofs.Ytnlbekdjepkhcaa.Pure
