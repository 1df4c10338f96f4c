/-
  What the printed functions of the field compute: each told by the plain words of 'GFM'.
-/
import Derived.Test.YtlbaacellnlpfaaQG
import Derived.Test.YtlbaacellnlpfaaGFM
import Derived.Test.YtlbaacellnlpfaaGf
set_option linter.unusedSimpArgs false
set_option linter.unusedVariables false
namespace Go.Proofs.YtlbaacellnlpfaaS
open Go Go.RowKit Ram Go.Proofs.Ytlbaacellnlpfaa.QG Go.Proofs.YtlbaacellnlpfaaW.PrintWords

theorem tmod_emod (n m : Int) : Int.tmod n m % m = n % m := by rw [Int.tmod_def, Int.sub_mul_emod_self_left]
theorem w64 {x : Int} (h0 : -9223372036854775808 ≤ x) (h1 : x ≤ 9223372036854775807) : wrap64 x = x := by unfold wrap64; omega
theorem cast_and64 (a : Nat) (ha : a < 2 ^ 63) : Go.bits .and .i64 (a : Int) 1 = ((a % 2 : Nat) : Int) := by
  have h64 : ∀ n : Int, 0 ≤ n → n < 2 ^ 63 → IntKind.i64.wrap n = n := by intro n h0 h1; rw [IntKind.wrap_i64]; omega
  have := bits_mask .i64 63 (by decide) h64 1 (by decide) (a : Int) (by omega) (by omega)
  simpa using this
theorem cast_xor64 (a b : Nat) (ha : a < 2 ^ 63) (hb : b < 2 ^ 63) : Go.bits .xor .i64 (a : Int) (b : Int) = ((a ^^^ b : Nat) : Int) := by
  have ha' : a % 2 ^ IntKind.i64.bits = a := Nat.mod_eq_of_lt (show a < 2 ^ 64 by omega)
  have hb' : b % 2 ^ IntKind.i64.bits = b := Nat.mod_eq_of_lt (show b < 2 ^ 64 by omega)
  simp only [Go.bits, BitVec.ofInt_natCast, BitVec.toNat_xor, BitVec.toNat_ofNat, ha', hb']
  have := Nat.xor_lt_two_pow (n := 63) ha hb
  rw [IntKind.wrap_i64]; omega

theorem mul_f (a b : Nat) (ha : a < 256) (hb : b < 256) : gf_Mul.f a b = some ((gmul a b : Nat) : Int) := by
  unfold gf_Mul.f
  rw [if_pos ⟨by omega, by omega, by omega, by omega⟩]
  simp

theorem pow_l0 (j : Nat) : ∀ (k a out n : Nat), j < k → n < 2 ^ j → j < 62 → a < 256 → out < 256 → gf_Pow.l0 k a out n = some ((gmul out (gp a n) : Nat) : Int) := by
  induction j with
  | zero =>
    intro k a out n hk hn _ ha ho
    obtain ⟨k, rfl⟩ : ∃ m, k = m + 1 := ⟨k - 1, by omega⟩
    obtain rfl : n = 0 := by simpa using hn
    simp only [gf_Pow.l0]
    rw [if_neg (by omega), gp, gmul_one ho]
  | succ j ih =>
    intro k a out n hk hn hj ha ho
    obtain ⟨k, rfl⟩ : ∃ m, k = m + 1 := ⟨k - 1, by omega⟩
    simp only [gf_Pow.l0]
    have h63 : n < 2 ^ 63 := Nat.lt_of_lt_of_le hn (Nat.pow_le_pow_right (by decide) (by omega))
    have hdiv : ((n : Int) / 2) = ((n / 2 : Nat) : Int) := by omega
    have haa := mul_f a a ha ha
    have hq : gp (gmul a a) (n / 2) = gp a (2 * (n / 2)) := by rw [← gp_two ha, gp_mul ha]
    by_cases h : n = 0
    · subst h
      rw [if_neg (by omega), gp, gmul_one ho]
    rw [if_pos (by omega), cast_and64 n h63]
    by_cases h1 : n % 2 = 1
    · rw [if_pos (by rw [h1]; rfl), mul_f out a ho ha, Option.bind_some, haa, Option.bind_some, hdiv, ih k _ _ _ (by omega) (by omega) (by omega) (gmul_lt _ ha) (gmul_lt _ ha), hq, gmul_assoc ho ha (gp_lt ha _)]
      have e : gmul a (gp a (2 * (n / 2))) = gp a n := by
        rw [gmul_comm ha (gp_lt ha _)]
        have := gp_add ha (2 * (n / 2)) 1
        rw [gp_one ha, show 2 * (n / 2) + 1 = n from by omega] at this
        exact this.symm
      rw [e]
    · rw [if_neg (by omega), haa, Option.bind_some, hdiv, ih k _ _ _ (by omega) (by omega) (by omega) (gmul_lt _ ha) ho, hq, show 2 * (n / 2) = n from by omega]

theorem pow_f (a : Nat) (n : Int) (ha : a < 256) : gf_Pow.f 12 a n = some ((gpow a n : Nat) : Int) := by
  unfold gf_Pow.f gpow
  by_cases h : a = 0
  · subst h
    by_cases h0 : n = 0
    · simp [h0]
    · simp [h0]
  · rw [if_neg (by omega), if_neg h]
    have e : Int.tmod (wrap64 (Int.tmod n 255 + 255)) 255 = ((n % 255).toNat : Int) := by
      have h1 := Int.tmod_lt_of_pos n (show (0 : Int) < 255 by decide)
      have h2 : -255 < Int.tmod n 255 := by
        have := Int.lt_tmod_of_pos n (show (0 : Int) < 255 by decide); omega
      rw [w64 (by omega) (by omega), Int.tmod_eq_emod_of_nonneg (by omega)]
      have h3 : Int.tmod n 255 % 255 = n % 255 := tmod_emod n 255
      omega
    rw [e]
    have := pow_l0 8 12 a 1 (n % 255).toNat (by omega) (by omega) (by omega) ha (by decide)
    rw [one_gmul (gp_lt ha _)] at this
    exact this

theorem exp_f (n : Int) : gf_Exp.f 12 n = some ((gpow 2 n : Nat) : Int) := by
  unfold gf_Exp.f
  rw [show (2 : Int) = ((2 : Nat) : Int) from rfl, pow_f 2 n (by decide)]; rfl
theorem inv_f (a : Nat) (ha : a < 256) : gf_Inv.f 12 a = some ((gpow a (-1) : Nat) : Int) := by
  unfold gf_Inv.f
  rw [pow_f a (-1) ha]; rfl

theorem twice_f (b : Nat) (hb : b < 256) : gf_twice.f b = some ((xt b : Nat) : Int) := by
  unfold gf_twice.f
  rw [xt_eq hb]
  have e : ((b : Int) * 2) % 256 = ((b * 2 % 256 : Nat) : Int) := by omega
  by_cases h : 128 ≤ b
  · rw [if_pos (by omega), if_pos h, e, ← cast_xor _ _ (by omega) (by omega)]; rfl
  · rw [if_neg (by omega), if_neg h, e]

/-- the logarithm; -1 of nought. -/
def glog (a : Nat) : Int := if a = 0 then -1 else (lg a : Nat)

theorem log_l0 (d : Nat) : ∀ (k a n : Nat), d < k → n + d = 255 → a < 256 → (a ≠ 0 → n ≤ lg a) → gf_Log.l0 k a (ex n : Nat) n = some (glog a) := by
  induction d with
  | zero =>
    intro k a n hk hn ha hl
    obtain ⟨k, rfl⟩ : ∃ m, k = m + 1 := ⟨k - 1, by omega⟩
    simp only [gf_Log.l0, glog]
    rw [if_neg (by omega)]
    by_cases h : a = 0
    · rw [if_pos h]
    · have := hl h; have := lg_lt ha h; omega
  | succ d ih =>
    intro k a n hk hn ha hl
    obtain ⟨k, rfl⟩ : ∃ m, k = m + 1 := ⟨k - 1, by omega⟩
    simp only [gf_Log.l0]
    rw [if_pos (by omega)]
    by_cases h : ex n = a
    · rw [if_pos (by omega), glog, if_neg (by rw [← h]; exact ex_ne0 n), ← h, lg_ex (by omega)]
    · rw [if_neg (by omega), twice_f _ (ex_lt n), Option.bind_some, w64 (by omega) (by omega)]
      exact ih k a (n + 1) (by omega) (by omega) ha (fun h0 => by
        have := hl h0
        by_cases e : n = lg a
        · exact absurd (by rw [e]; exact ex_lg ha h0) h
        · omega)
theorem log_f (a : Nat) (ha : a < 256) : gf_Log.f 300 a = some (glog a) := by
  unfold gf_Log.f
  exact log_l0 255 300 a 0 (by omega) (by omega) ha (fun _ => Nat.zero_le _)

theorem rmul_l0 (j : Nat) : ∀ (k x y p : Nat), j < k → y < 2 ^ j → j < 62 → x < 256 → p < 256 → ramekinref2_Mul.l0 k x y p = some ((p ^^^ gmk j y x : Nat) : Int) := by
  induction j with
  | zero =>
    intro k x y p hk hy _ hx hp
    obtain ⟨k, rfl⟩ : ∃ m, k = m + 1 := ⟨k - 1, by omega⟩
    obtain rfl : y = 0 := by simpa using hy
    simp only [ramekinref2_Mul.l0, gmk, Nat.xor_zero]
    rw [if_neg (by omega)]; congr 1; omega
  | succ j ih =>
    intro k x y p hk hy hj hx hp
    obtain ⟨k, rfl⟩ : ∃ m, k = m + 1 := ⟨k - 1, by omega⟩
    simp only [ramekinref2_Mul.l0]
    have h63 : y < 2 ^ 63 := Nat.lt_of_lt_of_le hy (Nat.pow_le_pow_right (by decide) (by omega))
    have hdiv : ((y : Int) / 2) = ((y / 2 : Nat) : Int) := by omega
    by_cases h : y = 0
    · subst h
      rw [if_neg (by omega), gmk_zero, Nat.xor_zero]; congr 1; omega
    have ht : (if wrap64 ((x : Int) * 2) > 255 then Go.bits .xor .i64 (wrap64 ((x : Int) * 2)) 285 else wrap64 ((x : Int) * 2)) = ((xt x : Nat) : Int) := by
      rw [w64 (by omega) (by omega)]
      unfold xt
      split
      · rename_i h2; rw [if_neg (by omega), show (x : Int) * 2 = ((2 * x : Nat) : Int) from by omega, ← cast_xor64 _ _ (by omega) (by omega)]; rfl
      · rename_i h2; rw [if_pos (by omega)]; omega
    have hstep : ∀ q : Nat, q < 256 → (if wrap64 ((x : Int) * 2) > 255 then (ramekinref2_Mul.l0 k (Go.bits .xor .i64 (wrap64 ((x : Int) * 2)) 285) ((y : Int) / 2) q) else (ramekinref2_Mul.l0 k (wrap64 ((x : Int) * 2)) ((y : Int) / 2) q)) = some ((q ^^^ gmk j (y / 2) (xt x) : Nat) : Int) := by
      intro q hq
      have := ih k (xt x) (y / 2) q (by omega) (by omega) (by omega) (xt_lt hx) hq
      rw [← this, ← ht, ← hdiv]
      split <;> rfl
    rw [if_pos (by omega), cast_and64 y h63]
    by_cases h1 : y % 2 = 1
    · rw [if_pos (by rw [h1]; rfl), cast_xor64 p x (by omega) (by omega), hstep _ (xor_lt hp hx)]
      simp only [gmk]; rw [if_pos h1, Nat.xor_assoc]
    · rw [if_neg (by omega), hstep _ hp]
      simp only [gmk]; rw [if_neg h1, Nat.zero_xor]
theorem rmul_f (a b : Nat) (ha : a < 256) (hb : b < 256) : ramekinref2_Mul.f 12 a b = some ((gmul a b : Nat) : Int) := by
  unfold ramekinref2_Mul.f
  rw [w64 (by omega) (by omega), w64 (by omega) (by omega)]
  have := rmul_l0 8 12 a b 0 (by omega) hb (by omega) ha (by decide)
  rw [Nat.zero_xor] at this
  rw [gmul_comm ha hb]
  exact this

theorem leO_trans {α : Type} {a b c : Option α} (h : LeO a b) (h' : LeO b c) : LeO a c := fun r hr => h' r (h r hr)
theorem up_to {α : Type} {g : Nat → Option α} (hm : ∀ k, LeO (g k) (g (k + 1))) {k k' : Nat} (h : k ≤ k') : LeO (g k) (g k') := by
  induction h with
  | refl => exact fun _ h => h
  | step _ ih => exact leO_trans ih (hm _)
theorem rmul_k (k : Nat) (hk : 12 ≤ k) (a b : Nat) (ha : a < 256) (hb : b < 256) : ramekinref2_Mul.f k a b = some ((gmul a b : Nat) : Int) :=
  up_to (g := fun k => ramekinref2_Mul.f k a b) (fun k => ramekinref2_Mul.mono _ _ k) hk _ (rmul_f a b ha hb)
theorem rmul_two (k : Nat) (hk : 12 ≤ k) (a : Nat) (ha : a < 256) : ramekinref2_Mul.f k a 2 = some ((xt a : Nat) : Int) := by
  rw [show (2 : Int) = ((2 : Nat) : Int) from rfl, rmul_k k hk a 2 ha (by decide), gmul_comm ha (by decide), show (2 : Nat) = xt 1 from rfl, gmul_xt_left (by decide) ha, one_gmul ha]

theorem rlog_l0 (d : Nat) : ∀ (k a n : Nat), d + 12 < k → n + d = 255 → a < 256 → (a ≠ 0 → n ≤ lg a) → ramekinref2_Log.l0 k a (ex n : Nat) n = some (glog a) := by
  induction d with
  | zero =>
    intro k a n hk hn ha hl
    obtain ⟨k, rfl⟩ : ∃ m, k = m + 1 := ⟨k - 1, by omega⟩
    simp only [ramekinref2_Log.l0, glog]
    rw [if_neg (by omega)]
    by_cases h : a = 0
    · rw [if_pos h]
    · have := hl h; have := lg_lt ha h; omega
  | succ d ih =>
    intro k a n hk hn ha hl
    obtain ⟨k, rfl⟩ : ∃ m, k = m + 1 := ⟨k - 1, by omega⟩
    simp only [ramekinref2_Log.l0]
    rw [if_pos (by omega)]
    by_cases h : ex n = a
    · rw [if_pos (by omega), glog, if_neg (by rw [← h]; exact ex_ne0 n), ← h, lg_ex (by omega)]
    · rw [if_neg (by omega), rmul_two k (by omega) _ (ex_lt n), Option.bind_some, w64 (by omega) (by omega)]
      exact ih k a (n + 1) (by omega) (by omega) ha (fun h0 => by
        have := hl h0
        by_cases e : n = lg a
        · exact absurd (by rw [e]; exact ex_lg ha h0) h
        · omega)
theorem rlog_f (a : Nat) (ha : a < 256) : ramekinref2_Log.f 300 a = some (glog a) := by
  unfold ramekinref2_Log.f
  exact rlog_l0 255 300 a 0 (by omega) (by omega) ha (fun _ => Nat.zero_le _)

theorem rexp_l0 (d : Nat) : ∀ (k n i : Nat), d + 12 < k → i + d = n → n < 255 → ramekinref2_Exp.l0 k n (ex i : Nat) i = some ((ex n : Nat) : Int) := by
  induction d with
  | zero =>
    intro k n i hk hn h
    obtain ⟨k, rfl⟩ : ∃ m, k = m + 1 := ⟨k - 1, by omega⟩
    obtain rfl : i = n := by omega
    simp only [ramekinref2_Exp.l0]
    rw [if_neg (by omega)]
  | succ d ih =>
    intro k n i hk hn h
    obtain ⟨k, rfl⟩ : ∃ m, k = m + 1 := ⟨k - 1, by omega⟩
    simp only [ramekinref2_Exp.l0]
    rw [if_pos (by omega), rmul_two k (by omega) _ (ex_lt i), Option.bind_some, w64 (by omega) (by omega)]
    exact ih k n (i + 1) (by omega) (by omega) h

theorem gpow_ex (i : Nat) (n : Int) : gpow (ex i) n = ex (((i : Int) * n) % 255).toNat := by
  unfold gpow
  rw [if_neg (ex_ne0 i), gp_ex, ← ex_mod]
  congr 1
  have h : (((i * (n % 255).toNat % 255 : Nat) : Int)) = (i : Int) * n % 255 := by
    rw [Int.natCast_emod, Int.natCast_mul, Int.toNat_of_nonneg (by omega)]
    simp [Int.mul_emod]
  omega
theorem gpow_two (n : Int) : gpow 2 n = ex (n % 255).toNat := by
  have := gpow_ex 1 n
  simpa [ex, xt] using this

theorem tmod_fix (n : Int) : (if Int.tmod n 255 < 0 then wrap64 (Int.tmod n 255 + 255) else Int.tmod n 255) = ((n % 255).toNat : Int) := by
  have h1 := Int.tmod_lt_of_pos n (show (0 : Int) < 255 by decide)
  have h2 : -255 < Int.tmod n 255 := by
    have := Int.lt_tmod_of_pos n (show (0 : Int) < 255 by decide); omega
  have h3 : Int.tmod n 255 % 255 = n % 255 := tmod_emod n 255
  split
  · rw [w64 (by omega) (by omega)]; omega
  · omega
theorem rexp_f (n : Int) : ramekinref2_Exp.f 300 n = some ((gpow 2 n : Nat) : Int) := by
  have h := tmod_fix n
  have h2 := rexp_l0 (n % 255).toNat 299 (n % 255).toNat 0 (by omega) (by omega) (by omega)
  have e : ramekinref2_Exp.f 300 n = ramekinref2_Exp.j0 300 (if Int.tmod n 255 < 0 then wrap64 (Int.tmod n 255 + 255) else Int.tmod n 255) := by
    unfold ramekinref2_Exp.f; split <;> rfl
  rw [e, h, gpow_two]
  exact h2
theorem rinv_f (a : Nat) (ha : a < 256) : ramekinref2_Inv.f 300 a = some ((gpow a (-1) : Nat) : Int) := by
  unfold ramekinref2_Inv.f
  by_cases h : a = 0
  · subst h; rw [if_pos (by rfl)]; rfl
  · have hl := lg_lt ha h
    rw [if_neg (by omega), rlog_f a ha, Option.bind_some, glog, if_neg h, w64 (by omega) (by omega), rexp_f, Option.bind_some, gpow_two]
    congr 2
    conv => rhs; rw [← ex_lg ha h, gpow_ex]
    congr 2; omega
theorem rpow_f (a : Nat) (n : Int) (ha : a < 256) (hn : a = 0 → 0 ≤ n ∨ True) : ramekinref2_Pow.f 300 a n = some ((gpow a n : Nat) : Int) := by
  unfold ramekinref2_Pow.f
  by_cases h0 : n = 0
  · subst h0
    rw [if_pos rfl]
    unfold gpow
    split <;> rfl
  · rw [if_neg h0]
    by_cases h : a = 0
    · subst h; rw [if_pos (by rfl)]; unfold gpow; rw [if_pos rfl, if_neg h0]; rfl
    · have hl := lg_lt ha h
      have h1 := Int.tmod_lt_of_pos n (show (0 : Int) < 255 by decide)
      have h2 : -255 < Int.tmod n 255 := by
        have := Int.lt_tmod_of_pos n (show (0 : Int) < 255 by decide); omega
      have h3 : Int.tmod n 255 % 255 = n % 255 := tmod_emod n 255
      have hb : -65536 ≤ (lg a : Int) * Int.tmod n 255 ∧ (lg a : Int) * Int.tmod n 255 ≤ 65536 := by
        constructor
        · have : (lg a : Int) * (-255) ≤ (lg a : Int) * Int.tmod n 255 := Int.mul_le_mul_of_nonneg_left (by omega) (by omega)
          omega
        · have : (lg a : Int) * Int.tmod n 255 ≤ (lg a : Int) * 255 := Int.mul_le_mul_of_nonneg_left (by omega) (by omega)
          omega
      rw [if_neg (by omega), rlog_f a ha, Option.bind_some, glog, if_neg h, w64 (by omega) (by omega), rexp_f, Option.bind_some, gpow_two]
      congr 2
      conv => rhs; rw [← ex_lg ha h, gpow_ex]
      congr 2
      rw [Int.mul_emod, h3, ← Int.mul_emod]

theorem within_f (a : Int) (n : Int) (hn : 0 < n) (hn2 : n < 4611686018427387904) : ramekinlaw2_within.f a n = some (a % n) := by
  unfold ramekinlaw2_within.f
  have h1 := Int.tmod_lt_of_pos a hn
  have h2 : -n < Int.tmod a n := Int.lt_tmod_of_pos a hn
  have h3 : Int.tmod a n % n = a % n := tmod_emod a n
  have h4 := Int.emod_nonneg a (show n ≠ 0 by omega)
  have h5 := Int.emod_lt_of_pos a hn
  rw [if_neg (by omega)]
  by_cases h : Int.tmod a n < 0
  · rw [if_pos h, w64 (by omega) (by omega), ← h3, ← Int.add_emod_right, Int.emod_eq_of_lt (by omega) (by omega)]
  · rw [if_neg h, ← h3, Int.emod_eq_of_lt (by omega) (by omega)]

end Go.Proofs.YtlbaacellnlpfaaS
