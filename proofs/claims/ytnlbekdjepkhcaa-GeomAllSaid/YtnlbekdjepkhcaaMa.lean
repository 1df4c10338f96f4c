import Derived.Test.YtnlbekdjepkhcaaGU
import Derived.Test.YtnlbekdjepkhcaaMt
/-
  Powers, logarithms of bytes.
-/
set_option linter.unusedSimpArgs false
set_option linter.unusedVariables false
namespace Ram

def exB (n : Nat) : UInt8 := UInt8.ofNat (ex n)
def lgB (a : UInt8) : Nat := lg a.toNat
def gpB (a : UInt8) (n : Nat) : UInt8 := UInt8.ofNat (gp a.toNat n)
def powB (a : UInt8) (n : Int) : UInt8 := UInt8.ofNat (gpow a.toNat n)
/-- a power of 2 by any number. -/
def exI (n : Int) : UInt8 := exB (n % 255).toNat
def xtB (a : UInt8) : UInt8 := UInt8.ofNat (xt a.toNat)
theorem ofNat_nat {n : Nat} (h : n < 256) : (UInt8.ofNat n).toNat = n := by rw [UInt8.toNat_ofNat']; exact Nat.mod_eq_of_lt h
theorem exB_nat (n : Nat) : (exB n).toNat = ex n := ofNat_nat (ex_lt n)
theorem gpB_nat (a : UInt8) (n : Nat) : (gpB a n).toNat = gp a.toNat n := ofNat_nat (gp_lt a.toNat_lt n)
theorem xtB_nat (a : UInt8) : (xtB a).toNat = xt a.toNat := ofNat_nat (xt_lt a.toNat_lt)
theorem nat_inj {a b : UInt8} (h : a.toNat = b.toNat) : a = b := UInt8.toNat_inj.1 h
theorem gpB_zero (a : UInt8) : gpB a 0 = 1 := nat_inj (by rw [gpB_nat]; rfl)
theorem gpB_one (a : UInt8) : gpB a 1 = a := nat_inj (by rw [gpB_nat, gp_one a.toNat_lt])
theorem gpB_add (a : UInt8) (m n : Nat) : gpB a (m + n) = gm (gpB a m) (gpB a n) := nat_inj (by rw [gpB_nat, gm_nat, gpB_nat, gpB_nat, gp_add a.toNat_lt])
theorem gpB_sq (a : UInt8) (n : Nat) : gpB (gm a a) n = gpB a (2 * n) := nat_inj (by
  rw [gpB_nat, gpB_nat, gm_nat, ← gp_two a.toNat_lt, gp_mul a.toNat_lt])
theorem gm_assoc (a b c : UInt8) : gm (gm a b) c = gm a (gm b c) := G.mul_assoc a b c
theorem gm_comm (a b : UInt8) : gm a b = gm b a := G.mul_comm a b
theorem gm_one (a : UInt8) : gm a 1 = a := G.mul_one a
theorem one_gm (a : UInt8) : gm 1 a = a := G.one_mul a
theorem gm_zero (a : UInt8) : gm a 0 = 0 := G.mul_zero a
theorem zero_gm (a : UInt8) : gm 0 a = 0 := G.zero_mul a
theorem powB_zero (n : Int) : powB 0 n = if n = 0 then 1 else 0 := by
  unfold powB gpow
  simp only [show (0 : UInt8).toNat = 0 from rfl, if_true]
  split <;> rfl
theorem powB_ne {a : UInt8} (h : a ≠ 0) (n : Int) : powB a n = gpB a (n % 255).toNat := by
  have h0 : a.toNat ≠ 0 := fun e => h (nat_inj e)
  unfold powB gpow gpB
  rw [if_neg h0]
theorem two_nat : (2 : UInt8).toNat = ex 1 := by decide
theorem gp_two_ex (n : Nat) : gp 2 n = ex n := by
  have := gp_ex 1 n
  rw [show ex 1 = 2 from by decide, Nat.one_mul] at this
  exact this
theorem powB_two (n : Int) : powB 2 n = exI n := by
  rw [powB_ne (by decide)]
  apply nat_inj
  unfold exI
  rw [gpB_nat, exB_nat]
  exact gp_two_ex _
theorem exB_zero : exB 0 = 1 := by decide
theorem exB_succ (n : Nat) : exB (n + 1) = xtB (exB n) := nat_inj (by rw [exB_nat, xtB_nat, exB_nat]; rfl)
theorem exB_two (n : Nat) : gm (exB n) 2 = exB (n + 1) := nat_inj (by
  rw [gm_nat, exB_nat, exB_nat, two_nat, gmul_ex])
theorem exB_mod (n : Nat) : exB (n % 255) = exB n := nat_inj (by rw [exB_nat, exB_nat, ex_mod])
theorem exB_ne0 (n : Nat) : exB n ≠ 0 := fun h => ex_ne0 n (by rw [← exB_nat, h]; rfl)
theorem exB_add (m n : Nat) : exB (m + n) = gm (exB m) (exB n) := nat_inj (by rw [gm_nat, exB_nat, exB_nat, exB_nat, gmul_ex])
theorem exB_inj {m n : Nat} (hm : m < 255) (hn : n < 255) (h : exB m = exB n) : m = n := ex_inj hm hn (by rw [← exB_nat, ← exB_nat, h])
theorem exB_eq {m n : Nat} : exB m = exB n ↔ m % 255 = n % 255 := by
  rw [← ex_eq_iff, ← exB_nat, ← exB_nat]
  exact ⟨fun h => by rw [h], fun h => nat_inj h⟩
theorem exB_lg {a : UInt8} (h : a ≠ 0) : exB (lgB a) = a := nat_inj (by
  rw [exB_nat]; exact ex_lg a.toNat_lt (fun e => h (nat_inj e)))
theorem lgB_lt {a : UInt8} (h : a ≠ 0) : lgB a < 255 := lg_lt a.toNat_lt (fun e => h (nat_inj e))
theorem lgB_ex (n : Nat) : lgB (exB n) = n % 255 := by unfold lgB; rw [exB_nat, lg_ex']
theorem xtB_gm (a : UInt8) : gm a 2 = xtB a := by
  by_cases h : a = 0
  · subst h; decide
  · rw [← exB_lg h, exB_two, exB_succ]
theorem gpB_ex (i n : Nat) : gpB (exB i) n = exB (i * n) := nat_inj (by rw [gpB_nat, exB_nat, exB_nat, gp_ex])
theorem exI_add (m n : Int) : exI (m + n) = gm (exI m) (exI n) := by
  unfold exI
  rw [← exB_add, exB_eq]
  omega
theorem exI_nat (n : Nat) : exI (n : Int) = exB n := by
  unfold exI
  rw [exB_eq]
  omega
/-- the inverse. -/
def invB (a : UInt8) : UInt8 := powB a (-1)
theorem invB_zero : invB 0 = 0 := by unfold invB; rw [powB_zero]; rfl
theorem gm_inv {a : UInt8} (h : a ≠ 0) : gm a (invB a) = 1 := by
  unfold invB
  rw [powB_ne h]
  have : ((-1 : Int) % 255).toNat = 254 := by decide
  rw [this]
  have h2 : gm a (gpB a 254) = gpB a 255 := by
    rw [show 255 = 1 + 254 from rfl, gpB_add, gpB_one]
  rw [h2]
  apply nat_inj
  rw [gpB_nat, gp_255 a.toNat_lt (fun e => h (nat_inj e))]
  rfl
/-! a number, and it doubled, till it comes again -/
def orb (n i : Nat) : Nat := n * 2 ^ i % 255
def per (n : Nat) : Nat := if n * 2 % 255 = n then 1 else if n * 4 % 255 = n then 2 else if n * 16 % 255 = n then 4 else 8
def orbit (n : Nat) : List Nat := tab (per n) (orb n)
theorem per_le (n : Nat) : per n ≤ 8 := by
  unfold per
  split
  · decide
  · split
    · decide
    · split <;> decide
theorem per_pos (n : Nat) : 0 < per n := by
  unfold per
  split
  · decide
  · split
    · decide
    · split <;> decide
theorem orb_lt (n i : Nat) : orb n i < 255 := Nat.mod_lt _ (by decide)
theorem orb_zero {n : Nat} (h : n < 255) : orb n 0 = n := by unfold orb; omega
theorem orb_succ (n i : Nat) : 2 * orb n i % 255 = orb n (i + 1) := by unfold orb; rw [Nat.pow_succ, ← Nat.mul_assoc]; omega
theorem orb_per : ∀ n, n < 255 → ∀ i, i < 8 → i < per n → (orb n (i + 1) = n ↔ i + 1 = per n) := by decide +kernel
theorem orbit_length (n : Nat) : (orbit n).length = per n := tab_length
theorem orbit_take {n i : Nat} (h : i < per n) : (orbit n).take i ++ [orb n i] = (orbit n).take (i + 1) := by
  have hl : i < (orbit n).length := by rw [orbit_length]; exact h
  rw [List.take_succ_eq_append_getElem hl]
  have h2 : (orbit n).getD i 0 = orb n i := tab_at h
  rw [List.getD_eq_getElem?_getD, List.getElem?_eq_getElem hl] at h2
  simp only [Option.getD_some] at h2
  rw [h2]
theorem take_pre {α : Type} (l : List α) (i : Nat) : l.take i <+: l := List.take_prefix i l
end Ram
