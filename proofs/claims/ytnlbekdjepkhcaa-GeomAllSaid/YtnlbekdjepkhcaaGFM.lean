/-
  The field of 256, in plain numbers: sums, products, powers, logarithms: the laws that all above leans on.
-/
import Derived.Test.YtnlbekdjepkhcaaGF
set_option linter.unusedSimpArgs false
set_option linter.unusedVariables false
namespace Ram

theorem xt_zero : xt 0 = 0 := by decide
theorem xt_xor_all : (List.range 256).all (fun b => (List.range 256).all fun c => xt (b ^^^ c) == xt b ^^^ xt c) = true := by decide +kernel
theorem xt_xor {b c : Nat} (hb : b < 256) (hc : c < 256) : xt (b ^^^ c) = xt b ^^^ xt c := by
  have := List.all_eq_true.1 (List.all_eq_true.1 xt_xor_all b (List.mem_range.2 hb)) c (List.mem_range.2 hc)
  simpa using this
theorem xor_lt {a b : Nat} (ha : a < 256) (hb : b < 256) : a ^^^ b < 256 := Nat.xor_lt_two_pow (n := 8) ha hb

theorem ite_lt {p : Prop} [Decidable p] {a b n : Nat} (ha : a < n) (hb : b < n) : (if p then a else b) < n := by split <;> assumption
theorem gmk_lt (k a : Nat) {b : Nat} (h : b < 256) : gmk k a b < 256 := by
  induction k generalizing a b with
  | zero => simp [gmk]
  | succ k ih => exact xor_lt (ite_lt h (by decide)) (ih _ (xt_lt h))

theorem gmk_xor_right (k a : Nat) {b c : Nat} (hb : b < 256) (hc : c < 256) : gmk k a (b ^^^ c) = gmk k a b ^^^ gmk k a c := by
  induction k generalizing a b c with
  | zero => simp [gmk]
  | succ k ih =>
    simp only [gmk]
    rw [xt_xor hb hc, ih _ (xt_lt hb) (xt_lt hc)]
    split <;> simp only [Nat.zero_xor, Nat.xor_assoc]
    congr 1
    rw [← Nat.xor_assoc, Nat.xor_comm c, Nat.xor_assoc]

theorem xor_mid (a b c d : Nat) : (a ^^^ b) ^^^ (c ^^^ d) = (a ^^^ c) ^^^ (b ^^^ d) := by
  rw [Nat.xor_assoc, Nat.xor_assoc, ← Nat.xor_assoc b, Nat.xor_comm b, Nat.xor_assoc]

theorem gmk_xor_left (k a c b : Nat) : gmk k (a ^^^ c) b = gmk k a b ^^^ gmk k c b := by
  induction k generalizing a b c with
  | zero => simp [gmk]
  | succ k ih =>
    simp only [gmk]
    rw [Nat.xor_div_two, ih, xor_mid]
    congr 1
    have h := @Nat.xor_mod_two_eq_one a c
    rcases Nat.mod_two_eq_zero_or_one a with ha | ha <;> rcases Nat.mod_two_eq_zero_or_one c with hc | hc <;>
      simp [ha, hc] at h <;> simp [ha, hc, h]

theorem gmk_xt (k a : Nat) {b : Nat} (h : b < 256) : gmk k a (xt b) = xt (gmk k a b) := by
  induction k generalizing a b with
  | zero => rfl
  | succ k ih =>
    simp only [gmk]
    rw [ih _ (xt_lt h), xt_xor (ite_lt h (by decide)) (gmk_lt _ _ (xt_lt h))]
    congr 1
    split <;> simp [xt_zero]

theorem gmk_double (k a b : Nat) : gmk (k + 1) (2 * a) b = gmk k a (xt b) := by
  simp only [gmk]
  rw [if_neg (by omega), show 2 * a / 2 = a from by omega, Nat.zero_xor]

theorem gmk_more (k a b : Nat) (h : a < 2 ^ k) : gmk (k + 1) a b = gmk k a b := by
  induction k generalizing a b with
  | zero =>
    obtain rfl : a = 0 := by simpa using h
    simp [gmk]
  | succ k ih =>
    have e1 : gmk (k + 1 + 1) a b = (if a % 2 = 1 then b else 0) ^^^ gmk (k + 1) (a / 2) (xt b) := rfl
    have e2 : gmk (k + 1) a b = (if a % 2 = 1 then b else 0) ^^^ gmk k (a / 2) (xt b) := rfl
    rw [e1, e2, ih (a / 2) (xt b) (by omega)]

theorem by285_all : (List.range 256).all (fun b => gmk 9 285 b == 0) = true := by decide +kernel
theorem by285 {b : Nat} (h : b < 256) : gmk 9 285 b = 0 := by
  have := List.all_eq_true.1 by285_all b (List.mem_range.2 h)
  simpa using this

theorem gmul_xt_left {a b : Nat} (ha : a < 256) (hb : b < 256) : gmul (xt a) b = xt (gmul a b) := by
  unfold gmul
  rw [← gmk_more 8 (xt a) b (xt_lt ha), ← gmk_xt 8 a hb, ← gmk_double]
  unfold xt
  split
  · rfl
  · rw [gmk_xor_left, by285 hb, Nat.xor_zero]

theorem gmul_one_all : (List.range 256).all (fun b => gmul 1 b == b && (gmul b 1 == b) && (gmul b 0 == 0)) = true := by decide +kernel
theorem one_gmul {b : Nat} (h : b < 256) : gmul 1 b = b := by
  have := List.all_eq_true.1 gmul_one_all b (List.mem_range.2 h); simp at this; exact this.1.1
theorem gmul_one {b : Nat} (h : b < 256) : gmul b 1 = b := by
  have := List.all_eq_true.1 gmul_one_all b (List.mem_range.2 h); simp at this; exact this.1.2
theorem gmul_zero {b : Nat} (h : b < 256) : gmul b 0 = 0 := by
  have := List.all_eq_true.1 gmul_one_all b (List.mem_range.2 h); simp at this; exact this.2
theorem zero_gmul (b : Nat) : gmul 0 b = 0 := gmk_zero 8 b

/-- powers of 2. -/
def ex : Nat → Nat
  | 0 => 1
  | n + 1 => xt (ex n)
theorem ex_lt (n : Nat) : ex n < 256 := by
  induction n with
  | zero => decide
  | succ n ih => exact xt_lt ih
theorem gmul_ex (i j : Nat) : gmul (ex i) (ex j) = ex (i + j) := by
  induction i with
  | zero => rw [Nat.zero_add]; exact one_gmul (ex_lt j)
  | succ i ih => rw [show i + 1 + j = (i + j) + 1 from by omega]; simp only [ex]; rw [gmul_xt_left (ex_lt i) (ex_lt j), ih]
theorem ex_255 : ex 255 = 1 := by decide +kernel
theorem ex_add_255 (n : Nat) : ex (n + 255) = ex n := by
  rw [← gmul_ex, ex_255, gmul_one (ex_lt n)]
theorem ex_mod (n : Nat) : ex (n % 255) = ex n := by
  induction n using Nat.strongRecOn with
  | _ n ih =>
    by_cases h : n < 255
    · rw [Nat.mod_eq_of_lt h]
    · have := ih (n - 255) (by omega)
      rw [show n % 255 = (n - 255) % 255 from by omega, this]
      have := ex_add_255 (n - 255)
      rw [show n - 255 + 255 = n from by omega] at this
      exact this.symm

/-- the powers of 2 in their order. -/
def exs : Nat → Nat → List Nat
  | 0, _ => []
  | k + 1, x => x :: exs k (xt x)
theorem exs_get (k x n : Nat) (h : n < k) : (exs k x)[n]? = some (n.repeat xt x) := by
  induction k generalizing x n with
  | zero => omega
  | succ k ih =>
    cases n with
    | zero => rfl
    | succ n =>
      have e : ∀ m y, Nat.repeat xt m (xt y) = xt (Nat.repeat xt m y) := by
        intro m y
        induction m with
        | zero => rfl
        | succ m ih => simp only [Nat.repeat, ih]
      simp only [exs, List.getElem?_cons_succ]
      rw [ih (xt x) n (by omega), e]
      rfl
theorem ex_repeat (n : Nat) : n.repeat xt 1 = ex n := by
  induction n with
  | zero => rfl
  | succ n ih => simp only [Nat.repeat, ex, ih]
/-- which power of 2 a number is. -/
def lg (a : Nat) : Nat := (exs 255 1).idxOf a
theorem lg_all : (List.range 256).all (fun a => a == 0 || (decide (lg a < 255) && ((exs 255 1)[lg a]? == some a))) = true := by decide +kernel
theorem lg_lt {a : Nat} (h : a < 256) (h0 : a ≠ 0) : lg a < 255 := by
  have := List.all_eq_true.1 lg_all a (List.mem_range.2 h); simp [h0] at this; exact this.1
theorem ex_lg {a : Nat} (h : a < 256) (h0 : a ≠ 0) : ex (lg a) = a := by
  have := List.all_eq_true.1 lg_all a (List.mem_range.2 h)
  simp [h0] at this
  have h2 := exs_get 255 1 (lg a) (lg_lt h h0)
  rw [this.2, ex_repeat] at h2
  exact (Option.some.inj h2).symm
theorem lg_ex_all : (List.range 255).all (fun n => lg ((exs 255 1).getD n 0) == n && ((exs 255 1).getD n 0 != 0)) = true := by decide +kernel
theorem lg_ex {n : Nat} (h : n < 255) : lg (ex n) = n := by
  have := List.all_eq_true.1 lg_ex_all n (List.mem_range.2 h)
  have h2 := exs_get 255 1 n h
  simp [List.getD_eq_getElem?_getD, h2, ex_repeat] at this
  exact this.1
theorem ex_ne0 (n : Nat) : ex n ≠ 0 := by
  rw [← ex_mod]
  have := List.all_eq_true.1 lg_ex_all (n % 255) (List.mem_range.2 (by omega))
  have h2 := exs_get 255 1 (n % 255) (by omega)
  simp [List.getD_eq_getElem?_getD, h2, ex_repeat] at this
  exact this.2
theorem ex_inj {m n : Nat} (hm : m < 255) (hn : n < 255) (h : ex m = ex n) : m = n := by
  rw [← lg_ex hm, ← lg_ex hn, h]
theorem ex_eq_iff {m n : Nat} : ex m = ex n ↔ m % 255 = n % 255 := by
  constructor
  · intro h; rw [← ex_mod m, ← ex_mod n] at h; exact ex_inj (by omega) (by omega) h
  · intro h; rw [← ex_mod m, ← ex_mod n, h]
theorem lg_ex' (n : Nat) : lg (ex n) = n % 255 := by rw [← ex_mod]; exact lg_ex (by omega)

theorem gmul_comm {a b : Nat} (ha : a < 256) (hb : b < 256) : gmul a b = gmul b a := by
  by_cases a0 : a = 0
  · subst a0; rw [zero_gmul, gmul_zero hb]
  by_cases b0 : b = 0
  · subst b0; rw [zero_gmul, gmul_zero ha]
  rw [← ex_lg ha a0, ← ex_lg hb b0, gmul_ex, gmul_ex, Nat.add_comm]
theorem gmul_assoc {a b c : Nat} (ha : a < 256) (hb : b < 256) (hc : c < 256) : gmul (gmul a b) c = gmul a (gmul b c) := by
  by_cases a0 : a = 0
  · subst a0; rw [zero_gmul, zero_gmul, zero_gmul]
  by_cases b0 : b = 0
  · subst b0; rw [zero_gmul, gmul_zero ha, zero_gmul]
  by_cases c0 : c = 0
  · subst c0; rw [gmul_zero hb, gmul_zero ha, gmul_zero (gmul_lt a hb)]
  rw [← ex_lg ha a0, ← ex_lg hb b0, ← ex_lg hc c0, gmul_ex, gmul_ex, gmul_ex, gmul_ex, Nat.add_assoc]
theorem gmul_xor {a b c : Nat} (hb : b < 256) (hc : c < 256) : gmul a (b ^^^ c) = gmul a b ^^^ gmul a c := gmk_xor_right 8 a hb hc
theorem xor_gmul (a b c : Nat) : gmul (a ^^^ b) c = gmul a c ^^^ gmul b c := gmk_xor_left 8 a b c
theorem gmul_eq_zero {a b : Nat} (ha : a < 256) (hb : b < 256) : gmul a b = 0 ↔ a = 0 ∨ b = 0 := by
  constructor
  · intro h
    by_cases a0 : a = 0
    · exact .inl a0
    by_cases b0 : b = 0
    · exact .inr b0
    rw [← ex_lg ha a0, ← ex_lg hb b0, gmul_ex] at h
    exact absurd h (ex_ne0 _)
  · rintro (rfl | rfl)
    · exact zero_gmul b
    · exact gmul_zero ha

/-- a power with a number that is not below nought. -/
def gp (a : Nat) : Nat → Nat
  | 0 => 1
  | n + 1 => gmul (gp a n) a
theorem gp_lt {a : Nat} (h : a < 256) (n : Nat) : gp a n < 256 := by
  cases n with
  | zero => show 1 < 256; decide
  | succ n => exact gmul_lt _ h
theorem gp_ex (i n : Nat) : gp (ex i) n = ex (i * n) := by
  induction n with
  | zero => rfl
  | succ n ih => rw [gp, ih, gmul_ex, Nat.mul_succ]
theorem gp_zero_succ (n : Nat) : gp 0 (n + 1) = 0 := by
  have := gmul_zero (gp_lt (a := 0) (by decide) n); exact this
theorem gp_add {a : Nat} (ha : a < 256) (m n : Nat) : gp a (m + n) = gmul (gp a m) (gp a n) := by
  induction n with
  | zero => exact (gmul_one (gp_lt ha m)).symm
  | succ n ih => rw [← Nat.add_assoc, gp, ih, gp, gmul_assoc (gp_lt ha m) (gp_lt ha n) ha]
theorem gp_one {a : Nat} (ha : a < 256) : gp a 1 = a := one_gmul ha
theorem gp_two {a : Nat} (ha : a < 256) : gp a 2 = gmul a a := by rw [gp, gp_one ha]
theorem gp_mul {a : Nat} (ha : a < 256) (m n : Nat) : gp (gp a m) n = gp a (m * n) := by
  induction n with
  | zero => rfl
  | succ n ih => rw [gp, ih, Nat.mul_succ, gp_add ha]
theorem gp_gmul {a b : Nat} (ha : a < 256) (hb : b < 256) (n : Nat) : gp (gmul a b) n = gmul (gp a n) (gp b n) := by
  induction n with
  | zero => show 1 = gmul 1 1; decide
  | succ n ih =>
    have h1 := gp_lt ha n
    have h2 := gp_lt hb n
    rw [gp, ih, gp, gp, gmul_assoc h1 h2 (gmul_lt _ hb), ← gmul_assoc h2 ha hb, gmul_comm h2 ha, gmul_assoc ha h2 hb, gmul_assoc h1 ha (gmul_lt _ hb)]
theorem gp_255 {a : Nat} (ha : a < 256) (h0 : a ≠ 0) : gp a 255 = 1 := by
  rw [← ex_lg ha h0, gp_ex, ← ex_mod, Nat.mul_mod_left]; rfl
theorem gp_mod {a : Nat} (ha : a < 256) (h0 : a ≠ 0) (n : Nat) : gp a (n % 255) = gp a n := by
  rw [← ex_lg ha h0, gp_ex, gp_ex, ← ex_mod, ← ex_mod (lg a * n)]
  congr 1
  simp [Nat.mul_mod]

/-- the power with any number. -/
def gpow (a : Nat) (n : Int) : Nat := if a = 0 then (if n = 0 then 1 else 0) else gp a (n % 255).toNat
theorem gpow_lt {a : Nat} (h : a < 256) (n : Int) : gpow a n < 256 := by
  unfold gpow
  split
  · exact ite_lt (by decide) (by decide)
  · exact gp_lt h _

end Ram
