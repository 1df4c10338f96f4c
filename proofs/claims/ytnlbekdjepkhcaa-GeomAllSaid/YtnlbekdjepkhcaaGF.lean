/-
  The field of 256 as plain numbers: doubling, product, the list of a number's bits each with its doubled partner.
-/
namespace Ram

/-- twice a byte. -/
def xt (b : Nat) : Nat := if b < 128 then 2 * b else (2 * b) ^^^ 285
def gmk : Nat → Nat → Nat → Nat
  | 0, _, _ => 0
  | k + 1, a, b => (if a % 2 = 1 then b else 0) ^^^ gmk k (a / 2) (xt b)
/-- the product. -/
def gmul (a b : Nat) : Nat := gmk 8 a b

def bitsK : Nat → Nat → Nat → List (Bool × Nat)
  | 0, _, _ => []
  | k + 1, a, b => if a = 0 then [] else (a % 2 == 1, b) :: bitsK k (a / 2) (xt b)
/-- what the iterator gives. -/
def bitsL (a b : Nat) : List (Bool × Nat) := bitsK 8 a b
/-- what is added up of them. -/
def sumL : List (Bool × Nat) → Nat
  | [] => 0
  | x :: l => (if x.1 then x.2 else 0) ^^^ sumL l

theorem xt_all : (List.range 256).all (fun b => decide (xt b < 256) && (xt b == if 128 ≤ b then (b * 2 % 256) ^^^ 29 else b * 2 % 256)) = true := by decide +kernel
theorem xt_lt {b : Nat} (h : b < 256) : xt b < 256 := by
  have := List.all_eq_true.1 xt_all b (List.mem_range.2 h); simp at this; exact this.1
theorem xt_eq {b : Nat} (h : b < 256) : xt b = if 128 ≤ b then (b * 2 % 256) ^^^ 29 else b * 2 % 256 := by
  have := List.all_eq_true.1 xt_all b (List.mem_range.2 h); simp only [Bool.and_eq_true, beq_iff_eq] at this; exact this.2

theorem sumL_append (l m : List (Bool × Nat)) : sumL (l ++ m) = sumL l ^^^ sumL m := by
  induction l with
  | nil => simp [sumL]
  | cons x l ih => simp [sumL, ih, Nat.xor_assoc]

theorem gmk_zero (k b : Nat) : gmk k 0 b = 0 := by
  induction k generalizing b with
  | zero => rfl
  | succ k ih => simp [gmk, ih]
theorem sum_bits (k a b : Nat) : sumL (bitsK k a b) = gmk k a b := by
  induction k generalizing a b with
  | zero => rfl
  | succ k ih =>
    unfold bitsK
    split
    · rename_i h; subst h; rw [gmk_zero]; rfl
    · simp [sumL, gmk, ih]
theorem sum_bitsL (a b : Nat) : sumL (bitsL a b) = gmul a b := sum_bits 8 a b

theorem sumL_lt (l : List (Bool × Nat)) (h : ∀ x ∈ l, x.2 < 256) : sumL l < 256 := by
  induction l with
  | nil => simp [sumL]
  | cons x l ih =>
    unfold sumL
    refine Nat.xor_lt_two_pow (n := 8) ?_ (ih fun y hy => h y (List.mem_cons_of_mem _ hy))
    split
    · exact h x (List.mem_cons_self ..)
    · decide
theorem bitsK_lt (k a b : Nat) (h : b < 256) : ∀ x ∈ bitsK k a b, x.2 < 256 := by
  induction k generalizing a b with
  | zero => simp [bitsK]
  | succ k ih =>
    unfold bitsK
    split
    · simp
    · intro x hx
      rcases List.mem_cons.1 hx with e | hx
      · rw [e]; exact h
      · exact ih _ _ (xt_lt h) x hx
theorem gmul_lt (a : Nat) {b : Nat} (h : b < 256) : gmul a b < 256 := by
  rw [← sum_bitsL]; exact sumL_lt _ (bitsK_lt 8 a b h)

end Ram
