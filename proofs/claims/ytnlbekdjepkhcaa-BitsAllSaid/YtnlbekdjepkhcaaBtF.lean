import Derived.Test.YtnlbekdjepkhcaaBt
/-
  Flips and mixes of bits, in plain lists.
-/
set_option linter.unusedSimpArgs false
set_option linter.unusedVariables false
namespace Ram

theorem bitAt_test (l : List Nat) (p : Nat) : bitAt l p = (l.getD (p / 8) 0).testBit (p % 8) := by
  unfold bitAt
  rw [Nat.testBit_eq_decide_div_mod_eq]
  exact (Bool.beq_eq_decide_eq _ _)

def Bytes (a : List Nat) : Prop := ∀ x ∈ a, x < 256
theorem bytes_ext {a b : List Nat} (ha : Bytes a) (hb : Bytes b) (hl : a.length = b.length) (h : ∀ q, q < 8 * a.length → bitAt a q = bitAt b q) : a = b := by
  apply List.ext_getElem hl
  intro i h1 h2
  apply Nat.eq_of_testBit_eq
  intro j
  by_cases hj : j < 8
  · have := h (8 * i + j) (by omega)
    rw [bitAt_test, bitAt_test, show (8 * i + j) / 8 = i from by omega, show (8 * i + j) % 8 = j from by omega] at this
    simpa [List.getD_eq_getElem?_getD, h1, h2] using this
  · have g1 := ha _ (List.getElem_mem h1)
    have g2 := hb _ (List.getElem_mem h2)
    have hp : 256 ≤ 2 ^ j := Nat.pow_le_pow_right (n := 2) (i := 8) (by decide) (by omega)
    rw [Nat.testBit_lt_two_pow (Nat.lt_of_lt_of_le g1 hp), Nat.testBit_lt_two_pow (Nat.lt_of_lt_of_le g2 hp)]

def inR (a : List Nat) (p : Int) : Bool := decide (0 ≤ p) && decide (p < 8 * (a.length : Int))
def flip1 (a : List Nat) (p : Int) : List Nat := if inR a p then a.set (p.toNat / 8) (a.getD (p.toNat / 8) 0 ^^^ 2 ^ (p.toNat % 8)) else a
def flips (a : List Nat) (l : List Int) : List Nat := l.foldl flip1 a
theorem flip1_length (a : List Nat) (p : Int) : (flip1 a p).length = a.length := by unfold flip1; split <;> simp
theorem flips_length (l : List Int) : ∀ a : List Nat, (flips a l).length = a.length := by
  induction l with
  | nil => intro a; rfl
  | cons p r ih => intro a; exact (ih _).trans (flip1_length a p)
theorem flip1_bytes {a : List Nat} (h : Bytes a) (p : Int) : Bytes (flip1 a p) := by
  unfold flip1
  split
  · intro x hx
    rcases List.mem_or_eq_of_mem_set hx with hx | rfl
    · exact h x hx
    · have h1 := getD_mem_lt h (by decide) (p.toNat / 8)
      have h2 : 2 ^ (p.toNat % 8) < 2 ^ 8 := Nat.pow_lt_pow_right (by decide) (Nat.mod_lt _ (by decide))
      exact Nat.xor_lt_two_pow (n := 8) h1 h2
  · exact h
theorem flips_bytes (l : List Int) : ∀ {a : List Nat}, Bytes a → Bytes (flips a l) := by
  induction l with
  | nil => intro a h; exact h
  | cons p r ih => intro a h; exact ih (flip1_bytes h p)
theorem bit_flip1 (a : List Nat) (p : Int) (q : Nat) : bitAt (flip1 a p) q = (bitAt a q ^^ (inR a p && decide ((q : Int) = p))) := by
  unfold flip1
  cases hr : inR a p with
  | false => simp
  | true =>
    rw [if_pos rfl, Bool.true_and]
    unfold inR at hr
    simp only [Bool.and_eq_true, decide_eq_true_eq] at hr
    obtain ⟨k, rfl⟩ : ∃ k : Nat, p = k := ⟨p.toNat, by omega⟩
    simp only [Int.toNat_natCast]
    have hk : k / 8 < a.length := by omega
    rw [bitAt_test, bitAt_test]
    by_cases e : q / 8 = k / 8
    · rw [e]
      have : (a.set (k / 8) (a.getD (k / 8) 0 ^^^ 2 ^ (k % 8))).getD (k / 8) 0 = a.getD (k / 8) 0 ^^^ 2 ^ (k % 8) := by
        rw [List.getD_eq_getElem?_getD, List.getElem?_set_self hk]; rfl
      rw [this, Nat.testBit_xor, Nat.testBit_two_pow]
      congr 1
      rw [decide_eq_decide]
      omega
    · have : (a.set (k / 8) (a.getD (k / 8) 0 ^^^ 2 ^ (k % 8))).getD (q / 8) 0 = a.getD (q / 8) 0 := by
        rw [List.getD_eq_getElem?_getD, List.getElem?_set_ne (fun h => e h.symm), ← List.getD_eq_getElem?_getD]
      rw [this]
      rw [show decide ((q : Int) = (k : Int)) = false from decide_eq_false (fun h => e (by omega))]
      simp
theorem inR_flip1 (a : List Nat) (p x : Int) : inR (flip1 a p) x = inR a x := by unfold inR; rw [flip1_length]
theorem inR_flips (l : List Int) (x : Int) : ∀ a, inR (flips a l) x = inR a x := by intro a; unfold inR; rw [flips_length]
/-- how often q stands in l, odd or not. -/
def par (l : List Int) (q : Int) : Bool := l.foldr (fun x b => decide (q = x) ^^ b) false
theorem bit_flips (l : List Int) : ∀ (a : List Nat) (q : Nat), q < 8 * a.length → bitAt (flips a l) q = (bitAt a q ^^ par l q) := by
  induction l with
  | nil => intro a q _; simp [flips, par]
  | cons p r ih =>
    intro a q hq
    show bitAt (flips (flip1 a p) r) q = _
    rw [ih (flip1 a p) q (by rw [flip1_length]; exact hq), bit_flip1]
    show _ = (bitAt a q ^^ (decide ((q : Int) = p) ^^ par r q))
    have : (inR a p && decide ((q : Int) = p)) = decide ((q : Int) = p) := by
      by_cases e : (q : Int) = p
      · have h1 : inR a p = true := by unfold inR; simp; omega
        rw [h1]; simp
      · simp [e]
    rw [this, Bool.xor_assoc]
theorem par_append (l m : List Int) (q : Int) : par (l ++ m) q = (par l q ^^ par m q) := by
  induction l with
  | nil => simp [par]
  | cons x r ih =>
    show (decide (q = x) ^^ par (r ++ m) q) = ((decide (q = x) ^^ par r q) ^^ par m q)
    rw [ih, Bool.xor_assoc]
theorem par_perm {l m : List Int} (h : l.Perm m) (q : Int) : par l q = par m q := by
  induction h with
  | nil => rfl
  | cons x _ ih => exact congrArg (decide (q = x) ^^ ·) ih
  | swap x y l => show (_ ^^ (_ ^^ _)) = (_ ^^ (_ ^^ _)); rw [← Bool.xor_assoc, ← Bool.xor_assoc, Bool.xor_comm (decide (q = y))]
  | trans _ _ h1 h2 => exact h1.trans h2
theorem par_out {l : List Int} {q : Int} (h : q ∉ l) : par l q = false := by
  induction l with
  | nil => rfl
  | cons x r ih =>
    rw [List.mem_cons, not_or] at h
    show (decide (q = x) ^^ par r q) = false
    rw [ih h.2, decide_eq_false h.1]; rfl
theorem par_nodup {l : List Int} (hn : l.Nodup) (q : Int) : par l q = decide (q ∈ l) := by
  induction l with
  | nil => simp [par]
  | cons x r ih =>
    rw [List.nodup_cons] at hn
    show (decide (q = x) ^^ par r q) = _
    by_cases e : q = x
    · subst e
      rw [par_out hn.1]; simp
    · rw [ih hn.2]; simp [e]
theorem flips_same {a : List Nat} (ha : Bytes a) {l m : List Int} (h : ∀ q : Nat, q < 8 * a.length → par l q = par m q) : flips a l = flips a m := by
  refine bytes_ext (flips_bytes l ha) (flips_bytes m ha) (by rw [flips_length, flips_length]) (fun q hq => ?_)
  rw [flips_length] at hq
  rw [bit_flips l a q hq, bit_flips m a q hq, h q hq]
theorem flips_none {a : List Nat} (ha : Bytes a) {l : List Int} (h : ∀ q : Nat, q < 8 * a.length → par l q = false) : flips a l = a := flips_same (m := []) ha h
theorem flips_append (l m : List Int) (a : List Nat) : flips a (l ++ m) = flips (flips a l) m := by unfold flips; rw [List.foldl_append]

/-! Apart. -/
theorem xorL_length {a b : List Nat} (h : a.length = b.length) : (xorL a b).length = a.length := by simp [xorL, h]
theorem bit_xorL {a b : List Nat} (h : a.length = b.length) (q : Nat) : bitAt (xorL a b) q = (bitAt a q ^^ bitAt b q) := by
  rw [bitAt_test, bitAt_test, bitAt_test, ← Nat.testBit_xor]
  congr 1
  unfold xorL
  rw [List.getD_eq_getElem?_getD, List.getD_eq_getElem?_getD, List.getD_eq_getElem?_getD, List.getElem?_zipWith]
  by_cases hq : q / 8 < a.length
  · rw [List.getElem?_eq_getElem hq, List.getElem?_eq_getElem (h ▸ hq)]; rfl
  · rw [List.getElem?_eq_none (by omega), List.getElem?_eq_none (by omega)]; rfl
theorem onesTo_nodup (l : List Nat) (n : Nat) : (onesTo l n).Nodup := (List.filter_sublist (p := bitAt l) (l := List.range n)).nodup List.nodup_range
theorem int_nodup {l : List Nat} (h : l.Nodup) : (int l).Nodup := by
  unfold int
  rw [List.Nodup, List.pairwise_map]
  exact h.imp (fun hne he => hne (Int.ofNat.inj he))
theorem mem_int {l : List Nat} {q : Nat} : ((q : Int) ∈ int l) ↔ q ∈ l := by
  unfold int
  constructor
  · intro h
    obtain ⟨x, hx, e⟩ := List.mem_map.1 h
    have : x = q := Int.ofNat.inj e
    exact this ▸ hx
  · exact fun h => List.mem_map.2 ⟨q, h, rfl⟩
def apartL (a b : List Nat) : List Int := int (onesL (xorL a b))
theorem par_apart {a b : List Nat} (h : a.length = b.length) (q : Nat) (hq : q < 8 * a.length) : par (apartL a b) q = (bitAt a q ^^ bitAt b q) := by
  unfold apartL
  rw [par_nodup (int_nodup (show (onesL (xorL a b)).Nodup from onesTo_nodup _ _)), decide_eq_decide.2 mem_int, ← bit_xorL h]
  cases hb : bitAt (xorL a b) q
  · exact decide_eq_false (fun hm => by have := ((mem_onesL _ _).1 hm).2; rw [hb] at this; cases this)
  · exact decide_eq_true ((mem_onesL _ _).2 ⟨by rw [xorL_length h]; exact hq, hb⟩)
theorem turn_apart {a b : List Nat} (ha : Bytes a) (hb : Bytes b) (h : a.length = b.length) : flips a (apartL a b) = b := by
  refine bytes_ext (flips_bytes _ ha) hb (by rw [flips_length, h]) (fun q hq => ?_)
  rw [flips_length] at hq
  rw [bit_flips _ a q hq, par_apart h q hq, ← Bool.xor_assoc, Bool.xor_self, Bool.false_xor]
theorem apart_self (a : List Nat) : apartL a a = [] := by
  unfold apartL
  have : onesL (xorL a a) = [] := by
    apply List.eq_nil_iff_forall_not_mem.2
    intro q hq
    have h1 := ((mem_onesL _ _).1 hq).2
    rw [bit_xorL rfl, Bool.xor_self] at h1
    cases h1
  rw [this]; rfl

/-! Counting. -/
theorem count_toggle (f : Nat → Bool) (p : Nat) : ∀ n : Nat, p < n → (((List.range n).filter (fun q => f q ^^ decide (q = p))).length : Int) = ((List.range n).filter f).length + (if f p then -1 else 1) := by
  intro n
  induction n with
  | zero => intro h; omega
  | succ n ih =>
    intro h
    rw [List.range_succ, List.filter_append, List.filter_append, List.length_append, List.length_append]
    by_cases e : p = n
    · subst e
      have h1 : (List.range p).filter (fun q => f q ^^ decide (q = p)) = (List.range p).filter f := by
        refine List.filter_congr (fun q hq => ?_)
        have : q ≠ p := by have := List.mem_range.1 hq; omega
        simp [this]
      rw [h1]
      cases hf : f p <;> simp [List.filter, hf]
      omega
    · have h2 := ih (by omega)
      have h3 : (List.filter (fun q => f q ^^ decide (q = p)) [n]) = List.filter f [n] := by
        simp [List.filter, show ¬ n = p from fun x => e x.symm]
      rw [h3]
      omega
theorem ones_flip1 {a : List Nat} (p : Nat) (hp : p < 8 * a.length) : ((onesL (flip1 a p)).length : Int) = (onesL a).length + (if bitAt a p then -1 else 1) := by
  unfold onesL onesTo
  rw [flip1_length]
  have h : (fun q => bitAt (flip1 a p) q) = fun q => (bitAt a q ^^ decide (q = p)) := by
    funext q
    rw [bit_flip1]
    have : inR a (p : Int) = true := by unfold inR; simp; omega
    rw [this, Bool.true_and]
    congr 1
    rw [decide_eq_decide]; omega
  show ((List.filter (fun q => bitAt (flip1 a p) q) _).length : Int) = _
  rw [h, count_toggle (bitAt a) p _ hp]
theorem onesL_zero (n : Nat) : onesL (List.replicate n 0) = [] := by
  apply List.eq_nil_iff_forall_not_mem.2
  intro q hq
  have h1 := ((mem_onesL _ _).1 hq).2
  rw [bitAt_test] at h1
  have : (List.replicate n 0).getD (q / 8) 0 = 0 := by
    rw [List.getD_eq_getElem?_getD, List.getElem?_replicate]; split <;> rfl
  rw [this, Nat.zero_testBit] at h1
  cases h1

/-! Mix. -/
def mixB (x y m : Nat) : Nat := (x &&& (255 - m)) ||| (y &&& m)
def mixL (a b m : List Nat) : List Nat := if a.length = b.length then (if m.length = 0 then a else (List.range a.length).map fun i => mixB (a.getD i 0) (b.getD i 0) (m.getD (i % m.length) 0)) else []
theorem not_bit : ∀ m < 256, ∀ i < 8, (255 - m).testBit i = !m.testBit i := by decide +kernel
theorem mixB_lt {x y m : Nat} (hx : x < 256) (hy : y < 256) : mixB x y m < 256 := Nat.or_lt_two_pow (n := 8) (Nat.lt_of_le_of_lt Nat.and_le_left hx) (Nat.lt_of_le_of_lt Nat.and_le_left hy)
theorem bit_mixB {x y m i : Nat} (hm : m < 256) (hi : i < 8) : (mixB x y m).testBit i = if m.testBit i then y.testBit i else x.testBit i := by
  unfold mixB
  rw [Nat.testBit_or, Nat.testBit_and, Nat.testBit_and, not_bit m hm i hi]
  cases m.testBit i <;> simp
theorem mixL_length {a b : List Nat} (m : List Nat) (h : a.length = b.length) : (mixL a b m).length = a.length := by
  unfold mixL; rw [if_pos h]; split <;> simp
theorem mixL_bytes {a b : List Nat} (m : List Nat) (ha : Bytes a) (hb : Bytes b) : Bytes (mixL a b m) := by
  unfold mixL
  split
  · split
    · exact ha
    · intro x hx
      obtain ⟨i, _, rfl⟩ := List.mem_map.1 hx
      exact mixB_lt (getD_mem_lt ha (by decide) i) (getD_mem_lt hb (by decide) i)
  · intro x hx; cases hx
/-- the mask's bit at q. -/
def maskAt (m : List Nat) (q : Nat) : Bool := if m.length = 0 then false else (m.getD (q / 8 % m.length) 0).testBit (q % 8)
theorem bit_mixL {a b m : List Nat} (hm : Bytes m) (h : a.length = b.length) (q : Nat) (hq : q < 8 * a.length) : bitAt (mixL a b m) q = if maskAt m q then bitAt b q else bitAt a q := by
  unfold mixL maskAt
  rw [if_pos h]
  by_cases h0 : m.length = 0
  · rw [if_pos h0, if_pos h0]; rfl
  · rw [if_neg h0, if_neg h0, bitAt_test, bitAt_test, bitAt_test]
    have : ((List.range a.length).map fun i => mixB (a.getD i 0) (b.getD i 0) (m.getD (i % m.length) 0)).getD (q / 8) 0 = mixB (a.getD (q / 8) 0) (b.getD (q / 8) 0) (m.getD (q / 8 % m.length) 0) := by
      rw [List.getD_eq_getElem?_getD, List.getElem?_map, List.getElem?_range (by omega)]; rfl
    rw [this, bit_mixB (getD_mem_lt hm (by decide) _) (by omega)]
theorem maskAt_one (m q : Nat) : maskAt [m] q = m.testBit (q % 8) := by
  unfold maskAt
  rw [if_neg (by simp), show q / 8 % [m].length = 0 from by simp [Nat.mod_one]]
  rfl
end Ram
