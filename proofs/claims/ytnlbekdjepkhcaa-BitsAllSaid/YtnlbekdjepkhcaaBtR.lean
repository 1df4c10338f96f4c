import Derived.Test.YtnlbekdjepkhcaaBtC
/-
  The document's bits (ramekinref6), as printed, in the lists of Bt, BtF.
-/
set_option linter.unusedSimpArgs false
set_option linter.unusedVariables false
namespace Go.Proofs.YtnlbekdjepkhcaaBM
open Go.RowKit Go.Proofs.Ytnlbekdjepkhcaa.QG Go.Proofs.YtnlbekdjepkhcaaW.PrintWords Go.Proofs.YtnlbekdjepkhcaaW.PrintLast Go.Proofs.YtnlbekdjepkhcaaW.PrintMore Go.Proofs.YtnlbekdjepkhcaaG Ram

theorem div8 (k : Nat) (h : k < 1000) : wrap64 (Int.tdiv (k : Int) 8) = ((k / 8 : Nat) : Int) := by
  rw [Int.tdiv_eq_ediv_of_nonneg (by omega), w64 (by omega) (by omega)]; omega
theorem mod8 (k : Nat) : IntKind.u64.wrap (Int.tmod (k : Int) 8) = ((k % 8 : Nat) : Int) := by
  rw [Int.tmod_eq_emod_of_nonneg (by omega), IntKind.wrap_u64]; omega
theorem step64 (k : Nat) (h : k < 9000000000000000000) : wrap64 ((k : Int) + 1) = ((k + 1 : Nat) : Int) := by rw [w64 (by omega) (by omega)]; omega
theorem mul8 (n : Nat) (h : n < 1000000000000) : wrap64 (8 * (n : Int)) = ((8 * n : Nat) : Int) := by rw [w64 (by omega) (by omega)]; omega
theorem and_i64_1 : ∀ y < 256, Go.bits .and .i64 ((y : Nat) : Int) 1 = ((y % 2 : Nat) : Int) := by decide +kernel
theorem ref_bit {a : List Nat} (ha : Bytes a) (p : Nat) (hp : p < 8 * a.length) (hl : a.length < 100) : ramekinref6_bit.f (int a) (p : Int) = some (if bitAt a p then 1 else 0) := by
  have h8 : min ((p % 8 : Nat) : Int).toNat IntKind.u8.bits = p % 8 := by
    rw [Int.toNat_natCast]; exact Nat.min_eq_left (Nat.le_of_lt (Nat.mod_lt _ (by decide)))
  have h1 : shr .u8 ((a.getD (p / 8) 0 : Nat) : Int) ((p % 8 : Nat) : Int) = ((a.getD (p / 8) 0 / 2 ^ (p % 8) : Nat) : Int) := by
    unfold shr
    rw [h8]
    exact (Int.natCast_ediv _ _).symm
  have h2 := getD_mem_lt ha (by decide) (p / 8)
  have h3 : a.getD (p / 8) 0 / 2 ^ (p % 8) < 256 := Nat.lt_of_le_of_lt (Nat.div_le_self _ _) h2
  unfold ramekinref6_bit.f
  rw [div8 p (by omega), mod8, if_pos (Int.natCast_nonneg _), if_pos (by rw [int_length]; omega), if_pos (Int.natCast_nonneg _), rd_int, h1]
  unfold bitAt
  generalize a.getD (p / 8) 0 / 2 ^ (p % 8) = y at h3 ⊢
  rw [w64 (by omega) (by omega), and_i64_1 _ h3]
  congr 1
  by_cases h : y % 2 = 1
  · rw [h]; rfl
  · have h0 : y % 2 = 0 := by omega
    rw [h0]; rfl
theorem ref_ones_l0 {a : List Nat} (ha : Bytes a) (hl : a.length < 100) : ∀ (j k K : Nat), k + j = 8 * a.length → j < K → ramekinref6_Ones.l0 K (int a) ((onesTo a k).length : Int) (k : Int) = some ((onesL a).length : Int) := by
  intro j
  induction j with
  | zero =>
    intro k K hk hK
    obtain ⟨K, rfl⟩ : ∃ K', K = K' + 1 := ⟨K - 1, by omega⟩
    unfold ramekinref6_Ones.l0
    obtain rfl : k = 8 * a.length := by omega
    rw [int_length, mul8 _ (by omega), if_neg (Int.lt_irrefl _)]; rfl
  | succ j ih =>
    intro k K hk hK
    obtain ⟨K, rfl⟩ : ∃ K', K = K' + 1 := ⟨K - 1, by omega⟩
    have hk2 : k < 8 * a.length := by omega
    have hnext := ih (k + 1) K (by omega) (by omega)
    have hs := step64 k (by omega)
    have hol := onesTo_length a k
    have h1 : wrap64 (((onesTo a k).length : Int) + 1) = (((onesTo a k).length + 1 : Nat) : Int) := step64 _ (by omega)
    have h0 : wrap64 (((onesTo a k).length : Int) + 0) = ((onesTo a k).length : Int) := by rw [Int.add_zero]; exact w64 (by omega) (by omega)
    unfold ramekinref6_Ones.l0
    rw [int_length, mul8 _ (by omega), if_pos (Int.ofNat_lt.2 hk2), ref_bit ha k hk2 hl, Option.bind_some, hs]
    rw [onesTo_succ] at hnext
    cases hb : bitAt a k with
    | true =>
      rw [hb, if_pos rfl, List.length_append, List.length_singleton] at hnext
      rw [if_pos rfl, h1]; exact hnext
    | false =>
      rw [hb, if_neg (by decide), List.append_nil] at hnext
      rw [if_neg (by decide), h0]; exact hnext
theorem ref_ones_f {a : List Nat} (ha : Bytes a) (hl : a.length < 100) : ramekinref6_Ones.f (8 * a.length + 1) (int a) = some ((onesL a).length : Int) := by
  unfold ramekinref6_Ones.f
  exact ref_ones_l0 ha hl (8 * a.length) 0 _ (by omega) (by omega)

theorem ref_apart_l0 {a b : List Nat} (ha : Bytes a) (hb : Bytes b) (hab : a.length = b.length) (hl : a.length < 100) : ∀ (j k K : Nat), k + j = 8 * a.length → j < K →
    ramekinref6_Apart.l0 K (int a) (int b) (int (onesTo (xorL a b) k)) (k : Int) = some (apartL a b) := by
  have hxl := xorL_length hab
  intro j
  induction j with
  | zero =>
    intro k K hk hK
    obtain ⟨K, rfl⟩ : ∃ K', K = K' + 1 := ⟨K - 1, by omega⟩
    unfold ramekinref6_Apart.l0
    obtain rfl : k = 8 * a.length := by omega
    rw [int_length, mul8 _ (by omega), if_neg (Int.lt_irrefl _)]
    unfold apartL onesL
    rw [hxl]
  | succ j ih =>
    intro k K hk hK
    obtain ⟨K, rfl⟩ : ∃ K', K = K' + 1 := ⟨K - 1, by omega⟩
    have hk2 : k < 8 * a.length := by omega
    have hk3 : k < 8 * b.length := by omega
    have hnext := ih (k + 1) K (by omega) (by omega)
    have hs := step64 k (by omega)
    have hol := onesTo_length (xorL a b) k
    have hlen : (onesTo (xorL a b) k).length < 17592186044416 := by omega
    have hbit := bit_xorL hab k
    unfold ramekinref6_Apart.l0
    rw [int_length, mul8 _ (by omega), if_pos (Int.ofNat_lt.2 hk2), ref_bit ha k hk2 hl, Option.bind_some, ref_bit hb k hk3 (by omega), Option.bind_some, hs]
    rw [onesTo_succ, hbit] at hnext
    have happ : int (onesTo (xorL a b) k) ++ [(k : Int)] = int (onesTo (xorL a b) k ++ [k]) := by unfold int; rw [List.map_append]; rfl
    cases h1 : bitAt a k <;> cases h2 : bitAt b k <;> rw [h1, h2] at hnext <;> simp only [Bool.xor_self, Bool.false_eq_true, if_false, List.append_nil, if_true, Bool.xor_false, Bool.false_xor, Bool.true_xor, Bool.not_false, Bool.xor_true] at hnext ⊢
    · exact hnext
    · rw [if_neg (by decide), if_pos (by rw [int_length]; exact hlen), happ]; exact hnext
    · rw [if_neg (by decide), if_pos (by rw [int_length]; exact hlen), happ]; exact hnext
    · exact hnext
theorem ref_apart_f {a b : List Nat} (ha : Bytes a) (hb : Bytes b) (hl : a.length < 100) : ramekinref6_Apart.f (8 * a.length + 1) (int a) (int b) = some (if a.length = b.length then apartL a b else []) := by
  unfold ramekinref6_Apart.f
  rw [int_length, int_length]
  by_cases h : a.length = b.length
  · rw [if_pos (by omega), if_pos h]
    exact ref_apart_l0 ha hb h hl (8 * a.length) 0 _ (by omega) (by omega)
  · rw [if_neg (by omega), if_neg h]

theorem ref_flip_l0 {b : List Nat} (hbl : b.length < 100) (l : List Int) (hl : l.length < 9000000000000000000) (hr : ∀ x ∈ l, -9223372036854775808 ≤ x ∧ x ≤ 9223372036854775807) : ∀ (j i k : Nat) (a : List Nat), i + j = l.length → j < k → Bytes a → a.length = b.length → ramekinref6_Flip.l0 k (int b) l (int a) (i : Int) = some (int (flips a (l.drop i))) := by
  intro j
  induction j with
  | zero =>
    intro i k a hij hk ha hn
    obtain ⟨k, rfl⟩ : ∃ k', k = k' + 1 := ⟨k - 1, by omega⟩
    unfold ramekinref6_Flip.l0
    rw [if_neg (by omega), List.drop_of_length_le (by omega)]; rfl
  | succ j ih =>
    intro i k a hij hk ha hn
    obtain ⟨k, rfl⟩ : ∃ k', k = k' + 1 := ⟨k - 1, by omega⟩
    unfold ramekinref6_Flip.l0
    have hi : i < l.length := by omega
    have hrd : rd l (i : Int) = l[i] := by unfold rd; rw [Int.toNat_natCast, List.getD_eq_getElem?_getD, List.getElem?_eq_getElem hi]; rfl
    have hdrop : flips a (l.drop i) = flips (flip1 a l[i]) (l.drop (i + 1)) := by rw [List.drop_eq_getElem_cons hi]; rfl
    have hx := hr _ (List.getElem_mem hi)
    rw [if_pos (by omega), if_pos (by omega), hrd, step64 i (by omega), hdrop]
    have hnext := fun c (hc : Bytes c) (hcl : c.length = b.length) => ih (i + 1) k c (by omega) (by omega) hc hcl
    have hf1 := flip1_bytes ha l[i]
    have hf2 := flip1_length a l[i]
    generalize l[i] = x at *
    by_cases h0 : x ≥ 0
    · rw [if_pos h0]
      obtain ⟨p, rfl⟩ : ∃ p : Nat, x = p := ⟨x.toNat, by omega⟩
      have hd : wrap64 (Int.tdiv (p : Int) 8) = ((p / 8 : Nat) : Int) := by
        rw [Int.tdiv_eq_ediv_of_nonneg (by omega), w64 (by omega) (by omega)]; omega
      rw [hd, int_length]
      by_cases h1 : p / 8 < b.length
      · rw [if_pos (Int.ofNat_lt.2 h1), if_pos (Int.natCast_nonneg _), int_length, if_pos (Int.ofNat_lt.2 (hn ▸ h1)), mod8, if_pos (Int.natCast_nonneg _), rd_int, Int.toNat_natCast, shl_u8 _ (Nat.mod_lt _ (by decide)),
          xor_u8 (getD_mem_lt ha (by decide) _) (show 2 ^ (p % 8) < 2 ^ 8 from Nat.pow_lt_pow_right (by decide) (Nat.mod_lt _ (by decide))), set_int]
        have hfl : flip1 a (p : Int) = a.set (p / 8) (a.getD (p / 8) 0 ^^^ 2 ^ (p % 8)) := by
          unfold flip1
          rw [if_pos (by unfold inR; simp; omega), Int.toNat_natCast]
        rw [← hfl]
        exact hnext _ hf1 (hf2.trans hn)
      · rw [if_neg (fun h => h1 (Int.ofNat_lt.1 h))]
        have hfl : flip1 a (p : Int) = a := by unfold flip1; rw [if_neg (by unfold inR; simp; omega)]
        rw [hfl]
        exact hnext _ ha hn
    · rw [if_neg h0]
      have hfl : flip1 a x = a := by unfold flip1; rw [if_neg (by unfold inR; simp; omega)]
      rw [hfl]
      exact hnext _ ha hn
theorem ref_flip_f {a : List Nat} (ha : Bytes a) (hl : a.length < 100) (l : List Int) (hll : l.length < 9000000000000000000) (hr : ∀ x ∈ l, -9223372036854775808 ≤ x ∧ x ≤ 9223372036854775807) : ramekinref6_Flip.f (l.length + 1) (int a) l = some (int (flips a l)) := by
  unfold ramekinref6_Flip.f
  rw [Option.bind_some, if_pos (by rw [int_length]; simp; omega), List.nil_append]
  exact ref_flip_l0 hl l hll hr l.length 0 _ a (by omega) (by omega) ha rfl

theorem ref_mix_l0 (a b m : List Nat) (ha : Bytes a) (hb : Bytes b) (hm : Bytes m) (h : a.length = b.length) (hn : a.length < 1000000000000) (hm0 : m.length ≠ 0) :
    ∀ (j i k : Nat), i + j = a.length → j < k → ramekinref6_Mix.l0 k (int a) (int b) (int m) (int (mixTo a b m i)) (i : Int) = some (int (mixL a b m)) := by
  intro j
  induction j with
  | zero =>
    intro i k hij hk
    obtain ⟨k, rfl⟩ : ∃ k', k = k' + 1 := ⟨k - 1, by omega⟩
    obtain rfl : i = a.length := by omega
    unfold ramekinref6_Mix.l0
    rw [int_length, mixTo_length, if_neg (Int.lt_irrefl _), mixTo_all a b m h hm0]
  | succ j ih =>
    intro i k hij hk
    obtain ⟨k, rfl⟩ : ∃ k', k = k' + 1 := ⟨k - 1, by omega⟩
    have hi : i < a.length := by omega
    have hib : i < b.length := by omega
    have hmod : Int.tmod (i : Int) (m.length : Int) = ((i % m.length : Nat) : Int) := by rw [Int.tmod_eq_emod_of_nonneg (by omega)]; exact (Int.natCast_emod _ _).symm
    have hlt : i % m.length < m.length := Nat.mod_lt _ (by omega)
    have hnext := ih (i + 1) k (by omega) (by omega)
    have g1 := getD_mem_lt ha (by decide) i
    have g2 := getD_mem_lt hb (by decide) i
    have g3 := getD_mem_lt hm (by decide) (i % m.length)
    unfold ramekinref6_Mix.l0
    rw [int_length, mixTo_length, if_pos (Int.ofNat_lt.2 hi), int_length, if_pos (by omega), if_neg (by omega), hmod, if_pos (Int.natCast_nonneg _), if_pos (Int.ofNat_lt.2 hlt), if_pos (Int.natCast_nonneg _), int_length, int_length, if_pos (Int.ofNat_lt.2 hi), if_pos (Int.ofNat_lt.2 hib),
      rd_int, rd_int, rd_int, andNot_u8 g1 g3, and_u8 g2 g3, or_u8 (Nat.lt_of_le_of_lt Nat.and_le_left g1) (Nat.lt_of_le_of_lt Nat.and_le_left g2), Int.toNat_natCast, set_int, step64 i (by omega)]
    rw [mixTo_succ a b m i hi] at hnext
    exact hnext
theorem ref_mix_f {a b m : List Nat} (ha : Bytes a) (hb : Bytes b) (hm : Bytes m) (hn : a.length < 100) : ramekinref6_Mix.f (a.length + 1) (int a) (int b) (int m) = some (int (mixL a b m)) := by
  unfold ramekinref6_Mix.f
  rw [int_length, int_length]
  by_cases h : a.length = b.length
  · rw [if_pos (by omega), Option.bind_some, if_pos (by simp; omega), List.nil_append]
    by_cases hm0 : m.length = 0
    · unfold ramekinref6_Mix.l0 mixL
      rw [if_pos h, if_pos hm0, int_length, int_length, if_neg (show ¬ ((m.length : Int) > 0) by omega)]
      split <;> rfl
    · have := ref_mix_l0 a b m ha hb hm h (by omega) hm0 a.length 0 (a.length + 1) (by omega) (by omega)
      rw [mixTo_zero] at this
      exact this
  · rw [if_neg (by omega)]
    unfold mixL
    rw [if_neg h]; rfl
end Go.Proofs.YtnlbekdjepkhcaaBM
