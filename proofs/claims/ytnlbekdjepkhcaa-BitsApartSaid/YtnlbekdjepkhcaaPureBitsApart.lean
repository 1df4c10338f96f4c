import Derived.Test.YtnlbekdjepkhcaaQD3
import Derived.Test.YtnlbekdjepkhcaaBtC
set_option linter.unusedSimpArgs false
set_option linter.unusedVariables false
namespace Go.Proofs.Ytnlbekdjepkhcaa.Pure
open Go.RowKit Go.Proofs.Ytnlbekdjepkhcaa.QD Go.Proofs.YtnlbekdjepkhcaaW.PrintWords Go.Proofs.YtnlbekdjepkhcaaW.PrintLast Go.Proofs.YtnlbekdjepkhcaaW.PrintMore Go.Proofs.YtnlbekdjepkhcaaBM Ram

theorem bit_val {a : List Nat} (ha : Bytes a) (p : Nat) : Go.bits .and .u8 (shr .u8 (rd (int a) ((p / 8 : Nat) : Int)) ((p % 8 : Nat) : Int)) 1 = if bitAt a p then 1 else 0 := by
  rw [rd_int]
  have h8 : min ((p % 8 : Nat) : Int).toNat IntKind.u8.bits = p % 8 := by
    rw [Int.toNat_natCast]; exact Nat.min_eq_left (Nat.le_of_lt (Nat.mod_lt _ (by decide)))
  have h1 : shr .u8 ((a.getD (p / 8) 0 : Nat) : Int) ((p % 8 : Nat) : Int) = ((a.getD (p / 8) 0 / 2 ^ (p % 8) : Nat) : Int) := by
    unfold shr
    rw [h8]
    exact (Int.natCast_ediv _ _).symm
  have h2 := getD_mem_lt ha (by decide) (p / 8)
  have h3 : a.getD (p / 8) 0 / 2 ^ (p % 8) < 256 := Nat.lt_of_le_of_lt (Nat.div_le_self _ _) h2
  have h4 := and_u8 h3 (show 1 < 256 by decide)
  rw [h1, show (1 : Int) = ((1 : Nat) : Int) from rfl, h4, Nat.and_one_is_mod]
  unfold bitAt
  by_cases h : a.getD (p / 8) 0 / 2 ^ (p % 8) % 2 = 1
  · rw [h]; rfl
  · have h0 : a.getD (p / 8) 0 / 2 ^ (p % 8) % 2 = 0 := by omega
    rw [h0]; rfl
theorem bitAt_take (a : List Nat) (n q : Nat) (hq : q < 8 * n) : bitAt (a.take n) q = bitAt a q := by
  rw [bitAt_test, bitAt_test]
  have : (a.take n).getD (q / 8) 0 = a.getD (q / 8) 0 := by
    rw [List.getD_eq_getElem?_getD, List.getD_eq_getElem?_getD, List.getElem?_take_of_lt (by omega)]
  rw [this]
theorem rd_ones {X : List Nat} {k : Nat} (hk : k < 8 * X.length) (h : bitAt X k = true) : (onesTo X k).length < (onesL X).length ∧ rd (int (onesL X)) ((onesTo X k).length : Int) = (k : Int) := by
  have hp : onesTo X (k + 1) <+: onesL X := onesTo_prefix X (show k + 1 ≤ 8 * X.length by omega)
  rw [onesTo_succ, h, if_pos rfl] at hp
  obtain ⟨t, ht⟩ := hp
  rw [List.append_assoc] at ht
  rw [← ht]
  refine ⟨by simp, ?_⟩
  rw [rd_int, List.getD_eq_getElem?_getD, List.getElem?_append_right (Nat.le_refl _)]
  simp
theorem rd_not {X : List Nat} {k at_ : Nat} (hat : at_ < (onesL X).length) (h : bitAt X k = false) : rd (int (onesL X)) (at_ : Int) ≠ (k : Int) := by
  rw [rd_int, List.getD_eq_getElem?_getD, List.getElem?_eq_getElem hat]
  intro e
  have e2 : (onesL X)[at_] = k := by simp at e; omega
  have hm := ((mem_onesL X _).1 (List.getElem_mem hat)).2
  rw [e2, h] at hm
  cases hm

theorem div8 (k : Nat) (h : k < 1000) : wrap64 (Int.tdiv (k : Int) 8) = ((k / 8 : Nat) : Int) := by
  rw [Int.tdiv_eq_ediv_of_nonneg (by omega), w64 (by omega) (by omega)]; omega
theorem mod8 (k : Nat) : IntKind.u64.wrap (Int.tmod (k : Int) 8) = ((k % 8 : Nat) : Int) := by
  rw [Int.tmod_eq_emod_of_nonneg (by omega), IntKind.wrap_u64]; omega
theorem apart_l0 {a b : List Nat} (ha : Bytes a) (hb : Bytes b) (n : Nat) (hn : n ≤ 60) (hna : n ≤ a.length) (hnb : n ≤ b.length) {X : List Nat} (hX : X = xorL (a.take n) (b.take n)) :
    ∀ (j k K : Nat), k + j = 8 * n → 2 * j < K → ramekinlaw6_BitsApart.l0 K (int a) (int b) (n : Int) (int (onesL X)) ((onesTo X k).length : Int) (k : Int) = some true := by
  have hlt : (a.take n).length = (b.take n).length := by rw [List.length_take, List.length_take]; omega
  have hXl : X.length = n := by rw [hX, xorL_length hlt, List.length_take]; omega
  intro j
  induction j with
  | zero =>
    intro k K hk hK
    obtain ⟨K, rfl⟩ : ∃ K', K = K' + 1 := ⟨K - 1, by omega⟩
    unfold ramekinlaw6_BitsApart.l0
    have e : onesTo X k = onesL X := by unfold onesL; rw [hXl]; rw [show k = 8 * n from by omega]
    rw [w64 (by omega) (by omega), if_neg (by omega), e, int_length, if_pos rfl, int_length, int_length]
    by_cases hl : a.length = b.length
    · rw [if_pos (by omega)]
    · rw [if_neg (by omega)]
      unfold bits_Apart.f
      rw [if_neg (by rw [int_length, int_length]; exact hl)]; rfl
  | succ j ih =>
    intro k K hk hK
    obtain ⟨K, rfl⟩ : ∃ K', K = K' + 2 := ⟨K - 2, by omega⟩
    have hk2 : k < 8 * n := by omega
    have hnext := fun y => ih (k + 1) (y : Nat) (by omega)
    have q6 : 2 * j < K := by omega
    have hs : wrap64 ((k : Int) + 1) = ((k + 1 : Nat) : Int) := by rw [w64 (by omega) (by omega)]; omega
    have hol := onesTo_length X k
    have ho1 : wrap64 (((onesTo X k).length : Int) + 1) = (((onesTo X k).length + 1 : Nat) : Int) := by rw [w64 (by omega) (by omega)]; omega
    have hw8 : wrap64 (8 * (n : Int)) = 8 * (n : Int) := w64 (by omega) (by omega)
    have hd := div8 k (show k < 1000 by omega)
    have hm := mod8 k
    have q1 : (k : Int) < 8 * (n : Int) := Int.ofNat_lt.2 hk2
    have q2 : ((k / 8 : Nat) : Int) < (a.length : Int) := Int.ofNat_lt.2 (Nat.lt_of_lt_of_le (Nat.div_lt_of_lt_mul hk2) hna)
    have q3 : ((k / 8 : Nat) : Int) < (b.length : Int) := Int.ofNat_lt.2 (Nat.lt_of_lt_of_le (Nat.div_lt_of_lt_mul hk2) hnb)
    have hbit : bitAt X k = (bitAt a k ^^ bitAt b k) := by rw [hX, bit_xorL hlt, bitAt_take _ _ _ hk2, bitAt_take _ _ _ hk2]
    have hneq : ((if bitAt a k then (1 : Int) else 0) != (if bitAt b k then 1 else 0)) = bitAt X k := by
      rw [hbit]
      cases bitAt a k <;> cases bitAt b k <;> rfl
    have hsucc := onesTo_succ X k
    unfold ramekinlaw6_BitsApart.l0
    rw [hw8, if_pos q1, hd, hm, if_pos (Int.natCast_nonneg _), int_length, int_length, if_pos q2, if_pos (Int.natCast_nonneg _), if_pos q3, bit_val ha, bit_val hb, hneq, int_length]
    replace hnext := hnext K q6
    cases hx : bitAt X k with
    | true =>
      rw [hx, if_pos rfl] at hsucc
      have h1 := rd_ones (X := X) (k := k) (by rw [hXl]; exact hk2) hx
      rw [hsucc, List.length_append, List.length_singleton] at hnext
      rw [if_pos (Int.ofNat_lt.2 h1.1), if_pos (Int.natCast_nonneg _), h1.2]
      unfold ramekinlaw6_BitsApart.j1
      simp only [beq_self_eq_true, bne_self_eq_false, Bool.false_eq_true, if_false, if_true]
      rw [ho1, hs]
      exact hnext
    | false =>
      rw [hx, if_neg (by decide), List.append_nil] at hsucc
      rw [hsucc] at hnext
      by_cases hat : (onesTo X k).length < (onesL X).length
      · have h1 := rd_not hat hx
        rw [if_pos (Int.ofNat_lt.2 hat), if_pos (Int.natCast_nonneg _), beq_eq_false_iff_ne.2 h1]
        unfold ramekinlaw6_BitsApart.j1
        simp only [bne_self_eq_false, Bool.false_eq_true, if_false]
        rw [hs]
        exact hnext
      · rw [if_neg (fun h => hat (Int.ofNat_lt.1 h))]
        unfold ramekinlaw6_BitsApart.j1
        simp only [bne_self_eq_false, Bool.false_eq_true, if_false]
        rw [hs]
        exact hnext

theorem known_d : ramekinlaw6_known.f = some true := by decide +kernel
theorem BitsApart : ramekinlaw6_BitsApart.Pure := by
  intro l0 l1 _ hm0 h0 _ _ h1
  have hb0 := wf_bytes h0
  have hb1 := wf_bytes h1
  obtain ⟨a, rfl, ha⟩ : ∃ a : List Nat, l0 = int a ∧ Bytes a := ⟨nat l0, (int_nat hb0).symm, nat_mem_lt hb0⟩
  obtain ⟨b, rfl, hb⟩ : ∃ b : List Nat, l1 = int b ∧ Bytes b := ⟨nat l1, (int_nat hb1).symm, nat_mem_lt hb1⟩
  rw [int_length] at hm0
  obtain ⟨n, hn⟩ : ∃ n : Nat, mn (mn ((int a).length : Int) ((int b).length : Int)) 60 = (n : Int) ∧ n ≤ 60 ∧ n ≤ a.length ∧ n ≤ b.length := by
    refine ⟨min (min a.length b.length) 60, ?_, by omega, by omega, by omega⟩
    rw [int_length, int_length]
    unfold mn
    split <;> split <;> omega
  obtain ⟨hmn, hn1, hn2, hn3⟩ := hn
  have hlt : (a.take n).length = (b.take n).length := by rw [List.length_take, List.length_take]; omega
  have ht : ∀ c : List Nat, (int c).take n = int (c.take n) := fun c => by unfold int; rw [List.map_take]
  have hA : bits_Apart.f ((int a).take n) ((int b).take n) = some (int (onesL (xorL (a.take n) (b.take n)))) := by
    have g0 := bytes_take hb0 n
    have g1 := bytes_take hb1 n
    rw [ht] at g0 g1
    rw [ht, ht]
    unfold bits_Apart.f
    rw [if_pos (by rw [int_length, int_length, hlt]), if_pos ⟨g0, g1, by rw [int_length, List.length_take]; omega⟩, nat_int, nat_int]
  refine ⟨16 * n + 1, ?_⟩
  unfold ramekinlaw6_BitsApart.f
  rw [known_d, Option.bind_some, if_pos rfl, hmn, if_pos (Int.natCast_nonneg _), if_pos (by rw [int_length]; omega), if_pos (by rw [int_length]; omega), Int.toNat_natCast, hA, Option.bind_some]
  exact apart_l0 ha hb n hn1 hn2 hn3 rfl (8 * n) 0 (16 * n + 1) (by omega) (by omega)
end Go.Proofs.Ytnlbekdjepkhcaa.Pure
