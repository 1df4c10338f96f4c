import Derived.Test.YtnlbekdjepkhcaaQG
import Derived.Test.YtnlbekdjepkhcaaBtF
/-
  What the printed functions of bits compute, in the lists of Bt, BtF.
-/
set_option linter.unusedSimpArgs false
set_option linter.unusedVariables false
namespace Go.Proofs.YtnlbekdjepkhcaaBM
open Go.RowKit Go.Proofs.Ytnlbekdjepkhcaa.QG Go.Proofs.YtnlbekdjepkhcaaW.PrintWords Go.Proofs.YtnlbekdjepkhcaaW.PrintLast Go.Proofs.YtnlbekdjepkhcaaW.PrintMore Ram

theorem w64 {x : Int} (h0 : -9223372036854775808 ≤ x) (h1 : x ≤ 9223372036854775807) : wrap64 x = x := by unfold wrap64; omega
theorem rd_int (a : List Nat) (n : Nat) : rd (int a) (n : Int) = ((a.getD n 0 : Nat) : Int) := by
  unfold rd int
  rw [Int.toNat_natCast, List.getD_eq_getElem?_getD, List.getD_eq_getElem?_getD, List.getElem?_map]
  cases a[n]? <;> rfl
theorem set_int (a : List Nat) (n v : Nat) : (int a).set n ((v : Nat) : Int) = int (a.set n v) := by unfold int; rw [List.map_set]; rfl
theorem len_int (a : List Nat) : (int a).length = a.length := int_length a
theorem xor_u8 {a b : Nat} (ha : a < 256) (hb : b < 256) : Go.bits .xor .u8 (a : Int) (b : Int) = ((a ^^^ b : Nat) : Int) := by
  have ha' : a % 2 ^ IntKind.u8.bits = a := Nat.mod_eq_of_lt ha
  have hb' : b % 2 ^ IntKind.u8.bits = b := Nat.mod_eq_of_lt hb
  simp only [Go.bits, BitVec.ofInt_natCast, BitVec.toNat_xor, BitVec.toNat_ofNat, ha', hb']
  have := Nat.xor_lt_two_pow (n := 8) ha hb
  rw [IntKind.wrap_u8]; omega
theorem and_u8 {a b : Nat} (ha : a < 256) (hb : b < 256) : Go.bits .and .u8 (a : Int) (b : Int) = ((a &&& b : Nat) : Int) := by
  have ha' : a % 2 ^ IntKind.u8.bits = a := Nat.mod_eq_of_lt ha
  have hb' : b % 2 ^ IntKind.u8.bits = b := Nat.mod_eq_of_lt hb
  simp only [Go.bits, BitVec.ofInt_natCast, BitVec.toNat_and, BitVec.toNat_ofNat, ha', hb']
  have := Nat.and_le_left (n := a) (m := b)
  rw [IntKind.wrap_u8]; omega
theorem or_u8 {a b : Nat} (ha : a < 256) (hb : b < 256) : Go.bits .or .u8 (a : Int) (b : Int) = ((a ||| b : Nat) : Int) := by
  have ha' : a % 2 ^ IntKind.u8.bits = a := Nat.mod_eq_of_lt ha
  have hb' : b % 2 ^ IntKind.u8.bits = b := Nat.mod_eq_of_lt hb
  simp only [Go.bits, BitVec.ofInt_natCast, BitVec.toNat_or, BitVec.toNat_ofNat, ha', hb']
  have := Nat.or_lt_two_pow (n := 8) ha hb
  rw [IntKind.wrap_u8]; omega
theorem andNot_u8 {a b : Nat} (ha : a < 256) (hb : b < 256) : Go.bits .andNot .u8 (a : Int) (b : Int) = ((a &&& (255 - b) : Nat) : Int) := by
  have ha' : a % 2 ^ IntKind.u8.bits = a := Nat.mod_eq_of_lt ha
  have hb' : b % 2 ^ IntKind.u8.bits = b := Nat.mod_eq_of_lt hb
  simp only [Go.bits, BitVec.ofInt_natCast, BitVec.toNat_and, BitVec.toNat_not, BitVec.toNat_ofNat, ha', hb']
  have h2 : 2 ^ IntKind.u8.bits - 1 - b = 255 - b := by show 256 - 1 - b = _; omega
  rw [h2]
  have := Nat.and_le_left (n := a) (m := 255 - b)
  rw [IntKind.wrap_u8]; omega
theorem shl_u8 : ∀ i < 8, shl .u8 1 ((i : Nat) : Int) = ((2 ^ i : Nat) : Int) := by decide +kernel

theorem flip_l0 (l : List Int) (hl : l.length < 9000000000000000000) : ∀ (j i k : Nat) (a : List Nat), i + j = l.length → j < k → Bytes a → a.length < 1000000000000 → bits_Flip.l0 k (int a) l (l.length : Int) (i : Int) = some (int (flips a (l.drop i))) := by
  intro j
  induction j with
  | zero =>
    intro i k a hij hk ha hn
    cases k with
    | zero => omega
    | succ k =>
      unfold bits_Flip.l0
      rw [if_neg (by omega), List.drop_of_length_le (by omega)]
      show (slices_Clone_byte_byte.f (int a)).bind _ = _
      unfold slices_Clone_byte_byte.f
      rw [if_pos (by rw [len_int]; omega)]; rfl
  | succ j ih =>
    intro i k a hij hk ha hn
    cases k with
    | zero => omega
    | succ k =>
      unfold bits_Flip.l0
      have hi : i < l.length := by omega
      have hrd : rd l (i : Int) = l[i] := by unfold rd; rw [Int.toNat_natCast, List.getD_eq_getElem?_getD, List.getElem?_eq_getElem hi]; rfl
      have hstep : (wrap64 ((i : Int) + 1)) = ((i + 1 : Nat) : Int) := by rw [w64 (by omega) (by omega)]; omega
      have hdrop : flips a (l.drop i) = flips (flip1 a l[i]) (l.drop (i + 1)) := by rw [List.drop_eq_getElem_cons hi]; rfl
      rw [if_pos (by omega), if_pos (by omega), if_pos (by omega), hrd, hstep, hdrop]
      have hnext := fun b (hb : Bytes b) (hbl : b.length < 1000000000000) => ih (i + 1) k b (by omega) (by omega) hb hbl
      have hw : wrap64 (8 * ((int a).length : Int)) = 8 * (a.length : Int) := by rw [len_int, w64 (by omega) (by omega)]
      rw [hw]
      have hf1 := flip1_bytes ha l[i]
      have hf2 := flip1_length a l[i]
      generalize l[i] = x at *
      by_cases h0 : x ≥ 0
      · rw [if_pos h0]
        by_cases h1 : x < 8 * (a.length : Int)
        · rw [if_pos h1]
          obtain ⟨p, rfl⟩ : ∃ p : Nat, x = p := ⟨x.toNat, by omega⟩
          have hd : wrap64 (Int.tdiv (p : Int) 8) = ((p / 8 : Nat) : Int) := by
            rw [Int.tdiv_eq_ediv_of_nonneg (by omega), w64 (by omega) (by omega)]; omega
          have hm : Int.tmod (p : Int) 8 = ((p % 8 : Nat) : Int) := by rw [Int.tmod_eq_emod_of_nonneg (by omega)]; omega
          rw [hd, hm, len_int, if_pos (by omega), if_pos (by omega), if_pos (by omega), rd_int, Int.toNat_natCast, shl_u8 _ (Nat.mod_lt _ (by decide)),
            xor_u8 (getD_mem_lt ha (by decide) _) (show 2 ^ (p % 8) < 2 ^ 8 from Nat.pow_lt_pow_right (by decide) (Nat.mod_lt _ (by decide))), set_int]
          have hfl : flip1 a (p : Int) = a.set (p / 8) (a.getD (p / 8) 0 ^^^ 2 ^ (p % 8)) := by
            unfold flip1
            rw [if_pos (by unfold inR; simp; omega), Int.toNat_natCast]
          rw [← hfl]
          exact hnext _ hf1 (by rw [hf2]; exact hn)
        · rw [if_neg h1]
          have hfl : flip1 a x = a := by unfold flip1; rw [if_neg (by unfold inR; simp; omega)]
          rw [hfl]
          exact hnext _ ha hn
      · rw [if_neg h0]
        have hfl : flip1 a x = a := by unfold flip1; rw [if_neg (by unfold inR; simp; omega)]
        rw [hfl]
        exact hnext _ ha hn
theorem flip_f (a : List Nat) (l : List Int) (ha : Bytes a) (hn : a.length < 1000000000000) (hl : l.length < 9000000000000000000) : bits_Flip.f (l.length + 1) (int a) l = some (int (flips a l)) := by
  unfold bits_Flip.f slices_Clone_byte_byte.f
  rw [if_pos (by rw [len_int]; omega), Option.bind_some]
  exact flip_l0 l hl l.length 0 (l.length + 1) a (by omega) (by omega) ha hn

/-- mixed up to i. -/
def mixTo (a b m : List Nat) (i : Nat) : List Nat := (List.range a.length).map fun j => if j < i then mixB (a.getD j 0) (b.getD j 0) (m.getD (j % m.length) 0) else a.getD j 0
theorem mixTo_get (a b m : List Nat) (i j : Nat) (hj : j < a.length) : (mixTo a b m i)[j]? = some (if j < i then mixB (a.getD j 0) (b.getD j 0) (m.getD (j % m.length) 0) else a.getD j 0) := by simp [mixTo, hj]
theorem mixTo_length (a b m : List Nat) (i : Nat) : (mixTo a b m i).length = a.length := by simp [mixTo]
theorem mixTo_succ (a b m : List Nat) (i : Nat) (hi : i < a.length) : mixTo a b m (i + 1) = (mixTo a b m i).set i (mixB (a.getD i 0) (b.getD i 0) (m.getD (i % m.length) 0)) := by
  apply List.ext_getElem?
  intro j
  by_cases hj : j < a.length
  · rw [mixTo_get _ _ _ _ _ hj, List.getElem?_set]
    by_cases e : i = j
    · subst e; simp [hj, mixTo_length]
    · rw [if_neg e, mixTo_get _ _ _ _ _ hj]
      by_cases h : j < i
      · rw [if_pos h, if_pos (by omega)]
      · rw [if_neg h, if_neg (by omega)]
  · rw [List.getElem?_eq_none (by rw [mixTo_length]; omega), List.getElem?_eq_none (by rw [List.length_set, mixTo_length]; omega)]
theorem mixTo_zero (a b m : List Nat) : mixTo a b m 0 = a := by
  apply List.ext_getElem?
  intro j
  by_cases hj : j < a.length
  · rw [mixTo_get _ _ _ _ _ hj, if_neg (by omega), List.getD_eq_getElem?_getD, List.getElem?_eq_getElem hj]; rfl
  · rw [List.getElem?_eq_none (by rw [mixTo_length]; omega), List.getElem?_eq_none (by omega)]
theorem mixTo_all (a b m : List Nat) (h : a.length = b.length) (hm : m.length ≠ 0) : mixTo a b m a.length = mixL a b m := by
  unfold mixL
  rw [if_pos h, if_neg hm]
  unfold mixTo
  exact List.map_congr_left (fun j hj => by rw [if_pos (List.mem_range.1 hj)])

theorem mix_l0 (a b m : List Nat) (ha : Bytes a) (hb : Bytes b) (hm : Bytes m) (h : a.length = b.length) (hn : a.length < 1000000000000) (hml : m.length < 1000000000000) :
    ∀ (j i k : Nat), i + j = a.length → j < k → bits_Mix.l0 k (int a) (int b) (int m) (if m.length = 0 then int a else int (mixTo a b m i)) (a.length : Int) (i : Int) = some (int (mixL a b m)) := by
  intro j
  induction j with
  | zero =>
    intro i k hij hk
    cases k with
    | zero => omega
    | succ k =>
      obtain rfl : i = a.length := by omega
      unfold bits_Mix.l0
      rw [if_neg (by omega)]
      have e : (if m.length = 0 then int a else int (mixTo a b m a.length)) = int (mixL a b m) := by
        by_cases hm0 : m.length = 0
        · rw [if_pos hm0]; unfold mixL; rw [if_pos h, if_pos hm0]
        · rw [if_neg hm0, mixTo_all a b m h hm0]
      rw [e]
      unfold slices_Clone_byte_byte.f
      rw [if_pos (by rw [len_int, mixL_length m h]; omega)]; rfl
  | succ j ih =>
    intro i k hij hk
    cases k with
    | zero => omega
    | succ k =>
      unfold bits_Mix.l0
      have hi : i < a.length := by omega
      have hstep : (wrap64 ((i : Int) + 1)) = ((i + 1 : Nat) : Int) := by rw [w64 (by omega) (by omega)]; omega
      rw [if_pos (by omega), hstep, len_int]
      by_cases hm0 : m.length = 0
      · rw [if_neg (by omega), if_pos hm0]
        have := ih (i + 1) k (by omega) (by omega)
        rw [if_pos hm0] at this
        exact this
      · have hmod : Int.tmod (i : Int) (m.length : Int) = ((i % m.length : Nat) : Int) := by rw [Int.tmod_eq_emod_of_nonneg (by omega)]; exact (Int.natCast_emod _ _).symm
        have hlt : i % m.length < m.length := Nat.mod_lt _ (by omega)
        rw [if_pos (by omega), if_neg (by omega), hmod, if_pos (by omega), if_pos (by omega), if_pos (by omega), len_int, len_int, if_pos (by omega), if_pos (by omega), if_neg hm0, len_int, mixTo_length, if_pos (by omega)]
        have g1 := getD_mem_lt ha (by decide) i
        have g2 := getD_mem_lt hb (by decide) i
        have g3 := getD_mem_lt hm (by decide) (i % m.length)
        rw [rd_int, rd_int, rd_int, andNot_u8 g1 g3, and_u8 g2 g3, or_u8 (Nat.lt_of_le_of_lt Nat.and_le_left g1) (Nat.lt_of_le_of_lt Nat.and_le_left g2), Int.toNat_natCast, set_int]
        have := ih (i + 1) k (by omega) (by omega)
        rw [if_neg hm0, mixTo_succ a b m i hi] at this
        exact this
theorem mix_f (a b m : List Nat) (ha : Bytes a) (hb : Bytes b) (hm : Bytes m) (hn : a.length < 1000000000000) (hml : m.length < 1000000000000) : bits_Mix.f (a.length + 1) (int a) (int b) (int m) = some (int (mixL a b m)) := by
  unfold bits_Mix.f
  rw [len_int, len_int]
  by_cases h : a.length = b.length
  · rw [if_pos (by omega)]
    unfold slices_Clone_byte_byte.f
    rw [if_pos (by rw [len_int]; omega), Option.bind_some, len_int]
    have := mix_l0 a b m ha hb hm h hn hml a.length 0 (a.length + 1) (by omega) (by omega)
    rw [mixTo_zero] at this
    simpa using this
  · rw [if_neg (by omega)]
    unfold mixL
    rw [if_neg h]; rfl
theorem known_f : ramekinlaw6_known.f = some true := by decide +kernel
end Go.Proofs.YtnlbekdjepkhcaaBM
