import Derived.Test.YtnlbekdjepkhcaaQC6
import Derived.Test.YtnlbekdjepkhcaaBtC
set_option linter.unusedSimpArgs false
set_option linter.unusedVariables false
namespace Go.Proofs.Ytnlbekdjepkhcaa.Pure
open Go.RowKit Go.Proofs.Ytnlbekdjepkhcaa.QC Go.Proofs.YtnlbekdjepkhcaaW.PrintWords Go.Proofs.YtnlbekdjepkhcaaW.PrintLast Go.Proofs.YtnlbekdjepkhcaaW.PrintMore Go.Proofs.YtnlbekdjepkhcaaBM Ram

def placeStep (n : Int) (most : Nat) (out : List Int) (x : Int) : List Int := if out.length < most then (if x % n ∈ out then out else out ++ [x % n]) else out
def placesL (n : Int) (most : Nat) (l : List Int) : List Int := l.foldl (placeStep n most) []
def Fit (n : Int) (out : List Int) : Prop := out.Nodup ∧ ∀ x ∈ out, 0 ≤ x ∧ x < n
theorem placeStep_fit {n : Int} (hn : 0 < n) (most : Nat) {out : List Int} (x : Int) (h : Fit n out) (hl : out.length ≤ most) : Fit n (placeStep n most out x) ∧ (placeStep n most out x).length ≤ most := by
  unfold placeStep
  split
  · split
    · exact ⟨h, hl⟩
    · rename_i h1 h2
      refine ⟨⟨?_, ?_⟩, by rw [List.length_append, List.length_singleton]; omega⟩
      · rw [List.nodup_append]
        refine ⟨h.1, List.pairwise_singleton _ _, fun a ha b hb => ?_⟩
        rw [List.mem_singleton] at hb
        subst hb
        exact fun e => h2 (e ▸ ha)
      · intro y hy
        rcases List.mem_append.1 hy with hy | hy
        · exact h.2 y hy
        · rw [List.mem_singleton] at hy
          subst hy
          exact ⟨Int.emod_nonneg _ (by omega), Int.emod_lt_of_pos _ hn⟩
  · exact ⟨h, hl⟩
theorem places_fit {n : Int} (hn : 0 < n) (most : Nat) (l : List Int) : ∀ out, Fit n out → out.length ≤ most → Fit n (l.foldl (placeStep n most) out) ∧ (l.foldl (placeStep n most) out).length ≤ most := by
  induction l with
  | nil => intro out h hl; exact ⟨h, hl⟩
  | cons x r ih =>
    intro out h hl
    have := placeStep_fit hn most x h hl
    exact ih _ this.1 this.2

theorem tmodW (a m : Int) (hm : 0 < m) : (if a.tmod m < 0 then a.tmod m + m else a.tmod m) = a % m := by
  have h0 := Int.emod_nonneg a (Int.ne_of_gt hm)
  have h1 := Int.emod_lt_of_pos a hm
  rcases Int.lt_or_le a 0 with h | h
  · have := Int.tmod_eq_emod (a := a) (b := m)
    simp only [Int.not_le.mpr h, false_or] at this
    split at this <;> split <;> omega
  · rw [Int.tmod_eq_emod_of_nonneg h]
    split <;> omega
theorem within4 (a m : Int) (hm : 0 < m) (hm2 : m < 1000000000) : ramekinlaw4_within.f a m = some (a % m) := by
  unfold ramekinlaw4_within.f
  have h := tmodW a m hm
  have h0 := Int.emod_nonneg a (Int.ne_of_gt hm)
  have h1 := Int.emod_lt_of_pos a hm
  rw [if_neg (by omega)]
  split
  · rename_i hlt
    rw [if_pos hlt] at h
    rw [h]
    congr 1
    unfold wrap64
    omega
  · rename_i hlt
    rw [if_neg hlt] at h
    rw [h]

theorem rd_at (l : List Int) (i : Nat) (h : i < l.length) : rd l (i : Int) = l[i] := by
  unfold rd; rw [Int.toNat_natCast, List.getD_eq_getElem?_getD, List.getElem?_eq_getElem h]; rfl
theorem places_l1 (l : List Int) (n m : Int) (out : List Int) (i x : Int) (ho : out.length < 1000000) : ∀ (j b : Nat) (is : Bool) (k : Nat), b + j = out.length →
    ramekinlaw4_Places.l1 (k + j + 1) l n m out i x is (b : Int) = (if is = true ∨ x ∈ out.drop b then ramekinlaw4_Places.l0 k l n m out (wrap64 (i + 1)) else ramekinlaw4_Places.l0 k l n m (out ++ [x]) (wrap64 (i + 1))) := by
  intro j
  induction j with
  | zero =>
    intro b is k hb
    unfold ramekinlaw4_Places.l1
    rw [if_neg (by omega), List.drop_of_length_le (by omega)]
    cases is
    · simp; omega
    · simp
  | succ j ih =>
    intro b is k hb
    have hb' : b < out.length := by omega
    rw [show k + (j + 1) + 1 = (k + j + 1) + 1 from by omega]
    unfold ramekinlaw4_Places.l1
    rw [if_pos (by omega)]
    have hs : wrap64 ((b : Int) + 1) = ((b + 1 : Nat) : Int) := by rw [w64 (by omega) (by omega)]; omega
    rw [hs, List.drop_eq_getElem_cons hb']
    cases is
    · simp only [Bool.false_eq_true, if_false, false_or]
      rw [if_pos (by omega), rd_at _ _ hb', ih (b + 1) _ k (by omega)]
      have hc : ((out[b] == x) = true ∨ x ∈ out.drop (b + 1)) ↔ (x ∈ out[b] :: out.drop (b + 1)) := by rw [List.mem_cons, beq_iff_eq]; exact ⟨fun h => h.imp Eq.symm id, fun h => h.imp Eq.symm id⟩
      simp only [hc]
    · simp only [if_true, true_or]
      rw [ih (b + 1) true k (by omega)]
      simp
theorem places_l0 (l : List Int) (n : Int) (m : Nat) (hn : 0 < n) (hn2 : n < 1000000000) (hm : m < 1000000) (hl : l.length < 9000000000000000000) : ∀ (j i : Nat) (out : List Int), i + j = l.length → out.length ≤ m →
    ∃ K, ∀ k, K ≤ k → ramekinlaw4_Places.l0 k l n (m : Int) out (i : Int) = some ((l.drop i).foldl (placeStep n m) out) := by
  intro j
  induction j with
  | zero =>
    intro i out hi ho
    refine ⟨2, fun k hk => ?_⟩
    obtain ⟨k, rfl⟩ : ∃ k', k = k' + 2 := ⟨k - 2, by omega⟩
    unfold ramekinlaw4_Places.l0
    rw [if_neg (by omega), List.drop_of_length_le (by omega)]
    unfold ramekinlaw4_Places.j1
    rw [if_neg (by simp)]; rfl
  | succ j ih =>
    intro i out hi ho
    have hi' : i < l.length := by omega
    rw [List.drop_eq_getElem_cons hi']
    by_cases hfull : out.length < m
    · obtain ⟨K1, h1⟩ := ih (i + 1) out (by omega) ho
      obtain ⟨K2, h2⟩ := ih (i + 1) (out ++ [l[i] % n]) (by omega) (by rw [List.length_append, List.length_singleton]; omega)
      refine ⟨K1 + K2 + out.length + 3, fun k hk => ?_⟩
      obtain ⟨k', rfl⟩ : ∃ k', k = (k' + out.length + 1) + 2 := ⟨k - (out.length + 3), by omega⟩
      unfold ramekinlaw4_Places.l0
      rw [if_pos (by omega), decide_eq_true (by omega : (out.length : Int) < (m : Int))]
      unfold ramekinlaw4_Places.j1
      rw [if_pos rfl, if_pos (by omega), if_pos (by omega), rd_at _ _ hi', within4 _ _ hn hn2, Option.bind_some]
      have := places_l1 l n (m : Int) out (i : Int) (l[i] % n) (by omega) out.length 0 false k' (by omega)
      have hs : wrap64 ((i : Int) + 1) = ((i + 1 : Nat) : Int) := by rw [w64 (by omega) (by omega)]; omega
      rw [hs] at this
      rw [show ((0 : Nat) : Int) = 0 from rfl] at this
      rw [this, List.drop_zero]
      show _ = some ((l.drop (i + 1)).foldl (placeStep n m) (placeStep n m out l[i]))
      unfold placeStep
      rw [if_pos hfull]
      by_cases e : l[i] % n ∈ out
      · rw [if_pos (.inr e), if_pos e]
        exact h1 k' (by omega)
      · rw [if_neg (by rintro (h | h); exact absurd h (by decide); exact e h), if_neg e]
        exact h2 k' (by omega)
    · refine ⟨2, fun k hk => ?_⟩
      obtain ⟨k, rfl⟩ : ∃ k', k = k' + 2 := ⟨k - 2, by omega⟩
      unfold ramekinlaw4_Places.l0
      rw [if_pos (by omega), decide_eq_false (by omega : ¬ (out.length : Int) < (m : Int))]
      unfold ramekinlaw4_Places.j1
      rw [if_neg (by simp)]
      congr 1
      have : ∀ r : List Int, r.foldl (placeStep n m) out = out := by
        intro r
        induction r with
        | nil => rfl
        | cons y r ihr => show r.foldl _ (placeStep n m out y) = out; unfold placeStep; rw [if_neg hfull]; exact ihr
      exact (this (l[i] :: l.drop (i + 1))).symm
theorem places_f (l : List Int) (n : Int) (m : Nat) (hn : 0 < n) (hn2 : n < 1000000000) (hm : m < 1000000) (hl : l.length < 9000000000000000000) : ∃ K, ∀ k, K ≤ k → ramekinlaw4_Places.f k l n (m : Int) = some (placesL n m l) := by
  obtain ⟨K, h⟩ := places_l0 l n m hn hn2 hm hl l.length 0 [] (by omega) (by simp)
  exact ⟨K, fun k hk => by unfold ramekinlaw4_Places.f; exact h k hk⟩

theorem count_mem (n : Nat) : ∀ l : List Int, l.Nodup → (∀ x ∈ l, 0 ≤ x ∧ x < (n : Int)) → ((List.range n).filter (fun q : Nat => decide ((q : Int) ∈ l))).length = l.length
  | [], _, _ => by
    rw [List.filter_eq_nil_iff.2 (by simp)]; rfl
  | x :: r, hn, hr => by
    rw [List.nodup_cons] at hn
    have ih := count_mem n r hn.2 (fun y hy => hr y (List.mem_cons_of_mem _ hy))
    obtain ⟨p, rfl⟩ := Int.eq_ofNat_of_zero_le (hr x List.mem_cons_self).1
    have hp : p < n := by have := (hr (p : Int) List.mem_cons_self).2; omega
    have := count_toggle (fun q : Nat => decide ((q : Int) ∈ r)) p n hp
    rw [if_neg (by simpa using hn.1)] at this
    have e : (fun q : Nat => decide ((q : Int) ∈ (p : Int) :: r)) = fun q : Nat => (decide ((q : Int) ∈ r) ^^ decide (q = p)) := by
      funext q
      by_cases h : q = p
      · subst h; simp [hn.1]
      · have : ¬ (q : Int) = (p : Int) := by omega
        simp [h, this]
    rw [e, List.length_cons]
    omega
theorem apart_flips {a : List Nat} {l : List Int} (hn : l.Nodup) (hr : ∀ x ∈ l, 0 ≤ x ∧ x < 8 * (a.length : Int)) : (apartL a (flips a l)).length = l.length := by
  have hl := flips_length l a
  unfold apartL
  rw [int_length]
  unfold onesL onesTo
  rw [xorL_length hl.symm, ← count_mem (8 * a.length) l hn (fun x hx => by have := hr x hx; omega)]
  congr 1
  refine List.filter_congr (fun q hq => ?_)
  rw [bit_xorL hl.symm, bit_flips l a q (List.mem_range.1 hq), ← Bool.xor_assoc, Bool.xor_self, Bool.false_xor, par_nodup hn]
theorem apart_zero (a : List Nat) : (apartL (List.replicate a.length 0) a).length = (onesL a).length := by
  unfold apartL
  rw [int_length]
  congr 1
  have : xorL (List.replicate a.length 0) a = a := by
    unfold xorL
    apply List.ext_getElem
    · simp
    · intro i h1 h2; simp
  rw [this]
theorem ones_le (a : List Nat) : (onesL a).length ≤ 8 * a.length := onesL_length a

theorem bit_of {a : List Nat} (ha : Bytes a) (p : Nat) : (Go.bits .and .u8 (shr .u8 (rd (int a) ((p / 8 : Nat) : Int)) ((p % 8 : Nat) : Int)) 1 = 1) ↔ bitAt a p = true := by
  rw [rd_int]
  have h8 : min ((p % 8 : Nat) : Int).toNat IntKind.u8.bits = p % 8 := by
    rw [Int.toNat_natCast]; exact Nat.min_eq_left (Nat.le_of_lt (Nat.mod_lt _ (by decide)))
  have h1 : shr .u8 ((a.getD (p / 8) 0 : Nat) : Int) ((p % 8 : Nat) : Int) = ((a.getD (p / 8) 0 / 2 ^ (p % 8) : Nat) : Int) := by
    unfold shr
    rw [h8]
    exact (Int.natCast_ediv _ _).symm
  have h2 := getD_mem_lt ha (by decide) (p / 8)
  have h3 : a.getD (p / 8) 0 / 2 ^ (p % 8) < 256 := Nat.lt_of_le_of_lt (Nat.div_le_self _ _) h2
  have h4 := and_u8 h3 (show 1 < 256 by decide)
  rw [h1, show (1 : Int) = ((1 : Nat) : Int) from rfl, h4, Nat.and_one_is_mod]
  unfold bitAt
  rw [beq_iff_eq]
  omega

theorem count_l0 {a : List Nat} (ha : Bytes a) (hl : a.length ≤ 60) {at_ : List Int} (hn : at_.Nodup) (hr : ∀ x ∈ at_, 0 ≤ x ∧ x < 8 * (a.length : Int)) (hat : at_.length ≤ 20) :
    ∀ (j i k : Nat) (s : Int), i + j = at_.length → j < k → s = ((onesL (flips a (at_.take i))).length : Int) - (onesL a).length →
    ramekinlaw6_BitsCount.l0 k (int a) at_ s (i : Int) = some true := by
  have hbi : bytesB (int a) = true := bytesB_int ha
  intro j
  induction j with
  | zero =>
    intro i k s hij hk hs
    obtain ⟨k, rfl⟩ : ∃ k', k = k' + 1 := ⟨k - 1, by omega⟩
    unfold ramekinlaw6_BitsCount.l0
    rw [List.take_of_length_le (by omega)] at hs
    have hlf := flips_length at_ a
    have hbf := flips_bytes at_ ha
    have o1 := ones_le (flips a at_)
    have o2 := ones_le a
    rw [hlf] at o1
    have f1 : bits_Flip.f (int a) at_ = some (int (flips a at_)) := by
      unfold bits_Flip.f
      rw [if_pos ⟨hbi, by rw [int_length]; omega, by omega⟩, nat_int]
    have f2 : bits_Ones.f (int (flips a at_)) = some ((onesL (flips a at_)).length : Int) := by
      unfold bits_Ones.f
      rw [if_pos ⟨bytesB_int hbf, by rw [int_length]; omega⟩, nat_int]
    have f3 : bits_Ones.f (int a) = some ((onesL a).length : Int) := by
      unfold bits_Ones.f
      rw [if_pos ⟨hbi, by rw [int_length]; omega⟩, nat_int]
    have f4 : bits_Apart.f (int a) (int (flips a at_)) = some (apartL a (flips a at_)) := by
      unfold bits_Apart.f
      rw [if_pos (by rw [int_length, int_length, hlf]), if_pos ⟨hbi, bytesB_int hbf, by rw [int_length]; omega⟩, nat_int, nat_int]; rfl
    have hz : List.replicate ((int a).length : Int).toNat (0 : Int) = int (List.replicate a.length 0) := by
      rw [int_length, Int.toNat_natCast]; unfold int; rw [List.map_replicate]; rfl
    have hzb : Bytes (List.replicate a.length 0) := by intro x hx; rw [List.mem_replicate] at hx; omega
    have f5 : bits_Apart.f (int (List.replicate a.length 0)) (int a) = some (apartL (List.replicate a.length 0) a) := by
      unfold bits_Apart.f
      rw [if_pos (by rw [int_length, int_length, List.length_replicate]), if_pos ⟨bytesB_int hzb, hbi, by rw [int_length, List.length_replicate]; omega⟩, nat_int, nat_int]; rfl
    rw [if_neg (by omega), f1, Option.bind_some, f2, Option.bind_some, f3, Option.bind_some, if_pos (by rw [w64 (by omega) (by omega)]; omega), f4, Option.bind_some,
      if_pos (by rw [apart_flips hn hr]), if_pos (by omega), if_pos (by rw [int_length]; omega), hz, f5, Option.bind_some, Option.bind_some, apart_zero]
    simp
  | succ j ih =>
    intro i k s hij hk hs
    obtain ⟨k, rfl⟩ : ∃ k', k = k' + 1 := ⟨k - 1, by omega⟩
    have hi : i < at_.length := by omega
    unfold ramekinlaw6_BitsCount.l0
    obtain ⟨p, hp⟩ := Int.eq_ofNat_of_zero_le (hr _ (List.getElem_mem hi)).1
    have hp2 := (hr _ (List.getElem_mem hi)).2
    have hstep : wrap64 ((i : Int) + 1) = ((i + 1 : Nat) : Int) := by rw [w64 (by omega) (by omega)]; omega
    rw [rd_at _ _ hi]
    rw [hp] at hp2 ⊢
    have hd : wrap64 (Int.tdiv (p : Int) 8) = ((p / 8 : Nat) : Int) := by
      rw [Int.tdiv_eq_ediv_of_nonneg (by omega), w64 (by omega) (by omega)]; omega
    have hm : IntKind.u64.wrap (Int.tmod (p : Int) 8) = ((p % 8 : Nat) : Int) := by
      rw [Int.tmod_eq_emod_of_nonneg (by omega), IntKind.wrap_u64]; omega
    have htake : at_.take (i + 1) = at_.take i ++ [(p : Int)] := by rw [List.take_add_one, List.getElem?_eq_getElem hi, hp]; rfl
    have hnew : flips a (at_.take (i + 1)) = flip1 (flips a (at_.take i)) (p : Int) := by rw [htake, flips_append]; rfl
    have hpl : p < 8 * a.length := by omega
    have hlf := flips_length (at_.take i) a
    have hone := ones_flip1 (a := flips a (at_.take i)) p (by rw [hlf]; exact hpl)
    have hnot : (p : Int) ∉ at_.take i := by
      intro hmem
      have h2 : (at_.take (i + 1)).Nodup := (List.take_sublist _ _).nodup hn
      rw [htake, List.nodup_append] at h2
      exact h2.2.2 _ hmem _ (List.mem_singleton.2 rfl) rfl
    rw [bit_flips _ a p hpl, par_out hnot, Bool.xor_false] at hone
    have o1 := ones_le (flips a (at_.take i))
    have o2 := ones_le a
    rw [hlf] at o1
    rw [if_pos (show (i : Int) < (at_.length : Int) by omega), if_pos (Int.natCast_nonneg i), hd, hm, if_pos (Int.natCast_nonneg _), if_pos (show ((p / 8 : Nat) : Int) < ((int a).length : Int) by rw [int_length]; omega), if_pos (Int.natCast_nonneg _), hstep]
    by_cases hbit : bitAt a p = true
    · rw [if_pos ((bit_of ha p).2 hbit)]
      rw [if_pos hbit] at hone
      refine ih (i + 1) k _ (by omega) (by omega) ?_
      rw [hnew, w64 (by omega) (by omega)]; omega
    · rw [if_neg (fun h => hbit ((bit_of ha p).1 h))]
      rw [if_neg hbit] at hone
      refine ih (i + 1) k _ (by omega) (by omega) ?_
      rw [hnew, w64 (by omega) (by omega)]; omega

theorem known_c : ramekinlaw6_known.f = some true := by decide +kernel
theorem BitsCount : ramekinlaw6_BitsCount.Pure := by
  intro l0 l1 _ _ h0 hm1 _ h1
  have hb := wf_bytes h0
  obtain ⟨a, rfl, ha⟩ : ∃ a : List Nat, l0 = int a ∧ Bytes a := ⟨nat l0, (int_nat hb).symm, nat_mem_lt hb⟩
  by_cases hz : (int a).length = 0
  · refine ⟨2, ?_⟩
    unfold ramekinlaw6_BitsCount.f
    rw [known_c, Option.bind_some, if_pos rfl, if_pos (by omega)]
    rfl
  · by_cases h60 : (int a).length > 60
    · refine ⟨2, ?_⟩
      unfold ramekinlaw6_BitsCount.f
      rw [known_c, Option.bind_some, if_pos rfl, if_neg (by omega), decide_eq_true (by omega)]
      rfl
    · rw [int_length] at hz h60
      obtain ⟨K, hK⟩ := places_f l1 (8 * (a.length : Int)) 20 (by omega) (by omega) (by omega) (by unfold maxLen at hm1; omega)
      have hfit := places_fit (n := 8 * (a.length : Int)) (by omega) 20 l1 [] ⟨List.nodup_nil, fun x hx => by cases hx⟩ (by simp)
      refine ⟨K + 30, ?_⟩
      unfold ramekinlaw6_BitsCount.f
      rw [known_c, Option.bind_some, if_pos rfl, if_neg (by rw [int_length]; omega), decide_eq_false (by rw [int_length]; omega)]
      rw [show K + 30 = (K + 29) + 1 from rfl]
      show (if false = true then some true else (ramekinlaw4_Places.f (K + 29) l1 (wrap64 (8 * ((int a).length : Int))) 20).bind fun t119 => ramekinlaw6_BitsCount.l0 (K + 29) (int a) t119 0 0) = some true
      rw [if_neg (by simp), int_length, w64 (by omega) (by omega), show (20 : Int) = ((20 : Nat) : Int) from rfl, hK (K + 29) (by omega), Option.bind_some]
      exact count_l0 ha (by omega) hfit.1.1 hfit.1.2 hfit.2 _ 0 (K + 29) 0 (Nat.zero_add _) (by have := hfit.2; omega) (by simp [flips])

end Go.Proofs.Ytnlbekdjepkhcaa.Pure
