import Derived.Test.YtgalehapmdabeaaMi
/-
  The laws of the code, with no program in sight.
-/
set_option linter.unusedVariables false
set_option linter.unusedSimpArgs false
namespace Ram
open Go.Proofs.YtgalehapmdabeaaF (shlB shrB)
theorem encR_code {d : List UInt8} (h : d.length = 24) : IsCode (encR d) := by rw [encR_yes h]; exact enc_code h
theorem encR_length {d : List UInt8} (h : d.length = 24) : (encR d).length = 28 := (encR_code h).len
theorem encR_drop {d : List UInt8} (h : d.length = 24) : (encR d).drop 4 = d := by rw [encR_yes h]; exact enc_drop h
theorem synR_code {c : List UInt8} (h : IsCode c) : synR c = List.replicate 8 0 := by
  rw [synR_yes h.len]
  unfold sumsL
  rw [tab_rep]
  exact tab_ext fun i hi => h.sums (i + 1) (by omega) (by omega)
/-! sums of codewords -/
def xorL (a b : List UInt8) : List UInt8 := tab 24 (fun k => a.getD k 0 ^^^ b.getD k 0)
def xorTo (a b : List UInt8) (i : Nat) : List UInt8 := tab 24 (fun k => if k < i then a.getD k 0 ^^^ b.getD k 0 else 0)
theorem xorTo_length (a b : List UInt8) (i : Nat) : (xorTo a b i).length = 24 := tab_length
theorem xorTo_zero (a b : List UInt8) : List.replicate 24 0 = xorTo a b 0 := by unfold xorTo; rw [tab_rep]; exact tab_ext fun k _ => by rw [if_neg (by omega)]
theorem xorTo_step (a b : List UInt8) (i : Nat) : (xorTo a b i).set i (a.getD i 0 ^^^ b.getD i 0) = xorTo a b (i + 1) := by
  unfold xorTo
  refine set_tab (by rw [if_pos (by omega)]) fun k _ hk => ?_
  by_cases h : k < i
  · rw [if_pos h, if_pos (by omega)]
  · rw [if_neg h, if_neg (by omega)]
theorem xorTo_done (a b : List UInt8) {i : Nat} (h : 24 ≤ i) : xorTo a b i = xorL a b := tab_ext fun k hk => by rw [if_pos (by omega)]
theorem xorL_length (a b : List UInt8) : (xorL a b).length = 24 := tab_length
theorem bt_tab_xor (n : Nat) (a b : List UInt8) (k : Nat) : bt (tab n (fun j => a.getD j 0 ^^^ b.getD j 0)) k = (decide (k < 8 * n) && (bt a k != bt b k)) := by
  unfold bt
  by_cases h : k < 8 * n
  · rw [tab_at (show k / 8 < n by omega), xor_bit]; simp [h]
  · rw [tab_out (show n ≤ k / 8 by omega)]; simp [h]
theorem enc_xor {a b : List UInt8} (ha : a.length = 24) (hb : b.length = 24) : encR (xorL a b) = tab 28 (fun j => (encR a).getD j 0 ^^^ (encR b).getD j 0) := by
  rw [encR_yes (xorL_length a b)]
  have h1 := encR_code ha
  have h2 := encR_code hb
  refine (enc_of (xorL_length a b) ⟨tab_length, fun i hi1 hi8 => ?_⟩ ?_).symm
  · unfold sW
    rw [tab_length, sB_ext (g := fun k => bt (encR a) k != bt (encR b) k) (fun k hk => by rw [bt_tab_xor, decide_eq_true hk, Bool.true_and]), sB_xor]
    have e1 := h1.sums i hi1 hi8
    have e2 := h2.sums i hi1 hi8
    unfold sW at e1 e2
    rw [h1.len] at e1; rw [h2.len] at e2
    rw [e1, e2]; rfl
  · refine list_ext 0 (by rw [List.length_drop, tab_length, xorL_length]) fun i hi => ?_
    rw [List.length_drop, tab_length] at hi
    rw [getD_drop, tab_at (by omega)]
    unfold xorL
    rw [tab_at (by omega)]
    have e1 : a.getD i 0 = (encR a).getD (4 + i) 0 := by rw [← getD_drop, encR_drop ha]
    have e2 : b.getD i 0 = (encR b).getD (4 + i) 0 := by rw [← getD_drop, encR_drop hb]
    rw [e1, e2]
theorem enc_xor_at {a b : List UInt8} (ha : a.length = 24) (hb : b.length = 24) {j : Nat} (h : j < 28) : (encR (xorL a b)).getD j 0 = (encR a).getD j 0 ^^^ (encR b).getD j 0 := by rw [enc_xor ha hb, tab_at h]
theorem apR_eq {a b : List UInt8} (h : a.length = b.length) : apR a b = apL a b := if_pos h
theorem apL_nil {a b : List UInt8} (hl : a.length = b.length) (h : (apL a b).length = 0) : a = b := by
  refine bt_ext hl fun k hk => ?_
  have h0 := List.eq_nil_of_length_eq_zero h
  unfold apL at h0
  have := List.filter_eq_nil_iff.1 h0 k (List.mem_range.2 hk)
  simpa using this
theorem sums_same {a b : List UInt8} (ha : a.length = 24) (hb : b.length = 24) (h : (apR (encR a) (encR b)).length = 0) : a = b := by
  have hl : (encR a).length = (encR b).length := by rw [encR_length ha, encR_length hb]
  rw [apR_eq hl] at h
  rw [← encR_drop ha, ← encR_drop hb, apL_nil hl h]
theorem sums_far {a b : List UInt8} (ha : a.length = 24) (hb : b.length = 24) (h : ¬ (apR (encR a) (encR b)).length = 0) : 9 ≤ (apR (encR a) (encR b)).length := by
  have hl : (encR a).length = (encR b).length := by rw [encR_length ha, encR_length hb]
  rw [apR_eq hl] at h ⊢
  rcases Nat.lt_or_ge (apL (encR a) (encR b)).length 9 with h9 | h9
  · exfalso; apply h
    have := code_dist (encR_code ha) (encR_code hb) (by omega)
    rw [this]
    unfold apL
    simp
  · exact h9
/-! the generator -/
def genQ : List UInt8 := [1, 0, 1, 1, 0, 1, 1, 0, 0, 1, 1, 0, 1, 1, 1, 1, 1, 1, 1, 1, 1, 1, 0, 0, 1, 0, 0, 1, 1, 1, 1, 1, 1, 0, 0, 0, 0, 1, 0, 1, 1, 1, 1, 0, 0, 0, 1, 1, 1, 1, 0, 1, 1, 0, 0, 1, 1, 0, 1, 0, 1, 0, 0, 0, 1, 1, 0, 1, 1, 0, 0, 1, 0, 1, 0, 1, 1, 0, 1, 1, 0, 0, 0, 1, 0, 1, 1, 0, 0, 1, 1, 0, 0, 0, 1, 1, 1, 0, 1, 0, 1, 1, 1, 0, 1, 0, 0, 0, 0, 1, 1, 1, 1, 0, 1, 1, 1, 0, 1, 0, 1, 1, 1, 1, 1, 1, 0, 1, 1, 0, 0, 0, 0, 1, 1, 1, 1, 0, 0, 0, 0, 1, 1, 0, 0, 1, 1, 1, 1, 0, 1, 0, 0, 1, 0, 0, 1, 0, 0, 1, 0, 1, 0, 1, 0, 1, 0, 0, 1, 0, 0, 0, 1, 1, 1, 1, 1, 0, 0, 0, 1, 1, 0, 0, 1, 1, 1, 1, 1, 0, 0, 1, 1, 1, 0, 0, 0, 0, 1, 0, 1, 0, 1, 0, 1, 0, 0, 1, 0, 1, 1, 1, 1, 0, 0, 0, 0, 1, 0, 1, 0, 0, 1, 1]
theorem gen_full : mulP genP genQ = 1 :: (List.replicate 254 0 ++ [1]) := by rw [genP_eq]; decide +kernel
theorem gen_rem : remP (((List.replicate 256 (0 : UInt8)).set 0 1).set 255 1) genP = [] := by
  have h : ((List.replicate 256 (0 : UInt8)).set 0 1).set 255 1 = mulP genQ genP := by
    rw [mulP_comm, gen_full]; decide +kernel
  rw [h]
  exact rem_mul genP_some
theorem gen_isP : isP genP = true := isP_yes genP_some
theorem gen_le (i : Nat) : ¬ (1 : UInt8).toNat < (genP.getD i 0).toNat := by
  rcases gen_bit i with h | h <;> rw [h] <;> decide
theorem gen_ev {i : Nat} (h1 : 1 ≤ i) (h8 : i ≤ 8) : evP genP (exI (i : Int)) = 0 := by rw [exI_nat]; exact gen_root h1 h8
/-! words with places turned -/
theorem in_place {c : List UInt8} (hc : c.length = 28) (l : List Int) (most : Nat) : ∀ k ∈ placesL l 224 most, k < 8 * c.length := fun k hk => by
  have := places_in l most (show 0 < 224 by decide) k hk; omega
def synL (L : List Nat) : List UInt8 := tab 8 (fun i => syn L (i + 1))
theorem synR_flip {c : List UInt8} (hc : IsCode c) {L : List Nat} (hn : L.Nodup) (hl : ∀ k ∈ L, k < 224) : synR (flipL c L) = synL L := by
  rw [synR_yes (by rw [flipL_length, hc.len])]
  exact tab_ext fun i hi => code_flip hc hn hl (by omega) (by omega)
theorem synL_length (L : List Nat) : (synL L).length = 8 := tab_length
theorem synL_at (L : List Nat) {i : Nat} (h1 : 1 ≤ i) (h8 : i ≤ 8) : (synL L).getD (i - 1) 0 = syn L i := by unfold synL; rw [tab_at (by omega), show i - 1 + 1 = i by omega]
theorem syn_take (L : List Nat) (i : Nat) {j : Nat} (h : j < L.length) : syn (L.take j) i ^^^ exI (((L.getD j 0 * i : Nat)) : Int) = syn (L.take (j + 1)) i := by
  rw [take_next (d := 0) h, syn_snoc, exI_nat, Nat.mul_comm]
theorem synL_sq (L : List Nat) {i : Nat} (h1 : 1 ≤ i) (h8 : i ≤ 8) (he : i % 2 = 0) : (synL L).getD (i - 1) 0 = gm ((synL L).getD (i / 2 - 1) 0) ((synL L).getD (i / 2 - 1) 0) := by
  rw [synL_at L h1 h8, synL_at L (i := i / 2) (by omega) (by omega), ← syn_sq]
  congr 1; omega
def btTo (w : List UInt8) (i : Nat) : List UInt8 := tab 224 (fun k => if k < i then (if bt w k then 1 else 0) else 0)
theorem btTo_length (w : List UInt8) (i : Nat) : (btTo w i).length = 224 := tab_length
theorem btTo_zero (w : List UInt8) : List.replicate 224 0 = btTo w 0 := by unfold btTo; rw [tab_rep]; exact tab_ext fun k _ => by rw [if_neg (by omega)]
theorem btTo_step (w : List UInt8) (i : Nat) : (btTo w i).set i (shrB (w.getD (i / 8) 0) (i % 8) &&& 1) = btTo w (i + 1) := by
  unfold btTo
  refine set_tab ?_ fun k _ hk => ?_
  · rw [if_pos (by omega)]
    have h := shr_bit (w.getD (i / 8) 0) (k := i % 8) (Nat.mod_lt _ (by decide))
    have h2 := shr_no (w.getD (i / 8) 0) (k := i % 8) (Nat.mod_lt _ (by decide))
    unfold bt
    cases hb : (w.getD (i / 8) 0).toNat.testBit (i % 8) with
    | true => rw [h.2 hb]; rfl
    | false => rw [h2.2 hb]; rfl
  · by_cases h : k < i
    · rw [if_pos h, if_pos (show k < i + 1 by omega)]
    · rw [if_neg h, if_neg (show ¬ k < i + 1 by omega)]
theorem btTo_ev {w : List UInt8} (hw : w.length = 28) {j i : Nat} (hj : j = 224) (h1 : 1 ≤ i) (h8 : i ≤ 8) : evP (btTo w j) (exI (i : Int)) = (synR w).getD (i - 1) 0 := by
  subst hj
  rw [exI_nat, synR_yes hw, sumsL_at w (by omega), show i - 1 + 1 = i by omega]
  have : btTo w 224 = ofBits 224 (bt w) := tab_ext fun k hk => by rw [if_pos hk]
  rw [this, evP_bits]
  unfold sW; rw [hw]
/-! decoding -/
theorem dec_true {w : List UInt8} (h : decB w = true) : w.length = 28 ∧ ∃ L, Near w L ∧ decD w = (flipL w L).drop 4 ∧ decN w = L.length := by
  by_cases hw : w.length = 28
  · refine ⟨hw, ?_⟩
    by_cases hN : ∃ L, Near w L
    · obtain ⟨L, hN⟩ := hN
      exact ⟨L, hN, (dec_some hw hN).1, (dec_some hw hN).2.1⟩
    · rw [(dec_none hw fun L hL => hN ⟨L, hL⟩).2.2] at h; cases h
  · rw [(dec_bad hw).2.2] at h; cases h
theorem dec_false {w : List UInt8} (h : decB w = false) : decD w = [] ∧ decN w = 0 := by
  by_cases hw : w.length = 28
  · by_cases hN : ∃ L, Near w L
    · obtain ⟨L, hN⟩ := hN
      rw [(dec_some hw hN).2.2] at h; cases h
    · exact ⟨(dec_none hw fun L hL => hN ⟨L, hL⟩).1, (dec_none hw fun L hL => hN ⟨L, hL⟩).2.1⟩
  · exact ⟨(dec_bad hw).1, (dec_bad hw).2.1⟩
theorem apL_flip {w : List UInt8} (hw : w.length = 28) {L : List Nat} (hN : Near w L) : apL (flipL w L) w = L := by
  unfold apL
  refine sorted_ext (filter_sorted _ _) hN.up fun x => ?_
  rw [List.mem_filter, List.mem_range, flipL_length, hw, bt_flipL (sorted_nodup hN.up) (fun k hk => by have := hN.lt k hk; omega)]
  by_cases hx : x ∈ L
  · have := hN.lt x hx
    simp only [hx, decide_true, iff_true]
    exact ⟨by omega, by cases bt w x <;> rfl⟩
  · simp [hx]
theorem enc_dec {w : List UInt8} {L : List Nat} (hw : w.length = 28) (hN : Near w L) : encR ((flipL w L).drop 4) = flipL w L := by
  have hc := hN.code hw
  rw [encR_yes (by rw [List.length_drop, hc.len])]
  exact enc_eq hc
theorem dec_apart {w : List UInt8} (h : decB w = true) : (apR (encR (decD w)) w).length = decN w := by
  obtain ⟨hw, L, hN, e1, e2⟩ := dec_true h
  rw [e1, enc_dec hw hN, apR_eq (by rw [flipL_length]), apL_flip hw hN, e2]
theorem mends_yes {d : List UInt8} (hd : d.length = 24) (l : List Int) {most : Nat} (h : ¬ 3 < (placesL l 224 most).length) : decD (flipL (encR d) (placesL l 224 most)) = d ∧ decN (flipL (encR d) (placesL l 224 most)) = (placesL l 224 most).length ∧ decB (flipL (encR d) (placesL l 224 most)) = true := by
  have hn := places_nodup l most (show 0 < 224 by decide)
  have hl := places_in l most (show 0 < 224 by decide)
  have hc := encR_code hd
  have hN := decL_of (dec_mends hc hn hl (by omega))
  have := dec_some (by rw [flipL_length, hc.len]) hN
  rw [flip_twice hc.len hn hl, upL_length hn hl, encR_drop hd] at this
  exact this
theorem mends_no {d : List UInt8} (hd : d.length = 24) (l : List Int) {most : Nat} (hm : most ≤ 5) (h : 3 < (placesL l 224 most).length) : decD (flipL (encR d) (placesL l 224 most)) = [] ∧ decN (flipL (encR d) (placesL l 224 most)) = 0 ∧ decB (flipL (encR d) (placesL l 224 most)) = false := by
  have hn := places_nodup l most (show 0 < 224 by decide)
  have hl := places_in l most (show 0 < 224 by decide)
  have hc := encR_code hd
  have := places_few l most (show 0 < 224 by decide)
  exact dec_none (by rw [flipL_length, hc.len]) (decL_no (dec_fails hc hn hl h (by omega)))
theorem one_dec {c : List UInt8} (hc : IsCode c) {k : Nat} (hk : k < 224) : decD (flipL c [k]) = c.drop 4 ∧ decN (flipL c [k]) = 1 ∧ decB (flipL c [k]) = true := by
  have hn : ([k] : List Nat).Nodup := by simp
  have hl : ∀ x ∈ [k], x < 224 := by simpa using hk
  have hN := decL_of (dec_mends hc hn hl (by simp))
  have := dec_some (by rw [flipL_length, hc.len]) hN
  rw [flip_twice hc.len hn hl, upL_length hn hl] at this
  exact this
theorem near_few {d : List UInt8} (hd : d.length = 24) (l : List Int) {most : Nat} (h : decB (flipL (encR d) (placesL l 224 most)) = false) : 3 < (placesL l 224 most).length := by
  rcases Nat.lt_or_ge 3 (placesL l 224 most).length with h3 | h3
  · exact h3
  · rw [(mends_yes hd l (by omega)).2.2] at h; cases h
/-- the codeword that is near, and the one that it was, differ in what was turned and what is turned back. -/
theorem near_apart {d : List UInt8} (hd : d.length = 24) (l : List Int) {most : Nat} {L : List Nat} (hN : Near (flipL (encR d) (placesL l 224 most)) L) (x : Nat) :
    x ∈ apL (flipL (flipL (encR d) (placesL l 224 most)) L) (encR d) ↔ x < 224 ∧ ((x ∈ placesL l 224 most ∧ x ∉ L) ∨ (x ∉ placesL l 224 most ∧ x ∈ L)) := by
  have hn := places_nodup l most (show 0 < 224 by decide)
  have hl := places_in l most (show 0 < 224 by decide)
  have hc := encR_code hd
  unfold apL
  rw [List.mem_filter, List.mem_range, flipL_length, flipL_length, hc.len,
    bt_flipL (sorted_nodup hN.up) (fun k hk => by rw [flipL_length, hc.len]; have := hN.lt k hk; omega), bt_flipL hn (fun k hk => by rw [hc.len]; have := hl k hk; omega)]
  by_cases h1 : x ∈ placesL l 224 most <;> by_cases h2 : x ∈ L <;> cases bt (encR d) x <;> simp [h1, h2]
theorem near_same {d : List UInt8} (hd : d.length = 24) (l : List Int) {most : Nat} (h : decB (flipL (encR d) (placesL l 224 most)) = true) (he : decD (flipL (encR d) (placesL l 224 most)) = d) : decN (flipL (encR d) (placesL l 224 most)) = (placesL l 224 most).length := by
  have hn := places_nodup l most (show 0 < 224 by decide)
  have hl := places_in l most (show 0 < 224 by decide)
  obtain ⟨hw, L, hN, e1, e2⟩ := dec_true h
  rw [e2]
  have hcc : flipL (flipL (encR d) (placesL l 224 most)) L = encR d := by rw [← enc_dec hw hN, ← e1, he]
  have hem : ∀ x, ¬ x ∈ apL (flipL (flipL (encR d) (placesL l 224 most)) L) (encR d) := by
    intro x hx
    rw [hcc] at hx
    unfold apL at hx
    simp at hx
  have hmem : ∀ x, x ∈ L ↔ x ∈ placesL l 224 most := by
    intro x
    have hno := mt (near_apart hd l hN x).2 (hem x)
    by_cases h1 : x ∈ placesL l 224 most
    · have := hl x h1
      by_cases h2 : x ∈ L
      · simp [h1, h2]
      · exact absurd ⟨this, .inl ⟨h1, h2⟩⟩ hno
    · by_cases h2 : x ∈ L
      · have := hN.lt x h2
        exact absurd ⟨this, .inr ⟨h1, h2⟩⟩ hno
      · simp [h1, h2]
  exact Nat.le_antisymm (nodup_len (sorted_nodup hN.up) fun x hx => (hmem x).1 hx) (nodup_len hn fun x hx => (hmem x).2 hx)
theorem near_other {d : List UInt8} (hd : d.length = 24) (l : List Int) {most : Nat} (h : decB (flipL (encR d) (placesL l 224 most)) = true) (he : ¬ decD (flipL (encR d) (placesL l 224 most)) = d) :
    decN (flipL (encR d) (placesL l 224 most)) ≤ 3 ∧ 9 - decN (flipL (encR d) (placesL l 224 most)) ≤ (placesL l 224 most).length ∧ 9 ≤ (apR (encR (decD (flipL (encR d) (placesL l 224 most)))) (encR d)).length := by
  obtain ⟨hw, L, hN, e1, e2⟩ := dec_true h
  have hc := hN.code hw
  have hc0 := encR_code hd
  have h9 : 9 ≤ (apL (flipL (flipL (encR d) (placesL l 224 most)) L) (encR d)).length := by
    rcases Nat.lt_or_ge (apL (flipL (flipL (encR d) (placesL l 224 most)) L) (encR d)).length 9 with h9 | h9
    · exfalso
      have := code_dist hc hc0 (by omega)
      apply he
      rw [e1, this, encR_drop hd]
    · exact h9
  have hsub : (apL (flipL (flipL (encR d) (placesL l 224 most)) L) (encR d)).length ≤ (L ++ placesL l 224 most).length := by
    refine nodup_len (List.Pairwise.filter _ List.nodup_range) fun x hx => ?_
    have := (near_apart hd l hN x).1 hx
    rw [List.mem_append]
    rcases this.2 with h | h
    · exact .inr h.1
    · exact .inl h.2
  rw [List.length_append] at hsub
  refine ⟨by rw [e2]; exact hN.few, by rw [e2]; omega, ?_⟩
  rw [e1, enc_dec hw hN, apR_eq (by rw [hc.len, hc0.len])]
  exact h9
/-! sizes -/
theorem encR_iff (d : List UInt8) : (encR d).length = 28 ↔ d.length = 24 := by
  by_cases h : d.length = 24
  · simp [encR_length h, h]
  · simp [encR_no h, h]
theorem encR_nil {d : List UInt8} (h : ¬ d.length = 24) : (encR d).length = 0 := by rw [encR_no h]; rfl
theorem synR_iff (d : List UInt8) : (synR d).length = 8 ↔ d.length = 28 := by
  unfold synR
  by_cases h : d.length = 28
  · simp [h, sumsL_length]
  · simp [h]
end Ram
