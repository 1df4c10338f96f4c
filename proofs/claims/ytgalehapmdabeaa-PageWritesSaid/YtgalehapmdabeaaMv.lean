/-
  Pages with bits turned.
-/
import Derived.Test.YtgalehapmdabeaaMn
import Derived.Test.YtgalehapmdabeaaMj
set_option linter.unusedVariables false
set_option linter.unusedSimpArgs false
namespace Go.Proofs.YtgalehapmdabeaaF
open Go Go.Shelf Go.Proofs.YtgalehapmdabeaaS Ram

theorem bt_take (w : List UInt8) (n k : Nat) : bt (w.take n) k = (decide (k < 8 * n) && bt w k) := by
  by_cases h : k < 8 * n
  · rw [decide_eq_true h, Bool.true_and]
    unfold bt
    have h2 : k / 8 < n := by omega
    rw [List.getD_eq_getElem?_getD, List.getD_eq_getElem?_getD, List.getElem?_take_of_lt h2]
  · rw [decide_eq_false h, Bool.false_and]
    exact bt_out (by rw [List.length_take]; omega)
/-- Places of a part: those from byte a on, n bytes. -/
def partP (a n : Nat) (P : List Nat) : List Nat := (P.filter fun k => decide (8 * a ≤ k ∧ k < 8 * (a + n))).map (· - 8 * a)
theorem partP_mem {a n : Nat} {P : List Nat} {k : Nat} : k ∈ partP a n P ↔ k < 8 * n ∧ k + 8 * a ∈ P := by
  unfold partP
  rw [List.mem_map]
  constructor
  · rintro ⟨x, hx, rfl⟩
    obtain ⟨h1, h2⟩ := List.mem_filter.1 hx
    have h3 := of_decide_eq_true h2
    refine ⟨by omega, ?_⟩
    rw [Nat.sub_add_cancel h3.1]; exact h1
  · rintro ⟨h1, h2⟩
    exact ⟨k + 8 * a, List.mem_filter.2 ⟨h2, decide_eq_true (by omega)⟩, by omega⟩
theorem partP_nodup {a n : Nat} {P : List Nat} (h : P.Nodup) : (partP a n P).Nodup := by
  unfold partP
  rw [List.Nodup, List.pairwise_map]
  refine (List.Pairwise.filter _ h).imp_of_mem ?_
  intro x y hx hy hxy
  have h1 := of_decide_eq_true (List.mem_filter.1 hx).2
  have h2 := of_decide_eq_true (List.mem_filter.1 hy).2
  omega
theorem partP_lt {a n : Nat} {P : List Nat} : ∀ k ∈ partP a n P, k < 8 * n := fun k hk => (partP_mem.1 hk).1
theorem flip_part {w : List UInt8} {P : List Nat} (hn : P.Nodup) (hl : ∀ k ∈ P, k < 8 * w.length) {a n : Nat} (h : a + n ≤ w.length) : ((flipL w P).drop a).take n = flipL ((w.drop a).take n) (partP a n P) := by
  have hlen : ((w.drop a).take n).length = n := by rw [List.length_take, List.length_drop]; omega
  refine bt_ext (by rw [flipL_length, hlen, List.length_take, List.length_drop, flipL_length]; omega) fun k hk => ?_
  rw [List.length_take, List.length_drop, flipL_length] at hk
  rw [bt_flipL (partP_nodup hn) (fun k hk => by rw [hlen]; exact partP_lt k hk), bt_take, bt_drop, bt_flipL hn hl, bt_take, bt_drop]
  have hk8 : k < 8 * n := by omega
  rw [decide_eq_true hk8, Bool.true_and, Bool.true_and]
  congr 1
  rw [decide_eq_decide, partP_mem]
  rw [Nat.add_comm k]
  exact ⟨fun h => ⟨hk8, h⟩, fun h => h.2⟩
theorem partP_app (a n : Nat) (P Q : List Nat) : partP a n (P ++ Q) = partP a n P ++ partP a n Q := by unfold partP; rw [List.filter_append, List.map_append]
theorem partP_none {a n : Nat} {P : List Nat} (h : ∀ k ∈ P, ¬ (8 * a ≤ k ∧ k < 8 * (a + n))) : partP a n P = [] := by
  unfold partP
  rw [List.filter_eq_nil_iff.2 fun k hk => by simpa using fun h1 => Nat.le_of_not_lt fun h2 => h k hk ⟨h1, h2⟩]
  rfl
theorem partP_all {a n : Nat} {P : List Nat} (h : ∀ k ∈ P, k < 8 * n) : partP a n (P.map (8 * a + ·)) = P := by
  unfold partP
  rw [List.filter_eq_self.2 fun k hk => by
    obtain ⟨x, hx, rfl⟩ := List.mem_map.1 hk
    have := h x hx
    exact decide_eq_true (by omega)]
  rw [List.map_map]
  conv => rhs; rw [← List.map_id P]
  exact List.map_congr_left fun x _ => by simp
theorem onesN_flip0 {n : Nat} {L : List Nat} (hn : L.Nodup) (hl : ∀ k ∈ L, k < 8 * n) : onesN (flipL (List.replicate n 0) L) = L.length := by
  unfold onesN onesP onesTo
  rw [flipL_length, List.length_replicate]
  have hm : ∀ k, k ∈ (List.range (8 * n)).filter (bt (flipL (List.replicate n 0) L)) ↔ k ∈ L := fun k => by
    rw [List.mem_filter, List.mem_range, bt_flipL hn (by rw [List.length_replicate]; exact hl), bt_rep0]
    constructor
    · rintro ⟨_, h2⟩; simpa using h2
    · intro h; exact ⟨hl k h, by simpa using h⟩
  refine Nat.le_antisymm (nodup_len (List.Pairwise.filter _ List.nodup_range) fun k hk => (hm k).1 hk) (nodup_len hn fun k hk => (hm k).2 hk)
theorem map_nodup {f : Nat → Nat} {L : List Nat} (hf : ∀ x y, f x = f y → x = y) (h : L.Nodup) : (L.map f).Nodup := by rw [List.Nodup, List.pairwise_map]; exact h.imp fun hne e => hne (hf _ _ e)
theorem dec_yes {d : List UInt8} (hd : d.length = 24) {L : List Nat} (hn : L.Nodup) (hl : ∀ k ∈ L, k < 224) (h3 : L.length ≤ 3) : decD (flipL (encR d) L) = d ∧ decB (flipL (encR d) L) = true := by
  have hc := encR_code hd
  have hN := decL_of (dec_mends hc hn hl h3)
  have := dec_some (by rw [flipL_length, hc.len]) hN
  rw [flip_twice hc.len hn hl, encR_drop hd] at this
  exact ⟨this.1, this.2.2⟩
theorem dec_not {d : List UInt8} (hd : d.length = 24) {L : List Nat} (hn : L.Nodup) (hl : ∀ k ∈ L, k < 224) (h3 : 3 < L.length) (h5 : L.length ≤ 5) : decB (flipL (encR d) L) = false := by
  have hc := encR_code hd
  exact (dec_none (by rw [flipL_length, hc.len]) (decL_no (dec_fails hc hn hl h3 h5))).2.2
section
variable {d c m : List UInt8} {P : List Nat}
theorem pgH_length (hd : d.length = 48) {i : Nat} (hi : i < 2) : (pgH d i).length = 24 := by
  unfold pgH; rw [List.length_take, List.length_drop, hd]
  rcases (show i = 0 ∨ i = 1 by omega) with rfl | rfl <;> rfl
theorem pgE_length (hd : d.length = 48) : (pgE d).length = 60 := by
  rw [pgE_yes hd, List.length_append, List.length_append, List.length_replicate, encR_length (pgH_length hd (by decide)), encR_length (pgH_length hd (by decide))]
theorem pgE_mark (hd : d.length = 48) : (pgE d).take 4 = List.replicate 4 0 := by
  rw [pgE_yes hd, List.append_assoc, List.take_left' (by simp)]
theorem pgE_drop (hd : d.length = 48) : (pgE d).drop 4 = encR (pgH d 0) ++ encR (pgH d 1) := by
  rw [pgE_yes hd, List.append_assoc, List.drop_left' (by simp)]
theorem pgW_of (w : List UInt8) (i : Nat) : pgW w i = ((w.drop 4).drop (i * 28)).take 28 := rfl
theorem pgW_enc (hd : d.length = 48) {w : List UInt8} (hw : w.drop 4 = (pgE d).drop 4) {i : Nat} (hi : i < 2) : pgW w i = encR (pgH d i) := by
  have h0 := encR_length (pgH_length hd (i := 0) (by decide))
  have h1 := encR_length (pgH_length hd (i := 1) (by decide))
  rw [pgW_of, hw, pgE_drop hd]
  rcases (show i = 0 ∨ i = 1 by omega) with rfl | rfl
  · rw [Nat.zero_mul, List.drop_zero, List.take_left' h0]
  · rw [Nat.one_mul, List.drop_left' h0, List.take_of_length_le (by omega)]
theorem halves (hd : d.length = 48) : pgH d 0 ++ pgH d 1 = d := by
  rw [pgH0, pgH1 hd, List.take_append_drop]
/-- A page whose words are codewords, turned so or so. -/
theorem page_words (hd : d.length = 48) (hc : c.length = 60) (hm : ¬ 16 < onesN (c.take 4)) {A B : List Nat} (hA : pgW c 0 = flipL (encR (pgH d 0)) A) (hB : pgW c 1 = flipL (encR (pgH d 1)) B)
    (nA : A.Nodup) (nB : B.Nodup) (lA : ∀ k ∈ A, k < 224) (lB : ∀ k ∈ B, k < 224) (fA : A.length ≤ 5) (fB : B.length ≤ 5) : pgD c = if 3 < A.length ∨ 3 < B.length then (1, []) else (2, d) := by
  split
  · next h =>
    rcases h with h | h
    · exact pgD_bad hc hm (k := 0) (by decide) (by rw [hA]; exact dec_not (pgH_length hd (by decide)) nA lA h fA)
    · exact pgD_bad hc hm (k := 1) (by decide) (by rw [hB]; exact dec_not (pgH_length hd (by decide)) nB lB h fB)
  · next h =>
    have h0 := dec_yes (pgH_length hd (i := 0) (by decide)) nA lA (by omega)
    have h1 := dec_yes (pgH_length hd (i := 1) (by decide)) nB lB (by omega)
    rw [pgD_good hc hm (by rw [hA]; exact h0.2) (by rw [hB]; exact h1.2), hA, hB, h0.1, h1.1, halves hd]
theorem page_flip (hd : d.length = 48) (hn : P.Nodup) (hl : ∀ k ∈ P, k < 480) (fA : (partP 4 28 P).length ≤ 5) (fB : (partP 32 28 P).length ≤ 5) :
    pgD (flipL (pgE d) P) = if 16 < (partP 0 4 P).length then (0, []) else if 3 < (partP 4 28 P).length ∨ 3 < (partP 32 28 P).length then (1, []) else (2, d) := by
  have hw := pgE_length hd
  have hl' : ∀ k ∈ P, k < 8 * (pgE d).length := by rw [hw]; exact hl
  have hc : (flipL (pgE d) P).length = 60 := by rw [flipL_length, hw]
  have hm : onesN ((flipL (pgE d) P).take 4) = (partP 0 4 P).length := by
    have := flip_part hn hl' (a := 0) (n := 4) (by rw [hw]; decide)
    rw [List.drop_zero, List.drop_zero, pgE_mark hd] at this
    rw [this]
    exact onesN_flip0 (partP_nodup hn) partP_lt
  have h0 : pgW (flipL (pgE d) P) 0 = flipL (encR (pgH d 0)) (partP 4 28 P) := by
    rw [← pgW_enc hd rfl (by decide), pgW_of, pgW_of, Nat.zero_mul, List.drop_zero, List.drop_zero]
    exact flip_part hn hl' (by rw [hw]; decide)
  have h1 : pgW (flipL (pgE d) P) 1 = flipL (encR (pgH d 1)) (partP 32 28 P) := by
    rw [← pgW_enc hd rfl (by decide), pgW_of, pgW_of, Nat.one_mul, List.drop_drop, List.drop_drop]
    exact flip_part hn hl' (by rw [hw]; decide)
  split
  · next h => exact pgD_blank hc (by rw [hm]; exact h)
  · next h => exact page_words hd hc (by rw [hm]; exact h) h0 h1 (partP_nodup hn) (partP_nodup hn) partP_lt partP_lt fA fB
/-- The same page with another marker. -/
theorem page_mark (hd : d.length = 48) (hc : c.length = 60) (h : c.drop 4 = (pgE d).drop 4) : pgD c = if 16 < onesN (c.take 4) then (0, []) else (2, d) := by
  split
  · next hb => exact pgD_blank hc hb
  · next hb =>
    have := page_words hd hc hb (A := []) (B := []) (pgW_enc hd h (by decide)) (pgW_enc hd h (by decide)) List.nodup_nil List.nodup_nil (fun _ h => by cases h) (fun _ h => by cases h) (by simp) (by simp)
    rw [this]
    simp
theorem page_plain (hd : d.length = 48) : pgD (pgE d) = (2, d) := by
  rw [page_mark hd (pgE_length hd) rfl, pgE_mark hd, if_neg (by decide +kernel)]
theorem page_zero : pgD (List.replicate 60 0) = (2, List.replicate 48 0) := by
  have h : pgE (List.replicate 48 0) = List.replicate 60 0 := by
    rw [pgE_yes (by simp)]
    have h0 : pgH (List.replicate 48 0) 0 = List.replicate 24 0 := by simp [pgH]
    have h1 : pgH (List.replicate 48 0) 1 = List.replicate 24 0 := by simp [pgH]
    rw [h0, h1, enc_zero]
    simp
  rw [← h]
  exact page_plain (by simp)
theorem page_ones : pgD (List.replicate 60 255) = (0, []) := pgD_blank (by simp) (by decide +kernel)
end
/-- Bytes that are all ones from some place down. -/
def ffTo (n i : Nat) : List UInt8 := tab n (fun k => if k < i then 255 else 0)
theorem ffTo_length (n i : Nat) : (ffTo n i).length = n := tab_length
theorem ffTo_zero (n : Nat) : List.replicate n 0 = ffTo n 0 := by unfold ffTo; rw [tab_rep]; exact tab_ext fun k _ => by rw [if_neg (by omega)]
theorem ffTo_step (n i : Nat) : (ffTo n i).set i 255 = ffTo n (i + 1) := set_tab (by rw [if_pos (by omega)]) fun k _ hk => by
  by_cases h : k < i
  · rw [if_pos h, if_pos (by omega)]
  · rw [if_neg h, if_neg (by omega)]
theorem ffTo_done {n i : Nat} (h : n ≤ i) : ffTo n i = List.replicate n 255 := by unfold ffTo; rw [tab_rep]; exact tab_ext fun k _ => by rw [if_pos (by omega)]
/-! Noise: places of both words. -/
def hfL (l : List Int) : List Int := l.map fun x => IntKind.i64.wrap (Int.tdiv x 224)
def noiseL (l : List Int) (most : Nat) : List Nat := (placesL l 224 most).map (32 + ·) ++ (placesL (hfL l) 224 most).map (256 + ·)
theorem hfL_length (l : List Int) : (hfL l).length = l.length := by simp [hfL]
theorem hfL_next {l : List Int} {i : Nat} (h : i < l.length) : hfL (l.take i) ++ [IntKind.i64.wrap (Int.tdiv (l.getD i 0) 224)] = hfL (l.take (i + 1)) := by rw [take_next (d := (0 : Int)) h]; simp [hfL]
theorem map_next {f : Nat → Nat} {l : List Nat} {i : Nat} (h : i < l.length) : (l.take i).map f ++ [f (l.getD i 0)] = (l.take (i + 1)).map f := by rw [take_next (d := 0) h]; simp
theorem noise_len (l : List Int) (most : Nat) : (noiseL l most).length ≤ 2 * most := by
  unfold noiseL
  rw [List.length_append, List.length_map, List.length_map]
  have := places_le l 224 most; have := places_le (hfL l) 224 most
  omega
section
variable {l l' : List Int} {most : Nat}
theorem noise_in (l : List Int) (most : Nat) : ∀ k ∈ noiseL l most, 32 ≤ k ∧ k < 480 := fun k hk => by
  unfold noiseL at hk
  rcases List.mem_append.1 hk with h | h <;> obtain ⟨x, hx, rfl⟩ := List.mem_map.1 h
  · have := places_in l most (show 0 < 224 by decide) x hx; omega
  · have := places_in (hfL l) most (show 0 < 224 by decide) x hx; omega
theorem noise_nodup (l : List Int) (most : Nat) : (noiseL l most).Nodup := by
  unfold noiseL
  refine List.nodup_append.2 ⟨?_, ?_, ?_⟩
  · exact map_nodup (fun x y h => by omega) (places_nodup l most (by decide))
  · exact map_nodup (fun x y h => by omega) (places_nodup (hfL l) most (by decide))
  · intro x hx y hy
    obtain ⟨a, ha, rfl⟩ := List.mem_map.1 hx
    obtain ⟨b, hb, rfl⟩ := List.mem_map.1 hy
    have := places_in l most (show 0 < 224 by decide) a ha
    omega
theorem noise_first (l : List Int) (most : Nat) : partP 4 28 (noiseL l most) = placesL l 224 most := by
  unfold noiseL
  rw [partP_app, show (fun x => 32 + x) = (8 * 4 + · : Nat → Nat) from rfl, partP_all (places_in l most (by decide)), partP_none, List.append_nil]
  intro k hk
  obtain ⟨b, hb, rfl⟩ := List.mem_map.1 hk
  omega
theorem noise_second (l : List Int) (most : Nat) : partP 32 28 (noiseL l most) = placesL (hfL l) 224 most := by
  unfold noiseL
  rw [partP_app, show (fun x => 256 + x) = (8 * 32 + · : Nat → Nat) from rfl, partP_all (places_in (hfL l) most (by decide)), partP_none, List.nil_append]
  intro k hk
  obtain ⟨b, hb, rfl⟩ := List.mem_map.1 hk
  have := places_in l most (show 0 < 224 by decide) b hb
  omega
theorem noise_none (l : List Int) (most : Nat) : partP 0 4 (noiseL l most) = [] := partP_none fun k hk => by have := noise_in l most k hk; omega
/-- How many of them are of the first word. -/
theorem noise_low (l : List Int) (most : Nat) : ((noiseL l most).filter fun k => decide (k < 256)).length = (placesL l 224 most).length := by
  unfold noiseL
  rw [List.filter_append, List.filter_eq_self.2, List.filter_eq_nil_iff.2, List.append_nil, List.length_map]
  · intro k hk
    obtain ⟨b, hb, rfl⟩ := List.mem_map.1 hk
    simp
  · intro k hk
    obtain ⟨b, hb, rfl⟩ := List.mem_map.1 hk
    have := places_in l most (show 0 < 224 by decide) b hb
    exact decide_eq_true (by omega)
theorem noise_total (l : List Int) (most : Nat) : (noiseL l most).length = (placesL l 224 most).length + (placesL (hfL l) 224 most).length := by unfold noiseL; simp
theorem low_yes {L : List Nat} {i : Nat} (h : i < L.length) (h2 : L.getD i 0 < 256) : ((L.take (i + 1)).filter fun k => decide (k < 256)).length = ((L.take i).filter fun k => decide (k < 256)).length + 1 := by
  rw [take_next (d := 0) h, List.filter_append, List.length_append, List.filter_cons, if_pos (decide_eq_true h2)]; rfl
theorem low_no {L : List Nat} {i : Nat} (h : i < L.length) (h2 : ¬ L.getD i 0 < 256) : ((L.take (i + 1)).filter fun k => decide (k < 256)).length = ((L.take i).filter fun k => decide (k < 256)).length := by
  rw [take_next (d := 0) h, List.filter_append, List.length_append, List.filter_cons, if_neg (by simpa using h2)]; rfl
theorem low_le (L : List Nat) (i : Nat) : ((L.take i).filter fun k => decide (k < 256)).length ≤ i := Nat.le_trans (List.length_filter_le ..) (by rw [List.length_take]; omega)
/-! The laws. -/
variable {d : List UInt8}
theorem pg_mends (hd : d.length = 48) (l m : List Int) {most : Nat} (h5 : most ≤ 5) : pgD (flipL (pgE d) (noiseL l most ++ placesL m 32 16)) = if 3 < (placesL l 224 most).length ∨ 3 < (placesL (hfL l) 224 most).length then (1, []) else (2, d) := by
  have hm := places_in m 16 (show 0 < 32 by decide)
  have hA : partP 4 28 (noiseL l most ++ placesL m 32 16) = placesL l 224 most := by rw [partP_app, noise_first, partP_none (P := placesL m 32 16) fun k hk => by have := hm k hk; omega, List.append_nil]
  have hB : partP 32 28 (noiseL l most ++ placesL m 32 16) = placesL (hfL l) 224 most := by rw [partP_app, noise_second, partP_none (P := placesL m 32 16) fun k hk => by have := hm k hk; omega, List.append_nil]
  have hM : (partP 0 4 (noiseL l most ++ placesL m 32 16)).length ≤ 16 := by
    rw [partP_app, noise_none, List.nil_append]
    unfold partP
    rw [List.length_map]
    exact Nat.le_trans (List.length_filter_le ..) (places_le m 32 16)
  have hn : (noiseL l most ++ placesL m 32 16).Nodup := List.nodup_append.2 ⟨noise_nodup l most, places_nodup m 16 (by decide), fun x hx y hy => by have := noise_in l most x hx; have := hm y hy; omega⟩
  have hl : ∀ k ∈ noiseL l most ++ placesL m 32 16, k < 480 := fun k hk => by
    rcases List.mem_append.1 hk with h | h
    · exact (noise_in l most k h).2
    · have := hm k h; omega
  have a5 := places_le l 224 most
  have b5 := places_le (hfL l) 224 most
  rw [page_flip hd hn hl (by rw [hA]; omega) (by rw [hB]; omega), if_neg (by omega), hA, hB]
theorem pg_flip_in (hd : d.length = 48) {L : List Nat} (hl : ∀ k ∈ L, k < 480) : ∀ k ∈ L, k < 8 * (pgE d).length := by rw [pgE_length hd]; exact hl
theorem pg_blank (hd : d.length = 48) (m : List Int) : pgD (flipL (pgE d) (placesL m 32 32)) = if 16 < (placesL m 32 32).length then (0, []) else (2, d) := by
  have hm := places_in m 32 (show 0 < 32 by decide)
  have hA : partP 4 28 (placesL m 32 32) = [] := partP_none fun k hk => by have := hm k hk; omega
  have hB : partP 32 28 (placesL m 32 32) = [] := partP_none fun k hk => by have := hm k hk; omega
  have hM : partP 0 4 (placesL m 32 32) = placesL m 32 32 := by
    have := partP_all (a := 0) (n := 4) (P := placesL m 32 32) hm
    simpa using this
  rw [page_flip hd (places_nodup m 32 (by decide)) (fun k hk => by have := hm k hk; omega) (by rw [hA]; simp) (by rw [hB]; simp), hA, hB, hM]
  split
  · rfl
  · simp
theorem pg_halves (hd : d.length = 48) (l : List Int) {a : Nat} (ha : a = 4 ∨ a = 32) : pgD (flipL (pgE d) ((placesL l 224 5).map (8 * a + ·))) = if 3 < (placesL l 224 5).length then (1, []) else (2, d) := by
  have hm := places_in l 5 (show 0 < 224 by decide)
  have h5 := places_le l 224 5
  have hn : ((placesL l 224 5).map (8 * a + ·)).Nodup := map_nodup (fun x y h => by omega) (places_nodup l 5 (by decide))
  have hin : ∀ k ∈ (placesL l 224 5).map (8 * a + ·), 8 * a ≤ k ∧ k < 8 * (a + 28) := fun k hk => by
    obtain ⟨x, hx, rfl⟩ := List.mem_map.1 hk
    have := hm x hx
    omega
  have h0 : partP 0 4 ((placesL l 224 5).map (8 * a + ·)) = [] := partP_none fun k hk => by have := hin k hk; omega
  have hs := partP_all (a := a) (n := 28) (P := placesL l 224 5) hm
  have hl : ∀ k ∈ (placesL l 224 5).map (8 * a + ·), k < 480 := fun k hk => by have := hin k hk; omega
  rcases ha with rfl | rfl
  · have h1 : partP 32 28 ((placesL l 224 5).map (8 * 4 + ·)) = [] := partP_none fun k hk => by have := hin k hk; omega
    rw [page_flip hd hn hl (by rw [hs]; exact h5) (by rw [h1]; simp), h0, hs, h1]
    simp
  · have h1 : partP 4 28 ((placesL l 224 5).map (8 * 32 + ·)) = [] := partP_none fun k hk => by have := hin k hk; omega
    rw [page_flip hd hn hl (by rw [h1]; simp) (by rw [hs]; exact h5), h0, hs, h1]
    simp
theorem pg_mark (hd : d.length = 48) {m : List UInt8} (hm : m.length = 4) : pgD (m ++ (pgE d).drop 4) = if 16 < onesN m then (0, []) else (2, d) := by
  rw [page_mark hd (by rw [List.length_append, List.length_drop, pgE_length hd, hm]) (by rw [List.drop_left' hm]), List.take_left' hm]
theorem pg_torn (hd : d.length = 48) : mixR (List.replicate 60 255) (pgE d) [255] = pgE d := by
  have hl := pgE_length hd
  have e := eq_tab (pgE d) 0
  rw [hl] at e
  unfold mixR
  rw [if_pos (by rw [hl]; simp)]
  unfold mixL
  rw [List.length_replicate]
  refine (tab_ext fun k hk => ?_).trans e.symm
  unfold mixAt
  rw [if_neg (by simp)]
  have h1 : ([255] : List UInt8).getD (k % ([255] : List UInt8).length) 0 = 255 := by simp [Nat.mod_one]
  have h2 : (List.replicate 60 (255 : UInt8)).getD k 0 = 255 := by rw [List.getD_eq_getElem?_getD, List.getElem?_replicate, if_pos hk]; rfl
  rw [h1, h2]
  have : ∀ b : BitVec 8, 255#8 &&& ~~~255#8 ||| b &&& 255#8 = b := by decide +kernel
  exact UInt8.eq_of_toBitVec_eq (this _)
end
theorem pg_half4 {d : List UInt8} (hd : d.length = 48) (l : List Int) : pgD (flipL (pgE d) ((placesL l 224 5).map (32 + ·))) = if 3 < (placesL l 224 5).length then (1, []) else (2, d) := pg_halves hd l (a := 4) (.inl rfl)
theorem pg_half32 {d : List UInt8} (hd : d.length = 48) (l : List Int) : pgD (flipL (pgE d) ((placesL l 224 5).map (256 + ·))) = if 3 < (placesL l 224 5).length then (1, []) else (2, d) := pg_halves hd l (a := 32) (.inr rfl)
/-- Places moved, as far as i. -/
def moveTo (L : List Nat) (o i : Nat) : List Nat := (L.take i).map (o + ·) ++ L.drop i
theorem moveTo_zero (L : List Nat) (o : Nat) : L = moveTo L o 0 := by simp [moveTo]
theorem moveTo_length (L : List Nat) (o i : Nat) : (moveTo L o i).length = L.length := by unfold moveTo; rw [List.length_append, List.length_map, List.length_take, List.length_drop]; omega
theorem moveTo_at {L : List Nat} {o i : Nat} (h : i < L.length) : (moveTo L o i).getD i 0 = L.getD i 0 := by
  unfold moveTo
  rw [List.getD_eq_getElem?_getD, List.getElem?_append_right (by simp; omega)]
  simp [Nat.min_eq_left (Nat.le_of_lt h)]
theorem moveTo_step {L : List Nat} {o i : Nat} (h : i < L.length) : (moveTo L o i).set i ((moveTo L o i).getD i 0 + o) = moveTo L o (i + 1) := by
  rw [moveTo_at h]
  unfold moveTo
  rw [List.set_append_right _ _ (by simp; omega), take_next (d := 0) h, List.drop_eq_getElem_cons h]
  have e : i - ((L.take i).map (o + ·)).length = 0 := by simp; omega
  rw [e, List.set_cons_zero, List.map_append, List.append_assoc]
  simp [List.getD_eq_getElem?_getD, h, Nat.add_comm]
theorem moveTo_done {L : List Nat} {o i : Nat} (h : L.length ≤ i) : moveTo L o i = L.map (o + ·) := by unfold moveTo; rw [List.take_of_length_le h, List.drop_of_length_le h, List.append_nil]
theorem pgE_iff (d : List UInt8) : (pgE d).length = 60 ↔ d.length = 48 := by
  constructor
  · intro h
    refine Classical.byContradiction fun hn => ?_
    rw [pgE_no hn] at h
    cases h
  · exact pgE_length
end Go.Proofs.YtgalehapmdabeaaF
