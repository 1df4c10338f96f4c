import Derived.Test.YtnlbekdjepkhcaaMc
/-
  Codewords of data; what is near to a word.
-/
set_option linter.unusedVariables false
set_option linter.unusedSimpArgs false
namespace Ram
theorem genP_facts : genP.length = 33 ∧ trimL genP = genP ∧ sqL genP = genP := by rw [genP_eq]; decide +kernel
theorem genP_some : ¬ trimL genP = [] := by rw [genP_facts.2.1, genP_eq]; simp
/-- data behind four noughts. -/
def pad4 (d : List UInt8) : List UInt8 := List.replicate 4 0 ++ d
noncomputable def restW (d : List UInt8) : List UInt8 := remP (polyW (pad4 d)) genP
noncomputable def encW (d : List UInt8) : List UInt8 := pkN 28 (fun k => if k < 32 then decide ((restW d).getD k 0 ≠ 0) else bt (pad4 d) k)
theorem encW_length (d : List UInt8) : (encW d).length = 28 := pkN_length _ _
theorem rest_div (d : List UInt8) : IsDiv (polyW (pad4 d)) genP (quoP (polyW (pad4 d)) genP) (restW d) := by
  have := div_some (polyW (pad4 d)) genP_some
  rw [genP_facts.2.1] at this
  exact this
theorem rest_len (d : List UInt8) : (restW d).length ≤ 32 := by have := (rest_div d).lt; rw [genP_facts.1] at this; omega
theorem rest_sq (d : List UInt8) : sqL (restW d) = restW d := div_sq (sq_bits _ _) genP_facts.2.2 genP_facts.2.1 (rest_div d)
theorem rest_bit (d : List UInt8) (k : Nat) : (restW d).getD k 0 = if (restW d).getD k 0 ≠ 0 then 1 else 0 := by
  have h : sqB ((restW d).getD k 0) = (restW d).getD k 0 := by rw [← sqL_at, rest_sq]
  have := sqB_id h
  by_cases h0 : (restW d).getD k 0 = 0
  · rw [h0]; rfl
  · rw [if_pos h0]
    refine nat_inj ?_
    have h1 : ((restW d).getD k 0).toNat ≠ 0 := fun e => h0 (nat_inj e)
    show _ = 1
    omega
theorem rest_ev (d : List UInt8) {i : Nat} (h1 : 1 ≤ i) (h8 : i ≤ 8) : evP (restW d) (exB i) = sW (pad4 d) i := by
  have h : evP (polyW (pad4 d)) (exB i) = evP (mulP (quoP (polyW (pad4 d)) genP) genP) (exB i) ^^^ evP (restW d) (exB i) := by
    rw [← evP_addP]
    refine evP_congr _ ?_
    rw [addP_co, mulP_co]
    exact (rest_div d).eq.symm
  rw [evP_polyW, evP_mulP, gen_root h1 h8, gm_zero, zero_x] at h
  exact h.symm
theorem rest_bits (d : List UInt8) (i : Nat) : evP (restW d) (exB i) = sB (fun k => decide ((restW d).getD k 0 ≠ 0)) 32 i := by
  rw [← evP_bits]
  refine evP_congr _ ?_
  funext k
  show (restW d).getD k 0 = (ofBits 32 _).getD k 0
  rw [bits_at]
  by_cases hk : k < 32
  · refine (rest_bit d k).trans ?_
    by_cases h0 : (restW d).getD k 0 = 0
    · rw [if_neg (fun e => e h0), if_neg (fun e => absurd h0 (of_decide_eq_true e.2))]
    · rw [if_pos h0, if_pos ⟨hk, decide_eq_true h0⟩]
  · rw [getD_out (by have := rest_len d; omega), if_neg (fun e => hk e.1)]
theorem pad_bit (d : List UInt8) (k : Nat) : bt (pad4 d) k = if k < 32 then false else bt d (k - 32) := by
  unfold pad4
  rw [bt_app, List.length_replicate]
  by_cases h : k < 32
  · rw [if_pos (by omega), if_pos h]; exact bt_rep0 _ _
  · rw [if_neg (by omega), if_neg h]
theorem enc_code {d : List UInt8} (hd : d.length = 24) : IsCode (encW d) := by
  refine ⟨encW_length d, fun i h1 h8 => ?_⟩
  have hpl : (pad4 d).length = 28 := by unfold pad4; simp [hd]
  unfold sW
  rw [encW_length]
  have e : sB (bt (encW d)) (8 * 28) i = sB (fun k => (decide (k < 32) && decide ((restW d).getD k 0 ≠ 0)) != bt (pad4 d) k) (8 * 28) i := by
    refine sB_ext fun k hk => ?_
    unfold encW
    rw [bt_pkN, decide_eq_true hk, Bool.true_and]
    by_cases h : k < 32
    · rw [if_pos h, pad_bit, if_pos h, decide_eq_true h, Bool.true_and]; simp
    · rw [if_neg h, decide_eq_false h, Bool.false_and]; simp
  rw [e, sB_xor]
  have e2 : sB (fun k => decide (k < 32) && decide ((restW d).getD k 0 ≠ 0)) (8 * 28) i = evP (restW d) (exB i) := by
    rw [rest_bits, sB_cut (n := 32) (by decide) (fun k hk _ => by rw [decide_eq_false (by omega)]; rfl)]
    exact sB_ext fun k hk => by rw [decide_eq_true hk]; rfl
  rw [e2, rest_ev d h1 h8]
  unfold sW
  rw [hpl]
  exact x_self _
theorem enc_drop {d : List UInt8} (hd : d.length = 24) : (encW d).drop 4 = d := by
  refine bt_ext (by rw [List.length_drop, encW_length, hd]) fun k hk => ?_
  rw [List.length_drop, encW_length] at hk
  rw [bt_drop]
  unfold encW
  rw [bt_pkN, decide_eq_true (by omega), Bool.true_and, if_neg (by omega), pad_bit, if_neg (by omega), show 8 * 4 + k - 32 = k by omega]
theorem enc_eq {w : List UInt8} (h : IsCode w) : encW (w.drop 4) = w := by
  have hl : (w.drop 4).length = 24 := by rw [List.length_drop, h.len]
  exact code_unique (enc_code hl) h (enc_drop hl)
theorem enc_of {w d : List UInt8} (hd : d.length = 24) (h : IsCode w) (e : w.drop 4 = d) : w = encW d := by rw [← e, enc_eq h]
/-! lists that rise -/
theorem nodup_len : ∀ {l m : List Nat}, l.Nodup → (∀ x ∈ l, x ∈ m) → l.length ≤ m.length
  | [], _, _, _ => Nat.zero_le _
  | a :: l, m, hn, h => by
    have h1 := nodup_len (l := l) (m := m.erase a) (List.nodup_cons.1 hn).2 (fun x hx => by
      have : x ≠ a := fun e => (List.nodup_cons.1 hn).1 (e ▸ hx)
      exact (List.mem_erase_of_ne this).2 (h x (List.mem_cons_of_mem _ hx)))
    have h2 : a ∈ m := h a List.mem_cons_self
    rw [List.length_erase_of_mem h2] at h1
    have := List.length_pos_of_mem h2
    simp only [List.length_cons]
    omega
theorem sorted_nodup {l : List Nat} (h : l.Pairwise (· < ·)) : l.Nodup := h.imp (fun h => Nat.ne_of_lt h)
theorem sorted_ext : ∀ {l m : List Nat}, l.Pairwise (· < ·) → m.Pairwise (· < ·) → (∀ x, x ∈ l ↔ x ∈ m) → l = m
  | [], [], _, _, _ => rfl
  | [], b :: m, _, _, h => by have := (h b).2 List.mem_cons_self; cases this
  | a :: l, [], _, _, h => by have := (h a).1 List.mem_cons_self; cases this
  | a :: l, b :: m, hl, hm, h => by
    obtain ⟨hl1, hl2⟩ := List.pairwise_cons.1 hl
    obtain ⟨hm1, hm2⟩ := List.pairwise_cons.1 hm
    have hab : a = b := by
      rcases List.mem_cons.1 ((h a).1 List.mem_cons_self) with e | e
      · exact e
      · rcases List.mem_cons.1 ((h b).2 List.mem_cons_self) with e2 | e2
        · exact e2.symm
        · have := hm1 a e; have := hl1 b e2; omega
    subst hab
    congr 1
    refine sorted_ext hl2 hm2 fun x => ⟨fun hx => ?_, fun hx => ?_⟩
    · rcases List.mem_cons.1 ((h x).1 (List.mem_cons_of_mem _ hx)) with e | e
      · have := hl1 x hx; omega
      · exact e
    · rcases List.mem_cons.1 ((h x).2 (List.mem_cons_of_mem _ hx)) with e | e
      · have := hm1 x hx; omega
      · exact e
theorem filter_sorted (f : Nat → Bool) (n : Nat) : ((List.range n).filter f).Pairwise (· < ·) := List.Pairwise.filter _ List.pairwise_lt_range
/-! what is near -/
/-- lists of places without any twice, of the same sums, of few places in all, have the same places. -/
theorem syn_same {L M : List Nat} (hL : L.Nodup) (hM : M.Nodup) (h1 : ∀ k ∈ L, k < 224) (h2 : ∀ k ∈ M, k < 224) (h8 : L.length + M.length ≤ 8) (hs : ∀ i, 1 ≤ i → i ≤ 8 → syn L i = syn M i) (x : Nat) : x ∈ L ↔ x ∈ M := by
  have hz := bch_zero (f := fun k => decide (k ∈ L) != decide (k ∈ M)) (n := 224) (by decide) (by
    refine Nat.le_trans (nodup_len (m := L ++ M) (List.Pairwise.filter _ List.nodup_range) fun k hk => ?_) (by rw [List.length_append]; exact h8)
    have := (List.mem_filter.1 hk).2
    rw [List.mem_append]
    by_cases hkL : k ∈ L
    · exact .inl hkL
    · right
      simpa [hkL] using this) (fun i hi1 hi8 => by
    rw [sB_xor, sB_mem L 224 i hL h1, sB_mem M 224 i hM h2, hs i hi1 hi8, x_self])
  by_cases hx : x < 224
  · have := hz x hx
    simpa using this
  · exact ⟨fun h => absurd (h1 x h) hx, fun h => absurd (h2 x h) hx⟩
structure Near (w : List UInt8) (L : List Nat) : Prop where
  up : L.Pairwise (· < ·)
  lt : ∀ k ∈ L, k < 224
  few : L.length ≤ 3
  eq : ∀ i, 1 ≤ i → i ≤ 8 → sW w i = syn L i
theorem Near.unique {w : List UInt8} {L M : List Nat} (h : Near w L) (h' : Near w M) : L = M :=
  sorted_ext h.up h'.up (syn_same (sorted_nodup h.up) (sorted_nodup h'.up) h.lt h'.lt (by have := h.few; have := h'.few; omega) (fun i h1 h8 => by rw [← h.eq i h1 h8, h'.eq i h1 h8]))
theorem Near.code {w : List UInt8} {L : List Nat} (hw : w.length = 28) (h : Near w L) : IsCode (flipL w L) := by
  refine ⟨by rw [flipL_length, hw], fun i h1 h8 => ?_⟩
  rw [sW_flipL (sorted_nodup h.up) (fun k hk => by have := h.lt k hk; omega), h.eq i h1 h8, x_self]
/-- what a word is decoded as. -/
noncomputable def decL (w : List UInt8) : Option (List Nat) := open Classical in if h : ∃ L, Near w L then some h.choose else none
theorem decL_some {w : List UInt8} {L : List Nat} (h : Near w L) : decL w = some L := by
  unfold decL
  rw [dif_pos ⟨L, h⟩]
  exact congrArg some ((⟨L, h⟩ : ∃ L, Near w L).choose_spec.unique h)
theorem decL_none {w : List UInt8} (h : ∀ L, ¬ Near w L) : decL w = none := by
  unfold decL
  rw [dif_neg (fun ⟨L, hL⟩ => h L hL)]
theorem decL_of {w : List UInt8} {L : List Nat} (h : decL w = some L) : Near w L := by
  unfold decL at h
  split at h
  · next hx => injection h with h; rw [← h]; exact hx.choose_spec
  · cases h
theorem decL_no {w : List UInt8} (h : decL w = none) (L : List Nat) : ¬ Near w L := fun hL => by rw [decL_some hL] at h; cases h
/-- a list of places, in their order. -/
def upL (L : List Nat) : List Nat := (List.range 224).filter (fun k => decide (k ∈ L))
theorem upL_mem {L : List Nat} (h : ∀ k ∈ L, k < 224) (x : Nat) : x ∈ upL L ↔ x ∈ L := by
  unfold upL
  rw [List.mem_filter, List.mem_range]
  exact ⟨fun hx => of_decide_eq_true hx.2, fun hx => ⟨h x hx, decide_eq_true hx⟩⟩
theorem upL_nodup (L : List Nat) : (upL L).Nodup := sorted_nodup (filter_sorted _ _)
theorem upL_length {L : List Nat} (hn : L.Nodup) (h : ∀ k ∈ L, k < 224) : (upL L).length = L.length :=
  Nat.le_antisymm (nodup_len (upL_nodup L) (fun x hx => (upL_mem h x).1 hx)) (nodup_len hn (fun x hx => (upL_mem h x).2 hx))
theorem upL_syn {L : List Nat} (hn : L.Nodup) (h : ∀ k ∈ L, k < 224) (i : Nat) : syn (upL L) i = syn L i := by
  unfold upL
  rw [syn_filter, sB_mem L 224 i hn h]
theorem upL_flip {L : List Nat} (hn : L.Nodup) (h : ∀ k ∈ L, k < 224) {w : List UInt8} (hw : w.length = 28) : flipL w (upL L) = flipL w L := by
  refine bt_ext (by rw [flipL_length, flipL_length]) fun k hk => ?_
  rw [bt_flipL (upL_nodup L) (fun k hk => by have := h k ((upL_mem h k).1 hk); omega), bt_flipL hn (fun k hk => by have := h k hk; omega)]
  congr 1
  simp only [decide_eq_decide]
  exact upL_mem h k
/-- places without any twice, at most three, of the word's sums. -/
theorem near_of {w : List UInt8} {L : List Nat} (hn : L.Nodup) (h : ∀ k ∈ L, k < 224) (h3 : L.length ≤ 3) (hs : ∀ i, 1 ≤ i → i ≤ 8 → sW w i = syn L i) : Near w (upL L) :=
  ⟨filter_sorted _ _, fun k hk => h k ((upL_mem h k).1 hk), by rw [upL_length hn h]; exact h3, fun i h1 h8 => by rw [upL_syn hn h]; exact hs i h1 h8⟩
/-! what is found of a codeword with bits turned -/
theorem code_flip {c : List UInt8} (hc : IsCode c) {L : List Nat} (hn : L.Nodup) (h : ∀ k ∈ L, k < 224) {i : Nat} (h1 : 1 ≤ i) (h8 : i ≤ 8) : sW (flipL c L) i = syn L i := by
  rw [sW_flipL hn (fun k hk => by rw [hc.len]; exact h k hk), hc.sums i h1 h8, zero_x]
theorem flip_twice {w : List UInt8} {L : List Nat} (hw : w.length = 28) (hn : L.Nodup) (h : ∀ k ∈ L, k < 224) : flipL (flipL w L) (upL L) = w := by
  refine bt_ext (by rw [flipL_length, flipL_length]) fun k hk => ?_
  rw [bt_flipL (upL_nodup L) (fun k hk => by rw [flipL_length, hw]; exact h k ((upL_mem h k).1 hk)), bt_flipL hn (fun k hk => by rw [hw]; exact h k hk)]
  have : decide (k ∈ upL L) = decide (k ∈ L) := by simp only [decide_eq_decide]; exact upL_mem h k
  rw [this]
  cases bt w k <;> cases decide (k ∈ L) <;> rfl
/-- up to three are mended. -/
theorem dec_mends {c : List UInt8} (hc : IsCode c) {L : List Nat} (hn : L.Nodup) (h : ∀ k ∈ L, k < 224) (h3 : L.length ≤ 3) : decL (flipL c L) = some (upL L) :=
  decL_some (near_of hn h h3 fun i h1 h8 => code_flip hc hn h h1 h8)
/-- with four or five there is nothing near. -/
theorem dec_fails {c : List UInt8} (hc : IsCode c) {L : List Nat} (hn : L.Nodup) (h : ∀ k ∈ L, k < 224) (h3 : 3 < L.length) (h5 : L.length ≤ 5) : decL (flipL c L) = none := by
  refine decL_none fun M hM => ?_
  have := syn_same hn (sorted_nodup hM.up) h hM.lt (by have := hM.few; omega) (fun i h1 h8 => by rw [← hM.eq i h1 h8, code_flip hc hn h h1 h8])
  have h2 := nodup_len hn (fun x hx => (this x).1 hx)
  have := hM.few
  omega
end Ram
