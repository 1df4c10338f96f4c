import Derived.Test.YtnlbekdjepkhcaaMb
/-
  The code: words, packing, the generator, what is near.
-/
set_option linter.unusedVariables false
set_option linter.unusedSimpArgs false
namespace Ram
/-! bits of a word -/
def bt (w : List UInt8) (k : Nat) : Bool := (w.getD (k / 8) 0).toNat.testBit (k % 8)
theorem bt_out {w : List UInt8} {k : Nat} (h : 8 * w.length ≤ k) : bt w k = false := by
  unfold bt
  rw [getD_out (by omega)]
  exact Nat.zero_testBit _
theorem byte_ext {a b : UInt8} (h : ∀ j, j < 8 → a.toNat.testBit j = b.toNat.testBit j) : a = b := by
  refine nat_inj (Nat.eq_of_testBit_eq fun j => ?_)
  by_cases hj : j < 8
  · exact h j hj
  · have h1 : (2 : Nat) ^ 8 ≤ 2 ^ j := Nat.pow_le_pow_right (by decide) (by omega)
    have ha := UInt8.toNat_lt a
    have hb := UInt8.toNat_lt b
    rw [Nat.testBit_lt_two_pow (by omega), Nat.testBit_lt_two_pow (by omega)]
theorem bt_ext {w w' : List UInt8} (hl : w.length = w'.length) (h : ∀ k, k < 8 * w.length → bt w k = bt w' k) : w = w' := by
  refine list_ext 0 hl fun i hi => byte_ext fun j hj => ?_
  have := h (8 * i + j) (by omega)
  unfold bt at this
  rw [show (8 * i + j) / 8 = i by omega, show (8 * i + j) % 8 = j by omega] at this
  exact this
theorem bt_set {w : List UInt8} {j : Nat} (v : UInt8) (hj : j < w.length) (k : Nat) : bt (w.set j v) k = if k / 8 = j then v.toNat.testBit (k % 8) else bt w k := by
  unfold bt
  by_cases h : k / 8 = j
  · rw [if_pos h, h, getD_set_self hj]
  · rw [if_neg h]
    simp only [List.getD_eq_getElem?_getD]
    rw [List.getElem?_set_ne (fun e => h e.symm)]
theorem bt_drop (w : List UInt8) (n k : Nat) : bt (w.drop n) k = bt w (8 * n + k) := by
  unfold bt
  rw [getD_drop, show (8 * n + k) / 8 = n + k / 8 by omega, show (8 * n + k) % 8 = k % 8 by omega]
theorem bt_app (a b : List UInt8) (k : Nat) : bt (a ++ b) k = if k < 8 * a.length then bt a k else bt b (k - 8 * a.length) := by
  unfold bt
  rw [getD_app]
  by_cases h : k / 8 < a.length
  · rw [if_pos h, if_pos (by omega)]
  · rw [if_neg h, if_neg (by omega), show (k - 8 * a.length) / 8 = k / 8 - a.length by omega, show (k - 8 * a.length) % 8 = k % 8 by omega]
theorem bt_rep0 (n k : Nat) : bt (List.replicate n 0) k = false := by
  unfold bt
  have : (List.replicate n (0 : UInt8)).getD (k / 8) 0 = 0 := by
    rw [List.getD_eq_getElem?_getD, List.getElem?_replicate]; split <;> rfl
  rw [this]; exact Nat.zero_testBit _
theorem two_bit {p : Nat} (hp : p < 8) (j : Nat) : (UInt8.ofNat (2 ^ p)).toNat.testBit j = decide (j = p) := by
  have : 2 ^ p < 256 := Nat.lt_of_lt_of_le (Nat.pow_lt_pow_right (by decide) hp) (by decide)
  rw [ofNat_nat this, Nat.testBit_two_pow]
  simp only [decide_eq_decide]
  exact ⟨fun h => h.symm, fun h => h.symm⟩
theorem xor_bit (a b : UInt8) (j : Nat) : (a ^^^ b).toNat.testBit j = (a.toNat.testBit j != b.toNat.testBit j) := by
  rw [UInt8.toNat_xor, Nat.testBit_xor]
theorem or_bit (a b : UInt8) (j : Nat) : (a ||| b).toNat.testBit j = (a.toNat.testBit j || b.toNat.testBit j) := by
  rw [UInt8.toNat_or, Nat.testBit_or]
/-- one bit turned. -/
def flip1 (w : List UInt8) (p : Nat) : List UInt8 := w.set (p / 8) (w.getD (p / 8) 0 ^^^ UInt8.ofNat (2 ^ (p % 8)))
theorem flip1_length (w : List UInt8) (p : Nat) : (flip1 w p).length = w.length := List.length_set ..
theorem bt_flip1 {w : List UInt8} {p : Nat} (hp : p < 8 * w.length) (k : Nat) : bt (flip1 w p) k = (bt w k != decide (k = p)) := by
  unfold flip1
  rw [bt_set _ (by omega)]
  by_cases h : k / 8 = p / 8
  · rw [if_pos h, xor_bit, two_bit (by omega), ← h]
    show (bt w k != _) = _
    congr 1
    simp only [decide_eq_decide]
    omega
  · rw [if_neg h, decide_eq_false (by omega)]
    cases bt w k <;> rfl
def flipL (w : List UInt8) (L : List Nat) : List UInt8 := L.foldl flip1 w
theorem flipL_snoc (w : List UInt8) (L : List Nat) (p : Nat) : flipL w (L ++ [p]) = flip1 (flipL w L) p := by unfold flipL; rw [List.foldl_append]; rfl
theorem flipL_length (w : List UInt8) (L : List Nat) : (flipL w L).length = w.length := by
  induction L generalizing w with
  | nil => rfl
  | cons a L ih => exact (ih _).trans (flip1_length w a)
theorem bt_flipL {L : List Nat} : ∀ {w : List UInt8}, L.Nodup → (∀ k ∈ L, k < 8 * w.length) → ∀ k, bt (flipL w L) k = (bt w k != decide (k ∈ L)) := by
  induction L with
  | nil => intro w _ _ k; show bt w k = _; simp
  | cons a L ih =>
    intro w hn hl k
    show bt (flipL (flip1 w a) L) k = _
    have h1 := (List.nodup_cons.1 hn).1
    rw [ih (List.nodup_cons.1 hn).2 (fun k hk => by rw [flip1_length]; exact hl k (List.mem_cons_of_mem _ hk)), bt_flip1 (hl a List.mem_cons_self)]
    by_cases hk : k = a
    · subst hk; simp [h1]
    · simp [hk]
/-! sums of a word -/
def sW (w : List UInt8) (i : Nat) : UInt8 := sB (bt w) (8 * w.length) i
theorem sW_flipL {w : List UInt8} {L : List Nat} (hn : L.Nodup) (hl : ∀ k ∈ L, k < 8 * w.length) (i : Nat) : sW (flipL w L) i = sW w i ^^^ syn L i := by
  unfold sW
  rw [flipL_length, ← sB_mem L _ i hn hl, ← sB_xor]
  exact sB_ext fun k _ => bt_flipL hn hl k
theorem sB_cut {f : Nat → Bool} {n m i : Nat} (h : n ≤ m) (hf : ∀ k, n ≤ k → k < m → f k = false) : sB f m i = sB f n i := by
  induction m with
  | zero => rw [show n = 0 by omega]
  | succ m ih =>
    by_cases hm : n = m + 1
    · rw [hm]
    · show sB f m i ^^^ (if f m then exB (i * m) else 0) = _
      rw [hf m (by omega) (by omega), ih (by omega) (fun k h1 h2 => hf k h1 (by omega))]
      exact x_zero _
/-! polynomials of words -/
theorem ev_snoc (p : List UInt8) (c x : UInt8) : evP (p ++ [c]) x = evP p x ^^^ gm c (gpB x p.length) := by
  induction p with
  | nil =>
    show evP [c] x = (0 : UInt8) ^^^ gm c (gpB x 0)
    rw [evOne, gpB_zero, gm_one, zero_x]
  | cons a p ih =>
    rw [List.cons_append, evP_cons, evP_cons, ih, x_gm, gm_assoc, List.length_cons, gpB_add, gpB_one, x_assoc, x_assoc, x_comm a]
theorem tab_succ {α : Type} (n : Nat) (f : Nat → α) : tab (n + 1) f = tab n f ++ [f n] := by unfold tab; rw [List.range_succ, List.map_append]; rfl
theorem evP_tab (n : Nat) (f : Nat → UInt8) (x : UInt8) : evP (tab n f) x = xs n (fun k => gm (f k) (gpB x k)) := by
  induction n with
  | zero => rfl
  | succ n ih => rw [tab_succ, ev_snoc, ih, tab_length]; rfl
def ofBits (n : Nat) (f : Nat → Bool) : List UInt8 := tab n (fun k => if f k then 1 else 0)
theorem evP_bits (n : Nat) (f : Nat → Bool) (i : Nat) : evP (ofBits n f) (exB i) = sB f n i := by
  unfold ofBits
  rw [evP_tab]
  refine xs_ext fun k _ => ?_
  rw [gpB_ex]
  cases f k
  · exact zero_gm _
  · exact one_gm _
def polyW (w : List UInt8) : List UInt8 := ofBits (8 * w.length) (bt w)
theorem evP_polyW (w : List UInt8) (i : Nat) : evP (polyW w) (exB i) = sW w i := evP_bits _ _ i
theorem bits_at (n : Nat) (f : Nat → Bool) (k : Nat) : (ofBits n f).getD k 0 = if k < n ∧ f k = true then 1 else 0 := by
  unfold ofBits
  by_cases h : k < n
  · rw [tab_at h]; simp [h]
  · rw [tab_out (by omega), if_neg (fun e => h e.1)]
theorem sq_bits (n : Nat) (f : Nat → Bool) : sqL (ofBits n f) = ofBits n f := by
  unfold sqL ofBits tab
  rw [List.map_map]
  refine List.map_congr_left fun k _ => ?_
  show sqB (if f k then 1 else 0) = if f k then 1 else 0
  cases f k <;> rfl
/-! zeros and their number -/
theorem root_zero : ∀ (R : List UInt8) (p : List UInt8), R.Nodup → (∀ x ∈ R, evP p x = 0) → (trimL p).length ≤ R.length → trimL p = []
  | [], p, _, _, h => List.eq_nil_of_length_eq_zero (by simpa using h)
  | c :: R, p, hn, hx, hl => by
    obtain ⟨hp, hr⟩ := rem_lin p c
    have hr0 : remP p [c, 1] = [] := by
      rcases hr with h | h
      · exact List.eq_nil_of_length_eq_zero h.2
      · exact absurd (hx c List.mem_cons_self) h.1
    have ht : trimL [c, 1] = [c, 1] := trimL_id (.inr (by show ¬ (1 : UInt8) = 0; decide))
    have hd := div_some p (b := [c, 1]) (by rw [ht]; simp)
    rw [ht, hr0] at hd
    have hco : co p = co (mulP (quoP p [c, 1]) [c, 1]) := by
      rw [mulP_co, ← hd.eq]
      exact addF_zero _
    have hq : trimL (quoP p [c, 1]) = [] := by
      refine root_zero R _ (List.nodup_cons.1 hn).2 (fun x hxR => ?_) ?_
      · have h1 := hx x (List.mem_cons_of_mem _ hxR)
        rw [evP_congr x hco, evP_mulP, gm_eq0, evL, xor_eq0] at h1
        rcases h1 with h1 | h1
        · exact h1
        · subst h1; exact absurd hxR (List.nodup_cons.1 hn).1
      · rw [hd.q_trim]
        rcases Nat.eq_zero_or_pos (quoP p [c, 1]).length with h0 | h0
        · omega
        · have htop := trimL_top (l := quoP p [c, 1]) (by rw [hd.q_trim]; exact h0)
          rw [hd.q_trim] at htop
          have h1 : p.getD (quoP p [c, 1]).length 0 ≠ 0 := by
            have : p.getD (quoP p [c, 1]).length 0 = (mulP (quoP p [c, 1]) [c, 1]).getD (quoP p [c, 1]).length 0 := congrFun hco _
            rw [this, mul_lin, if_neg (by omega), getD_out (l := quoP p [c, 1]) (Nat.le_refl _), gm_zero, zero_x]
            exact htop
          have h2 : (quoP p [c, 1]).length < (trimL p).length := by
            rcases Nat.lt_or_ge (quoP p [c, 1]).length (trimL p).length with h | h
            · exact h
            · rw [← trimL_at, getD_out h] at h1; exact absurd rfl h1
          simp only [List.length_cons] at hl
          omega
    rw [trim_of_co hco, mulP_trim]
    rw [hd.q_trim] at hq
    rw [hq, mulP_comm, mulP_nil]
theorem ev_sq (p : List UInt8) (x : UInt8) : evP (sqL p) (sqB x) = sqB (evP p x) := by
  induction p with
  | nil => exact (sqB_eq0.2 rfl).symm
  | cons c p ih =>
    show evP (sqB c :: sqL p) (sqB x) = _
    rw [evP_cons, evP_cons, ih, sqB_xor, sqB_gm]
theorem ev_orb {p : List UInt8} (hp : sqL p = p) {n : Nat} (hn : n < 255) (h : evP p (exB n) = 0) (j : Nat) : evP p (exB (orb n j)) = 0 := by
  induction j with
  | zero => rw [orb_zero hn]; exact h
  | succ j ih =>
    have := ev_sq p (exB (orb n j))
    rw [hp, sqB_ex, orb_succ, ih] at this
    rw [this]; exact sqB_eq0.2 rfl
/-! the generator -/
def genP : List UInt8 := mulP (mulP (mulP (mulP [1] (minP 1)) (minP 3)) (minP 5)) (minP 7)
def genRoots : List Nat := orbit 1 ++ orbit 3 ++ orbit 5 ++ orbit 7
theorem genRoots_ok : genRoots.length = 32 ∧ (genRoots.map exB).Nodup := by decide +kernel
theorem gen_roots {m : Nat} (h : m ∈ genRoots) : evP genP (exB m) = 0 := by
  have key : ∀ n : Nat, n < 255 → m ∈ orbit n → evP (minP n) (exB m) = 0 := by
    intro n hn hm
    unfold minP
    rw [show ((n : Int) % 255).toNat = n by omega]
    exact (ev_minL _ _).2 ⟨m, hm, rfl⟩
  unfold genP
  simp only [evP_mulP, gm_eq0]
  unfold genRoots at h
  rcases List.mem_append.1 h with h | h
  · rcases List.mem_append.1 h with h | h
    · rcases List.mem_append.1 h with h | h
      · exact .inl (.inl (.inl (.inr (key 1 (by decide) h))))
      · exact .inl (.inl (.inr (key 3 (by decide) h)))
    · exact .inl (.inr (key 5 (by decide) h))
  · exact .inr (key 7 (by decide) h)
theorem gen_root {i : Nat} (h1 : 1 ≤ i) (h8 : i ≤ 8) : evP genP (exB i) = 0 :=
  gen_roots ((show ∀ i, i < 9 → 1 ≤ i → i ∈ genRoots by decide +kernel) i (by omega) h1)
theorem low_zero {f : Nat → Bool} (h : ∀ i, 1 ≤ i → i ≤ 8 → sB f 32 i = 0) (k : Nat) (hk : k < 32) : f k = false := by
  have hz : trimL (ofBits 32 f) = [] := by
    refine root_zero (genRoots.map exB) _ genRoots_ok.2 (fun x hx => ?_) ?_
    · obtain ⟨m, hm, rfl⟩ := List.mem_map.1 hx
      have hs := sq_bits 32 f
      have key : ∀ n : Nat, n < 255 → 1 ≤ n → n ≤ 8 → m ∈ orbit n → evP (ofBits 32 f) (exB m) = 0 := by
        intro n hn h1 h8 hm
        have h0 : evP (ofBits 32 f) (exB n) = 0 := by rw [evP_bits]; exact h n h1 h8
        obtain ⟨j, hj, rfl⟩ := List.mem_map.1 (show m ∈ (List.range (per n)).map (orb n) from hm)
        exact ev_orb hs hn h0 j
      unfold genRoots at hm
      rcases List.mem_append.1 hm with hm | hm
      · rcases List.mem_append.1 hm with hm | hm
        · rcases List.mem_append.1 hm with hm | hm
          · exact key 1 (by decide) (by decide) (by decide) hm
          · exact key 3 (by decide) (by decide) (by decide) hm
        · exact key 5 (by decide) (by decide) (by decide) hm
      · exact key 7 (by decide) (by decide) (by decide) hm
    · rw [List.length_map, genRoots_ok.1]
      refine Nat.le_trans (trimL_len _) ?_
      unfold ofBits; rw [tab_length]; exact Nat.le_refl _
  have h2 : (ofBits 32 f).getD k 0 = 0 := trimL_eq_nil.1 hz k
  rw [bits_at] at h2
  cases hf : f k with
  | false => rfl
  | true => rw [if_pos ⟨hk, hf⟩] at h2; exact absurd h2 (by decide)
/-! codewords -/
structure IsCode (w : List UInt8) : Prop where
  len : w.length = 28
  sums : ∀ i, 1 ≤ i → i ≤ 8 → sW w i = 0
theorem code_unique {w w' : List UInt8} (h : IsCode w) (h' : IsCode w') (hd : w.drop 4 = w'.drop 4) : w = w' := by
  have hi : ∀ k, 32 ≤ k → bt w k = bt w' k := by
    intro k hk
    have := congrArg (fun l => bt l (k - 32)) hd
    simp only [bt_drop] at this
    rw [show 8 * 4 + (k - 32) = k by omega] at this
    exact this
  have hlo := low_zero (f := fun k => bt w k != bt w' k) (fun i h1 h8 => by
    have e : sB (fun k => bt w k != bt w' k) 224 i = 0 := by
      rw [sB_xor]
      have a := h.sums i h1 h8
      have b := h'.sums i h1 h8
      unfold sW at a b
      rw [h.len] at a; rw [h'.len] at b
      rw [a, b]; rfl
    rw [← e]
    refine (sB_cut (by decide) fun k h32 _ => ?_).symm
    rw [hi k h32]; simp)
  refine bt_ext (by rw [h.len, h'.len]) fun k hk => ?_
  by_cases h32 : k < 32
  · have := hlo k h32
    simpa using this
  · exact hi k (by omega)
def apL (a b : List UInt8) : List Nat := (List.range (8 * a.length)).filter (fun k => bt a k != bt b k)
theorem code_dist {w w' : List UInt8} (h : IsCode w) (h' : IsCode w') (hd : (apL w w').length ≤ 8) : w = w' := by
  unfold apL at hd
  have := bch_zero (by rw [h.len]; decide) hd (fun i h1 h8 => by
    rw [sB_xor]
    have a := h.sums i h1 h8
    have b := h'.sums i h1 h8
    unfold sW at a b
    rw [h'.len] at b; rw [h.len] at a ⊢
    rw [a, b]; rfl)
  refine bt_ext (by rw [h.len, h'.len]) fun k hk => ?_
  simpa using this k hk
/-! packing -/
def pkn (f : Nat → Bool) (s : Nat) : Nat → Nat
  | 0 => 0
  | t + 1 => (if f (s + t) then 2 ^ t else 0) + pkn f s t
theorem pkn_lt (f : Nat → Bool) (s t : Nat) : pkn f s t < 2 ^ t := by
  induction t with
  | zero => exact Nat.one_pos
  | succ t ih =>
    show (if f (s + t) then 2 ^ t else 0) + pkn f s t < 2 ^ (t + 1)
    rw [Nat.pow_succ]
    split <;> omega
theorem pkn_bit (f : Nat → Bool) (s n j : Nat) (hj : j < n) : (pkn f s n).testBit j = f (s + j) := by
  induction n with
  | zero => omega
  | succ n ih =>
    show ((if f (s + n) then 2 ^ n else 0) + pkn f s n).testBit j = _
    have hl := pkn_lt f s n
    by_cases h : j = n
    · subst h
      cases hf : f (s + j)
      · simp [Nat.testBit_lt_two_pow hl]
      · simp [Nat.testBit_two_pow_add_eq, Nat.testBit_lt_two_pow hl]
    · cases hf : f (s + n)
      · simp [ih (by omega)]
      · simp [Nat.testBit_two_pow_add_gt (show j < n by omega), ih (by omega)]
def pkN (n : Nat) (f : Nat → Bool) : List UInt8 := tab n (fun j => UInt8.ofNat (pkn f (8 * j) 8))
theorem pkN_length (n : Nat) (f : Nat → Bool) : (pkN n f).length = n := tab_length
theorem bt_pkN (n : Nat) (f : Nat → Bool) (k : Nat) : bt (pkN n f) k = (decide (k < 8 * n) && f k) := by
  unfold bt pkN
  by_cases h : k < 8 * n
  · rw [tab_at (show k / 8 < n by omega), ofNat_nat (Nat.lt_of_lt_of_le (pkn_lt f _ 8) (by decide)), pkn_bit _ _ _ _ (by omega), show 8 * (k / 8) + k % 8 = k by omega]
    simp [h]
  · rw [tab_out (show n ≤ k / 8 by omega)]
    simp [h]
/-! the codeword of data -/
theorem div_sq {a b q r : List UInt8} (ha : sqL a = a) (hb : sqL b = b) (hbt : trimL b = b) (h : IsDiv a b q r) : sqL r = r := by
  have h2 : IsDiv a b (sqL q) (sqL r) := by
    refine ⟨?_, ?_, sqL_trim h.q_trim, sqL_trim h.r_trim⟩
    · funext i
      have e1 : (mulF (sqL q) (co b) i : UInt8) = sqB (mulF q (co b) i) := by
        have := sq_mulF q (fun i => b.getD i 0) (fun i => (sqL b).getD i 0) (fun i => sqL_at b i) i
        rw [hb] at this
        exact this
      have e2 : ((sqL r).getD i 0 : UInt8) = sqB (r.getD i 0) := sqL_at r i
      have e3 : sqB (a.getD i 0) = a.getD i 0 := by rw [← sqL_at, ha]
      have e4 : xB (mulF q (co b) i) (r.getD i 0) = a.getD i 0 := congrFun h.eq i
      show xB (mulF (sqL q) (co b) i) ((sqL r).getD i 0) = a.getD i 0
      rw [e2, ← e3, ← e4]
      exact (congrArg (fun z => xB z (sqB (r.getD i 0))) e1).trans (sqB_xor _ _).symm
    · show (sqL r).length < b.length
      rw [show (sqL r).length = r.length from List.length_map ..]
      exact h.lt
  exact (IsDiv.unique hbt h h2).2.symm
theorem genP_eq : genP = [1, 0, 1, 1, 1, 1, 1, 1, 0, 1, 0, 0, 0, 0, 1, 0, 1, 1, 0, 1, 1, 0, 1, 0, 0, 1, 1, 1, 0, 1, 1, 1, 1] := by decide +kernel
end Ram
