import Derived.Test.YtnlbekdjepkhcaaMg
/-
  What the walks of the document's code name.
-/
set_option linter.unusedVariables false
set_option linter.unusedSimpArgs false
namespace Ram
open Go.Proofs.YtnlbekdjepkhcaaF (shlB shrB)
/-! tables -/
def pwT (i : Nat) : List UInt8 := tab 255 (fun k => if k < i then exB k else 0)
theorem pwT_length (i : Nat) : (pwT i).length = 255 := tab_length
theorem pwT_zero : List.replicate 255 (0 : UInt8) = pwT 0 := by unfold pwT; rw [tab_rep]; exact tab_ext fun k _ => by rw [if_neg (by omega)]
theorem pwT_step (i : Nat) : (pwT i).set i (exB i) = pwT (i + 1) := by
  unfold pwT
  refine set_tab (by rw [if_pos (by omega)]) fun k _ hk => ?_
  by_cases h : k < i
  · rw [if_pos h, if_pos (by omega)]
  · rw [if_neg h, if_neg (by omega)]
theorem pwT_at {k : Nat} (h : k < 255) : (pwT 255).getD k 0 = exB k := by unfold pwT; rw [tab_at h, if_pos h]
theorem pwT_mod (k : Nat) : (pwT 255).getD (k % 255) 0 = exB k := by rw [pwT_at (Nat.mod_lt _ (by decide)), exB_mod]
def logT (i : Nat) : List Nat := tab 256 (fun a => if a ≠ 0 ∧ lg a < i then lg a else 0)
theorem logT_length (i : Nat) : (logT i).length = 256 := tab_length
theorem logT_zero : List.replicate 256 0 = logT 0 := by unfold logT; rw [tab_rep]; exact tab_ext fun k _ => by rw [if_neg (by omega)]
theorem logT_step {i : Nat} (h : i < 255) : (logT i).set (exB i).toNat i = logT (i + 1) := by
  unfold logT
  have e : lg (exB i).toNat = i := by rw [exB_nat, lg_ex h]
  refine set_tab ?_ fun k hk hne => ?_
  · rw [if_pos ⟨by rw [exB_nat]; exact ex_ne0 i, by omega⟩, e]
  · by_cases h1 : k ≠ 0 ∧ lg k < i
    · rw [if_pos h1, if_pos ⟨h1.1, by omega⟩]
    · rw [if_neg h1, if_neg]
      rintro ⟨h2, h3⟩
      have : lg k = i := by
        rcases (show lg k < i ∨ lg k = i by omega) with h4 | h4
        · exact absurd ⟨h2, h4⟩ h1
        · exact h4
      apply hne
      rw [exB_nat, ← this, ex_lg hk h2]
/-- a logarithm, nought of nought. -/
def lgZ (a : UInt8) : Nat := (logT 255).getD a.toNat 0
theorem lgZ_eq {a : UInt8} (h : a ≠ 0) : lgZ a = lgB a := by
  unfold lgZ logT
  have h1 := lgB_lt h
  rw [tab_at (UInt8.toNat_lt a)]
  exact if_pos ⟨fun e => h (nat_inj e), h1⟩
theorem lgZ_lt (a : UInt8) : lgZ a < 255 := by
  by_cases h : a = 0
  · subst h; show (logT 255).getD 0 0 < 255
    unfold logT; rw [tab_at (by decide), if_neg (by simp)]; decide
  · rw [lgZ_eq h]; exact lgB_lt h
theorem lgZ_ex {k : Nat} (h : k < 255) : lgZ (exB k) = k := by rw [lgZ_eq (exB_ne0 k), lgB_ex, Nat.mod_eq_of_lt h]
/-! sums with a place turned -/
def turnTo (s : List UInt8) (k i : Nat) : List UInt8 := tab s.length (fun t => if t < i then s.getD t 0 ^^^ exB (k * (t + 1)) else s.getD t 0)
def turnL (s : List UInt8) (k : Nat) : List UInt8 := turnTo s k 8
theorem turnTo_length (s : List UInt8) (k i : Nat) : (turnTo s k i).length = s.length := tab_length
theorem turnL_length (s : List UInt8) (k : Nat) : (turnL s k).length = s.length := tab_length
theorem turnTo_zero (s : List UInt8) (k : Nat) : s = turnTo s k 0 := (eq_tab s 0).trans (tab_ext fun t _ => by rw [if_neg (by omega)])
theorem turnTo_step {s : List UInt8} {k i : Nat} (h : i < s.length) : (turnTo s k i).set i ((turnTo s k i).getD i 0 ^^^ (pwT 255).getD (k * (i + 1) % 255) 0) = turnTo s k (i + 1) := by
  have e : (turnTo s k i).getD i 0 = s.getD i 0 := by unfold turnTo; rw [tab_at h, if_neg (by omega)]
  rw [e, pwT_mod]
  unfold turnTo
  refine set_tab (by rw [if_pos (by omega)]) fun t _ ht => ?_
  by_cases h2 : t < i
  · rw [if_pos h2, if_pos (by omega)]
  · rw [if_neg h2, if_neg (by omega)]
theorem turnL_at {s : List UInt8} (hs : s.length = 8) (k : Nat) {t : Nat} (h : t < 8) : (turnL s k).getD t 0 = s.getD t 0 ^^^ exB (k * (t + 1)) := by
  unfold turnL turnTo; rw [tab_at (by omega), if_pos h]
/-- the sums are those of these places. -/
def SynEq (s : List UInt8) (L : List Nat) : Prop := ∀ i, i < 8 → s.getD i 0 = syn L (i + 1)
theorem syneq_turn {s : List UInt8} (hs : s.length = 8) (k : Nat) (L : List Nat) : SynEq (turnL s k) L ↔ SynEq s (k :: L) := by
  refine forall_congr' fun i => forall_congr' fun hi => ?_
  rw [turnL_at hs k hi, syn_cons, Nat.mul_comm k]
  constructor
  · intro h; rw [← h, ← x_assoc, x_comm (exB _), x_assoc, x_self, x_zero]
  · intro h; rw [h, x_comm (exB _), x_assoc, x_self, x_zero]
theorem syneq_nil {s : List UInt8} (hs : s.length = 8) : SynEq s [] ↔ whole s = true := by
  rw [whole_iff, hs]; exact Iff.rfl
theorem syneq_sums (w : List UInt8) (L : List Nat) : SynEq (sumsL w) L ↔ ∀ i, 1 ≤ i → i ≤ 8 → sW w i = syn L i := by
  constructor
  · intro h i h1 h8
    have := h (i - 1) (by omega)
    rw [sumsL_at w (by omega), show i - 1 + 1 = i by omega] at this
    exact this
  · intro h i hi
    rw [sumsL_at w hi]; exact h (i + 1) (by omega) (by omega)
theorem syneq_zero {s : List UInt8} {L M : List Nat} (hL : SynEq s L) (hM : ∀ i, syn M i = syn L i) : SynEq s M := fun i hi => by rw [hL i hi, hM]
/-- the only place, or -1. -/
def sing (s : List UInt8) : Int := if s.getD 0 0 ≠ 0 ∧ lgZ (s.getD 0 0) < 224 ∧ whole (turnL s (lgZ (s.getD 0 0))) = true then (lgZ (s.getD 0 0) : Int) else -1
theorem sing_yes {s : List UInt8} (hs : s.length = 8) (h : 0 ≤ sing s) : ∃ k : Nat, sing s = (k : Int) ∧ k < 224 ∧ SynEq s [k] := by
  unfold sing at h ⊢
  split at h
  · next hc =>
    rw [if_pos hc]
    exact ⟨_, rfl, hc.2.1, (syneq_turn hs _ []).1 ((syneq_nil (by rw [turnL_length, hs])).2 hc.2.2)⟩
  · omega
theorem sing_no {s : List UInt8} (hs : s.length = 8) (h : ¬ 0 ≤ sing s) : ∀ k, k < 224 → ¬ SynEq s [k] := by
  intro k hk he
  apply h
  have h0 : s.getD 0 0 = exB k := by
    have := he 0 (by decide)
    rw [syn_cons, syn_nil, x_zero, Nat.zero_add, Nat.one_mul] at this; exact this
  have hl : lgZ (s.getD 0 0) = k := by rw [h0, lgZ_ex (by omega)]
  unfold sing
  rw [hl, if_pos ⟨by rw [h0]; exact exB_ne0 k, hk, (syneq_nil (by rw [turnL_length, hs])).1 ((syneq_turn hs k []).2 he)⟩]
  omega
def synTo (w : List UInt8) (k : Nat) : List UInt8 := tab 8 (fun t => sB (bt w) k (t + 1))
def synMid (w : List UInt8) (k i : Nat) : List UInt8 := tab 8 (fun t => if t < i then sB (bt w) (k + 1) (t + 1) else sB (bt w) k (t + 1))
theorem synTo_length (w : List UInt8) (k : Nat) : (synTo w k).length = 8 := tab_length
theorem synMid_length (w : List UInt8) (k i : Nat) : (synMid w k i).length = 8 := tab_length
theorem synTo_zero (w : List UInt8) : List.replicate 8 (0 : UInt8) = synTo w 0 := by unfold synTo; rw [tab_rep]; rfl
theorem synTo_no {w : List UInt8} {k : Nat} (h : bt w k = false) : synTo w (k + 1) = synTo w k := tab_ext fun t _ => by
  show sB (bt w) k (t + 1) ^^^ (if bt w k then exB ((t + 1) * k) else 0) = _
  rw [h]; exact x_zero _
theorem synMid_zero (w : List UInt8) (k : Nat) : synTo w k = synMid w k 0 := tab_ext fun t _ => by rw [if_neg (by omega)]
theorem synMid_done (w : List UInt8) (k : Nat) {i : Nat} (h : 8 ≤ i) : synMid w k i = synTo w (k + 1) := tab_ext fun t ht => by rw [if_pos (by omega)]
theorem synMid_step {w : List UInt8} {k i : Nat} (hb : bt w k = true) (h : i < 8) : (synMid w k i).set i ((synMid w k i).getD i 0 ^^^ (pwT 255).getD (k * (i + 1) % 255) 0) = synMid w k (i + 1) := by
  have e : (synMid w k i).getD i 0 = sB (bt w) k (i + 1) := by unfold synMid; rw [tab_at h, if_neg (by omega)]
  rw [e, pwT_mod]
  unfold synMid
  refine set_tab ?_ fun t _ ht => ?_
  · rw [if_pos (by omega)]
    show _ = sB (bt w) k (i + 1) ^^^ (if bt w k then exB ((i + 1) * k) else 0)
    rw [hb, if_pos rfl, Nat.mul_comm]
  · by_cases h2 : t < i
    · rw [if_pos h2, if_pos (by omega)]
    · rw [if_neg h2, if_neg (by omega)]
theorem synTo_done {w : List UInt8} {k : Nat} (hk : k = 224) (h : w.length = 28) : synTo w k = sumsL w := by subst hk; unfold synTo sumsL sW; rw [h]
/-! the document's encoding: the generator taken off from above -/
def gBit (j : Nat) : Bool := decide (genP.getD j 0 ≠ 0)
def xorG (r : List UInt8) (n i : Nat) : List UInt8 := pkN 28 (fun j => bt r j != (decide (n ≤ j ∧ j < n + i) && gBit (j - n)))
theorem xorG_length (r : List UInt8) (n i : Nat) : (xorG r n i).length = 28 := pkN_length _ _
theorem xorG_zero {r : List UInt8} (h : r.length = 28) (n : Nat) : r = xorG r n 0 := by
  refine bt_ext (by rw [xorG_length, h]) fun k hk => ?_
  unfold xorG
  rw [bt_pkN, decide_eq_true (by omega), Bool.true_and, decide_eq_false (by omega)]
  cases bt r k <;> rfl
theorem gen_bit (i : Nat) : genP.getD i 0 = 0 ∨ genP.getD i 0 = 1 := by
  by_cases h : i < 33
  · rw [genP_eq]
    exact (show ∀ i, i < 33 → ([1, 0, 1, 1, 1, 1, 1, 1, 0, 1, 0, 0, 0, 0, 1, 0, 1, 1, 0, 1, 1, 0, 1, 0, 0, 1, 1, 1, 0, 1, 1, 1, 1] : List UInt8).getD i 0 = 0 ∨ ([1, 0, 1, 1, 1, 1, 1, 1, 0, 1, 0, 0, 0, 0, 1, 0, 1, 1, 0, 1, 1, 0, 1, 0, 0, 1, 1, 1, 0, 1, 1, 1, 1] : List UInt8).getD i 0 = 1 by decide) i h
  · left; exact getD_out (by rw [genP_facts.1]; omega)
theorem xorG_step {r : List UInt8} {n i : Nat} (h : n + i < 224) : (xorG r n i).set ((n + i) / 8) ((xorG r n i).getD ((n + i) / 8) 0 ^^^ shlB (genP.getD i 0) ((n + i) % 8)) = xorG r n (i + 1) := by
  refine bt_ext (by rw [List.length_set, xorG_length, xorG_length]) fun k hk => ?_
  rw [List.length_set, xorG_length] at hk
  rw [bt_set _ (by rw [xorG_length]; omega)]
  by_cases hb : k / 8 = (n + i) / 8
  · rw [if_pos hb, xor_bit, shl_bit (gen_bit i) (by omega), ← hb]
    show (bt (xorG r n i) k != _) = _
    unfold xorG
    rw [bt_pkN, bt_pkN, decide_eq_true hk, Bool.true_and, Bool.true_and]
    by_cases he : k = n + i
    · subst he
      rw [show (n + i) - n = i by omega]
      unfold gBit
      rw [decide_eq_false (show ¬ (n ≤ n + i ∧ n + i < n + i) by omega), decide_eq_true (show n ≤ n + i ∧ n + i < n + (i + 1) by omega)]
      simp
    · rw [decide_eq_false (show ¬ k % 8 = (n + i) % 8 by omega), Bool.false_and]
      have : decide (n ≤ k ∧ k < n + i) = decide (n ≤ k ∧ k < n + (i + 1)) := by simp only [decide_eq_decide]; omega
      rw [this]
      cases (bt r k != (decide (n ≤ k ∧ k < n + (i + 1)) && gBit (k - n))) <;> rfl
  · rw [if_neg hb]
    unfold xorG
    rw [bt_pkN, bt_pkN]
    have : decide (n ≤ k ∧ k < n + i) = decide (n ≤ k ∧ k < n + (i + 1)) := by simp only [decide_eq_decide]; omega
    rw [this]
/-- where the division stands: bits above are none, the sums are those of the data. -/
structure Rest4 (d r : List UInt8) (k : Nat) : Prop where
  len : r.length = 28
  up : ∀ j, k < j → bt r j = false
  eq : ∀ i, 1 ≤ i → i ≤ 8 → sW r i = sW (pad4 d) i
theorem Rest4.init {d : List UInt8} (h : d.length = 24) : Rest4 d (pad4 d) 223 := ⟨pad4_length h, fun j hj => bt_out (by rw [pad4_length h]; omega), fun _ _ _ => rfl⟩
theorem Rest4.skip {d r : List UInt8} {k : Nat} (h : Rest4 d r k) (hk : 32 ≤ k) (hb : bt r k = false) : Rest4 d r (k - 1) :=
  ⟨h.len, fun j hj => (Classical.em (j = k)).elim (fun e => by rw [e]; exact hb) (fun e => h.up j (by omega)), h.eq⟩
theorem sB_succ (f : Nat → Bool) (n i : Nat) : sB f (n + 1) i = sB f n i ^^^ (if f n = true then exB (i * n) else 0) := rfl
theorem gen_part (N n i : Nat) : ∀ m, m ≤ N → sB (fun j => decide (n ≤ j ∧ j < n + N) && gBit (j - n)) (n + m) i = gm (exB (i * n)) (sB gBit m i)
  | 0, _ => by
    rw [show sB gBit 0 i = 0 from rfl, gm_zero, Nat.add_zero, ← sB_no n i]
    exact sB_ext fun k hk => by rw [decide_eq_false (by omega)]; rfl
  | m + 1, hm => by
    rw [← Nat.add_assoc, sB_succ, gen_part N n i m (by omega), sB_succ gBit, gm_x, decide_eq_true (show n ≤ n + m ∧ n + m < n + N by omega), Bool.true_and, show n + m - n = m by omega]
    refine congrArg (fun z => gm (exB (i * n)) (sB gBit m i) ^^^ z) ?_
    by_cases hb : gBit m = true
    · rw [if_pos hb, if_pos hb, ← exB_add, Nat.mul_add]
    · rw [if_neg hb, if_neg hb, gm_zero]
theorem gen_sum {i : Nat} (h1 : 1 ≤ i) (h8 : i ≤ 8) (n : Nat) (hn : n + 33 ≤ 224) : sB (fun j => decide (n ≤ j ∧ j < n + 33) && gBit (j - n)) 224 i = 0 := by
  have e1 : sB (fun j => decide (n ≤ j ∧ j < n + 33) && gBit (j - n)) 224 i = sB (fun j => decide (n ≤ j ∧ j < n + 33) && gBit (j - n)) (n + 33) i :=
    sB_cut (by omega) fun k hk _ => by rw [decide_eq_false (by omega)]; rfl
  have e2 : sB gBit 33 i = evP genP (exB i) := by
    rw [← evP_bits]
    refine evP_congr _ ?_
    funext k
    show (ofBits 33 gBit).getD k 0 = genP.getD k 0
    rw [bits_at]
    unfold gBit
    by_cases hk : k < 33
    · rcases gen_bit k with h | h
      · rw [h]; simp
      · rw [h]; simp [hk]
    · rw [if_neg (fun e => hk e.1), getD_out (by rw [genP_facts.1]; omega)]
  rw [e1, gen_part 33 n i 33 (Nat.le_refl _), e2, gen_root h1 h8, gm_zero]
theorem Rest4.take {d r : List UInt8} {k i : Nat} (h : Rest4 d r k) (hk : 32 ≤ k) (hk2 : k ≤ 223) (hb : bt r k = true) (hi : i = 33) : Rest4 d (xorG r (k - 32) i) (k - 1) := by
  subst hi
  refine ⟨xorG_length _ _ _, fun j hj => ?_, fun i h1 h8 => ?_⟩
  · unfold xorG
    rw [bt_pkN]
    by_cases h224 : j < 8 * 28
    · rw [decide_eq_true h224, Bool.true_and]
      by_cases e : j = k
      · subst e
        rw [hb, decide_eq_true (by omega), Bool.true_and, show j - (j - 32) = 32 by omega]
        have : gBit 32 = true := by unfold gBit; rw [genP_eq]; rfl
        rw [this]; rfl
      · rw [h.up j (by omega), decide_eq_false (by omega)]; rfl
    · rw [decide_eq_false h224, Bool.false_and]
  · have e : sW (xorG r (k - 32) 33) i = sB (fun j => bt r j != (decide (k - 32 ≤ j ∧ j < k - 32 + 33) && gBit (j - (k - 32)))) 224 i := by
      unfold sW
      rw [xorG_length]
      refine sB_ext fun j hj => ?_
      unfold xorG
      rw [bt_pkN, decide_eq_true hj, Bool.true_and]
    rw [e, sB_xor, gen_sum h1 h8 _ (by omega), x_zero, ← h.eq i h1 h8]
    unfold sW
    rw [h.len]
theorem Rest4.done {d r : List UInt8} {k : Nat} (hd : d.length = 24) (h : Rest4 d r k) (hk : k < 32) : (r.take 4).take 4 ++ (pad4 d).drop 4 = encW d := by
  have hl := h.len
  have hp := pad4_length hd
  have hlen : ((r.take 4).take 4 ++ (pad4 d).drop 4).length = 28 := by simp [hl, hp]
  have hbt : ∀ j, bt ((r.take 4).take 4 ++ (pad4 d).drop 4) j = (bt r j != bt (pad4 d) j) := by
    intro j
    rw [bt_app, bt_drop]
    have h4 : ((r.take 4).take 4).length = 4 := by simp [hl]
    rw [h4]
    by_cases hj : j < 8 * 4
    · rw [if_pos hj, pad_bit, if_pos (by omega)]
      have : bt ((r.take 4).take 4) j = bt r j := by
        unfold bt; rw [getD_take, if_pos (by omega), getD_take, if_pos (by omega)]
      rw [this]; simp
    · rw [if_neg hj, show 8 * 4 + (j - 8 * 4) = j by omega, h.up j (by omega)]; simp
  have hc : IsCode ((r.take 4).take 4 ++ (pad4 d).drop 4) := by
    refine ⟨hlen, fun i h1 h8 => ?_⟩
    unfold sW
    rw [hlen]
    have := h.eq i h1 h8
    unfold sW at this
    rw [hl, hp] at this
    rw [sB_ext (g := fun j => bt r j != bt (pad4 d) j) (fun j _ => hbt j), sB_xor, this, x_self]
  refine enc_of hd hc ?_
  have h4 : ((r.take 4).take 4).length = 4 := by simp [hl]
  rw [List.drop_append, h4, List.drop_of_length_le (by omega)]
  simp [pad4]
/-- what is to be found: places of these sums, or that there are none. -/
def PlacesOk (s : List UInt8) (L : List Nat) (b : Bool) : Prop :=
  (b = true ∧ L.Nodup ∧ (∀ k ∈ L, k < 224) ∧ L.length ≤ 3 ∧ SynEq s L) ∨
  (b = false ∧ L = [] ∧ ∀ M : List Nat, M.Pairwise (· < ·) → (∀ k ∈ M, k < 224) → M.length ≤ 3 → ¬ SynEq s M)
theorem PlacesOk.nil {s : List UInt8} (hs : s.length = 8) (h : whole s = true) : PlacesOk s [] true := .inl ⟨rfl, List.nodup_nil, fun _ h => (by cases h), by decide, (syneq_nil hs).2 h⟩
theorem PlacesOk.one {s : List UInt8} {k : Nat} (hk : k < 224) (h : SynEq s [k]) : PlacesOk s [k] true := .inl ⟨rfl, by simp, by simpa using hk, by simp, h⟩
theorem PlacesOk.two {s : List UInt8} {i k : Nat} (hs : s.length = 8) (h0 : ¬ whole s = true) (hi : i < 224) (hk : k < 224) (h : SynEq s [i, k]) : PlacesOk s [i, k] true := by
  refine .inl ⟨rfl, ?_, by simp [hi, hk], by simp, h⟩
  have : i ≠ k := by
    rintro rfl
    apply h0
    rw [← syneq_nil hs]
    exact syneq_zero h fun j => by rw [syn_cons, syn_cons, syn_nil, x_zero, x_self]
  simp [this]
theorem PlacesOk.three {s : List UInt8} {i j x : Nat} (hij : i < j) (hi : i < 224) (hj : j < 224) (hx : x < 224) (h1 : ∀ k, k < 224 → ¬ SynEq s [k]) (h : SynEq s [i, j, x]) : PlacesOk s [i, j, x] true := by
  refine .inl ⟨rfl, ?_, by simp [hi, hj, hx], by simp, h⟩
  have hxi : i ≠ x := by
    rintro rfl
    exact h1 j hj (syneq_zero h fun t => by simp only [syn_cons, syn_nil, x_zero]; rw [x_comm (exB (t * j)), ← x_assoc, x_self, zero_x])
  have hxj : j ≠ x := by
    rintro rfl
    exact h1 i hi (syneq_zero h fun t => by simp only [syn_cons, syn_nil, x_zero]; rw [x_self, x_zero])
  have : i ≠ j := by omega
  simp [hxi, hxj, this]
theorem PlacesOk.none {s : List UInt8} (hs : s.length = 8) (h0 : ¬ whole s = true) (h1 : ∀ k, k < 224 → ¬ SynEq s [k]) (h2 : ∀ i, i < 224 → ∀ k, k < 224 → ¬ SynEq s [i, k]) (h3 : ∀ i, i < 224 → ∀ j, i < j → j < 224 → ∀ x, x < 224 → ¬ SynEq s [i, j, x]) : PlacesOk s [] false := by
  refine .inr ⟨rfl, rfl, fun M hM hl hn he => ?_⟩
  match M, hM, hl, hn with
  | [], _, _, _ => exact h0 ((syneq_nil hs).1 he)
  | [k], _, hl, _ => exact h1 k (hl k (by simp)) he
  | [i, k], _, hl, _ => exact h2 i (hl i (by simp)) k (hl k (by simp)) he
  | [i, j, x], hM, hl, _ =>
    simp only [List.pairwise_cons, List.mem_cons, List.not_mem_nil, or_false] at hM
    exact h3 i (hl i (by simp)) j (hM.1 j (.inl rfl)) (hl j (by simp)) x (hl x (by simp)) he
  | _ :: _ :: _ :: _ :: _, _, _, hn => simp at hn
/-- the tests of a third place. -/
theorem third_no {s : List UInt8} (hs : s.length = 8) {i j : Nat} (h : ∀ k, k < 224 → SynEq s [i, j, k] → (turnL s i).getD 0 0 = (pwT 255).getD j 0 ∨ 224 ≤ (logT 255).getD ((turnL s i).getD 0 0 ^^^ (pwT 255).getD j 0).toNat 0 ∨
    ¬ ((turnL s i).getD 2 0 ^^^ (pwT 255).getD (3 * j % 255) 0) ^^^ (pwT 255).getD (3 * (logT 255).getD ((turnL s i).getD 0 0 ^^^ (pwT 255).getD j 0).toNat 0 % 255) 0 = 0 ∨
    ¬ whole (turnL (turnL (turnL s i) j) ((logT 255).getD ((turnL s i).getD 0 0 ^^^ (pwT 255).getD j 0).toNat 0)) = true) (hj : j < 224) : ∀ x, x < 224 → ¬ SynEq s [i, j, x] := by
  intro x hx he
  have e1 : (turnL s i).getD 0 0 = exB j ^^^ exB x := by
    have := ((syneq_turn hs i [j, x]).2 he) 0 (by decide)
    rw [syn_cons, syn_cons, syn_nil, x_zero, Nat.zero_add, Nat.one_mul, Nat.one_mul] at this; exact this
  have e2 : (turnL s i).getD 2 0 = exB (3 * j) ^^^ exB (3 * x) := by
    have := ((syneq_turn hs i [j, x]).2 he) 2 (by decide)
    rw [syn_cons, syn_cons, syn_nil, x_zero] at this; exact this
  have e3 : (turnL s i).getD 0 0 ^^^ (pwT 255).getD j 0 = exB x := by rw [pwT_at (by omega), e1, x_comm (exB j), x_assoc, x_self, x_zero]
  have e4 : (logT 255).getD ((turnL s i).getD 0 0 ^^^ (pwT 255).getD j 0).toNat 0 = x := by rw [e3]; exact lgZ_ex (by omega)
  rcases h x hx he with h | h | h | h
  · rw [pwT_at (by omega), e1] at h
    have : exB x = 0 := by
      have := congrArg (fun z => exB j ^^^ z) h
      simp only [← x_assoc, x_self] at this
      rw [zero_x] at this; exact this
    exact exB_ne0 x this
  · rw [e4] at h; omega
  · rw [e4, pwT_mod, pwT_mod, e2] at h
    apply h
    rw [x_assoc, x_assoc, x_comm (exB (3 * x)), x_assoc, x_self, x_zero, x_self]
  · rw [e4] at h
    apply h
    rw [← syneq_nil (by rw [turnL_length, turnL_length, turnL_length, hs])]
    exact (syneq_turn (by rw [turnL_length, turnL_length, hs]) _ _).2 ((syneq_turn (by rw [turnL_length, hs]) _ _).2 ((syneq_turn hs _ _).2 he))
theorem third_yes {s : List UInt8} (hs : s.length = 8) {i j x : Nat} (h : whole (turnL (turnL (turnL s i) j) x) = true) : SynEq s [i, j, x] := by
  rw [← syneq_nil (by rw [turnL_length, turnL_length, turnL_length, hs])] at h
  exact (syneq_turn hs _ _).1 ((syneq_turn (by rw [turnL_length, hs]) _ _).1 ((syneq_turn (by rw [turnL_length, turnL_length, hs]) _ _).1 h))
theorem synR_yes {w : List UInt8} (h : w.length = 28) : synR w = sumsL w := if_pos h
theorem synR_len (w : List UInt8) : (synR w).length ≤ 8 := by
  unfold synR; split
  · rw [sumsL_length]; exact Nat.le_refl _
  · exact Nat.zero_le _
theorem places_yes {w : List UInt8} {L : List Nat} (h : w.length = 28) (hP : PlacesOk (sumsL w) L true) : decD w = (flipL w L).drop 4 ∧ decN w = L.length ∧ decB w = true := by
  rcases hP with ⟨_, hn, hl, h3, he⟩ | ⟨hf, _⟩
  · have := dec_some h (near_of hn hl h3 ((syneq_sums w L).1 he))
    rw [upL_flip hn hl h, upL_length hn hl] at this
    exact this
  · cases hf
theorem places_no {w : List UInt8} {L : List Nat} (h : w.length = 28) (hP : PlacesOk (sumsL w) L false) : decD w = [] ∧ decN w = 0 ∧ decB w = false := by
  rcases hP with ⟨hf, _⟩ | ⟨_, _, hM⟩
  · cases hf
  · exact dec_none h fun M hN => hM M hN.up hN.lt hN.few ((syneq_sums w M).2 hN.eq)
theorem places_lt {s : List UInt8} {L : List Nat} {b : Bool} (hP : PlacesOk s L b) : (∀ k ∈ L, k < 224) ∧ L.length ≤ 3 := by
  rcases hP with ⟨_, _, hl, h3, _⟩ | ⟨_, rfl, _⟩
  · exact ⟨hl, h3⟩
  · exact ⟨fun _ h => (by cases h), Nat.zero_le _⟩
end Ram
