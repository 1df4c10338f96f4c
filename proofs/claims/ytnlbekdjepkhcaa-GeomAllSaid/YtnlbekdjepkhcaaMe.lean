import Derived.Test.YtnlbekdjepkhcaaMd
/-
  How the program finds what is near: sums, locator, places.
-/
set_option linter.unusedVariables false
set_option linter.unusedSimpArgs false
namespace Ram
def sumsL (w : List UInt8) : List UInt8 := tab 8 (fun i => sW w (i + 1))
theorem sumsL_length (w : List UInt8) : (sumsL w).length = 8 := tab_length
theorem sumsL_at (w : List UInt8) {i : Nat} (h : i < 8) : (sumsL w).getD i 0 = sW w (i + 1) := tab_at h
def whole (s : List UInt8) : Bool := s.all (fun x => decide (x = 0))
theorem whole_iff (s : List UInt8) : whole s = true ↔ ∀ i, i < s.length → s.getD i 0 = 0 := by
  unfold whole
  rw [List.all_eq_true]
  constructor
  · intro h i hi
    have := h s[i] (List.getElem_mem hi)
    rw [List.getD_eq_getElem?_getD, List.getElem?_eq_getElem hi]
    exact of_decide_eq_true this
  · intro h x hx
    obtain ⟨i, hi, rfl⟩ := List.getElem_of_mem hx
    have := h i hi
    rw [List.getD_eq_getElem?_getD, List.getElem?_eq_getElem hi] at this
    exact decide_eq_true this
theorem whole_sums (w : List UInt8) : whole (sumsL w) = true ↔ ∀ i, 1 ≤ i → i ≤ 8 → sW w i = 0 := by
  rw [whole_iff, sumsL_length]
  constructor
  · intro h i h1 h8
    have := h (i - 1) (by omega)
    rw [sumsL_at w (by omega), show i - 1 + 1 = i by omega] at this
    exact this
  · intro h i hi
    rw [sumsL_at w hi]
    exact h (i + 1) (by omega) (by omega)
/-- the value, at a place, of the polynomial told by l. -/
def sigL (l : List UInt8) (p : Nat) : UInt8 := 1 ^^^ xs l.length (fun i => gm (l.getD i 0) (exI ((-1 - (i : Int)) * p)))
def wrongL (l : List UInt8) : List Nat := (List.range 224).filter (fun p => decide (sigL l p = 0))
theorem cube_eq (x : UInt8) : powB x 3 = gm (gm x x) x := by
  by_cases h : x = 0
  · subst h; rw [powB_zero, if_neg (by decide)]; exact (gm_zero _).symm
  · rw [powB_ne h]
    have : ((3 : Int) % 255).toNat = 1 + 1 + 1 := by decide
    rw [this, gpB_add, gpB_add, gpB_one]
def locL (s : List UInt8) (n : Nat) : List UInt8 × Bool :=
  if n = 1 then ([s.getD 0 0], true)
  else if n = 2 then ([s.getD 0 0, gm (s.getD 2 0 ^^^ powB (s.getD 0 0) 3) (invB (s.getD 0 0))], !decide (s.getD 0 0 = 0))
  else ([s.getD 0 0, gm (gm (gm (s.getD 0 0) (s.getD 0 0)) (s.getD 2 0) ^^^ s.getD 4 0) (invB (powB (s.getD 0 0) 3 ^^^ s.getD 2 0)),
    (powB (s.getD 0 0) 3 ^^^ s.getD 2 0) ^^^ gm (s.getD 0 0) (gm (gm (gm (s.getD 0 0) (s.getD 0 0)) (s.getD 2 0) ^^^ s.getD 4 0) (invB (powB (s.getD 0 0) 3 ^^^ s.getD 2 0)))],
    !decide (powB (s.getD 0 0) 3 ^^^ s.getD 2 0 = 0))
/-! the field's equations -/
theorem alg3 {S1 S2 S3 S4 S5 c0 c1 : G} (h2 : S2 = S1 * S1) (h4 : S4 = S2 * S2) (r0 : c0 + (c1 * S1 + (S1 * S2 + S3)) = 0) (r2 : c0 * S2 + (c1 * S3 + (S1 * S4 + S5)) = 0) :
    c0 = c1 * S1 + (S1 * S1 * S1 + S3) ∧ c1 * (S1 * S1 * S1 + S3) = S1 * S1 * S3 + S5 := by
  subst h2; subst h4
  have e0 : c0 = c1 * S1 + (S1 * S1 * S1 + S3) := by
    have := G.eq_of_add r0
    rw [this]
    ac_rfl
  refine ⟨e0, G.eq_of_add ?_⟩
  have h : c1 * (S1 * S1 * S1 + S3) + (S1 * S1 * S3 + S5) + (S1 * S1 * S1 * S1 * S1 + S1 * S1 * S1 * S1 * S1) = 0 := by
    rw [← r2, e0]
    simp only [G.mul_add, G.add_mul]
    ac_rfl
  rw [G.add_self, G.add_zero] at h
  exact h
theorem alg2 {S1 S2 S3 c0 : G} (h2 : S2 = S1 * S1) (r1 : c0 * S1 + (S1 * S2 + S3) = 0) : c0 * S1 = S3 + S1 * S1 * S1 := by
  subst h2
  rw [G.eq_of_add r1]
  ac_rfl
theorem quo_inv {a b c : UInt8} (h : gm a b = c) (hb : b ≠ 0) : gm c (invB b) = a := by
  rw [← h, gm_assoc, gm_inv hb, gm_one]
theorem pow_at (p i : Nat) : gm (exI ((-1 - (i : Int)) * p)) (exB ((i + 1) * p)) = 1 := by
  rw [← exI_nat, ← exI_add]
  have : ((-1 - (i : Int)) * p + ((i + 1) * p : Nat)) = 0 := by
    rw [Int.natCast_mul, Int.natCast_add, ← Int.add_mul]
    have : (-1 - (i : Int) + ((i : Int) + 1)) = 0 := by omega
    have h2 : ((1 : Nat) : Int) = 1 := rfl
    rw [h2, this, Int.zero_mul]
  rw [this]; decide
theorem gm_mid (a b c d : UInt8) : gm (gm a b) (gm c d) = gm (gm a c) (gm b d) := by
  rw [gm_assoc, gm_assoc, ← gm_assoc b c d, gm_comm b c, gm_assoc c b d]
/-- the place's power times the value is the value of the polynomial turned about. -/
theorem sig1 (a : UInt8) (p : Nat) : sigL [a] p = 0 ↔ evP [a, 1] (exB p) = 0 := by
  have h : gm (sigL [a] p) (exB p) = evP [a, 1] (exB p) := by
    show gm (1 ^^^ ((0 : UInt8) ^^^ gm a (exI ((-1 - ((0 : Nat) : Int)) * p)))) (exB p) = _
    have := pow_at p 0
    rw [Nat.zero_add, Nat.one_mul] at this
    rw [zero_x, x_gm, gm_assoc, this, one_gm, gm_one, evL]
  rw [← h, gm_eq0]
  exact ⟨.inl, fun h => h.resolve_right (exB_ne0 p)⟩
theorem sig2 (a b : UInt8) (p : Nat) : sigL [a, b] p = 0 ↔ evP [b, a, 1] (exB p) = 0 := by
  have h : gm (sigL [a, b] p) (exB (2 * p)) = evP [b, a, 1] (exB p) := by
    show gm (1 ^^^ (((0 : UInt8) ^^^ gm a (exI ((-1 - ((0 : Nat) : Int)) * p))) ^^^ gm b (exI ((-1 - ((1 : Nat) : Int)) * p)))) (exB (2 * p)) = _
    have h0 := pow_at p 0
    have h1 := pow_at p 1
    rw [Nat.zero_add, Nat.one_mul] at h0
    rw [zero_x, x_gm, x_gm, gm_assoc b, show 2 * p = (1 + 1) * p by omega, h1, show (1 + 1) * p = p + p by omega, exB_add, gm_assoc a, ← gm_assoc (exI _) (exB p), h0, one_gm, one_gm, gm_one, evP_cons, evL, x_gm, x_assoc]
  rw [← h, gm_eq0]
  exact ⟨.inl, fun h => h.resolve_right (exB_ne0 _)⟩
theorem sig3 (a b c : UInt8) (p : Nat) : sigL [a, b, c] p = 0 ↔ evP [c, b, a, 1] (exB p) = 0 := by
  have h : gm (sigL [a, b, c] p) (exB (3 * p)) = evP [c, b, a, 1] (exB p) := by
    show gm (1 ^^^ ((((0 : UInt8) ^^^ gm a (exI ((-1 - ((0 : Nat) : Int)) * p))) ^^^ gm b (exI ((-1 - ((1 : Nat) : Int)) * p))) ^^^ gm c (exI ((-1 - ((2 : Nat) : Int)) * p)))) (exB (3 * p)) = _
    have h0 := pow_at p 0
    have h1 := pow_at p 1
    have h2 := pow_at p 2
    rw [Nat.zero_add, Nat.one_mul] at h0
    have e1 : gm (gm a (exI ((-1 - ((0 : Nat) : Int)) * p))) (exB (3 * p)) = gm a (gm (exB p) (exB p)) := by
      rw [show 3 * p = p + (p + p) by omega, exB_add, gm_assoc a, ← gm_assoc (exI _) (exB p), h0, one_gm, exB_add]
    have e2 : gm (gm b (exI ((-1 - ((1 : Nat) : Int)) * p))) (exB (3 * p)) = gm b (exB p) := by
      rw [show 3 * p = (1 + 1) * p + p by omega, exB_add, gm_assoc b, ← gm_assoc (exI _) (exB ((1 + 1) * p)), h1, one_gm]
    have e3 : gm (gm c (exI ((-1 - ((2 : Nat) : Int)) * p))) (exB (3 * p)) = c := by
      rw [show 3 * p = (2 + 1) * p by omega, gm_assoc c, h2, gm_one]
    rw [zero_x, x_gm, x_gm, x_gm, one_gm, e1, e2, e3, evP_cons, evP_cons, evL, x_gm, x_gm, x_gm]
    have e4 : exB (3 * p) = gm (gm (exB p) (exB p)) (exB p) := by rw [show 3 * p = p + p + p by omega, exB_add, exB_add]
    rw [e4, gm_assoc a (exB p)]
    simp only [x_assoc]
  rw [← h, gm_eq0]
  exact ⟨.inl, fun h => h.resolve_right (exB_ne0 _)⟩
theorem wrong_eq {l : List UInt8} {L : List Nat} (hu : L.Pairwise (· < ·)) (hl : ∀ k ∈ L, k < 224) (h : ∀ p, p < 224 → (sigL l p = 0 ↔ evP (minL L) (exB p) = 0)) : wrongL l = L := by
  refine sorted_ext (filter_sorted _ _) hu fun x => ?_
  unfold wrongL
  rw [List.mem_filter, List.mem_range, decide_eq_true_eq]
  constructor
  · rintro ⟨hx, h0⟩
    obtain ⟨m, hm, e⟩ := (ev_minL L _).1 ((h x hx).1 h0)
    have := exB_inj (by omega) (by have := hl m hm; omega) e
    rw [this]; exact hm
  · intro hx
    exact ⟨hl x hx, (h x (hl x hx)).2 ((ev_minL L _).2 ⟨x, hx, rfl⟩)⟩
theorem tS_min (L : List Nat) (j : Nat) : tS L (minL L) j = 0 := tS_roots L _ j fun k hk => (ev_minL L _).2 ⟨k, hk, rfl⟩
theorem sums_near {w : List UInt8} {L : List Nat} (hN : Near w L) {i : Nat} (h : i < 8) : (sumsL w).getD i 0 = syn L (i + 1) := by rw [sumsL_at w h, hN.eq (i + 1) (by omega) (by omega)]
theorem loc1 {w : List UInt8} {L : List Nat} (hN : Near w L) (hl : L.length = 1) : (locL (sumsL w) 1).2 = true ∧ wrongL (locL (sumsL w) 1).1 = L := by
  obtain ⟨a, rfl⟩ : ∃ a, L = [a] := by
    match L, hl with
    | [a], _ => exact ⟨a, rfl⟩
  refine ⟨rfl, wrong_eq hN.up hN.lt fun p hp => ?_⟩
  show sigL [(sumsL w).getD 0 0] p = 0 ↔ _
  rw [sig1, sums_near hN (by decide), minL_one, show syn [a] (0 + 1) = exB a by rw [syn_cons, syn_nil, x_zero, Nat.zero_add, Nat.one_mul]]
theorem list3 {m : List UInt8} (h : m.length = 3) : m = [m.getD 0 0, m.getD 1 0, m.getD 2 0] := by
  match m, h with
  | [a, b, c], _ => rfl
theorem list4 {m : List UInt8} (h : m.length = 4) : m = [m.getD 0 0, m.getD 1 0, m.getD 2 0, m.getD 3 0] := by
  match m, h with
  | [a, b, c, d], _ => rfl
theorem min2 (a b : Nat) : ∃ c0, minL [a, b] = [c0, syn [a, b] 1, 1] := by
  obtain ⟨h1, h2, h3⟩ := minL_form [a, b]
  have e1 : (minL [a, b]).getD 1 0 = syn [a, b] 1 := by
    show (mulP (mulP [1] [exB a, 1]) [exB b, 1]).getD 1 0 = _
    rw [mul_lin, if_neg (by decide), mul_lin, mul_lin, if_neg (by decide), if_pos (by decide)]
    show gm (exB b) (gm (exB a) 0 ^^^ 1) ^^^ (gm (exB a) 1 ^^^ 0) = _
    rw [gm_zero, zero_x, gm_one, gm_one, x_zero, syn_cons, syn_cons, syn_nil, x_zero, Nat.one_mul, Nat.one_mul, x_comm]
  have e2 : (minL [a, b]).getD 2 0 = 1 := h2
  have := list3 h1
  rw [e1, e2] at this
  exact ⟨_, this⟩
theorem min3 (a b c : Nat) : ∃ c0 c1, minL [a, b, c] = [c0, c1, syn [a, b, c] 1, 1] := by
  obtain ⟨h1, h2, h3⟩ := minL_form [a, b, c]
  have e1 : (minL [a, b, c]).getD 2 0 = syn [a, b, c] 1 := by
    obtain ⟨c0, h⟩ := min2 a b
    rw [show [a, b, c] = [a, b] ++ [c] from rfl, minL_snoc, mul_lin, if_neg (by decide), h]
    show gm (exB c) 1 ^^^ syn [a, b] 1 = _
    rw [gm_one, syn_snoc, Nat.one_mul, x_comm]
  have e2 : (minL [a, b, c]).getD 3 0 = 1 := h2
  have := list4 h1
  rw [e1, e2] at this
  exact ⟨_, _, this⟩
theorem tS3 (L : List Nat) (c0 c1 c2 : UInt8) (j : Nat) : tS L [c0, c1, c2, 1] j = gm c0 (syn L j) ^^^ (gm c1 (syn L (j + 1)) ^^^ (gm c2 (syn L (j + 2)) ^^^ syn L (j + 3))) := by
  rw [tS_step, tS_step, tS_step, tS_step, tS_nil, zero_x, one_gm, x_comm, x_comm _ (gm c1 _), x_comm _ (gm c2 _)]
theorem tS2 (L : List Nat) (c0 c1 : UInt8) (j : Nat) : tS L [c0, c1, 1] j = gm c0 (syn L j) ^^^ (gm c1 (syn L (j + 1)) ^^^ syn L (j + 2)) := by
  rw [tS_step, tS_step, tS_step, tS_nil, zero_x, one_gm, x_comm, x_comm _ (gm c1 _)]
theorem loc2 {w : List UInt8} {L : List Nat} (hN : Near w L) (hl : L.length = 2) : (locL (sumsL w) 2).2 = true ∧ wrongL (locL (sumsL w) 2).1 = L := by
  obtain ⟨a, b, rfl⟩ : ∃ a b, L = [a, b] := by
    match L, hl with
    | [a, b], _ => exact ⟨a, b, rfl⟩
  obtain ⟨c0, hm⟩ := min2 a b
  have hab : a < b := by have := hN.up; simp at this; exact this
  have ha := hN.lt a (by simp)
  have hb := hN.lt b (by simp)
  have h0 : syn [a, b] 1 ≠ 0 := by
    intro e
    rw [syn_cons, syn_cons, syn_nil, x_zero, Nat.one_mul, Nat.one_mul] at e
    have := exB_inj (by omega) (by omega) (xor_eq0.1 e)
    omega
  have r1 := tS_min [a, b] 1
  rw [hm, tS2] at r1
  have hc : gm c0 (syn [a, b] 1) = syn [a, b] 3 ^^^ gm (gm (syn [a, b] 1) (syn [a, b] 1)) (syn [a, b] 1) :=
    alg2 (S1 := syn [a, b] 1) (S2 := syn [a, b] 2) (S3 := syn [a, b] 3) (c0 := c0) (syn_sq [a, b] 1) r1
  have e0 : (sumsL w).getD 0 0 = syn [a, b] 1 := sums_near hN (by decide)
  have e2 : (sumsL w).getD 2 0 = syn [a, b] 3 := sums_near hN (by decide)
  have hloc : locL (sumsL w) 2 = ([syn [a, b] 1, c0], true) := by
    unfold locL
    rw [if_neg (by decide), if_pos rfl, e0, e2, cube_eq, quo_inv hc h0, decide_eq_false h0]; rfl
  rw [hloc]
  refine ⟨rfl, wrong_eq hN.up hN.lt fun p hp => ?_⟩
  show sigL [syn [a, b] 1, c0] p = 0 ↔ _
  rw [sig2, hm]
theorem loc3 {w : List UInt8} {L : List Nat} (hN : Near w L) (hl : L.length = 3) : (locL (sumsL w) 3).2 = true ∧ wrongL (locL (sumsL w) 3).1 = L := by
  obtain ⟨a, b, c, rfl⟩ : ∃ a b c, L = [a, b, c] := by
    match L, hl with
    | [a, b, c], _ => exact ⟨a, b, c, rfl⟩
  obtain ⟨c0, c1, hm⟩ := min3 a b c
  have hup := hN.up
  simp only [List.pairwise_cons, List.mem_cons, List.not_mem_nil, or_false] at hup
  have hab : a < b := hup.1 b (.inl rfl)
  have hac : a < c := hup.1 c (.inr rfl)
  have hbc : b < c := hup.2.1 c rfl
  have hla := hN.lt a (by simp)
  have hlb := hN.lt b (by simp)
  have hlc := hN.lt c (by simp)
  have r0 := tS_min [a, b, c] 0
  have r2 := tS_min [a, b, c] 2
  rw [hm, tS3] at r0 r2
  have hs0 : syn [a, b, c] 0 = 1 := by
    rw [syn_cons, syn_cons, syn_cons, syn_nil, x_zero, Nat.zero_mul, Nat.zero_mul, Nat.zero_mul, exB_zero]; decide
  rw [hs0, gm_one] at r0
  obtain ⟨q0, q1⟩ := alg3 (S1 := syn [a, b, c] 1) (S2 := syn [a, b, c] 2) (S3 := syn [a, b, c] 3) (S4 := syn [a, b, c] 4) (S5 := syn [a, b, c] 5) (c0 := c0) (c1 := c1) (syn_sq _ 1) (syn_sq _ 2) r0 r2
  have q0' : c0 = gm c1 (syn [a, b, c] 1) ^^^ (gm (gm (syn [a, b, c] 1) (syn [a, b, c] 1)) (syn [a, b, c] 1) ^^^ syn [a, b, c] 3) := q0
  have q1' : gm c1 (gm (gm (syn [a, b, c] 1) (syn [a, b, c] 1)) (syn [a, b, c] 1) ^^^ syn [a, b, c] 3) = gm (gm (syn [a, b, c] 1) (syn [a, b, c] 1)) (syn [a, b, c] 3) ^^^ syn [a, b, c] 5 := q1
  have hd : gm (gm (syn [a, b, c] 1) (syn [a, b, c] 1)) (syn [a, b, c] 1) ^^^ syn [a, b, c] 3 ≠ 0 := by
    intro e
    have hev : evP (minL [a, b, c]) (syn [a, b, c] 1) = 0 := by
      rw [hm, evP_cons, evP_cons, evL, x_self, zero_gm, zero_x, q0', e, x_zero, x_self]
    obtain ⟨m, hmem, hme⟩ := (ev_minL _ _).1 hev
    have hsum : syn [a, b, c] 1 = exB a ^^^ (exB b ^^^ exB c) := by rw [syn_cons, syn_cons, syn_cons, syn_nil, x_zero, Nat.one_mul, Nat.one_mul, Nat.one_mul]
    rw [hsum] at hme
    simp only [List.mem_cons, List.not_mem_nil, or_false] at hmem
    rcases hmem with rfl | rfl | rfl
    · have : exB b ^^^ exB c = 0 := by
        have := congrArg (fun z => exB m ^^^ z) hme
        simp only [← x_assoc, x_self] at this
        rw [x_assoc, zero_x] at this; exact this
      have := exB_inj (by omega) (by omega) (xor_eq0.1 this); omega
    · have : exB a ^^^ exB c = 0 := by
        have := congrArg (fun z => z ^^^ exB m) hme
        simp only [x_self] at this
        rw [x_assoc, x_comm (exB m) (exB c), x_assoc (exB c), x_self, x_zero] at this; exact this
      have := exB_inj (by omega) (by omega) (xor_eq0.1 this); omega
    · have : exB a ^^^ exB b = 0 := by
        have := congrArg (fun z => z ^^^ exB m) hme
        simp only [x_self] at this
        rw [x_assoc, x_assoc, x_self, x_zero] at this; exact this
      have := exB_inj (by omega) (by omega) (xor_eq0.1 this); omega
  have e0 : (sumsL w).getD 0 0 = syn [a, b, c] 1 := sums_near hN (by decide)
  have e2 : (sumsL w).getD 2 0 = syn [a, b, c] 3 := sums_near hN (by decide)
  have e4 : (sumsL w).getD 4 0 = syn [a, b, c] 5 := sums_near hN (by decide)
  have hloc : locL (sumsL w) 3 = ([syn [a, b, c] 1, c1, c0], true) := by
    unfold locL
    rw [if_neg (by decide), if_neg (by decide), e0, e2, e4, cube_eq, quo_inv q1' hd, decide_eq_false hd, q0', x_comm (gm c1 _), gm_comm c1]; rfl
  rw [hloc]
  refine ⟨rfl, wrong_eq hN.up hN.lt fun p hp => ?_⟩
  show sigL [syn [a, b, c] 1, c1, c0] p = 0 ↔ _
  rw [sig3, hm]
theorem loc_ok {w : List UInt8} {L : List Nat} (hN : Near w L) {n : Nat} (hn : L.length = n) (h1 : 1 ≤ n) : (locL (sumsL w) n).2 = true ∧ wrongL (locL (sumsL w) n).1 = L := by
  have := hN.few
  rcases (show n = 1 ∨ n = 2 ∨ n = 3 by omega) with rfl | rfl | rfl
  · exact loc1 hN hn
  · exact loc2 hN hn
  · exact loc3 hN hn
/-- what the program finds in its n-th try. -/
theorem try_some {w : List UInt8} (hw : w.length = 28) {p : List Nat} {l : List UInt8} (hp : wrongL l = p) (h3 : p.length ≤ 3) (h : whole (sumsL (flipL w p)) = true) : Near w p := by
  have hu : p.Pairwise (· < ·) := by rw [← hp]; exact filter_sorted _ _
  have hl : ∀ k ∈ p, k < 224 := fun k hk => by rw [← hp] at hk; exact List.mem_range.1 (List.mem_filter.1 hk).1
  refine ⟨hu, hl, h3, fun i h1 h8 => ?_⟩
  have := (whole_sums _).1 h i h1 h8
  rw [sW_flipL (sorted_nodup hu) (fun k hk => by have := hl k hk; omega)] at this
  exact xor_eq0.1 this
theorem try_none {w : List UInt8} (hw : w.length = 28) {n : Nat} (h1 : 1 ≤ n) (h : ¬ ((locL (sumsL w) n).2 = true ∧ (wrongL (locL (sumsL w) n).1).length = n ∧ whole (sumsL (flipL w (wrongL (locL (sumsL w) n).1))) = true)) {L : List Nat} (hN : Near w L) : L.length ≠ n := by
  intro hn
  obtain ⟨a, b⟩ := loc_ok hN hn h1
  refine h ⟨a, by rw [b]; exact hn, ?_⟩
  rw [b]
  exact (whole_sums _).2 (hN.code hw).sums
end Ram
