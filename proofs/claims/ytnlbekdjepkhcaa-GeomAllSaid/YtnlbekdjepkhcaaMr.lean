import Derived.Test.YtnlbekdjepkhcaaMl
/-
  The ring of polynomials; noughts at the end; least polynomials; roots.
-/
set_option linter.unusedVariables false
set_option linter.unusedSimpArgs false
namespace Ram
theorem mulP_assoc (a b c : List UInt8) : mulP (mulP a b) c = mulP a (mulP b c) := by
  refine eq_of_co (mulP_trim _ _) (mulP_trim _ _) ?_
  rw [mulP_co, mulP_co, mulP_co]
  exact mulF_assoc a b (mulP a b) (mulP_co a b) (co c)
theorem mulP_comm (a b : List UInt8) : mulP a b = mulP b a := by
  refine eq_of_co (mulP_trim _ _) (mulP_trim _ _) ?_
  rw [mulP_co, mulP_co]
  exact mulF_comm a b
theorem mulP_addP (a b c : List UInt8) : mulP a (addP b c) = addP (mulP a b) (mulP a c) := by
  refine eq_of_co (mulP_trim _ _) (addP_trim _ _) ?_
  rw [mulP_co, addP_co, addP_co, mulP_co, mulP_co]
  exact mulF_add a (co b) (co c)
theorem nil_trim : trimL ([] : List UInt8) = [] := rfl
theorem addP_self (a : List UInt8) : addP a a = [] := by
  refine eq_of_co (addP_trim _ _) rfl ?_
  rw [addP_co, addF_self]; rfl
theorem addP_nil (a : List UInt8) : addP a [] = trimL a := by
  refine eq_of_co (addP_trim _ _) (trimL_trimL _) ?_
  rw [addP_co, co_trim]
  exact addF_zero _
theorem mulP_nil (a : List UInt8) : mulP a [] = [] := by
  refine eq_of_co (mulP_trim _ _) rfl ?_
  rw [mulP_co]
  exact mulF_zero a
/-! what depends on the numbers alone -/
theorem mulP_congr {a a' b b' : List UInt8} (h : co a = co a') (h2 : co b = co b') : mulP a b = mulP a' b' := by
  refine eq_of_co (mulP_trim _ _) (mulP_trim _ _) ?_
  rw [mulP_co, mulP_co, h2]
  exact mulF_congr a a' h _
theorem evP_congr {a a' : List UInt8} (x : UInt8) (h : co a = co a') : evP a x = evP a' x := ev_congr x h
theorem div_congr {a a' b b' : List UInt8} (h : co a = co a') (h2 : co b = co b') : quoP a b = quoP a' b' ∧ remP a b = remP a' b' := by
  have hb : trimL b = trimL b' := trim_of_co h2
  by_cases hn : trimL b = []
  · have hn' : trimL b' = [] := by rw [← hb]; exact hn
    rw [(div_no hn).1, (div_no hn).2, (div_no hn').1, (div_no hn').2]; exact ⟨rfl, rfl⟩
  · have hd := div_some a' (b := b') (by rw [← hb]; exact hn)
    have : IsDiv a (trimL b) (quoP a' b') (remP a' b') := by
      rw [hb]
      exact ⟨hd.eq.trans h.symm, hd.lt, hd.q_trim, hd.r_trim⟩
    exact div_is this
theorem isP_congr {b b' : List UInt8} (h : co b = co b') : isP b = isP b' := by
  unfold isP; rw [trim_of_co h]
theorem co_app0 (a : List UInt8) (n : Nat) : co (a ++ List.replicate n 0) = co a := by
  funext i
  show (a ++ List.replicate n 0).getD i 0 = a.getD i 0
  rw [getD_app]
  split
  · rfl
  · rw [getD_out (l := a) (by omega)]
    rcases Nat.lt_or_ge (i - a.length) n with h | h
    · rw [List.getD_eq_getElem?_getD, List.getElem?_replicate, if_pos h]; rfl
    · rw [getD_out (by simpa using h)]
theorem trim_app0 (a : List UInt8) (n : Nat) : trimL (a ++ List.replicate n 0) = trimL a := trim_of_co (co_app0 a n)
theorem quo_app0 (a b : List UInt8) (n : Nat) : quoP (a ++ List.replicate n 0) b = quoP a (b ++ List.replicate n 0) :=
  (div_congr (co_app0 a n) (co_app0 b n).symm).1
theorem rem_app0 (a b : List UInt8) (n : Nat) : remP (a ++ List.replicate n 0) b = remP a (b ++ List.replicate n 0) :=
  (div_congr (co_app0 a n) (co_app0 b n).symm).2
theorem isP_app0 (b : List UInt8) (n : Nat) : isP b = isP (b ++ List.replicate n 0) := isP_congr (co_app0 b n).symm
theorem evP_app0 (a : List UInt8) (n : Nat) (x : UInt8) : evP (a ++ List.replicate n 0) x = evP a x := evP_congr x (co_app0 a n)
theorem mulP_app0 (a b : List UInt8) (n : Nat) : mulP (a ++ List.replicate n 0) b = mulP a b := mulP_congr (co_app0 a n) rfl
/-! least polynomials -/
theorem mul_lin (p : List UInt8) (a : UInt8) (i : Nat) : (mulP p [a, 1]).getD i 0 = gm a (p.getD i 0) ^^^ (if i = 0 then 0 else p.getD (i - 1) 0) := by
  rw [mulP_comm]
  show (co (mulP [a, 1] p) i : UInt8) = _
  rw [mulP_co]
  cases i with
  | zero => rfl
  | succ i =>
    have h : addF (sc (1 : UInt8) (co p)) (sh zeroF) i = (p.getD i 0 : UInt8) := by rw [sh_zero, addF_zero]; exact one_gm _
    have h2 : mulF [a, 1] (co p) (i + 1) = HAdd.hAdd (α := G) (gm a (p.getD (i + 1) 0)) (addF (sc (1 : UInt8) (co p)) (sh zeroF) i) := rfl
    rw [h] at h2
    rw [if_neg (by omega)]
    exact h2
/-- a product of x and powers of 2 has one number more than factors, the last one is 1. -/
theorem minL_form (l : List Nat) : (minL l).length = l.length + 1 ∧ (minL l).getD l.length 0 = 1 ∧ trimL (minL l) = minL l := by
  induction hn : l.length generalizing l with
  | zero => rw [List.eq_nil_of_length_eq_zero hn]; exact ⟨rfl, rfl, rfl⟩
  | succ n ih =>
    obtain ⟨m, a, rfl⟩ : ∃ m a, l = m ++ [a] := ⟨l.dropLast, l.getLast (by intro h; simp [h] at hn), (List.dropLast_concat_getLast _).symm⟩
    have hm : m.length = n := by simpa using hn
    obtain ⟨h1, h2, h3⟩ := ih m hm
    rw [minL_snoc]
    have top : (mulP (minL m) [exB a, 1]).getD (n + 1) 0 = 1 := by
      rw [mul_lin, if_neg (by omega), getD_out (l := minL m) (by omega), Nat.add_sub_cancel, gm_zero, h2]; rfl
    have le : (mulP (minL m) [exB a, 1]).length ≤ n + 2 := by
      have := trimL_len_le (l := mulP (minL m) [exB a, 1]) (n := n + 2) (fun i hi => by
        rw [mul_lin, if_neg (by omega), getD_out (l := minL m) (by omega), getD_out (l := minL m) (by omega), gm_zero]; rfl)
      rw [mulP_trim] at this
      exact this
    have ge : n + 2 ≤ (mulP (minL m) [exB a, 1]).length := by
      rcases Nat.lt_or_ge (n + 1) (mulP (minL m) [exB a, 1]).length with h | h
      · omega
      · rw [getD_out h] at top; exact absurd top (by decide)
    exact ⟨by omega, top, mulP_trim _ _⟩
theorem minL_fold (l : List Nat) : ∀ (p : List UInt8), trimL p = p → l.foldl (fun p m => mulP p [exB m, 1]) p = mulP p (minL l) := by
  induction l with
  | nil =>
    intro p hp
    show p = mulP p [1]
    refine eq_of_co hp (mulP_trim _ _) ?_
    rw [mulP_co]
    exact (mulF_one p).symm
  | cons a l ih =>
    intro p hp
    have e1 : minL (a :: l) = mulP (mulP [1] [exB a, 1]) (minL l) := ih _ (mulP_trim _ _)
    have e2 : mulP [1] [exB a, 1] = [exB a, 1] := minL_one a
    rw [e1, e2, List.foldl_cons, ih _ (mulP_trim _ _), mulP_assoc]
theorem minL_cons (a : Nat) (l : List Nat) : minL (a :: l) = mulP [exB a, 1] (minL l) := by
  have e1 : minL (a :: l) = mulP (mulP [1] [exB a, 1]) (minL l) := minL_fold l _ (mulP_trim _ _)
  have e2 : mulP [1] [exB a, 1] = [exB a, 1] := minL_one a
  rw [e1, e2]
theorem minL_turn (a : Nat) (l : List Nat) : minL (l ++ [a]) = minL (a :: l) := by rw [minL_snoc, minL_cons, mulP_comm]
/-- a byte, as a number of the field. -/
abbrev tG (x : UInt8) : G := x
theorem evOne (a x : UInt8) : evP [a] x = a := by
  show (0 : G) * tG x + tG a = tG a
  rw [G.zero_mul, G.zero_add]
theorem evL (a x : UInt8) : evP [a, 1] x = x ^^^ a := by
  show ((0 : G) * tG x + (1 : G)) * tG x + tG a = tG x + tG a
  rw [G.zero_mul, G.zero_add, G.one_mul]
theorem xor_eq0 {x a : UInt8} : x ^^^ a = 0 ↔ x = a := ⟨fun h => G.eq_of_add h, fun h => by rw [h]; exact G.add_self _⟩
theorem gm_eq0 {x a : UInt8} : gm x a = 0 ↔ x = 0 ∨ a = 0 := ⟨fun h => G.mul_eq_zero h, fun h => by rcases h with h | h <;> rw [h]; exact zero_gm _; exact gm_zero _⟩
theorem ev_minL (l : List Nat) (x : UInt8) : evP (minL l) x = 0 ↔ ∃ m ∈ l, x = exB m := by
  induction l with
  | nil => exact ⟨fun h => absurd ((evOne 1 x).symm.trans h) (by decide), fun ⟨_, h, _⟩ => by cases h⟩
  | cons a l ih => rw [minL_cons, evP_mulP, gm_eq0, evL, xor_eq0, ih]; simp
/-! squares -/
def sqB (a : UInt8) : UInt8 := gm a a
theorem sqB_xor (a b : UInt8) : sqB (a ^^^ b) = sqB a ^^^ sqB b := by
  show (tG a + tG b) * (tG a + tG b) = tG a * tG a + tG b * tG b
  rw [G.mul_add, G.add_mul, G.add_mul, G.mul_comm (tG b) (tG a)]
  rw [G.add_assoc, ← G.add_assoc (tG a * tG b), G.add_self, G.zero_add]
theorem sqB_gm (a b : UInt8) : sqB (gm a b) = gm (sqB a) (sqB b) := by
  show (tG a * tG b) * (tG a * tG b) = (tG a * tG a) * (tG b * tG b)
  ac_rfl
theorem sqB_eq0 {a : UInt8} : sqB a = 0 ↔ a = 0 := by unfold sqB; rw [gm_eq0]; simp
theorem sqB_id {a : UInt8} (h : sqB a = a) : a.toNat ≤ 1 := by
  by_cases h0 : a = 0
  · subst h0; decide
  · have : a = 1 := G.mul_cancel (a := a) (b := a) (c := (1 : UInt8)) h0 (h.trans (G.mul_one (tG a)).symm)
    subst this; decide
theorem sqB_ex (m : Nat) : sqB (exB m) = exB (2 * m % 255) := by
  unfold sqB; rw [exB_mod, ← exB_add]; congr 1; omega
def sqL (l : List UInt8) : List UInt8 := l.map sqB
theorem sqL_at (l : List UInt8) (i : Nat) : (sqL l).getD i 0 = sqB (l.getD i 0) := by
  unfold sqL
  simp only [List.getD_eq_getElem?_getD, List.getElem?_map]
  cases l[i]? with
  | none => rfl
  | some x => rfl
abbrev xB (a b : UInt8) : UInt8 := a ^^^ b
theorem sq_mulF (p : List UInt8) : ∀ (f g : Nat → UInt8), (∀ i, g i = sqB (f i)) → ∀ i, (mulF (sqL p) g i : UInt8) = sqB (mulF p f i) := by
  induction p with
  | nil => intro f g _ i; exact (show (0 : UInt8) = sqB 0 from (sqB_eq0.2 rfl).symm)
  | cons x p ih =>
    intro f g hg i
    have h : (sh (mulF (sqL p) g) i : UInt8) = sqB (sh (mulF p f) i) := by
      cases i with
      | zero => exact (show (0 : UInt8) = sqB 0 from (sqB_eq0.2 rfl).symm)
      | succ i => exact ih f g hg i
    have e : (mulF (sqL (x :: p)) g i : UInt8) = xB (gm (sqB x) (g i)) (sh (mulF (sqL p) g) i) := rfl
    have e2 : (mulF (x :: p) f i : UInt8) = xB (gm x (f i)) (sh (mulF p f) i) := rfl
    rw [hg] at e
    refine e.trans ((congrArg (xB (gm (sqB x) (sqB (f i)))) h).trans ?_)
    exact (congrArg (fun z => xB z (sqB (sh (mulF p f) i))) (sqB_gm x (f i)).symm).trans ((sqB_xor (gm x (f i)) (sh (mulF p f) i)).symm.trans (congrArg sqB e2.symm))
theorem sqL_trim {l : List UInt8} (h : trimL l = l) : trimL (sqL l) = sqL l := by
  refine trimL_id ?_
  rcases Nat.eq_zero_or_pos l.length with h0 | h0
  · left; rw [List.eq_nil_of_length_eq_zero h0]; rfl
  · right
    rw [sqL_at, show (sqL l).length = l.length from List.length_map ..]
    rw [Ne, sqB_eq0]
    have := trimL_top (l := l) (by rw [h]; exact h0)
    rw [h] at this
    exact this
theorem sqL_mul (a b : List UInt8) : mulP (sqL a) (sqL b) = sqL (mulP a b) := by
  refine eq_of_co (mulP_trim _ _) (sqL_trim (mulP_trim _ _)) ?_
  rw [mulP_co]
  funext i
  refine (sq_mulF a (fun i => b.getD i 0) (co (sqL b)) (fun i => sqL_at b i) i).trans ?_
  refine Eq.trans ?_ (sqL_at (mulP a b) i).symm
  exact congrArg sqB (congrFun (mulP_co a b).symm i)
theorem minL_sq (l : List Nat) : minL (l.map (2 * · % 255)) = sqL (minL l) := by
  induction l with
  | nil => rfl
  | cons a l ih =>
    rw [List.map_cons, minL_cons, minL_cons, ih, ← sqL_mul]
    congr 1
    show [exB (2 * a % 255), 1] = [sqB (exB a), sqB 1]
    rw [sqB_ex]; rfl
theorem orbit_turn : ∀ n, n < 255 → orbit (2 * n % 255) = (orbit n).map (2 * · % 255) ∧ (orbit n).map (2 * · % 255) = (orbit n).tail ++ [(orbit n).headD 0] ∧ (orbit n).headD 0 :: (orbit n).tail = orbit n := by decide +kernel
theorem min_sq {n : Nat} (h : n < 255) : sqL (minL (orbit n)) = minL (orbit n) ∧ minL (orbit (2 * n % 255)) = minL (orbit n) := by
  obtain ⟨h1, h2, h3⟩ := orbit_turn n h
  have e : minL ((orbit n).map (2 * · % 255)) = minL (orbit n) := by rw [h2, minL_turn, h3]
  exact ⟨by rw [← minL_sq, e], by rw [h1, e]⟩
theorem min_bit {n : Nat} (h : n < 255) (i : Nat) : ((minL (orbit n)).getD i 0).toNat ≤ 1 := by
  refine sqB_id ?_
  have := congrArg (fun l => List.getD l i 0) (min_sq h).1
  rw [← sqL_at]; exact this
theorem minP_bit (n : Int) (i : Nat) : ¬ (1 : UInt8).toNat < ((minP n).getD i 0).toNat := by
  have := min_bit (n := (n % 255).toNat) (by omega) i
  exact Nat.not_lt.2 this
theorem minP_two (n : Int) : 2 ≤ (minP n).length := by
  unfold minP
  rw [(minL_form _).1, orbit_length]
  have := per_pos (n % 255).toNat
  omega
theorem minP_le (n : Int) : (minP n).length ≤ 9 := by
  unfold minP
  rw [(minL_form _).1, orbit_length]
  have := per_le (n % 255).toNat
  omega
theorem orb_min (c i : Nat) (hc : c < 255) : minL (orbit (orb c i)) = minL (orbit c) := by
  induction i with
  | zero => rw [orb_zero hc]
  | succ i ih => rw [← orb_succ, (min_sq (orb_lt c i)).2, ih]
theorem minP_orb (n : Int) (i : Nat) : minP ((orb (n % 255).toNat i : Nat) : Int) = minP n := by
  unfold minP
  have : (((orb (n % 255).toNat i : Nat) : Int) % 255).toNat = orb (n % 255).toNat i := by have := orb_lt (n % 255).toNat i; omega
  rw [this, orb_min _ _ (by omega)]
theorem minP_root (n : Int) (i : Nat) : evP (minP n) (exI ((orb (n % 255).toNat i : Nat) : Int)) = 0 := by
  rw [← minP_orb n i, exI_nat]
  unfold minP
  have : (((orb (n % 255).toNat i : Nat) : Int) % 255).toNat = orb (n % 255).toNat i := by have := orb_lt (n % 255).toNat i; omega
  rw [this, ev_minL]
  refine ⟨_, ?_, rfl⟩
  obtain ⟨h1, h2, h3⟩ := orbit_turn _ (orb_lt (n % 255).toNat i)
  rw [← h3]
  have : (orbit (orb (n % 255).toNat i)).headD 0 = orb (n % 255).toNat i := by
    have hp := per_pos (orb (n % 255).toNat i)
    have : (orbit (orb (n % 255).toNat i)).getD 0 0 = orb (n % 255).toNat i := by
      unfold orbit
      rw [tab_at hp, orb_zero (orb_lt _ _)]
    cases hq : orbit (orb (n % 255).toNat i) with
    | nil => rw [hq] at this; exact this
    | cons a l => rw [hq] at this; exact this
  rw [this]
  exact List.mem_cons_self
/-! roots -/
def rootL (l : List Int) : List UInt8 := minL (l.map fun k => (k % 255).toNat)
theorem rootL_snoc (l : List Int) (k : Int) : mulP (rootL l) [exI k, 1] = rootL (l ++ [k]) := by
  unfold rootL; rw [List.map_append, List.map_singleton, minL_snoc]; rfl
theorem rootL_len (l : List Int) : (rootL l).length = l.length + 1 := by unfold rootL; rw [(minL_form _).1, List.length_map]
theorem rootL_ev (l : List Int) (x : UInt8) : evP (rootL l) x = 0 ↔ ∃ k ∈ l, x = exI k := by
  unfold rootL
  rw [ev_minL]
  constructor
  · rintro ⟨m, hm, rfl⟩
    obtain ⟨k, hk, rfl⟩ := List.mem_map.1 hm
    exact ⟨k, hk, rfl⟩
  · rintro ⟨k, hk, rfl⟩
    exact ⟨_, List.mem_map.2 ⟨k, hk, rfl⟩, rfl⟩
/-- which bytes are among these powers of 2. -/
def inL (l : List Int) (i : Nat) : List Bool := tab 256 (fun a => (l.take i).any (fun k => decide (exI k = UInt8.ofNat a)))
theorem inL_zero (l : List Int) : List.replicate 256 false = inL l 0 := tab_rep false
theorem inL_length (l : List Int) (i : Nat) : (inL l i).length = 256 := tab_length
theorem inL_step {l : List Int} {i : Nat} (h : i < l.length) : (inL l i).set (exI (l.getD i 0)).toNat true = inL l (i + 1) := by
  unfold inL
  rw [tab_set]
  refine tab_ext fun a ha => ?_
  rw [List.take_succ_eq_append_getElem h, List.any_append]
  have hg : l.getD i 0 = l[i] := by rw [List.getD_eq_getElem?_getD, List.getElem?_eq_getElem h]; rfl
  simp only [List.any_cons, List.any_nil, Bool.or_false]
  by_cases he : a = (exI (l.getD i 0)).toNat
  · rw [if_pos he]
    have : exI l[i] = UInt8.ofNat a := by rw [he, hg, UInt8.ofNat_toNat]
    rw [decide_eq_true this, Bool.or_true]
  · rw [if_neg he]
    have : ¬ exI l[i] = UInt8.ofNat a := fun h2 => he (by rw [hg, h2, ofNat_nat ha])
    rw [decide_eq_false this, Bool.or_false]
theorem inL_at (l : List Int) (i : Nat) {a : Nat} (h : a < 256) : (inL l i).getD a false = decide (evP (rootL (l.take i)) (UInt8.ofNat a) = 0) := by
  unfold inL
  rw [tab_at h]
  by_cases hp : evP (rootL (l.take i)) (UInt8.ofNat a) = 0
  · rw [decide_eq_true hp]
    obtain ⟨k, hk, e⟩ := (rootL_ev _ _).1 hp
    exact List.any_eq_true.2 ⟨k, hk, decide_eq_true e.symm⟩
  · rw [decide_eq_false hp]
    refine List.any_eq_false.2 fun k hk => ?_
    rw [decide_eq_true_eq]
    exact fun e => hp ((rootL_ev _ _).2 ⟨k, hk, e.symm⟩)
/-- the rest by x and c is the value at c. -/
theorem rem_lin (p : List UInt8) (c : UInt8) : isP [c, 1] = true ∧ ((evP p c = 0 ∧ (remP p [c, 1]).length = 0) ∨ (evP p c ≠ 0 ∧ (remP p [c, 1]).length = 1 ∧ (remP p [c, 1]).getD 0 0 = evP p c)) := by
  have ht : trimL [c, 1] = [c, 1] := trimL_id (.inr (by show ¬ (1 : UInt8) = 0; decide))
  have hn : ¬ trimL [c, 1] = [] := by rw [ht]; simp
  refine ⟨isP_yes hn, ?_⟩
  have hd := div_some p hn
  rw [ht] at hd
  have hev : evP p c = evP (remP p [c, 1]) c := by
    have h1 : evP p c = evP (mulP (quoP p [c, 1]) [c, 1]) c ^^^ evP (remP p [c, 1]) c := by
      rw [← evP_addP]
      refine evP_congr c ?_
      rw [addP_co, mulP_co]
      exact hd.eq.symm
    rw [h1, evP_mulP, evL, xor_eq0.2 rfl, gm_zero]
    exact G.zero_add _
  have hl := hd.lt
  cases hr : remP p [c, 1] with
  | nil => left; rw [hev, hr]; exact ⟨rfl, rfl⟩
  | cons r t =>
    rw [hr] at hl
    have : t = [] := List.eq_nil_of_length_eq_zero (by simp at hl; omega)
    subst this
    right
    have e : evP [r] c = r := evOne r c
    rw [hev, hr, e]
    refine ⟨?_, rfl, rfl⟩
    have := trimL_top (l := [r]) (by have := hd.r_trim; rw [hr] at this; rw [this]; exact Nat.one_pos)
    have h2 := hd.r_trim
    rw [hr] at h2
    rw [h2] at this
    exact this
end Ram
