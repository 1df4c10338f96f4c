import Derived.Test.YtnlbekdjepkhcaaMa
import Derived.Test.YtnlbekdjepkhcaaMt
/-
  Polynomials over bytes: sums, products, values, quotients.
-/
set_option linter.unusedSimpArgs false
set_option linter.unusedVariables false
namespace Ram

theorem co_at (p : List UInt8) (i : Nat) : (co p i : UInt8) = p.getD i 0 := rfl
theorem co_trim (p : List UInt8) : co (trimL p) = co p := funext fun i => trimL_at p i
theorem trim_of_co {p q : List UInt8} (h : co p = co q) : trimL p = trimL q := trimL_congr fun i => congrFun h i
/-- a list that ends in no nought is told by its numbers. -/
theorem eq_of_co {p q : List UInt8} (hp : trimL p = p) (hq : trimL q = q) (h : co p = co q) : p = q := by rw [← hp, ← hq]; exact trim_of_co h

/-! sums -/
def addL (a b : List UInt8) : List UInt8 := tab (max a.length b.length) (fun i => a.getD i 0 ^^^ b.getD i 0)
def addP (a b : List UInt8) : List UInt8 := trimL (addL a b)
theorem addL_co (a b : List UInt8) : co (addL a b) = addF (co a) (co b) := funext fun i => by
  show (addL a b).getD i 0 = a.getD i 0 ^^^ b.getD i 0
  unfold addL
  rcases Nat.lt_or_ge i (max a.length b.length) with h | h
  · exact tab_at h
  · rw [tab_out h, getD_out (by omega), getD_out (by omega)]; rfl
theorem addP_co (a b : List UInt8) : co (addP a b) = addF (co a) (co b) := by unfold addP; rw [co_trim, addL_co]
theorem addP_trim (a b : List UInt8) : trimL (addP a b) = addP a b := trimL_trimL _

/-- a, and i numbers of b added. -/
def padd (a b : List UInt8) (i : Nat) : List UInt8 := tab (max a.length b.length) (fun j => if j < i then a.getD j 0 ^^^ b.getD j 0 else a.getD j 0)
theorem padd_length (a b : List UInt8) (i : Nat) : (padd a b i).length = max a.length b.length := tab_length
theorem padd_step {a b : List UInt8} {i : Nat} (hi : i < b.length) : (padd a b i).set i ((padd a b i).getD i 0 ^^^ b.getD i 0) = padd a b (i + 1) := by
  have h0 : (padd a b i).getD i 0 = a.getD i 0 := by
    unfold padd
    rw [tab_at (by omega), if_neg (by omega)]
  rw [h0]
  unfold padd
  rw [tab_set]
  refine tab_ext fun j hj => ?_
  by_cases h : j = i
  · subst h; rw [if_pos rfl, if_pos (by omega)]
  · rw [if_neg h]
    by_cases h2 : j < i
    · rw [if_pos h2, if_pos (by omega)]
    · rw [if_neg h2, if_neg (by omega)]
theorem padd_done (a b : List UInt8) : trimL (padd a b b.length) = addP a b := by
  unfold addP addL padd
  congr 1
  refine tab_ext fun j hj => ?_
  by_cases h : j < b.length
  · rw [if_pos h]
  · rw [if_neg h, getD_out (l := b) (by omega)]; exact (UInt8.xor_zero).symm
/-- i numbers of a, then noughts. -/
def pcopy (a b : List UInt8) (i : Nat) : List UInt8 := tab (max a.length b.length) (fun j => if j < i then a.getD j 0 else 0)
theorem pcopy_length (a b : List UInt8) (i : Nat) : (pcopy a b i).length = max a.length b.length := tab_length
theorem pcopy_zero (a b : List UInt8) : List.replicate (max a.length b.length) 0 = pcopy a b 0 := by
  rw [tab_rep]
  exact tab_ext fun j _ => (if_neg (by omega)).symm
theorem pcopy_step {a b : List UInt8} {i : Nat} (hi : i < a.length) : (pcopy a b i).set i (a.getD i 0) = pcopy a b (i + 1) := by
  unfold pcopy
  rw [tab_set]
  refine tab_ext fun j hj => ?_
  by_cases h : j = i
  · subst h; rw [if_pos rfl, if_pos (by omega)]
  · rw [if_neg h]
    by_cases h2 : j < i
    · rw [if_pos h2, if_pos (by omega)]
    · rw [if_neg h2, if_neg (by omega)]
theorem pcopy_done (a b : List UInt8) : pcopy a b a.length = padd a b 0 := by
  refine tab_ext fun j _ => ?_
  rw [if_neg (show ¬ j < 0 by omega)]
  by_cases h : j < a.length
  · rw [if_pos h]
  · rw [if_neg h, getD_out (by omega)]
theorem padd_zero (a b : List UInt8) : (List.replicate (max a.length b.length) (0 : UInt8)).take 0 ++ a.take a.length ++ (List.replicate (max a.length b.length) (0 : UInt8)).drop (0 + a.length) = padd a b 0 := by
  refine list_ext 0 (by simp [padd_length]; omega) fun i hi => ?_
  have hl : i < max a.length b.length := by simp at hi; omega
  unfold padd
  rw [tab_at hl, if_neg (by omega), List.take_zero, List.nil_append, List.take_length, getD_app]
  split
  · rfl
  · rename_i h
    rw [getD_out (l := a) (by omega)]
    rw [List.drop_replicate, List.getD_eq_getElem?_getD, List.getElem?_replicate]
    split <;> rfl

/-! products -/
theorem mulF_out (p : List G) (f : Nat → G) (n : Nat) (hf : ∀ i, n ≤ i → f i = 0) : ∀ i, p.length + n ≤ i → mulF p f i = 0 := by
  induction p with
  | nil => intro i _; rfl
  | cons y p ih =>
    intro i hi
    simp only [List.length_cons] at hi
    show y * f i + sh (mulF p f) i = 0
    rw [hf i (by omega), G.mul_zero, G.zero_add]
    cases i with
    | zero => omega
    | succ i => exact ih i (by omega)
def mulL (a b : List G) : List G := tab (a.length + b.length) (mulF a (co b))
def mulP (a b : List UInt8) : List UInt8 := trimL (mulL a b)
theorem co_tab {n i : Nat} {f : Nat → G} (h : i < n) : co (tab n f) i = f i := tab_at h
theorem co_tab_out {n i : Nat} {f : Nat → G} (h : n ≤ i) : co (tab n f) i = 0 := tab_out h
theorem mulL_co (a b : List G) : co (mulL a b) = mulF a (co b) := funext fun i => by
  unfold mulL
  rcases Nat.lt_or_ge i (a.length + b.length) with h | h
  · exact co_tab h
  · rw [co_tab_out h]; exact (mulF_out a (co b) b.length (fun j hj => co_out b j hj) i h).symm
theorem mulP_co (a b : List UInt8) : co (mulP a b) = mulF a (co b) := (co_trim (mulL a b)).trans (mulL_co a b)
theorem mulP_trim (a b : List UInt8) : trimL (mulP a b) = mulP a b := trimL_trimL _
def shN (n : Nat) (f : Nat → G) : Nat → G := fun i => if n ≤ i then f (i - n) else 0
theorem sh_shN (n : Nat) (f : Nat → G) : sh (shN n f) = shN (n + 1) f := funext fun i => by
  cases i with
  | zero => simp [sh, shN]
  | succ i => simp [sh, shN]
theorem mulF_snoc (p : List G) (x : G) (f : Nat → G) : mulF (p ++ [x]) f = addF (mulF p f) (shN p.length (sc x f)) := by
  induction p with
  | nil =>
    show addF (sc x f) (sh zeroF) = addF zeroF (shN 0 (sc x f))
    rw [sh_zero, addF_zero, zero_addF]
    funext i; simp [shN]
  | cons y p ih =>
    show addF (sc y f) (sh (mulF (p ++ [x]) f)) = addF (addF (sc y f) (sh (mulF p f))) (shN (p.length + 1) (sc x f))
    rw [ih, sh_add, sh_shN, addF_assoc]
/-- what stands behind i rounds, and k of the next one. -/
def pmG (a b : List G) (i k : Nat) : List G :=
  tab (a.length + b.length) (fun j => mulF (a.take i) (co b) j + (if i ≤ j ∧ j < i + k then co a i * co b (j - i) else 0))
theorem pmG_zero (a b : List G) : List.replicate (a.length + b.length) (0 : G) = pmG a b 0 0 := by
  rw [tab_rep]
  refine tab_ext fun i _ => ?_
  rw [if_neg (by omega)]
  exact (G.add_zero _).symm
theorem pmG_step {a b : List G} {i k : Nat} (hi : i < a.length) (hk : k < b.length) :
    (pmG a b i k).set (i + k) (co (pmG a b i k) (i + k) + co a i * co b k) = pmG a b i (k + 1) := by
  have h0 : co (pmG a b i k) (i + k) = mulF (a.take i) (co b) (i + k) := by
    unfold pmG
    rw [co_tab (by omega), if_neg (by omega)]
    exact G.add_zero _
  rw [h0]
  unfold pmG
  rw [tab_set]
  refine tab_ext fun j hj => ?_
  by_cases h : j = i + k
  · subst h
    rw [if_pos rfl, if_pos (by omega), Nat.add_sub_cancel_left]
  · rw [if_neg h]
    congr 1
    by_cases h2 : i ≤ j ∧ j < i + k
    · rw [if_pos h2, if_pos (by omega)]
    · rw [if_neg h2, if_neg (by omega)]
theorem pmG_next {a b : List G} {i : Nat} (hi : i < a.length) : pmG a b i b.length = pmG a b (i + 1) 0 := by
  refine tab_ext fun j hj => ?_
  have h1 : a.take (i + 1) = a.take i ++ [co a i] := by
    rw [List.take_succ_eq_append_getElem hi]; unfold co; rw [List.getD_eq_getElem?_getD, List.getElem?_eq_getElem hi]; rfl
  have h2 : (a.take i).length = i := by rw [List.length_take]; omega
  have h3 : mulF (a.take (i + 1)) (co b) j = mulF (a.take i) (co b) j + shN (a.take i).length (sc (co a i) (co b)) j := by
    rw [h1]; exact congrFun (mulF_snoc (a.take i) (co a i) (co b)) j
  rw [h3, h2, if_neg (show ¬ (i + 1 ≤ j ∧ j < i + 1 + 0) by omega)]
  rw [G.add_zero]
  congr 1
  unfold shN sc
  by_cases h : i ≤ j
  · rw [if_pos h]
    by_cases h4 : j < i + b.length
    · rw [if_pos ⟨h, h4⟩]
    · rw [if_neg (by omega), co_out b (j - i) (by omega), G.mul_zero]
  · rw [if_neg h, if_neg (by omega)]
theorem pmG_done (a b : List G) : pmG a b a.length 0 = mulL a b := by
  unfold mulL pmG
  refine tab_ext fun j hj => ?_
  rw [if_neg (by omega), List.take_length]
  exact G.add_zero _
def pmul (a b : List UInt8) (i k : Nat) : List UInt8 := pmG a b i k
theorem pmul_length (a b : List UInt8) (i k : Nat) : (pmul a b i k).length = a.length + b.length := tab_length (α := G)
theorem pmul_zero (a b : List UInt8) : List.replicate (a.length + b.length) 0 = pmul a b 0 0 := pmG_zero a b
theorem pmul_step {a b : List UInt8} {i k : Nat} (hi : i < a.length) (hk : k < b.length) :
    (pmul a b i k).set (i + k) ((pmul a b i k).getD (i + k) 0 ^^^ gm (a.getD i 0) (b.getD k 0)) = pmul a b i (k + 1) := pmG_step (a := a) (b := b) hi hk
theorem pmul_next {a b : List UInt8} {i : Nat} (hi : i < a.length) : pmul a b i b.length = pmul a b (i + 1) 0 := pmG_next (a := a) (b := b) hi
theorem pmul_done (a b : List UInt8) : trimL (pmul a b a.length 0) = mulP a b := congrArg trimL (pmG_done a b)

theorem addP_len (a b : List UInt8) : (addP a b).length ≤ max a.length b.length := by
  have := trimL_len (addL a b)
  have h : (addL a b).length = max a.length b.length := tab_length
  unfold addP; omega
theorem mulP_len (a b : List UInt8) : (mulP a b).length ≤ a.length + b.length := by
  have := trimL_len (mulL a b)
  have h : List.length (α := UInt8) (mulL a b) = a.length + b.length := tab_length (α := G)
  unfold mulP; omega
theorem rep_len {α : Type} (n : Nat) (x : α) : (List.replicate n x).length = n := List.length_replicate

/-- the product of x and powers of 2. -/
def minL (l : List Nat) : List UInt8 := l.foldl (fun p m => mulP p [exB m, 1]) [1]
theorem minL_snoc (l : List Nat) (m : Nat) : minL (l ++ [m]) = mulP (minL l) [exB m, 1] := by unfold minL; rw [List.foldl_append]; rfl
theorem minL_len (l : List Nat) : (minL l).length ≤ 2 * l.length + 1 := by
  have key : ∀ (l : List Nat) (p : List UInt8), (l.foldl (fun p m => mulP p [exB m, 1]) p).length ≤ 2 * l.length + p.length := by
    intro l
    induction l with
    | nil => intro p; simp
    | cons m l ih =>
      intro p
      have h1 := ih (mulP p [exB m, 1])
      have h2 := mulP_len p [exB m, 1]
      simp only [List.foldl_cons, List.length_cons, List.length_nil] at h1 h2 ⊢
      omega
  exact key l [1]
/-- the least polynomial of a power of 2. -/
def minP (n : Int) : List UInt8 := minL (orbit (n % 255).toNat)

theorem minP_one : minP 1 = [1, 0, 1, 1, 1, 0, 0, 0, 1] := by decide +kernel
theorem minL_one (m : Nat) : minL [m] = [exB m, 1] := by
  show mulP [1] [exB m, 1] = _
  apply eq_of_co (mulP_trim _ _) (trimL_id (.inr (by simp)))
  rw [mulP_co]
  exact one_mulF _

theorem toNat255' (n : Int) : (n % 255).toNat < 255 := by omega
theorem orb_one {n : Nat} (h : n < 255) : 2 * n % 255 = orb n 1 := by unfold orb; omega
theorem orb_stop {n i : Nat} (h : n < 255) (hi : 0 < i ∧ i ≤ per n) : orb n i = n ↔ i = per n := by
  have := orb_per n h (i - 1) (by have := per_le n; omega) (by omega)
  rw [show i - 1 + 1 = i by omega] at this
  exact this
theorem minL_take (n i : Nat) : (minL ((orbit n).take i)).length ≤ 2 * per n + 1 := by
  have h1 := minL_len ((orbit n).take i)
  have h2 : ((orbit n).take i).length ≤ (orbit n).length := by rw [List.length_take]; omega
  rw [orbit_length] at h2
  omega
theorem minL_first {n : Nat} (h : n < 255) : minL ((orbit n).take 1) = [exB n, 1] := by
  have := orbit_take (n := n) (i := 0) (per_pos n)
  rw [← this, orb_zero h]
  exact minL_one n
theorem ref3min_step (n : Int) {i : Nat} (hi : 0 < i ∧ i ≤ per (n % 255).toNat) (c : ¬ orb (n % 255).toNat i = (n % 255).toNat) : 0 < i + 1 ∧ i + 1 ≤ per (n % 255).toNat := by
  have := mt (orb_stop (toNat255' n) hi).2 c
  omega
theorem minL_next (n : Int) {i : Nat} (hi : 0 < i ∧ i ≤ per (n % 255).toNat) (c : ¬ orb (n % 255).toNat i = (n % 255).toNat) :
    mulP (minL ((orbit (n % 255).toNat).take i)) [exB (orb (n % 255).toNat i), 1] = minL ((orbit (n % 255).toNat).take (i + 1)) := by
  have := ref3min_step n hi c
  rw [← orbit_take (by omega), minL_snoc]
theorem ref3min_done (n : Int) {i : Nat} (hi : 0 < i ∧ i ≤ per (n % 255).toNat) (c : orb (n % 255).toNat i = (n % 255).toNat) : minL ((orbit (n % 255).toNat).take i) = minP n := by
  rw [(orb_stop (toNat255' n) hi).1 c, ← orbit_length, List.take_length]; rfl

/-! values -/
def ev : List G → G → G
  | [], _ => 0
  | c :: p, x => ev p x * x + c
def evP (p : List UInt8) (x : UInt8) : UInt8 := ev p x
theorem ev_zeros (p : List G) (x : G) (h : ∀ i, co p i = 0) : ev p x = 0 := by
  induction p with
  | nil => rfl
  | cons c p ih =>
    have h0 : c = 0 := h 0
    show ev p x * x + c = 0
    rw [ih fun i => h (i + 1), h0, G.zero_mul, G.add_zero]
theorem ev_add (p q r : List G) (x : G) (h : co r = addF (co p) (co q)) : ev r x = ev p x + ev q x := by
  have htl : ∀ s : List G, ev s x = ev s.tail x * x + co s 0 := by
    intro s
    cases s with
    | nil => show (0 : G) = 0 * x + 0; rw [G.zero_mul, G.add_zero]
    | cons a s => rfl
  have hct : ∀ (s : List G) i, co s.tail i = co s (i + 1) := by
    intro s i
    cases s with
    | nil => rfl
    | cons a s => rfl
  induction r generalizing p q with
  | nil =>
    have key : ∀ (n : Nat) (p q : List G), p.length + q.length ≤ n → (∀ i, co p i + co q i = 0) → ev p x + ev q x = 0 := by
      intro n
      induction n with
      | zero =>
        intro p q hn _
        obtain rfl : p = [] := List.eq_nil_of_length_eq_zero (by omega)
        obtain rfl : q = [] := List.eq_nil_of_length_eq_zero (by omega)
        exact G.add_self 0
      | succ n ih =>
        intro p q hn hz
        by_cases hpq : p = [] ∧ q = []
        · obtain ⟨rfl, rfl⟩ := hpq; exact G.add_self 0
        have hl : p.tail.length + q.tail.length ≤ n := by
          cases p with
          | nil => cases q with
            | nil => exact absurd ⟨rfl, rfl⟩ hpq
            | cons a q => simp at hn ⊢; omega
          | cons a p => simp at hn ⊢; omega
        have h1 := ih p.tail q.tail hl fun i => by rw [hct, hct]; exact hz (i + 1)
        have h0 := hz 0
        rw [htl p, htl q]
        have e1 : ev p.tail x = ev q.tail x := G.eq_of_add h1
        have e2 : co p 0 = co q 0 := G.eq_of_add h0
        rw [e1, e2, G.add_self]
    exact (key _ p q (Nat.le_refl _) fun i => (congrFun h i).symm).symm
  | cons c r ih =>
    have h1 : co r = addF (co p.tail) (co q.tail) := funext fun i => by
      show _ = co p.tail i + co q.tail i
      rw [hct, hct]; exact congrFun h (i + 1)
    have h0 : c = co p 0 + co q 0 := congrFun h 0
    show ev r x * x + c = _
    rw [ih p.tail q.tail h1, htl p, htl q, h0, G.add_mul]
    ac_rfl
theorem ev_congr {p q : List G} (x : G) (h : co p = co q) : ev p x = ev q x := by
  have := ev_add p [] q x (by rw [← h]; exact (addF_zero _).symm)
  rw [this]
  exact (G.add_zero _).symm
theorem ev_sc (c : G) (p : List G) (x : G) : ev (p.map (c * ·)) x = c * ev p x := by
  induction p with
  | nil => exact (G.mul_zero c).symm
  | cons y p ih =>
    show ev (p.map (c * ·)) x * x + c * y = c * (ev p x * x + y)
    rw [ih, G.mul_add, G.mul_assoc]
theorem co_sc (c : G) (q : List G) : co (q.map (c * ·)) = sc c (co q) := funext fun i => by
  show (q.map (c * ·)).getD i 0 = c * q.getD i 0
  rw [List.getD_eq_getElem?_getD, List.getD_eq_getElem?_getD, List.getElem?_map]
  cases q[i]? with
  | none => exact (G.mul_zero c).symm
  | some y => rfl
theorem ev_mul (p q r : List G) (x : G) (h : co r = mulF p (co q)) : ev r x = ev p x * ev q x := by
  induction p generalizing r with
  | nil => rw [ev_zeros r x fun i => congrFun h i]; exact (G.zero_mul _).symm
  | cons c p ih =>
    have hs : co (mulL p q) = mulF p (co q) := mulL_co p q
    have h0s : co ((0 : G) :: (mulL p q : List G)) = sh (co (mulL p q)) := by rw [co_cons, zero_sc, zero_addF]
    have h1 : co r = addF (co (q.map (c * ·))) (co ((0 : G) :: (mulL p q : List G))) := by rw [h, co_sc, h0s, hs]; rfl
    rw [ev_add _ _ r x h1, ev_sc]
    show c * ev q x + (ev (mulL p q) x * x + 0) = (ev p x * x + c) * ev q x
    rw [ih _ hs, G.add_zero, G.add_mul]
    have : ev p x * ev q x * x = ev p x * x * ev q x := by ac_rfl
    rw [this]
    exact G.add_comm _ _
theorem evP_addP (a b : List UInt8) (x : UInt8) : evP (addP a b) x = evP a x ^^^ evP b x := ev_add a b _ x (addP_co a b)
theorem evP_mulP (a b : List UInt8) (x : UInt8) : evP (mulP a b) x = gm (evP a x) (evP b x) := ev_mul a b _ x (mulP_co a b)
theorem evP_trim (a : List UInt8) (x : UInt8) : evP (trimL a) x = evP a x := ev_congr x (co_trim a)
theorem evP_step (p : List UInt8) (x : UInt8) {m : Nat} (hm : m < p.length) : gm (evP (p.drop (m + 1)) x) x ^^^ p.getD m 0 = evP (p.drop m) x := by
  rw [List.drop_eq_getElem_cons hm, List.getD_eq_getElem?_getD, List.getElem?_eq_getElem hm]
  rfl

/-! quotients -/
theorem mulF_top (p : List G) (f : Nat → G) (n : Nat) (hf : ∀ i, n < i → f i = 0) (hp : 0 < p.length) : mulF p f (p.length - 1 + n) = co p (p.length - 1) * f n := by
  induction p with
  | nil => simp at hp
  | cons y p ih =>
    cases p with
    | nil =>
      show y * f (0 + n) + sh zeroF (0 + n) = y * f n
      rw [sh_zero, Nat.zero_add]
      exact G.add_zero _
    | cons z p =>
      have h1 := ih (by simp)
      simp only [List.length_cons, Nat.add_sub_cancel] at h1 ⊢
      show y * f (p.length + 1 + n) + sh (mulF (z :: p) f) (p.length + 1 + n) = co (z :: p) p.length * f n
      rw [hf _ (by omega), G.mul_zero, G.zero_add, show p.length + 1 + n = (p.length + n) + 1 by omega]
      exact h1
theorem coU_out (p : List UInt8) (i : Nat) (h : p.length ≤ i) : co p i = 0 := co_out p i h
theorem mulF_topU (p b : List UInt8) (hp : 0 < p.length) : mulF p (co b) (p.length - 1 + (b.length - 1)) = co p (p.length - 1) * co b (b.length - 1) :=
  mulF_top p (co b) (b.length - 1) (fun i hi => coU_out b i (by omega)) hp
/-- a is q times b and r, which is shorter. -/
structure IsDiv (a b q r : List UInt8) : Prop where
  eq : addF (mulF q (co b)) (co r) = co a
  lt : r.length < b.length
  q_trim : trimL q = q
  r_trim : trimL r = r
theorem IsDiv.unique {a b q r q' r' : List UInt8} (hb : trimL b = b) (h : IsDiv a b q r) (h' : IsDiv a b q' r') : q = q' ∧ r = r' := by
  have hbl : 0 < b.length := by have := h.lt; omega
  have htop : co b (b.length - 1) ≠ 0 := by have := trimL_top (l := b) (by rw [hb]; exact hbl); rw [hb] at this; exact this
  have hd := addP_co q q'
  have hm : mulF (addP q q') (co b) = addF (co r) (co r') := by
    rw [mulF_addF_left q q' (addP q q') hd]
    have e := h.eq.trans h'.eq.symm
    have e1 : addF (addF (mulF q (co b)) (co r)) (addF (mulF q (co b)) (co r)) = zeroF := addF_self _
    have e2 : addF (addF (mulF q (co b)) (co r)) (addF (mulF q' (co b)) (co r')) = zeroF := by rw [← e]; exact e1
    funext i
    have e3 := congrFun e2 i
    have e4 : (mulF q (co b) i + mulF q' (co b) i) + (co r i + co r' i) = 0 := by
      have : (mulF q (co b) i + co r i) + (mulF q' (co b) i + co r' i) = 0 := e3
      rw [← this]; ac_rfl
    exact G.eq_of_add e4
  have hnil : addP q q' = [] := by
    rcases Nat.eq_zero_or_pos (addP q q').length with h0 | h0
    · exact List.eq_nil_of_length_eq_zero h0
    · exfalso
      have h1 := mulF_topU (addP q q') b h0
      rw [hm] at h1
      have h2 : addF (co r) (co r') ((addP q q').length - 1 + (b.length - 1)) = 0 := by
        show co r _ + co r' _ = 0
        rw [coU_out r _ (by have := h.lt; omega), coU_out r' _ (by have := h'.lt; omega)]
        exact G.add_self 0
      have h1 := h2.symm.trans h1
      have h3 : co (addP q q') ((addP q q').length - 1) ≠ 0 := by
        have := trimL_top (l := addP q q') (by rw [addP_trim]; exact h0)
        rw [addP_trim] at this; exact this
      rcases G.mul_eq_zero h1.symm with h4 | h4
      · exact h3 h4
      · exact htop h4
  have hq : co q = co q' := funext fun i => by
    have h1 := congrFun hd i
    rw [hnil] at h1
    exact G.eq_of_add h1.symm
  have hr : co r = co r' := funext fun i => by
    have h1 := congrFun hm i
    rw [mulF_zeros (addP q q') (fun j => by rw [hnil]; rfl)] at h1
    exact G.eq_of_add h1.symm
  exact ⟨eq_of_co h.q_trim h'.q_trim hq, eq_of_co h.r_trim h'.r_trim hr⟩
end Ram
