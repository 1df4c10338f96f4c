import Derived.Test.YtnlbekdjepkhcaaMr
/-
  Words as bits; sums of powers over places; the bound of the code.
-/
set_option linter.unusedVariables false
set_option linter.unusedSimpArgs false
namespace Ram
theorem x_comm (a b : UInt8) : a ^^^ b = b ^^^ a := UInt8.xor_comm a b
theorem x_assoc (a b c : UInt8) : (a ^^^ b) ^^^ c = a ^^^ (b ^^^ c) := UInt8.xor_assoc a b c
theorem x_self (a : UInt8) : a ^^^ a = 0 := UInt8.xor_self
theorem x_zero (a : UInt8) : a ^^^ 0 = a := UInt8.xor_zero
theorem zero_x (a : UInt8) : 0 ^^^ a = a := UInt8.zero_xor
theorem x_mid (a b c d : UInt8) : (a ^^^ b) ^^^ (c ^^^ d) = (a ^^^ c) ^^^ (b ^^^ d) := by
  rw [x_assoc, x_assoc, ← x_assoc b c d, x_comm b c, x_assoc c b d]
theorem gm_x (a b c : UInt8) : gm a (b ^^^ c) = gm a b ^^^ gm a c := G.mul_add a b c
theorem x_gm (a b c : UInt8) : gm (a ^^^ b) c = gm a c ^^^ gm b c := G.add_mul a b c

/-! xor-sums -/
def xs : Nat → (Nat → UInt8) → UInt8
  | 0, _ => 0
  | n + 1, f => xs n f ^^^ f n
theorem xs_ext {n : Nat} {f g : Nat → UInt8} (h : ∀ k, k < n → f k = g k) : xs n f = xs n g := by
  induction n with
  | zero => rfl
  | succ n ih =>
    show xs n f ^^^ f n = xs n g ^^^ g n
    rw [ih (fun k hk => h k (by omega)), h n (by omega)]
theorem xs_xor (n : Nat) (f g : Nat → UInt8) : xs n (fun k => f k ^^^ g k) = xs n f ^^^ xs n g := by
  induction n with
  | zero => exact (x_self 0).symm
  | succ n ih =>
    show xs n (fun k => f k ^^^ g k) ^^^ (f n ^^^ g n) = _
    rw [ih, x_mid]; rfl
theorem xs_zero (n : Nat) : xs n (fun _ => 0) = 0 := by
  induction n with
  | zero => rfl
  | succ n ih =>
    show xs n (fun _ => 0) ^^^ 0 = 0
    rw [ih]; rfl
theorem xs_one {n p : Nat} (c : UInt8) (h : p < n) : xs n (fun k => if k = p then c else 0) = c := by
  induction n with
  | zero => omega
  | succ n ih =>
    show xs n (fun k => if k = p then c else 0) ^^^ (if n = p then c else 0) = c
    by_cases hp : n = p
    · subst hp
      rw [if_pos rfl, xs_ext (g := fun _ => 0) (fun k hk => if_neg (by omega)), xs_zero, zero_x]
    · rw [if_neg hp, ih (by omega), x_zero]
/-- the i-th power of 2 to the k, over the places where f says so. -/
def sB (f : Nat → Bool) (n i : Nat) : UInt8 := xs n (fun k => if f k then exB (i * k) else 0)
theorem sB_ext {f g : Nat → Bool} {n i : Nat} (h : ∀ k, k < n → f k = g k) : sB f n i = sB g n i := xs_ext fun k hk => by rw [h k hk]
theorem sB_xor (f g : Nat → Bool) (n i : Nat) : sB (fun k => f k != g k) n i = sB f n i ^^^ sB g n i := by
  unfold sB
  rw [← xs_xor]
  refine xs_ext fun k _ => ?_
  show (if (f k != g k) = true then exB (i * k) else 0) = (if f k = true then exB (i * k) else 0) ^^^ (if g k = true then exB (i * k) else 0)
  generalize f k = a
  generalize g k = b
  cases a <;> cases b <;> simp [x_self, zero_x, x_zero]
theorem sB_no (n i : Nat) : sB (fun _ => false) n i = 0 := by
  unfold sB; exact (xs_ext (fun k _ => by simp)).trans (xs_zero n)
theorem sB_one {n p i : Nat} (h : p < n) : sB (fun k => decide (k = p)) n i = exB (i * p) := by
  unfold sB
  refine (xs_ext (g := fun k => if k = p then exB (i * p) else 0) fun k _ => ?_).trans (xs_one _ h)
  by_cases hk : k = p
  · subst hk; simp
  · simp [hk]
/-- the same over a list of places. -/
def syn (L : List Nat) (i : Nat) : UInt8 := L.foldl (fun s k => s ^^^ exB (i * k)) 0
theorem syn_snoc (L : List Nat) (k i : Nat) : syn (L ++ [k]) i = syn L i ^^^ exB (i * k) := by unfold syn; rw [List.foldl_append]; rfl
theorem foldl_x {α : Type} (f : α → UInt8) : ∀ (L : List α) (a : UInt8), L.foldl (fun s k => s ^^^ f k) a = a ^^^ L.foldl (fun s k => s ^^^ f k) 0
  | [], a => (x_zero a).symm
  | k :: L, a => by
    rw [List.foldl_cons, List.foldl_cons, foldl_x f L (a ^^^ f k), foldl_x f L (0 ^^^ f k), zero_x, x_assoc]
theorem syn_cons (L : List Nat) (k i : Nat) : syn (k :: L) i = exB (i * k) ^^^ syn L i := by
  unfold syn
  rw [List.foldl_cons, foldl_x (fun k => exB (i * k)), zero_x]
theorem syn_nil (i : Nat) : syn [] i = 0 := rfl
theorem syn_app (L M : List Nat) (i : Nat) : syn (L ++ M) i = syn L i ^^^ syn M i := by
  induction L with
  | nil => rw [List.nil_append, syn_nil, zero_x]
  | cons a L ih => rw [List.cons_append, syn_cons, syn_cons, ih, x_assoc]
theorem sB_mem : ∀ (L : List Nat) (n i : Nat), L.Nodup → (∀ k ∈ L, k < n) → sB (fun k => decide (k ∈ L)) n i = syn L i
  | [], n, i, _, _ => by rw [syn_nil, ← sB_no n i]; exact sB_ext fun k _ => by simp
  | a :: L, n, i, hn, hl => by
    rw [syn_cons, ← sB_mem L n i (List.nodup_cons.1 hn).2 (fun k hk => hl k (List.mem_cons_of_mem _ hk)), ← sB_one (hl a List.mem_cons_self), ← sB_xor]
    refine sB_ext fun k _ => ?_
    have h1 := (List.nodup_cons.1 hn).1
    by_cases hk : k = a
    · subst hk; simp [h1]
    · simp [hk]
theorem syn_filter (f : Nat → Bool) (n i : Nat) : syn ((List.range n).filter f) i = sB f n i := by
  induction n with
  | zero => rfl
  | succ n ih =>
    rw [List.range_succ, List.filter_append, syn_app, ih]
    show sB f n i ^^^ syn ([n].filter f) i = sB f n i ^^^ (if f n then exB (i * n) else 0)
    congr 1
    cases hf : f n <;> simp [List.filter, hf, syn_nil, syn_cons]
/-- of the double it is the square. -/
theorem syn_sq (L : List Nat) (i : Nat) : syn L (2 * i) = gm (syn L i) (syn L i) := by
  induction L with
  | nil => exact (gm_zero 0).symm
  | cons a L ih =>
    rw [syn_cons, syn_cons, ih]
    have := sqB_xor (exB (i * a)) (syn L i)
    unfold sqB at this
    rw [this, ← exB_add]
    congr 2
    rw [Nat.mul_assoc]; omega
/-! the bound -/
/-- the values of p, times powers, summed up. -/
def tS (L : List Nat) (p : List UInt8) (j : Nat) : UInt8 := L.foldl (fun s k => s ^^^ gm (evP p (exB k)) (exB (j * k))) 0
theorem tS_cons (a : Nat) (L : List Nat) (p : List UInt8) (j : Nat) : tS (a :: L) p j = gm (evP p (exB a)) (exB (j * a)) ^^^ tS L p j := by
  unfold tS
  rw [List.foldl_cons, foldl_x (fun k => gm (evP p (exB k)) (exB (j * k))), zero_x]
theorem evP_cons (c : UInt8) (p : List UInt8) (x : UInt8) : evP (c :: p) x = gm (evP p x) x ^^^ c := rfl
theorem tS_nil (L : List Nat) (j : Nat) : tS L [] j = 0 := by
  induction L with
  | nil => rfl
  | cons a L ih => rw [tS_cons, ih, x_zero]; exact zero_gm _
theorem tS_step (L : List Nat) (c : UInt8) (p : List UInt8) (j : Nat) : tS L (c :: p) j = tS L p (j + 1) ^^^ gm c (syn L j) := by
  induction L with
  | nil => rw [syn_nil, gm_zero]; exact (x_zero 0).symm
  | cons a L ih =>
    rw [tS_cons, tS_cons, ih, syn_cons, evP_cons, gm_x, x_gm, x_mid]
    congr 2
    rw [gm_assoc, ← exB_add]
    congr 2
    rw [Nat.add_mul]; omega
theorem tS_zero (L : List Nat) : ∀ (p : List UInt8) (j : Nat), (∀ i, j ≤ i → i < j + p.length → syn L i = 0) → tS L p j = 0
  | [], j, _ => tS_nil L j
  | c :: p, j, h => by
    rw [tS_step, tS_zero L p (j + 1) (fun i h1 h2 => h i (by omega) (by simp only [List.length_cons]; omega)), h j (Nat.le_refl _) (by simp only [List.length_cons]; omega), gm_zero]; rfl
theorem tS_roots (M : List Nat) (p : List UInt8) (j : Nat) (h : ∀ k ∈ M, evP p (exB k) = 0) : tS M p j = 0 := by
  induction M with
  | nil => rfl
  | cons a M ih => rw [tS_cons, h a List.mem_cons_self, zero_gm, ih (fun k hk => h k (List.mem_cons_of_mem _ hk))]; rfl
theorem bch_bound {L : List Nat} (hn : L.Nodup) (h : ∀ k ∈ L, k < 255) (h8 : L.length ≤ 8) (hs : ∀ i, 1 ≤ i → i ≤ 8 → syn L i = 0) : L = [] := by
  cases L with
  | nil => rfl
  | cons a M =>
    exfalso
    have hM : ∀ k ∈ M, evP (minL M) (exB k) = 0 := fun k hk => (ev_minL M _).2 ⟨k, hk, rfl⟩
    have hl := (minL_form M).1
    simp only [List.length_cons] at h8
    have h1 := tS_zero (a :: M) (minL M) 1 (fun i hi h2 => hs i hi (by omega))
    rw [tS_cons, tS_roots M _ 1 hM, x_zero, gm_eq0] at h1
    rcases h1 with h1 | h1
    · obtain ⟨m, hm, e⟩ := (ev_minL M _).1 h1
      have := exB_inj (h a List.mem_cons_self) (h m (List.mem_cons_of_mem _ hm)) e
      subst this
      exact (List.nodup_cons.1 hn).1 hm
    · exact exB_ne0 _ h1
/-- bits that differ from noughts in at most eight places, and have no sums. -/
theorem bch_zero {f : Nat → Bool} {n : Nat} (hn : n ≤ 255) (h8 : ((List.range n).filter f).length ≤ 8) (hs : ∀ i, 1 ≤ i → i ≤ 8 → sB f n i = 0) : ∀ k, k < n → f k = false := by
  have := bch_bound (L := (List.range n).filter f) (List.Pairwise.filter _ List.nodup_range) (fun k hk => by have := List.mem_range.1 (List.mem_filter.1 hk).1; omega) h8 (fun i h1 h2 => by rw [syn_filter]; exact hs i h1 h2)
  intro k hk
  cases hf : f k with
  | false => rfl
  | true =>
    have : k ∈ (List.range n).filter f := List.mem_filter.2 ⟨List.mem_range.2 hk, hf⟩
    rw [‹(List.range n).filter f = []›] at this
    cases this
end Ram
