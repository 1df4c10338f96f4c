import Derived.Test.YtnlbekdjepkhcaaGFM
/-
  The field of 256 numbers on bytes; polynomials over it: lists, and what their numbers are place by place.
-/
set_option linter.unusedSimpArgs false
set_option linter.unusedVariables false
namespace Ram

/-- the product of bytes. -/
def gm (a b : UInt8) : UInt8 := UInt8.ofNat (gmul a.toNat b.toNat)
theorem gm_nat (a b : UInt8) : (gm a b).toNat = gmul a.toNat b.toNat := by
  unfold gm
  rw [UInt8.toNat_ofNat']
  exact Nat.mod_eq_of_lt (gmk_lt 8 _ b.toNat_lt)
/-- bytes, as numbers of the field. -/
def G : Type := UInt8
namespace G
def v (a : G) : Nat := UInt8.toNat a
theorem lt (a : G) : a.v < 256 := UInt8.toNat_lt a
theorem ext' {a b : G} (h : a.v = b.v) : a = b := UInt8.toNat_inj.1 h
instance : DecidableEq G := inferInstanceAs (DecidableEq UInt8)
instance : Add G := ⟨fun a b => (HXor.hXor (α := UInt8) (β := UInt8) a b : UInt8)⟩
instance : Mul G := ⟨fun a b => gm a b⟩
instance : Zero G := ⟨(0 : UInt8)⟩
instance : One G := ⟨(1 : UInt8)⟩
theorem add_v (a b : G) : (a + b).v = a.v ^^^ b.v := UInt8.toNat_xor a b
theorem mul_v (a b : G) : (a * b).v = gmul a.v b.v := gm_nat a b
theorem zero_v : (0 : G).v = 0 := rfl
theorem one_v : (1 : G).v = 1 := rfl
theorem add_comm (a b : G) : a + b = b + a := ext' (by rw [add_v, add_v, Nat.xor_comm])
theorem add_assoc (a b c : G) : a + b + c = a + (b + c) := ext' (by simp only [add_v, Nat.xor_assoc])
theorem add_zero (a : G) : a + 0 = a := ext' (by rw [add_v, zero_v, Nat.xor_zero])
theorem zero_add (a : G) : 0 + a = a := ext' (by rw [add_v, zero_v, Nat.zero_xor])
theorem add_self (a : G) : a + a = 0 := ext' (by rw [add_v, Nat.xor_self, zero_v])
theorem mul_comm (a b : G) : a * b = b * a := ext' (by rw [mul_v, mul_v, gmul_comm a.lt b.lt])
theorem mul_assoc (a b c : G) : a * b * c = a * (b * c) := ext' (by simp only [mul_v, gmul_assoc a.lt b.lt c.lt])
theorem mul_one (a : G) : a * 1 = a := ext' (by rw [mul_v, one_v, gmul_one a.lt])
theorem one_mul (a : G) : 1 * a = a := ext' (by rw [mul_v, one_v, one_gmul a.lt])
theorem mul_zero (a : G) : a * 0 = 0 := ext' (by rw [mul_v, zero_v, gmul_zero a.lt])
theorem zero_mul (a : G) : 0 * a = 0 := ext' (by rw [mul_v, zero_v, zero_gmul])
theorem mul_add (a b c : G) : a * (b + c) = a * b + a * c := ext' (by simp only [mul_v, add_v, gmul_xor b.lt c.lt])
theorem add_mul (a b c : G) : (a + b) * c = a * c + b * c := ext' (by simp only [mul_v, add_v, xor_gmul])
theorem mul_eq_zero {a b : G} (h : a * b = 0) : a = 0 ∨ b = 0 := by
  have h1 := (gmul_eq_zero a.lt b.lt).1 (by rw [← mul_v, h]; rfl)
  exact h1.imp (fun e => ext' e) (fun e => ext' e)
instance : Std.Associative (α := G) (· + ·) := ⟨add_assoc⟩
instance : Std.Commutative (α := G) (· + ·) := ⟨add_comm⟩
instance : Std.Associative (α := G) (· * ·) := ⟨mul_assoc⟩
instance : Std.Commutative (α := G) (· * ·) := ⟨mul_comm⟩
theorem add_add_self (a b : G) : a + (a + b) = b := by rw [← add_assoc, add_self, zero_add]
theorem add_cancel {a b c : G} (h : a + b = a + c) : b = c := by
  have h1 := congrArg (a + ·) h
  simpa [add_add_self] using h1
theorem eq_of_add {a b : G} (h : a + b = 0) : a = b := by
  have h1 := congrArg (· + b) h
  simp only [add_assoc, add_self, add_zero, zero_add] at h1
  exact h1
theorem mul_cancel {a b c : G} (h0 : a ≠ 0) (h : a * b = a * c) : b = c := by
  have h1 : a * (b + c) = 0 := by rw [mul_add, h, add_self]
  exact eq_of_add ((mul_eq_zero h1).resolve_left h0)
end G

/-- a polynomial's number at place i. -/
def co (p : List G) (i : Nat) : G := p.getD i 0
theorem co_nil (i : Nat) : co [] i = 0 := rfl
theorem co_cons_zero (x : G) (p : List G) : co (x :: p) 0 = x := rfl
theorem co_cons_succ (x : G) (p : List G) (i : Nat) : co (x :: p) (i + 1) = co p i := rfl
theorem co_out (p : List G) (i : Nat) (h : p.length ≤ i) : co p i = 0 := by
  unfold co; rw [List.getD_eq_getElem?_getD, List.getElem?_eq_none h]; rfl
theorem co_get (p : List G) (i : Nat) (h : i < p.length) : co p i = p[i] := by
  unfold co; rw [List.getD_eq_getElem?_getD, List.getElem?_eq_getElem h]; rfl

/-- number by number: sums, times a number, one place on. -/
def addF (f g : Nat → G) : Nat → G := fun i => f i + g i
def sc (x : G) (f : Nat → G) : Nat → G := fun i => x * f i
def sh (f : Nat → G) : Nat → G := fun i => match i with | 0 => 0 | i + 1 => f i
def zeroF : Nat → G := fun _ => 0
theorem addF_comm (f g : Nat → G) : addF f g = addF g f := funext fun i => G.add_comm _ _
theorem addF_assoc (f g h : Nat → G) : addF (addF f g) h = addF f (addF g h) := funext fun i => G.add_assoc _ _ _
theorem addF_zero (f : Nat → G) : addF f zeroF = f := funext fun i => G.add_zero _
theorem zero_addF (f : Nat → G) : addF zeroF f = f := funext fun i => G.zero_add _
theorem addF_self (f : Nat → G) : addF f f = zeroF := funext fun i => G.add_self _
instance : Std.Associative addF := ⟨addF_assoc⟩
instance : Std.Commutative addF := ⟨addF_comm⟩
theorem sc_add (x : G) (f g : Nat → G) : sc x (addF f g) = addF (sc x f) (sc x g) := funext fun i => G.mul_add _ _ _
theorem sc_sc (x y : G) (f : Nat → G) : sc x (sc y f) = sc (x * y) f := funext fun i => (G.mul_assoc _ _ _).symm
theorem add_sc (x y : G) (f : Nat → G) : sc (x + y) f = addF (sc x f) (sc y f) := funext fun i => G.add_mul _ _ _
theorem zero_sc (f : Nat → G) : sc 0 f = zeroF := funext fun i => G.zero_mul _
theorem sc_zero (x : G) : sc x zeroF = zeroF := funext fun i => G.mul_zero _
theorem one_sc (f : Nat → G) : sc 1 f = f := funext fun i => G.one_mul _
theorem sh_add (f g : Nat → G) : sh (addF f g) = addF (sh f) (sh g) := funext fun i => by cases i <;> simp [sh, addF, G.add_zero]
theorem sh_sc (x : G) (f : Nat → G) : sh (sc x f) = sc x (sh f) := funext fun i => by cases i <;> simp [sh, sc, G.mul_zero]
theorem sh_zero : sh zeroF = zeroF := funext fun i => by cases i <;> rfl
theorem co_cons (x : G) (p : List G) : co (x :: p) = addF (sc x (co [1])) (sh (co p)) := funext fun i => by
  cases i with
  | zero => simp [co_cons_zero, addF, sc, sh, G.mul_one, G.add_zero]
  | succ i => simp [co_cons_succ, addF, sc, sh, co_nil, G.mul_zero, G.zero_add]

/-- the product. -/
def mulF : List G → (Nat → G) → (Nat → G)
  | [], _ => zeroF
  | x :: p, f => addF (sc x f) (sh (mulF p f))
theorem mulF_add (p : List G) (f g : Nat → G) : mulF p (addF f g) = addF (mulF p f) (mulF p g) := by
  induction p with
  | nil => exact (addF_zero _).symm
  | cons x p ih =>
    show addF (sc x (addF f g)) (sh (mulF p (addF f g))) = addF (addF (sc x f) (sh (mulF p f))) (addF (sc x g) (sh (mulF p g)))
    rw [ih, sc_add, sh_add]
    ac_rfl
theorem mulF_sc (p : List G) (x : G) (f : Nat → G) : mulF p (sc x f) = sc x (mulF p f) := by
  induction p with
  | nil => exact (sc_zero x).symm
  | cons y p ih =>
    show addF (sc y (sc x f)) (sh (mulF p (sc x f))) = sc x (addF (sc y f) (sh (mulF p f)))
    rw [ih, sc_add, sc_sc, sc_sc, sh_sc, G.mul_comm]
theorem mulF_sh (p : List G) (f : Nat → G) : mulF p (sh f) = sh (mulF p f) := by
  induction p with
  | nil => exact sh_zero.symm
  | cons y p ih =>
    show addF (sc y (sh f)) (sh (mulF p (sh f))) = sh (addF (sc y f) (sh (mulF p f)))
    rw [ih, sh_add, sh_sc]
theorem mulF_zero (p : List G) : mulF p zeroF = zeroF := by
  induction p with
  | nil => rfl
  | cons y p ih => show addF (sc y zeroF) (sh (mulF p zeroF)) = zeroF; rw [ih, sc_zero, sh_zero, addF_self]
theorem mulF_one (p : List G) : mulF p (co [1]) = co p := by
  induction p with
  | nil => rfl
  | cons x p ih => show addF (sc x (co [1])) (sh (mulF p (co [1]))) = _; rw [ih]; exact (co_cons x p).symm
theorem one_mulF (f : Nat → G) : mulF [1] f = f := by
  show addF (sc 1 f) (sh zeroF) = f
  rw [sh_zero, one_sc, addF_zero]
theorem mulF_cons_right (p q : List G) (x : G) : mulF p (co (x :: q)) = addF (sc x (co p)) (sh (mulF p (co q))) := by
  rw [co_cons, mulF_add, mulF_sc, mulF_sh, mulF_one]
theorem mulF_comm (p q : List G) : mulF p (co q) = mulF q (co p) := by
  induction p with
  | nil => exact (mulF_zero q).symm
  | cons x p ih =>
    rw [mulF_cons_right q p x, ← ih]; rfl
/-- a product depends on the numbers alone. -/
theorem mulF_zeros (p : List G) (h : ∀ i, co p i = 0) (f : Nat → G) : mulF p f = zeroF := by
  induction p with
  | nil => rfl
  | cons x p ih =>
    have h0 : x = 0 := h 0
    show addF (sc x f) (sh (mulF p f)) = zeroF
    rw [ih (fun i => h (i + 1)), h0, zero_sc, sh_zero, addF_self]
theorem mulF_congr : ∀ (p q : List G), co p = co q → ∀ f, mulF p f = mulF q f
  | [], q, h, f => (mulF_zeros q (fun i => (congrFun h i).symm) f).symm
  | p, [], h, f => mulF_zeros p (fun i => congrFun h i) f
  | x :: p, y :: q, h, f => by
    have h0 : x = y := congrFun h 0
    have h1 : co p = co q := funext fun i => congrFun h (i + 1)
    show addF (sc x f) (sh (mulF p f)) = addF (sc y f) (sh (mulF q f))
    rw [h0, mulF_congr p q h1 f]
theorem mulF_addF_left (p q r : List G) (h : co r = addF (co p) (co q)) (f : Nat → G) : mulF r f = addF (mulF p f) (mulF q f) := by
  induction r generalizing p q with
  | nil =>
    have e : co p = co q := funext fun i => G.eq_of_add (congrFun h i).symm
    rw [mulF_congr p q e f, addF_self]; rfl
  | cons z r ih =>
    have hz : z = co p 0 + co q 0 := congrFun h 0
    have htl : ∀ s : List G, mulF s f = addF (sc (co s 0) f) (sh (mulF s.tail f)) := by
      intro s
      cases s with
      | nil => show zeroF = addF (sc 0 f) (sh zeroF); rw [zero_sc, sh_zero, addF_self]
      | cons a s => rfl
    have hct : ∀ (s : List G) i, co s.tail i = co s (i + 1) := by
      intro s i
      cases s with
      | nil => rfl
      | cons a s => rfl
    have h1 : co r = addF (co p.tail) (co q.tail) := funext fun i => by
      show _ = co p.tail i + co q.tail i
      rw [hct, hct]; exact congrFun h (i + 1)
    show addF (sc z f) (sh (mulF r f)) = _
    rw [ih p.tail q.tail h1, htl p, htl q, hz, add_sc, sh_add]
    ac_rfl
theorem mulF_assoc (p q r : List G) (h : co r = mulF p (co q)) (f : Nat → G) : mulF r f = mulF p (mulF q f) := by
  induction p generalizing r with
  | nil => exact mulF_zeros r (fun i => congrFun h i) f
  | cons x p ih =>
    -- r = x q + X (p q)
    have hm : ∃ s : List G, co s = mulF p (co q) := ⟨(List.range (p.length + q.length)).map (mulF p (co q)), by
      have bound : ∀ (p : List G) i, p.length + q.length ≤ i → mulF p (co q) i = 0 := by
        intro p
        induction p with
        | nil => intro i _; rfl
        | cons y p ihp =>
          intro i hi
          show sc y (co q) i + sh (mulF p (co q)) i = 0
          simp only [List.length_cons] at hi
          cases i with
          | zero => omega
          | succ i =>
            have : sh (mulF p (co q)) (i + 1) = 0 := ihp i (by omega)
            rw [this]
            show y * co q (i + 1) + 0 = 0
            rw [co_out q (i + 1) (by omega), G.mul_zero, G.add_zero]
      funext i
      unfold co
      rw [List.getD_eq_getElem?_getD, List.getElem?_map]
      by_cases hi : i < p.length + q.length
      · rw [List.getElem?_range hi]; rfl
      · rw [List.getElem?_eq_none (by simpa using hi)]
        exact (bound p i (by omega)).symm⟩
    obtain ⟨s, hs⟩ := hm
    have hsq : co (q.map (x * ·)) = sc x (co q) := funext fun i => by
      show (q.map (x * ·)).getD i 0 = x * q.getD i 0
      rw [List.getD_eq_getElem?_getD, List.getD_eq_getElem?_getD, List.getElem?_map]
      cases q[i]? with
      | none => exact (G.mul_zero x).symm
      | some y => rfl
    have h0s : co (0 :: s) = sh (co s) := by rw [co_cons, zero_sc, zero_addF]
    have h1 : co r = addF (co (q.map (x * ·))) (co (0 :: s)) := by rw [h, hsq, h0s, hs]; rfl
    rw [mulF_addF_left _ _ r h1 f]
    have h2 : mulF (q.map (x * ·)) f = sc x (mulF q f) := by
      clear hsq h1 h h0s hs ih
      induction q with
      | nil => exact (sc_zero x).symm
      | cons y q ihq =>
        show addF (sc (x * y) f) (sh (mulF (q.map (x * ·)) f)) = sc x (addF (sc y f) (sh (mulF q f)))
        rw [ihq, sc_add, sc_sc, sh_sc]
    have h3 : mulF (0 :: s) f = sh (mulF p (mulF q f)) := by
      show addF (sc 0 f) (sh (mulF s f)) = _
      rw [ih s hs, zero_sc, zero_addF]
    rw [h2, h3]; rfl
end Ram
