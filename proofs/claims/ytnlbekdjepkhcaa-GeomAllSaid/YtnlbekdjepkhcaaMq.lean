import Derived.Test.YtnlbekdjepkhcaaMp
/-
  Quotients and rests of polynomials, step by step.
-/
set_option linter.unusedSimpArgs false
set_option linter.unusedVariables false
namespace Ram

/-- f times b taken from r at place n: k numbers of b. -/
def subl (r b : List UInt8) (f : UInt8) (n k : Nat) : List UInt8 := tab r.length (fun j => if n ≤ j ∧ j < n + k then r.getD j 0 ^^^ gm f (b.getD (j - n) 0) else r.getD j 0)
theorem subl_length (r b : List UInt8) (f : UInt8) (n k : Nat) : (subl r b f n k).length = r.length := tab_length
theorem subl_zero (r b : List UInt8) (f : UInt8) (n : Nat) : subl r b f n 0 = r := by
  conv => rhs; rw [eq_tab r 0]
  exact tab_ext fun j _ => if_neg (by omega)
theorem subl_step {r b : List UInt8} {f : UInt8} {n k : Nat} (h : n + k < r.length) : (subl r b f n k).set (n + k) ((subl r b f n k).getD (n + k) 0 ^^^ gm f (b.getD k 0)) = subl r b f n (k + 1) := by
  have h0 : (subl r b f n k).getD (n + k) 0 = r.getD (n + k) 0 := by
    unfold subl
    rw [tab_at h, if_neg (by omega)]
  rw [h0]
  unfold subl
  rw [tab_set]
  refine tab_ext fun j hj => ?_
  by_cases e : j = n + k
  · subst e; rw [if_pos rfl, if_pos (by omega), Nat.add_sub_cancel_left]
  · rw [if_neg e]
    by_cases h2 : n ≤ j ∧ j < n + k
    · rw [if_pos h2, if_pos (by omega)]
    · rw [if_neg h2, if_neg (by omega)]
theorem subl_co {r b : List UInt8} {f : UInt8} {n : Nat} (h : n + b.length ≤ r.length) : co (subl r b f n b.length) = addF (co r) (shN n (sc f (co b))) := funext fun i => by
  show (subl r b f n b.length).getD i 0 = HXor.hXor (α := UInt8) (β := UInt8) (r.getD i 0) (shN n (sc f (co b)) i)
  have hs : @Eq UInt8 (shN n (sc f (co b)) i) (if n ≤ i then gm f (b.getD (i - n) 0) else 0) := rfl
  rw [hs]
  unfold subl
  by_cases hi : i < r.length
  · rw [tab_at hi]
    by_cases h1 : n ≤ i
    · rw [if_pos h1]
      by_cases h2 : i < n + b.length
      · rw [if_pos ⟨h1, h2⟩]
      · rw [if_neg (fun h => h2 h.2), getD_out (l := b) (by omega), gm_zero, UInt8.xor_zero]
    · rw [if_neg h1, if_neg (fun h => h1 h.1), UInt8.xor_zero]
  · rw [tab_out (by omega), getD_out (by omega)]
    by_cases h1 : n ≤ i
    · rw [if_pos h1, getD_out (l := b) (by omega), gm_zero]; rfl
    · rw [if_neg h1]; rfl
theorem mulF_single (n : Nat) (f : G) (g : Nat → G) : mulF (List.replicate n 0 ++ [f]) g = shN n (sc f g) := by
  rw [mulF_snoc, mulF_zeros _ (fun i => ?_) g, zero_addF, List.length_replicate]
  unfold co
  rw [List.getD_eq_getElem?_getD, List.getElem?_replicate]
  split <;> rfl
theorem set_co {q : List G} {n : Nat} {f : G} (hn : n < q.length) (h0 : co q n = 0) : co (q.set n f) = addF (co q) (co (List.replicate n 0 ++ [f])) := funext fun i => by
  have e1 : co (q.set n f) i = if i = n then f else co q i := getD_set hn
  have e2 : co (List.replicate n (0 : G) ++ [f]) i = if i = n then f else 0 := by
    unfold co
    rw [getD_app, List.length_replicate]
    by_cases h1 : i < n
    · rw [if_pos h1, if_neg (by omega), List.getD_eq_getElem?_getD, List.getElem?_replicate, if_pos h1]; rfl
    · rw [if_neg h1]
      by_cases h2 : i = n
      · subst h2; rw [if_pos rfl, Nat.sub_self]; rfl
      · rw [if_neg h2, getD_out (by simp; omega)]
  show _ = co q i + _
  rw [e1, e2]
  by_cases h : i = n
  · rw [if_pos h, if_pos h, h, h0, G.zero_add]
  · rw [if_neg h, if_neg h, G.add_zero]
theorem set_mul {q : List UInt8} {n : Nat} {f : UInt8} (hn : n < q.length) (h0 : q.getD n 0 = 0) (g : Nat → G) : mulF (q.set n f) g = addF (mulF q g) (shN n (sc f g)) :=
  (mulF_addF_left q (List.append (α := G) (List.replicate n (0 : G)) [f]) (q.set n f) (set_co (q := q) hn h0) g).trans (congrArg (addF (mulF q g)) (mulF_single n f g))

/-- Where a division stands: all places above i are done. -/
structure DivInv (a b q r : List UInt8) (i : Int) : Prop where
  eq : addF (mulF q (co b)) (co r) = co a
  rz : ∀ k : Nat, i + b.length ≤ k → r.getD k 0 = 0
  qz : ∀ k : Nat, (k : Int) ≤ i → q.getD k 0 = 0
theorem DivInv.init {a b : List UInt8} : DivInv a b (List.replicate (trimL a).length 0) (trimL a) (((trimL a).length : Int) - b.length) where
  eq := by
    have hz : ∀ i, co (List.replicate (trimL a).length (0 : UInt8)) i = 0 := fun i => by
      show (List.replicate (trimL a).length (0 : UInt8)).getD i 0 = 0
      rw [List.getD_eq_getElem?_getD, List.getElem?_replicate]
      split <;> rfl
    exact (congrArg (fun A => addF A (co (trimL a))) (mulF_zeros _ hz (co b))).trans ((zero_addF _).trans (co_trim a))
  rz := fun k hk => getD_out (by omega)
  qz := fun k hk => by
    rw [List.getD_eq_getElem?_getD, List.getElem?_replicate]
    split <;> rfl
theorem DivInv.step {a b q r : List UInt8} {n : Nat} (h : DivInv a b q r (n : Int)) (hq : n < q.length) (hr : n + b.length ≤ r.length) (hb : 0 < b.length) (ht : b.getD (b.length - 1) 0 ≠ 0) {f : UInt8}
    (hf : f = gm (r.getD (n + b.length - 1) 0) (invB (b.getD (b.length - 1) 0))) : DivInv a b (q.set n f) (subl r b f n b.length) ((n : Int) - 1) where
  eq := by
    have : ∀ A B C : Nat → G, addF (addF A B) (addF C B) = addF A C := fun A B C => by
      have e : addF (addF A B) (addF C B) = addF (addF A C) (addF B B) := by ac_rfl
      rw [e, addF_self, addF_zero]
    have e := congrArg (fun A => addF A (co (subl r b f n b.length))) (set_mul (f := f) hq (h.qz n (Int.le_refl _)) (co b))
    exact e.trans ((congrArg (addF _) (subl_co hr)).trans ((this _ _ _).trans h.eq))
  rz := fun k hk => by
    unfold subl
    by_cases hk2 : k < r.length
    · rw [tab_at hk2]
      by_cases e : k = n + b.length - 1
      · subst e
        rw [if_pos (by omega), hf, show n + b.length - 1 - n = b.length - 1 by omega, gm_assoc, gm_comm (invB _), gm_inv ht, gm_one]
        exact UInt8.xor_self
      · rw [if_neg (by omega)]
        exact h.rz k (by omega)
    · exact tab_out (by omega)
  qz := fun k hk => by
    rw [getD_set hq, if_neg (by omega)]
    exact h.qz k (by omega)
theorem DivInv.done {a b q r : List UInt8} {i : Int} (h : DivInv a b q r i) (hi : i < 0) (hb : 0 < b.length) : IsDiv a b (trimL q) (trimL r) where
  eq := by
    exact (congrArg (fun A => addF A (co (trimL r))) (mulF_congr (trimL q) q (co_trim q) (co b))).trans ((congrArg (addF _) (co_trim r)).trans h.eq)
  lt := by
    have := trimL_len_le (l := r) (n := b.length - 1) (fun k hk => h.rz k (by omega))
    omega
  q_trim := trimL_trimL _
  r_trim := trimL_trimL _
/-- The same, the rest without its last noughts all the while. -/
structure Div3 (a b q r : List UInt8) : Prop where
  i : DivInv a b q r ((r.length : Int) - b.length)
  t : trimL r = r
theorem Div3.init {a b : List UInt8} : Div3 a b (List.replicate (trimL a).length 0) (trimL a) := ⟨DivInv.init, trimL_trimL a⟩
theorem Div3.step {a b q r : List UInt8} (h : Div3 a b q r) (hq : r.length - b.length < q.length) (hr : b.length ≤ r.length) (hb : 0 < b.length) (ht : b.getD (b.length - 1) 0 ≠ 0) {f : UInt8}
    (hf : f = gm (r.getD (r.length - 1) 0) (invB (b.getD (b.length - 1) 0))) :
    Div3 a b (q.set (r.length - b.length) f) (trimL (subl r b f (r.length - b.length) b.length)) ∧ (trimL (subl r b f (r.length - b.length) b.length)).length < r.length := by
  have e : ((r.length : Int) - b.length) = ((r.length - b.length : Nat) : Int) := by omega
  have h0 := h.i
  rw [e] at h0
  have h1 := h0.step hq (by omega) hb ht (f := f) (by rw [hf]; congr 2; omega)
  have hl : (trimL (subl r b f (r.length - b.length) b.length)).length ≤ r.length - 1 := trimL_len_le fun k hk => h1.rz k (by omega)
  refine ⟨⟨⟨?_, fun k hk => getD_out (by omega), fun k hk => h1.qz k (by omega)⟩, trimL_trimL _⟩, by omega⟩
  exact (congrArg (addF _) (co_trim _)).trans h1.eq
theorem Div3.done {a b q r : List UInt8} (h : Div3 a b q r) (hl : r.length < b.length) : IsDiv a b (trimL q) r := by
  have := h.i.done (by omega) (by omega)
  rw [h.t] at this
  exact this
open Classical in
/-- The quotient by what b is without its last noughts; [] if that is nothing. -/
noncomputable def quoP (a b : List UInt8) : List UInt8 := if h : ∃ qr : List UInt8 × List UInt8, IsDiv a (trimL b) qr.1 qr.2 then h.choose.1 else []
open Classical in
noncomputable def remP (a b : List UInt8) : List UInt8 := if h : ∃ qr : List UInt8 × List UInt8, IsDiv a (trimL b) qr.1 qr.2 then h.choose.2 else []
theorem div_is {a b q r : List UInt8} (h : IsDiv a (trimL b) q r) : quoP a b = q ∧ remP a b = r := by
  have hx : ∃ qr : List UInt8 × List UInt8, IsDiv a (trimL b) qr.1 qr.2 := ⟨(q, r), h⟩
  unfold quoP remP
  rw [dif_pos hx, dif_pos hx]
  exact IsDiv.unique (trimL_trimL b) hx.choose_spec h
theorem div_no {a b : List UInt8} (h : trimL b = []) : quoP a b = [] ∧ remP a b = [] := by
  have hx : ¬ ∃ qr : List UInt8 × List UInt8, IsDiv a (trimL b) qr.1 qr.2 := fun ⟨qr, hd⟩ => by
    have := hd.lt
    rw [h] at this
    simp at this
  unfold quoP remP
  rw [dif_neg hx, dif_neg hx]
  exact ⟨rfl, rfl⟩
/-- Is there something to divide by. -/
def isP (b : List UInt8) : Bool := !decide (trimL b = [])
theorem isP_no {b : List UInt8} (h : trimL b = []) : isP b = false := by unfold isP; rw [decide_eq_true h]; rfl
theorem isP_yes {b : List UInt8} (h : ¬ trimL b = []) : isP b = true := by unfold isP; rw [decide_eq_false h]; rfl
end Ram
