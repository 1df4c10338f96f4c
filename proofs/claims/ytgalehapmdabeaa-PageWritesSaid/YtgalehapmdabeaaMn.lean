/-
  Pages.
-/
import Derived.Test.YtgalehapmdabeaaFo
import Derived.Test.YtgalehapmdabeaaMk
set_option linter.unusedVariables false
set_option linter.unusedSimpArgs false
namespace Go.Proofs.YtgalehapmdabeaaF
open Go Go.Shelf Go.Proofs.YtgalehapmdabeaaS Ram
/-- The i-th half of a payload, of a page. -/
def pgH (la : List UInt8) (i : Nat) : List UInt8 := (la.drop (i * 24)).take 24
def pgW (la : List UInt8) (i : Nat) : List UInt8 := ((la.drop 4).drop (i * 28)).take 28
noncomputable def pgTo (la : List UInt8) (k : Nat) : List UInt8 := List.replicate 4 0 ++ ((List.range k).map fun i => encR (pgH la i)).flatten
noncomputable def pdTo (la : List UInt8) (k : Nat) : List UInt8 := ((List.range k).map fun i => decD (pgW la i)).flatten
noncomputable def pgE (la : List UInt8) : List UInt8 := if la.length = 48 then List.replicate 4 0 ++ encR (pgH la 0) ++ encR (pgH la 1) else []
/-- A page read: its state, its payload. -/
noncomputable def pgD (la : List UInt8) : Nat × List UInt8 :=
  if la.length = 60 then (if 16 < onesN (la.take 4) then (0, []) else if decB (pgW la 0) = true ∧ decB (pgW la 1) = true then (2, decD (pgW la 0) ++ decD (pgW la 1)) else (1, [])) else (1, [])
section
variable {la : List UInt8} {k : Nat}
theorem pgTo_zero (la : List UInt8) : pgTo la 0 = List.replicate 4 0 := by simp [pgTo]
theorem pgTo_snoc (la : List UInt8) (k : Nat) : pgTo la k ++ encR (pgH la k) = pgTo la (k + 1) := by simp [pgTo, List.range_succ]
theorem pgH_len (la : List UInt8) (k : Nat) : (pgH la k).length ≤ 24 := by unfold pgH; rw [List.length_take]; omega
theorem pgW_len (la : List UInt8) (k : Nat) : (pgW la k).length ≤ 28 := by unfold pgW; rw [List.length_take]; omega
theorem pgTo_len (la : List UInt8) (k : Nat) : (pgTo la k).length ≤ 4 + 28 * k := by
  induction k with
  | zero => rw [pgTo_zero]; simp
  | succ k ih =>
    rw [← pgTo_snoc, List.length_append]
    have := encR_len (pgH la k)
    omega
theorem pgE_yes (h : la.length = 48) : pgE la = List.replicate 4 0 ++ encR (pgH la 0) ++ encR (pgH la 1) := if_pos h
theorem pgE_no (h : ¬ la.length = 48) : pgE la = [] := if_neg h
theorem pgTo_done (h : la.length = 48) (u : Value) : pgTo la (partsV 24 la u).length = pgE la := by
  rw [parts_len, h, pgE_yes h]
  simp [pgTo, List.range_succ]
theorem pgH0 (la : List UInt8) : pgH la 0 = la.take 24 := by simp [pgH]
theorem pgH1 (h : la.length = 48) : pgH la 1 = la.drop 24 := List.take_of_length_le (by rw [List.length_drop, h]; decide)
theorem pgW0 (la : List UInt8) : pgW la 0 = (la.drop 4).take 28 := by simp [pgW]
theorem pgW1 (h : la.length = 60) : pgW la 1 = la.drop 32 := by
  unfold pgW
  rw [List.drop_drop]
  exact List.take_of_length_le (by rw [List.length_drop, h]; decide)
theorem pgE_len (la : List UInt8) : (pgE la).length ≤ 60 := by
  unfold pgE
  split
  · rw [List.length_append, List.length_append, List.length_replicate]
    have := encR_len (pgH la 0); have := encR_len (pgH la 1)
    omega
  · simp
theorem pdTo_zero (la : List UInt8) : pdTo la 0 = [] := by simp [pdTo]
theorem pdTo_snoc (la : List UInt8) (k : Nat) : pdTo la k ++ decD (pgW la k) = pdTo la (k + 1) := by simp [pdTo, List.range_succ]
theorem pdTo_len (la : List UInt8) (k : Nat) : (pdTo la k).length ≤ 28 * k := by
  induction k with
  | zero => rw [pdTo_zero]; simp
  | succ k ih =>
    rw [← pdTo_snoc, List.length_append]
    have := decD_len (pgW la k)
    omega
theorem pgD_size (h : ¬ la.length = 60) : pgD la = (1, []) := if_neg h
theorem pgD_blank (h : la.length = 60) (h2 : 16 < onesN (la.take 4)) : pgD la = (0, []) := by unfold pgD; rw [if_pos h, if_pos h2]
theorem pgD_bad (h : la.length = 60) (h2 : ¬ 16 < onesN (la.take 4)) {k : Nat} (hk : k < 2) (h3 : decB (pgW la k) = false) : pgD la = (1, []) := by
  unfold pgD
  rw [if_pos h, if_neg h2, if_neg]
  rintro ⟨h4, h5⟩
  rcases (show k = 0 ∨ k = 1 by omega) with rfl | rfl
  · rw [h3] at h4; cases h4
  · rw [h3] at h5; cases h5
theorem pgD_good (h : la.length = 60) (h2 : ¬ 16 < onesN (la.take 4)) (h3 : decB (pgW la 0) = true) (h4 : decB (pgW la 1) = true) : pgD la = (2, decD (pgW la 0) ++ decD (pgW la 1)) := by
  unfold pgD
  rw [if_pos h, if_neg h2, if_pos ⟨h3, h4⟩]
theorem pgD_good2 (h : la.length = 60) (h2 : ¬ 16 < onesN (la.take 4)) (u : Value) (h3 : ∀ i, i < (partsV 28 (la.drop 4) u).length → decB (pgW la i) = true) : pgD la = (2, pdTo la (partsV 28 (la.drop 4) u).length) := by
  have hl : (partsV 28 (la.drop 4) u).length = 2 := by rw [parts_len, List.length_drop, h]
  rw [hl] at h3 ⊢
  rw [pgD_good h h2 (h3 0 (by decide)) (h3 1 (by decide))]
  simp [pdTo, List.range_succ]
end
/-- A page that was read, as a value. -/
def RPg (n : Nat) (l : List UInt8) (W : World) : Value → World → Prop := fun u w => ∃ a, u = .agg #[eN n, a] ∧ Ps (Old W.heap.size) (Seq kB l a) w ∧ Only No W w
def PgV (n : Nat) (l : List UInt8) (u : Value) (w : World) : Prop := ∃ a, u = .agg #[eN n, a] ∧ Seq kB l a w
theorem PgV.mk {n : Nat} {l : List UInt8} {u a : Value} {X : Nat → Prop} {w : World} (h : u = .agg #[eN n, a]) (hp : Ps X (Seq kB l a) w) : Ps X (PgV n l u) w := hp.imp fun w' h' => ⟨a, h, h'⟩
theorem PgV.out {n : Nat} {l : List UInt8} {u : Value} {X : Nat → Prop} {w : World} (h : Ps X (PgV n l u) w) : ∃ a, u = .agg #[eN n, a] ∧ Ps X (Seq kB l a) w := by
  obtain ⟨a, h1, _⟩ := h.now
  refine ⟨a, h1, h.imp fun w' h' => ?_⟩
  obtain ⟨b, h2, h3⟩ := h'
  rw [h1] at h2
  have : a = b := by injection h2 with h2; simpa using h2
  rw [this]; exact h3
theorem RPg.of {la : List UInt8} {n : Nat} {l : List UInt8} {W w : World} {a : Value} (h : pgD la = (n, l)) (hp : Ps (Old W.heap.size) (Seq kB l a) w) (ho : Only No W w) : RPg (pgD la).1 (pgD la).2 W (.agg [eN n, a].toArray) w := by rw [h]; exact ⟨a, rfl, hp, ho⟩
end Go.Proofs.YtgalehapmdabeaaF
