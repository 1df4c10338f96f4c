/-
  Flash as an object: its ghost state, its memory.
-/
import Derived.Test.YtpamdlnobekihaaFp
import Derived.Test.YtpamdlnobekihaaMk
set_option linter.unusedVariables false
set_option linter.unusedSimpArgs false
namespace Go.Proofs.YtpamdlnobekihaaF
open Go Go.Shelf Go.Proofs.YtpamdlnobekihaaS Ram

/-- Rows one behind the other: those of f. -/
def Fam {α : Type} (q : Kd α) (n : Nat) (f : Nat → List α) (vd : List Value) (w : World) : Prop := ∀ i, i < n → Seq q (f i) (vd.getD i undef) w
theorem fam_at {α : Type} {q : Kd α} {n i : Nat} {f : Nat → List α} {vd : List Value} {X : Nat → Prop} {w : World} (h : Ps X (Fam q n f vd) w) (hi : i < n) : Ps X (Seq q (f i) (vd.getD i undef)) w := h.imp fun w' h' => h' i hi
theorem fam_set {α : Type} {q : Kd α} {n i : Nat} {f : Nat → List α} {vd : List Value} {X : Nat → Prop} {w : World} {l : List α} {u : Value} (h : Ps X (Fam q n f vd) w) (hu : Ps X (Seq q l u) w) (hn : vd.length = n) :
    Ps X (Fam q n (fun k => if k = i then l else f k) (vd.set i u)) w := fun w' hw k hk => by
  have h1 := h w' hw k hk
  have h2 := hu w' hw
  rw [List.getD_eq_getElem?_getD] at h1 ⊢
  by_cases hki : k = i
  · subst hki
    rw [List.getElem?_set_self (by omega)]
    show Seq q (if k = k then l else f k) _ w'
    rw [if_pos rfl]
    exact h2
  · rw [List.getElem?_set_ne (Ne.symm hki)]
    show Seq q (if k = i then l else f k) _ w'
    rw [if_neg hki]
    exact h1

/-! ### Blocks' states -/
structure St where
  nx : Nat
  er : Int
  bad : Bool
def stC : Nat → (Nat → St) → List Value
  | 0, _ => []
  | n + 1, f => stC n f ++ [eN (f n).nx, eI (f n).er, .bool (f n).bad]
section
variable {n i v : Nat} {f : Nat → St}
theorem stC_len (n : Nat) (f : Nat → St) : (stC n f).length = n * 3 := by
  induction n with
  | zero => rfl
  | succ n ih => rw [stC, List.length_append, ih]; simp; omega
theorem stC_at (hi : i < n) : (stC n f)[i * 3]? = some (eN (f i).nx) ∧ (stC n f)[i * 3 + 1]? = some (eI (f i).er) ∧ (stC n f)[i * 3 + 2]? = some (.bool (f i).bad) := by
  induction n with
  | zero => omega
  | succ n ih =>
    unfold stC
    rcases Nat.lt_or_ge i n with h | h
    · have hl := stC_len n f
      obtain ⟨h1, h2, h3⟩ := ih h
      rw [List.getElem?_append_left (by omega), List.getElem?_append_left (by omega), List.getElem?_append_left (by omega)]
      exact ⟨h1, h2, h3⟩
    · have : i = n := by omega
      subst this
      have hl := stC_len i f
      rw [List.getElem?_append_right (by omega), List.getElem?_append_right (by omega), List.getElem?_append_right (by omega), hl]
      simp
theorem stC_congr {g : Nat → St} (h : ∀ j, j < n → f j = g j) : stC n f = stC n g := by
  induction n with
  | zero => rfl
  | succ n ih => unfold stC; rw [ih (fun j hj => h j (by omega)), h n (by omega)]
theorem stC_set (hi : i < n) {k : Nat} (hk : k < 3) {x : Value} {s' : St} (h : ([eN (f i).nx, eI (f i).er, .bool (f i).bad] : List Value).set k x = [eN s'.nx, eI s'.er, .bool s'.bad]) : (stC n f).set (i * 3 + k) x = stC n (fun j => if j = i then s' else f j) := by
  induction n with
  | zero => omega
  | succ n ih =>
    unfold stC
    have hl := stC_len n f
    rcases Nat.lt_or_ge i n with h1 | h1
    · rw [List.set_append_left _ _ (by omega), ih h1]
      have e : (fun j => if j = i then s' else f j) n = f n := if_neg (by omega)
      rw [e]
    · have : i = n := by omega
      subst this
      have e : (fun j => if j = i then s' else f j) i = s' := if_pos rfl
      rw [List.set_append_right _ _ (by omega), hl, Nat.add_sub_cancel_left, h, e]
      congr 1
      exact stC_congr fun j hj => by rw [if_neg (by omega)]
end

/-! ### Flash -/
structure NS where
  gD : Nat
  gB : Nat
  gP : Nat
  dl : Nat → List UInt8
  nl : Nat → List Int
  bl : Nat → Nat → St
  stop : Nat
  mask : List UInt8
  dead : Bool
  ops : Int
  wrong : Int
/-- Where flash lies. -/
structure NL where
  tN : TypeId
  tD : TypeId
  tZ : TypeId
  tS : TypeId
  bN : Nat
  bD : Nat
  bZ : Nat
  bU : Option Nat
  ub : Value
  bk : List Nat
def NL.bs (L : NL) : List Nat := L.bN :: L.bD :: L.bZ :: L.bk
def NL.S (L : NL) : Nat → Prop := fun k => k ∈ L.bs ∨ L.bU = some k
def NS.n (s : NS) : Nat := s.gD * s.gB * s.gP
def NS.ix (s : NS) (d b p : Nat) : Nat := (d * s.gB + b) * s.gP + p
structure NS.Ok (s : NS) : Prop where
  d : 6 ≤ s.gD ∧ s.gD ≤ 8
  b : 8 ≤ s.gB ∧ s.gB ≤ 12
  p : 4 ≤ s.gP ∧ s.gP ≤ 8
  nx : ∀ d b, (s.bl d b).nx ≤ 8
  st : s.stop < 2 ^ 62
  dl : ∀ k, (s.dl k).length = 60
  nl : ∀ k, (s.nl k).length ≤ 1048576
  ml : s.mask.length ≤ 1048576
theorem NS.Ok.n_le {s : NS} (h : s.Ok) : s.n ≤ 768 := by
  unfold NS.n
  have h1 := Nat.mul_le_mul h.d.2 h.b.2
  exact Nat.le_trans (Nat.mul_le_mul h1 h.p.2) (by decide)
theorem NS.ix_lt {s : NS} {d b p : Nat} (hd : d < s.gD) (hb : b < s.gB) (hp : p < s.gP) : s.ix d b p < s.n := by
  unfold NS.ix NS.n
  have h1 : d * s.gB + b + 1 ≤ s.gD * s.gB := by
    have := Nat.mul_le_mul_right s.gB (show d + 1 ≤ s.gD from hd)
    rw [Nat.add_mul, Nat.one_mul] at this
    omega
  have h2 := Nat.mul_le_mul_right s.gP h1
  rw [Nat.add_mul, Nat.one_mul] at h2
  omega
/-- A block's row of states, as a slice. -/
def eK (n : Nat) : Nat → Value := fun b => sli b 0 n n
/-- The cells of flash itself. -/
def nandC (bD bZ : Nat) (ub vm : Value) (s : NS) : List Value :=
  [eN s.gD, eN s.gB, eN s.gP, eN s.gD, eN s.gB, eN s.gP, sli bD 0 s.n s.n, eN s.gD, eN s.gB, eN s.gP, sli bZ 0 s.n s.n, ub, eN s.stop, vm, .bool s.dead, eI s.ops, eI s.wrong]
end Go.Proofs.YtpamdlnobekihaaF
