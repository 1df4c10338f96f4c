/-
  More operations: nil asked for; pointers and structs.
-/
import Derived.Test.YtnlbekdjepkhcaaFl
import Derived.IntWalk
set_option linter.unusedVariables false
set_option linter.unusedSimpArgs false
namespace Go.Proofs.YtnlbekdjepkhcaaF
open Go Go.Shelf Go.Proofs.YtnlbekdjepkhcaaS
section
variable {P : Program} {d : Option Tmp} {tt : TypeId} {s : String} {af : Array Edge} {g : Option (Nat × Bool)} {ρ : Operand → Value} {w : World}
theorem run_equal_nil {t e : TypeId} (ht : P.underlying t = some (.slice e)) {A : Option Addr} {n c : Nat} {w : World} : (Op.equal t (.slice A n c) (.slice none 0 0)).run P w = .ok A.isNone w := by
  have gen : ∀ m, (Op.equalIn (m + 1) t (.slice A n c) (.slice none 0 0)).run P w = .ok A.isNone w := by
    intro m
    rw [Op.equalIn]
    simp only [Sem.run_bind, run_underlying ht, Result.andThen]
    cases A <;> rfl
  exact gen 9999
/-- Is a slice nil: only one that has no elements. -/
theorem d_eqnil {α : Type} {q : Kd α} {xs : List α} {X : Nat → Prop} {t t2 e : TypeId} {x : Operand} {u : Value} (ht : P.underlying t = some (.slice e)) (hx : ρ x = u) (hS : Ps X (Seq q xs u) w) (hc0 : ρ (.const (.slice none 0 0)) = .slice none 0 0) :
    Does P ⟨d, .binOp .eql t x (.const (.slice none 0 0)) t2, tt, s, af, g⟩ ρ w fun u' w' => ∃ b : Bool, u' = .bool b ∧ (b = true → xs = []) ∧ w = w' := by
  obtain ⟨A, c, hu, hc, hel⟩ := hS.now
  subst hu
  refine Does.of_value (v := .bool A.isNone) (w' := w) (by simp) ?_ ⟨A.isNone, rfl, fun hn => ?_, rfl⟩
  · simp [execOp, hx, hc0, go_sem, eqGuard, binOp, run_equal_nil ht]
  · cases xs with
    | nil => rfl
    | cons v r => obtain ⟨ad, h, _⟩ := hel 0 v rfl; subst h; cases hn
end
/-! remainders that are never below nought -/
theorem tmm (a : Int) {m : Nat} (hm : 0 < m) : (Int.tmod a m < 0 ∧ Int.tmod a m + m = ((a % m).toNat : Int)) ∨ (0 ≤ Int.tmod a m ∧ Int.tmod a m = ((a % m).toNat : Int)) := by
  have h1 := Int.emod_nonneg a (show (m : Int) ≠ 0 by omega)
  have h2 := Int.emod_lt_of_pos a (show (0 : Int) < m by omega)
  have h3 := Int.tmod_eq_emod (a := a) (b := (m : Int))
  have h4 : ((m : Int).natAbs : Int) = m := by omega
  by_cases h : 0 ≤ a ∨ (m : Int) ∣ a
  · rw [if_pos h] at h3; right; omega
  · rw [if_neg h, h4] at h3; left; omega
theorem tmm_neg {a : Int} {m : Nat} (hm : 0 < m) (hm2 : m ≤ 1000000) (h : Int.tmod a m < 0) : IntKind.i64.wrap (Int.tmod a m + m) = ((a % m).toNat : Int) := by
  have h2 := Int.emod_lt_of_pos a (show (0 : Int) < m by omega)
  rcases tmm a hm with h1 | h1
  · rw [IntWalk.i64_in _ (by omega)]; exact h1.2
  · omega
theorem tmm_pos {a : Int} {m : Nat} (hm : 0 < m) (h : ¬ Int.tmod a m < 0) : eI (Int.tmod a m) = eN (a % m).toNat := by
  rcases tmm a hm with h1 | h1
  · omega
  · exact congrArg eI h1.2
end Go.Proofs.YtnlbekdjepkhcaaF
