/-
  Short names for what the generator prints often.
-/
import Derived.Test.YtnlbekdjepkhcaaFo
namespace Go.Proofs.YtnlbekdjepkhcaaF
open Go Go.Shelf Go.Proofs.YtnlbekdjepkhcaaS
section
variable {r : Option Nat} {P : Program} {ops : Array Oper} {Q : Exit → Act → World → Prop} {l : List Value} {ds : List Deferred} {w : World} {o : Oper} {rest : List Oper}
theorem wF (l' : List Value) (hk : wpL r P ops Q rest l' ds w) (h : l = l' := by kernel_rfl) : wpL r P ops Q rest l ds w := wpL.flat l' h hk
theorem wI {v : Value} (h : DV P o (ev l) w v) (hk : wpL r P ops Q rest (lput l o.dst v) ds w) (hg : o.guard = none := by rfl) : wpL r P ops Q (o :: rest) l ds w := wpL.is hg h hk
theorem wO {R : Value → World → Prop} (h : Does P o (ev l) w R) (hk : ∀ u w', R u w' → wpL r P ops Q rest (lput l o.dst u) ds w') (hg : o.guard = none := by rfl) : wpL r P ops Q (o :: rest) l ds w := wpL.op hg h hk
end
theorem nb {a b : Nat} (h : Nat.ble a b = true) : a ≤ b := Nat.le_of_ble_eq_true h
end Go.Proofs.YtnlbekdjepkhcaaF
