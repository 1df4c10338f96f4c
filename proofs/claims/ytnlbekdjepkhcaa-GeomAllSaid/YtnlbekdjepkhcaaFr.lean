/-
  The steps of a segment (Fq), as the generator prints them.
-/
import Derived.Test.YtnlbekdjepkhcaaFq
set_option linter.unusedVariables false
set_option linter.unusedSimpArgs false
namespace Go.Proofs.YtnlbekdjepkhcaaF
open Go Go.Shelf Go.Proofs.YtnlbekdjepkhcaaS
section
variable {r : Option Nat} {P : Program} {ops : Array Oper} {Q : Exit → Act → World → Prop} {l : List Value} {ds : List Deferred} {w : World} {n p i : Nat} {o : Oper} {js : List Nat} {K : List Value → World → Prop} {Iw : World → Prop}
theorem rest_eq {l' : List Value} (h : l = l') (hr : Rest r P ops Q ds n p l' w) : Rest r P ops Q ds n p l w := by rw [h]; exact hr
theorem wJ.done (iw : Iw w) (h : K l w) : wpI P ops K Iw [] l w := ⟨iw, h⟩
theorem wJ.op {R : Value → World → Prop} (iw : Iw w) (ho : nthO ops.toList i = some o) (hg : o.guard = none) (h : Does P o (ev l) w R) (hk : ∀ u w', R u w' → wpI P ops K Iw js (lput l o.dst u) w') : wpI P ops K Iw (i :: js) l w := ⟨iw, o, R, ho, gd hg h, hk⟩
theorem wJ.on {R : Value → World → Prop} {g : Nat} {u : Bool} {og : Oper} {t : Tmp} (iw : Iw w) (ho : nthO ops.toList i = some o) (hg : o.guard = some (g, u)) (hog : ops[g]? = some og) (hd : og.dst = some t) (hl : t < l.length) (hv : nth l t = .bool u) (h : Does P o (ev l) w R) (hk : ∀ u w', R u w' → wpI P ops K Iw js (lput l o.dst u) w') : wpI P ops K Iw (i :: js) l w := ⟨iw, o, R, ho, gd_on hg hog hd hl hv h, hk⟩
theorem wJ.off {g : Nat} {u : Bool} {og : Oper} {t : Tmp} (iw : Iw w) (ho : nthO ops.toList i = some o) (hg : o.guard = some (g, u)) (hog : ops[g]? = some og) (hd : og.dst = some t) (hl : t < l.length) (hv : nth l t = .bool (!u)) (hk : wpI P ops K Iw js (lput l o.dst undef) w) : wpI P ops K Iw (i :: js) l w :=
  ⟨iw, o, fun u w' => u = undef ∧ w' = w, ho, gd_off hg hog hd hl hv ⟨rfl, rfl⟩, by rintro _ _ ⟨rfl, rfl⟩; exact hk⟩
theorem wJ.offu {g : Nat} {u : Bool} {og : Oper} {t : Tmp} (iw : Iw w) (ho : nthO ops.toList i = some o) (hg : o.guard = some (g, u)) (hog : ops[g]? = some og) (hd : og.dst = some t) (hl : t < l.length) (hv : nth l t = undef) (hk : wpI P ops K Iw js (lput l o.dst undef) w) : wpI P ops K Iw (i :: js) l w :=
  ⟨iw, o, fun u w' => u = undef ∧ w' = w, ho, gd_offu hg hog hd hl hv ⟨rfl, rfl⟩, by rintro _ _ ⟨rfl, rfl⟩; exact hk⟩
theorem wJ.is {v : Value} (iw : Iw w) (ho : nthO ops.toList i = some o) (hg : o.guard = none) (h : DV P o (ev l) w v) (hk : wpI P ops K Iw js (lput l o.dst v) w) : wpI P ops K Iw (i :: js) l w := wJ.op iw ho hg h (by rintro _ _ ⟨rfl, rfl⟩; exact hk)
theorem wJ.onis {v : Value} {g : Nat} {u : Bool} {og : Oper} {t : Tmp} (iw : Iw w) (ho : nthO ops.toList i = some o) (hg : o.guard = some (g, u)) (hog : ops[g]? = some og) (hd : og.dst = some t) (hl : t < l.length) (hv : nth l t = .bool u) (h : DV P o (ev l) w v) (hk : wpI P ops K Iw js (lput l o.dst v) w) : wpI P ops K Iw (i :: js) l w := wJ.on iw ho hg hog hd hl hv h (by rintro _ _ ⟨rfl, rfl⟩; exact hk)
theorem wJ.flat (l' : List Value) (h : l = l') (hk : wpI P ops K Iw js l' w) : wpI P ops K Iw js l w := by rw [h]; exact hk
end
end Go.Proofs.YtnlbekdjepkhcaaF
