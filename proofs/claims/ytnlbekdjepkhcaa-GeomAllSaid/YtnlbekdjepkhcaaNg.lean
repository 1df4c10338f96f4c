/-
  A struct of three numbers, as an argument of a law.
-/
import Derived.ChangeSame
import Derived.WideShapes
import Derived.ChangeAt
set_option linter.unusedVariables false
set_option linter.unusedSimpArgs false
namespace Go.Proofs.YtnlbekdjepkhcaaF
open Go
/-! ### A struct of three numbers, as an argument -/
section
open Go.ChangeShapes Go.WideShapes Go.ChangeAt
variable {H : Type} {enc : TypeId × Value → H} {P : Program} {w : World} {base : Nat} {spare : Nat → Bool} {held : Bool} {t ti : TypeId} {f0 f1 f2 : Field}
theorem open_g3 {r : Reach} {b0 : Nat} {v : Value} {d : DataW H} {ps : List MemPlace} (ht : P.underlying t = some (.struct #[f0, f1, f2])) (hi : P.underlying ti = some (.int .i64)) (e0 : f0.type = ti ∧ f0.offset = 0) (e1 : f1.type = ti ∧ f1.offset = 1) (e2 : f2.type = ti ∧ f2.offset = 2) (hc : P.cellsOf ti = 1) (hc3 : P.cellsOf t = 3)
    (hval : Value.okWide P w r b0 t v) (hd : DataW.Trod enc P w base spare held t v d ps) :
    ∃ a b c, v = .agg #[.int .i64 a, .int .i64 b, .int .i64 c] ∧ d = .agg [.lit (.int .i64 a), .lit (.int .i64 b), .lit (.int .i64 c)] ∧ ps = [] ∧ (Lit.int .i64 a).wf = true ∧ (Lit.int .i64 b).wf = true ∧ (Lit.int .i64 c).wf = true := by
  obtain ⟨cs, rfl, hs⟩ := okWide_struct ht hval
  obtain ⟨fuel, hf⟩ := hd
  obtain ⟨xs, n, _, hx, hl, hlen, hp⟩ := DataW.trod_struct ht hf
  match xs, hlen with
  | [y0, y1, y2], _ =>
    have p0 := hp 0 f0 rfl
    have p1 := hp 1 f1 rfl
    have p2 := hp 2 f2 rfl
    rw [e0.1, e0.2, hc] at p0
    rw [e1.1, e1.2, hc] at p1
    rw [e2.1, e2.2, hc] at p2
    have hcl : (Value.agg cs).cells.toList = cs.toList := rfl
    rw [hcl] at p0 p1 p2 hl
    rw [hc3] at hl
    obtain ⟨a, h0, g0, w0⟩ := DataW.trod_int hi (by simpa using p0)
    obtain ⟨b, h1, g1, w1⟩ := DataW.trod_int hi (by simpa using p1)
    obtain ⟨c, h2, g2, w2⟩ := DataW.trod_int hi (by simpa using p2)
    have hcs : cs.toList = [.int .i64 a, .int .i64 b, .int .i64 c] := by
      match h : cs.toList, hl with
      | [x, y, z], _ =>
        rw [h] at h0 h1 h2
        simp at h0 h1 h2
        rw [h0, h1, h2]
    have hcs' : cs = #[.int .i64 a, .int .i64 b, .int .i64 c] := by apply Array.ext'; simpa using hcs
    refine ⟨a, b, c, by rw [hcs'], ?_, ?_, w0, w1, w2⟩
    · have := congrArg Prod.fst hx
      simp at this
      rw [this, g0, g1, g2]
    · have := congrArg Prod.snd hx
      simp at this
      rw [this, g0, g1, g2]
      rfl
theorem shut_g3 {a b c : Int} (ht : P.underlying t = some (.struct #[f0, f1, f2])) (hi : P.underlying ti = some (.int .i64)) (e0 : f0.type = ti ∧ f0.offset = 0) (e1 : f1.type = ti ∧ f1.offset = 1) (e2 : f2.type = ti ∧ f2.offset = 2) (hc : P.cellsOf ti = 1) (hc3 : P.cellsOf t = 3)
    (w0 : (Lit.int .i64 a).wf = true) (w1 : (Lit.int .i64 b).wf = true) (w2 : (Lit.int .i64 c).wf = true) : DataW.Trod enc P w base spare held t (.agg #[.int .i64 a, .int .i64 b, .int .i64 c]) (.agg [.lit (.int .i64 a), .lit (.int .i64 b), .lit (.int .i64 c)]) [] := by
  refine ⟨2, ?_⟩
  have := trod_struct_mk (enc := enc) (w := w) (base := base) (spare := spare) (held := held) (n := 1) (t := t) (cs := [.int .i64 a, .int .i64 b, .int .i64 c]) (xs := [(.lit (.int .i64 a), []), (.lit (.int .i64 b), []), (.lit (.int .i64 c), [])]) ht (by rw [hc3]; rfl) (by
    simp only [List.mapM_cons, List.mapM_nil, e0.1, e0.2, e1.1, e1.2, e2.1, e2.2, hc]
    have t0 := trod_int_mk (enc := enc) (w := w) (base := base) (spare := spare) (held := held) (n := a) 0 hi w0
    have t1 := trod_int_mk (enc := enc) (w := w) (base := base) (spare := spare) (held := held) (n := b) 0 hi w1
    have t2 := trod_int_mk (enc := enc) (w := w) (base := base) (spare := spare) (held := held) (n := c) 0 hi w2
    simp at t0 t1 t2 ⊢
    simp [t0, t1, t2])
  show DataW.trod enc P w base spare held 2 t [.int .i64 a, .int .i64 b, .int .i64 c] = some _
  simpa using this
end
end Go.Proofs.YtnlbekdjepkhcaaF
