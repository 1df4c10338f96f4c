/-
  A row of pairs of numbers, as an argument of a law.
-/
import Derived.Test.YtnlbekdjepkhcaaGp
import Derived.Test.YtnlbekdjepkhcaaFj
import Derived.ChangeSame
import Derived.ChangeArms
set_option linter.unusedVariables false
set_option linter.unusedSimpArgs false
namespace Go.Proofs.YtnlbekdjepkhcaaF
open Go Go.Shelf Go.Proofs.YtnlbekdjepkhcaaS Go.RowKit
/-- The number that stands in a cell. -/
def numC : Option Value → Int
  | some (.int _ n) => n
  | _ => 0
section
variable {H : Type} {enc : TypeId × Value → H} {P : Program} {W : World} {base : Nat} {spare : Nat → Bool} {held : Bool} {t e ti : TypeId}
theorem trod_two {fuel : Nat} {cs : List Value} {x : DataW H × List MemPlace} (he : P.underlying e = some (.array 2 ti)) (hi : P.underlying ti = some (.int .i64)) (hc : P.cellsOf ti = 1) (hl : cs.length = 2) (h : DataW.trod enc P W base spare held fuel e cs = some x) : ∃ m n : Int, cs = [.int .i64 m, .int .i64 n] := by
  match cs, hl with
  | [c0, c1], _ =>
    cases fuel with
    | zero => simp [DataW.trod] at h
    | succ n =>
      unfold DataW.trod at h
      rw [he] at h
      have r2 : List.range 2 = [0, 1] := rfl
      simp [r2, hc] at h
      obtain ⟨_, h⟩ := h
      cases h0 : DataW.trod enc P W base spare held n ti [c0] with
      | none => simp [h0] at h
      | some y0 =>
        cases h1 : DataW.trod enc P W base spare held n ti [c1] with
        | none => simp [h0, h1] at h
        | some y1 =>
          obtain ⟨m0, e0, _⟩ := DataW.trod_int hi h0
          obtain ⟨m1, e1, _⟩ := DataW.trod_int hi h1
          injection e0 with e0
          injection e1 with e1
          exact ⟨m0, m1, by rw [e0, e1]⟩
theorem open_pairs {a : Option Addr} {len cap : Nat} {d : DataW H} {ps : List MemPlace} (ht : P.underlying t = some (.slice e)) (he : P.underlying e = some (.array 2 ti)) (hi : P.underlying ti = some (.int .i64)) (hc : P.cellsOf ti = 1) (hc2 : P.cellsOf e = 2)
    (hd : DataW.Trod enc P W base spare held t (.slice a len cap) d ps) : ∃ xs : List (Int × Int), xs.length = len ∧ Ps No (Seq (kA 2 eQ) xs (.slice a len cap)) W := by
  obtain ⟨fuel, hf⟩ := hd
  rcases DataW.trod_slice ht hf with ⟨h0, _⟩ | ⟨x, l, c, elems, rest, n, _, hcs, _, hb, hl, hm, hlen, hel, _, _⟩
  · simp [Value.cells] at h0
    obtain ⟨rfl, rfl, rfl⟩ := h0
    exact ⟨[], rfl, Ps.mk0 fun w => ⟨none, 0, rfl, Nat.le_refl _, fun i x h => by simp at h⟩⟩
  · simp [Value.cells] at hcs
    obtain ⟨rfl, rfl, rfl⟩ := hcs
    have each : ∀ i, i < len → ∀ j v, (eQ (numC (W.cell? ((x.add (i * 2)).add 0)), numC (W.cell? ((x.add (i * 2)).add 1))))[j]? = some v → W.cell? ((x.add (i * 2)).add j) = some v := by
      intro i hi'
      have h1 := hel i hi'
      rw [List.getElem?_eq_getElem (by omega), hc2, Option.bind_eq_some_iff] at h1
      obtain ⟨cs, h2, h3⟩ := h1
      obtain ⟨_, h4, h5⟩ := World.cells?_some h2
      obtain ⟨m0, m1, rfl⟩ := trod_two he hi hc h4 h3
      have p0 := h5 0 (by omega)
      have p1 := h5 1 (by omega)
      have p0 : W.cell? ((x.add (i * 2)).add 0) = some (.int .i64 m0) := p0
      have p1 : W.cell? ((x.add (i * 2)).add 1) = some (.int .i64 m1) := p1
      intro j v hv
      rw [p0, p1] at hv
      match j, hv with
      | 0, hv => rw [p0]; exact hv
      | 1, hv => rw [p1]; exact hv
      | j + 2, hv => simp [eQ] at hv
    refine ⟨(List.range len).map fun i => (numC (W.cell? ((x.add (i * 2)).add 0)), numC (W.cell? ((x.add (i * 2)).add 1))), by simp, fun W' hW => ⟨_, cap, by simp, by simpa using hl, fun i v hv => ⟨x, rfl, rfl, fun j y hy => ?_⟩⟩⟩
    rw [List.getElem?_map] at hv
    by_cases hi' : i < len
    · rw [List.getElem?_range hi'] at hv
      injection hv with hv
      subst hv
      have h1 := each i hi' j y hy
      have hlt : ((x.add (i * 2)).add j).block < W.heap.size := cells_of_cell h1 |>.elim fun _ hx => (Array.getElem?_eq_some_iff.1 hx.1).1
      show W'.cell? ((x.add (i * 2)).add j) = some y
      rw [World.cell?_of_block (w := W) (hW _ hlt id)]
      exact h1
    · rw [List.getElem?_eq_none (by simpa using hi')] at hv
      cases hv
end
end Go.Proofs.YtnlbekdjepkhcaaF
