import Derived.Test.YtnlbekdjepkhcaaGrow
import Derived.Deep.Upon
namespace Go.Proofs.YtnlbekdjepkhcaaG
open Go.RowKit Go.Proofs.YtnlbekdjepkhcaaW.PrintWords Go.Proofs.YtnlbekdjepkhcaaW.PrintLast

/-- An address where this value stands. -/
def Fact.cell (x : Value) : Fact := ⟨fun u w => ∃ p, u = .pointer (some p) ∧ w.cell? p = some x, fun ⟨p, h1, h2⟩ hg => ⟨p, h1, (hg.cell (World.block_lt_of_cell? _ _ h2)).trans h2⟩⟩
/-- A row made of nothing, without room. -/
def Fact.empty : Fact := ⟨fun u _ => ∃ b, u = .slice (some b) 0 0, fun h _ => h⟩
/-- What is appended to it is a new row. -/
theorem append0_run {P : Program} {W : World} {t ty e : TypeId} {bytes : Nat} {k : IntKind} {l : List Int} (ht : P.underlying t = some (.slice e)) (hinfo : (P.info? e).map (fun i => (i.zero, i.size, i.bytes)) = some (some (.int k 0), 1, bytes)) (hb : bytes ≤ 8)
    {u x : Value} (hu : Fact.empty.p u W) (hx : (Fact.seq (Kd.int k) l).p x W) (hl : l.length < 1000000000000) :
    ∃ v w', (Builtin.append_ #[t, t] ty #[u, x]).run P W = .ok v w' ∧ (Fact.seq (Kd.int k) l).p v w' ∧ Grew W w' := by
  obtain ⟨b, rfl⟩ := hu
  obtain ⟨A1, c, rfl, hle, hC⟩ := hx
  obtain ⟨i0, hi, hzz⟩ := Option.map_eq_some_iff.1 hinfo
  simp only [Prod.mk.injEq] at hzz
  obtain ⟨hz0, hz1, hz2⟩ := hzz
  have hR := Kd.reads_of_C (d := (0 : Int)) hC
  by_cases h0 : l.length = 0
  · obtain rfl : l = [] := List.eq_nil_of_length_eq_zero h0
    refine ⟨.slice (some b) 0 0, W, ?_, ⟨some b, 0, rfl, Nat.le_refl _, Kd.C_of_reads (d := (0 : Int)) (h1 := fun _ => rfl) ⟨rfl, by decide, fun h => absurd h (by decide)⟩⟩, Grew.refl W⟩
    cases A1 with
    | none => exact run_append_nothing W t t ty e i0 ht hi (some b) 0 0 (Nat.le_refl _) _ (Src.ofNil W ht c)
    | some ad => exact run_append_nothing W t t ty e i0 ht hi (some b) 0 0 (Nat.le_refl _) _ (Src.ofSlice W ht ad 0 c [] (by simp) (fun j u h => by simp at h) (fun u h => by cases h))
  · obtain ⟨ad, rfl, hcell⟩ := hR.2.2 (by omega)
    obtain ⟨v', w', hrun, hown, hg⟩ := run_append_arg_grows (P := P) (w := W) t ty e i0 (.int k 0) 1 bytes ht hi hz0 hz1 hz2 rfl (by decide) b 0 0 [] rfl (fun j u h => by simp at h) ad l.length c (encs (Value.int k) l) (by simp [encs])
      (fun j u h => by
        have hj : j < l.length := by have := (List.getElem?_eq_some_iff.1 h).1; simpa [encs] using this
        rw [hcell j hj]
        simp [encs, hj] at h
        rw [List.getD_eq_getElem?_getD, List.getElem?_eq_getElem hj, ← h]; rfl)
      (by omega) (by simp only [maxLen]; omega) (by have := Nat.mul_le_mul (Nat.le_of_lt (show 0 + l.length < 1000000000000 by omega)) hb; omega)
    refine ⟨v', w', hrun, ?_, (Below.refl _ _).grown hg (Nat.le_refl _) (fun k h => by cases h)⟩
    rw [Nat.zero_add, List.nil_append] at hown
    exact seq_of_R (Kd.R_of_own (h1 := fun _ => rfl) (ok := fun _ => True) hown (fun _ _ => trivial))
theorem append0_step {P : Program} {ops : Array Oper} {Q : Exit → Act → World → Prop} {a : Act} {o : Oper} {Kc : Act → World → Prop} {W : World} {t e : TypeId} {bytes : Nat} {k : IntKind} {l : List Int} (hw : Region.wanted o (yielded ops a.tmps) = true)
    (s x : Operand) (ho : o.op = .call { callee := .builtin .append, args := #[s, x], argTypes := #[t, t] }) (ht : P.underlying t = some (.slice e))
    (hinfo : (P.info? e).map (fun i => (i.zero, i.size, i.bytes)) = some (some (.int k 0), 1, bytes)) (hb : bytes ≤ 8) {u xv : Value} (hs : a.eval s = u) (hx : a.eval x = xv)
    (hu : Fact.empty.p u W) (hxv : (Fact.seq (Kd.int k) l).p xv W) (hl : l.length < 1000000000000)
    (h : ∀ v1 w1, (Fact.seq (Kd.int k) l).p v1 w1 → Grew W w1 → Kc (a.put o.dst v1) w1) : if Region.wanted o (yielded ops a.tmps) = true then Oper.wp P o a W Kc Q else Kc (a.put o.dst undef) W := by
  obtain ⟨v1, w1, hr1, h1, hg⟩ := append0_run (ty := o.type) ht hinfo hb hu hxv hl
  rw [if_pos hw]
  unfold Oper.wp execOp
  simp only [ho, resolve, invoke, builtin, Sem.run_bind, Sem.run_pure, Result.andThen_ok, List.map_toArray, List.map_cons, List.map_nil, hs, hx, hr1]
  exact h v1 w1 h1 hg

end Go.Proofs.YtnlbekdjepkhcaaG
