/-
  From a law's inputs, as the rows tell them, to rows and numbers of the walks.
-/
import Derived.Test.YtnlbekdjepkhcaaFi
import Derived.WalkKit
import Derived.OpenShut
import Derived.SizedLaws
import Derived.ChangeSlices
set_option linter.unusedVariables false
namespace Go.Proofs.YtnlbekdjepkhcaaF
open Go Go.Shelf Go.Proofs.YtnlbekdjepkhcaaS Go.RowKit

def IsRow (k : IntKind) (w : World) (a : Option Addr) (len cap : Nat) (zs : List Int) : Prop :=
  (a = none ∧ len = 0 ∧ cap = 0 ∧ zs = []) ∨
  ∃ x, a = some x ∧ len ≤ cap ∧ zs.length = cap ∧ (∀ i, i < zs.length → w.cell? (x.add i) = some (.int k (zs.getD i 0))) ∧ ∀ n ∈ zs, (Lit.int k n).wf = true
theorem IsRow.seq {α : Type} {enc : α → Value} {dec : Int → α} {k : IntKind} {W : World} {a : Option Addr} {len cap : Nat} {zs : List Int} (h : IsRow k W a len cap zs)
    (hed : ∀ n, (Lit.int k n).wf = true → enc (dec n) = .int k n) : ∃ xs : List α, xs.length = len ∧ Ps No (Seq (kS enc) xs (.slice a len cap)) W := by
  rcases h with ⟨rfl, rfl, rfl, _⟩ | ⟨x, rfl, hl, hz, hc, hw⟩
  · exact ⟨[], rfl, seq_nil⟩
  · refine ⟨(zs.take len).map dec, by rw [List.length_map, List.length_take]; omega, fun W' hW => ⟨_, cap, by rw [List.length_map, List.length_take, Nat.min_eq_left (by omega)], by rw [List.length_map, List.length_take]; omega, fun i v hv => ⟨x, rfl, ?_⟩⟩⟩
    rw [List.getElem?_map, List.getElem?_take] at hv
    split at hv
    · rename_i hi
      have hiz : i < zs.length := by omega
      rw [List.getElem?_eq_getElem hiz] at hv
      injection hv with hv
      subst hv
      have h1 := hc i hiz
      have h2 : zs.getD i 0 = zs[i] := by rw [List.getD_eq_getElem?_getD, List.getElem?_eq_getElem hiz]; rfl
      rw [h2] at h1
      show W'.cell? (x.add (i * 1)) = some (enc (dec zs[i]))
      rw [Nat.mul_one, hed _ (hw _ (List.getElem_mem hiz))]
      have hlt : (x.add i).block < W.heap.size := cells_of_cell h1 |>.elim fun _ hx => (Array.getElem?_eq_some_iff.1 hx.1).1
      rw [World.cell?_of_block (w := W) (hW _ hlt id)]
      exact h1
    · cases hv
theorem dec_u8 (n : Int) (h : (Lit.int .u8 n).wf = true) : eB (UInt8.ofNat n.toNat) = .int .u8 n := by
  have hb : 0 ≤ n ∧ n < 256 := by
    simp [Lit.wf, IntKind.min, IntKind.max, IntKind.signed, IntKind.bits] at h
    omega
  show Value.int _ _ = _
  congr 1
  rw [UInt8.toNat_ofNat']
  omega
theorem dec_i64 (n : Int) (_ : (Lit.int .i64 n).wf = true) : eI n = .int .i64 n := rfl
theorem law_of {P : Program} {f : Nat} {args : Array Value} {W : World} (h : CW P f args W (Rt (RIs (.bool true) W))) : Calls P f args W fun e W' => e = .returned (.bool true) ∧ Below W.heap.size W W' :=
  callsIn_wide.1 (CallsIn.mono h fun e W' ⟨u, he, hu⟩ => by
    obtain ⟨h1, h2⟩ := hu
    exact ⟨by rw [he, h1], h2.below (Nat.le_refl _) fun _ x => x.elim⟩)
/-- A slice of whole numbers that is handed in is no longer than the form lets it be. -/
theorem row_sized {H : Type} {enc : TypeId × Value → H} {P : Program} {W : World} {base : Nat} {spare : Nat → Bool} {held : Bool} {t e : TypeId} {k : IntKind} {a : Option Addr} {len cap B : Nat} {d : DataW H} {ps : List MemPlace} {ts : List TypeId} {ds : List (DataW H)} (j : Nat)
    (hsz : (DataW.weightsEach P ts ds).all (· ≤ reachBytes) = true) (ht : ts[j]? = some t) (hd : ds[j]? = some d) (hu : P.underlying t = some (.slice e)) (he : P.underlying e = some (.int k)) (hc : P.cellsOf e = 1) (hB : P.bytesOf e = B)
    (h : DataW.Trod enc P W base spare held t (.slice a len cap) d ps) : len * B ≤ 140737488351232 := by
  obtain ⟨fuel, hf⟩ := h
  rcases ChangeShapes.open_ints hu he hc hf with ⟨hcs, _⟩ | ⟨x, l, c, zs, hcs, _, hl, _, hz, hx, _, _⟩
  · simp [Value.cells] at hcs
    rw [hcs.2.1, Nat.zero_mul]
    exact Nat.zero_le _
  · simp [Value.cells] at hcs
    have h1 := (Prod.mk.inj hx).1
    rw [h1] at hd
    have hw := sized_slice hsz ht hd hu
    rw [hB] at hw
    refine Nat.le_trans (Nat.mul_le_mul_right _ ?_) hw
    simp only [ChangeShapes.lits, List.length_map, List.length_take, List.length_drop]
    rw [hcs.2.1]
    split at hz <;> omega
end Go.Proofs.YtnlbekdjepkhcaaF
