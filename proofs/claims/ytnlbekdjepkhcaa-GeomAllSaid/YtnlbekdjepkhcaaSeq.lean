/-
  A range over a function whose iterator keeps state of its own in captured variables: what the iterator owes ('Iter'), and one law for the caller ('wpIn_range').
-/
import Derived.RangeFuncNested
import Derived.RangeFuncBound
import Derived.RangeFuncCalls
import Derived.RangeFuncLeaves
import Derived.WalkKit
namespace Go.Proofs.YtnlbekdjepkhcaaS
open Go Go.RowKit

/-- Whatever lies in no block of T is as it was. -/
structure Only (T : Nat → Prop) (W W' : World) : Prop where
  os : W'.os = W.os
  tape : W'.tape = W.tape
  output : W'.output = W.output
  size : W.heap.size ≤ W'.heap.size
  same : ∀ k, k < W.heap.size → ¬ T k → W'.heap[k]? = W.heap[k]?

theorem Only.refl (T : Nat → Prop) (W : World) : Only T W W := ⟨rfl, rfl, rfl, Nat.le_refl _, fun _ _ _ => rfl⟩
theorem Only.trans {T : Nat → Prop} {A B C : World} (h : Only T A B) (k : Only T B C) : Only T A C :=
  ⟨k.os.trans h.os, k.tape.trans h.tape, k.output.trans h.output, Nat.le_trans h.size k.size,
   fun i hi ht => (k.same i (Nat.lt_of_lt_of_le hi h.size) ht).trans (h.same i hi ht)⟩
theorem Only.mono {T T' : Nat → Prop} {A B : World} (h : Only T A B) (ht : ∀ k, k < A.heap.size → T k → T' k) : Only T' A B :=
  ⟨h.os, h.tape, h.output, h.size, fun i hi hn => h.same i hi (fun x => hn (ht i hi x))⟩
theorem Only.of_below {T : Nat → Prop} {A B : World} (h : Below A.heap.size A B) : Only T A B :=
  ⟨h.os, h.tape, h.output, h.size, fun i hi _ => h.block i hi⟩
theorem Only.below {T : Nat → Prop} {A B : World} {n : Nat} (h : Only T A B) (hn : n ≤ A.heap.size) (ht : ∀ k, T k → n ≤ k) : Below n A B :=
  ⟨h.os, h.tape, h.output, h.size, fun i hi => h.same i (by omega) (fun x => by have := ht i x; omega)⟩
theorem Only.alloc {T : Nat → Prop} {A B : World} (h : Only T A B) (o : Obj) : Only T A (B.alloc o) :=
  h.trans (Only.of_below ((Below.refl _ B).alloc (Nat.le_refl _) o))
theorem Only.drew {T : Nat → Prop} {A B : World} (h : Only T A B) : Only T A B.drew :=
  ⟨h.os, h.tape, h.output, h.size, h.same⟩
theorem Only.setCell {T : Nat → Prop} {A B : World} (h : Only T A B) {p : Addr} (hp : T p.block) (v : Value) : Only T A (B.setCell p v) :=
  h.trans ⟨rfl, rfl, rfl, by simp [World.setCell], fun k _ ht => Below.heap_setCell _ _ _ _ (fun e => ht (e ▸ hp))⟩
theorem Only.putObj {T : Nat → Prop} {A B : World} (h : Only T A B) {l : Nat} (hp : T l) (o : Obj) : Only T A (B.putObj l o) :=
  h.trans ⟨rfl, rfl, rfl, by simp, fun k _ ht => World.putObj_heap_other (fun e => ht (e ▸ hp))⟩
theorem Only.grown {T : Nat → Prop} {A B C : World} {row : Option Nat} (h : Only T A B) (hg : B.grownBy C row) (hr : ∀ k, row = some k → T k) : Only T A C :=
  h.trans ⟨hg.os, hg.tape, hg.output, hg.size, fun k hk ht => hg.block k hk (fun e => ht (hr k e.symm))⟩
theorem Only.cell {T : Nat → Prop} {A B : World} (h : Only T A B) {p : Addr} {v : Value} (hv : A.cell? p = some v) (ht : ¬ T p.block) : B.cell? p = some v := by
  rw [World.cell?_of_block (w := A) (h.same p.block (cells_of_cell hv |>.elim fun _ hx => (Array.getElem?_eq_some_iff.1 hx.1).1) ht)]; exact hv
theorem Only.heap {T : Nat → Prop} {A B : World} (h : Only T A B) {k : Nat} {o : Obj} (hk : A.heap[k]? = some o) (ht : ¬ T k) : B.heap[k]? = some o :=
  (h.same k (Array.getElem?_eq_some_iff.1 hk).1 ht).trans hk
theorem Only.boxed {T : Nat → Prop} {A B : World} (h : Only T A B) {k : Nat} {t : TypeId} {v : Value} (hk : Boxed A k t v) (ht : ¬ T k) : Boxed B k t v := h.heap hk ht

theorem cell_new (W : World) (c : Array Value) (t : TypeId) (k : Nat) : (W.alloc (.cells c t)).cell? ⟨W.heap.size, k, none⟩ = c[k]? := by
  unfold World.cell?
  rw [World.alloc_heap_new]
  rfl

/-- What is said abides whatever turns in the blocks of T. -/
def Stable {β : Type} (T : Nat → Prop) (I : β → World → Prop) : Prop := ∀ s W W', I s W → Only T W W' → I s W'

/-- WHAT AN ITERATOR OWES: xs come, one after the other, as long as the rounds say 'go on'. Pv: the blocks that it writes itself; Kp: the blocks that it wants kept by the rounds. -/
def Iter {α : Type} (P : Program) (g : Nat) (lb : Array Value) (encs : α → Array Value) (Pv Kp : Nat → Prop) (xs : List α) (w0 : World) : Prop :=
  ∀ (l : Nat) (J Jx : List α → World → Prop) (W : World), Only (fun k => ¬ Kp k) w0 W → Stable Pv J → Stable Pv Jx →
    (∀ pre x, pre ++ [x] <+: xs → ∀ W1, J pre W1 → YieldAt Fence.wide 0 P l (encs x) W1 fun e W' =>
      (e = .returned (.bool true) ∧ J (pre ++ [x]) W' ∧ Only (fun k => ¬ Kp k) W1 W') ∨ (e = .returned (.bool false) ∧ Jx (pre ++ [x]) W')) →
    J [] W →
    CallsIn Fence.wide 0 P g (#[.func (.yield l) #[] #[]] ++ lb) W fun e W' => (∃ v, e = .returned v) ∧ (J xs W' ∨ ∃ pre, pre <+: xs ∧ Jx pre W')

/-- How the body of a round may be left. -/
def roundEnd {α : Type} (T : Nat → Prop) (I : List α → World → Prop) (Ix : Code → List α → World → Prop) (xs : List α) (W : World) : Exit → Act → World → Prop
  | .normal, _, W' => Only T W W' ∧ I xs W'
  | .ret, _, W' => Only T W W' ∧ Ix .ret xs W'
  | .exit id, _, W' => Only T W W' ∧ Ix (.exit id) xs W'
  | .goto t, _, W' => Only T W W' ∧ Ix (.goto t) xs W'
  | .panic _, _, _ => False
  | .outgrown, _, _ => False

/-- THE STATEMENT 'for .. := range g { .. }'. T: the blocks that the body may write. -/
theorem wpIn_range {α : Type} {P : Program} {g : Operand} {ps : Array Tmp} {assign body : Code} {Q : Exit → Act → World → Prop} {a : Act} {w : World}
    {gf : Nat} {lb : Array Value} (hg : a.eval g = .func (.func gf) #[] lb) (eg : ∀ args w, (callFunc gf args).run P w = .ok (.enter gf args) w)
    {encs : α → Array Value} {Pv Kp : Nat → Prop} {xs : List α} {w0 : World} (hseq : Iter P gf lb encs Pv Kp xs w0) (hw0 : Only (fun k => ¬ Kp k) w0 w)
    (hK : ∀ k, Kp k → k < w.heap.size) (hPK : ∀ k, Pv k → Kp k) (hps : ∀ x, (encs x).size = ps.size)
    (T : Nat → Prop) (hT : ∀ k, T k → ¬ Kp k ∧ k ≠ w.heap.size ∧ k ≠ w.heap.size + 1)
    (I : List α → World → Prop) (Ix : Code → List α → World → Prop)
    (hI : Stable (fun k => Pv k ∨ k = w.heap.size ∨ k = w.heap.size + 1) I) (hIx : ∀ c, Stable (fun k => Pv k ∨ k = w.heap.size ∨ k = w.heap.size + 1) (Ix c)) (h0 : I [] w)
    (hround : ∀ (pre : List α) (x : α) (W : World), pre ++ [x] <+: xs → I pre W → w.heap.size + 1 < W.heap.size →
      assign.wpIn (Fence.wide.inRound (w.heap.size + 1)) 0 P (Exit.then (fun a₁ W₁ => Only T W W₁ ∧ ∀ W₂, Only (fun k => k = w.heap.size + 1) W₁ W₂ → W₂.heap.size = W₁.heap.size →
          body.wpIn (Fence.wide.inRound (w.heap.size + 1)) 0 P (roundEnd T I Ix (pre ++ [x]) W₂) a₁ W₂) (fun _ _ _ => False))
        { tmps := (ps.zip (encs x)).foldl (fun t (p, v) => t.setIfInBounds p v) a.tmps, defers := [] } W)
    (hdone : ∀ W, I xs W → W.heap[w.heap.size]? = some (.deferred (some [])) → Q .normal { a with defers := { target := .collected w.heap.size, args := #[] } :: a.defers } W)
    (hstop : ∀ (c : Code) (pre : List α) W, pre <+: xs → Ix c pre W → W.heap[w.heap.size]? = some (.deferred (some [])) → c.wpIn Fence.wide 0 P Q { a with defers := { target := .collected w.heap.size, args := #[] } :: a.defers } W) :
    (Code.rangeFunc g ps assign body).wpIn Fence.wide 0 P Q a w := by
  refine wpIn_rangeFunc ?_
  intro fn _
  obtain ⟨L, hL⟩ : ∃ L, w.heap.size + 1 = L := ⟨_, rfl⟩
  obtain ⟨D, hD⟩ : ∃ D, w.heap.size = D := ⟨_, rfl⟩
  obtain ⟨rec, hrec⟩ : ∃ rec : LoopState → Option Code → Loop, rec = fun st pe => { state := st, pending := pe, fn, tmps := a.tmps, params := ps, assign, body, defers := w.heap.size } := ⟨_, rfl⟩
  obtain ⟨W1, hW1⟩ : ∃ W1, (w.alloc (.deferred (some []))).alloc (.loop (rec .ready none)) = W1 := ⟨_, rfl⟩
  have hs1 : W1.heap.size = w.heap.size + 2 := by rw [← hW1]; simp
  have hL1 : W1.heap[L]? = some (.loop (rec .ready none)) := by
    rw [← hW1, ← hL]; have := World.alloc_heap_new (w.alloc (.deferred (some []))) (.loop (rec .ready none)); rwa [World.size_alloc] at this
  have hK1 : W1.heap[D]? = some (.deferred (some [])) := by
    rw [← hW1, ← hD]; exact (Below.heap_alloc _ _ _ (by simp)).trans (World.alloc_heap_new w _)
  have hI1 : I [] W1 := by rw [← hW1]; exact hI _ _ _ h0 (((Only.refl _ w).alloc _).alloc _)
  have hb1 : Only (fun k => ¬ Kp k) w0 W1 := by rw [← hW1]; exact (hw0.alloc _).alloc _
  have hTL : ¬ T L := fun h => (hT L h).2.2 hL.symm
  have hTD : ¬ T D := fun h => (hT D h).2.1 hD.symm
  have hKL : ¬ Kp L := fun h => by have := hK L h; omega
  have hKD : ¬ Kp D := fun h => by have := hK D h; omega
  refine ⟨L, [{ target := .collected D, args := #[] }], W1, { target := .fn (.func gf) lb, args := #[.func (.yield L) #[] #[]] }, W1, gf,
    #[.func (.yield L) #[] #[]] ++ lb, W1, ?_, ?_, ?_, ?_, fun h => by simp [Fence.wide] at h, ?_⟩
  · rw [← hW1, hrec, ← hL, ← hD]; exact run_enterLoop_outer _ _ _ _ _
  · simp only [resolve, hg]
    simp [go_sem]
  · intro f' _; trivial
  · simp [invoke, go_sem, eg]
  · rw [hL] at hround hI
    simp only [hL] at hIx
    rw [hD] at hI hdone hstop
    simp only [hD] at hIx
    refine (hseq L
      (fun pre W => I pre W ∧ W.heap[L]? = some (.loop (rec .ready none)) ∧ W.heap[D]? = some (.deferred (some [])))
      (fun pre W => ∃ c, Ix c pre W ∧ W.heap[L]? = some (.loop (rec .done (some c))) ∧ W.heap[D]? = some (.deferred (some [])))
      W1 hb1
      (fun s A B hs ho => ⟨hI _ _ _ hs.1 (ho.mono fun _ _ h => Or.inl h), ho.heap hs.2.1 (fun h => hKL (hPK _ h)), ho.heap hs.2.2 (fun h => hKD (hPK _ h))⟩)
      (fun s A B hs ho => by
        obtain ⟨c, hc, hl, hk⟩ := hs
        exact ⟨c, hIx c _ _ _ hc (ho.mono fun _ _ h => Or.inl h), ho.heap hl (fun h => hKL (hPK _ h)), ho.heap hk (fun h => hKD (hPK _ h))⟩)
      ?_ ⟨hI1, hL1, hK1⟩).mono ?_
    · rintro pre x hpx W ⟨hi, hl, hk⟩
      have hlt : L < W.heap.size := (Array.getElem?_eq_some_iff.1 hl).1
      have hy := run_yield (P := P) (args := encs x) hl (by rw [hrec]; exact hps x)
      rw [hrec] at hy
      refine ⟨fn, _, assign, body, hy, roundIn_of_wpIn trivial (wpIn_mono (hround pre x W hpx hi hlt) ?_)⟩
      rintro e a₁ W₁ hp
      cases e with
      | normal =>
        obtain ⟨ho1, hb⟩ := hp
        have hl1 : W₁.heap[L]? = some (.loop (rec .ready none)) := ho1.heap hl hTL
        have hk1 : W₁.heap[D]? = some (.deferred (some [])) := ho1.heap hk hTD
        refine ⟨_, run_beginRound hl1 (by rw [hrec]), ?_⟩
        obtain ⟨W₂, hW₂⟩ : ∃ W₂, W₁.putObj L (.loop { rec .ready none with state := .busy }) = W₂ := ⟨_, rfl⟩
        rw [hW₂]
        have ho2 : Only (fun k => k = L) W₁ W₂ := by rw [← hW₂]; exact Only.putObj (T := fun k => k = L) (Only.refl _ _) rfl _
        have hl2 : W₂.heap[L]? = some (.loop { rec .ready none with state := .busy }) := by
          rw [← hW₂]; exact World.putObj_heap_same (Array.getElem?_eq_some_iff.1 hl1).1
        have hk2 : W₂.heap[D]? = some (.deferred (some [])) := ho2.heap hk1 (by omega)
        refine wpIn_mono (hb W₂ ho2 (by rw [← hW₂]; simp)) ?_
        have fin : ∀ (jump : Option Code) (W3 : World), Only T W₂ W3 →
            (Instr.endRound L jump).run P W3 = .ok (.bool jump.isNone) (W3.putObj L (.loop (rec (if jump.isNone then .ready else .done) jump))) ∧
            (W3.putObj L (.loop (rec (if jump.isNone then .ready else .done) jump))).heap[L]? = some (.loop (rec (if jump.isNone then .ready else .done) jump)) ∧
            (W3.putObj L (.loop (rec (if jump.isNone then .ready else .done) jump))).heap[D]? = some (.deferred (some [])) ∧
            Only (fun k => Pv k ∨ k = D ∨ k = L) W3 (W3.putObj L (.loop (rec (if jump.isNone then .ready else .done) jump))) ∧
            Only (fun k => ¬ Kp k) W (W3.putObj L (.loop (rec (if jump.isNone then .ready else .done) jump))) := fun jump W3 hk3 => by
          have hl3 := hk3.heap hl2 hTL
          have := run_endRound (P := P) jump hl3
          rw [hrec] at this ⊢
          refine ⟨this, World.putObj_heap_same (Array.getElem?_eq_some_iff.1 hl3).1, (World.putObj_heap_other (by omega)).trans (hk3.heap hk2 hTD), (Only.refl _ _).putObj (Or.inr (Or.inr rfl)) _, ?_⟩
          refine Only.putObj ?_ hKL _
          exact ((ho1.mono fun k _ h => (hT k h).1).trans (ho2.mono fun k _ h => by rw [h]; exact hKL)).trans (hk3.mono fun k _ h => (hT k h).1)
        rintro e a3 W3 hp
        cases e with
        | normal =>
          obtain ⟨hk3, hi3⟩ := hp
          obtain ⟨hr, hl4, hk4, hp4, ho4⟩ := fin none W3 hk3
          exact ⟨_, _, hr, .inl ⟨rfl, ⟨hI _ _ _ hi3 hp4, hl4, hk4⟩, ho4⟩⟩
        | ret =>
          obtain ⟨hk3, hi3⟩ := hp
          obtain ⟨hr, hl4, hk4, hp4, _⟩ := fin (some .ret) W3 hk3
          exact ⟨_, _, hr, .inr ⟨rfl, .ret, hIx _ _ _ _ hi3 hp4, hl4, hk4⟩⟩
        | exit id =>
          obtain ⟨hk3, hi3⟩ := hp
          obtain ⟨hr, hl4, hk4, hp4, _⟩ := fin (some (.exit id)) W3 hk3
          exact ⟨_, _, hr, .inr ⟨rfl, .exit id, hIx _ _ _ _ hi3 hp4, hl4, hk4⟩⟩
        | goto t =>
          obtain ⟨hk3, hi3⟩ := hp
          obtain ⟨hr, hl4, hk4, hp4, _⟩ := fin (some (.goto t)) W3 hk3
          exact ⟨_, _, hr, .inr ⟨rfl, .goto t, hIx _ _ _ _ hi3 hp4, hl4, hk4⟩⟩
        | panic ch => exact hp.elim
        | outgrown => exact hp.elim
      | exit id => exact hp.elim
      | goto t => exact hp.elim
      | ret => exact hp.elim
      | panic ch => exact hp.elim
      | outgrown => exact hp.elim
    · rintro e W2 ⟨⟨v, rfl⟩, (⟨hi, hl, hk⟩ | ⟨pre, hpre, c, hi, hl, hk⟩)⟩
      · exact ⟨none, _, by have := run_endLoop (P := P) hl (by rw [hrec]; simp); rw [hrec] at this; exact this, hdone _ (hI _ _ _ hi ((Only.refl _ _).putObj (Or.inr (Or.inr rfl)) _)) ((World.putObj_heap_other (by omega)).trans hk)⟩
      · exact ⟨some c, _, by have := run_endLoop (P := P) hl (by rw [hrec]; simp); rw [hrec] at this; exact this, hstop c pre _ hpre (hIx c _ _ _ hi ((Only.refl _ _).putObj (Or.inr (Or.inr rfl)) _)) ((World.putObj_heap_other (by omega)).trans hk)⟩

end Go.Proofs.YtnlbekdjepkhcaaS
