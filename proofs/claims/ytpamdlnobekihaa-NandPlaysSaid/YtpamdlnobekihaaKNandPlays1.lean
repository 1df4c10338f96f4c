/- Part of the proof of the law NandPlays, for all its inputs. -/
import Derived.RangeFuncNested
import Derived.RangeFuncBound
import Derived.RangeFuncCalls
import Derived.RangeFuncLeaves
import Derived.WalkKit
import Derived.TacticsIn
import Derived.OrdersIn
import Derived.Orders
import Derived.OwnWalkIn
import Derived.Laws.BytesString
import Derived.Laws.CopyRow
import Derived.Laws.Cells
import Derived.Laws.Strings
import Derived.Laws.Entries
import Derived.Shelf.Abstract
import Derived.Laws.BitsLemmas
import Derived.KernelRfl
import Derived.Laws.MakeOwn
import Derived.Laws.IdiomCopy
import Derived.Deep.AppendSrc
import Derived.IntWalk
import Derived.Laws.Slices
import Derived.LoopNIn
import Derived.Test.YtpamdlnobekihaaProg
import Derived.Lib.AppendZerosOnto
import Derived.ChangeKeysEq
import Derived.OpenShut
import Derived.SizedLaws
import Derived.ChangeSlices
import Derived.ChangeSame
import Derived.WideShapes
import Derived.ChangeAt
import Derived.ChangeArms
set_option linter.unusedVariables false
set_option linter.unusedSimpArgs false
universe u
namespace Go
theorem kr {α : Sort u} {a b : α} (h : a = b := by kernel_rfl) : a = b := h
theorem oo {p : Prop} (h : p := by omega) : p := h
theorem fo {p : Prop} (h : p := by first | omega | (simp; done) | (simp; omega)) : p := h
abbrev vT : Value := .bool true
abbrev vF : Value := .bool false
abbrev vN : Value := .slice none 0 0
end Go
namespace Go.Proofs.YtpamdlnobekihaaS
open Go Go.RowKit
structure Only (T : Nat → Prop) (W W' : World) : Prop where
  os : W'.os = W.os
  tape : W'.tape = W.tape
  output : W'.output = W.output
  size : W.heap.size ≤ W'.heap.size
  same : ∀ k, k < W.heap.size → ¬ T k → W'.heap[k]? = W.heap[k]?
theorem Only.refl (T : Nat → Prop) (W : World) : Only T W W := ⟨rfl, rfl, rfl, Nat.le_refl _, fun _ _ _ => rfl⟩
theorem Only.trans {T : Nat → Prop} {A B C : World} (h : Only T A B) (k : Only T B C) : Only T A C :=
  ⟨k.os.trans h.os, k.tape.trans h.tape, k.output.trans h.output, Nat.le_trans h.size k.size,
   fun i hi ht => (k.same i (Nat.lt_of_lt_of_le hi h.size) ht).trans (h.same i hi ht)⟩
theorem Only.mono {T T' : Nat → Prop} {A B : World} (h : Only T A B) (ht : ∀ k, k < A.heap.size → T k → T' k) : Only T' A B :=
  ⟨h.os, h.tape, h.output, h.size, fun i hi hn => h.same i hi (fun x => hn (ht i hi x))⟩
theorem Only.of_below {T : Nat → Prop} {A B : World} (h : Below A.heap.size A B) : Only T A B :=
  ⟨h.os, h.tape, h.output, h.size, fun i hi _ => h.block i hi⟩
theorem Only.below {T : Nat → Prop} {A B : World} {n : Nat} (h : Only T A B) (hn : n ≤ A.heap.size) (ht : ∀ k, T k → n ≤ k) : Below n A B :=
  ⟨h.os, h.tape, h.output, h.size, fun i hi => h.same i (by omega) (fun x => by have := ht i x; omega)⟩
theorem Only.alloc {T : Nat → Prop} {A B : World} (h : Only T A B) (o : Obj) : Only T A (B.alloc o) :=
  h.trans (Only.of_below ((Below.refl _ B).alloc (Nat.le_refl _) o))
theorem Only.setCell {T : Nat → Prop} {A B : World} (h : Only T A B) {p : Addr} (hp : T p.block) (v : Value) : Only T A (B.setCell p v) :=
  h.trans ⟨rfl, rfl, rfl, by simp [World.setCell], fun k _ ht => Below.heap_setCell _ _ _ _ (fun e => ht (e ▸ hp))⟩
theorem Only.putObj {T : Nat → Prop} {A B : World} (h : Only T A B) {l : Nat} (hp : T l) (o : Obj) : Only T A (B.putObj l o) :=
  h.trans ⟨rfl, rfl, rfl, by simp, fun k _ ht => World.putObj_heap_other (fun e => ht (e ▸ hp))⟩
theorem Only.heap {T : Nat → Prop} {A B : World} (h : Only T A B) {k : Nat} {o : Obj} (hk : A.heap[k]? = some o) (ht : ¬ T k) : B.heap[k]? = some o :=
  (h.same k (Array.getElem?_eq_some_iff.1 hk).1 ht).trans hk
def Stable {β : Type} (T : Nat → Prop) (I : β → World → Prop) : Prop := ∀ s W W', I s W → Only T W W' → I s W'
def Iter {α : Type} (P : Program) (g : Nat) (lb : Array Value) (encs : α → Array Value) (Pv Kp : Nat → Prop) (xs : List α) (w0 : World) : Prop :=
  ∀ (l : Nat) (J Jx : List α → World → Prop) (W : World), Only (fun k => ¬ Kp k) w0 W → Stable Pv J → Stable Pv Jx →
    (∀ pre x, pre ++ [x] <+: xs → ∀ W1, J pre W1 → YieldAt Fence.wide 0 P l (encs x) W1 fun e W' =>
      (e = .returned (.bool true) ∧ J (pre ++ [x]) W' ∧ Only (fun k => ¬ Kp k) W1 W') ∨ (e = .returned (.bool false) ∧ Jx (pre ++ [x]) W')) →
    J [] W →
    CallsIn Fence.wide 0 P g (#[.func (.yield l) #[] #[]] ++ lb) W fun e W' => (∃ v, e = .returned v) ∧ (J xs W' ∨ ∃ pre, pre <+: xs ∧ Jx pre W')
def roundEnd {α : Type} (T : Nat → Prop) (I : List α → World → Prop) (Ix : Code → List α → World → Prop) (xs : List α) (W : World) : Exit → Act → World → Prop
  | .normal, _, W' => Only T W W' ∧ I xs W'
  | .ret, _, W' => Only T W W' ∧ Ix .ret xs W'
  | .exit id, _, W' => Only T W W' ∧ Ix (.exit id) xs W'
  | .goto t, _, W' => Only T W W' ∧ Ix (.goto t) xs W'
  | .panic _, _, _ => False
  | .outgrown, _, _ => False
theorem wpIn_range {α : Type} {P : Program} {g : Operand} {ps : Array Tmp} {assign body : Code} {Q : Exit → Act → World → Prop} {a : Act} {w : World}
    {gf : Nat} {lb : Array Value} (hg : a.eval g = .func (.func gf) #[] lb) (eg : ∀ args w, (callFunc gf args).run P w = .ok (.enter gf args) w)
    {encs : α → Array Value} {Pv Kp : Nat → Prop} {xs : List α} {w0 : World} (hseq : Iter P gf lb encs Pv Kp xs w0) (hw0 : Only (fun k => ¬ Kp k) w0 w)
    (hK : ∀ k, Kp k → k < w.heap.size) (hPK : ∀ k, Pv k → Kp k) (hps : ∀ x, (encs x).size = ps.size)
    (T : Nat → Prop) (hT : ∀ k, T k → ¬ Kp k ∧ k ≠ w.heap.size ∧ k ≠ w.heap.size + 1)
    (I : List α → World → Prop) (Ix : Code → List α → World → Prop)
    (hI : Stable (fun k => Pv k ∨ k = w.heap.size ∨ k = w.heap.size + 1) I) (hIx : ∀ c, Stable (fun k => Pv k ∨ k = w.heap.size ∨ k = w.heap.size + 1) (Ix c)) (h0 : I [] w)
    (hround : ∀ (pre : List α) (x : α) (W : World), pre ++ [x] <+: xs → I pre W → w.heap.size + 1 < W.heap.size →
      assign.wpIn (Fence.wide.inRound (w.heap.size + 1)) 0 P (Exit.then (fun a₁ W₁ => Only T W W₁ ∧ ∀ W₂, Only (fun k => k = w.heap.size + 1) W₁ W₂ → W₂.heap.size = W₁.heap.size →
          body.wpIn (Fence.wide.inRound (w.heap.size + 1)) 0 P (roundEnd T I Ix (pre ++ [x]) W₂) a₁ W₂) (fun _ _ _ => False))
        { tmps := (ps.zip (encs x)).foldl (fun t (p, v) => t.setIfInBounds p v) a.tmps, defers := [] } W)
    (hdone : ∀ W, I xs W → W.heap[w.heap.size]? = some (.deferred (some [])) → Q .normal { a with defers := { target := .collected w.heap.size, args := #[] } :: a.defers } W)
    (hstop : ∀ (c : Code) (pre : List α) W, pre <+: xs → Ix c pre W → W.heap[w.heap.size]? = some (.deferred (some [])) → c.wpIn Fence.wide 0 P Q { a with defers := { target := .collected w.heap.size, args := #[] } :: a.defers } W) :
    (Code.rangeFunc g ps assign body).wpIn Fence.wide 0 P Q a w := by
  refine wpIn_rangeFunc ?_
  intro fn _
  obtain ⟨L, hL⟩ : ∃ L, w.heap.size + 1 = L := ⟨_, rfl⟩
  obtain ⟨D, hD⟩ : ∃ D, w.heap.size = D := ⟨_, rfl⟩
  obtain ⟨rec, hrec⟩ : ∃ rec : LoopState → Option Code → Loop, rec = fun st pe => { state := st, pending := pe, fn, tmps := a.tmps, params := ps, assign, body, defers := w.heap.size } := ⟨_, rfl⟩
  obtain ⟨W1, hW1⟩ : ∃ W1, (w.alloc (.deferred (some []))).alloc (.loop (rec .ready none)) = W1 := ⟨_, rfl⟩
  have hs1 : W1.heap.size = w.heap.size + 2 := by rw [← hW1]; simp
  have hL1 : W1.heap[L]? = some (.loop (rec .ready none)) := by
    rw [← hW1, ← hL]; have := World.alloc_heap_new (w.alloc (.deferred (some []))) (.loop (rec .ready none)); rwa [World.size_alloc] at this
  have hK1 : W1.heap[D]? = some (.deferred (some [])) := by
    rw [← hW1, ← hD]; exact (Below.heap_alloc _ _ _ (by simp)).trans (World.alloc_heap_new w _)
  have hI1 : I [] W1 := by rw [← hW1]; exact hI _ _ _ h0 (((Only.refl _ w).alloc _).alloc _)
  have hb1 : Only (fun k => ¬ Kp k) w0 W1 := by rw [← hW1]; exact (hw0.alloc _).alloc _
  have hTL : ¬ T L := fun h => (hT L h).2.2 hL.symm
  have hTD : ¬ T D := fun h => (hT D h).2.1 hD.symm
  have hKL : ¬ Kp L := fun h => by have := hK L h; omega
  have hKD : ¬ Kp D := fun h => by have := hK D h; omega
  refine ⟨L, [{ target := .collected D, args := #[] }], W1, { target := .fn (.func gf) lb, args := #[.func (.yield L) #[] #[]] }, W1, gf,
    #[.func (.yield L) #[] #[]] ++ lb, W1, ?_, ?_, ?_, ?_, fun h => by simp [Fence.wide] at h, ?_⟩
  · rw [← hW1, hrec, ← hL, ← hD]; exact run_enterLoop_outer _ _ _ _ _
  · simp only [resolve, hg]
    simp [go_sem]
  · intro f' _; trivial
  · simp [invoke, go_sem, eg]
  · rw [hL] at hround hI
    simp only [hL] at hIx
    rw [hD] at hI hdone hstop
    simp only [hD] at hIx
    refine (hseq L
      (fun pre W => I pre W ∧ W.heap[L]? = some (.loop (rec .ready none)) ∧ W.heap[D]? = some (.deferred (some [])))
      (fun pre W => ∃ c, Ix c pre W ∧ W.heap[L]? = some (.loop (rec .done (some c))) ∧ W.heap[D]? = some (.deferred (some [])))
      W1 hb1
      (fun s A B hs ho => ⟨hI _ _ _ hs.1 (ho.mono fun _ _ h => Or.inl h), ho.heap hs.2.1 (fun h => hKL (hPK _ h)), ho.heap hs.2.2 (fun h => hKD (hPK _ h))⟩)
      (fun s A B hs ho => by
        obtain ⟨c, hc, hl, hk⟩ := hs
        exact ⟨c, hIx c _ _ _ hc (ho.mono fun _ _ h => Or.inl h), ho.heap hl (fun h => hKL (hPK _ h)), ho.heap hk (fun h => hKD (hPK _ h))⟩)
      ?_ ⟨hI1, hL1, hK1⟩).mono ?_
    · rintro pre x hpx W ⟨hi, hl, hk⟩
      have hlt : L < W.heap.size := (Array.getElem?_eq_some_iff.1 hl).1
      have hy := run_yield (P := P) (args := encs x) hl (by rw [hrec]; exact hps x)
      rw [hrec] at hy
      refine ⟨fn, _, assign, body, hy, roundIn_of_wpIn trivial (wpIn_mono (hround pre x W hpx hi hlt) ?_)⟩
      rintro e a₁ W₁ hp
      cases e with
      | normal =>
        obtain ⟨ho1, hb⟩ := hp
        have hl1 : W₁.heap[L]? = some (.loop (rec .ready none)) := ho1.heap hl hTL
        have hk1 : W₁.heap[D]? = some (.deferred (some [])) := ho1.heap hk hTD
        refine ⟨_, run_beginRound hl1 (by rw [hrec]), ?_⟩
        obtain ⟨W₂, hW₂⟩ : ∃ W₂, W₁.putObj L (.loop { rec .ready none with state := .busy }) = W₂ := ⟨_, rfl⟩
        rw [hW₂]
        have ho2 : Only (fun k => k = L) W₁ W₂ := by rw [← hW₂]; exact Only.putObj (T := fun k => k = L) (Only.refl _ _) rfl _
        have hl2 : W₂.heap[L]? = some (.loop { rec .ready none with state := .busy }) := by
          rw [← hW₂]; exact World.putObj_heap_same (Array.getElem?_eq_some_iff.1 hl1).1
        have hk2 : W₂.heap[D]? = some (.deferred (some [])) := ho2.heap hk1 (by omega)
        refine wpIn_mono (hb W₂ ho2 (by rw [← hW₂]; simp)) ?_
        have fin : ∀ (jump : Option Code) (W3 : World), Only T W₂ W3 →
            (Instr.endRound L jump).run P W3 = .ok (.bool jump.isNone) (W3.putObj L (.loop (rec (if jump.isNone then .ready else .done) jump))) ∧
            (W3.putObj L (.loop (rec (if jump.isNone then .ready else .done) jump))).heap[L]? = some (.loop (rec (if jump.isNone then .ready else .done) jump)) ∧
            (W3.putObj L (.loop (rec (if jump.isNone then .ready else .done) jump))).heap[D]? = some (.deferred (some [])) ∧
            Only (fun k => Pv k ∨ k = D ∨ k = L) W3 (W3.putObj L (.loop (rec (if jump.isNone then .ready else .done) jump))) ∧
            Only (fun k => ¬ Kp k) W (W3.putObj L (.loop (rec (if jump.isNone then .ready else .done) jump))) := fun jump W3 hk3 => by
          have hl3 := hk3.heap hl2 hTL
          have := run_endRound (P := P) jump hl3
          rw [hrec] at this ⊢
          refine ⟨this, World.putObj_heap_same (Array.getElem?_eq_some_iff.1 hl3).1, (World.putObj_heap_other (by omega)).trans (hk3.heap hk2 hTD), (Only.refl _ _).putObj (Or.inr (Or.inr rfl)) _, ?_⟩
          refine Only.putObj ?_ hKL _
          exact ((ho1.mono fun k _ h => (hT k h).1).trans (ho2.mono fun k _ h => by rw [h]; exact hKL)).trans (hk3.mono fun k _ h => (hT k h).1)
        rintro e a3 W3 hp
        cases e with
        | normal =>
          obtain ⟨hk3, hi3⟩ := hp
          obtain ⟨hr, hl4, hk4, hp4, ho4⟩ := fin none W3 hk3
          exact ⟨_, _, hr, .inl ⟨rfl, ⟨hI _ _ _ hi3 hp4, hl4, hk4⟩, ho4⟩⟩
        | ret =>
          obtain ⟨hk3, hi3⟩ := hp
          obtain ⟨hr, hl4, hk4, hp4, _⟩ := fin (some .ret) W3 hk3
          exact ⟨_, _, hr, .inr ⟨rfl, .ret, hIx _ _ _ _ hi3 hp4, hl4, hk4⟩⟩
        | exit id =>
          obtain ⟨hk3, hi3⟩ := hp
          obtain ⟨hr, hl4, hk4, hp4, _⟩ := fin (some (.exit id)) W3 hk3
          exact ⟨_, _, hr, .inr ⟨rfl, .exit id, hIx _ _ _ _ hi3 hp4, hl4, hk4⟩⟩
        | goto t =>
          obtain ⟨hk3, hi3⟩ := hp
          obtain ⟨hr, hl4, hk4, hp4, _⟩ := fin (some (.goto t)) W3 hk3
          exact ⟨_, _, hr, .inr ⟨rfl, .goto t, hIx _ _ _ _ hi3 hp4, hl4, hk4⟩⟩
        | panic ch => exact hp.elim
        | outgrown => exact hp.elim
      | exit id => exact hp.elim
      | goto t => exact hp.elim
      | ret => exact hp.elim
      | panic ch => exact hp.elim
      | outgrown => exact hp.elim
    · rintro e W2 ⟨⟨v, rfl⟩, (⟨hi, hl, hk⟩ | ⟨pre, hpre, c, hi, hl, hk⟩)⟩
      · exact ⟨none, _, by have := run_endLoop (P := P) hl (by rw [hrec]; simp); rw [hrec] at this; exact this, hdone _ (hI _ _ _ hi ((Only.refl _ _).putObj (Or.inr (Or.inr rfl)) _)) ((World.putObj_heap_other (by omega)).trans hk)⟩
      · exact ⟨some c, _, by have := run_endLoop (P := P) hl (by rw [hrec]; simp); rw [hrec] at this; exact this, hstop c pre _ hpre (hIx c _ _ _ hi ((Only.refl _ _).putObj (Or.inr (Or.inr rfl)) _)) ((World.putObj_heap_other (by omega)).trans hk)⟩
end Go.Proofs.YtpamdlnobekihaaS
namespace Go.Proofs.YtpamdlnobekihaaF
open Go Go.Proofs.YtpamdlnobekihaaS
def No : Nat → Prop := fun _ => False
def Or1 (b : Nat) (X : Nat → Prop) : Nat → Prop := fun k => k = b ∨ X k
def Old (n : Nat) : Nat → Prop := fun k => k < n
def Is1 (b : Nat) : Nat → Prop := fun k => k = b
theorem No.any {A B : World} {T : Nat → Prop} (h : Only No A B) : Only T A B := h.mono fun _ _ x => x.elim
def Ps (X : Nat → Prop) (p : World → Prop) (w : World) : Prop :=
 ∀ w', (∀ k, k < w.heap.size → ¬ X k → w'.heap[k]? = w.heap[k]?) → p w'
section
variable {X Y T : Nat → Prop} {p q : World → Prop} {w w' : World} {b n : Nat}
theorem Ps.now (h : Ps X p w) : p w := h w fun _ _ _ => rfl
theorem Ps.imp (h : Ps X p w) (hi : ∀ w, p w → q w) : Ps X q w := fun w' hw => hi _ (h w' hw)
theorem Ps.step (h : Ps X p w) (hO : Only T w w') (hT : ∀ k, T k → X k) : Ps X p w' := fun w'' h2 =>
 h w'' fun k hk hx => (h2 k (Nat.lt_of_lt_of_le hk hO.size) hx).trans (hO.same k hk fun t => hx (hT k t))
theorem Ps.step0 (h : Ps X p w) (hO : Only No w w') : Ps X p w' := h.step hO fun _ x => x.elim
theorem Ps.less (h : Ps X p w) (hY : ∀ k, k < w.heap.size → Y k → X k) : Ps Y p w := fun w' h2 => h w' fun k hk hx => h2 k hk fun y => hx (hY k hk y)
theorem Ps.no (h : Ps X p w) : Ps No p w := h.less fun _ _ x => x.elim
theorem Ps.new (h : Ps X p w) (hO : Only No w w') (hb : w.heap.size ≤ b) : Ps (Or1 b X) p w' := fun w'' h2 =>
 h w'' fun k hk hx => (h2 k (Nat.lt_of_lt_of_le hk hO.size) (fun t => t.elim (fun e => by omega) hx)).trans (hO.same k hk fun t => t.elim)
theorem Ps.and (h : Ps X p w) (h' : Ps X q w) : Ps X (fun w => p w ∧ q w) w := fun w' hw => ⟨h w' hw, h' w' hw⟩
theorem Ps.mk0 (h : ∀ w, p w) : Ps X p w := fun w' _ => h w'
end
abbrev Wf (r : Option Nat) : Fence := { fn := fun _ => True, depth := none, alive := false, round := r }
abbrev CW (P : Program) (f : FuncId) (args : Array Value) (w : World) (R : Ending → World → Prop) : Prop := CallsIn Fence.wide 0 P f args w R
def Rt (R : Value → World → Prop) : Ending → World → Prop := fun e w' => ∃ u, e = .returned u ∧ R u w'
def Does (P : Program) (o : Oper) (ρ : Operand → Value) (w : World) (R : Value → World → Prop) : Prop :=
 (∀ c, o.op ≠ .defer c) ∧ match (execOp ρ o).run P w with
 | .ok (.value u) w' => R u w'
 | .ok .skip w' => R undef w'
 | .ok (.enter f args) w' => CW P f args w' (Rt R)
 | .ok (.round l f tmps assign body) w' => RoundIn Fence.wide 0 P l f tmps assign body w' (Rt R)
 | _ => False
section
variable {r : Option Nat} {P : Program} {o : Oper} {a : Act} {w : World} {R : Value → World → Prop} {K : Act → World → Prop} {Q : Exit → Act → World → Prop}
theorem Does.wp (h : Does P o a.eval w R) (hk : ∀ u w', R u w' → K (a.put o.dst u) w') : o.wpIn (Wf r) 0 P a w K Q := by
 obtain ⟨hd, h⟩ := h
 refine ⟨fun _ _ => trivial, ?_⟩
 rw [Oper.semAt_plain _ _ _ hd]
 generalize (execOp a.eval o).run P w = x at h
 cases x with
 | ok n w' =>
  cases n <;> simp only [Oper.uponIn] at h ⊢ <;> first
   | exact hk _ _ h
   | exact h.elim
   | exact ⟨fun h => by simp at h, CallsIn.mono (F := Fence.wide) h (fun e w'' ⟨u, he, hu⟩ => by subst he; exact hk _ _ hu)⟩
   | exact ⟨fun h => by simp at h, RoundIn.mono (F := Fence.wide) h (fun e w'' ⟨u, he, hu⟩ => by subst he; exact hk _ _ hu)⟩
 | halt x w' => exact h.elim
theorem Does.mono {ρ : Operand → Value} {R' : Value → World → Prop} (h : Does P o ρ w R) (hr : ∀ u w', R u w' → R' u w') : Does P o ρ w R' := by
 obtain ⟨hd, h⟩ := h
 refine ⟨hd, ?_⟩
 generalize (execOp ρ o).run P w = x at h
 cases x with
 | ok n w' =>
  cases n <;> first
   | exact hr _ _ h
   | exact h.elim
   | exact CallsIn.mono (F := Fence.wide) h (fun e w'' ⟨u, he, hu⟩ => ⟨u, he, hr _ _ hu⟩)
   | exact RoundIn.mono (F := Fence.wide) h (fun e w'' ⟨u, he, hu⟩ => ⟨u, he, hr _ _ hu⟩)
 | halt x w' => exact h.elim
end
def nth : List Value → Nat → Value
 | [], _ => undef
 | v :: _, 0 => v
 | _ :: l, n + 1 => nth l n
def lset : List Value → Nat → Value → List Value
 | [], _, _ => []
 | _ :: l, 0, v => v :: l
 | x :: l, n + 1, v => x :: lset l n v
def lput (l : List Value) : Option Tmp → Value → List Value
 | none, _ => l
 | some d, v => lset l d v
def fr (l : List Value) (ds : List Deferred) : Act := { tmps := l.toArray, defers := ds }
def ev (l : List Value) : Operand → Value
 | .tmp t => nth l t
 | .const v => v
 | .global g => .pointer (some ⟨g, 0, none⟩)
 | .func f => .func (.func f) #[] #[]
theorem nth_eq : ∀ (l : List Value) (t : Nat), nth l t = l.getD t undef
 | [], _ => rfl
 | _ :: _, 0 => rfl
 | _ :: l, n + 1 => by simp [nth, nth_eq l n]
theorem lset_eq : ∀ (l : List Value) (t : Nat) (v : Value), lset l t v = l.set t v
 | [], _, _ => rfl
 | _ :: _, 0, _ => rfl
 | _ :: l, n + 1, v => by simp [lset, lset_eq l n v]
theorem fr_eval (l : List Value) (ds : List Deferred) : (fr l ds).eval = ev l := by
 funext x
 cases x with
 | tmp t => simp [Act.eval, ev, fr, nth_eq]
 | _ => rfl
theorem fr_put (l : List Value) (ds : List Deferred) (d : Option Tmp) (v : Value) : (fr l ds).put d v = fr (lput l d v) ds := by
 cases d with
 | none => rfl
 | some d => simp [Act.put, fr, lput, lset_eq]
theorem fr_tmps (l : List Value) (ds : List Deferred) : (fr l ds).tmps = l.toArray := rfl
section
variable {r : Option Nat} {P : Program} {ops : Array Oper} {Q : Exit → Act → World → Prop} {l : List Value} {ds : List Deferred} {w : World} {o : Oper} {rest : List Oper}
def wpL (r : Option Nat) (P : Program) (ops : Array Oper) (Q : Exit → Act → World → Prop) (os : List Oper) (l : List Value) (ds : List Deferred) (w : World) : Prop :=
 wpListIn (Wf r) 0 P ops Q os (fr l ds) w
theorem plain {id : Nat} {os : List Oper} (h : wpL r P os.toArray Q os l ds w) : (Code.region id os.toArray false).wpIn (Wf r) 0 P Q (fr l ds) w := wpIn_region_lit h
theorem wpL.op {R : Value → World → Prop} (hg : o.guard = none) (h : Does P o (ev l) w R) (hk : ∀ u w', R u w' → wpL r P ops Q rest (lput l o.dst u) ds w') : wpL r P ops Q (o :: rest) l ds w := by
 have hw : Region.wanted o (yielded ops (fr l ds).tmps) = true := by simp [Region.wanted, hg]
 unfold wpL
 simp only [wpListIn, hw, if_true]
 refine Does.wp (R := R) (by rw [fr_eval]; exact h) (fun u w' hu => ?_)
 rw [fr_put]
 exact hk u w' hu
theorem wpL.on {R : Value → World → Prop} {g : Nat} {u : Bool} {og : Oper} {t : Tmp} (hg : o.guard = some (g, u)) (ho : ops[g]? = some og) (hd : og.dst = some t) (hl : t < l.length) (hv : nth l t = .bool u)
  (h : Does P o (ev l) w R) (hk : ∀ u w', R u w' → wpL r P ops Q rest (lput l o.dst u) ds w') : wpL r P ops Q (o :: rest) l ds w := by
 have hv' : l[t]? = some (.bool u) := by rw [nth_eq, List.getD_eq_getElem?_getD, List.getElem?_eq_getElem hl, Option.getD_some] at hv; rw [List.getElem?_eq_getElem hl, hv]
 have hw : Region.wanted o (yielded ops (fr l ds).tmps) = true := by simp [Region.wanted, hg, yielded, ho, hd, fr, hv']
 unfold wpL
 simp only [wpListIn, hw, if_true]
 refine Does.wp (R := R) (by rw [fr_eval]; exact h) (fun u w' hu => ?_)
 rw [fr_put]
 exact hk u w' hu
theorem wpL.off {g : Nat} {u : Bool} {og : Oper} {t : Tmp} (hg : o.guard = some (g, u)) (ho : ops[g]? = some og) (hd : og.dst = some t) (hl : t < l.length) (hv : nth l t = .bool (!u))
  (hk : wpL r P ops Q rest (lput l o.dst undef) ds w) : wpL r P ops Q (o :: rest) l ds w := by
 have hv' : l[t]? = some (.bool (!u)) := by rw [nth_eq, List.getD_eq_getElem?_getD, List.getElem?_eq_getElem hl, Option.getD_some] at hv; rw [List.getElem?_eq_getElem hl, hv]
 have hw : Region.wanted o (yielded ops (fr l ds).tmps) = false := by cases u <;> simp [Region.wanted, hg, yielded, ho, hd, fr, hv']
 unfold wpL
 simp only [wpListIn, hw]
 rw [fr_put]
 exact ⟨fun _ _ => trivial, hk⟩
end
end Go.Proofs.YtpamdlnobekihaaF
namespace Go.Proofs.YtpamdlnobekihaaF
open Go Go.Proofs.YtpamdlnobekihaaS
structure RF (O : Nat → Prop) where
 p : (Nat → Value) → Value → Nat → Nat → World → Prop
 s0 : ∀ {v u lo hi w w'}, p v u lo hi w → Only No w w' → p v u lo hi w'
 sens : Bool
 st : sens = false → ∀ {v u lo hi w w'}, p v u lo hi w → Only O w w' → p v u lo hi w'
def RF.mk2 {O : Nat → Prop} (p : (Nat → Value) → Value → Nat → Nat → World → Prop) (st : ∀ {v u lo hi w w'}, p v u lo hi w → Only O w w' → p v u lo hi w') : RF O := ⟨p, fun h ho => st h (No.any ho), false, fun _ => st⟩
def RF.is (O : Nat → Prop) (x : Value) : RF O := RF.mk2 (fun _ u _ _ _ => u = x) (fun h _ => h)
def RF.any (O : Nat → Prop) : RF O := RF.mk2 (fun _ _ _ _ _ => True) (fun _ _ => trivial)
def RF.of (O : Nat → Prop) (x : (Nat → Value) → Value) : RF O := RF.mk2 (fun v u _ _ _ => u = x v) (fun h _ => h)
def RF.ps (O X : Nat → Prop) (q : Value → World → Prop) (h : ∀ k, O k → X k) : RF O := RF.mk2 (fun _ u _ _ w => Ps X (q u) w) (fun hp ho => hp.step ho h)
def RF.pr (O : Nat → Prop) (q : Value → Prop) : RF O := RF.mk2 (fun _ u _ _ _ => q u) (fun h _ => h)
def bit (B : List Nat) (i j : Nat) : Bool := (B.getD i 0).testBit j
def rs (B : List Nat) (i : Nat) (v : Nat → Value) : Nat → Value := fun j => if bit B i j then v j else undef
def fillL (l : List Value) : List (Nat × Tmp) → (Nat → Value) → List Value
 | [], _ => l
 | e :: r, v => fillL (lset l e.2 (v e.1)) r v
def sel (DL : List (Nat × Tmp)) (b : Nat → Bool) (v : Nat → Value) (l : List Value) (t : Tmp) : Value :=
 match DL.find? (fun e => e.2 == t) with
 | some e => if b e.1 then v e.1 else nth l t
 | none => nth l t
theorem nth_lset : ∀ (l : List Value) (d t : Nat) (x : Value), d < l.length → nth (lset l d x) t = if t = d then x else nth l t
 | [], _, _, _, h => by simp at h
 | _ :: _, 0, 0, _, _ => rfl
 | _ :: _, 0, t + 1, _, _ => by simp [lset, nth]
 | _ :: _, d + 1, 0, _, _ => by simp [lset, nth]
 | _ :: l, d + 1, t + 1, x, h => by
  have := nth_lset l d t x (by simpa using h)
  simp only [lset, nth, this, Nat.succ_eq_add_one, Nat.add_right_cancel_iff]
theorem lset_length : ∀ (l : List Value) (d : Nat) (x : Value), (lset l d x).length = l.length
 | [], _, _ => rfl
 | _ :: _, 0, _ => rfl
 | _ :: l, d + 1, x => by simp [lset, lset_length l d x]
theorem nth_ext : ∀ {l l' : List Value}, l.length = l'.length → (∀ t, nth l t = nth l' t) → l = l'
 | [], [], _, _ => rfl
 | [], _ :: _, h, _ => by simp at h
 | _ :: _, [], h, _ => by simp at h
 | x :: l, y :: l', h, ht => by
  have h0 := ht 0
  simp only [nth] at h0
  have h1 : l = l' := nth_ext (by simpa using h) (fun t => by simpa [nth] using ht (t + 1))
  rw [h0, h1]
theorem fillL_length : ∀ (DL : List (Nat × Tmp)) (l : List Value) (v : Nat → Value), (fillL l DL v).length = l.length
 | [], _, _ => rfl
 | e :: r, l, v => by rw [fillL, fillL_length r, lset_length]
theorem nth_fillL : ∀ (DL : List (Nat × Tmp)) (l : List Value) (v : Nat → Value) (t : Tmp), (∀ e ∈ DL, e.2 < l.length) → (DL.map (·.2)).Nodup → nth (fillL l DL v) t = sel DL (fun _ => true) v l t
 | [], _, _, _, _, _ => rfl
 | e :: r, l, v, t, hl, hn => by
  simp only [List.map_cons, List.nodup_cons] at hn
  rw [fillL, nth_fillL r _ v t (fun e' he' => by rw [lset_length]; exact hl e' (List.mem_cons_of_mem _ he')) hn.2]
  have h0 := nth_lset l e.2 t (v e.1) (hl e List.mem_cons_self)
  unfold sel
  rw [List.find?_cons]
  by_cases het : e.2 = t
  ·subst het
   have : r.find? (fun e' => e'.2 == e.2) = none := by
    rw [List.find?_eq_none]
    intro x hx hxe
    exact hn.1 (by have := beq_iff_eq.1 hxe; rw [← this]; exact List.mem_map_of_mem hx)
   rw [this, h0]
   simp
  ·have hb : (e.2 == t) = false := by simpa using het
   rw [hb, h0, if_neg (Ne.symm het)]
def bOk (ops : Array Oper) (B : List Nat) (DL : List (Nat × Tmp)) (Ms : List Nat) : Bool :=
 ((List.range ops.size).all fun i => match ops[i]? with
  | some o =>
   (o.after.toList.all fun e => !Region.binds .any e || decide (e.on < i)) &&
   ((List.range ops.size).all fun j => !bit B i j || (o.after.toList.any fun e => Region.binds .any e && (e.on == j || bit B e.on j))) &&
   ((o.looksAt ops).all fun t => DL.all fun e => !(e.2 == t) || (bit B i e.1 || bit B e.1 i)) &&
   (match o.dst with | some d => DL.contains (i, d) | none => DL.all fun e => !(e.1 == i)) &&
   (match o.op with | .select .. => false | _ => true) && decide (B.getD i 0 < 2 ^ ops.size)
  | none => false) &&
 (DL.all fun e => decide (e.1 < ops.size)) && decide (DL.map (·.1)).Nodup && decide (DL.map (·.2)).Nodup &&
 ((List.range Ms.length).all fun t => decide (Ms.getD t 0 < ops.size) && (List.range t).all fun s => bit B (Ms.getD t 0) (Ms.getD s 0)) && decide Ms.Nodup
def GDoes (P : Program) (ops : Array Oper) (o : Oper) (l : List Value) (w : World) (R : Value → World → Prop) : Prop :=
 if Region.wanted o (yielded ops l.toArray) = true then Does P o (ev l) w R else R undef w
section
variable {P : Program} {ops : Array Oper} {o : Oper} {l : List Value} {w : World} {R : Value → World → Prop}
theorem gd (hg : o.guard = none) (h : Does P o (ev l) w R) : GDoes P ops o l w R := by
 unfold GDoes
 rw [if_pos (by simp [Region.wanted, hg])]; exact h
theorem yielded_at {g : Nat} {og : Oper} {t : Tmp} {x : Value} (ho : ops[g]? = some og) (hd : og.dst = some t) (hl : t < l.length) (hv : nth l t = x) : yielded ops l.toArray g = (fun y : Value => match y with | .bool b => some b | _ => none) x := by
 have hv' : l[t]? = some x := by rw [nth_eq, List.getD_eq_getElem?_getD, List.getElem?_eq_getElem hl, Option.getD_some] at hv; rw [List.getElem?_eq_getElem hl, hv]
 simp only [yielded, ho, hd, Option.bind_some, List.getElem?_toArray, hv']
 cases x <;> rfl
theorem gd_on {g : Nat} {u : Bool} {og : Oper} {t : Tmp} (hg : o.guard = some (g, u)) (ho : ops[g]? = some og) (hd : og.dst = some t) (hl : t < l.length) (hv : nth l t = .bool u) (h : Does P o (ev l) w R) : GDoes P ops o l w R := by
 unfold GDoes
 rw [if_pos (by simp [Region.wanted, hg, yielded_at ho hd hl hv])]; exact h
theorem gd_off {g : Nat} {u : Bool} {og : Oper} {t : Tmp} (hg : o.guard = some (g, u)) (ho : ops[g]? = some og) (hd : og.dst = some t) (hl : t < l.length) (hv : nth l t = .bool (!u)) (h : R undef w) : GDoes P ops o l w R := by
 unfold GDoes
 rw [if_neg (by cases u <;> simp [Region.wanted, hg, yielded_at ho hd hl hv])]; exact h
end
def nthO : List Oper → Nat → Option Oper
 | [], _ => none
 | o :: _, 0 => some o
 | _ :: l, n + 1 => nthO l n
theorem nthO_eq : ∀ (l : List Oper) (n : Nat), nthO l n = l[n]?
 | [], _ => by simp [nthO]
 | _ :: _, 0 => rfl
 | _ :: l, n + 1 => by simp [nthO, nthO_eq l n]
theorem nthO_ops {ops : Array Oper} {i : Nat} {o : Oper} (h : nthO ops.toList i = some o) : ops[i]? = some o := by
 rw [nthO_eq, Array.getElem?_toList] at h; exact h
def Ivs (b : Nat → Prop) (lo hi : Nat → Nat) (w0 w : World) : Prop :=
 (∀ j, b j → w0.heap.size ≤ lo j ∧ lo j ≤ hi j ∧ hi j ≤ w.heap.size) ∧ ∀ i j, b i → b j → i ≠ j → hi i ≤ lo j ∨ hi j ≤ lo i
section
variable {r : Option Nat} {P : Program} {ops : Array Oper} {Q : Exit → Act → World → Prop} {O : Nat → Prop}
def LStep (P : Program) (ops : Array Oper) (O : Nat → Prop) (DL : List (Nat × Tmp)) (l : List Value) (lv : (Nat → Value) → List Value) (w0 : World) (n : Nat) (B : List Nat) (Ms : List Nat) (Φ : Nat → RF O) (Rs : Nat → World → Prop) (i : Nat) : Prop :=
 ∀ (v : Nat → Value) (lo hi : Nat → Nat) (w : World) (k : Nat), Only O w0 w → (∀ j, bit B i j = true → (Φ j).p (rs B j v) (v j) (lo j) (hi j) w) → Ivs (fun j => bit B i j = true) lo hi w0 w →
  (∀ t, t < Ms.length → bit B i (Ms.getD t 0) = true → t < k) → (∀ t, t < Ms.length → bit B (Ms.getD t 0) i = true → k ≤ t) → k ≤ Ms.length → Rs k w → (∀ e ∈ DL, bit B e.1 i = true → v e.1 = nth l e.2) →
  ∃ o, nthO ops.toList i = some o ∧ GDoes P ops o (lv v) w fun u w' => (Φ i).p (rs B i v) u w.heap.size w'.heap.size w' ∧ Only No w w'
def MSens (Φ : Nat → RF O) (n : Nat) (B : List Nat) (i : Nat) : Bool := (List.range n).all fun j => !(Φ j).sens || (j == i || bit B j i)
theorem msens {Φ : Nat → RF O} {n i j : Nat} {B : List Nat} (h : MSens Φ n B i = true) (hj : j < n) (hs : (Φ j).sens = true) : j = i ∨ bit B j i = true := by
 have h1 := List.all_eq_true.1 h j (List.mem_range.2 hj)
 rw [hs, Bool.not_true, Bool.false_or, Bool.or_eq_true] at h1
 exact h1.imp (fun t => by simpa using t) id
def MStep (P : Program) (ops : Array Oper) (O : Nat → Prop) (DL : List (Nat × Tmp)) (l : List Value) (lv : (Nat → Value) → List Value) (w0 : World) (n : Nat) (B : List Nat) (Φ : Nat → RF O) (Rs : Nat → World → Prop) (t i : Nat) : Prop :=
 MSens Φ n B i = true ∧ ∀ (v : Nat → Value) (lo hi : Nat → Nat) (w : World), Only O w0 w → (∀ j, bit B i j = true → (Φ j).p (rs B j v) (v j) (lo j) (hi j) w) → Ivs (fun j => bit B i j = true) lo hi w0 w → Rs t w → (∀ e ∈ DL, bit B e.1 i = true → v e.1 = nth l e.2) →
  ∃ o, nthO ops.toList i = some o ∧ GDoes P ops o (lv v) w fun u w' => (Φ i).p (rs B i v) u w.heap.size w'.heap.size w' ∧ Rs (t + 1) w' ∧ Only O w w'
structure Inv (O : Nat → Prop) (l : List Value) (ds : List Deferred) (w0 : World) (n : Nat) (B : List Nat) (DL : List (Nat × Tmp)) (Ms : List Nat) (Φ : Nat → RF O) (Rs : Nat → World → Prop) (b : Nat → Bool) (a' : Act) (w : World) : Prop where
 out : ∃ (v : Nat → Value) (lo hi : Nat → Nat) (k : Nat) (l' : List Value), a' = fr l' ds ∧ l'.length = l.length ∧ (∀ t, nth l' t = sel DL b v l t) ∧ Only O w0 w ∧
  (∀ j, j < n → b j = true → (Φ j).p (rs B j v) (v j) (lo j) (hi j) w) ∧ Ivs (fun j => b j = true) lo hi w0 w ∧ k ≤ Ms.length ∧ (∀ t, t < Ms.length → (b (Ms.getD t 0) = true ↔ t < k)) ∧ Rs k w
 closed : ∀ i, b i = true → ∀ j, bit B i j = true → b j = true
theorem bOk_parts {B : List Nat} {DL : List (Nat × Tmp)} {Ms : List Nat} (h : bOk ops B DL Ms = true) :
  (∀ i o, ops[i]? = some o → (∀ e ∈ o.after, Region.binds .any e = true → e.on < i) ∧ (∀ j, j < ops.size → bit B i j = true → ∃ e ∈ o.after, Region.binds .any e = true ∧ (e.on = j ∨ bit B e.on j = true)) ∧
   (∀ t ∈ o.looksAt ops, ∀ e ∈ DL, e.2 = t → (bit B i e.1 || bit B e.1 i) = true) ∧ (∀ d, o.dst = some d → (i, d) ∈ DL) ∧ (o.dst = none → ∀ e ∈ DL, e.1 ≠ i) ∧ (∀ cs c, o.op ≠ .select cs c) ∧ (∀ j, bit B i j = true → j < ops.size)) ∧
  (∀ e ∈ DL, e.1 < ops.size) ∧ (DL.map (·.1)).Nodup ∧ (DL.map (·.2)).Nodup ∧ (∀ t, t < Ms.length → Ms.getD t 0 < ops.size ∧ ∀ s, s < t → bit B (Ms.getD t 0) (Ms.getD s 0) = true) ∧ Ms.Nodup := by
 simp only [bOk, Bool.and_eq_true, decide_eq_true_eq] at h
 obtain ⟨⟨⟨⟨⟨h1, h2⟩, h3⟩, h4⟩, h5⟩, h6⟩ := h
 refine ⟨fun i o ho => ?_, fun e he => by simpa using List.all_eq_true.1 h2 e he, h3, h4, fun t ht => ?_, h6⟩
 ·have hi : i < ops.size := (Array.getElem?_eq_some_iff.1 ho).1
  have := List.all_eq_true.1 h1 i (List.mem_range.2 hi)
  rw [ho] at this
  simp only [Bool.and_eq_true] at this
  obtain ⟨⟨⟨⟨⟨a1, a2⟩, a3⟩, a4⟩, a5⟩, a6⟩ := this
  refine ⟨fun e he hb => ?_, fun j hj hb => ?_, fun t ht e he het => ?_, fun d hd => ?_, fun hd e he => ?_, fun cs c hc => ?_, fun j hj => ?_⟩
  ·have := List.all_eq_true.1 a1 e (by simpa using he)
   simpa [hb] using this
  ·have := List.all_eq_true.1 a2 j (List.mem_range.2 hj)
   rw [hb] at this
   simp only [Bool.not_true, Bool.false_or, List.any_eq_true, Bool.and_eq_true, Bool.or_eq_true, beq_iff_eq] at this
   obtain ⟨e, he, hbe, hor⟩ := this
   exact ⟨e, by simpa using he, hbe, hor⟩
  ·have := List.all_eq_true.1 (List.all_eq_true.1 a3 t ht) e he
   simpa [het] using this
  ·rw [hd] at a4; exact List.contains_iff_mem.1 a4
  ·rw [hd] at a4; simpa using List.all_eq_true.1 a4 e he
  ·rw [hc] at a5; cases a5
  ·rcases Nat.lt_or_ge j ops.size with h | h
   ·exact h
   ·have h2 : B.getD i 0 < 2 ^ j := Nat.lt_of_lt_of_le (of_decide_eq_true a6) (Nat.pow_le_pow_right (by decide) h)
    unfold bit at hj
    rw [Nat.testBit_lt_two_pow h2] at hj
    cases hj
 ·have := List.all_eq_true.1 h5 t (List.mem_range.2 ht)
  simp only [Bool.and_eq_true, decide_eq_true_eq] at this
  exact ⟨this.1, fun s hs => List.all_eq_true.1 this.2 s (List.mem_range.2 hs)⟩
def up (b : Nat → Bool) (i : Nat) : Nat → Bool := fun j => if j = i then true else b j
def upv {α : Type} (v : Nat → α) (i : Nat) (u : α) : Nat → α := fun j => if j = i then u else v j
theorem find_at {DL : List (Nat × Tmp)} {i d : Nat} (h2 : (DL.map (·.2)).Nodup) (hm : (i, d) ∈ DL) : DL.find? (fun e => e.2 == d) = some (i, d) := by
 induction DL with
 | nil => cases hm
 | cons x r ih =>
  simp only [List.map_cons, List.nodup_cons] at h2
  rw [List.find?_cons]
  rcases List.mem_cons.1 hm with rfl | hm
  ·simp
  ·have : (x.2 == d) = false := by
    rw [beq_eq_false_iff_ne]
    intro e
    exact h2.1 (by rw [e]; exact List.mem_map_of_mem (f := (·.2)) hm)
   rw [this]
   exact ih h2.2 hm
theorem fst_at {DL : List (Nat × Tmp)} {e e' : Nat × Tmp} (h1 : (DL.map (·.1)).Nodup) (hm : e ∈ DL) (hm' : e' ∈ DL) (h : e.1 = e'.1) : e = e' := by
 induction DL with
 | nil => cases hm
 | cons x r ih =>
  simp only [List.map_cons, List.nodup_cons] at h1
  rcases List.mem_cons.1 hm with hx | hm2
  ·rcases List.mem_cons.1 hm' with hx' | hm2'
   ·rw [hx, hx']
   ·exact absurd (by rw [← hx, h]; exact List.mem_map_of_mem (f := (·.1)) hm2') h1.1
  ·rcases List.mem_cons.1 hm' with hx' | hm2'
   ·exact absurd (by rw [← hx', ← h]; exact List.mem_map_of_mem (f := (·.1)) hm2) h1.1
   ·exact ih h1.2 hm2 hm2'
theorem nodup_at : ∀ {L : List Nat} {i j : Nat} (_ : L.Nodup) (hi : i < L.length) (hj : j < L.length), L[i] = L[j] → i = j
 | [], _, _, _, hi, _, _ => by simp at hi
 | _ :: _, 0, 0, _, _, _, _ => rfl
 | x :: L, 0, j + 1, hn, _, hj, h => by
  rw [List.nodup_cons] at hn
  simp only [List.getElem_cons_zero, List.getElem_cons_succ] at h
  exact absurd (by rw [h]; exact List.getElem_mem _) hn.1
 | x :: L, i + 1, 0, hn, hi, _, h => by
  rw [List.nodup_cons] at hn
  simp only [List.getElem_cons_zero, List.getElem_cons_succ] at h
  exact absurd (by rw [← h]; exact List.getElem_mem _) hn.1
 | x :: L, i + 1, j + 1, hn, hi, hj, h => by
  rw [List.nodup_cons] at hn
  simp only [List.getElem_cons_succ] at h
  rw [nodup_at hn.2 (by simpa using hi) (by simpa using hj) h]
theorem count_up {b : Nat → Bool} {i : Nat} (hb : b i = false) : ∀ {O : List Nat}, O.Nodup → i ∈ O → (O.filter fun j => !up b i j).length + 1 = (O.filter fun j => !b j).length
 | [], _, hi => by cases hi
 | x :: r, hn, hi => by
  rw [List.nodup_cons] at hn
  rcases List.mem_cons.1 hi with rfl | hi
  ·have h1 : (r.filter fun j => !up b i j) = r.filter fun j => !b j := by
    refine List.filter_congr (fun j hj => ?_)
    have : j ≠ i := fun e => hn.1 (e ▸ hj)
    simp [up, this]
   rw [List.filter_cons, List.filter_cons]
   simp [up, hb, ← h1]
  ·have hxi : x ≠ i := fun e => hn.1 (e ▸ hi)
   have h1 := count_up hb hn.2 hi
   rw [List.filter_cons, List.filter_cons]
   have : up b i x = b x := by simp [up, hxi]
   rw [this]
   cases hbx : b x
   ·simp only [Bool.not_false, if_true, List.length_cons]; omega
   ·simpa using h1
theorem list_up {b : Nat → Bool} {n i : Nat} : ((List.range n).map b).toArray.setIfInBounds i true = ((List.range n).map (up b i)).toArray := by
 apply Array.ext'
 rw [Array.toList_setIfInBounds]
 apply List.ext_getElem?
 intro j
 rw [List.getElem?_set]
 simp only [List.getElem?_map, List.length_map, List.length_range]
 by_cases hij : i = j
 ·subst hij
  by_cases hi : i < n
  ·simp [hi, up]
  ·simp [hi, List.getElem?_eq_none]
 ·simp only [hij, if_false]
  by_cases hj : j < n
  ·simp [hj, up, Ne.symm hij]
  ·simp [hj, List.getElem?_eq_none]
section
variable {l : List Value} {ds : List Deferred} {w0 : World} {n : Nat} {B : List Nat} {DL : List (Nat × Tmp)} {Ms : List Nat} {Φ : Nat → RF O} {Rs : Nat → World → Prop}
theorem inv_up {b : Nat → Bool} {i k' : Nat} {v : Nat → Value} {lo hi : Nat → Nat} {l' : List Value} {w w' : World} {u : Value} {o : Oper}
  (hB : bOk ops B DL Ms = true) (hn : ops.size = n) (hDl : ∀ e ∈ DL, e.2 < l.length) (ho : ops[i]? = some o) (hbi : b i = false)
  (hlen : l'.length = l.length) (hl' : ∀ t, nth l' t = sel DL b v l t) (hO : Only O w0 w) (hΦ : ∀ j, j < n → b j = true → (Φ j).p (rs B j v) (v j) (lo j) (hi j) w)
  (hIv : Ivs (fun j => b j = true) lo hi w0 w) (hcl : ∀ i, b i = true → ∀ j, bit B i j = true → b j = true) (hpre : ∀ j, bit B i j = true → b j = true)
  (hu : (Φ i).p (rs B i v) u w.heap.size w'.heap.size w') (hw : Only O w w') (hse : ∀ j, j < n → b j = true → (Φ j).sens = true → Only No w w') (hk : k' ≤ Ms.length) (hms : ∀ t, t < Ms.length → (up b i (Ms.getD t 0) = true ↔ t < k')) (hr : Rs k' w') :
  Inv O l ds w0 n B DL Ms Φ Rs (up b i) (fr (lput l' o.dst u) ds) w' := by
 obtain ⟨hops, hlt, hnd1, hnd2, hMs, hMn⟩ := bOk_parts hB
 obtain ⟨e1, e2, e3, e4, e5, e6, e7⟩ := hops i o ho
 have hii : bit B i i = false := by
  cases h : bit B i i with
  | false => rfl
  | true => have := hpre i h; rw [hbi] at this; cases this
 have hrs : ∀ j, (j = i ∨ b j = true) → rs B j (upv v i u) = rs B j v := by
  intro j hj
  funext m
  unfold rs
  split
  ·rename_i hm
   have : m ≠ i := by
    rintro rfl
    rcases hj with rfl | hj
    ·rw [hii] at hm; cases hm
    ·have := hcl j hj m hm; rw [hbi] at this; cases this
   simp [upv, this]
  ·rfl
 refine ⟨⟨upv v i u, upv lo i w.heap.size, upv hi i w'.heap.size, k', lput l' o.dst u, rfl, ?_, ?_, hO.trans hw, ?_, ?_, hk, hms, hr⟩, ?_⟩
 ·cases hd : o.dst with
  | none => exact hlen
  | some d => show (lset l' d u).length = _; rw [lset_length]; exact hlen
 ·intro t
  cases hd : o.dst with
  | none =>
   show nth l' t = _
   rw [hl' t]
   unfold sel
   cases hf : DL.find? (fun e => e.2 == t) with
   | none => rfl
   | some e =>
    have hne := e5 hd e (List.mem_of_find?_eq_some hf)
    simp [up, upv, hne]
  | some d =>
   have hm := e4 d hd
   show nth (lset l' d u) t = _
   rw [nth_lset _ _ _ _ (by rw [hlen]; exact hDl _ hm)]
   by_cases htd : t = d
   ·subst htd
    rw [if_pos rfl]
    unfold sel
    rw [find_at hnd2 hm]
    simp [up, upv]
   ·rw [if_neg htd, hl' t]
    unfold sel
    cases hf : DL.find? (fun e => e.2 == t) with
    | none => rfl
    | some e =>
     have he := List.mem_of_find?_eq_some hf
     have het : e.2 = t := by simpa using List.find?_some hf
     have hne : e.1 ≠ i := by
      intro h
      have := fst_at hnd1 he hm h
      rw [this] at het
      exact htd het.symm
     simp [up, upv, hne]
 ·intro j hj hbj
  by_cases hji : j = i
  ·subst hji
   rw [hrs j (.inl rfl)]
   simp only [upv, if_true]
   exact hu
  ·have hbj' : b j = true := by simpa [up, hji] using hbj
   rw [hrs j (.inr hbj')]
   simp only [upv, hji, if_false]
   cases hse_ : (Φ j).sens with
   | false => exact (Φ j).st hse_ (hΦ j hj hbj') hw
   | true => exact (Φ j).s0 (hΦ j hj hbj') (hse j hj hbj' hse_)
 ·refine ⟨fun j hj => ?_, fun x y hx hy hxy => ?_⟩
  ·by_cases hji : j = i
   ·subst hji; simp only [upv, if_true]; exact ⟨hO.size, hw.size, Nat.le_refl _⟩
   ·have hbj' : b j = true := by simpa [up, hji] using hj
    simp only [upv, hji, if_false]
    have := hIv.1 j hbj'
    have := hw.size
    omega
  ·by_cases hxi : x = i
   ·subst hxi
    have hyi : y ≠ x := Ne.symm hxy
    have hby : b y = true := by simpa [up, hyi] using hy
    simp only [upv, if_true, hyi, if_false]
    have := hIv.1 y hby
    omega
   ·have hbx : b x = true := by simpa [up, hxi] using hx
    by_cases hyi : y = i
    ·subst hyi
     simp only [upv, if_true, hxi, if_false]
     have := hIv.1 x hbx
     omega
    ·have hby : b y = true := by simpa [up, hyi] using hy
     simp only [upv, hxi, hyi, if_false]
     exact hIv.2 x y hbx hby hxy
 ·intro j hj m hm
  by_cases hji : j = i
  ·subst hji
   have := hpre m hm
   by_cases hmi : m = j
   ·simp [up, hmi]
   ·simp [up, hmi, this]
  ·have hbj' : b j = true := by simpa [up, hji] using hj
   have := hcl j hbj' m hm
   by_cases hmi : m = i
   ·simp [up, hmi]
   ·simp [up, hmi, this]
theorem gdoes_wp {b : Nat → Bool} {i : Nat} {v : Nat → Value} {l' : List Value} {w : World} {o : Oper} {R : Value → World → Prop} {K : Act → World → Prop}
  (hB : bOk ops B DL Ms = true) (hDl : ∀ e ∈ DL, e.2 < l.length) (ho : ops[i]? = some o) (hlen : l'.length = l.length) (hl' : ∀ t, nth l' t = sel DL b v l t) (hold : ∀ e ∈ DL, b e.1 = false → v e.1 = nth l e.2)
  (h : GDoes P ops o (fillL l DL v) w R) (hK : ∀ u w', R u w' → K (fr (lput l' o.dst u) ds) w') : wpOpIn (Wf r) 0 P ops Q i K (fr l' ds) w := by
 obtain ⟨hops, hlt, hnd1, hnd2, hMs, hMn⟩ := bOk_parts hB
 obtain ⟨e1, e2, e3, e4, e5, e6, e7⟩ := hops i o ho
 have hlook : ∀ t ∈ o.looksAt ops, nth l' t = nth (fillL l DL v) t := by
  intro t ht
  rw [hl' t, nth_fillL DL l v t hDl hnd2]
  unfold sel
  cases hf : DL.find? (fun e => e.2 == t) with
  | none => rfl
  | some e =>
   have he := List.mem_of_find?_eq_some hf
   have het : e.2 = t := by simpa using List.find?_some hf
   by_cases hb : b e.1 = true
   ·simp only [hb, if_true]
   ·have hb' : b e.1 = false := by simpa using hb
    simp only [hb', if_true, Bool.false_eq_true, if_false, hold e he hb', het]
 have hlen2 : (fillL l DL v).length = l'.length := by rw [fillL_length, hlen]
 have hget : ∀ t ∈ o.looksAt ops, l'.toArray[t]? = (fillL l DL v).toArray[t]? := by
  intro t ht
  have h1 := hlook t ht
  rw [nth_eq, nth_eq, List.getD_eq_getElem?_getD, List.getD_eq_getElem?_getD] at h1
  rw [List.getElem?_toArray, List.getElem?_toArray]
  have hlen3 := hlen2
  by_cases htl : t < l'.length
  ·rw [List.getElem?_eq_getElem htl, List.getElem?_eq_getElem (by rw [hlen2]; exact htl)] at h1 ⊢
   simpa using h1
  ·have h2 : l'.length ≤ t := Nat.le_of_not_lt htl
   rw [List.getElem?_eq_none h2, List.getElem?_eq_none (by rw [hlen2]; exact h2)]
 have hex : execOp (ev l') o = execOp (ev (fillL l DL v)) o := by
  refine execOp_congr o e6 (fun x hx => ?_)
  cases x with
  | tmp t =>
   exact hlook t (by unfold Oper.looksAt; exact List.mem_append_left _ (List.mem_filterMap.2 ⟨.tmp t, by simpa using hx, rfl⟩))
  | _ => rfl
 have hwt : Region.wanted o (yielded ops l'.toArray) = Region.wanted o (yielded ops (fillL l DL v).toArray) := by
  unfold Region.wanted
  cases hgd : o.guard with
  | none => rfl
  | some gw =>
   obtain ⟨g, want⟩ := gw
   have hy : yielded ops l'.toArray g = yielded ops (fillL l DL v).toArray g := by
    unfold yielded
    cases ht : (ops[g]?).bind (·.dst) with
    | none => rfl
    | some t =>
     have h1 := hget t (by unfold Oper.looksAt; rw [hgd]; simp [ht])
     simp only [Option.bind_some, h1]
   simp only [hy]
 unfold wpOpIn
 rw [ho]
 show (if Region.wanted o (yielded ops l'.toArray) = true then _ else _)
 unfold GDoes at h
 rw [hwt]
 split
 ·rename_i hwd
  rw [if_pos hwd] at h
  refine Does.wp (R := R) (by rw [fr_eval]; unfold Does at h ⊢; rw [hex]; exact h) (fun u w' hu => ?_)
  rw [fr_put]
  exact hK u w' hu
 ·rename_i hwd
  rw [if_neg hwd] at h
  exact ⟨fun _ _ => trivial, by rw [fr_put]; exact hK _ _ h⟩
theorem region_go (hB : bOk ops B DL Ms = true) (hn : ops.size = n) (hDl : ∀ e ∈ DL, e.2 < l.length) (hR : ∀ k w w', Rs k w → Only No w w' → Rs k w')
  (hs : ∀ i, i < n → i ∉ Ms → LStep P ops O DL l (fun v => fillL l DL v) w0 n B Ms Φ Rs i) (hm : ∀ t, t < Ms.length → MStep P ops O DL l (fun v => fillL l DL v) w0 n B Φ Rs t (Ms.getD t 0))
  (hend : ∀ v lo hi w', Only O w0 w' → (∀ j, j < n → (Φ j).p (rs B j v) (v j) (lo j) (hi j) w') → Ivs (fun j => j < n) lo hi w0 w' → Rs Ms.length w' → Q .normal (fr (fillL l DL v) ds) w') :
  ∀ (m : Nat) (b : Nat → Bool) (a : Act) (w : World), ((List.range n).filter fun j => !b j).length = m → Inv O l ds w0 n B DL Ms Φ Rs b a w → wpAnyIn (Wf r) 0 P .any ops Q m ((List.range n).map b).toArray a w := by
 obtain ⟨hops, hlt, hnd1, hnd2, hMs, hMn⟩ := bOk_parts hB
 have getT : ∀ (b : Nat → Bool) (j : Nat), ((List.range n).map b).toArray.getD j true = (if j < n then b j else true) := by
  intro b j
  rw [Array.getD_eq_getD_getElem?, List.getElem?_toArray, List.getElem?_map]
  by_cases h : j < n <;> simp [h]
 have getF : ∀ (b : Nat → Bool) (j : Nat), ((List.range n).map b).toArray.getD j false = (if j < n then b j else false) := by
  intro b j
  rw [Array.getD_eq_getD_getElem?, List.getElem?_toArray, List.getElem?_map]
  by_cases h : j < n <;> simp [h]
 have all_of : ∀ b : Nat → Bool, Region.ready .any ops ((List.range n).map b).toArray = [] → ∀ i, i < n → b i = true := by
  intro b hr i
  induction i using Nat.strongRecOn with
  | _ i ih =>
   intro hi
   cases hb : b i with
   | true => rfl
   | false =>
    obtain ⟨o, ho⟩ : ∃ o, ops[i]? = some o := ⟨_, Array.getElem?_eq_getElem (by omega)⟩
    have : i ∈ Region.ready .any ops ((List.range n).map b).toArray := by
     rw [mem_ready]
     refine ⟨by rw [getT, if_pos hi, hb], o, ho, fun e he hbe => ?_⟩
     have := (hops i o ho).1 e he hbe
     rw [getF, if_pos (by omega)]
     exact ih e.on this (by omega)
    rw [hr] at this
    cases this
 have fin : ∀ (b : Nat → Bool) (a : Act) (w : World), (∀ i, i < n → b i = true) → Inv O l ds w0 n B DL Ms Φ Rs b a w → Q .normal a w := by
  intro b a w hall hI
  obtain ⟨⟨v, lo, hi, k, l', rfl, hlen, hl', hO, hΦ, hIv, hk, hms, hr⟩, hcl⟩ := hI
  have hke : k = Ms.length := by
   rcases Nat.lt_or_ge k Ms.length with h | h
   ·have := (hms k h).1 (hall _ (by have := (hMs k h).1; omega))
    omega
   ·omega
  subst hke
  have : l' = fillL l DL v := by
   refine nth_ext (by rw [hlen, fillL_length]) (fun t => ?_)
   rw [hl' t, nth_fillL DL l v t hDl hnd2]
   unfold sel
   cases hf : DL.find? (fun e => e.2 == t) with
   | none => rfl
   | some e => simp [hall e.1 (by have := hlt e (List.mem_of_find?_eq_some hf); omega)]
  rw [this]
  exact hend v lo hi w hO (fun j hj => hΦ j hj (hall j hj)) ⟨fun j hj => hIv.1 j (hall j hj), fun x y hx hy => hIv.2 x y (hall x hx) (hall y hy)⟩ hr
 intro m
 induction m with
 | zero =>
  intro b a w hm0 hI
  have hall : ∀ i, i < n → b i = true := by
   intro i hi
   cases hb : b i with
   | true => rfl
   | false =>
    have : i ∈ (List.range n).filter fun j => !b j := List.mem_filter.2 ⟨List.mem_range.2 hi, by simp [hb]⟩
    rw [List.eq_nil_of_length_eq_zero hm0] at this
    cases this
  refine ⟨?_, fin b a w hall hI⟩
  refine List.eq_nil_iff_forall_not_mem.2 (fun i hi => ?_)
  rw [mem_ready] at hi
  obtain ⟨h1, o, ho, _⟩ := hi
  have : i < n := by have := (Array.getElem?_eq_some_iff.1 ho).1; omega
  rw [getT, if_pos this, hall i this] at h1
  cases h1
 | succ m ih =>
  intro b a w hm0 hI
  refine ⟨fun hr => fin b a w (all_of b hr) hI, fun i hi => ?_⟩
  rw [mem_ready] at hi
  obtain ⟨h1, o, ho, hedge⟩ := hi
  have hin : i < n := by have := (Array.getElem?_eq_some_iff.1 ho).1; omega
  rw [getT, if_pos hin] at h1
  obtain ⟨⟨v, lo, hi, k, l', rfl, hlen, hl', hO, hΦ, hIv, hk, hms, hr⟩, hcl⟩ := hI
  obtain ⟨e1, e2, e3, e4, e5, e6, e7⟩ := hops i o ho
  obtain ⟨v, hl', hΦ, hold⟩ : ∃ v : Nat → Value, (∀ t, nth l' t = sel DL b v l t) ∧ (∀ j, j < n → b j = true → (Φ j).p (rs B j v) (v j) (lo j) (hi j) w) ∧ (∀ e ∈ DL, b e.1 = false → v e.1 = nth l e.2) := by
   refine ⟨fun j => if b j then v j else match DL.find? (fun e => e.1 == j) with | some e => nth l e.2 | none => undef, fun t => ?_, fun j hj hbj => ?_, fun e he hbe => ?_⟩
   ·rw [hl' t]
    unfold sel
    split
    ·split
     ·rename_i hb; exact (if_pos hb).symm
     ·rfl
    ·rfl
   ·have h1 : rs B j (fun j => if b j then v j else match DL.find? (fun e => e.1 == j) with | some e => nth l e.2 | none => undef) = rs B j v := by
     funext m
     unfold rs
     split
     ·rename_i hm; exact if_pos (hcl j hbj m hm)
     ·rfl
    rw [h1]
    simp only [hbj, if_true]
    exact hΦ j hj hbj
   ·have hf : DL.find? (fun e' => e'.1 == e.1) = some e := by
     cases hf : DL.find? (fun e' => e'.1 == e.1) with
     | none => have := List.find?_eq_none.1 hf e he; simp at this
     | some e' => rw [fst_at hnd1 (List.mem_of_find?_eq_some hf) he (by simpa using List.find?_some hf)]
    simp only [hbe, hf]
    rfl
  have hold' : ∀ e ∈ DL, bit B e.1 i = true → v e.1 = nth l e.2 := fun e he hbe => hold e he (by
   cases hb : b e.1 with
   | false => rfl
   | true => have := hcl e.1 hb i hbe; rw [h1] at this; cases this)
  have hpre : ∀ j, bit B i j = true → b j = true := by
   intro j hj
   obtain ⟨e, he, hbe, hor⟩ := e2 j (e7 j hj) hj
   have hbon : b e.on = true := by
    have := hedge e he hbe
    rw [getF] at this
    split at this
    ·exact this
    ·cases this
   rcases hor with rfl | hor
   ·exact hbon
   ·exact hcl e.on hbon j hor
  have hkmin : ∀ t, t < Ms.length → bit B i (Ms.getD t 0) = true → t < k := fun t ht hb => (hms t ht).1 (hpre _ hb)
  have hkmax : ∀ t, t < Ms.length → bit B (Ms.getD t 0) i = true → k ≤ t := by
   intro t ht hb
   rcases Nat.lt_or_ge t k with h | h
   ·have := hcl _ ((hms t ht).2 h) i hb
    rw [h1] at this
    cases this
   ·exact h
  have hIv' : Ivs (fun j => bit B i j = true) lo hi w0 w := ⟨fun j hj => hIv.1 j (hpre j hj), fun x y hx hy => hIv.2 x y (hpre x hx) (hpre y hy)⟩
  have hΦ' : ∀ j, bit B i j = true → (Φ j).p (rs B j v) (v j) (lo j) (hi j) w := fun j hj => hΦ j (by have := e7 j hj; omega) (hpre j hj)
  have hcnt : ((List.range n).filter fun j => !up b i j).length = m := by
   have := count_up h1 List.nodup_range (List.mem_range.2 hin)
   omega
  by_cases hiM : i ∈ Ms
  ·obtain ⟨t, ht, hti⟩ : ∃ t, t < Ms.length ∧ Ms.getD t 0 = i := by
    obtain ⟨t, ht, hti⟩ := List.getElem_of_mem hiM
    exact ⟨t, ht, by rw [List.getD_eq_getElem?_getD, List.getElem?_eq_getElem ht]; exact hti⟩
   have hkt : k = t := by
    have h2 : ¬ t < k := fun h => by
     have := (hms t ht).2 h
     rw [hti, h1] at this
     cases this
    rcases Nat.eq_zero_or_pos t with h0 | h0
    ·omega
    ·have h3 := (hMs t ht).2 (t - 1) (by omega)
     rw [hti] at h3
     have := hkmin (t - 1) (by omega) h3
     omega
   subst hkt
   obtain ⟨o', ho'', hg⟩ := (hm k ht).2 v lo hi w hO (by rw [hti]; exact hΦ') (by rw [hti]; exact hIv') hr (by rw [hti]; exact hold')
   have ho' := nthO_ops ho''
   rw [hti] at ho' hg
   rw [ho] at ho'
   obtain rfl := Option.some.inj ho'
   refine gdoes_wp (l := l) (DL := DL) hB hDl ho hlen hl' hold hg (fun u w' hu => ?_)
   rw [list_up]
   obtain ⟨hu1, hu2, hu3⟩ := hu
   refine ih _ _ _ hcnt (inv_up hB hn hDl ho h1 hlen hl' hO hΦ hIv hcl hpre hu1 hu3 (fun j hj hb hs_ => by rcases msens (hti ▸ (hm k ht).1) hj hs_ with rfl | e; (rw [h1] at hb; cases hb); (have := hcl j hb i e; rw [h1] at this; cases this)) ht (fun s hs' => ?_) hu2)
   by_cases hst : s = k
   ·subst hst; rw [hti]; simp [up]
   ·have hne : Ms.getD s 0 ≠ i := by
     intro h
     rw [← hti, List.getD_eq_getElem?_getD, List.getD_eq_getElem?_getD, List.getElem?_eq_getElem hs', List.getElem?_eq_getElem ht] at h
     exact hst (nodup_at hMn hs' ht (by simpa using h))
    simp only [up, hne, if_false]
    rw [hms s hs']
    omega
  ·obtain ⟨o', ho'', hg⟩ := hs i hin hiM v lo hi w k hO hΦ' hIv' hkmin hkmax hk hr hold'
   have ho' := nthO_ops ho''
   rw [ho] at ho'
   obtain rfl := Option.some.inj ho'
   refine gdoes_wp (l := l) (DL := DL) hB hDl ho hlen hl' hold hg (fun u w' hu => ?_)
   rw [list_up]
   refine ih _ _ _ hcnt (inv_up hB hn hDl ho h1 hlen hl' hO hΦ hIv hcl hpre hu.1 (No.any hu.2) (fun _ _ _ _ => hu.2) hk (fun s hs' => ?_) (hR _ _ _ hr hu.2))
   have hne : Ms.getD s 0 ≠ i := by
    intro h
    refine hiM ?_
    rw [← h, List.getD_eq_getElem?_getD, List.getElem?_eq_getElem hs']
    exact List.getElem_mem hs'
   simp only [up, hne, if_false]
   exact hms s hs'
theorem drawn {id : Nat} (B : List Nat) (DL : List (Nat × Tmp)) (Ms : List Nat) (Φ : Nat → RF O) (Rs : Nat → World → Prop) (hmx : P.follows .mixedOrders = true) (hB : bOk ops B DL Ms = true) (hn : ops.size = n)
  (hDl : (DL.all fun e => decide (e.2 < l.length)) = true) (hR : ∀ k w w', Rs k w → Only No w w' → Rs k w') (h0 : Rs 0 w0)
  (hs : ∀ i, i < n → i ∉ Ms → LStep P ops O DL l (fun v => fillL l DL v) w0 n B Ms Φ Rs i) (hm : ∀ t, t < Ms.length → MStep P ops O DL l (fun v => fillL l DL v) w0 n B Φ Rs t (Ms.getD t 0))
  (hend : ∀ v lo hi w', Only O w0 w' → (∀ j, j < n → (Φ j).p (rs B j v) (v j) (lo j) (hi j) w') → Ivs (fun j => j < n) lo hi w0 w' → Rs Ms.length w' → Q .normal (fr (fillL l DL v) ds) w') :
  (Code.region id ops true).wpIn (Wf r) 0 P Q (fr l ds) w0 := by
 refine wpIn_region_any hmx ?_
 have hdr : Only No w0 { w0 with drawn := w0.drawn + 1 } := ⟨rfl, rfl, rfl, Nat.le_refl _, fun _ _ _ => rfl⟩
 have hl : Array.replicate ops.size false = ((List.range n).map fun _ => false).toArray := by
  rw [hn]
  apply Array.ext'
  simp [List.map_const']
 rw [hl, hn]
 have hDl' : ∀ e ∈ DL, e.2 < l.length := fun e he => by simpa using List.all_eq_true.1 hDl e he
 have hf : ((List.range n).filter fun _ => !false).length = n := by
  have h1 : ((List.range n).filter fun _ => !false) = List.range n := List.filter_eq_self.2 (fun _ _ => rfl)
  rw [h1, List.length_range]
 have hsel : ∀ t, nth l t = sel DL (fun _ => false) (fun _ => undef) l t := by
  intro t
  unfold sel
  split <;> simp
 exact region_go hB hn hDl' hR hs hm hend n (fun _ => false) _ _ hf ⟨⟨fun _ => undef, fun _ => 0, fun _ => 0, 0, l, rfl, rfl, hsel, No.any hdr, (fun _ _ h => by cases h), ⟨(fun _ h => by cases h), (fun _ _ h => by cases h)⟩, Nat.zero_le _, (fun t ht => by simp), hR _ _ _ h0 hdr⟩, (fun _ h => by cases h)⟩
end
end
end Go.Proofs.YtpamdlnobekihaaF
namespace Go.Proofs.YtpamdlnobekihaaF
open Go Shelf YtpamdlnobekihaaS
section
variable {P : Program} {d : Option Tmp} {tt : TypeId} {s : String} {af : Array Edge} {g : Option (Nat × Bool)} {ρ : Operand → Value} {w : World}
abbrev DV (P : Program) (o : Oper) (ρ : Operand → Value) (w : World) (v : Value) : Prop := Does P o ρ w fun u w' => u = v ∧ w' = w
theorem Does.of_value {o : Oper} {v : Value} {w' : World} {R : Value → World → Prop} (hd : ∀ c, o.op ≠ .defer c) (h : (execOp ρ o).run P w = .ok (.value v) w') (hr : R v w') : Does P o ρ w R := by
 refine ⟨hd, ?_⟩
 rw [h]; exact hr
theorem Does.of_skip {o : Oper} {w' : World} {R : Value → World → Prop} (hd : ∀ c, o.op ≠ .defer c) (h : (execOp ρ o).run P w = .ok .skip w') (hr : R undef w') : Does P o ρ w R := by
 refine ⟨hd, ?_⟩
 rw [h]; exact hr
theorem Does.is {o : Oper} {v : Value} {O : Nat → Prop} {vs : Nat → Value} (h : DV P o ρ w v) : Does P o ρ w fun u w' => (RF.is O v).p vs u w.heap.size w'.heap.size w' ∧ Only No w w' :=
 h.mono fun u w' ⟨h1, h2⟩ => ⟨h1, by rw [h2]; exact Only.refl _ _⟩
theorem d_move {x : Operand} {v : Value} (hx : ρ x = v) : DV P ⟨d, .move x, tt, s, af, g⟩ ρ w v := Does.of_value (by simp) rfl ⟨hx, rfl⟩
theorem d_assign {x : Operand} {v : Value} (hx : ρ x = v) : DV P ⟨d, .assign x, tt, s, af, g⟩ ρ w v := Does.of_value (by simp) rfl ⟨hx, rfl⟩
theorem d_pick {c x y : Operand} {b : Bool} {v : Value} (hc : ρ c = .bool b) (hv : (if b then ρ x else ρ y) = v) : DV P ⟨d, .pick c x y, tt, s, af, g⟩ ρ w v := by
 refine Does.of_value (v := v) (w' := w) (by simp) ?_ ⟨rfl, rfl⟩
 rw [← hv]
 cases b <;> simp [execOp, hc, asBool, go_sem]
theorem d_bin {op : BinOp} {x y : Operand} {t t2 : TypeId} {k : IntKind} {m n : Int} {v : Value} (hx : ρ x = .int k m) (hy : ρ y = .int k n) (hv : (binOp op t (.int k m) (.int k n)).run P w = .ok v w) :
  DV P ⟨d, .binOp op t x y t2, tt, s, af, g⟩ ρ w v := by
 refine Does.of_value (v := v) (w' := w) (by simp) ?_ ⟨rfl, rfl⟩
 have : (eqGuard op t x y (.int k m) (.int k n)).run P w = .ok () w := by
  unfold eqGuard
  split <;> simp [go_sem]
 simp [execOp, hx, hy, go_sem, this, hv]
theorem d_add {x y : Operand} {t t2 : TypeId} {k : IntKind} {m n r : Int} (hx : ρ x = .int k m) (hy : ρ y = .int k n) (hr : k.wrap (m + n) = r) : DV P ⟨d, .binOp .add t x y t2, tt, s, af, g⟩ ρ w (.int k r) :=
 d_bin hx hy (by rw [← hr]; simp [binOp, Op.intArith, go_sem])
theorem d_sub {x y : Operand} {t t2 : TypeId} {k : IntKind} {m n r : Int} (hx : ρ x = .int k m) (hy : ρ y = .int k n) (hr : k.wrap (m - n) = r) : DV P ⟨d, .binOp .sub t x y t2, tt, s, af, g⟩ ρ w (.int k r) :=
 d_bin hx hy (by rw [← hr]; simp [binOp, Op.intArith, go_sem])
theorem d_mul {x y : Operand} {t t2 : TypeId} {k : IntKind} {m n r : Int} (hx : ρ x = .int k m) (hy : ρ y = .int k n) (hr : k.wrap (m * n) = r) : DV P ⟨d, .binOp .mul t x y t2, tt, s, af, g⟩ ρ w (.int k r) :=
 d_bin hx hy (by rw [← hr]; simp [binOp, Op.intArith, go_sem])
theorem d_quo {x y : Operand} {t t2 : TypeId} {k : IntKind} {m n r : Int} (hx : ρ x = .int k m) (hy : ρ y = .int k n) (hn : n ≠ 0) (hr : k.wrap (m.tdiv n) = r) : DV P ⟨d, .binOp .quo t x y t2, tt, s, af, g⟩ ρ w (.int k r) :=
 d_bin hx hy (by rw [← hr]; simp [binOp, Op.intDiv, go_sem, hn])
theorem d_rem {x y : Operand} {t t2 : TypeId} {k : IntKind} {m n r : Int} (hx : ρ x = .int k m) (hy : ρ y = .int k n) (hn : n ≠ 0) (hr : m.tmod n = r) : DV P ⟨d, .binOp .rem t x y t2, tt, s, af, g⟩ ρ w (.int k r) :=
 d_bin hx hy (by rw [← hr]; simp [binOp, Op.intDiv, go_sem, hn])
theorem d_lss {x y : Operand} {t t2 : TypeId} {k : IntKind} {m n : Int} {b : Bool} (hx : ρ x = .int k m) (hy : ρ y = .int k n) (hb : decide (m < n) = b) : DV P ⟨d, .binOp .lss t x y t2, tt, s, af, g⟩ ρ w (.bool b) :=
 d_bin hx hy (by rw [← hb]; simp [binOp, Op.intCmp, go_sem])
theorem d_leq {x y : Operand} {t t2 : TypeId} {k : IntKind} {m n : Int} {b : Bool} (hx : ρ x = .int k m) (hy : ρ y = .int k n) (hb : decide (m ≤ n) = b) : DV P ⟨d, .binOp .leq t x y t2, tt, s, af, g⟩ ρ w (.bool b) :=
 d_bin hx hy (by rw [← hb]; simp [binOp, Op.intCmp, go_sem])
theorem d_gtr {x y : Operand} {t t2 : TypeId} {k : IntKind} {m n : Int} {b : Bool} (hx : ρ x = .int k m) (hy : ρ y = .int k n) (hb : decide (n < m) = b) : DV P ⟨d, .binOp .gtr t x y t2, tt, s, af, g⟩ ρ w (.bool b) :=
 d_bin hx hy (by rw [← hb]; simp [binOp, Op.intCmp, go_sem])
theorem d_geq {x y : Operand} {t t2 : TypeId} {k : IntKind} {m n : Int} {b : Bool} (hx : ρ x = .int k m) (hy : ρ y = .int k n) (hb : decide (n ≤ m) = b) : DV P ⟨d, .binOp .geq t x y t2, tt, s, af, g⟩ ρ w (.bool b) :=
 d_bin hx hy (by rw [← hb]; simp [binOp, Op.intCmp, go_sem])
theorem d_eql {x y : Operand} {t t2 : TypeId} {k : IntKind} {m n : Int} {b : Bool} (hx : ρ x = .int k m) (hy : ρ y = .int k n) (hb : decide (m = n) = b) : DV P ⟨d, .binOp .eql t x y t2, tt, s, af, g⟩ ρ w (.bool b) :=
 d_bin hx hy (by rw [← hb]; simp [binOp, Op.intCmp, go_sem]; rfl)
theorem d_neq {x y : Operand} {t t2 : TypeId} {k : IntKind} {m n : Int} {b : Bool} (hx : ρ x = .int k m) (hy : ρ y = .int k n) (hb : (!decide (m = n)) = b) : DV P ⟨d, .binOp .neq t x y t2, tt, s, af, g⟩ ρ w (.bool b) :=
 d_bin hx hy (by rw [← hb]; simp [binOp, Op.intCmp, go_sem]; rfl)
theorem d_bits {op : BinOp} (hop : op = .and ∨ op = .or ∨ op = .xor ∨ op = .andNot) {x y : Operand} {t t2 : TypeId} {k : IntKind} {m n r : Int} (hx : ρ x = .int k m) (hy : ρ y = .int k n) (hr : Go.bits op k m n = r) :
  DV P ⟨d, .binOp op t x y t2, tt, s, af, g⟩ ρ w (.int k r) := by
 subst hr
 rcases hop with rfl | rfl | rfl | rfl <;> exact d_bin hx hy (by simp [binOp, Op.intBits, go_sem, Go.bits])
theorem d_shl {x y : Operand} {t t2 : TypeId} {k yk : IntKind} {m n r : Int} (hx : ρ x = .int k m) (hy : ρ y = .int yk n) (hn : 0 ≤ n) (hr : k.wrap (m * 2 ^ min n.toNat k.bits) = r) : DV P ⟨d, .binOp .shl t x y t2, tt, s, af, g⟩ ρ w (.int k r) := by
 refine Does.of_value (v := .int k r) (w' := w) (by simp) ?_ ⟨rfl, rfl⟩
 rw [← hr]
 have : ¬ n < 0 := by omega
 simp [execOp, hx, hy, go_sem, eqGuard, binOp, Op.shift, this]
theorem d_shr {x y : Operand} {t t2 : TypeId} {k yk : IntKind} {m n r : Int} (hx : ρ x = .int k m) (hy : ρ y = .int yk n) (hn : 0 ≤ n) (hr : m.fdiv (2 ^ min n.toNat k.bits) = r) : DV P ⟨d, .binOp .shr t x y t2, tt, s, af, g⟩ ρ w (.int k r) := by
 refine Does.of_value (v := .int k r) (w' := w) (by simp) ?_ ⟨rfl, rfl⟩
 rw [← hr]
 have : ¬ n < 0 := by omega
 simp [execOp, hx, hy, go_sem, eqGuard, binOp, Op.shift, this]
theorem d_not {x : Operand} {t : TypeId} {b c : Bool} (hx : ρ x = .bool b) (hc : (!b) = c) : DV P ⟨d, .unOp .not t x, tt, s, af, g⟩ ρ w (.bool c) :=
 Does.of_value (by simp) (by simp [execOp, hx, Op.unary, go_sem]; rfl) ⟨by rw [← hc], rfl⟩
theorem run_equal_bool {t : TypeId} (ht : P.underlying t = some .bool) {b c : Bool} {w : World} : (Op.equal t (.bool b) (.bool c)).run P w = .ok (b == c) w := by
 have gen : ∀ n, (Op.equalIn (n + 1) t (.bool b) (.bool c)).run P w = .ok (b == c) w := by
  intro n
  rw [Op.equalIn]
  simp only [Sem.run_bind, run_underlying ht, Result.andThen]
  rfl
 exact gen 9999
theorem d_bneq {x y : Operand} {t t2 : TypeId} {b c r : Bool} (ht : P.underlying t = some .bool) (hx : ρ x = .bool b) (hy : ρ y = .bool c) (hr : (!(b == c)) = r) : DV P ⟨d, .binOp .neq t x y t2, tt, s, af, g⟩ ρ w (.bool r) := by
 refine Does.of_value (v := .bool r) (w' := w) (by simp) ?_ ⟨rfl, rfl⟩
 rw [← hr]
 simp [execOp, hx, hy, go_sem, eqGuard, binOp, run_equal_bool ht]
def strOf (l : List UInt8) : ByteArray := ⟨l.toArray⟩
theorem strOf_list (l : List UInt8) : (strOf l).toList = l := ByteArray.toList_mk l
theorem d_seql {x y : Operand} {t t2 : TypeId} {a c : List UInt8} {b : Bool} (hx : ρ x = .string (strOf a)) (hy : ρ y = .string (strOf c)) (hb : decide (a = c) = b) : DV P ⟨d, .binOp .eql t x y t2, tt, s, af, g⟩ ρ w (.bool b) := by
 refine Does.of_value (v := .bool b) (w' := w) (by simp) ?_ ⟨rfl, rfl⟩
 rw [← hb]
 have hq : (a == c) = decide (a = c) := by rw [Bool.eq_iff_iff]; simp
 simp [execOp, hx, hy, go_sem, eqGuard, binOp, Op.stringOp, strOf_list, hq]
theorem d_sneq {x y : Operand} {t t2 : TypeId} {a c : List UInt8} {b : Bool} (hx : ρ x = .string (strOf a)) (hy : ρ y = .string (strOf c)) (hb : (!decide (a = c)) = b) : DV P ⟨d, .binOp .neq t x y t2, tt, s, af, g⟩ ρ w (.bool b) := by
 refine Does.of_value (v := .bool b) (w' := w) (by simp) ?_ ⟨rfl, rfl⟩
 rw [← hb]
 have hq : (a == c) = decide (a = c) := by rw [Bool.eq_iff_iff]; simp
 simp [execOp, hx, hy, go_sem, eqGuard, binOp, Op.stringOp, strOf_list, hq]
theorem d_conv {src dst : TypeId} {x : Operand} {k k0 : IntKind} {n r : Int} {u : TypeDesc} (hs : P.underlying src = some u) (hd : P.underlying dst = some (.int k)) (hx : ρ x = .int k0 n) (hr : k.wrap n = r) : DV P ⟨d, .convert src dst x, tt, s, af, g⟩ ρ w (.int k r) := by
 refine Does.of_value (v := .int k r) (w' := w) (by simp) ?_ ⟨rfl, rfl⟩
 rw [← hr]
 simp [execOp, hx, go_sem, convert, run_underlying hs, run_underlying hd, Conv.intToInt]
theorem d_func {fn : Fn} {a b : Array Operand} {x y : Array Value} (ha : a.map ρ = x) (hb : b.map ρ = y) : DV P ⟨d, .makeFunc fn a b, tt, s, af, g⟩ ρ w (.func fn x y) :=
 Does.of_value (by simp) (by simp only [execOp, ha, hb, Instr.makeFunc]; rfl) ⟨rfl, rfl⟩
theorem d_extract {x : Operand} {i : Nat} {vs : Array Value} {v : Value} (hx : ρ x = .tuple vs) (hv : vs[i]? = some v) : DV P ⟨d, .extract x i, tt, s, af, g⟩ ρ w v :=
 Does.of_value (v := v) (by simp) (by simp [execOp, hx, Instr.extract, hv, go_sem]) ⟨rfl, rfl⟩
theorem d_max2 {x y : Operand} {ts : Array TypeId} {k : IntKind} {m n r : Int} (hx : ρ x = .int k m) (hy : ρ y = .int k n) (hr : (if n > m then n else m) = r) : DV P ⟨d, .call ⟨.builtin .max, #[x, y], ts⟩, tt, s, af, g⟩ ρ w (.int k r) := by
 refine Does.of_value (v := .int k r) (w' := w) (by simp) ?_ ⟨rfl, rfl⟩
 rw [← hr]
 simp [execOp, resolve, invoke, builtin, Builtin.max_, Builtin.max2, hx, hy, go_sem]
theorem d_call {f : Nat} {xl : List Operand} {ts : Array TypeId} {al : List Value} {fn : Func} {R : Value → World → Prop} (hf : P.funcs[f]? = some fn) {c : Code} (hn : (fn.name == "runtime.NumGoroutine") = false) (hb : fn.body = some c) (ha : xl.map ρ = al) (hfv : ρ (.func f) = .func (.func f) #[] #[])
  (h : CW P f al.toArray w (Rt R)) : Does P ⟨d, .call ⟨.value (.func f), xl.toArray, ts⟩, tt, s, af, g⟩ ρ w R := by
 refine ⟨by simp, ?_⟩
 have : (execOp ρ ⟨d, .call ⟨.value (.func f), xl.toArray, ts⟩, tt, s, af, g⟩).run P w = .ok (.enter f al.toArray) w := by
  have he := enters_of hf hn hb al.toArray w
  have ha' : xl.toArray.map ρ = al.toArray := by rw [List.map_toArray, ha]
  simp only [execOp, resolve, hfv, ha', Sem.run_bind, Deferred.ofValue, Sem.run_pure, Result.andThen, invoke, Array.append_empty, Array.empty_append, he]
 rw [this]
 exact h
end
end Go.Proofs.YtpamdlnobekihaaF
namespace Go.Proofs.YtpamdlnobekihaaF
open Go Shelf YtpamdlnobekihaaS
structure Kd (α : Type) where
 sz : Nat
 at_ : World → Addr → α → Prop
def kS {α : Type} (enc : α → Value) : Kd α := ⟨1, fun w p x => w.cell? p = some (enc x)⟩
def eB (x : UInt8) : Value := .int .u8 (x.toNat : Int)
def eI (x : Int) : Value := .int .i64 x
def eN (x : Nat) : Value := .int .i64 (x : Int)
def kB : Kd UInt8 := kS eB
def kI : Kd Int := kS eI
def kN : Kd Nat := kS eN
def kV : Kd Value := kS id
def kA {α : Type} (n : Nat) (enc : α → List Value) : Kd α := ⟨n, fun w p x => (enc x).length = n ∧ ∀ j v, (enc x)[j]? = some v → w.cell? (p.add j) = some v⟩
def Seq {α : Type} (d : Kd α) (xs : List α) (u : Value) (w : World) : Prop :=
 ∃ A c, u = .slice A xs.length c ∧ xs.length ≤ c ∧ ∀ (i : Nat) (x : α), xs[i]? = some x → ∃ ad, A = some ad ∧ d.at_ w (ad.add (i * d.sz)) x
def At {α : Type} (d : Kd α) (x : α) (u : Value) (w : World) : Prop := ∃ p, u = .pointer (some p) ∧ d.at_ w p x
def Arr (e : TypeId) (b : Nat) (cs : List Value) (w : World) : Prop := w.heap[b]? = some (.cells cs.toArray e (0, 0))
section
variable {w w' : World} {e : TypeId} {b n i : Nat} {cs : List Value} {T : Nat → Prop} {v : Value}
theorem add0 (b o n : Nat) : (⟨b, o, none⟩ : Addr).add n = ⟨b, o + n, none⟩ := by unfold Addr.add; split <;> simp_all
theorem Arr.lt (h : Arr e b cs w) : b < w.heap.size := (Array.getElem?_eq_some_iff.1 h).1
theorem Arr.step (h : Arr e b cs w) (hO : Only T w w') (hT : ¬ T b) : Arr e b cs w' := (hO.same b h.lt hT).trans h
theorem Arr.step0 (h : Arr e b cs w) (hO : Only No w w') : Arr e b cs w' := h.step hO id
theorem Arr.cell (h : Arr e b cs w) (hi : cs[i]? = some v) : w.cell? ⟨b, i, none⟩ = some v := by
 unfold World.cell?
 rw [h]
 simpa using hi
theorem Arr.frozen (h : Arr e b cs w) : w.frozen? ⟨b, i, none⟩ = false := by
 unfold World.frozen?
 rw [h]
 simp
theorem Arr.new (w : World) (e : TypeId) (cs : List Value) : Arr e w.heap.size cs (w.alloc (.cells cs.toArray e)) := World.alloc_heap_new w _
theorem Arr.ps (h : Arr e b cs w) {p : World → Prop} (hp : ∀ w', Arr e b cs w' → p w') : Ps (fun k => k ≠ b) p w := fun w' hw => hp w' ((hw b h.lt (by simp)).trans h)
theorem only_alloc (w : World) (o : Obj) : Only No w (w.alloc o) := (Only.refl _ w).alloc o
theorem only_set {p : Addr} (w : World) (v : Value) : Only (Is1 p.block) w (w.setCell p v) := (Only.refl _ w).setCell (T := Is1 p.block) rfl v
theorem Arr.set (h : Arr e b cs w) (hi : i < cs.length) (v : Value) : Arr e b (cs.set i v) (w.setCell ⟨b, i, none⟩ v) := by
 unfold Arr at h ⊢
 unfold World.setCell
 simp only [Array.getElem?_modify, if_true, h, Option.map_some, Option.isSome_none, Bool.false_eq_true, if_false, List.setIfInBounds_toArray]
theorem Arr.ne {b' : Nat} (h : Arr e b cs w) (hb : w.heap.size ≤ b') : b ≠ b' := by have := h.lt; omega
end
abbrev TI (P : Program) (t : TypeId) (sz bytes : Nat) (z : Value) : Prop := (P.info? t).map (fun i => (i.size, i.bytes, i.zero)) = some (sz, bytes, some z)
abbrev Sc (P : Program) (t : TypeId) : Prop := ∃ d, P.underlying t = some d ∧ (match d with | .struct _ | .array _ _ => true | _ => false) = false
abbrev Ag (P : Program) (t : TypeId) : Prop := ∃ d, P.underlying t = some d ∧ (match d with | .struct _ | .array _ _ => true | _ => false) = true
section
variable {P : Program} {d : Option Tmp} {tt : TypeId} {s : String} {af : Array Edge} {g : Option (Nat × Bool)} {ρ : Operand → Value} {w : World}
theorem TI.size {t : TypeId} {sz bytes : Nat} {z : Value} (h : TI P t sz bytes z) (w : World) : (sizeOf t).run P w = .ok sz w := by
 unfold TI at h
 cases hi : P.info? t with
 | none => rw [hi] at h; cases h
 | some i =>
  rw [hi] at h
  simp only [Option.map_some, Option.some.injEq, Prod.mk.injEq] at h
  unfold sizeOf
  rw [Sem.run_bind, run_typeInfo w hi]
  simp [Result.andThen, Sem.run_pure, h.1]
theorem TI.zero {t : TypeId} {sz bytes : Nat} {z : Value} (h : TI P t sz bytes z) (w : World) : (zeroValue t).run P w = .ok z w := by
 unfold TI at h
 cases hi : P.info? t with
 | none => rw [hi] at h; cases h
 | some i =>
  rw [hi] at h
  simp only [Option.map_some, Option.some.injEq, Prod.mk.injEq] at h
  unfold zeroValue
  rw [Sem.run_bind, run_typeInfo w hi]
  simp [Result.andThen, Sem.run_pure, h.2.2]
theorem TI.info {t : TypeId} {sz bytes : Nat} {z : Value} (h : TI P t sz bytes z) : ∃ i, P.info? t = some i ∧ i.bytes = bytes ∧ i.size = sz ∧ i.zero = some z := by
 unfold TI at h
 cases hi : P.info? t with
 | none => rw [hi] at h; cases h
 | some i =>
  rw [hi] at h
  simp only [Option.map_some, Option.some.injEq, Prod.mk.injEq] at h
  exact ⟨i, rfl, h.2.1, h.1, h.2.2⟩
theorem run_isAgg_agg {t : TypeId} (h : Ag P t) (w : World) : (isAgg t).run P w = .ok true w := by
 obtain ⟨d, h, hd⟩ := h
 cases d <;> simp_all [isAgg, run_underlying h]
theorem run_isAgg_sc {t : TypeId} (h : Sc P t) (w : World) : (isAgg t).run P w = .ok false w := by
 obtain ⟨d, h, hd⟩ := h
 cases d <;> simp_all [isAgg, run_underlying h]
def Made (e : TypeId) (w : World) (mk : Nat → Value) (cs : List Value) : Value → World → Prop := fun u w' => ∃ b, u = mk b ∧ w.heap.size ≤ b ∧ Arr e b cs w' ∧ Only No w w'
def ptr (b o : Nat) : Value := .pointer (some ⟨b, o, none⟩)
def sli (b o len cap : Nat) : Value := .slice (some ⟨b, o, none⟩) len cap
theorem Made.mk_ {e : TypeId} {mk : Nat → Value} {cs : List Value} : Made e w mk cs (mk w.heap.size) (w.alloc (.cells cs.toArray e)) := ⟨_, rfl, Nat.le_refl _, Arr.new _ _ _, only_alloc _ _⟩
theorem d_box {x : Operand} {e : TypeId} {v : Value} {cs : List Value} (hx : ρ x = v) (hc : v.cells.toList = cs) : Does P ⟨d, .box e x, tt, s, af, g⟩ ρ w (Made e w (fun b => ptr b 0) cs) := by
 subst hc
 refine Does.of_value (v := ptr w.heap.size 0) (w' := w.alloc (.cells v.cells e)) (by simp) ?_ ?_
 ·simp [execOp, hx, Instr.box, newVar, newRow, newObj, go_sem]; rfl
 ·have := Made.mk_ (w := w) (e := e) (mk := fun b => ptr b 0) (cs := v.cells.toList)
  simpa using this
theorem d_alloc {e : TypeId} {sz bytes : Nat} {z : Value} {cs : List Value} (hz : TI P e sz bytes z) (hc : z.cells.toList = cs) : Does P ⟨d, .alloc e, tt, s, af, g⟩ ρ w (Made e w (fun b => ptr b 0) cs) := by
 subst hc
 refine Does.of_value (v := ptr w.heap.size 0) (w' := w.alloc (.cells z.cells e)) (by simp) ?_ ?_
 ·simp [execOp, Instr.alloc, newVar, newRow, newObj, go_sem, hz.zero]; rfl
 ·have := Made.mk_ (w := w) (e := e) (mk := fun b => ptr b 0) (cs := z.cells.toList)
  simpa using this
theorem made_one {z : Value} (n : Nat) : (madeCells #[z] n).toList = List.replicate n z := by
 have h0 : ∀ i, (#[z] : Array Value)[i % (#[z] : Array Value).size]! = z := fun i => by
  have : i % (#[z] : Array Value).size = 0 := Nat.mod_one i
  rw [this]; rfl
 unfold madeCells
 apply List.ext_getElem?
 intro i
 simp only [Array.toList_map, Array.toList_range, List.getElem?_map, List.getElem?_replicate, h0]
 by_cases h : i < n
 ·simp [h]
 ·simp [h]
theorem d_make {t e : TypeId} {x y : Operand} {n : Nat} {kl kc : IntKind} {sz bytes : Nat} {z : Value} {cs : List Value} (ht : P.underlying t = some (.slice e)) (hz : TI P e sz bytes z) (hx : ρ x = .int kl (n : Int)) (hy : ρ y = .int kc (n : Int))
  (hn : n < 2 ^ 62) (hb : bytes * n ≤ 281474976710656) (hc : (madeCells z.cells (n * sz)).toList = cs) : Does P ⟨d, .makeSlice t x y, tt, s, af, g⟩ ρ w (Made e w (fun b => sli b 0 n n) cs) := by
 subst hc
 refine Does.of_value (v := sli w.heap.size 0 n n) (w' := w.alloc (.cells (madeCells z.cells (n * sz)) e)) (by simp) ?_ ?_
 ·obtain ⟨i, hi, hby, hsz, hze⟩ := hz.info
  have hb' : (i.bytes : Int) * (n : Int) ≤ 281474976710656 := by
   rw [hby]
   have h3 : ((bytes * n : Nat) : Int) ≤ ((281474976710656 : Nat) : Int) := Int.ofNat_le.2 hb
   rw [Int.natCast_mul] at h3
   exact h3
  have := run_make (P := P) w t e i z ht hi hze kl kc n n (by omega) (Int.le_refl _) hb' (by omega)
  simp only [Int.toNat_natCast, hsz] at this
  simp only [execOp, hx, hy, Sem.run_bind, this, Result.andThen, Sem.run_pure]
  rfl
 ·have := Made.mk_ (w := w) (e := e) (mk := fun b => sli b 0 n n) (cs := (madeCells z.cells (n * sz)).toList)
  simpa using this
theorem d_make1 {t e : TypeId} {x y : Operand} {n : Nat} {kl kc : IntKind} {bytes : Nat} {z : Value} (ht : P.underlying t = some (.slice e)) (hz : TI P e 1 bytes z) (hx : ρ x = .int kl (n : Int)) (hy : ρ y = .int kc (n : Int))
  (hn : n < 2 ^ 62) (hb : bytes * n ≤ 281474976710656) (hc : z.cells = #[z]) : Does P ⟨d, .makeSlice t x y, tt, s, af, g⟩ ρ w (Made e w (fun b => sli b 0 n n) (List.replicate n z)) :=
 d_make ht hz hx hy hn hb (by rw [hc, Nat.mul_one]; exact made_one n)
theorem d_buildSlice {t e : TypeId} {n sz bytes : Nat} {z : Value} {ps : Array (Nat × Operand)} {cs : List Value} (ht : P.underlying t = some (.slice e)) (hz : TI P e sz bytes z) (hn : n * sz ≤ 16777216)
  (hf : Instr.fill (fun i => some (i * sz, sz)) (madeCells z.cells (n * sz)) (ps.map fun (i, x) => (i, ρ x)).toList = some cs.toArray) : Does P ⟨d, .buildSlice t n ps, tt, s, af, g⟩ ρ w (Made e w (fun b => sli b 0 n n) cs) := by
 refine Does.of_value (v := sli w.heap.size 0 n n) (w' := w.alloc (.cells cs.toArray e)) (by simp) ?_ Made.mk_
 have hn' : ¬ 16777216 < n * sz := by omega
 simp only [execOp, Instr.buildSlice, Sem.run_bind, run_underlying ht, hz.size, Result.andThen]
 rw [if_neg hn']
 by_cases h0 : n * sz = 0
 ·have hl : (Array.range (n * sz)).map (fun i => (#[] : Array Value)[i % (#[] : Array Value).size]!) = madeCells z.cells (n * sz) := by
   rw [h0]; simp [madeCells]
  rw [if_pos h0]
  simp only [Sem.run_bind, Sem.run_pure, Result.andThen, hl]
  rw [hf]
  simp [newRow, newObj, go_sem]
  rfl
 ·have hl : (Array.range (n * sz)).map (fun i => z.cells[i % z.cells.size]!) = madeCells z.cells (n * sz) := rfl
  rw [if_neg h0]
  simp only [Sem.run_bind, Sem.run_pure, Result.andThen, hz.zero, hl]
  rw [hf]
  simp [newRow, newObj, go_sem]
  rfl
theorem d_load {t e : TypeId} {x : Operand} {b i : Nat} {cs : List Value} {v : Value} (ht : Sc P t) (hx : ρ x = ptr b i) (hA : Arr e b cs w) (hv : cs[i]? = some v) : DV P ⟨d, .load t x, tt, s, af, g⟩ ρ w v := by
 refine Does.of_value (v := v) (w' := w) (by simp) ?_ ⟨rfl, rfl⟩
 have hc := hA.cell hv
 have hx' : ρ x = .pointer (some ⟨b, i, none⟩) := hx
 simp [execOp, Instr.loadAt, Instr.sureAddr, hx', loadVar, run_isAgg_sc ht, go_sem, hc]
theorem d_loadAg {t e : TypeId} {x : Operand} {b i n bytes : Nat} {z : Value} {cs vs : List Value} (ht : Ag P t) (hz : TI P t n bytes z) (hx : ρ x = ptr b i) (hA : Arr e b cs w) (hv : (cs.drop i).take n = vs) (hn : vs.length = n) : DV P ⟨d, .load t x, tt, s, af, g⟩ ρ w (.agg vs.toArray) := by
 refine Does.of_value (v := .agg vs.toArray) (w' := w) (by simp) ?_ ⟨rfl, rfl⟩
 have hl : (loadCells ⟨b, i, none⟩ vs.length).run P w = .ok vs.toArray w := run_loadCells_list (P := P) w _ vs (fun j v hj => by
  rw [add0]
  refine hA.cell ?_
  rw [← hv] at hj
  rw [List.getElem?_take] at hj
  split at hj
  ·rw [List.getElem?_drop] at hj; exact hj
  ·cases hj)
 have hx' : ρ x = .pointer (some ⟨b, i, none⟩) := hx
 rw [hn] at hl
 have hl' : (loadCellsFrom ⟨b, i, none⟩ 0 n #[]).run P w = .ok vs.toArray w := hl
 simp [execOp, Instr.loadAt, Instr.sureAddr, hx', loadVar, run_isAgg_agg ht, hz.size, go_sem, hl']
def Wrote (e : TypeId) (b : Nat) (cs : List Value) (w : World) : Value → World → Prop := fun _ w' => Arr e b cs w' ∧ Only (Is1 b) w w'
theorem d_store {t e : TypeId} {x y : Operand} {b i bytes : Nat} {z : Value} {cs cs' : List Value} {v : Value} (hz : TI P t 1 bytes z) (hx : ρ x = ptr b i) (hy : ρ y = v) (hv : v.oneCell' = true) (hA : Arr e b cs w) (hi : i < cs.length) (hc : cs.set i v = cs') :
  Does P ⟨d, .store t x y, tt, s, af, g⟩ ρ w (Wrote e b cs' w) := by
 subst hc
 have hcell : (w.cell? ⟨b, i, none⟩).isSome = true := by rw [hA.cell (List.getElem?_eq_getElem hi)]; rfl
 refine Does.of_skip (w' := w.setCell ⟨b, i, none⟩ v) (by simp) ?_ ⟨hA.set hi v, only_set (p := ⟨b, i, none⟩) w v⟩
 have hx' : ρ x = .pointer (some ⟨b, i, none⟩) := hx
 have hf := hA.frozen (i := i)
 have hcs : v.cells = #[v] := by cases v <;> first | rfl | (simp [Value.oneCell'] at hv)
 obtain ⟨c, hc⟩ := Option.isSome_iff_exists.1 hcell
 have h0 : (⟨b, i, none⟩ : Addr).add 0 = ⟨b, i, none⟩ := rfl
 have hst : (store ⟨b, i, none⟩ v).run P w = .ok () (w.setCell ⟨b, i, none⟩ v) := by
  rw [run_store P w _ v _ hv, hc]
  simp [hf]
 have hsv : (storeVar t ⟨b, i, none⟩ v).run P w = .ok () (w.setCell ⟨b, i, none⟩ v) := by
  unfold storeVar
  rw [hcs]
  simp [hz.size, go_sem, storeCells, h0, hst]
 simp only [execOp, Instr.storeAt, Sem.run_bind, Instr.sureAddr, hx', hy, Sem.run_pure, Result.andThen, hsv]
theorem d_index {t e : TypeId} {x y : Operand} {b o n c sz bytes : Nat} {z : Value} {k : IntKind} {i : Int} {j : Nat} (ht : P.underlying t = some (.slice e)) (hz : TI P e sz bytes z) (hx : ρ x = sli b o n c) (hy : ρ y = .int k i) (h0 : 0 ≤ i) (h1 : i < n) (hj : o + i.toNat * sz = j) :
  DV P ⟨d, .indexAddr t x y, tt, s, af, g⟩ ρ w (ptr b j) := by
 subst hj
 refine Does.of_value (v := ptr b (o + i.toNat * sz)) (w' := w) (by simp) ?_ ⟨rfl, rfl⟩
 have hx' : ρ x = .slice (some ⟨b, o, none⟩) n c := hx
 simp [execOp, Instr.indexAt, hx', hy, asIntOf, run_underlying ht, hz.size, go_sem, h0, h1, add0]
 rfl
theorem d_indexArr {t e : TypeId} {x y : Operand} {b o n sz bytes : Nat} {z : Value} {k : IntKind} {i : Int} {j : Nat} (ht : P.underlying t = some (.array n e)) (hz : TI P e sz bytes z) (hx : ρ x = ptr b o) (hy : ρ y = .int k i) (h0 : 0 ≤ i) (h1 : i < n) (hj : o + i.toNat * sz = j) :
  DV P ⟨d, .indexAddr t x y, tt, s, af, g⟩ ρ w (ptr b j) := by
 subst hj
 refine Does.of_value (v := ptr b (o + i.toNat * sz)) (w' := w) (by simp) ?_ ⟨rfl, rfl⟩
 have hx' : ρ x = .pointer (some ⟨b, o, none⟩) := hx
 simp [execOp, Instr.indexAt, Instr.sureAddr, hx', hy, asIntOf, run_underlying ht, hz.size, go_sem, h0, h1, add0]
 rfl
theorem d_indexS {α : Type} {q : Kd α} {xs : List α} {t e : TypeId} {x y : Operand} {bytes : Nat} {z : Value} {k : IntKind} {i : Int} {X : Nat → Prop} {v : α} {u : Value} (ht : P.underlying t = some (.slice e)) (hz : TI P e q.sz bytes z) (hx : ρ x = u) (hS : Ps X (Seq q xs u) w) (hy : ρ y = .int k i)
  (h0 : 0 ≤ i) (hv : xs[i.toNat]? = some v) : Does P ⟨d, .indexAddr t x y, tt, s, af, g⟩ ρ w fun u' w' => Ps X (At q v u') w ∧ w = w' := by
 obtain ⟨A, c, hu, hc, hel⟩ := hS.now
 obtain ⟨ad, hA, _⟩ := hel i.toNat v hv
 subst hA
 have h1 : i < xs.length := by have := (List.getElem?_eq_some_iff.1 hv).1; omega
 refine Does.of_value (v := .pointer (some (ad.add (i.toNat * q.sz)))) (w' := w) (by simp) ?_ ⟨?_, rfl⟩
 ·subst hu
  simp [execOp, Instr.indexAt, hx, hy, asIntOf, run_underlying ht, hz.size, go_sem, h0, h1]
 ·refine hS.imp (fun w2 h2 => ?_)
  obtain ⟨A2, c2, hu2, _, hel2⟩ := h2
  obtain ⟨ad2, hA2, hat⟩ := hel2 i.toNat v hv
  rw [hu, hA2] at hu2
  injection hu2 with e1 e2 e3
  injection e1 with e1
  subst e1
  exact ⟨_, rfl, hat⟩
theorem d_loadAt {α : Type} {enc : α → Value} {v : α} {t : TypeId} {x : Operand} {X : Nat → Prop} {u : Value} (ht : Sc P t) (hx : ρ x = u) (hA : Ps X (At (kS enc) v u) w) : DV P ⟨d, .load t x, tt, s, af, g⟩ ρ w (enc v) := by
 obtain ⟨p, hu, hc⟩ := hA.now
 subst hu
 have hc' : w.cell? p = some (enc v) := hc
 refine Does.of_value (v := enc v) (w' := w) (by simp) ?_ ⟨rfl, rfl⟩
 simp [execOp, Instr.loadAt, Instr.sureAddr, hx, loadVar, run_isAgg_sc ht, go_sem, hc']
end
end Go.Proofs.YtpamdlnobekihaaF
namespace Go.Proofs.YtpamdlnobekihaaF
open Go Shelf YtpamdlnobekihaaS
def Bd (ρ : Operand → Value) (lo : Option Operand) (dflt l : Nat) : Prop := match lo with
 | none => l = dflt
 | some o => ∃ k, ρ o = .int k (l : Int)
theorem Bd.none {ρ : Operand → Value} {n : Nat} : Bd ρ none n n := rfl
theorem Bd.some {ρ : Operand → Value} {o : Operand} {dflt l : Nat} {k : IntKind} (h : ρ o = .int k (l : Int)) : Bd ρ (some o) dflt l := ⟨k, h⟩
section
variable {P : Program} {d : Option Tmp} {tt : TypeId} {s : String} {af : Array Edge} {g : Option (Nat × Bool)} {ρ : Operand → Value} {w : World}
theorem d_len {t e : TypeId} {x : Operand} {A : Option Addr} {n c : Nat} {ts : Array TypeId} (hts : ts[0]? = some t) (ht : P.underlying t = some (.slice e)) (hx : ρ x = .slice A n c) : DV P ⟨d, .call ⟨.builtin .len, #[x], ts⟩, tt, s, af, g⟩ ρ w (.int .i64 (n : Int)) := by
 refine Does.of_value (v := .int .i64 (n : Int)) (w' := w) (by simp) ?_ ⟨rfl, rfl⟩
 simp [execOp, resolve, invoke, builtin, Builtin.len_, hx, hts, run_underlying ht, go_sem, goInt]
theorem d_lenS {α : Type} {q : Kd α} {xs : List α} {X : Nat → Prop} {t e : TypeId} {x : Operand} {u : Value} {ts : Array TypeId} (hts : ts[0]? = some t) (ht : P.underlying t = some (.slice e)) (hx : ρ x = u) (hS : Ps X (Seq q xs u) w) : DV P ⟨d, .call ⟨.builtin .len, #[x], ts⟩, tt, s, af, g⟩ ρ w (.int .i64 (xs.length : Int)) := by
 obtain ⟨A, c, hu, _, _⟩ := hS.now
 exact d_len hts ht (hx.trans hu)
theorem run_sl {t e : TypeId} {sz bytes : Nat} {z : Value} {A : Option Addr} {n c l h : Nat} {lo hi : Option Operand} (ht : P.underlying t = some (.slice e)) (hz : TI P e sz bytes z) (hlo : Bd ρ lo 0 l) (hhi : Bd ρ hi n h) (h1 : l ≤ h) (h2 : h ≤ c) :
  (Instr.sliceAt t (.slice A n c) (lo.map ρ) (hi.map ρ) none).run P w = .ok (.slice (if c = l then A else A.map (·.add (l * sz))) (h - l) (c - l)) w := by
 have e1 : ((l : Int).toNat) = l := by omega
 have e2 : ((h : Int).toNat) = h := by omega
 have g1 : (0 : Int) ≤ (l : Int) := by omega
 have g2 : (0 : Int) ≤ (h : Int) := by omega
 have g3 : (l : Int) ≤ (h : Int) := by omega
 have g4 : (h : Int) ≤ (c : Int) := by omega
 have g5 : ¬ h < l := by omega
 have sb : ∀ {kk : IntKind} {a b : Nat} {cd : BoundsCode}, a ≤ b → (Instr.sliceBound (.int kk (a : Int)) b cd).run P w = .ok a w := by
  intro kk a b cd hab
  have q1 : (0 : Int) ≤ (a : Int) ∧ (a : Int) ≤ (b : Int) := by omega
  simp [Instr.sliceBound, asIntOf, go_sem, q1]
 have hsz := hz.size w
 cases lo with
 | none =>
  have hl : l = 0 := hlo
  subst hl
  cases hi with
  | none =>
   have hh : h = n := hhi
   subst hh
   simp [Instr.sliceAt, run_underlying ht, Instr.slice, Instr.sliceBounds, go_sem, hsz]
  | some o =>
   obtain ⟨k, ho⟩ := hhi
   simp [Instr.sliceAt, run_underlying ht, Instr.slice, Instr.sliceBounds, go_sem, hsz, ho, sb h2]
 | some o1 =>
  obtain ⟨k1, ho1⟩ := hlo
  cases hi with
  | none =>
   have hh : h = n := hhi
   subst hh
   simp [Instr.sliceAt, run_underlying ht, Instr.slice, Instr.sliceBounds, go_sem, hsz, ho1, sb h1]
  | some o =>
   obtain ⟨k, ho⟩ := hhi
   simp [Instr.sliceAt, run_underlying ht, Instr.slice, Instr.sliceBounds, go_sem, hsz, ho, ho1, sb h1, sb h2, g5]
theorem d_slice {t e : TypeId} {x : Operand} {sz bytes : Nat} {z : Value} {b o n c l h o' : Nat} {lo hi : Option Operand} (ht : P.underlying t = some (.slice e)) (hz : TI P e sz bytes z) (hx : ρ x = sli b o n c) (hlo : Bd ρ lo 0 l) (hhi : Bd ρ hi n h) (h1 : l ≤ h) (h2 : h ≤ c)
  (ho : (if c = l then o else o + l * sz) = o') : DV P ⟨d, .slice t x lo hi none, tt, s, af, g⟩ ρ w (sli b o' (h - l) (c - l)) := by
 subst ho
 refine Does.of_value (v := sli b _ (h - l) (c - l)) (w' := w) (by simp) ?_ ⟨rfl, rfl⟩
 have hx' : ρ x = .slice (some ⟨b, o, none⟩) n c := hx
 have := run_sl (P := P) (w := w) (A := some ⟨b, o, none⟩) ht hz hlo hhi h1 h2
 simp only [execOp, hx', Sem.run_bind, Option.map_none, this, Result.andThen, Sem.run_pure]
 unfold sli
 split
 ·rfl
 ·simp [add0]
theorem push_fold : ∀ (l : List UInt8) (r : ByteArray), (l.map fun x : UInt8 => (x.toNat : Int)).foldl (fun r n => r.push (UInt8.ofNat n.toNat)) r = ⟨r.data ++ l.toArray⟩
 | [], r => by simp
 | x :: l, r => by
  simp only [List.map_cons, List.foldl_cons]
  rw [push_fold l]
  have : UInt8.ofNat ((x.toNat : Int)).toNat = x := by simp
  rw [this]
  cases r
  simp [ByteArray.push]
theorem d_str {src dst e : TypeId} {x : Operand} {u : Value} {l : List UInt8} {X : Nat → Prop} (hs : P.underlying src = some (.slice e)) (he : P.underlying e = some (.int .u8)) (hd : P.underlying dst = some .string) (hx : ρ x = u) (hS : Ps X (Seq kB l u) w) :
  DV P ⟨d, .convert src dst x, tt, s, af, g⟩ ρ w (.string (strOf l)) := by
 obtain ⟨A, c, hu, hc, hel⟩ := hS.now
 subst hu
 refine Does.of_value (v := .string (strOf l)) (w' := w) (by simp) ?_ ⟨rfl, rfl⟩
 have key : (Conv.bytesToString (.slice A l.length c)).run P w = .ok (.string (strOf l)) w := by
  cases l with
  | nil =>
   cases A with
   | none => rfl
   | some a =>
    have hl : (loadCells a 0).run P w = .ok (([] : List Int).map (Value.int .u8)).toArray w := rfl
    exact run_bytesToString w a 0 c [] hl
  | cons y r =>
   obtain ⟨ad, hA, _⟩ := hel 0 y rfl
   subst hA
   have hl : (loadCells ad (y :: r).length).run P w = .ok (((y :: r).map fun x : UInt8 => (x.toNat : Int)).map (Value.int .u8)).toArray w := by
    have := run_loadCells_list (P := P) w ad ((y :: r).map eB) (fun j v hj => by
     rw [List.getElem?_map] at hj
     cases hq : (y :: r)[j]? with
     | none => rw [hq] at hj; cases hj
     | some v' =>
      rw [hq] at hj
      obtain ⟨ad2, h1, h2⟩ := hel j v' hq
      injection h1 with h1
      subst h1
      have h3 : w.cell? (ad.add (j * 1)) = some (eB v') := h2
      rw [Nat.mul_one] at h3
      rw [h3]
      exact hj)
    rw [List.length_map] at this
    rw [this, List.map_map]
    rfl
   rw [run_bytesToString w ad _ c _ hl, push_fold]
   simp [strOf]
 simp only [execOp, hx, Sem.run_bind, convert, run_underlying hs, run_underlying hd, run_underlying he, key, Result.andThen, Sem.run_pure]
def Isq (bo : Option Nat) : Nat → Prop := fun k => bo = some k
def Orq (bo : Option Nat) (X : Nat → Prop) : Nat → Prop := fun k => bo = some k ∨ X k
def Ow (e : TypeId) (sz : Nat) (bo : Option Nat) (u : Value) (n : Nat) (cs : List Value) (w : World) : Prop :=
 (bo = none ∧ u = .slice none 0 0 ∧ n = 0 ∧ cs = []) ∨ ∃ b cap rest, bo = some b ∧ u = sli b 0 n cap ∧ n ≤ cap ∧ Arr e b (cs ++ rest) w ∧ cs.length = n * sz ∧ rest.length = (cap - n) * sz
theorem Ow.step {e : TypeId} {sz n : Nat} {bo : Option Nat} {u : Value} {cs : List Value} {w w' : World} {T : Nat → Prop} (h : Ow e sz bo u n cs w) (hO : Only T w w') (hT : ∀ b, bo = some b → ¬ T b) : Ow e sz bo u n cs w' := by
 rcases h with h | ⟨b, cap, rest, h1, h2, h3, h4, h5⟩
 ·exact .inl h
 ·exact .inr ⟨b, cap, rest, h1, h2, h3, h4.step hO (hT b h1), h5⟩
theorem Ow.step0 {e : TypeId} {sz n : Nat} {bo : Option Nat} {u : Value} {cs : List Value} {w w' : World} (h : Ow e sz bo u n cs w) (hO : Only No w w') : Ow e sz bo u n cs w' := h.step hO fun _ _ => id
theorem Ow.nil (e : TypeId) (sz : Nat) (w : World) : Ow e sz none (.slice none 0 0) 0 [] w := .inl ⟨rfl, rfl, rfl, rfl⟩
theorem Ow.of_made {e : TypeId} {sz n b : Nat} {cs : List Value} {w : World} (h : Arr e b cs w) (hn : cs.length = n * sz) : Ow e sz (some b) (sli b 0 n n) n cs w :=
 .inr ⟨b, n, [], rfl, rfl, Nat.le_refl _, by simpa using h, hn, by simp⟩
theorem Ow.lt {e : TypeId} {sz n b : Nat} {u : Value} {cs : List Value} {w : World} (h : Ow e sz (some b) u n cs w) : b < w.heap.size := by
 rcases h with ⟨h, _⟩ | ⟨b', cap, rest, h1, h2, h3, h4, h5⟩
 ·cases h
 ·injection h1 with h1; subst h1; exact h4.lt
theorem Ow.seq {α : Type} {enc : α → Value} {e : TypeId} {bo : Option Nat} {u : Value} {xs : List α} {w : World} {n : Nat} {X : Nat → Prop} (h : Ow e 1 bo u n (xs.map enc) w) (hX : ∀ b, bo = some b → ¬ X b) : Ps X (Seq (kS enc) xs u) w := by
 rcases h with ⟨h1, h2, h3, h4⟩ | ⟨b, cap, rest, h1, h2, h3, h4, h5, h6⟩
 ·have : xs = [] := by simpa using h4
  subst this; subst h2
  exact Ps.mk0 fun w => ⟨none, 0, rfl, Nat.le_refl _, fun i x h => by simp at h⟩
 ·have hn : xs.length = n := by simpa using h5
  subst h2; subst hn
  refine (h4.ps fun w' h' => ?_).less (fun k _ hk e => hX b h1 (e ▸ hk))
  refine ⟨_, _, rfl, h3, fun i x hi => ⟨_, rfl, ?_⟩⟩
  show w'.cell? _ = some (enc x)
  rw [add0]
  refine h'.cell ?_
  have hlt := (List.getElem?_eq_some_iff.1 hi).1
  rw [List.getElem?_append_left (by simp [kS]; exact hlt)]
  simp [kS, hi]
def Fr (bo' bo : Option Nat) (n : Nat) : Prop := ∀ c, bo' = some c → bo = some c ∨ n ≤ c
theorem Fr.same {bo : Option Nat} {n : Nat} : Fr bo bo n := fun _ h => .inl h
theorem Fr.none {bo : Option Nat} {n : Nat} : Fr none bo n := fun _ h => by cases h
theorem Fr.new {bo : Option Nat} {b n : Nat} (h : n ≤ b) : Fr (some b) bo n := fun c hc => .inr (by injection hc with hc; omega)
theorem Fr.fresh {bo' bo : Option Nat} {n m : Nat} (h : ∀ c, bo' = some c → m ≤ c) (hm : n ≤ m) : Fr bo' bo n := fun c hc => .inr (Nat.le_trans hm (h c hc))
theorem Fr.of_or {bo' bo : Option Nat} {n : Nat} (h : bo' = bo ∨ ∃ b, bo' = some b ∧ n ≤ b) : Fr bo' bo n := fun c hc => by
 rcases h with h | ⟨b, h, hb⟩
 ·exact .inl (h ▸ hc)
 ·rw [h] at hc; injection hc with hc; exact .inr (by omega)
def SrcV (sz m : Nat) (news : List Value) (x : Value) (w : World) : Prop :=
 ∃ A c, x = .slice A m c ∧ news.length = m * sz ∧ (∀ j v, news[j]? = some v → ∃ ad, A = some ad ∧ w.cell? (ad.add j) = some v) ∧ ∀ u ∈ news, u.oneCell' = true
theorem SrcV.of_seq {α : Type} {enc : α → Value} {X : Nat → Prop} {xs : List α} {u : Value} (hS : Ps X (Seq (kS enc) xs u) w) (h1 : ∀ x, (enc x).oneCell' = true) : SrcV 1 xs.length (xs.map enc) u w := by
 obtain ⟨A, c, hu, hc, hel⟩ := hS.now
 refine ⟨A, c, hu, by simp, fun j v hj => ?_, fun v hv => by obtain ⟨x, _, rfl⟩ := List.mem_map.1 hv; exact h1 x⟩
 rw [List.getElem?_map] at hj
 cases hq : xs[j]? with
 | none => rw [hq] at hj; cases hj
 | some y =>
  rw [hq] at hj
  obtain ⟨ad, hA, hat⟩ := hel j y hq
  refine ⟨ad, hA, ?_⟩
  have h3 : w.cell? (ad.add (j * 1)) = some (enc y) := hat
  rw [Nat.mul_one] at h3
  rw [h3]; exact hj
theorem SrcV.of_arr {e : TypeId} {b n sz cap : Nat} {cs : List Value} (hA : Arr e b cs w) (hn : cs.length = n * sz) (h1 : ∀ u ∈ cs, u.oneCell' = true) : SrcV sz n cs (sli b 0 n cap) w :=
 ⟨_, _, rfl, hn, fun j v hj => ⟨_, rfl, by rw [add0]; exact hA.cell (by simpa using hj)⟩, h1⟩
theorem SrcV.src {sz m bytes : Nat} {news : List Value} {x : Value} {tx e' : TypeId} (h : SrcV sz m news x w) (ht : P.underlying tx = some (.slice e')) : Src P sz tx x m news w := by
 obtain ⟨A, c, hx, hn, hc, h1⟩ := h
 subst hx
 have key : ∀ w' : World, (∀ a, w'.cell? a = w.cell? a) → (Builtin.firstCells sz m (.slice A m c)).run P w' = .ok news.toArray w' := by
  intro w' hw
  cases A with
  | none =>
   have : news = [] := by
    cases news with
    | nil => rfl
    | cons v r => obtain ⟨ad, h, _⟩ := hc 0 v rfl; cases h
   subst this
   rfl
  | some a =>
   have := run_loadCells_list (P := P) w' a news (fun j v hj => by
    obtain ⟨ad, h, h'⟩ := hc j v hj
    injection h with h
    subst h
    rw [hw]; exact h')
   rw [hn] at this
   exact this
 exact ⟨.inl ⟨e', ht⟩, fun _ => rfl, key w fun _ => rfl, key w.drew fun _ => rfl, hn, h1⟩
theorem only_setCells {b : Nat} : ∀ (vs : List Value) (o : Nat) (w : World), Only (Is1 b) w (w.setCells b o vs)
 | [], _, w => Only.refl _ w
 | v :: r, o, w => (only_set (p := ⟨b, o, none⟩) w v).trans (only_setCells r (o + 1) _)
theorem Arr.setCells {e : TypeId} {b : Nat} : ∀ (vs : List Value) (o : Nat) (cs : List Value) (w : World), Arr e b cs w → o + vs.length ≤ cs.length → Arr e b (cs.take o ++ vs ++ cs.drop (o + vs.length)) (w.setCells b o vs)
 | [], o, cs, w, h, _ => by simpa [World.setCells] using h
 | v :: r, o, cs, w, h, hl => by
  simp only [List.length_cons] at hl
  have h1 := h.set (i := o) (by omega) v
  have h2 := Arr.setCells r (o + 1) (cs.set o v) _ h1 (by rw [List.length_set]; omega)
  have : (cs.set o v).take (o + 1) ++ r ++ (cs.set o v).drop (o + 1 + r.length) = cs.take o ++ (v :: r) ++ cs.drop (o + (v :: r).length) := by
   rw [List.take_set, List.drop_set_of_lt (by omega), List.take_succ_eq_append_getElem (by omega)]
   have hlt : o < cs.length := by omega
   rw [List.set_append_right _ _ (by rw [List.length_take]; omega)]
   have h0 : o - (cs.take o).length = 0 := by rw [List.length_take]; omega
   rw [h0]
   simp [Nat.add_assoc, Nat.add_comm 1]
  rw [this] at h2
  exact h2
theorem growBy_le (need : Nat) : ∀ (r c : Nat), c < need → Builtin.growBy need r c ≤ need + (need + 768) / 4
 | 0, c, h => by simp [Builtin.growBy]; omega
 | r + 1, c, h => by
  unfold Builtin.growBy
  rw [if_neg (by omega)]
  by_cases h2 : c + (c + 768) / 4 < need
  ·exact growBy_le need r _ h2
  ·cases r with
   | zero => simp [Builtin.growBy]; omega
   | succ r => unfold Builtin.growBy; rw [if_pos (by omega)]; omega
theorem nextcap_le {need old : Nat} (h : old < need) : Builtin.nextslicecap need old ≤ 2 * need + 192 := by
 unfold Builtin.nextslicecap
 split
 ·omega
 ·split
  ·omega
  ·have := growBy_le need 4 old h; omega
def Appended (e : TypeId) (sz : Nat) (bo : Option Nat) (n : Nat) (cs : List Value) (w : World) : Value → World → Prop := fun u' w' =>
 ∃ bo', Ow e sz bo' u' n cs w' ∧ Only (Isq bo) w w' ∧ (bo' = bo ∨ ∃ b, bo' = some b ∧ w.heap.size ≤ b)
theorem d_append {t tx e e' : TypeId} {x y : Operand} {sz bytes n m : Nat} {z : Value} {bo : Option Nat} {u v : Value} {cs news : List Value} {ts : Array TypeId} (ht : P.underlying t = some (.slice e)) (htx : P.underlying tx = some (.slice e')) (hz : TI P e sz bytes z) (hzc : z.cells.size = sz)
  (hx : ρ x = u) (hy : ρ y = v) (hO : Ow e sz bo u n cs w) (hs : SrcV sz m news v w) (hb : (2 * (n + m) + 192) * bytes ≤ 281474976710656) (hm : n + m < 2 ^ 62) (hts : ts = #[t, tx]) :
  Does P ⟨d, .call ⟨.builtin .append, #[x, y], ts⟩, tt, s, af, g⟩ ρ w (Appended e sz bo (n + m) (cs ++ news) w) := by
 subst hts
 obtain ⟨i, hi, hby, hsz, hze⟩ := hz.info
 have hsrc := hs.src (P := P) (bytes := 0) htx
 have hnl := hsrc.newsLen
 rw [← hsz] at hsrc
 suffices hmain : ∃ u' w', (Builtin.append_ #[t, tx] tt #[u, v]).run P w = .ok u' w' ∧ Appended e sz bo (n + m) (cs ++ news) w u' w' by
  obtain ⟨u', w', hr, hA⟩ := hmain
  refine Does.of_value (v := u') (w' := w') (by simp) ?_ hA
  simp only [execOp, resolve, Sem.run_bind, Sem.run_pure, Result.andThen, invoke, builtin, List.map_toArray, List.map_cons, List.map_nil, hx, hy, hr]
 have hgrow : ∀ (base : Option Addr) (cap : Nat), u = .slice base n cap → cap < n + m → (Builtin.firstCells i.size n (.slice base n cap)).run P w.drew = .ok cs.toArray w.drew → cs.length = n * sz →
   ∃ u' w', (Builtin.append_ #[t, tx] tt #[u, v]).run P w = .ok u' w' ∧ Appended e sz bo (n + m) (cs ++ news) w u' w' := by
  intro base cap hu hlt hold hcs
  subst hu
  have hnc := nextcap_le hlt
  have hfit : Builtin.nextslicecap (n + m) cap * i.bytes ≤ 281474976710656 := by
   rw [hby]
   exact Nat.le_trans (Nat.mul_le_mul_right _ hnc) hb
  refine ⟨_, _, run_append_grow_src w t tx tt e i z ht hi hze base n cap cs hold v m news hsrc hlt (by omega) hfit, ?_⟩
  have hcap : n + m ≤ grownCap w (n + m) cap e := by unfold grownCap Question.cut; simp
  have hzl : (Builtin.zeroCells z.cells (grownCap w (n + m) cap e - (n + m))).toList.length = (grownCap w (n + m) cap e - (n + m)) * sz := by
   simp [Builtin.zeroCells, hzc]
  refine ⟨some w.heap.size, .inr ⟨w.heap.size, _, (Builtin.zeroCells z.cells (grownCap w (n + m) cap e - (n + m))).toList, rfl, rfl, hcap, ?_, ?_, hzl⟩, ?_, .inr ⟨_, rfl, Nat.le_refl _⟩⟩
  ·have := Arr.new w.drew e ((cs ++ news) ++ (Builtin.zeroCells z.cells (grownCap w (n + m) cap e - (n + m))).toList)
   have h2 : ((cs ++ news) ++ (Builtin.zeroCells z.cells (grownCap w (n + m) cap e - (n + m))).toList).toArray = (cs ++ news).toArray ++ Builtin.zeroCells z.cells (grownCap w (n + m) cap e - (n + m)) := by
    apply Array.ext'; simp
   rw [h2] at this
   exact this
  ·rw [List.length_append, hcs, hnl, Nat.add_mul]
  ·have hd : Only No w w.drew := ⟨rfl, rfl, rfl, Nat.le_refl _, fun _ _ _ => rfl⟩
   exact No.any (hd.trans (only_alloc _ _))
 rcases hO with ⟨h1, h2, h3, h4⟩ | ⟨b, cap, rest, h1, h2, h3, h4, h5, h6⟩
 ·subst h1; subst h2; subst h3; subst h4
  by_cases hm0 : m = 0
  ·subst hm0
   have hn0 : news = [] := List.eq_nil_of_length_eq_zero (by omega)
   subst hn0
   refine ⟨.slice none 0 0, w, ?_, none, Ow.nil _ _ _, Only.refl _ _, .inl rfl⟩
   obtain ⟨A, c, hv, _⟩ := hs
   subst hv
   cases A <;> simp [Builtin.append_, run_underlying ht, run_underlying htx, go_sem, sizeOf, typeInfo, hi, Builtin.lenOf, Builtin.firstCells, loadCellsFrom]
  ·exact hgrow none 0 rfl (by omega) rfl (by simp)
 ·by_cases hroom : n + m ≤ cap
  ·subst h1
   have hlen : (cs ++ rest).length = cap * sz := by
    rw [List.length_append, h5, h6, ← Nat.add_mul]; congr 1; omega
   have hnc : n * sz + news.length ≤ (cs ++ rest).length := by
    rw [hlen, hnl, ← Nat.add_mul]; exact Nat.mul_le_mul_right _ hroom
   have hrun := run_append_room_src w t tx tt e i ht hi b 0 n cap v m news hsrc hroom (fun j hj => by
     rw [hsz, Nat.zero_add, h4.cell (List.getElem?_eq_getElem (by omega))]; rfl) (fun j hj => h4.frozen)
   rw [h2]
   refine ⟨_, _, hrun, some b, .inr ⟨b, cap, rest.drop news.length, rfl, rfl, hroom, ?_, ?_, ?_⟩, (only_setCells _ _ _).mono (fun k _ h => (congrArg some h).symm), .inl rfl⟩
   ·rw [hsz, Nat.zero_add]
    have := Arr.setCells news (n * sz) _ w h4 hnc
    rw [← h5, List.take_append_of_le_length (Nat.le_refl _), List.take_length, List.drop_append] at this
    have e1 : List.drop (cs.length + news.length) cs = [] := List.drop_of_length_le (by omega)
    have e2 : cs.length + news.length - cs.length = news.length := by omega
    rw [e1, e2, List.nil_append] at this
    exact h5 ▸ this
   ·rw [List.length_append, h5, hnl, Nat.add_mul]
   ·rw [List.length_drop, h6, hnl, ← Nat.sub_mul]; congr 1; omega
  ·refine hgrow (some ⟨b, 0, none⟩) cap h2 (by omega) ?_ h5
   have := run_loadCells_list (P := P) w.drew ⟨b, 0, none⟩ cs (fun j v hj => by
    rw [add0]
    have h7 : w.cell? ⟨b, 0 + j, none⟩ = some v := h4.cell (by rw [Nat.zero_add, List.getElem?_append_left (List.getElem?_eq_some_iff.1 hj).1]; exact hj)
    exact h7)
   rw [h5, ← hsz] at this
   exact this
end
end Go.Proofs.YtpamdlnobekihaaF
namespace Go.Proofs.YtpamdlnobekihaaF
open Go Shelf YtpamdlnobekihaaS
def marks (rs : List Nat) : List Deferred := rs.map fun r => { target := .collected r, args := #[] }
def MarksOk (rs : List Nat) (w : World) : Prop := rs.Nodup ∧ ∀ r ∈ rs, w.heap[r]? = some (.deferred (some []))
def fm (l : List Value) (rs : List Nat) : Act := fr l (marks rs)
section
variable {P : Program} {r : Option Nat} {Q : Exit → Act → World → Prop} {K : Act → World → Prop} {a : Act} {w : World} {l : List Value} {ds : List Deferred} {x y : Code} {id id' : Nat}
theorem then_n (h : K a w) : Exit.then K Q .normal a w := h
theorem then_x (h : Q (.exit id) a w) : Exit.then K Q (.exit id) a w := h
theorem then_r (h : Q .ret a w) : Exit.then K Q .ret a w := h
theorem inb_n (h : Q .normal a w) : Exit.inBlock id Q .normal a w := h
theorem inb_r (h : Q .ret a w) : Exit.inBlock id Q .ret a w := h
theorem inb_e (h : Q .normal a w) : Exit.inBlock id Q (.exit id) a w := by simp only [Exit.inBlock, if_true]; exact h
theorem inb_x (hne : id' ≠ id) (h : Q (.exit id') a w) : Exit.inBlock id Q (.exit id') a w := by simp only [Exit.inBlock, if_neg hne]; exact h
theorem wp_eq {l' : List Value} {c : Code} (h : l = l') (hc : c.wpIn (Wf r) 0 P Q (fr l' ds) w) : c.wpIn (Wf r) 0 P Q (fr l ds) w := by rw [h]; exact hc
theorem cond_t {t : Tmp} (hc : nth l t = .bool true) (h : x.wpIn (Wf r) 0 P Q (fr l ds) w) : (Code.cond (.tmp t) x y).wpIn (Wf r) 0 P Q (fr l ds) w := wpIn_cond_true (by rw [fr_eval]; exact hc) h
theorem cond_f {t : Tmp} (hc : nth l t = .bool false) (h : y.wpIn (Wf r) 0 P Q (fr l ds) w) : (Code.cond (.tmp t) x y).wpIn (Wf r) 0 P Q (fr l ds) w := wpIn_cond_false (by rw [fr_eval]; exact hc) h
theorem loop {c : Code} {σ : Type} (Inv : σ → List Value → List Deferred → World → Prop) (μ : σ → Nat) (s0 : σ) (h0 : Inv s0 l ds w)
  (round : ∀ s l ds w, Inv s l ds w → c.wpIn (Wf r) 0 P (Exit.then (fun a' w' => ∃ s' l' ds', a' = fr l' ds' ∧ Inv s' l' ds' w' ∧ μ s' < μ s) Q) (fr l ds) w) : (Code.loop c).wpIn (Wf r) 0 P Q (fr l ds) w := by
 refine wpIn_loop_rounds (μ s0 + 1) ?_
 have key : ∀ m s l ds w, μ s < m → Inv s l ds w → Code.roundsIn (Wf r) 0 P c Q m (fr l ds) w := by
  intro m
  induction m with
  | zero => intro s l ds w h; omega
  | succ m ih =>
   intro s l ds w h hI
   rw [roundsIn_succ]
   refine wpIn_mono (round s l ds w hI) ?_
   intro e a w he
   cases e with
   | normal =>
    obtain ⟨s', l', ds', rfl, hI', hlt⟩ := he
    exact ih s' l' ds' w (by omega) hI'
   | _ => exact he
 exact key _ s0 l ds w (by omega) h0
theorem loop2 {c : Code} {σ : Type} (shape : σ → (Nat → Value) → List Value) (Inv : σ → World → Prop) (μ : σ → Nat) (s0 : σ) (hl : l = shape s0 (nth l)) (h0 : Inv s0 w)
  (round : ∀ s z w, Inv s w → c.wpIn (Wf r) 0 P (Exit.then (fun a' w' => ∃ l' s', a' = fr l' ds ∧ l' = shape s' (nth l') ∧ Inv s' w' ∧ μ s' < μ s) Q) (fr (shape s z) ds) w) : (Code.loop c).wpIn (Wf r) 0 P Q (fr l ds) w := by
 refine loop (σ := σ) (fun s l ds' w => ds' = ds ∧ (∃ z, l = shape s z) ∧ Inv s w) μ s0 ⟨rfl, ⟨_, hl⟩, h0⟩ ?_
 rintro s _ _ w ⟨rfl, ⟨z, rfl⟩, hI⟩
 refine wpIn_mono (round s z w hI) ?_
 intro e a w he
 cases e with
 | normal =>
  obtain ⟨l', s', rfl, hl', hI', hlt⟩ := he
  exact ⟨s', l', _, rfl, ⟨rfl, ⟨_, hl'⟩, hI'⟩, hlt⟩
 | _ => exact he
theorem cond_if {t : Tmp} {p : Prop} [Decidable p] (hc : nth l t = .bool (decide p)) (ht : p → x.wpIn (Wf r) 0 P Q (fr l ds) w) (hf : ¬p → y.wpIn (Wf r) 0 P Q (fr l ds) w) : (Code.cond (.tmp t) x y).wpIn (Wf r) 0 P Q (fr l ds) w := by
 by_cases h : p
 ·exact cond_t (hc.trans (by rw [decide_eq_true h])) (ht h)
 ·exact cond_f (hc.trans (by rw [decide_eq_false h])) (hf h)
theorem cond_un {t : Tmp} {p : Prop} [Decidable p] (hc : nth l t = .bool (!decide p)) (ht : ¬p → x.wpIn (Wf r) 0 P Q (fr l ds) w) (hf : p → y.wpIn (Wf r) 0 P Q (fr l ds) w) : (Code.cond (.tmp t) x y).wpIn (Wf r) 0 P Q (fr l ds) w := by
 by_cases h : p
 ·exact cond_f (hc.trans (by rw [decide_eq_true h]; rfl)) (hf h)
 ·exact cond_t (hc.trans (by rw [decide_eq_false h]; rfl)) (ht h)
theorem cond_b {t : Tmp} {b : Bool} (hc : nth l t = .bool b) (ht : b = true → x.wpIn (Wf r) 0 P Q (fr l ds) w) (hf : b = false → y.wpIn (Wf r) 0 P Q (fr l ds) w) : (Code.cond (.tmp t) x y).wpIn (Wf r) 0 P Q (fr l ds) w := by
 cases b
 ·exact cond_f hc (hf rfl)
 ·exact cond_t hc (ht rfl)
theorem enter {f : FuncId} {fn : Func} {c : Code} {al : List Value} {n k : Nat} {R : Value → World → Prop} (hf : P.funcs[f]? = some fn) (hb : fn.body = some c) (hn : fn.ntmps = n) (hk : n - al.length = k) (hl : al ++ List.replicate k undef = l)
  (h : c.wpIn (Wf none) 0 P (bodyPostM Fence.wide 0 P fn (Rt R)) (fr l []) w) : CW P f al.toArray w (Rt R) := by
 refine callsIn_of_wp_marks hf hb trivial ?_ rfl
 have e : al.toArray ++ Array.replicate (fn.ntmps - al.toArray.size) undef = l.toArray := by
  rw [hn, List.size_toArray, hk, ← hl]
  apply Array.ext'
  simp
 rw [e]
 exact h
theorem leave {fn : Func} {R : Value → World → Prop} {v : Value} {rs : List Nat} (hm : MarksOk rs w) (hres : ∀ w', Only (· ∈ rs) w w' → (results fn l.toArray).run P w' = .ok v w' ∧ R v w') :
  bodyPostM Fence.wide 0 P fn (Rt R) .ret (fr l (marks rs)) w := by
 show LeavesInM Fence.wide 0 P fn l.toArray (Rt R) (marks rs) .returning w
 induction rs generalizing w with
 | nil =>
  obtain ⟨h1, h2⟩ := hres w (Only.refl _ _)
  exact ⟨v, h1, v, rfl, h2⟩
 | cons r rs ih =>
  obtain ⟨hn, hall⟩ := hm
  rw [List.nodup_cons] at hn
  have hr := hall r List.mem_cons_self
  have hrun := run_takeDeferred (P := P) hr
  have ho : Only (· ∈ r :: rs) w (w.putObj r (.deferred none)) := (Only.refl _ _).putObj (T := (· ∈ r :: rs)) List.mem_cons_self _
  refine ⟨by simp, .inl ⟨r, _, rfl, hrun, ih ⟨hn.2, fun r' hr' => ?_⟩ (fun w' hw' => hres w' (ho.trans (hw'.mono fun k _ hk => List.mem_cons_of_mem _ hk)))⟩⟩
  have hne : r' ≠ r := fun e => hn.1 (e ▸ hr')
  exact (World.putObj_heap_other hne).trans (hall r' (List.mem_cons_of_mem _ hr'))
theorem leave0 {fn : Func} {R : Value → World → Prop} {v : Value} (hres : (results fn l.toArray).run P w = .ok v w) (hR : R v w) : bodyPostM Fence.wide 0 P fn (Rt R) .ret (fr l []) w := ⟨v, hres, v, rfl, hR⟩
theorem to_ret {fn : Func} {R : Ending → World → Prop} (h : bodyPostM Fence.wide 0 P fn R .ret a w) : bodyPostM Fence.wide 0 P fn R .normal a w := h
theorem res0 {fn : Func} (hr : fn.results = #[]) : (results fn l.toArray).run P w = .ok (.tuple #[]) w := by
 unfold results; rw [hr]; simp [Sem.run_pure]
theorem res1 {fn : Func} {t : Tmp} {v : Value} (hr : fn.results = #[.tmp t]) (hv : nth l t = v) : (results fn l.toArray).run P w = .ok v w := by
 unfold results; rw [hr, ← hv, nth_eq]; simp [Sem.run_pure, go_sem]
theorem res2 {fn : Func} {t t2 : Tmp} {v v2 : Value} (hr : fn.results = #[.tmp t, .tmp t2]) (hv : nth l t = v) (hv2 : nth l t2 = v2) : (results fn l.toArray).run P w = .ok (.tuple #[v, v2]) w := by
 unfold results; rw [hr, ← hv, ← hv2, nth_eq, nth_eq]; simp [Sem.run_pure, go_sem]
end
section
variable {r : Option Nat} {P : Program} {ops : Array Oper} {Q : Exit → Act → World → Prop} {l : List Value} {ds : List Deferred} {w w' W : World} {o : Oper} {rest : List Oper} {T X : Nat → Prop} {b : Nat} {bo bo' : Option Nat}
theorem wpL.is {v : Value} (hg : o.guard = none) (h : DV P o (ev l) w v) (hk : wpL r P ops Q rest (lput l o.dst v) ds w) : wpL r P ops Q (o :: rest) l ds w := wpL.op hg h (by rintro _ _ ⟨rfl, rfl⟩; exact hk)
theorem wpL.onis {v : Value} {g : Nat} {u : Bool} {og : Oper} {t : Tmp} (hg : o.guard = some (g, u)) (ho : ops[g]? = some og) (hd : og.dst = some t) (hl : t < l.length) (hv : nth l t = .bool u)
  (h : DV P o (ev l) w v) (hk : wpL r P ops Q rest (lput l o.dst v) ds w) : wpL r P ops Q (o :: rest) l ds w := wpL.on hg ho hd hl hv h (by rintro _ _ ⟨rfl, rfl⟩; exact hk)
theorem _root_.Go.Proofs.YtpamdlnobekihaaS.Only.tail {T' : Nat → Prop} (h : Only T W w) (h2 : Only T' w w') (hT : ∀ k, k < W.heap.size → T' k → T k) : Only T W w' :=
 ⟨h2.os.trans h.os, h2.tape.trans h.tape, h2.output.trans h.output, Nat.le_trans h.size h2.size, fun k hk ht => (h2.same k (Nat.lt_of_lt_of_le hk h.size) fun t => ht (hT k hk t)).trans (h.same k hk ht)⟩
theorem _root_.Go.Proofs.YtpamdlnobekihaaS.Only.tail0 (h : Only T W w) (h2 : Only No w w') : Only T W w' := h.tail h2 fun _ _ t => t.elim
theorem _root_.Go.Proofs.YtpamdlnobekihaaS.Only.tailb (h : Only T W w) (h2 : Only (Is1 b) w w') (hb : W.heap.size ≤ b) : Only T W w' := h.tail h2 fun k hk t => by have : k = b := t; omega
theorem or1_mono {O X : Nat → Prop} (h : ∀ k, O k → X k) : ∀ k, Or1 b O k → Or1 b X k := fun k t => t.imp id (h k)
theorem orq_mono {O X : Nat → Prop} (h : ∀ k, O k → X k) : ∀ k, Orq bo O k → Orq bo X k := fun k t => t.imp id (h k)
theorem no_any {X : Nat → Prop} : ∀ k, No k → X k := fun _ t => t.elim
theorem or1_old {X : Nat → Prop} {n m : Nat} (hb : b < n) (h : ∀ k, k < m → X k → Old n k) : ∀ k, k < m → Or1 b X k → Old n k := fun k hk t => t.elim (fun e => by rw [e]; exact hb) (h k hk)
theorem orq_old {X : Nat → Prop} {n m : Nat} (hb : ∀ b, bo = some b → b < n) (h : ∀ k, k < m → X k → Old n k) : ∀ k, k < m → Orq bo X k → Old n k := fun k hk t => t.elim (fun e => hb k e) (h k hk)
theorem old_old {n n' m : Nat} (h : n ≤ n') : ∀ k, k < m → Old n k → Old n' k := fun k _ t => Nat.lt_of_lt_of_le t h
theorem no_old {n m : Nat} : ∀ k, k < m → No k → Old n k := fun k _ t => t.elim
theorem Ps.qnone {p : World → Prop} (h : Ps X p w) : Ps (Orq none X) p w := h.less fun k _ t => t.elim (fun e => by cases e) id
theorem Ps.stepb {p : World → Prop} (h : Ps X p w) (hO : Only (Is1 b) w w') (hX : X b) : Ps X p w' := h.step hO fun k t => by have : k = b := t; rw [this]; exact hX
theorem in1 {X : Nat → Prop} : Or1 b X b := .inl rfl
theorem in2 {X : Nat → Prop} {c : Nat} (h : X b) : Or1 c X b := .inr h
theorem inq {X : Nat → Prop} (h : X b) : Orq bo X b := .inr h
end
def RIs (v : Value) (w : World) : Value → World → Prop := fun u w' => u = v ∧ Only No w w'
def RPs (q : Value → World → Prop) (w : World) : Value → World → Prop := fun u w' => Ps (Old w.heap.size) (q u) w' ∧ Only No w w'
def ROw {α : Type} (e : TypeId) (enc : α → Value) (xs : List α) (w : World) : Value → World → Prop := fun u w' => ∃ bo, Ow e 1 bo u xs.length (xs.map enc) w' ∧ (∀ b, bo = some b → w.heap.size ≤ b) ∧ Only No w w'
theorem ROw.ps {α : Type} {e : TypeId} {enc : α → Value} {xs : List α} {w w' : World} {u : Value} (h : ROw e enc xs w u w') : RPs (Seq (kS enc) xs) w u w' := by
 obtain ⟨bo, h1, h2, h3⟩ := h
 exact ⟨h1.seq fun b hb t => by have := h2 b hb; exact absurd t (by unfold Old; omega), h3⟩
theorem drawn' {r : Option Nat} {P : Program} {ops : Array Oper} {Q : Exit → Act → World → Prop} {O : Nat → Prop} {l : List Value} {ds : List Deferred} {w0 : World} {n : Nat} {id : Nat} (B : List Nat) (DL : List (Nat × Tmp)) (Ls : List Nat) (Ms : List Nat) (Φ : Nat → RF O) (Rs : Nat → World → Prop)
  (lv : (Nat → Value) → List Value) (hmx : P.follows .mixedOrders = true) (hB : bOk ops B DL Ms = true) (hn : ops.size = n) (hLs : ((List.range n).all fun i => Ls.contains i || Ms.contains i) = true)
  (hDl : (DL.all fun e => decide (e.2 < l.length)) = true) (hlv : ∀ v, fillL l DL v = lv v) (hR : ∀ k w w', Rs k w → Only No w w' → Rs k w') (h0 : Rs 0 w0)
  (hs : ∀ i ∈ Ls, LStep P ops O DL l lv w0 n B Ms Φ Rs i) (hm : ∀ t, t < Ms.length → MStep P ops O DL l lv w0 n B Φ Rs t (Ms.getD t 0))
  (hend : ∀ v lo hi w', Only O w0 w' → (∀ j, j < n → (Φ j).p (rs B j v) (v j) (lo j) (hi j) w') → Ivs (fun j => j < n) lo hi w0 w' → Rs Ms.length w' → Q .normal (fr (lv v) ds) w') :
  (Code.region id ops true).wpIn (Wf r) 0 P Q (fr l ds) w0 := by
 obtain rfl : (fun v => fillL l DL v) = lv := funext hlv
 refine drawn B DL Ms Φ Rs hmx hB hn hDl hR h0 (fun i hi hM => hs i ?_) hm hend
 have := List.all_eq_true.1 hLs i (List.mem_range.2 hi)
 rw [Bool.or_eq_true] at this
 rcases this with h | h
 ·exact List.contains_iff_mem.1 h
 ·exact absurd (List.contains_iff_mem.1 h) hM
section
variable {P : Program} {ops : Array Oper} {O : Nat → Prop} {lv : (Nat → Value) → List Value} {w0 : World} {n : Nat} {B : List Nat} {Ms : List Nat} {Φ : Nat → RF O} {Rs : Nat → World → Prop} {i : Nat} {is : List Nat} {DL : List (Nat × Tmp)} {l : List Value}
theorem ls_nil : ∀ i ∈ ([] : List Nat), LStep P ops O DL l lv w0 n B Ms Φ Rs i := fun _ h => by cases h
theorem ls_cons (h : LStep P ops O DL l lv w0 n B Ms Φ Rs i) (hs : ∀ j ∈ is, LStep P ops O DL l lv w0 n B Ms Φ Rs j) : ∀ j ∈ i :: is, LStep P ops O DL l lv w0 n B Ms Φ Rs j := fun j hj => by
 rcases List.mem_cons.1 hj with rfl | hj
 ·exact h
 ·exact hs j hj
theorem ms_nil : ∀ t, t < ([] : List Nat).length → MStep P ops O DL l lv w0 n B Φ Rs t (([] : List Nat).getD t 0) := fun _ h => by simp at h
theorem ms_one {m : Nat} (h : MStep P ops O DL l lv w0 n B Φ Rs 0 m) : ∀ t, t < [m].length → MStep P ops O DL l lv w0 n B Φ Rs t ([m].getD t 0) := fun t ht => by
 have : t = 0 := by simpa using ht
 subst this; exact h
end
theorem wrapN {n : Nat} (h : n < 9223372036854775808) : IntKind.i64.wrap (n : Int) = (n : Int) := IntWalk.i64_in _ (by omega)
section
variable {P : Program} {d : Option Tmp} {tt : TypeId} {s : String} {af : Array Edge} {g : Option (Nat × Bool)} {ρ : Operand → Value} {w : World} {x y : Operand} {t t2 : TypeId} {a b : Nat} {c e : UInt8}
theorem n_add (hx : ρ x = eN a) (hy : ρ y = eN b) (h : a + b < 9223372036854775808) : DV P ⟨d, .binOp .add t x y t2, tt, s, af, g⟩ ρ w (eN (a + b)) :=
 d_add hx hy (by rw [← Int.natCast_add]; exact wrapN h)
theorem n_sub (hx : ρ x = eN a) (hy : ρ y = eN b) (h : b ≤ a) (ha : a < 9223372036854775808) : DV P ⟨d, .binOp .sub t x y t2, tt, s, af, g⟩ ρ w (eN (a - b)) :=
 d_sub hx hy (by rw [← Int.ofNat_sub h]; exact wrapN (by omega))
theorem n_mul (hx : ρ x = eN a) (hy : ρ y = eN b) (h : a * b < 9223372036854775808) : DV P ⟨d, .binOp .mul t x y t2, tt, s, af, g⟩ ρ w (eN (a * b)) :=
 d_mul hx hy (by rw [← Int.natCast_mul]; exact wrapN h)
theorem n_quo (hx : ρ x = eN a) (hy : ρ y = eN b) (h : b ≠ 0) (ha : a < 9223372036854775808) : DV P ⟨d, .binOp .quo t x y t2, tt, s, af, g⟩ ρ w (eN (a / b)) :=
 d_quo hx hy (by omega) (by
  rw [Int.tdiv_eq_ediv_of_nonneg (by omega), ← Int.natCast_ediv]
  exact wrapN (Nat.lt_of_le_of_lt (Nat.div_le_self _ _) ha))
theorem n_rem (hx : ρ x = eN a) (hy : ρ y = eN b) (h : b ≠ 0) : DV P ⟨d, .binOp .rem t x y t2, tt, s, af, g⟩ ρ w (eN (a % b)) :=
 d_rem hx hy (by omega) (by rw [Int.tmod_eq_emod_of_nonneg (by omega), ← Int.natCast_emod])
theorem n_lss {r : Bool} (hx : ρ x = eN a) (hy : ρ y = eN b) (hr : decide (a < b) = r) : DV P ⟨d, .binOp .lss t x y t2, tt, s, af, g⟩ ρ w (.bool r) := d_lss hx hy (by rw [← hr, decide_eq_decide]; omega)
theorem n_leq {r : Bool} (hx : ρ x = eN a) (hy : ρ y = eN b) (hr : decide (a ≤ b) = r) : DV P ⟨d, .binOp .leq t x y t2, tt, s, af, g⟩ ρ w (.bool r) := d_leq hx hy (by rw [← hr, decide_eq_decide]; omega)
theorem n_gtr {r : Bool} (hx : ρ x = eN a) (hy : ρ y = eN b) (hr : decide (b < a) = r) : DV P ⟨d, .binOp .gtr t x y t2, tt, s, af, g⟩ ρ w (.bool r) := d_gtr hx hy (by rw [← hr, decide_eq_decide]; omega)
theorem n_geq {r : Bool} (hx : ρ x = eN a) (hy : ρ y = eN b) (hr : decide (b ≤ a) = r) : DV P ⟨d, .binOp .geq t x y t2, tt, s, af, g⟩ ρ w (.bool r) := d_geq hx hy (by rw [← hr, decide_eq_decide]; omega)
theorem n_eql {r : Bool} (hx : ρ x = eN a) (hy : ρ y = eN b) (hr : decide (a = b) = r) : DV P ⟨d, .binOp .eql t x y t2, tt, s, af, g⟩ ρ w (.bool r) := d_eql hx hy (by rw [← hr, decide_eq_decide]; omega)
theorem n_neq {r : Bool} (hx : ρ x = eN a) (hy : ρ y = eN b) (hr : (!decide (a = b)) = r) : DV P ⟨d, .binOp .neq t x y t2, tt, s, af, g⟩ ρ w (.bool r) := d_neq hx hy (by rw [← hr]; congr 1; rw [decide_eq_decide]; omega)
theorem u8_wrap (n : Int) : IntKind.u8.wrap n = ((UInt8.ofInt n).toNat : Int) := by
 rw [IntKind.wrap_u8]
 simp only [UInt8.ofInt, UInt8.toNat_ofNat']
 have h1 : 0 ≤ n % 2 ^ 8 := Int.emod_nonneg _ (by decide)
 have h2 : n % 2 ^ 8 < 2 ^ 8 := Int.emod_lt_of_pos _ (by decide)
 omega
theorem u8_ofNat (n : Nat) : UInt8.ofInt (n : Int) = UInt8.ofNat n := by
 apply UInt8.toNat_inj.1
 simp only [UInt8.ofInt, UInt8.toNat_ofNat']
 omega
theorem b_bits {op : BinOp} {r : UInt8} (hop : op = .and ∨ op = .or ∨ op = .xor ∨ op = .andNot) (hx : ρ x = eB c) (hy : ρ y = eB e) (hr : Go.bits op .u8 (c.toNat : Int) (e.toNat : Int) = (r.toNat : Int)) : DV P ⟨d, .binOp op t x y t2, tt, s, af, g⟩ ρ w (eB r) :=
 d_bits hop hx hy hr
theorem bv (c : UInt8) : BitVec.ofInt 8 (c.toNat : Int) = c.toBitVec := by
 apply BitVec.eq_of_toNat_eq
 simp
theorem u8_lt (c : UInt8) : IntKind.u8.wrap (c.toNat : Int) = (c.toNat : Int) := IntWalk.u8_in _ (by have := c.toNat_lt; omega)
theorem b_xor (hx : ρ x = eB c) (hy : ρ y = eB e) : DV P ⟨d, .binOp .xor t x y t2, tt, s, af, g⟩ ρ w (eB (c ^^^ e)) :=
 b_bits (by simp) hx hy (by
  have : (BitVec.ofInt 8 (c.toNat : Int) ^^^ BitVec.ofInt 8 (e.toNat : Int)).toNat = (c ^^^ e).toNat := by rw [bv, bv]; rfl
  show IntKind.u8.wrap ((BitVec.ofInt 8 (c.toNat : Int) ^^^ BitVec.ofInt 8 (e.toNat : Int)).toNat : Int) = _
  rw [this, u8_lt])
theorem b_and (hx : ρ x = eB c) (hy : ρ y = eB e) : DV P ⟨d, .binOp .and t x y t2, tt, s, af, g⟩ ρ w (eB (c &&& e)) :=
 b_bits (by simp) hx hy (by
  have : (BitVec.ofInt 8 (c.toNat : Int) &&& BitVec.ofInt 8 (e.toNat : Int)).toNat = (c &&& e).toNat := by rw [bv, bv]; rfl
  show IntKind.u8.wrap ((BitVec.ofInt 8 (c.toNat : Int) &&& BitVec.ofInt 8 (e.toNat : Int)).toNat : Int) = _
  rw [this, u8_lt])
theorem b_or (hx : ρ x = eB c) (hy : ρ y = eB e) : DV P ⟨d, .binOp .or t x y t2, tt, s, af, g⟩ ρ w (eB (c ||| e)) :=
 b_bits (by simp) hx hy (by
  have : (BitVec.ofInt 8 (c.toNat : Int) ||| BitVec.ofInt 8 (e.toNat : Int)).toNat = (c ||| e).toNat := by rw [bv, bv]; rfl
  show IntKind.u8.wrap ((BitVec.ofInt 8 (c.toNat : Int) ||| BitVec.ofInt 8 (e.toNat : Int)).toNat : Int) = _
  rw [this, u8_lt])
theorem b_andNot (hx : ρ x = eB c) (hy : ρ y = eB e) : DV P ⟨d, .binOp .andNot t x y t2, tt, s, af, g⟩ ρ w (eB (c &&& ~~~e)) :=
 b_bits (by simp) hx hy (by
  have : (BitVec.ofInt 8 (c.toNat : Int) &&& ~~~(BitVec.ofInt 8 (e.toNat : Int))).toNat = (c &&& ~~~e).toNat := by rw [bv, bv]; rfl
  show IntKind.u8.wrap ((BitVec.ofInt 8 (c.toNat : Int) &&& ~~~(BitVec.ofInt 8 (e.toNat : Int))).toNat : Int) = _
  rw [this, u8_lt])
def shlB (c : UInt8) (n : Nat) : UInt8 := UInt8.ofNat (c.toNat * 2 ^ n)
def shrB (c : UInt8) (n : Nat) : UInt8 := UInt8.ofNat (c.toNat / 2 ^ n)
theorem b_shl {k : IntKind} (hx : ρ x = eB c) (hy : ρ y = .int k (a : Int)) (h : a ≤ 8) : DV P ⟨d, .binOp .shl t x y t2, tt, s, af, g⟩ ρ w (eB (shlB c a)) :=
 d_shl hx hy (by omega) (by
  have h1 : min ((a : Int)).toNat (IntKind.bits .u8) = a := by simp only [IntKind.bits]; omega
  rw [h1, u8_wrap]
  have : (c.toNat : Int) * 2 ^ a = ((c.toNat * 2 ^ a : Nat) : Int) := by push_cast; rfl
  rw [this, u8_ofNat]; rfl)
theorem u8_eq (c e : UInt8) : ((c.toNat : Int) = (e.toNat : Int)) ↔ c = e := ⟨fun h => UInt8.toNat_inj.1 (by omega), fun h => by rw [h]⟩
theorem b_eql {r : Bool} (hx : ρ x = eB c) (hy : ρ y = eB e) (hr : decide (c = e) = r) : DV P ⟨d, .binOp .eql t x y t2, tt, s, af, g⟩ ρ w (.bool r) := d_eql hx hy (by rw [← hr, decide_eq_decide]; exact u8_eq c e)
theorem n_max (hx : ρ x = eN a) (hy : ρ y = eN b) {ts : Array TypeId} : DV P ⟨d, .call ⟨.builtin .max, #[x, y], ts⟩, tt, s, af, g⟩ ρ w (eN (max a b)) := d_max2 hx hy (by split <;> omega)
end
end Go.Proofs.YtpamdlnobekihaaF
namespace Go.Proofs.YtpamdlnobekihaaF
open Go Shelf YtpamdlnobekihaaS
theorem s_mx : Try.prog.follows .mixedOrders = true := by kernel_rfl
theorem fr_eq {Q : Exit → Act → World → Prop} {l l' : List Value} {ds : List Deferred} {w : World} (h : l = l') (hq : Q .normal (fr l' ds) w) : Q .normal (fr l ds) w := by rw [h]; exact hq
section
variable {w w' W base : World} {e : TypeId} {b n n' i : Nat} {α : Type} {enc : α → Value} {xs ys : List α} {bo bo' bo0 : Option Nat} {T X X' O : Nat → Prop} {p : World → Prop}
theorem g_at {d : α} (h : i < xs.length) : xs[i]? = some (xs.getD i d) := by rw [List.getD_eq_getElem?_getD, List.getElem?_eq_getElem h]; rfl
theorem m_put (xs : List α) (i : Nat) (v : α) (enc : α → Value) : (xs.map enc).set i (enc v) = (xs.set i v).map enc := by rw [List.map_set]
theorem seq_nil : Ps X (Seq (kS enc) ([] : List α) (.slice none 0 0)) w := Ps.mk0 fun w => ⟨none, 0, rfl, Nat.le_refl _, fun i x h => by simp at h⟩
theorem arr_part {o c : Nat} (h : Arr e b (xs.map enc) w) (hy : (xs.drop o).take n = ys) (hn : ys.length = n) (hc : n ≤ c) : Ps No (Seq (kS enc) ys (sli b o n c)) w := by
 refine (h.ps fun w' h' => ?_).less (fun _ _ t => t.elim)
 subst hn
 refine ⟨_, _, rfl, hc, fun i x hi => ⟨_, rfl, ?_⟩⟩
 show w'.cell? _ = some (enc x)
 rw [add0]
 refine h'.cell ?_
 have hi2 := hi
 rw [← hy, List.getElem?_take] at hi2
 split at hi2
 ·rw [List.getElem?_drop] at hi2
  show (xs.map enc)[o + i * 1]? = _
  rw [Nat.mul_one, List.getElem?_map, hi2]; rfl
 ·cases hi2
theorem arr_seq {c : Nat} (h : Arr e b (xs.map enc) w) (hn : xs.length = n) (hc : n ≤ c) : Ps No (Seq (kS enc) xs (sli b 0 n c)) w := arr_part h (by rw [List.drop_zero, ← hn, List.take_length]) hn hc
theorem arr_keep {c : Nat} (h : Arr e b (xs.map enc) w) (hn : xs.length = n) (hc : n ≤ c) (hX : ∀ k, k < w.heap.size → X k → k ≠ b) : Ps X (Seq (kS enc) xs (sli b 0 n c)) w := by
 refine (h.ps fun w' h' => ?_).less hX
 have := arr_seq h' hn hc
 exact this.now
theorem Ow.of_map (h : Arr e b (xs.map enc) w) (hn : xs.length = n) : Ow e 1 (some b) (sli b 0 n n) n (xs.map enc) w := Ow.of_made h (by simp [hn])
theorem nqs {w : World} (hn : ∀ x, bo = some x → ¬ x = b) (hq : Fr bo' bo w.heap.size) (hb : b < w.heap.size) : ∀ x, bo' = some x → ¬ x = b := fun x hx e => (hq x hx).elim (fun h => hn x h e) (fun h => by omega)
theorem qtr (h : Fr bo' bo w.heap.size) (q : Fr bo bo0 base.heap.size) (hs : base.heap.size ≤ w.heap.size) : Fr bo' bo0 base.heap.size := fun c hc => (h c hc).elim (q c) (fun h => .inr (by omega))
theorem _root_.Go.Proofs.YtpamdlnobekihaaS.Only.tailr (h : Only T base w) (h2 : Only (Isq bo) w w') (q : Fr bo bo0 base.heap.size) (hT : ∀ b, bo0 = some b → T b) : Only T base w' := h.tail h2 fun k hk t => (q k t).elim (hT k) (fun h => by omega)
theorem tl_no : ∀ k, k < n → No k → T k := fun _ _ t => t.elim
theorem tl_new (hb : n ≤ b) (h : ∀ k, k < n → O k → T k) : ∀ k, k < n → Or1 b O k → T k := fun k hk t => t.elim (fun e => by omega) (h k hk)
theorem tl_in (hb : T b) (h : ∀ k, k < n → O k → T k) : ∀ k, k < n → Or1 b O k → T k := fun k hk t => t.elim (fun e => by rw [e]; exact hb) (h k hk)
theorem tl_q (q : Fr bo bo0 base.heap.size) (hT : ∀ b, bo0 = some b → T b) (h : ∀ k, k < base.heap.size → O k → T k) : ∀ k, k < base.heap.size → Orq bo O k → T k := fun k hk t => t.elim (fun e => (q k e).elim (hT k) (fun h => by omega)) (h k hk)
theorem xx_id : ∀ k, k < n → X k → X k := fun _ _ t => t
theorem xx_or1 (h : ∀ k, k < n → X' k → X k) : ∀ k, k < n → Or1 b X' k → Or1 b X k := fun k hk t => t.imp id (h k hk)
theorem xx_orq (h : ∀ k, k < n → X' k → X k) : ∀ k, k < n → Orq bo X' k → Orq bo X k := fun k hk t => t.imp id (h k hk)
theorem xx_re (q : Fr bo' bo n) (h : ∀ k, k < n → X' k → X k) : ∀ k, k < n → Orq bo' X' k → Orq bo X k := fun k hk t => t.imp (fun e => (q k e).elim id (fun h => by omega)) (h k hk)
theorem Ps.re (h : Ps X p w) (hO : Only O w w') (hX : ∀ k, O k → X k) (hXX : ∀ k, k < w.heap.size → X' k → X k) : Ps X' p w' := fun w2 h2 =>
 h w2 fun k hk hx => (h2 k (Nat.lt_of_lt_of_le hk hO.size) fun t => hx (hXX k hk t)).trans (hO.same k hk fun t => hx (hX k t))
theorem Ps.gr (h : Ps X p w) (hO : Only (Isq bo) w w') (hX : ∀ k, bo = some k → X k) (hXX : ∀ k, k < w.heap.size → X' k → X k) : Ps X' p w' := h.re hO hX hXX
end
section
variable {P : Program} {d : Option Tmp} {tt : TypeId} {s : String} {af : Array Edge} {g : Option (Nat × Bool)} {ρ : Operand → Value} {w : World} {t e : TypeId} {x y : Operand} {b o n c i j : Nat} {bytes sz : Nat} {z : Value} {k : IntKind}
theorem d_index1 (ht : P.underlying t = some (.slice e)) (hz : TI P e 1 bytes z) (hx : ρ x = sli b 0 n c) (hy : ρ y = .int k (i : Int)) (h1 : i < n) : DV P ⟨d, .indexAddr t x y, tt, s, af, g⟩ ρ w (ptr b i) :=
 d_index ht hz hx hy (by omega) (by omega) (by simp)
theorem d_indexArr1 (ht : P.underlying t = some (.array n e)) (hz : TI P e 1 bytes z) (hx : ρ x = ptr b 0) (hy : ρ y = .int k (i : Int)) (h1 : i < n) : DV P ⟨d, .indexAddr t x y, tt, s, af, g⟩ ρ w (ptr b i) :=
 d_indexArr ht hz hx hy (by omega) (by omega) (by simp)
theorem u64_wrapN {a : Nat} (h : a < 18446744073709551616) : IntKind.u64.wrap (a : Int) = (a : Int) := by
 simp only [IntKind.wrap, IntKind.bits, IntKind.signed, Bool.false_and, Bool.false_eq_true, if_false]
 exact Int.emod_eq_of_lt (by omega) (by omega)
theorem n_toU {src dst : TypeId} {u : TypeDesc} {a : Nat} (hs : P.underlying src = some u) (hd : P.underlying dst = some (.int .u64)) (hx : ρ x = eN a) (h : a < 9223372036854775808) : DV P ⟨d, .convert src dst x, tt, s, af, g⟩ ρ w (.int .u64 (a : Int)) :=
 d_conv hs hd hx (u64_wrapN (by omega))
theorem d_fieldAddr {fs : Array Field} {f : Nat} {fd : Field} (ht : P.underlying t = some (.struct fs)) (hf : fs[f]? = some fd) (hz : TI P fd.type n bytes z) (hn : n ≠ 0) (hx : ρ x = ptr b o) (hj : o + fd.offset = j) : DV P ⟨d, .fieldAddr t x f, tt, s, af, g⟩ ρ w (ptr b j) := by
 subst hj
 refine Does.of_value (v := ptr b (o + fd.offset)) (w' := w) (by simp) ?_ ⟨rfl, rfl⟩
 have hx' : ρ x = .pointer (some ⟨b, o, none⟩) := hx
 simp [execOp, Instr.fieldAt, Instr.sureAddr, fieldPlace, run_underlying ht, hf, hx', hz.size, hn, add0, go_sem]
 rfl
theorem d_storeAg {n : Nat} {cs vs cs' : List Value} (hz : TI P t n bytes z) (hx : ρ x = ptr b o) (hy : ρ y = .agg vs.toArray) (hn : vs.length = n) (h1 : ∀ v ∈ vs, v.oneCell' = true) (hA : Arr e b cs w) (hi : o + n ≤ cs.length) (hc : cs.take o ++ vs ++ cs.drop (o + n) = cs') :
  Does P ⟨d, .store t x y, tt, s, af, g⟩ ρ w (Wrote e b cs' w) := by
 subst hc; subst hn
 have hst := run_storeCells_cells (P := P) b o vs 0 w (fun j hj => by rw [hA.cell (List.getElem?_eq_getElem (by omega))]; rfl) (fun j hj => hA.frozen) h1
 refine Does.of_skip (w' := w.setCells b o vs) (by simp) ?_ ⟨Arr.setCells vs o cs w hA hi, only_setCells vs o w⟩
 have hx' : ρ x = .pointer (some ⟨b, o, none⟩) := hx
 have hsv : (storeVar t ⟨b, o, none⟩ (.agg vs.toArray)).run P w = .ok () (w.setCells b o vs) := by
  unfold storeVar
  have hcs : (Value.agg vs.toArray).cells = vs.toArray := rfl
  rw [hcs]
  simp only [Sem.run_bind, hz.size, Result.andThen, List.size_toArray, ne_eq, not_true_eq_false, if_false]
  simpa using hst
 simp only [execOp, Instr.storeAt, Sem.run_bind, Instr.sureAddr, hx', hy, Sem.run_pure, Result.andThen, hsv]
theorem resC {fn : Func} {l : List Value} {tm : Tmp} {n : Nat} {cs : List Value} (hr : fn.results = #[.cell tm t]) (ht : Ag P t) (hz : TI P t n bytes z) (hv : nth l tm = ptr b 0) (hA : Arr e b cs w) (hn : cs.length = n) : (results fn l.toArray).run P w = .ok (.agg cs.toArray) w := by
 subst hn
 have hv' : l.getD tm undef = .pointer (some ⟨b, 0, none⟩) := by rw [← nth_eq]; exact hv
 have hl : (loadCells ⟨b, 0, none⟩ cs.length).run P w = .ok cs.toArray w := run_loadCells_list (P := P) w _ cs (fun j v hj => by rw [add0]; exact hA.cell (by simpa using hj))
 have hl' : (loadVar t ⟨b, 0, none⟩).run P w = .ok (.agg cs.toArray) w := by
  unfold loadVar
  simp only [Sem.run_bind, run_isAgg_agg ht, Result.andThen, if_true, hz.size, hl, Sem.run_pure]
 unfold results
 rw [hr]
 have hg : l[tm]?.getD undef = .pointer (some ⟨b, 0, none⟩) := by rw [← hv', List.getD_eq_getElem?_getD]
 simp [Sem.run_bind, Sem.run_pure, Result.andThen, hg, asAddr, hl']
theorem oneC {α : Type} {enc : α → Value} (h : ∀ x, (enc x).oneCell' = true) (xs : List α) : ∀ v ∈ xs.map enc, v.oneCell' = true := fun v hv => by obtain ⟨x, _, rfl⟩ := List.mem_map.1 hv; exact h x
end
end Go.Proofs.YtpamdlnobekihaaF
namespace Go.Proofs.YtpamdlnobekihaaF
open Go Shelf YtpamdlnobekihaaS
section
variable {w w' W base : World} {e : TypeId} {b n n' i : Nat} {α : Type} {enc : α → Value} {xs ys zs : List α} {bo bo' bo0 bo2 : Option Nat} {T X X' O : Nat → Prop} {p : World → Prop} {u : Value}
theorem ROw.mk_ (h : Ow e 1 bo u ys.length (ys.map enc) w') (he : ys = xs) (q : Fr bo none W.heap.size) (hO : Only No W w') : ROw e enc xs W u w' := by
 subst he
 exact ⟨bo, h, fun b hb => (q b hb).elim (fun h => by cases h) id, hO⟩
theorem ROw.arr (h : Arr e b (ys.map enc) w') (hn : ys.length = n) (he : ys = xs) (hb : W.heap.size ≤ b) (hO : Only No W w') : ROw e enc xs W (sli b 0 n n) w' := by
 subst he; subst hn
 exact ⟨some b, Ow.of_map h rfl, fun c hc => by injection hc with hc; omega, hO⟩
theorem ROw.nil {e : TypeId} (he : ([] : List α) = xs) (hO : Only No W w') : ROw e enc xs W (.slice none 0 0) w' := by
 subst he
 exact ⟨none, Ow.nil _ _ _, (fun _ h => by cases h), hO⟩
theorem Ps.newq (h : Ps X p w) (hO : Only No w w') (hf : ∀ b, bo = some b → w.heap.size ≤ b) : Ps (Orq bo X) p w' := fun w2 h2 =>
 h w2 fun k hk hx => (h2 k (Nat.lt_of_lt_of_le hk hO.size) fun t => t.elim (fun e => by have := hf k e; omega) hx).trans (hO.same k hk id)
theorem qnew (hf : ∀ b, bo = some b → w.heap.size ≤ b) (hs : base.heap.size ≤ w.heap.size) : Fr bo none base.heap.size := Fr.fresh hf hs
theorem nq_new (hf : ∀ b, bo = some b → w.heap.size ≤ b) (hb : b < w.heap.size) : ∀ x, bo = some x → ¬ x = b := fun x hx e => by have := hf x hx; omega
theorem nqq_new (hf : ∀ b, bo = some b → w.heap.size ≤ b) (hb : ∀ x, bo2 = some x → x < w.heap.size) : ∀ x, bo2 = some x → bo = some x → False := fun x h1 h2 => by have := hf x h2; have := hb x h1; omega
theorem nqq_step (hn : ∀ x, bo2 = some x → bo = some x → False) (hq : Fr bo' bo w.heap.size) (hb : ∀ x, bo2 = some x → x < w.heap.size) : ∀ x, bo2 = some x → bo' = some x → False := fun x h1 h2 => (hq x h2).elim (hn x h1) (fun h => by have := hb x h1; omega)
theorem Ow.lts {sz : Nat} {cs : List Value} (h : Ow e sz bo u n cs w) : ∀ x, bo = some x → x < w.heap.size := fun x hx => by subst hx; exact h.lt
theorem Ow.at_ (h : Ow e 1 bo u n (xs.map enc) w) (hn : xs.length = n) (hi : i < n) : ∃ b cap rest, bo = some b ∧ u = sli b 0 n cap ∧ n ≤ cap ∧ Arr e b (xs.map enc ++ rest) w ∧ rest.length = cap - n := by
 rcases h with ⟨h1, h2, h3, h4⟩ | ⟨b, cap, rest, h1, h2, h3, h4, h5, h6⟩
 ·omega
 ·exact ⟨b, cap, rest, h1, h2, h3, h4, by omega⟩
end
section
variable {P : Program} {d : Option Tmp} {tt : TypeId} {s : String} {af : Array Edge} {g : Option (Nat × Bool)} {ρ : Operand → Value} {w : World} {t e : TypeId} {x y : Operand} {b o n c i j : Nat} {bytes sz : Nat} {z : Value} {k : IntKind} {α : Type} {enc : α → Value} {xs ys zs : List α} {bo : Option Nat} {u : Value}
def InRow (bo : Option Nat) (i : Nat) (u : Value) : Prop := ∃ b, bo = some b ∧ u = ptr b i
def WroteOw (e : TypeId) (enc : α → Value) (bo : Option Nat) (u : Value) (xs : List α) (w : World) : Value → World → Prop := fun _ w' => Ow e 1 bo u xs.length (xs.map enc) w' ∧ Only (Isq bo) w w'
theorem d_storeOw {v : α} {p : Value} (hz : TI P t 1 bytes z) (hx : ρ x = p) (hp : InRow bo i p) (hy : ρ y = enc v) (h1 : (enc v).oneCell' = true) (hO : Ow e 1 bo u xs.length (xs.map enc) w) (hi : i < xs.length) (hxs : xs.set i v = zs) : Does P ⟨d, .store t x y, tt, s, af, g⟩ ρ w (WroteOw e enc bo u zs w) := by
 subst hxs
 obtain ⟨b, cap, rest, hb, hu, hc, hA, hr⟩ := hO.at_ rfl hi
 obtain ⟨b', hb', hp'⟩ := hp
 rw [hb] at hb'; injection hb' with hb'; subst hb'
 refine (d_store hz (hx.trans hp') hy h1 hA (by simp; omega) rfl).mono fun u' w' ⟨h2, h3⟩ => ⟨.inr ⟨b, cap, rest, hb, by rw [hu, List.length_set], by rw [List.length_set]; exact hc, ?_, by simp, by rw [List.length_set]; omega⟩, h3.mono fun k _ h => by have : k = b := h; rw [this]; exact hb⟩
 rw [List.set_append_left _ _ (by simp; exact hi), List.map_set] at *
 exact h2
theorem d_copy {X : Nat → Prop} {us : Value} {ts : Array TypeId} {dT sT : TypeId} (hts : ts = #[dT, sT]) (ht : P.underlying dT = some (.slice e)) (hz : TI P e 1 bytes z) (hx : ρ x = sli b o n c) (hy : ρ y = us) (hA : Arr e b (xs.map enc) w) (hS : Ps X (Seq (kS enc) ys us) w) (h1 : ∀ v, (enc v).oneCell' = true)
  (hfit : o + n ≤ xs.length) (hk : min ys.length n = j) (hnew : xs.take o ++ ys.take j ++ xs.drop (o + j) = zs) : Does P ⟨d, .call ⟨.builtin .copy, #[x, y], ts⟩, tt, s, af, g⟩ ρ w fun u' w' => u' = eN j ∧ Arr e b (zs.map enc) w' ∧ Only (Is1 b) w w' := by
 subst hts; subst hnew; subst hk
 obtain ⟨A, cc, hu, hc, hel⟩ := hS.now
 subst hu
 have hzi : (P.info? e).map (·.size) = some 1 := by
  obtain ⟨i, hi, _, hs, _⟩ := hz.info
  rw [hi]; simp [hs]
 have hsame : Only (Is1 b) w w := Only.refl _ _
 cases A with
 | none =>
  have hys : ys = [] := by
   cases ys with
   | nil => rfl
   | cons v r => obtain ⟨ad, h, _⟩ := hel 0 v rfl; cases h
  subst hys
  refine Does.of_value (v := eN 0) (w' := w) (by simp) ?_ ⟨by simp, by simpa using hA, hsame⟩
  have := run_copy_none (P := P) w dT sT tt e (some ⟨b, o, none⟩) none n c 0 cc ht hzi (by simp [Nat.min_def])
  simp only [execOp, resolve, Sem.run_bind, Sem.run_pure, Result.andThen, invoke, builtin, List.map_toArray, List.map_cons, List.map_nil, hx, hy, sli, List.length_nil, this]
  rfl
 | some a =>
  have hmin : Nat.min ys.length n = min ys.length n := rfl
  have hlen : ((ys.take (min ys.length n)).map enc).length = Nat.min ys.length n := by simp [List.length_take]
  have hrun := run_copy_row (P := P) w dT sT tt e b o n c a ys.length cc (xs.map enc).toArray e ((ys.take (min ys.length n)).map enc) ht hzi hA hlen (fun j v hj => by
   rw [List.getElem?_map, List.getElem?_take] at hj
   split at hj
   ·cases hq : ys[j]? with
    | none => rw [hq] at hj; cases hj
    | some v' =>
     rw [hq] at hj
     obtain ⟨ad, h2, h3⟩ := hel j v' hq
     injection h2 with h2
     subst h2
     have h4 : w.cell? (a.add (j * 1)) = some (enc v') := h3
     rw [Nat.mul_one] at h4
     rw [h4]; exact hj
   ·cases hj) (by rw [hlen, hmin]; simp; omega) (oneC h1 _)
  refine Does.of_value (v := eN (min ys.length n)) (w' := w.setRow b (((xs.map enc).toArray.toList.take o ++ (ys.take (min ys.length n)).map enc ++ (xs.map enc).toArray.toList.drop (o + ((ys.take (min ys.length n)).map enc).length)).toArray)) (by simp) ?_ ⟨rfl, ?_, ?_⟩
  ·simp only [execOp, resolve, Sem.run_bind, Sem.run_pure, Result.andThen, invoke, builtin, List.map_toArray, List.map_cons, List.map_nil, hx, hy, sli, hrun]
   rw [hlen]; rfl
  ·have h5 := setRow_heap w b (xs.map enc).toArray (((xs.map enc).toArray.toList.take o ++ (ys.take (min ys.length n)).map enc ++ (xs.map enc).toArray.toList.drop (o + ((ys.take (min ys.length n)).map enc).length)).toArray) e (0, 0) hA
   unfold Arr
   rw [h5, hlen, hmin]
   simp [List.map_take, List.map_drop]
  ·refine ⟨rfl, rfl, rfl, by simp [World.setRow], fun k hk hne => ?_⟩
   have hne' : b ≠ k := fun e => hne e.symm
   simp [World.setRow, Array.getElem?_modify, hne']
end
end Go.Proofs.YtpamdlnobekihaaF
namespace Go.Proofs.YtpamdlnobekihaaF
open Go Shelf YtpamdlnobekihaaS
def fillP (pl : Nat → Option (Nat × Nat)) : List Value → List (Nat × List Value) → Option (List Value)
 | cs, [] => some cs
 | cs, (i, vs) :: r => match pl i with
  | none => none
  | some (o, n) => if vs.length ≠ n ∨ o + n > cs.length then none else fillP pl (cs.take o ++ vs ++ cs.drop (o + n)) r
theorem foldl_put : ∀ (vs : List Value) (k o : Nat) (cs : Array Value), o + k + vs.length ≤ cs.size →
  ((vs.zipIdx k).foldl (fun (cs : Array Value) (x : Value × Nat) => cs.setIfInBounds (o + x.2) x.1) cs).toList = cs.toList.take (o + k) ++ vs ++ cs.toList.drop (o + k + vs.length)
 | [], k, o, cs, h => by simp
 | v :: r, k, o, cs, h => by
  simp only [List.length_cons] at h
  simp only [List.zipIdx_cons, List.foldl_cons]
  rw [foldl_put r (k + 1) o _ (by rw [Array.size_setIfInBounds]; omega), Array.toList_setIfInBounds]
  have hlt : o + k < cs.toList.length := by simpa using (by omega : o + k < cs.size)
  have e1 : (cs.toList.set (o + k) v).take (o + (k + 1)) = cs.toList.take (o + k) ++ [v] := by
   rw [show o + (k + 1) = o + k + 1 by omega, List.take_succ_eq_append_getElem (by rw [List.length_set]; exact hlt), List.take_set_of_le (by omega)]
   simp
  rw [e1, List.drop_set_of_lt (by omega), List.append_assoc, List.append_assoc, List.append_assoc]
  simp only [List.length_cons]
  rw [show o + (k + 1) + r.length = o + k + (r.length + 1) by omega]
  rfl
theorem fill_of {pl : Nat → Option (Nat × Nat)} : ∀ {ps : List (Nat × Value)} {qs : List (Nat × List Value)} {cs : Array Value} {cs' : List Value}, ps.map (fun x => (x.1, x.2.cells.toList)) = qs → fillP pl cs.toList qs = some cs' →
  Instr.fill pl cs ps = some cs'.toArray
 | [], qs, cs, cs', h, hf => by
  subst h
  simp only [List.map_nil, fillP, Option.some.injEq] at hf
  subst hf
  rfl
 | (i, v) :: r, qs, cs, cs', h, hf => by
  subst h
  simp only [List.map_cons, fillP] at hf
  unfold Instr.fill
  cases hp : pl i with
  | none => rw [hp] at hf; cases hf
  | some on =>
   obtain ⟨o, n⟩ := on
   rw [hp] at hf
   simp only at hf ⊢
   have hz : v.cells.size = v.cells.toList.length := by simp
   by_cases hc : v.cells.toList.length ≠ n ∨ o + n > cs.toList.length
   ·rw [if_pos hc] at hf; cases hf
   ·rw [if_neg hc] at hf
    have hc1 : v.cells.toList.length = n := Classical.byContradiction fun h => hc (.inl h)
    have hc2 : ¬ o + n > cs.toList.length := fun h => hc (.inr h)
    have hsz : cs.size = cs.toList.length := by simp
    have g1 : (v.cells.size ≠ n || decide (o + v.cells.size > cs.size)) = false := by
     simp only [Bool.or_eq_false_iff, decide_eq_false_iff_not, hz, hc1, hsz]
     exact ⟨by simp, hc2⟩
    simp only [g1]
    have hr : (v.cells.zipIdx.foldl (fun (cs : Array Value) (x : Value × Nat) => cs.setIfInBounds (o + x.2) x.1) cs) = (cs.toList.take o ++ v.cells.toList ++ cs.toList.drop (o + n)).toArray := by
     have := foldl_put v.cells.toList 0 o cs (by omega)
     apply Array.ext'
     rw [← Array.foldl_toList, Array.toList_zipIdx, this, hc1]
     simp
    have := fill_of (pl := pl) (ps := r) (cs := (cs.toList.take o ++ v.cells.toList ++ cs.toList.drop (o + n)).toArray) rfl hf
    rw [← hr] at this
    exact this
theorem Ow.of_map2 {α : Type} {enc : α → Value} {e : TypeId} {b n : Nat} {xs : List α} {w : World} (h : Arr e b (xs.map enc) w) (hn : xs.length = n) : Ow e 1 (some b) (sli b 0 n n) xs.length (xs.map enc) w := by subst hn; exact Ow.of_map h rfl
theorem xx_br {X X' : Nat → Prop} {n b : Nat} (h : ∀ k, k < n → X' k → X k) : ∀ k, k < n → Orq (some b) X' k → Or1 b X k := fun k hk t => t.imp (fun e => (Option.some.inj e).symm) (h k hk)
theorem nq_b {b c : Nat} (h : b ≠ c) : ∀ x, some b = some x → ¬ x = c := fun x hx e => h ((Option.some.inj hx).trans e)
theorem xx_skip {X X' : Nat → Prop} {n : Nat} {p : Nat → Prop} (h : ∀ k, k < n → X' k → X k) : ∀ k, k < n → X' k → (p k ∨ X k) := fun k hk t => .inr (h k hk t)
theorem old_ne {n b m : Nat} (h : n ≤ b) : ∀ k, k < m → Old n k → k ≠ b := fun k _ t => by unfold Old at t; omega
theorem old_q {n : Nat} {bo : Option Nat} (h : Fr bo none n) : ∀ b, bo = some b → ¬ Old n b := fun b hb t => (h b hb).elim (fun h => by cases h) (fun h => by unfold Old at t; omega)
def RDiv (q r : List UInt8) (is : Bool) (W : World) : Value → World → Prop := fun u w => ∃ a b, u = .tuple #[a, b, .bool is] ∧ Ps (Old W.heap.size) (Seq kB q a) w ∧ Ps (Old W.heap.size) (Seq kB r b) w ∧ Only No W w
theorem wpL.flat {r : Option Nat} {P : Program} {ops : Array Oper} {Q : Exit → Act → World → Prop} {l : List Value} {ds : List Deferred} {w : World} {rest : List Oper} (l' : List Value) (h : l = l') (hk : wpL r P ops Q rest l' ds w) : wpL r P ops Q rest l ds w := by rw [h]; exact hk
def Places (P : Program) : List Field → List (Nat × Nat) → Prop
 | [], pl => pl = []
 | f :: fs, pl => ∃ n pl' bytes z, pl = (f.offset, n) :: pl' ∧ TI P f.type n bytes z ∧ Places P fs pl'
theorem run_places {P : Program} (w : World) : ∀ {fs : List Field} {pl : List (Nat × Nat)}, Places P fs pl → (fs.mapM (m := Sem) fun (f : Field) => do pure (f.offset, ← sizeOf f.type)).run P w = .ok pl w
 | [], pl, h => by
  subst h
  rfl
 | f :: fs, pl, h => by
  obtain ⟨n, pl', bytes, z, rfl, hz, hr⟩ := h
  have := run_places w hr
  rw [List.mapM_cons]
  simp only [Sem.run_bind, hz.size, Result.andThen, Sem.run_pure, this]
section
variable {P : Program} {d : Option Tmp} {tt : TypeId} {s : String} {af : Array Edge} {g : Option (Nat × Bool)} {ρ : Operand → Value} {w : World}
theorem d_buildS {t : TypeId} {fs : List Field} {pl : List (Nat × Nat)} {sz bytes : Nat} {z : Value} {ps : List (Nat × Operand)} {qs : List (Nat × List Value)} {zs cs : List Value} (ht : P.underlying t = some (.struct fs.toArray)) (hz : TI P t sz bytes z) (hpl : Places P fs pl) (hzs : z.cells.toList = zs)
  (hq : ps.map (fun x => (x.1, (ρ x.2).cells.toList)) = qs) (hf : fillP (pl[·]?) zs qs = some cs) : DV P ⟨d, .build t ps.toArray, tt, s, af, g⟩ ρ w (.agg cs.toArray) := by
 refine Does.of_value (v := .agg cs.toArray) (w' := w) (by simp) ?_ ⟨rfl, rfl⟩
 have h1 := run_places w hpl
 have h2 : (fs.toArray.mapM (m := Sem) fun (f : Field) => do pure (f.offset, ← sizeOf f.type)).run P w = .ok pl.toArray w := by
  rw [Array.mapM_eq_mapM_toList, map_eq_pure_bind]
  simp only [Sem.run_bind, h1, Result.andThen, Sem.run_pure]
 have he : (fun i => pl.toArray[i]?) = (fun i => pl[i]?) := funext fun i => List.getElem?_toArray
 have h3 := fill_of (pl := (pl.toArray[·]?)) (ps := ps.map (fun x => (x.1, ρ x.2))) (cs := z.cells) (cs' := cs) rfl (by rw [he, hzs, List.map_map, ← hf, ← hq]; rfl)
 have h4 : (ps.toArray.map fun (i, x) => (i, ρ x)).toList = ps.map (fun x => (x.1, ρ x.2)) := by simp
 simp only [execOp, Instr.build, Sem.run_bind, hz.zero, Result.andThen, run_underlying ht, h2, h4, h3, Sem.run_pure]
theorem d_buildL {t e : TypeId} {n bytes : Nat} {z : Value} {ps : List (Nat × Operand)} {qs : List (Nat × List Value)} {cs : List Value} (ht : P.underlying t = some (.slice e)) (hz : TI P e 1 bytes z) (hz1 : z.cells = #[z]) (hn : n ≤ 16777216)
  (hq : ps.map (fun x => (x.1, (ρ x.2).cells.toList)) = qs) (hf : fillP (fun i => some (i, 1)) (List.replicate n z) qs = some cs) : Does P ⟨d, .buildSlice t n ps.toArray, tt, s, af, g⟩ ρ w (Made e w (fun b => sli b 0 n n) cs) := by
 refine d_buildSlice ht hz (by omega) ?_
 have h3 := fill_of (pl := fun i => some (i, 1)) (ps := ps.map (fun x => (x.1, ρ x.2))) (cs := madeCells z.cells (n * 1)) (cs' := cs) rfl (by rw [hz1, Nat.mul_one, made_one, List.map_map, ← hf, ← hq]; rfl)
 have h4 : (ps.toArray.map fun (i, x) => (i, ρ x)).toList = ps.map (fun x => (x.1, ρ x.2)) := by simp
 rw [h4, ← h3]
 congr 1
 funext i
 rw [Nat.mul_one]
theorem d_nilCheck {x : Operand} {b o : Nat} (hx : ρ x = ptr b o) : DV P ⟨d, .nilCheck x, tt, s, af, g⟩ ρ w (ptr b o) := by
 refine Does.of_value (v := ptr b o) (w' := w) (by simp) ?_ ⟨rfl, rfl⟩
 have hx' : ρ x = .pointer (some ⟨b, o, none⟩) := hx
 simp only [execOp, hx', Sem.run_pure]
 rfl
theorem Seq.cells {α : Type} {q : Kd α} {xs : List α} {u : Value} {X : Nat → Prop} (h : Ps X (Seq q xs u) w) : u.cells.toList = [u] := by
 obtain ⟨A, c, rfl, _⟩ := h.now
 rfl
theorem Seq.one {α : Type} {q : Kd α} {xs : List α} {u : Value} {X : Nat → Prop} (h : Ps X (Seq q xs u) w) : u.oneCell' = true := by
 obtain ⟨A, c, rfl, _⟩ := h.now
 rfl
theorem Ow.one {e : TypeId} {sz n : Nat} {bo : Option Nat} {u : Value} {cs : List Value} (h : Ow e sz bo u n cs w) : u.oneCell' = true := by
 rcases h with ⟨_, rfl, _⟩ | ⟨b, cap, rest, _, rfl, _⟩ <;> rfl
theorem Ow.cells {e : TypeId} {sz n : Nat} {bo : Option Nat} {u : Value} {cs : List Value} (h : Ow e sz bo u n cs w) : u.cells.toList = [u] := by
 rcases h with ⟨_, rfl, _⟩ | ⟨b, cap, rest, _, rfl, _⟩ <;> rfl
theorem cells_of {x : Operand} {v : Value} {vs : List Value} (h : ρ x = v) (hc : v.cells.toList = vs) : (ρ x).cells.toList = vs := by rw [h, hc]
theorem parts_nil : ([] : List (Nat × Operand)).map (fun x => (x.1, (ρ x.2).cells.toList)) = [] := rfl
theorem parts_cons {i : Nat} {x : Operand} {ps : List (Nat × Operand)} {vs : List Value} {qs : List (Nat × List Value)} (h : (ρ x).cells.toList = vs) (hr : ps.map (fun x => (x.1, (ρ x.2).cells.toList)) = qs) :
  ((i, x) :: ps).map (fun x => (x.1, (ρ x.2).cells.toList)) = (i, vs) :: qs := by rw [List.map_cons, hr, h]
end
end Go.Proofs.YtpamdlnobekihaaF
namespace Go.Proofs.YtpamdlnobekihaaF
open Go Shelf YtpamdlnobekihaaS
def Dead (b : Nat) (w : World) : Prop := b < w.heap.size
def Defd (b : Nat) (w : World) : Prop := w.heap[b]? = some (.deferred (some []))
section
variable {b b' n : Nat} {w w' : World} {T X X' : Nat → Prop} {p : World → Prop}
theorem Dead.lt (h : Dead b w) : b < w.heap.size := h
theorem Dead.step (h : Dead b w) (hO : Only T w w') (_ : ¬ T b) : Dead b w' := Nat.lt_of_lt_of_le h hO.size
theorem Dead.step0 (h : Dead b w) (hO : Only No w w') : Dead b w' := Nat.lt_of_lt_of_le h hO.size
theorem Defd.step (h : Defd b w) (hO : Only T w w') (hT : ¬ T b) : Defd b w' := hO.heap h hT
theorem xx_new (hb : n ≤ b) (h : ∀ k, k < n → X' k → X k) : ∀ k, k < n → Or1 b X' k → X k := fun k hk t => t.elim (fun e => by omega) (h k hk)
theorem or1_skip (h : ∀ k, T k → X k) : ∀ k, T k → Or1 b X k := fun k t => .inr (h k t)
theorem marks_ok (h : Defd b w) : MarksOk [b] w := ⟨by simp, fun r hr => by rw [List.mem_singleton.1 hr]; exact h⟩
theorem only_mem (h : Only (· ∈ [b]) w w') : Only (Is1 b) w w' := h.mono fun k _ hk => List.mem_singleton.1 hk
end
section
variable {P : Program} {d : Option Tmp} {tt : TypeId} {s : String} {af : Array Edge} {g : Option (Nat × Bool)} {ρ : Operand → Value} {w : World}
theorem d_funcL {f : Nat} {yl : List Operand} {ys : List Value} (hb : yl.map ρ = ys) : DV P ⟨d, .makeFunc (.func f) #[] yl.toArray, tt, s, af, g⟩ ρ w (.func (.func f) #[] ys.toArray) :=
 d_func (by simp) (by rw [← hb]; simp)
theorem d_yield {l : Nat} {x : Operand} {xl : List Operand} {al : List Value} {R : Value → World → Prop} {ts : Array TypeId} (hx : ρ x = .func (.yield l) #[] #[]) (ha : xl.map ρ = al)
  (hy : YieldAt Fence.wide 0 P l al.toArray w fun e W' => ∃ u, e = .returned u ∧ R u W') : Does P ⟨d, .call ⟨.value x, xl.toArray, ts⟩, tt, s, af, g⟩ ρ w R := by
 obtain ⟨fn, tmps, assign, body, hr, hround⟩ := hy
 refine ⟨by simp, ?_⟩
 have ha' : xl.toArray.map ρ = al.toArray := by rw [← ha]; simp
 have : (execOp ρ ⟨d, .call ⟨.value x, xl.toArray, ts⟩, tt, s, af, g⟩).run P w = .ok (.round l fn tmps assign body) w := by
  have hd : (Deferred.ofValue (Value.func (Fn.yield l) #[] #[]) al.toArray).run P w = .ok { target := .fn (.yield l) #[], args := al.toArray } w := by simp [Deferred.ofValue, go_sem]
  simp only [execOp, resolve, Sem.run_bind, hx, ha', Sem.run_pure, Result.andThen, invoke, hd]
  simpa using hr
 rw [this]
 exact hround
def YR {α : Type} (J Jx : List α → World → Prop) (Kp : Nat → Prop) (pre : List α) (w : World) : Value → World → Prop := fun u w' =>
 ∃ t : Bool, u = .bool t ∧ (t = true → J pre w' ∧ Only (fun k => ¬ Kp k) w w') ∧ (t = false → Jx pre w')
theorem yr_of {α : Type} {J Jx : List α → World → Prop} {Kp : Nat → Prop} {pre : List α} {l : Nat} {args : Array Value}
  (h : YieldAt Fence.wide 0 P l args w fun e W' => (e = .returned (.bool true) ∧ J pre W' ∧ Only (fun k => ¬ Kp k) w W') ∨ (e = .returned (.bool false) ∧ Jx pre W')) :
  YieldAt Fence.wide 0 P l args w fun e W' => ∃ u, e = .returned u ∧ YR J Jx Kp pre w u W' := h.mono fun e W' h => by
 rcases h with ⟨he, hJ, hO⟩ | ⟨he, hJ⟩
 ·exact ⟨_, he, true, rfl, fun _ => ⟨hJ, hO⟩, fun h => by cases h⟩
 ·exact ⟨_, he, false, rfl, (fun h => by cases h), fun _ => hJ⟩
theorem iter_of {α : Type} {gf : Nat} {lb : List Value} {encs : α → List Value} {Pv Kp : Nat → Prop} {xs : List α} {w0 : World}
  (h : ∀ (l : Nat) (J Jx : List α → World → Prop) (W : World), Only (fun k => ¬ Kp k) w0 W → Stable Pv J → Stable Pv Jx →
   (∀ pre x, pre ++ [x] <+: xs → ∀ W1, J pre W1 → YieldAt Fence.wide 0 P l (encs x).toArray W1 fun e W' => ∃ u, e = .returned u ∧ YR J Jx Kp (pre ++ [x]) W1 u W') → J [] W →
   CW P gf (.func (.yield l) #[] #[] :: lb).toArray W (Rt fun _ W' => J xs W' ∨ ∃ pre, pre <+: xs ∧ Jx pre W')) : Iter P gf lb.toArray (fun x => (encs x).toArray) Pv Kp xs w0 := by
 intro l J Jx W hO hJ hJx hy h0
 have := h l J Jx W hO hJ hJx (fun pre x hp W1 h1 => yr_of (hy pre x hp W1 h1)) h0
 have e : (#[.func (.yield l) #[] #[]] : Array Value) ++ lb.toArray = (.func (.yield l) #[] #[] :: lb).toArray := by simp
 rw [e]
 exact CallsIn.mono this fun e W' ⟨u, he, hu⟩ => ⟨⟨u, he⟩, hu⟩
end
theorem not_no {b : Nat} : ¬ No b := id
theorem not_or1 {b c : Nat} {O : Nat → Prop} (h : b ≠ c) (hO : ¬ O b) : ¬ Or1 c O b := fun t => t.elim h hO
theorem lt_no {n : Nat} : ∀ k, No k → k < n := fun _ t => t.elim
theorem lt_or1 {b n : Nat} {O : Nat → Prop} (h : b < n) (hO : ∀ k, O k → k < n) : ∀ k, Or1 b O k → k < n := fun k t => t.elim (fun e => by rw [e]; exact h) (hO k)
theorem lt_orq {bo : Option Nat} {n : Nat} {O : Nat → Prop} (h : ∀ x, bo = some x → x < n) (hO : ∀ k, O k → k < n) : ∀ k, Orq bo O k → k < n := fun k t => t.elim (h k) (hO k)
theorem stab_tl {n D L : Nat} {Pv T : Nat → Prop} (hD : n = D) (hL : n + 1 = L) (h : ∀ k, Pv k → T k) : ∀ k, k < n → (Pv k ∨ k = D ∨ k = L) → T k := fun k hk t => t.elim (h k) (fun t => by omega)
theorem stab_b {n D L b : Nat} {Pv : Nat → Prop} (hD : n = D) (hL : n + 1 = L) (hb : b < n) (hp : ¬ Pv b) : ¬ (Pv b ∨ b = D ∨ b = L) := fun t => t.elim hp (fun t => by omega)
theorem stab_p {D L : Nat} {Pv X : Nat → Prop} (h : ∀ k, Pv k → X k) : ∀ k, (Pv k ∨ k = D ∨ k = L) → Or1 L (Or1 D X) k := fun k t => by
 rcases t with t | t | t
 ·exact .inr (.inr (h k t))
 ·exact .inr (.inl t)
 ·exact .inl t
theorem nx_or1 {b c m : Nat} {X : Nat → Prop} (h : c ≠ b) (hX : ∀ k, k < m → X k → k ≠ b) : ∀ k, k < m → Or1 c X k → k ≠ b := fun k hk t => t.elim (fun e => by rw [e]; exact h) (hX k hk)
theorem nx_orq {b m : Nat} {bo : Option Nat} {X : Nat → Prop} (h : ∀ x, bo = some x → ¬ x = b) (hX : ∀ k, k < m → X k → k ≠ b) : ∀ k, k < m → Orq bo X k → k ≠ b := fun k hk t => t.elim (fun e => h k e) (hX k hk)
def Kp (O : Nat → Prop) (n : Nat) : Nat → Prop := fun k => k < n ∧ ¬ O k
def OrN (O : Nat → Prop) (n : Nat) : Nat → Prop := fun k => O k ∨ n ≤ k
def psets : List Value → List Tmp → List Value → List Value
 | l, p :: ps, v :: vs => psets (lset l p v) ps vs
 | l, _, _ => l
theorem psets_eq : ∀ (ps : List Tmp) (vs l : List Value), (ps.zip vs).foldl (fun (t : Array Value) (x : Tmp × Value) => t.setIfInBounds x.1 x.2) l.toArray = (psets l ps vs).toArray
 | [], _, _ => by simp [psets]
 | _ :: _, [], _ => by simp [psets]
 | p :: ps, v :: vs, l => by
  simp only [List.zip_cons_cons, List.foldl_cons, psets]
  rw [← psets_eq ps vs (lset l p v), lset_eq]
  simp
section
variable {P : Program} {w : World} {r : Option Nat}
theorem range_ {α : Type} {g : Operand} {ps : List Tmp} {assign body : Code} {Q : Exit → Act → World → Prop} {l : List Value} {rs : List Nat} {gf : Nat} {lb : List Value} {fn : Func} {c : Code} {encs : α → List Value} {Pv O : Nat → Prop} {xs : List α} {D L : Nat}
  (hD : w.heap.size = D) (hL : w.heap.size + 1 = L) (hg : ev l g = .func (.func gf) #[] lb.toArray) (hf : P.funcs[gf]? = some fn) (hn : (fn.name == "runtime.NumGoroutine") = false) (hb : fn.body = some c)
  (hseq : Iter P gf lb.toArray (fun x => (encs x).toArray) Pv (Kp O w.heap.size) xs w) (hPK : ∀ k, Pv k → Kp O w.heap.size k) (hps : ∀ x, (encs x).length = ps.length) (hO : ∀ k, O k → k < w.heap.size)
  (I : List α → World → Prop) (Ix : Code → List α → World → Prop)
  (hI : ∀ pre W W', I pre W → Only (fun k => Pv k ∨ k = D ∨ k = L) W W' → I pre W') (hIx : ∀ c pre W W', Ix c pre W → Only (fun k => Pv k ∨ k = D ∨ k = L) W W' → Ix c pre W') (h0 : I [] w)
  (hround : ∀ (pre : List α) (x : α) (W : World), pre ++ [x] <+: xs → I pre W → L < W.heap.size →
   assign.wpIn (Wf (some L)) 0 P (Exit.then (fun a₁ W₁ => Only (fun k => O k ∨ L < k) W W₁ ∧ ∀ W₂, Only (Is1 L) W₁ W₂ → W₂.heap.size = W₁.heap.size →
     body.wpIn (Wf (some L)) 0 P (roundEnd (fun k => O k ∨ L < k) I Ix (pre ++ [x]) W₂) a₁ W₂) (fun _ _ _ => False)) (fr (psets l ps (encs x)) []) W)
  (hdone : ∀ W, I xs W → Defd D W → Q .normal (fr l (marks (D :: rs))) W)
  (hstop : ∀ (c : Code) (pre : List α) W, pre <+: xs → Ix c pre W → Defd D W → c.wpIn (Wf none) 0 P Q (fr l (marks (D :: rs))) W) :
  (Code.rangeFunc g ps.toArray assign body).wpIn (Wf none) 0 P Q (fr l (marks rs)) w := by
 subst hD; subst hL
 refine wpIn_range (gf := gf) (lb := lb.toArray) (by rw [fr_eval]; exact hg) (enters_of hf hn hb) hseq (Only.refl _ _) (fun k h => h.1) hPK (fun x => by simp [hps])
  (fun k => O k ∨ w.heap.size + 1 < k) (fun k hk => ⟨fun h => hk.elim h.2 (fun h2 => by have := h.1; omega), ?_, ?_⟩) I Ix (fun pre W W' h ho => hI pre W W' h ho) (fun c pre W W' h ho => hIx c pre W W' h ho) h0 ?_ hdone hstop
 ·intro e
  rcases hk with hk | hk
  ·have := hO k hk; omega
  ·omega
 ·intro e
  rcases hk with hk | hk
  ·have := hO k hk; omega
  ·omega
 ·intro pre x W hp hi hlt
  have e : ({ tmps := (ps.toArray.zip (encs x).toArray).foldl (fun t (p, v) => t.setIfInBounds p v) (fr l (marks rs)).tmps, defers := [] } : Act) = fr (psets l ps (encs x)) [] := by
   show Act.mk _ _ = Act.mk _ _
   congr 1
   rw [← psets_eq, fr_tmps, ← Array.foldl_toList]
   simp
  rw [e]
  exact hround pre x W hp hi hlt
end
end Go.Proofs.YtpamdlnobekihaaF
namespace Go.Proofs.YtpamdlnobekihaaF
open Go Shelf YtpamdlnobekihaaS
def zs (z : Nat → Value) : Nat → Nat → List Value
 | _, 0 => []
 | i, n + 1 => z i :: zs z (i + 1) n
def us : Nat → List Value
 | 0 => []
 | n + 1 => undef :: us n
def eT (x : Bool) : Value := .bool x
def kT : Kd Bool := kS eT
end Go.Proofs.YtpamdlnobekihaaF
namespace Go.Proofs.YtpamdlnobekihaaF
open Go Shelf YtpamdlnobekihaaS
def ixp (u : Value) (i : Nat) : Value := match u with
 | .slice (some a) _ _ => .pointer (some (a.add i))
 | _ => undef
section
variable {P : Program} {d : Option Tmp} {tt : TypeId} {s : String} {af : Array Edge} {g : Option (Nat × Bool)} {ρ : Operand → Value} {w : World} {α : Type} {enc : α → Value} {xs : List α} {X : Nat → Prop} {u : Value} {x y : Operand} {t e : TypeId} {bytes i : Nat} {z : Value} {k : IntKind} {v : α} {bo : Option Nat}
theorem d_ix (ht : P.underlying t = some (.slice e)) (hz : TI P e 1 bytes z) (hx : ρ x = u) (hS : Ps X (Seq (kS enc) xs u) w) (hy : ρ y = .int k (i : Int)) (h : i < xs.length) : DV P ⟨d, .indexAddr t x y, tt, s, af, g⟩ ρ w (ixp u i) := by
 obtain ⟨A, c, hu, hc, hel⟩ := hS.now
 obtain ⟨ad, hA, _⟩ := hel i xs[i] (List.getElem?_eq_getElem h)
 subst hA; subst hu
 refine Does.of_value (v := .pointer (some (ad.add i))) (w' := w) (by simp) ?_ ⟨rfl, rfl⟩
 have h1 : ¬ xs.length ≤ i := by omega
 simp [execOp, Instr.indexAt, hx, hy, asIntOf, run_underlying ht, hz.size, go_sem, h1]
theorem d_ldx (ht : Sc P t) (hx : ρ x = ixp u i) (hS : Ps X (Seq (kS enc) xs u) w) (hv : xs[i]? = some v) : DV P ⟨d, .load t x, tt, s, af, g⟩ ρ w (enc v) := by
 obtain ⟨A, c, hu, hc, hel⟩ := hS.now
 obtain ⟨ad, hA, hat⟩ := hel i v hv
 subst hA; subst hu
 have hc' : w.cell? (ad.add (i * 1)) = some (enc v) := hat
 rw [Nat.mul_one] at hc'
 refine Does.of_value (v := enc v) (w' := w) (by simp) ?_ ⟨rfl, rfl⟩
 have hx' : ρ x = .pointer (some (ad.add i)) := hx
 simp [execOp, Instr.loadAt, Instr.sureAddr, hx', loadVar, run_isAgg_sc ht, go_sem, hc']
theorem inrow_ix (hO : Ow e 1 bo u xs.length (xs.map enc) w) (h : i < xs.length) : InRow bo i (ixp u i) := by
 obtain ⟨b, cap, rest, hb, hu, hc, hA, hr⟩ := hO.at_ rfl h
 subst hu
 exact ⟨b, hb, by show Value.pointer (some _) = ptr b i; rw [add0, Nat.zero_add]; rfl⟩
theorem d_stx {zs : List α} (hz : TI P t 1 bytes z) (hx : ρ x = ixp u i) (hy : ρ y = enc v) (h1 : (enc v).oneCell' = true) (hO : Ow e 1 bo u xs.length (xs.map enc) w) (hi : i < xs.length) (hxs : xs.set i v = zs) : Does P ⟨d, .store t x y, tt, s, af, g⟩ ρ w (WroteOw e enc bo u zs w) :=
 d_storeOw hz hx (inrow_ix hO hi) hy h1 hO hi hxs
end
section
variable {r : Option Nat} {P : Program} {ops : Array Oper} {Q : Exit → Act → World → Prop} {O : Nat → Prop} {l L : List Value} {ds : List Deferred} {w0 w : World} {n : Nat} {B : List Nat} {DL : List (Nat × Tmp)} {X : List Value} {o : Oper} {R : Value → World → Prop}
theorem gdoes_congr {l1 l2 : List Value} (e6 : ∀ cs c, o.op ≠ .select cs c) (hlen : l1.length = l2.length) (hlook : ∀ t ∈ o.looksAt ops, nth l1 t = nth l2 t) (h : GDoes P ops o l2 w R) : GDoes P ops o l1 w R := by
 have hget : ∀ t ∈ o.looksAt ops, l1.toArray[t]? = l2.toArray[t]? := by
  intro t ht
  have h1 := hlook t ht
  rw [nth_eq, nth_eq, List.getD_eq_getElem?_getD, List.getD_eq_getElem?_getD] at h1
  rw [List.getElem?_toArray, List.getElem?_toArray]
  by_cases htl : t < l1.length
  ·rw [List.getElem?_eq_getElem htl, List.getElem?_eq_getElem (by rw [← hlen]; exact htl)] at h1 ⊢
   simpa using h1
  ·have h2 : l1.length ≤ t := Nat.le_of_not_lt htl
   rw [List.getElem?_eq_none h2, List.getElem?_eq_none (by rw [← hlen]; exact h2)]
 have hex : execOp (ev l1) o = execOp (ev l2) o := by
  refine execOp_congr o e6 (fun x hx => ?_)
  cases x with
  | tmp t => exact hlook t (by unfold Oper.looksAt; exact List.mem_append_left _ (List.mem_filterMap.2 ⟨.tmp t, by simpa using hx, rfl⟩))
  | _ => rfl
 have hwt : Region.wanted o (yielded ops l1.toArray) = Region.wanted o (yielded ops l2.toArray) := by
  unfold Region.wanted
  cases hgd : o.guard with
  | none => rfl
  | some gw =>
   obtain ⟨g, want⟩ := gw
   have hy : yielded ops l1.toArray g = yielded ops l2.toArray g := by
    unfold yielded
    cases ht : (ops[g]?).bind (·.dst) with
    | none => rfl
    | some t =>
     have h1 := hget t (by unfold Oper.looksAt; rw [hgd]; simp [ht])
     simp only [Option.bind_some, h1]
   simp only [hy]
 unfold GDoes at h ⊢
 rw [hwt]
 split
 ·rename_i hwd
  rw [if_pos hwd] at h
  unfold Does at h ⊢; rw [hex]; exact h
 ·rename_i hwd
  rw [if_neg hwd] at h
  exact h
def aOk (ops : Array Oper) (B : List Nat) (DL : List (Nat × Tmp)) : Bool :=
 (List.range ops.size).all fun i => match ops[i]? with
  | some o => (o.looksAt ops).all fun t => DL.all fun e => !(e.2 == t) || bit B i e.1
  | none => false
def AllG (P : Program) (ops : Array Oper) (L : List Value) (w : World) : List Oper → List Value → Prop
 | o :: os, x :: xs => GDoes P ops o L w (fun u w' => u = x ∧ Only No w w') ∧ AllG P ops L w os xs
 | _, _ => True
theorem gi {x : Value} (hg : o.guard = none) (h : DV P o (ev L) w x) : GDoes P ops o L w (fun u w' => u = x ∧ Only No w w') := gd hg (h.mono fun u w' ⟨h1, h2⟩ => ⟨h1, h2 ▸ Only.refl _ _⟩)
theorem gc {x : Value} (hg : o.guard = none) (h : Does P o (ev L) w (RIs x w)) : GDoes P ops o L w (fun u w' => u = x ∧ Only No w w') := gd hg h
theorem gi_on {x : Value} {g : Nat} {u : Bool} {og : Oper} {t : Tmp} (hg : o.guard = some (g, u)) (ho : ops[g]? = some og) (hd : og.dst = some t) (hl : t < L.length) (hv : nth L t = .bool u) (h : DV P o (ev L) w x) : GDoes P ops o L w (fun u w' => u = x ∧ Only No w w') := gd_on hg ho hd hl hv (h.mono fun u w' ⟨h1, h2⟩ => ⟨h1, h2 ▸ Only.refl _ _⟩)
theorem gc_on {x : Value} {g : Nat} {u : Bool} {og : Oper} {t : Tmp} (hg : o.guard = some (g, u)) (ho : ops[g]? = some og) (hd : og.dst = some t) (hl : t < L.length) (hv : nth L t = .bool u) (h : Does P o (ev L) w (RIs x w)) : GDoes P ops o L w (fun u w' => u = x ∧ Only No w w') := gd_on hg ho hd hl hv h
theorem gf {g : Nat} {u : Bool} {og : Oper} {t : Tmp} (hg : o.guard = some (g, u)) (ho : ops[g]? = some og) (hd : og.dst = some t) (hl : t < L.length) (hv : nth L t = .bool (!u)) : GDoes P ops o L w (fun u w' => u = undef ∧ Only No w w') := gd_off hg ho hd hl hv ⟨rfl, Only.refl _ _⟩
end
end Go.Proofs.YtpamdlnobekihaaF
namespace Go.Proofs.YtpamdlnobekihaaF
open Go Shelf YtpamdlnobekihaaS
section
variable {P : Program} {d : Option Tmp} {tt : TypeId} {s : String} {af : Array Edge} {g : Option (Nat × Bool)} {ρ : Operand → Value} {w : World}
theorem run_equal_nil {t e : TypeId} (ht : P.underlying t = some (.slice e)) {A : Option Addr} {n c : Nat} {w : World} : (Op.equal t (.slice A n c) (.slice none 0 0)).run P w = .ok A.isNone w := by
 have gen : ∀ m, (Op.equalIn (m + 1) t (.slice A n c) (.slice none 0 0)).run P w = .ok A.isNone w := by
  intro m
  rw [Op.equalIn]
  simp only [Sem.run_bind, run_underlying ht, Result.andThen]
  cases A <;> rfl
 exact gen 9999
theorem d_eqnil {α : Type} {q : Kd α} {xs : List α} {X : Nat → Prop} {t t2 e : TypeId} {x : Operand} {u : Value} (ht : P.underlying t = some (.slice e)) (hx : ρ x = u) (hS : Ps X (Seq q xs u) w) (hc0 : ρ (.const (.slice none 0 0)) = .slice none 0 0) :
  Does P ⟨d, .binOp .eql t x (.const (.slice none 0 0)) t2, tt, s, af, g⟩ ρ w fun u' w' => ∃ b : Bool, u' = .bool b ∧ (b = true → xs = []) ∧ w = w' := by
 obtain ⟨A, c, hu, hc, hel⟩ := hS.now
 subst hu
 refine Does.of_value (v := .bool A.isNone) (w' := w) (by simp) ?_ ⟨A.isNone, rfl, fun hn => ?_, rfl⟩
 ·simp [execOp, hx, hc0, go_sem, eqGuard, binOp, run_equal_nil ht]
 ·cases xs with
  | nil => rfl
  | cons v r => obtain ⟨ad, h, _⟩ := hel 0 v rfl; subst h; cases hn
end
theorem tmm (a : Int) {m : Nat} (hm : 0 < m) : (Int.tmod a m < 0 ∧ Int.tmod a m + m = ((a % m).toNat : Int)) ∨ (0 ≤ Int.tmod a m ∧ Int.tmod a m = ((a % m).toNat : Int)) := by
 have h1 := Int.emod_nonneg a (show (m : Int) ≠ 0 by omega)
 have h2 := Int.emod_lt_of_pos a (show (0 : Int) < m by omega)
 have h3 := Int.tmod_eq_emod (a := a) (b := (m : Int))
 have h4 : ((m : Int).natAbs : Int) = m := by omega
 by_cases h : 0 ≤ a ∨ (m : Int) ∣ a
 ·rw [if_pos h] at h3; right; omega
 ·rw [if_neg h, h4] at h3; left; omega
theorem tmm_neg {a : Int} {m : Nat} (hm : 0 < m) (hm2 : m ≤ 1000000) (h : Int.tmod a m < 0) : IntKind.i64.wrap (Int.tmod a m + m) = ((a % m).toNat : Int) := by
 have h2 := Int.emod_lt_of_pos a (show (0 : Int) < m by omega)
 rcases tmm a hm with h1 | h1
 ·rw [IntWalk.i64_in _ (by omega)]; exact h1.2
 ·omega
theorem tmm_pos {a : Int} {m : Nat} (hm : 0 < m) (h : ¬ Int.tmod a m < 0) : eI (Int.tmod a m) = eN (a % m).toNat := by
 rcases tmm a hm with h1 | h1
 ·omega
 ·exact congrArg eI h1.2
end Go.Proofs.YtpamdlnobekihaaF
namespace Go.Proofs.YtpamdlnobekihaaF
open Go Go.Proofs.YtpamdlnobekihaaS
section
variable {r : Option Nat} {P : Program} {ops : Array Oper} {Q : Exit → Act → World → Prop} {O : Nat → Prop} {l : List Value} {ds : List Deferred} {w0 : World} {n p : Nat} {B : List Nat} {DL : List (Nat × Tmp)} {Ms : List Nat} {Φ : Nat → RF O} {Rs : Nat → World → Prop}
theorem count_late : ∀ (n i : Nat), i ≤ n → ((List.range n).filter fun j => !decide (j < i)).length = n - i
 | 0, i, h => by simp
 | n + 1, i, h => by
  rw [List.range_succ, List.filter_append, List.length_append]
  rcases Nat.lt_or_ge n i with h1 | h1
  ·have h2 : i = n + 1 := by omega
   subst h2
   have : (List.range n).filter (fun j => !decide (j < n + 1)) = [] := by
    rw [List.filter_eq_nil_iff]
    intro j hj
    have := List.mem_range.1 hj
    simp; omega
   rw [this]
   simp
  ·rw [count_late n i h1]
   have : [n].filter (fun j => !decide (j < i)) = [n] := by simp; omega
   rw [this, List.length_singleton]
   omega
theorem tail_go (hB : bOk ops B DL Ms = true) (hn : ops.size = n) (hlate : ∀ i, p ≤ i → i < n → ∀ j, j < i → bit B i j = true) :
  ∀ (m t : Nat) (a : Act) (w : World), p ≤ t → t + m = n → wpListIn (Wf r) 0 P ops Q (ops.toList.drop t) a w → wpAnyIn (Wf r) 0 P .any ops Q m ((List.range n).map fun j => decide (j < t)).toArray a w := by
 obtain ⟨hops, hlt, hnd1, hnd2, hMs, hMn⟩ := bOk_parts hB
 have getT : ∀ (b : Nat → Bool) (j : Nat), ((List.range n).map b).toArray.getD j true = (if j < n then b j else true) := by
  intro b j
  rw [Array.getD_eq_getD_getElem?, List.getElem?_toArray, List.getElem?_map]
  by_cases h : j < n <;> simp [h]
 have getF : ∀ (b : Nat → Bool) (j : Nat), ((List.range n).map b).toArray.getD j false = (if j < n then b j else false) := by
  intro b j
  rw [Array.getD_eq_getD_getElem?, List.getElem?_toArray, List.getElem?_map]
  by_cases h : j < n <;> simp [h]
 have key : ∀ i, ∀ j, i < ops.size → bit B i j = true → j < i := by
  intro i
  induction i using Nat.strongRecOn with
  | _ i ih =>
   intro j hs hj
   have hp := hops i _ (Array.getElem?_eq_getElem hs)
   obtain ⟨e, he, hb, h⟩ := hp.2.1 j (hp.2.2.2.2.2.2 j hj) hj
   have h1 := hp.1 e he hb
   rcases h with h | h
   ·omega
   ·have := ih e.on h1 j (by omega) h; omega
 intro m
 induction m with
 | zero =>
  intro t a w hpt htn h
  have ht : t = n := by omega
  subst ht
  refine ⟨List.eq_nil_iff_forall_not_mem.2 (fun i hi => ?_), ?_⟩
  ·rw [mem_ready] at hi
   obtain ⟨h1, o, ho, _⟩ := hi
   have : i < t := by have := (Array.getElem?_eq_some_iff.1 ho).1; omega
   rw [getT, if_pos this] at h1
   simp [this] at h1
  ·rw [List.drop_of_length_le (by simp; omega)] at h
   exact h
 | succ m ih =>
  intro t a w hpt htn h
  have htl : t < n := by omega
  have hts : t < ops.size := by omega
  have ho : ops[t]? = some ops[t] := Array.getElem?_eq_getElem hts
  have hd : ops.toList.drop t = ops[t] :: ops.toList.drop (t + 1) := by
   rw [List.drop_eq_getElem_cons (by simpa using hts)]
   simp
  have hrt : t ∈ Region.ready .any ops ((List.range n).map fun j => decide (j < t)).toArray := by
   rw [mem_ready]
   refine ⟨by rw [getT, if_pos htl]; simp, _, ho, fun e he hb => ?_⟩
   have := (hops t _ ho).1 e he hb
   rw [getF, if_pos (by omega)]
   simpa using this
  refine ⟨fun hr => (by rw [hr] at hrt; cases hrt), fun i hi => ?_⟩
  rw [mem_ready] at hi
  obtain ⟨h1, o, hoi, hedge⟩ := hi
  have hin : i < n := by have := (Array.getElem?_eq_some_iff.1 hoi).1; omega
  rw [getT, if_pos hin] at h1
  have hti : t ≤ i := by simpa using h1
  have hie : i = t := by
   rcases Nat.lt_or_ge t i with h2 | h2
   ·have hb := hlate i (by omega) hin t h2
    have hp := hops i _ hoi
    obtain ⟨e, he, hbe, hor⟩ := hp.2.1 t hts hb
    have hdn := hedge e he hbe
    have hlt' := hp.1 e he hbe
    rw [getF, if_pos (by omega)] at hdn
    have hdn' : e.on < t := by simpa using hdn
    rcases hor with hor | hor
    ·omega
    ·have := key e.on t (by omega) hor; omega
   ·omega
  subst hie
  rw [ho] at hoi
  obtain rfl := Option.some.inj hoi
  have hset : ((List.range n).map fun j => decide (j < i)).toArray.setIfInBounds i true = ((List.range n).map fun j => decide (j < i + 1)).toArray := by
   rw [list_up]
   congr 2
   funext j
   unfold up
   by_cases hj : j = i
   ·subst hj; simp
   ·rw [if_neg hj, decide_eq_decide]; omega
  rw [hset]
  rw [hd] at h
  unfold wpOpIn
  rw [ho]
  simp only [wpListIn] at h
  show (if Region.wanted ops[i] (yielded ops a.tmps) = true then _ else _)
  split
  ·next hw =>
   rw [if_pos hw] at h
   exact Oper.wpIn_mono (fun a' w' h' => ih (i + 1) a' w' (by omega) (by omega) h') h
  ·next hw =>
   rw [if_neg hw] at h
   exact ⟨h.1, ih (i + 1) _ _ (by omega) (by omega) h.2⟩
theorem region_pre (DLp : List (Nat × Tmp)) (hB : bOk ops B DL Ms = true) (hn : ops.size = n) (hp : p < n) (hDp : DLp = DL.filter (fun e => decide (e.1 < p))) (hMp : ∀ t, t < Ms.length → Ms.getD t 0 < p) (hlate : ∀ i, p ≤ i → i < n → ∀ j, j < i → bit B i j = true) (hDl : ∀ e ∈ DL, e.2 < l.length) (hR : ∀ k w w', Rs k w → Only No w w' → Rs k w')
  (hs : ∀ i, i < p → i ∉ Ms → LStep P ops O DL l (fun v => fillL l DL v) w0 n B Ms Φ Rs i) (hm : ∀ t, t < Ms.length → MStep P ops O DL l (fun v => fillL l DL v) w0 n B Φ Rs t (Ms.getD t 0))
  (hend : ∀ v lo hi w', Only O w0 w' → (∀ j, j < p → (Φ j).p (rs B j v) (v j) (lo j) (hi j) w') → Ivs (fun j => j < p) lo hi w0 w' → Rs Ms.length w' → wpListIn (Wf r) 0 P ops Q (ops.toList.drop p) (fr (fillL l DLp v) ds) w') :
  ∀ (m : Nat) (b : Nat → Bool) (a : Act) (w : World), ((List.range n).filter fun j => !b j).length = m → (∀ i, p ≤ i → b i = false) → Inv O l ds w0 n B DL Ms Φ Rs b a w → wpAnyIn (Wf r) 0 P .any ops Q m ((List.range n).map b).toArray a w := by
 obtain ⟨hops, hlt, hnd1, hnd2, hMs, hMn⟩ := bOk_parts hB
 have getT : ∀ (b : Nat → Bool) (j : Nat), ((List.range n).map b).toArray.getD j true = (if j < n then b j else true) := by
  intro b j
  rw [Array.getD_eq_getD_getElem?, List.getElem?_toArray, List.getElem?_map]
  by_cases h : j < n <;> simp [h]
 have getF : ∀ (b : Nat → Bool) (j : Nat), ((List.range n).map b).toArray.getD j false = (if j < n then b j else false) := by
  intro b j
  rw [Array.getD_eq_getD_getElem?, List.getElem?_toArray, List.getElem?_map]
  by_cases h : j < n <;> simp [h]
 have all_of : ∀ b : Nat → Bool, Region.ready .any ops ((List.range n).map b).toArray = [] → ∀ i, i < n → b i = true := by
  intro b hr i
  induction i using Nat.strongRecOn with
  | _ i ih =>
   intro hi
   cases hb : b i with
   | true => rfl
   | false =>
    obtain ⟨o, ho⟩ : ∃ o, ops[i]? = some o := ⟨_, Array.getElem?_eq_getElem (by omega)⟩
    have : i ∈ Region.ready .any ops ((List.range n).map b).toArray := by
     rw [mem_ready]
     refine ⟨by rw [getT, if_pos hi, hb], o, ho, fun e he hbe => ?_⟩
     have := (hops i o ho).1 e he hbe
     rw [getF, if_pos (by omega)]
     exact ih e.on this (by omega)
    rw [hr] at this
    cases this
 intro m
 induction m with
 | zero =>
  intro b a w hm0 hbp hI
  have : p ∈ (List.range n).filter fun j => !b j := List.mem_filter.2 ⟨List.mem_range.2 hp, by simp [hbp p (Nat.le_refl _)]⟩
  rw [List.eq_nil_of_length_eq_zero hm0] at this
  cases this
 | succ m ih =>
  intro b a w hm0 hbp hI
  refine ⟨fun hr => (by have := all_of b hr p hp; rw [hbp p (Nat.le_refl _)] at this; cases this), fun i hi => ?_⟩
  rw [mem_ready] at hi
  obtain ⟨h1, o, ho, hedge⟩ := hi
  have hin : i < n := by have := (Array.getElem?_eq_some_iff.1 ho).1; omega
  rw [getT, if_pos hin] at h1
  obtain ⟨⟨v, lo, hi, k, l', rfl, hlen, hl', hO, hΦ, hIv, hk, hms, hr⟩, hcl⟩ := hI
  obtain ⟨e1, e2, e3, e4, e5, e6, e7⟩ := hops i o ho
  obtain ⟨v, hl', hΦ, hold⟩ : ∃ v : Nat → Value, (∀ t, nth l' t = sel DL b v l t) ∧ (∀ j, j < n → b j = true → (Φ j).p (rs B j v) (v j) (lo j) (hi j) w) ∧ (∀ e ∈ DL, b e.1 = false → v e.1 = nth l e.2) := by
   refine ⟨fun j => if b j then v j else match DL.find? (fun e => e.1 == j) with | some e => nth l e.2 | none => undef, fun t => ?_, fun j hj hbj => ?_, fun e he hbe => ?_⟩
   ·rw [hl' t]
    unfold sel
    split
    ·split
     ·rename_i hb; exact (if_pos hb).symm
     ·rfl
    ·rfl
   ·have h1 : rs B j (fun j => if b j then v j else match DL.find? (fun e => e.1 == j) with | some e => nth l e.2 | none => undef) = rs B j v := by
     funext m
     unfold rs
     split
     ·rename_i hm; exact if_pos (hcl j hbj m hm)
     ·rfl
    rw [h1]
    simp only [hbj, if_true]
    exact hΦ j hj hbj
   ·have hf : DL.find? (fun e' => e'.1 == e.1) = some e := by
     cases hf : DL.find? (fun e' => e'.1 == e.1) with
     | none => have := List.find?_eq_none.1 hf e he; simp at this
     | some e' => rw [fst_at hnd1 (List.mem_of_find?_eq_some hf) he (by simpa using List.find?_some hf)]
    simp only [hbe, hf]
    rfl
  have hold' : ∀ e ∈ DL, bit B e.1 i = true → v e.1 = nth l e.2 := fun e he hbe => hold e he (by
   cases hb : b e.1 with
   | false => rfl
   | true => have := hcl e.1 hb i hbe; rw [h1] at this; cases this)
  have hpre : ∀ j, bit B i j = true → b j = true := by
   intro j hj
   obtain ⟨e, he, hbe, hor⟩ := e2 j (e7 j hj) hj
   have hbon : b e.on = true := by
    have := hedge e he hbe
    rw [getF] at this
    split at this
    ·exact this
    ·cases this
   rcases hor with rfl | hor
   ·exact hbon
   ·exact hcl e.on hbon j hor
  have hkmin : ∀ t, t < Ms.length → bit B i (Ms.getD t 0) = true → t < k := fun t ht hb => (hms t ht).1 (hpre _ hb)
  have hkmax : ∀ t, t < Ms.length → bit B (Ms.getD t 0) i = true → k ≤ t := by
   intro t ht hb
   rcases Nat.lt_or_ge t k with h | h
   ·have := hcl _ ((hms t ht).2 h) i hb
    rw [h1] at this
    cases this
   ·exact h
  have hIv' : Ivs (fun j => bit B i j = true) lo hi w0 w := ⟨fun j hj => hIv.1 j (hpre j hj), fun x y hx hy => hIv.2 x y (hpre x hx) (hpre y hy)⟩
  have hΦ' : ∀ j, bit B i j = true → (Φ j).p (rs B j v) (v j) (lo j) (hi j) w := fun j hj => hΦ j (by have := e7 j hj; omega) (hpre j hj)
  have hcnt : ((List.range n).filter fun j => !up b i j).length = m := by
   have := count_up h1 List.nodup_range (List.mem_range.2 hin)
   omega
  by_cases hip : i < p
  case neg =>
   have hpi : p ≤ i := Nat.le_of_not_lt hip
   have hpe : i = p := by
    rcases Nat.lt_or_ge p i with h | h
    ·have := hpre p (hlate i hpi hin p h)
     rw [hbp p (Nat.le_refl _)] at this
     cases this
    ·omega
   subst hpe
   have hball : ∀ j, j < i → b j = true := fun j hj => hpre j (hlate i (Nat.le_refl _) hin j hj)
   have hbe : b = fun j => decide (j < i) := by
    funext j
    by_cases hj : j < i
    ·rw [hball j hj]; simp [hj]
    ·rw [hbp j (Nat.le_of_not_lt hj)]; simp [hj]
   have hke : k = Ms.length := by
    rcases Nat.lt_or_ge k Ms.length with h | h
    ·have := (hms k h).1 (hball _ (hMp k h))
     omega
    ·omega
   have hfl : l' = fillL l DLp v := by
    refine nth_ext (by rw [hlen, fillL_length]) (fun t => ?_)
    have hnd2' : (DLp.map (·.2)).Nodup := by rw [hDp]; exact hnd2.sublist (List.filter_sublist.map _)
    have hlt' : ∀ e ∈ DLp, e.2 < l.length := fun e he => hDl e (by rw [hDp] at he; exact (List.mem_filter.1 he).1)
    rw [hl' t, nth_fillL DLp l v t hlt' hnd2']
    unfold sel
    cases hf : DL.find? (fun e => e.2 == t) with
    | none =>
     have : DLp.find? (fun e => e.2 == t) = none := by
      rw [List.find?_eq_none] at hf ⊢
      exact fun e he => hf e (by rw [hDp] at he; exact (List.mem_filter.1 he).1)
     rw [this]
    | some e =>
     have he := List.mem_of_find?_eq_some hf
     have het : e.2 = t := by simpa using List.find?_some hf
     by_cases hep : e.1 < i
     ·have hm' : (e.1, t) ∈ DLp := by rw [hDp, ← het]; exact List.mem_filter.2 ⟨he, by simpa using hep⟩
      rw [find_at hnd2' hm']
      simp [hball e.1 hep]
     ·have : DLp.find? (fun e => e.2 == t) = none := by
       rw [List.find?_eq_none]
       intro e' he' h'
       rw [hDp] at he'
       obtain ⟨h1', h2'⟩ := List.mem_filter.1 he'
       have h3' : e'.2 = t := by simpa using h'
       have := find_at hnd2 (show (e'.1, t) ∈ DL by rw [← h3']; exact h1')
       rw [hf] at this
       have := Option.some.inj this
       rw [this] at hep
       simp at h2' hep
       omega
      rw [this]
      simp [hbp e.1 (Nat.le_of_not_lt hep)]
   subst hke
   have hT := hend v lo hi w hO (fun j hj => hΦ j (by omega) (hball j hj)) ⟨fun j hj => hIv.1 j (hball j hj), fun x y hx hy => hIv.2 x y (hball x hx) (hball y hy)⟩ hr
   rw [← hfl] at hT
   have hgo := tail_go (r := r) (P := P) (Q := Q) hB hn hlate (n - i) i (fr l' ds) w (Nat.le_refl _) (by omega) hT
   have hcm : n - i = m + 1 := by
    rw [← hm0, hbe]
    exact (count_late n i (by omega)).symm
   rw [hcm, ← hbe] at hgo
   exact hgo.2 i (by rw [mem_ready]; exact ⟨by rw [getT, if_pos hin]; exact h1, o, ho, hedge⟩)
  have hbp' : ∀ j, p ≤ j → up b i j = false := fun j hj => by simp only [up, show j ≠ i by omega, if_false]; exact hbp j hj
  by_cases hiM : i ∈ Ms
  ·obtain ⟨t, ht, hti⟩ : ∃ t, t < Ms.length ∧ Ms.getD t 0 = i := by
    obtain ⟨t, ht, hti⟩ := List.getElem_of_mem hiM
    exact ⟨t, ht, by rw [List.getD_eq_getElem?_getD, List.getElem?_eq_getElem ht]; exact hti⟩
   have hkt : k = t := by
    have h2 : ¬ t < k := fun h => by
     have := (hms t ht).2 h
     rw [hti, h1] at this
     cases this
    rcases Nat.eq_zero_or_pos t with h0 | h0
    ·omega
    ·have h3 := (hMs t ht).2 (t - 1) (by omega)
     rw [hti] at h3
     have := hkmin (t - 1) (by omega) h3
     omega
   subst hkt
   obtain ⟨o', ho'', hg⟩ := (hm k ht).2 v lo hi w hO (by rw [hti]; exact hΦ') (by rw [hti]; exact hIv') hr (by rw [hti]; exact hold')
   have ho' := nthO_ops ho''
   rw [hti] at ho' hg
   rw [ho] at ho'
   obtain rfl := Option.some.inj ho'
   refine gdoes_wp (l := l) (DL := DL) hB hDl ho hlen hl' hold hg (fun u w' hu => ?_)
   rw [list_up]
   obtain ⟨hu1, hu2, hu3⟩ := hu
   refine ih _ _ _ hcnt hbp' (inv_up hB hn hDl ho h1 hlen hl' hO hΦ hIv hcl hpre hu1 hu3 (fun j hj hb hs_ => by rcases msens (hti ▸ (hm k ht).1) hj hs_ with rfl | e; (rw [h1] at hb; cases hb); (have := hcl j hb i e; rw [h1] at this; cases this)) ht (fun s hs' => ?_) hu2)
   by_cases hst : s = k
   ·subst hst; rw [hti]; simp [up]
   ·have hne : Ms.getD s 0 ≠ i := by
     intro h
     rw [← hti, List.getD_eq_getElem?_getD, List.getD_eq_getElem?_getD, List.getElem?_eq_getElem hs', List.getElem?_eq_getElem ht] at h
     exact hst (nodup_at hMn hs' ht (by simpa using h))
    simp only [up, hne, if_false]
    rw [hms s hs']
    omega
  ·obtain ⟨o', ho'', hg⟩ := hs i hip hiM v lo hi w k hO hΦ' hIv' hkmin hkmax hk hr hold'
   have ho' := nthO_ops ho''
   rw [ho] at ho'
   obtain rfl := Option.some.inj ho'
   refine gdoes_wp (l := l) (DL := DL) hB hDl ho hlen hl' hold hg (fun u w' hu => ?_)
   rw [list_up]
   refine ih _ _ _ hcnt hbp' (inv_up hB hn hDl ho h1 hlen hl' hO hΦ hIv hcl hpre hu.1 (No.any hu.2) (fun _ _ _ _ => hu.2) hk (fun s hs' => ?_) (hR _ _ _ hr hu.2))
   have hne : Ms.getD s 0 ≠ i := by
    intro h
    refine hiM ?_
    rw [← h, List.getD_eq_getElem?_getD, List.getElem?_eq_getElem hs']
    exact List.getElem_mem hs'
   simp only [up, hne, if_false]
   exact hms s hs'
theorem drawnT {id : Nat} (p : Nat) (B : List Nat) (DL DLp : List (Nat × Tmp)) (Ls : List Nat) (Ms : List Nat) (Φ : Nat → RF O) (Rs : Nat → World → Prop)
  (lv lp : (Nat → Value) → List Value) (hmx : P.follows .mixedOrders = true) (hB : bOk ops B DL Ms = true) (hn : ops.size = n) (hp : p < n) (hDp : DLp = DL.filter (fun e => decide (e.1 < p))) (hMp : (Ms.all fun t => decide (t < p)) = true)
  (hlate : ((List.range n).all fun i => decide (i < p) || (List.range i).all fun j => bit B i j) = true) (hLs : ((List.range p).all fun i => Ls.contains i || Ms.contains i) = true)
  (hDl : (DL.all fun e => decide (e.2 < l.length)) = true) (hlv : ∀ v, fillL l DL v = lv v) (hlp : ∀ v, fillL l DLp v = lp v) (hR : ∀ k w w', Rs k w → Only No w w' → Rs k w') (h0 : Rs 0 w0)
  (hs : ∀ i ∈ Ls, LStep P ops O DL l lv w0 n B Ms Φ Rs i) (hm : ∀ t, t < Ms.length → MStep P ops O DL l lv w0 n B Φ Rs t (Ms.getD t 0))
  (hend : ∀ v lo hi w', Only O w0 w' → (∀ j, j < p → (Φ j).p (rs B j v) (v j) (lo j) (hi j) w') → Ivs (fun j => j < p) lo hi w0 w' → Rs Ms.length w' → wpL r P ops Q (ops.toList.drop p) (lp v) ds w') :
  (Code.region id ops true).wpIn (Wf r) 0 P Q (fr l ds) w0 := by
 obtain rfl : (fun v => fillL l DL v) = lv := funext hlv
 obtain rfl : (fun v => fillL l DLp v) = lp := funext hlp
 refine wpIn_region_any hmx ?_
 have hdr : Only No w0 { w0 with drawn := w0.drawn + 1 } := ⟨rfl, rfl, rfl, Nat.le_refl _, fun _ _ _ => rfl⟩
 have hl : Array.replicate ops.size false = ((List.range n).map fun _ => false).toArray := by
  rw [hn]
  apply Array.ext'
  simp [List.map_const']
 rw [hl, hn]
 have hDl' : ∀ e ∈ DL, e.2 < l.length := fun e he => by simpa using List.all_eq_true.1 hDl e he
 have hf : ((List.range n).filter fun _ => !false).length = n := by
  have h1 : ((List.range n).filter fun _ => !false) = List.range n := List.filter_eq_self.2 (fun _ _ => rfl)
  rw [h1, List.length_range]
 have hsel : ∀ t, nth l t = sel DL (fun _ => false) (fun _ => undef) l t := by
  intro t
  unfold sel
  split <;> simp
 refine region_pre DLp hB hn hp hDp (fun t ht => ?_) (fun i h1 h2 j hj => ?_) hDl' hR (fun i hi hM => hs i ?_) hm hend n (fun _ => false) _ _ hf (fun _ _ => rfl) ⟨⟨fun _ => undef, fun _ => 0, fun _ => 0, 0, l, rfl, rfl, hsel, No.any hdr, (fun _ _ h => by cases h), ⟨(fun _ h => by cases h), (fun _ _ h => by cases h)⟩, Nat.zero_le _, (fun t ht => by simp), hR _ _ _ h0 hdr⟩, (fun _ h => by cases h)⟩
 ·have := List.all_eq_true.1 hMp (Ms.getD t 0) (by rw [List.getD_eq_getElem?_getD, List.getElem?_eq_getElem ht]; exact List.getElem_mem ht)
  simpa using this
 ·have := List.all_eq_true.1 hlate i (List.mem_range.2 h2)
  rw [Bool.or_eq_true] at this
  rcases this with h | h
  ·have : i < p := by simpa using h
   omega
  ·exact List.all_eq_true.1 h j (List.mem_range.2 hj)
 ·have := List.all_eq_true.1 hLs i (List.mem_range.2 hi)
  rw [Bool.or_eq_true] at this
  rcases this with h | h
  ·exact List.contains_iff_mem.1 h
  ·exact absurd (List.contains_iff_mem.1 h) hM
end
end Go.Proofs.YtpamdlnobekihaaF
namespace Go.Proofs.YtpamdlnobekihaaF
open Go Shelf YtpamdlnobekihaaS
def subv (sz l h : Nat) : Value → Value
 | .slice A _ c => .slice (if c = l then A else A.map (·.add (l * sz))) (h - l) (c - l)
 | v => v
theorem oc_nil : ∀ v ∈ ([] : List Value), v.oneCell' = true := fun _ h => by cases h
theorem oc_cons {v : Value} {vs : List Value} (h : v.oneCell' = true) (hs : ∀ v ∈ vs, v.oneCell' = true) : ∀ x ∈ v :: vs, x.oneCell' = true := fun x hx => by
 rcases List.mem_cons.1 hx with rfl | hx
 ·exact h
 ·exact hs x hx
theorem orq_skip {bo : Option Nat} {O X : Nat → Prop} (h : ∀ k, O k → X k) : ∀ k, O k → Orq bo X k := fun k t => .inr (h k t)
def RF.ar (O : Nat → Prop) (e : TypeId) (n : Nat) (cs : List Value) (n0 : Nat) (h : ∀ k, O k → k < n0) : RF O :=
 RF.mk2 (fun _ u _ _ w => ∃ b, u = sli b 0 n n ∧ Arr e b cs w ∧ n0 ≤ b) (fun hp ho => by obtain ⟨b, h1, h2, h3⟩ := hp; exact ⟨b, h1, h2.step ho (fun t => by have := h b t; omega), h3⟩)
def RF.ow (O : Nat → Prop) (e : TypeId) (n : Nat) (cs : List Value) (n0 : Nat) (h : ∀ k, O k → k < n0) : RF O :=
 RF.mk2 (fun _ u _ _ w => ∃ bo, Ow e 1 bo u n cs w ∧ ∀ b, bo = some b → n0 ≤ b) (fun hp ho => by obtain ⟨bo, h1, h2⟩ := hp; exact ⟨bo, h1.step ho (fun b hb t => by have := h b t; have := h2 b hb; omega), h2⟩)
theorem fresh_of {bo : Option Nat} {b n0 n : Nat} (h : bo = some b ∨ ∃ c, bo = some c ∧ n ≤ c) (hb : n0 ≤ b) (hn : n0 ≤ n) : ∀ c, bo = some c → n0 ≤ c := fun c hc => by
 rcases h with h | ⟨c', h, h'⟩
 ·rw [h] at hc; injection hc with hc; omega
 ·rw [h] at hc; injection hc with hc; omega
theorem not_of_lt {X : Nat → Prop} {bo : Option Nat} {n : Nat} (h : ∀ k, X k → k < n) (hf : ∀ b, bo = some b → n ≤ b) : ∀ b, bo = some b → ¬ X b := fun b hb t => by have := h b t; have := hf b hb; omega
def AppFull {α : Type} (e : TypeId) (enc : α → Value) (b : Nat) (xs : List α) (w : World) : Value → World → Prop := fun u' w' =>
 ∃ bo', Ow e 1 bo' u' xs.length (xs.map enc) w' ∧ (bo' = some b ∨ ∃ c, bo' = some c ∧ w.heap.size ≤ c) ∧ Only No w w'
section
variable {P : Program} {d : Option Tmp} {tt : TypeId} {s : String} {af : Array Edge} {g : Option (Nat × Bool)} {ρ : Operand → Value} {w : World}
theorem d_append_full {α : Type} {enc : α → Value} {t tx e e' : TypeId} {x y : Operand} {bytes n b : Nat} {z : Value} {v : Value} {xs ys : List α} {ts : Array TypeId} (ht : P.underlying t = some (.slice e)) (htx : P.underlying tx = some (.slice e')) (hz : TI P e 1 bytes z) (hzc : z.cells.size = 1)
  (hx : ρ x = sli b 0 n n) (hy : ρ y = v) (hA : Arr e b (xs.map enc) w) (hxn : xs.length = n) (hs : SrcV 1 ys.length (ys.map enc) v w) (hb : (2 * (xs.length + ys.length) + 192) * bytes ≤ 281474976710656) (hm : xs.length + ys.length < 2 ^ 62) (hts : ts = #[t, tx]) :
  Does P ⟨d, .call ⟨.builtin .append, #[x, y], ts⟩, tt, s, af, g⟩ ρ w (AppFull e enc b (xs ++ ys) w) := by
 subst hts; subst hxn
 obtain ⟨i, hi, hby, hsz, hze⟩ := hz.info
 have hsrc := hs.src (P := P) (bytes := 0) htx
 have hnl := hsrc.newsLen
 rw [← hsz] at hsrc
 suffices hmain : ∃ u' w', (Builtin.append_ #[t, tx] tt #[sli b 0 xs.length xs.length, v]).run P w = .ok u' w' ∧ AppFull e enc b (xs ++ ys) w u' w' by
  obtain ⟨u', w', hr, hA⟩ := hmain
  refine Does.of_value (v := u') (w' := w') (by simp) ?_ hA
  simp only [execOp, resolve, Sem.run_bind, Sem.run_pure, Result.andThen, invoke, builtin, List.map_toArray, List.map_cons, List.map_nil, hx, hy, hr]
 by_cases hm0 : ys.length = 0
 ·have hy0 : ys = [] := List.eq_nil_of_length_eq_zero hm0
  subst hy0
  have hrun := run_append_room_src w t tx tt e i ht hi b 0 xs.length xs.length v 0 [] hsrc (by simp) (fun j hj => by simp at hj) (fun j hj => by simp at hj)
  refine ⟨_, _, hrun, some b, .inr ⟨b, xs.length, [], rfl, ?_, ?_, ?_, by simp, by simp⟩, .inl rfl, ?_⟩
  ·simp [sli]
  ·simp
  ·simpa [World.setCells] using hA
  ·simpa [World.setCells] using Only.refl No w
 ·have hlt : xs.length < xs.length + ys.length := by omega
  have hnc := nextcap_le hlt
  have hfit : Builtin.nextslicecap (xs.length + ys.length) xs.length * i.bytes ≤ 281474976710656 := by
   rw [hby]
   exact Nat.le_trans (Nat.mul_le_mul_right _ hnc) hb
  have hold : (Builtin.firstCells i.size xs.length (.slice (some ⟨b, 0, none⟩) xs.length xs.length)).run P w.drew = .ok (xs.map enc).toArray w.drew := by
   have := run_loadCells_list (P := P) w.drew ⟨b, 0, none⟩ (xs.map enc) (fun j v hj => by
    rw [add0]
    have h7 : w.cell? ⟨b, 0 + j, none⟩ = some v := hA.cell (by rw [Nat.zero_add]; exact hj)
    exact h7)
   rw [List.length_map] at this
   rw [hsz]
   simpa [Builtin.firstCells] using this
  refine ⟨_, _, run_append_grow_src w t tx tt e i z ht hi hze (some ⟨b, 0, none⟩) xs.length xs.length (xs.map enc) hold v ys.length (ys.map enc) hsrc hlt (by omega) hfit, ?_⟩
  have hcap : xs.length + ys.length ≤ grownCap w (xs.length + ys.length) xs.length e := by unfold grownCap Question.cut; simp
  have hzl : (Builtin.zeroCells z.cells (grownCap w (xs.length + ys.length) xs.length e - (xs.length + ys.length))).toList.length = (grownCap w (xs.length + ys.length) xs.length e - (xs.length + ys.length)) * 1 := by
   simp [Builtin.zeroCells, hzc]
  refine ⟨some w.heap.size, .inr ⟨w.heap.size, grownCap w (xs.length + ys.length) xs.length e, (Builtin.zeroCells z.cells (grownCap w (xs.length + ys.length) xs.length e - (xs.length + ys.length))).toList, rfl, ?_, ?_, ?_, ?_, ?_⟩, .inr ⟨_, rfl, Nat.le_refl _⟩, ?_⟩
  ·rw [List.length_append]; rfl
  ·rw [List.length_append]; exact hcap
  ·have := Arr.new w.drew e ((xs.map enc ++ ys.map enc) ++ (Builtin.zeroCells z.cells (grownCap w (xs.length + ys.length) xs.length e - (xs.length + ys.length))).toList)
   have h2 : ((xs.map enc ++ ys.map enc) ++ (Builtin.zeroCells z.cells (grownCap w (xs.length + ys.length) xs.length e - (xs.length + ys.length))).toList).toArray = (xs.map enc ++ ys.map enc).toArray ++ Builtin.zeroCells z.cells (grownCap w (xs.length + ys.length) xs.length e - (xs.length + ys.length)) := by
    apply Array.ext'; simp
   rw [h2] at this
   rw [List.map_append]
   exact this
  ·simp
  ·rw [List.length_append]; exact hzl
  ·have hd : Only No w w.drew := ⟨rfl, rfl, rfl, Nat.le_refl _, fun _ _ _ => rfl⟩
   exact hd.trans (only_alloc _ _)
end
def pu (n : Nat) (l : List UInt8) (u : Value) : Nat → Value
 | 0 => u
 | i + 1 => subv 1 n (l.drop (i * n)).length (pu n l u i)
def pv (n : Nat) (l : List UInt8) (u : Value) (i : Nat) : Value := subv 1 0 n (pu n l u i)
def partsV (n : Nat) (l : List UInt8) (u : Value) : List Value := (List.range (l.length / n)).map (pv n l u)
end Go.Proofs.YtpamdlnobekihaaF
namespace Go.Proofs.YtpamdlnobekihaaF
open Go Shelf YtpamdlnobekihaaS
section
variable {r : Option Nat} {P : Program} {ops : Array Oper} {Q : Exit → Act → World → Prop} {l : List Value} {ds : List Deferred} {w : World} {o : Oper} {rest : List Oper}
theorem wF (l' : List Value) (hk : wpL r P ops Q rest l' ds w) (h : l = l' := by kernel_rfl) : wpL r P ops Q rest l ds w := wpL.flat l' h hk
theorem wI {v : Value} (h : DV P o (ev l) w v) (hk : wpL r P ops Q rest (lput l o.dst v) ds w) (hg : o.guard = none := by rfl) : wpL r P ops Q (o :: rest) l ds w := wpL.is hg h hk
theorem wO {R : Value → World → Prop} (h : Does P o (ev l) w R) (hk : ∀ u w', R u w' → wpL r P ops Q rest (lput l o.dst u) ds w') (hg : o.guard = none := by rfl) : wpL r P ops Q (o :: rest) l ds w := wpL.op hg h hk
theorem wG {v : Value} {g : Nat} {u : Bool} {og : Oper} {t : Tmp} (h : DV P o (ev l) w v) (hk : wpL r P ops Q rest (lput l o.dst v) ds w) (hg : o.guard = some (g, u) := by rfl) (ho : ops[g]? = some og := by rfl) (hd : og.dst = some t := by rfl) (hl : t < l.length := by exact Nat.le_of_ble_eq_true rfl) (hv : nth l t = .bool u := by rfl) : wpL r P ops Q (o :: rest) l ds w :=
 wpL.onis hg ho hd hl hv h hk
theorem wX {g : Nat} {u : Bool} {og : Oper} {t : Tmp} (hk : wpL r P ops Q rest (lput l o.dst undef) ds w) (hg : o.guard = some (g, u) := by rfl) (ho : ops[g]? = some og := by rfl) (hd : og.dst = some t := by rfl) (hl : t < l.length := by exact Nat.le_of_ble_eq_true rfl) (hv : nth l t = .bool (!u) := by rfl) : wpL r P ops Q (o :: rest) l ds w :=
 wpL.off hg ho hd hl hv hk
end
theorem wD {r : Option Nat} {P : Program} {ops : Array Oper} {Q : Exit → Act → World → Prop} {l : List Value} {ds : List Deferred} {w : World} (h : Q .normal (fr l ds) w) : wpL r P ops Q [] l ds w := h
section
variable {F : Fence} {n : Nat} {P : Program} {Q : Exit → Act → World → Prop} {K : Act → World → Prop} {a : Act} {w : World} {x y c : Code} {id : Nat} {r : Option Nat} {l : List Value} {ds : List Deferred} {os : List Oper}
theorem wQ (h : Code.wpIn F n P x (Exit.then (Code.wpIn F n P y Q) Q) a w) : Code.wpIn F n P (x.seq y) Q a w := wpIn_seq h
theorem tN (h : K a w) : Exit.then K Q .normal a w := then_n h
theorem pL (h : wpL r P os.toArray Q os l ds w) : Code.wpIn (Wf r) 0 P (Code.region id os.toArray false) Q (fr l ds) w := plain h
theorem wB (h : Code.wpIn F n P c (Exit.inBlock id Q) a w) : Code.wpIn F n P (Code.block id c) Q a w := wpIn_block h
theorem wK (h : Q .normal a w) : Code.wpIn F n P Code.skip Q a w := wpIn_skip h
end
theorem nb {a b : Nat} (h : Nat.ble a b = true) : a ≤ b := Nat.le_of_ble_eq_true h
end Go.Proofs.YtpamdlnobekihaaF
namespace Go.Proofs.YtpamdlnobekihaaF
open Go Shelf YtpamdlnobekihaaS
section
variable {r : Option Nat} {P : Program} {ops : Array Oper} {Q : Exit → Act → World → Prop} {l : List Value} {ds : List Deferred} {w w0 : World} {n i : Nat} {B : List Nat} {DL : List (Nat × Tmp)} {o : Oper} {js : List Nat}
def wpS (r : Option Nat) (P : Program) (ops : Array Oper) (Q : Exit → Act → World → Prop) (ds : List Deferred) : List Nat → List Value → World → Prop
 | [], l, w => Q .normal (fr l ds) w
 | k :: ks, l, w => ∃ o R, nthO ops.toList k = some o ∧ GDoes P ops o l w R ∧ ∀ u w', R u w' → wpS r P ops Q ds ks (lput l o.dst u) w'
theorem wS.done (h : Q .normal (fr l ds) w) : wpS r P ops Q ds [] l w := h
theorem wS.op {R : Value → World → Prop} (ho : nthO ops.toList i = some o) (hg : o.guard = none) (h : Does P o (ev l) w R) (hk : ∀ u w', R u w' → wpS r P ops Q ds js (lput l o.dst u) w') : wpS r P ops Q ds (i :: js) l w := ⟨o, R, ho, gd hg h, hk⟩
theorem wS.is {v : Value} (ho : nthO ops.toList i = some o) (hg : o.guard = none) (h : DV P o (ev l) w v) (hk : wpS r P ops Q ds js (lput l o.dst v) w) : wpS r P ops Q ds (i :: js) l w := wS.op ho hg h (by rintro _ _ ⟨rfl, rfl⟩; exact hk)
theorem wS.flat (l' : List Value) (h : l = l') (hk : wpS r P ops Q ds js l' w) : wpS r P ops Q ds js l w := by rw [h]; exact hk
theorem gdoes_wp0 {R : Value → World → Prop} {K : Act → World → Prop} (ho : ops[i]? = some o) (h : GDoes P ops o l w R) (hK : ∀ u w', R u w' → K (fr (lput l o.dst u) ds) w') : wpOpIn (Wf r) 0 P ops Q i K (fr l ds) w := by
 unfold wpOpIn
 rw [ho]
 show (if Region.wanted o (yielded ops l.toArray) = true then _ else _)
 unfold GDoes at h
 split
 ·next hw =>
  rw [if_pos hw] at h
  refine Does.wp (R := R) (by rw [fr_eval]; exact h) (fun u w' hu => ?_)
  rw [fr_put]
  exact hK u w' hu
 ·next hw =>
  rw [if_neg hw] at h
  rw [fr_put]
  exact ⟨fun _ _ => trivial, hK _ _ h⟩
theorem filter_up {b : Nat → Bool} {q : Nat → Bool} {L : List Nat} (hnd : L.Nodup) (h : L.filter (fun j => q j && !b j) = i :: js) : L.filter (fun j => q j && !up b i j) = js := by
 have h1 : L.filter (fun j => q j && !up b i j) = (L.filter fun j => q j && !b j).filter fun j => decide (j ≠ i) := by
  rw [List.filter_filter]
  congr 1
  funext j
  unfold up
  by_cases hj : j = i
  ·subst hj; simp
  ·simp [hj]
 have hnd2 : (i :: js).Nodup := h ▸ hnd.sublist List.filter_sublist
 rw [h1, h, List.filter_cons_of_neg (by simp), List.filter_eq_self]
 intro j hj
 have := (List.nodup_cons.1 hnd2).1
 simp only [ne_eq, decide_eq_true_eq]
 rintro rfl
 exact this hj
theorem region_float {Fl : List Nat} {xs : Nat → Value} (hB : bOk ops B DL [] = true) (hn : ops.size = n) (hDl : ∀ e ∈ DL, e.2 < l.length) (hFl : ∀ f ∈ Fl, B.getD f 0 = 0) {p : Nat} (hord : ∀ i, p ≤ i → i < n → i ∉ Fl → ∀ j, p ≤ j → j < i → j ∉ Fl → bit B i j = true)
  (hF : ∀ f ∈ Fl, ∀ l2 w, l2.length = l.length → (∀ t, (∀ e ∈ DL, e.2 ≠ t) → nth l2 t = nth l t) → ∃ o, ops[f]? = some o ∧ GDoes P ops o l2 w (fun u w' => u = xs f ∧ w' = w)) :
  ∀ (m : Nat) (b : Nat → Bool) (l' li : List Value) (w : World), ((List.range n).filter fun j => !b j).length = m → (∀ j, j < p → j ∉ Fl → b j = true) → (∀ i, b i = true → ∀ j, bit B i j = true → b j = true) → l'.length = l.length → li.length = l.length →
   (∀ t, (∀ e ∈ DL, e.2 = t → e.1 ∈ Fl → b e.1 = true) → nth l' t = nth li t) → (∀ e ∈ DL, e.1 ∈ Fl → nth li e.2 = xs e.1) → (∀ t, (∀ e ∈ DL, e.2 ≠ t) → nth li t = nth l t) →
   wpS r P ops Q ds ((List.range n).filter fun j => !Fl.contains j && !b j) li w → wpAnyIn (Wf r) 0 P .any ops Q m ((List.range n).map b).toArray (fr l' ds) w := by
 obtain ⟨hops, hlt, hnd1, hnd2, hMs, hMn⟩ := bOk_parts hB
 have getT : ∀ (b : Nat → Bool) (j : Nat), ((List.range n).map b).toArray.getD j true = (if j < n then b j else true) := by
  intro b j
  rw [Array.getD_eq_getD_getElem?, List.getElem?_toArray, List.getElem?_map]
  by_cases h : j < n <;> simp [h]
 have getF : ∀ (b : Nat → Bool) (j : Nat), ((List.range n).map b).toArray.getD j false = (if j < n then b j else false) := by
  intro b j
  rw [Array.getD_eq_getD_getElem?, List.getElem?_toArray, List.getElem?_map]
  by_cases h : j < n <;> simp [h]
 have all_of : ∀ b : Nat → Bool, Region.ready .any ops ((List.range n).map b).toArray = [] → ∀ i, i < n → b i = true := by
  intro b hr i
  induction i using Nat.strongRecOn with
  | _ i ih =>
   intro hi
   cases hb : b i with
   | true => rfl
   | false =>
    obtain ⟨o, ho⟩ : ∃ o, ops[i]? = some o := ⟨_, Array.getElem?_eq_getElem (by omega)⟩
    have : i ∈ Region.ready .any ops ((List.range n).map b).toArray := by
     rw [mem_ready]
     refine ⟨by rw [getT, if_pos hi, hb], o, ho, fun e he hbe => ?_⟩
     have := (hops i o ho).1 e he hbe
     rw [getF, if_pos (by omega)]
     exact ih e.on this (by omega)
    rw [hr] at this
    cases this
 have fin : ∀ (b : Nat → Bool) (l' li : List Value) (w : World), (∀ j, j < n → b j = true) → l'.length = l.length → li.length = l.length → (∀ t, (∀ e ∈ DL, e.2 = t → e.1 ∈ Fl → b e.1 = true) → nth l' t = nth li t) → wpS r P ops Q ds ((List.range n).filter fun j => !Fl.contains j && !b j) li w → Q .normal (fr l' ds) w := by
  intro b l' li w hb h1 h2 hr1 h
  have he : (List.range n).filter (fun j => !Fl.contains j && !b j) = [] := by
   rw [List.filter_eq_nil_iff]
   intro j hj
   simp [hb j (List.mem_range.1 hj)]
  rw [he] at h
  have : l' = li := nth_ext (by omega) fun t => hr1 t fun e he _ _ => hb _ (by have := hlt e he; omega)
  rw [this]; exact h
 intro m
 induction m with
 | zero =>
  intro b l' li w hm hbp hcl h1 h2 hr1 hr2 hr3 h
  have hb : ∀ j, j < n → b j = true := by
   intro j hj
   cases hbj : b j with
   | true => rfl
   | false =>
    have : j ∈ (List.range n).filter fun j => !b j := List.mem_filter.2 ⟨List.mem_range.2 hj, by simp [hbj]⟩
    rw [List.eq_nil_of_length_eq_zero hm] at this
    cases this
  refine ⟨List.eq_nil_iff_forall_not_mem.2 (fun i hi => ?_), fin b l' li w hb h1 h2 hr1 h⟩
  rw [mem_ready] at hi
  obtain ⟨h1, o, ho, _⟩ := hi
  have hin : i < n := by have := (Array.getElem?_eq_some_iff.1 ho).1; omega
  rw [getT, if_pos hin, hb i hin] at h1
  cases h1
 | succ m ih =>
  intro b l' li w hm hbp hcl h1 h2 hr1 hr2 hr3 h
  refine ⟨fun hr => fin b l' li w (all_of b hr) h1 h2 hr1 h, fun i hi => ?_⟩
  rw [mem_ready] at hi
  obtain ⟨hbi, o, ho, hedge⟩ := hi
  have hin : i < n := by have := (Array.getElem?_eq_some_iff.1 ho).1; omega
  rw [getT, if_pos hin] at hbi
  obtain ⟨e1, e2, e3, e4, e5, e6, e7⟩ := hops i o ho
  have hpre : ∀ j, bit B i j = true → b j = true := by
   intro j hj
   obtain ⟨e, he, hbe, hor⟩ := e2 j (e7 j hj) hj
   have hbon : b e.on = true := by
    have := hedge e he hbe
    rw [getF] at this
    split at this
    ·exact this
    ·cases this
   rcases hor with rfl | hor
   ·exact hbon
   ·exact hcl e.on hbon j hor
  have hcnt : ((List.range n).filter fun j => !up b i j).length = m := by
   have := count_up hbi List.nodup_range (List.mem_range.2 hin)
   omega
  have hbp' : ∀ j, j < p → j ∉ Fl → up b i j = true := fun j hj hjf => by unfold up; split; rfl; exact hbp j hj hjf
  have hcl' : ∀ k, up b i k = true → ∀ j, bit B k j = true → up b i j = true := by
   intro k hk j hj
   unfold up at hk ⊢
   by_cases hji : j = i
   ·rw [if_pos hji]
   ·rw [if_neg hji]
    by_cases hki : k = i
    ·subst hki; exact hpre j hj
    ·rw [if_neg hki] at hk; exact hcl k hk j hj
  have nput : ∀ (l1 : List Value), l1.length = l.length → ∀ u t, nth (lput l1 o.dst u) t = if o.dst = some t then u else nth l1 t := by
   intro l1 hl1 u t
   cases hd : o.dst with
   | none => rw [if_neg (by simp)]; rfl
   | some d =>
    have hdl : d < l1.length := by rw [hl1]; exact hDl (i, d) (e4 d hd)
    show nth (lset l1 d u) t = _
    rw [nth_lset l1 d t u hdl]
    by_cases htd : t = d
    ·subst htd; simp
    ·rw [if_neg htd, if_neg (by simpa using fun h => htd h.symm)]
  have lput_len : ∀ (l1 : List Value) u, (lput l1 o.dst u).length = l1.length := by
   intro l1 u
   cases o.dst with
   | none => rfl
   | some d => exact lset_length l1 d u
  have hdst : ∀ e ∈ DL, o.dst = some e.2 → e.1 = i := by
   intro e he hd
   have hm' : (i, e.2) ∈ DL := e4 _ hd
   have h3 := find_at hnd2 hm'
   have h4 := find_at (i := e.1) hnd2 (show (e.1, e.2) ∈ DL from he)
   rw [h3] at h4
   have := Option.some.inj h4
   exact (congrArg Prod.fst this).symm
  by_cases hif : i ∈ Fl
  ·obtain ⟨o', ho', hg⟩ := hF i hif l' w h1 (fun t ht => (hr1 t (fun e he het => absurd het (ht e he))).trans (hr3 t ht))
   rw [ho] at ho'
   obtain rfl := Option.some.inj ho'
   refine gdoes_wp0 ho hg (fun u w' hu => ?_)
   obtain ⟨rfl, rfl⟩ := hu
   rw [list_up]
   refine ih _ _ li _ hcnt hbp' hcl' (by rw [lput_len]; exact h1) h2 (fun t ht => ?_) hr2 hr3 ?_
   ·rw [nput l' h1]
    by_cases hd : o.dst = some t
    ·rw [if_pos hd]
     exact (hr2 (i, t) (e4 t hd) hif).symm
    ·rw [if_neg hd]
     refine hr1 t (fun e he het hef => ?_)
     have := ht e he het hef
     unfold up at this
     by_cases hei : e.1 = i
     ·exfalso
      cases hd2 : o.dst with
      | none => exact e5 hd2 e he hei
      | some d =>
       have hm' := e4 d hd2
       have := fst_at hnd1 he hm' hei
       exact hd (by rw [hd2, ← het, this])
     ·rwa [if_neg hei] at this
   ·have : (fun j => !Fl.contains j && !up b i j) = (fun j => !Fl.contains j && !b j) := by
     funext j
     unfold up
     by_cases hj : j = i
     ·have hc : Fl.contains j = true := by rw [hj]; exact List.contains_iff_mem.2 hif
      rw [hc]; rfl
     ·rw [if_neg hj]
    rw [this]; exact h
  ·have hmem : i ∈ (List.range n).filter fun j => !Fl.contains j && !b j := List.mem_filter.2 ⟨List.mem_range.2 hin, by
    have : Fl.contains i = false := by
     cases hc : Fl.contains i with
     | false => rfl
     | true => exact absurd (List.contains_iff_mem.1 hc) hif
    rw [this, hbi]; rfl⟩
   cases his : (List.range n).filter fun j => !Fl.contains j && !b j with
   | nil => rw [his] at hmem; cases hmem
   | cons k is =>
    have hsort : ((List.range n).filter fun j => !Fl.contains j && !b j).Pairwise (· < ·) := List.pairwise_lt_range.sublist List.filter_sublist
    have hk : k ∈ (List.range n).filter fun j => !Fl.contains j && !b j := by rw [his]; exact List.mem_cons_self
    obtain ⟨hk1, hk2⟩ := List.mem_filter.1 hk
    rw [Bool.and_eq_true] at hk2
    have hkF : k ∉ Fl := fun h => by have := List.contains_iff_mem.2 h; rw [this] at hk2; simp at hk2
    have hkb : b k = false := by simpa using hk2.2
    have hik : i = k := by
     rw [his] at hmem hsort
     rcases List.mem_cons.1 hmem with h | h
     ·exact h
     ·have hki := (List.pairwise_cons.1 hsort).1 i h
      have hpk : p ≤ k := by
       rcases Nat.lt_or_ge k p with h | h
       ·rw [hbp k h hkF] at hkb; cases hkb
       ·exact h
      have := hpre k (hord i (by omega) hin hif k hpk hki hkF)
      rw [hkb] at this
      cases this
    subst hik
    have hrest := filter_up (i := i) (js := is) (b := b) (q := fun j => !Fl.contains j) List.nodup_range his
    rw [his] at h
    obtain ⟨o', R, ho', hg, hk⟩ := h
    have ho'' := nthO_ops ho'
    rw [ho] at ho''
    obtain rfl := Option.some.inj ho''
    refine gdoes_wp0 ho (gdoes_congr (l2 := li) e6 (by omega) (fun t ht => ?_) hg) (fun u w' hu => ?_)
    ·refine hr1 t (fun e he het hef => ?_)
     have h3 := e3 t ht e he het
     rw [Bool.or_eq_true] at h3
     rcases h3 with h3 | h3
     ·exact hpre _ h3
     ·unfold bit at h3
      rw [hFl e.1 hef] at h3
      simp at h3
    ·rw [list_up]
     refine ih _ _ (lput li o.dst u) _ hcnt hbp' hcl' (by rw [lput_len]; exact h1) (by rw [lput_len]; exact h2) (fun t ht => ?_) (fun e he hef => ?_) (fun t ht => ?_) (by rw [hrest]; exact hk u w' hu)
     ·rw [nput l' h1, nput li h2]
      by_cases hd : o.dst = some t
      ·rw [if_pos hd, if_pos hd]
      ·rw [if_neg hd, if_neg hd]
       refine hr1 t (fun e he het hef => ?_)
       have := ht e he het hef
       unfold up at this
       have hne : ¬ e.1 = i := fun h => hif (by rw [← h]; exact hef)
       rwa [if_neg hne] at this
     ·rw [nput li h2, if_neg (fun hd => hif (by rw [← hdst e he hd]; exact hef))]
      exact hr2 e he hef
     ·rw [nput li h2, if_neg (fun hd => ht (i, t) (e4 t hd) rfl)]
      exact hr3 t ht
theorem region_preF {O : Nat → Prop} {Ms : List Nat} {Φ : Nat → RF O} {Rs : Nat → World → Prop} {p : Nat} (Fl : List Nat) (xs : Nat → Value) (DLp : List (Nat × Tmp)) (hB : bOk ops B DL Ms = true) (hB0 : bOk ops B DL [] = true) (hn : ops.size = n) (hp : p < n) (hDp : DLp = DL.filter (fun e => decide (e.1 < p))) (hMp : ∀ t, t < Ms.length → Ms.getD t 0 < p ∧ Ms.getD t 0 ∉ Fl)
  (hlate : ∀ i, p ≤ i → i < n → ∀ j, j < i → j ∉ Fl → bit B i j = true) (hFl : ∀ f ∈ Fl, B.getD f 0 = 0 ∧ f < p) (hDl : ∀ e ∈ DL, e.2 < l.length) (hR : ∀ k w w', Rs k w → Only No w w' → Rs k w')
  (hF : ∀ f ∈ Fl, ∀ l2 w, l2.length = l.length → (∀ t, (∀ e ∈ DL, e.2 ≠ t) → nth l2 t = nth l t) → ∃ o, ops[f]? = some o ∧ GDoes P ops o l2 w (fun u w' => u = xs f ∧ w' = w)) (hΦF : ∀ f ∈ Fl, ∀ r u lo hi w, (Φ f).p r u lo hi w ↔ u = xs f)
  (hs : ∀ i, i < p → i ∉ Ms → LStep P ops O DL l (fun v => fillL l DL v) w0 n B Ms Φ Rs i) (hm : ∀ t, t < Ms.length → MStep P ops O DL l (fun v => fillL l DL v) w0 n B Φ Rs t (Ms.getD t 0))
  (hend : ∀ (v : Nat → Value) (lo hi : Nat → Nat) w', Only O w0 w' → (∀ j, j < p → (Φ j).p (rs B j v) (v j) (lo j) (hi j) w') → Rs Ms.length w' → wpS r P ops Q ds ((List.range n).filter fun j => decide (p ≤ j)) (fillL l DLp v) w') :
  ∀ (m : Nat) (b : Nat → Bool) (a : Act) (w : World), ((List.range n).filter fun j => !b j).length = m → (∀ i, p ≤ i → b i = false) → Inv O l ds w0 n B DL Ms Φ Rs b a w → wpAnyIn (Wf r) 0 P .any ops Q m ((List.range n).map b).toArray a w := by
 obtain ⟨hops, hlt, hnd1, hnd2, hMs, hMn⟩ := bOk_parts hB
 have getT : ∀ (b : Nat → Bool) (j : Nat), ((List.range n).map b).toArray.getD j true = (if j < n then b j else true) := by
  intro b j
  rw [Array.getD_eq_getD_getElem?, List.getElem?_toArray, List.getElem?_map]
  by_cases h : j < n <;> simp [h]
 have getF : ∀ (b : Nat → Bool) (j : Nat), ((List.range n).map b).toArray.getD j false = (if j < n then b j else false) := by
  intro b j
  rw [Array.getD_eq_getD_getElem?, List.getElem?_toArray, List.getElem?_map]
  by_cases h : j < n <;> simp [h]
 have all_of : ∀ b : Nat → Bool, Region.ready .any ops ((List.range n).map b).toArray = [] → ∀ i, i < n → b i = true := by
  intro b hr i
  induction i using Nat.strongRecOn with
  | _ i ih =>
   intro hi
   cases hb : b i with
   | true => rfl
   | false =>
    obtain ⟨o, ho⟩ : ∃ o, ops[i]? = some o := ⟨_, Array.getElem?_eq_getElem (by omega)⟩
    have : i ∈ Region.ready .any ops ((List.range n).map b).toArray := by
     rw [mem_ready]
     refine ⟨by rw [getT, if_pos hi, hb], o, ho, fun e he hbe => ?_⟩
     have := (hops i o ho).1 e he hbe
     rw [getF, if_pos (by omega)]
     exact ih e.on this (by omega)
    rw [hr] at this
    cases this
 intro m
 induction m with
 | zero =>
  intro b a w hm0 hbp hI
  have : p ∈ (List.range n).filter fun j => !b j := List.mem_filter.2 ⟨List.mem_range.2 hp, by simp [hbp p (Nat.le_refl _)]⟩
  rw [List.eq_nil_of_length_eq_zero hm0] at this
  cases this
 | succ m ih =>
  intro b a w hm0 hbp hI
  refine ⟨fun hr => (by have := all_of b hr p hp; rw [hbp p (Nat.le_refl _)] at this; cases this), fun i hi => ?_⟩
  rw [mem_ready] at hi
  obtain ⟨h1, o, ho, hedge⟩ := hi
  have hin : i < n := by have := (Array.getElem?_eq_some_iff.1 ho).1; omega
  rw [getT, if_pos hin] at h1
  obtain ⟨⟨v, lo, hi, k, l', rfl, hlen, hl', hO, hΦ, hIv, hk, hms, hr⟩, hcl⟩ := hI
  obtain ⟨e1, e2, e3, e4, e5, e6, e7⟩ := hops i o ho
  obtain ⟨v, hl', hΦ, hold⟩ : ∃ v : Nat → Value, (∀ t, nth l' t = sel DL b v l t) ∧ (∀ j, j < n → b j = true → (Φ j).p (rs B j v) (v j) (lo j) (hi j) w) ∧ (∀ e ∈ DL, b e.1 = false → v e.1 = nth l e.2) := by
   refine ⟨fun j => if b j then v j else match DL.find? (fun e => e.1 == j) with | some e => nth l e.2 | none => undef, fun t => ?_, fun j hj hbj => ?_, fun e he hbe => ?_⟩
   ·rw [hl' t]
    unfold sel
    split
    ·split
     ·rename_i hb; exact (if_pos hb).symm
     ·rfl
    ·rfl
   ·have h1 : rs B j (fun j => if b j then v j else match DL.find? (fun e => e.1 == j) with | some e => nth l e.2 | none => undef) = rs B j v := by
     funext m
     unfold rs
     split
     ·rename_i hm; exact if_pos (hcl j hbj m hm)
     ·rfl
    rw [h1]
    simp only [hbj, if_true]
    exact hΦ j hj hbj
   ·have hf : DL.find? (fun e' => e'.1 == e.1) = some e := by
     cases hf : DL.find? (fun e' => e'.1 == e.1) with
     | none => have := List.find?_eq_none.1 hf e he; simp at this
     | some e' => rw [fst_at hnd1 (List.mem_of_find?_eq_some hf) he (by simpa using List.find?_some hf)]
    simp only [hbe, hf]
    rfl
  have hold' : ∀ e ∈ DL, bit B e.1 i = true → v e.1 = nth l e.2 := fun e he hbe => hold e he (by
   cases hb : b e.1 with
   | false => rfl
   | true => have := hcl e.1 hb i hbe; rw [h1] at this; cases this)
  have hpre : ∀ j, bit B i j = true → b j = true := by
   intro j hj
   obtain ⟨e, he, hbe, hor⟩ := e2 j (e7 j hj) hj
   have hbon : b e.on = true := by
    have := hedge e he hbe
    rw [getF] at this
    split at this
    ·exact this
    ·cases this
   rcases hor with rfl | hor
   ·exact hbon
   ·exact hcl e.on hbon j hor
  have hkmin : ∀ t, t < Ms.length → bit B i (Ms.getD t 0) = true → t < k := fun t ht hb => (hms t ht).1 (hpre _ hb)
  have hkmax : ∀ t, t < Ms.length → bit B (Ms.getD t 0) i = true → k ≤ t := by
   intro t ht hb
   rcases Nat.lt_or_ge t k with h | h
   ·have := hcl _ ((hms t ht).2 h) i hb
    rw [h1] at this
    cases this
   ·exact h
  have hIv' : Ivs (fun j => bit B i j = true) lo hi w0 w := ⟨fun j hj => hIv.1 j (hpre j hj), fun x y hx hy => hIv.2 x y (hpre x hx) (hpre y hy)⟩
  have hΦ' : ∀ j, bit B i j = true → (Φ j).p (rs B j v) (v j) (lo j) (hi j) w := fun j hj => hΦ j (by have := e7 j hj; omega) (hpre j hj)
  have hcnt : ((List.range n).filter fun j => !up b i j).length = m := by
   have := count_up h1 List.nodup_range (List.mem_range.2 hin)
   omega
  by_cases hip : i < p
  case neg =>
   have hpi : p ≤ i := Nat.le_of_not_lt hip
   have hpF : p ∉ Fl := fun h => by have := (hFl p h).2; omega
   have hpe : i = p := by
    rcases Nat.lt_or_ge p i with h | h
    ·have := hpre p (hlate i hpi hin p h hpF)
     rw [hbp p (Nat.le_refl _)] at this
     cases this
    ·omega
   subst hpe
   have hball : ∀ j, j < i → j ∉ Fl → b j = true := fun j hj hjf => hpre j (hlate i (Nat.le_refl _) hin j hj hjf)
   have hke : k = Ms.length := by
    rcases Nat.lt_or_ge k Ms.length with h | h
    ·have h2 := hMp k h
     have := (hms k h).1 (hball _ h2.1 h2.2)
     omega
    ·omega
   subst hke
   have hv2 : ∀ j, b j = true → (fun j => if b j then v j else xs j) j = v j := fun j hj => if_pos hj
   have hnd2' : (DLp.map (·.2)).Nodup := by rw [hDp]; exact hnd2.sublist (List.filter_sublist.map _)
   have hlt' : ∀ e ∈ DLp, e.2 < l.length := fun e he => hDl e (by rw [hDp] at he; exact (List.mem_filter.1 he).1)
   have hT := hend (fun j => if b j then v j else xs j) lo hi w hO (fun j hj => by
    cases hbj : b j with
    | true =>
     have h1 : rs B j (fun j => if b j then v j else xs j) = rs B j v := by
      funext m
      unfold rs
      split
      ·rename_i hm; exact if_pos (hcl j hbj m hm)
      ·rfl
     rw [h1]
     simp only [hbj, if_true]
     exact hΦ j (by omega) hbj
    | false =>
     have hjf : j ∈ Fl := Classical.byContradiction fun h => by rw [hball j hj h] at hbj; cases hbj
     rw [hΦF j hjf]
     simp [hbj]) hr
   have hfl : ((List.range n).filter fun j => !Fl.contains j && !b j) = (List.range n).filter fun j => decide (i ≤ j) := by
    refine List.filter_congr fun j hj => ?_
    rcases Nat.lt_or_ge j i with h | h
    ·have h3 : ¬ i ≤ j := by omega
     cases hc : Fl.contains j with
     | true => simp [h3]
     | false =>
      have : j ∉ Fl := fun h => by rw [List.contains_iff_mem.2 h] at hc; cases hc
      rw [hball j h this]; simp [h3]
    ·have hjf : Fl.contains j = false := by
      cases hc : Fl.contains j with
      | false => rfl
      | true => have := (hFl j (List.contains_iff_mem.1 hc)).2; omega
     rw [hjf, hbp j h]; simp [h]
   rw [← hfl] at hT
   have hli : ∀ t, nth (fillL l DLp (fun j => if b j then v j else xs j)) t = sel DLp (fun _ => true) (fun j => if b j then v j else xs j) l t := fun t => nth_fillL DLp l _ t hlt' hnd2'
   have hfind : ∀ t, DLp.find? (fun e => e.2 == t) = (DL.find? (fun e => e.2 == t)).filter (fun e => decide (e.1 < i)) := by
    intro t
    cases hf : DL.find? (fun e => e.2 == t) with
    | none =>
     have : DLp.find? (fun e => e.2 == t) = none := by
      rw [List.find?_eq_none] at hf ⊢
      exact fun e he => hf e (by rw [hDp] at he; exact (List.mem_filter.1 he).1)
     rw [this]; rfl
    | some e =>
     have he := List.mem_of_find?_eq_some hf
     have het : e.2 = t := by simpa using List.find?_some hf
     by_cases hep : e.1 < i
     ·have hm' : (e.1, t) ∈ DLp := by rw [hDp, ← het]; exact List.mem_filter.2 ⟨he, by simpa using hep⟩
      rw [find_at hnd2' hm']
      simp [Option.filter, hep, ← het]
     ·have : DLp.find? (fun e => e.2 == t) = none := by
       rw [List.find?_eq_none]
       intro e' he' h'
       rw [hDp] at he'
       obtain ⟨h1', h2'⟩ := List.mem_filter.1 he'
       have h3' : e'.2 = t := by simpa using h'
       have := find_at hnd2 (show (e'.1, t) ∈ DL by rw [← h3']; exact h1')
       rw [hf] at this
       have := Option.some.inj this
       rw [this] at hep
       simp at h2' hep
       omega
      rw [this]
      simp [Option.filter, hep]
   have hgo := region_float (r := r) (P := P) (ops := ops) (Q := Q) (ds := ds) (Fl := Fl) (xs := xs) (p := i) hB0 hn hDl (fun f hf => (hFl f hf).1) (fun k hk hkn _ j _ hj hjf => hlate k hk hkn j hj hjf) hF (m + 1) b l' (fillL l DLp (fun j => if b j then v j else xs j)) w hm0 hball hcl hlen (by rw [fillL_length]) (fun t ht => ?_) (fun e he hef => ?_) (fun t ht => ?_) hT
   ·exact hgo.2 i (by rw [mem_ready]; exact ⟨by rw [getT, if_pos hin]; exact h1, o, ho, hedge⟩)
   ·rw [hli t, hl' t]
    unfold sel
    rw [hfind t]
    cases hf : DL.find? (fun e => e.2 == t) with
    | none => rfl
    | some e =>
     have he := List.mem_of_find?_eq_some hf
     have het : e.2 = t := by simpa using List.find?_some hf
     by_cases hep : e.1 < i
     ·have hbe : b e.1 = true := by
       by_cases hef : e.1 ∈ Fl
       ·exact ht e he het hef
       ·exact hball e.1 hep hef
      simp [Option.filter, hep, hbe]
     ·simp [Option.filter, hep, hbp e.1 (Nat.le_of_not_lt hep)]
   ·rw [hli e.2]
    unfold sel
    rw [hfind e.2, find_at hnd2 (show (e.1, e.2) ∈ DL from he)]
    have hep := (hFl e.1 hef).2
    simp only [Option.filter, hep, decide_true, if_true]
    cases hbe : b e.1 with
    | false => rfl
    | true => exact (hΦF e.1 hef _ _ _ _ _).1 (hΦ e.1 (by have := hlt e he; omega) hbe)
   ·rw [hli t]
    unfold sel
    rw [hfind t]
    have : DL.find? (fun e => e.2 == t) = none := List.find?_eq_none.2 fun e he => by simpa using ht e he
    rw [this]
    rfl
  have hbp' : ∀ j, p ≤ j → up b i j = false := fun j hj => by simp only [up, show j ≠ i by omega, if_false]; exact hbp j hj
  by_cases hiM : i ∈ Ms
  ·obtain ⟨t, ht, hti⟩ : ∃ t, t < Ms.length ∧ Ms.getD t 0 = i := by
    obtain ⟨t, ht, hti⟩ := List.getElem_of_mem hiM
    exact ⟨t, ht, by rw [List.getD_eq_getElem?_getD, List.getElem?_eq_getElem ht]; exact hti⟩
   have hkt : k = t := by
    have h2 : ¬ t < k := fun h => by
     have := (hms t ht).2 h
     rw [hti, h1] at this
     cases this
    rcases Nat.eq_zero_or_pos t with h0 | h0
    ·omega
    ·have h3 := (hMs t ht).2 (t - 1) (by omega)
     rw [hti] at h3
     have := hkmin (t - 1) (by omega) h3
     omega
   subst hkt
   obtain ⟨o', ho'', hg⟩ := (hm k ht).2 v lo hi w hO (by rw [hti]; exact hΦ') (by rw [hti]; exact hIv') hr (by rw [hti]; exact hold')
   have ho' := nthO_ops ho''
   rw [hti] at ho' hg
   rw [ho] at ho'
   obtain rfl := Option.some.inj ho'
   refine gdoes_wp (l := l) (DL := DL) hB hDl ho hlen hl' hold hg (fun u w' hu => ?_)
   rw [list_up]
   obtain ⟨hu1, hu2, hu3⟩ := hu
   refine ih _ _ _ hcnt hbp' (inv_up hB hn hDl ho h1 hlen hl' hO hΦ hIv hcl hpre hu1 hu3 (fun j hj hb hs_ => by rcases msens (hti ▸ (hm k ht).1) hj hs_ with rfl | e; (rw [h1] at hb; cases hb); (have := hcl j hb i e; rw [h1] at this; cases this)) ht (fun s hs' => ?_) hu2)
   by_cases hst : s = k
   ·subst hst; rw [hti]; simp [up]
   ·have hne : Ms.getD s 0 ≠ i := by
     intro h
     rw [← hti, List.getD_eq_getElem?_getD, List.getD_eq_getElem?_getD, List.getElem?_eq_getElem hs', List.getElem?_eq_getElem ht] at h
     exact hst (nodup_at hMn hs' ht (by simpa using h))
    simp only [up, hne, if_false]
    rw [hms s hs']
    omega
  ·obtain ⟨o', ho'', hg⟩ := hs i hip hiM v lo hi w k hO hΦ' hIv' hkmin hkmax hk hr hold'
   have ho' := nthO_ops ho''
   rw [ho] at ho'
   obtain rfl := Option.some.inj ho'
   refine gdoes_wp (l := l) (DL := DL) hB hDl ho hlen hl' hold hg (fun u w' hu => ?_)
   rw [list_up]
   refine ih _ _ _ hcnt hbp' (inv_up hB hn hDl ho h1 hlen hl' hO hΦ hIv hcl hpre hu.1 (No.any hu.2) (fun _ _ _ _ => hu.2) hk (fun s hs' => ?_) (hR _ _ _ hr hu.2))
   have hne : Ms.getD s 0 ≠ i := by
    intro h
    refine hiM ?_
    rw [← h, List.getD_eq_getElem?_getD, List.getElem?_eq_getElem hs']
    exact List.getElem_mem hs'
   simp only [up, hne, if_false]
   exact hms s hs'
theorem drawnF {O : Nat → Prop} {id : Nat} (Fl N : List Nat) (xs : Nat → Value) (p : Nat) (B : List Nat) (DL DLp : List (Nat × Tmp)) (Ls : List Nat) (Ms : List Nat) (Φ : Nat → RF O) (Rs : Nat → World → Prop)
  (lv lp : (Nat → Value) → List Value) (hmx : P.follows .mixedOrders = true) (hB : bOk ops B DL Ms = true) (hn : ops.size = n) (hp : p < n) (hDp : DLp = DL.filter (fun e => decide (e.1 < p))) (hMp : (Ms.all fun t => decide (t < p) && !Fl.contains t) = true) (hB0 : bOk ops B DL [] = true) (hFl : (Fl.all fun f => decide (B.getD f 0 = 0) && decide (f < p)) = true) (hN : ((List.range n).filter fun j => decide (p ≤ j)) = N)
  (hF : ∀ l2 w, l2.length = l.length → (∀ t, (DL.all fun e => !(e.2 == t)) = true → nth l2 t = nth l t) → ∀ f ∈ Fl, ∃ o, nthO ops.toList f = some o ∧ GDoes P ops o l2 w (fun u w' => u = xs f ∧ w' = w)) (hΦF : ∀ f ∈ Fl, Φ f = RF.is O (xs f))
  (hlate : ((List.range n).all fun i => decide (i < p) || (List.range i).all fun j => Fl.contains j || bit B i j) = true) (hLs : ((List.range p).all fun i => Ls.contains i || Ms.contains i) = true)
  (hDl : (DL.all fun e => decide (e.2 < l.length)) = true) (hlv : ∀ v, fillL l DL v = lv v) (hlp : ∀ v, fillL l DLp v = lp v) (hR : ∀ k w w', Rs k w → Only No w w' → Rs k w') (h0 : Rs 0 w0)
  (hs : ∀ i ∈ Ls, LStep P ops O DL l lv w0 n B Ms Φ Rs i) (hm : ∀ t, t < Ms.length → MStep P ops O DL l lv w0 n B Φ Rs t (Ms.getD t 0))
  (hend : ∀ (v : Nat → Value) (lo hi : Nat → Nat) w', Only O w0 w' → (∀ j, j < p → (Φ j).p (rs B j v) (v j) (lo j) (hi j) w') → Rs Ms.length w' → wpS r P ops Q ds N (lp v) w') :
  (Code.region id ops true).wpIn (Wf r) 0 P Q (fr l ds) w0 := by
 obtain rfl : (fun v => fillL l DL v) = lv := funext hlv
 obtain rfl : (fun v => fillL l DLp v) = lp := funext hlp
 refine wpIn_region_any hmx ?_
 have hdr : Only No w0 { w0 with drawn := w0.drawn + 1 } := ⟨rfl, rfl, rfl, Nat.le_refl _, fun _ _ _ => rfl⟩
 have hl : Array.replicate ops.size false = ((List.range n).map fun _ => false).toArray := by
  rw [hn]
  apply Array.ext'
  simp [List.map_const']
 rw [hl, hn]
 have hDl' : ∀ e ∈ DL, e.2 < l.length := fun e he => by simpa using List.all_eq_true.1 hDl e he
 have hf : ((List.range n).filter fun _ => !false).length = n := by
  have h1 : ((List.range n).filter fun _ => !false) = List.range n := List.filter_eq_self.2 (fun _ _ => rfl)
  rw [h1, List.length_range]
 have hsel : ∀ t, nth l t = sel DL (fun _ => false) (fun _ => undef) l t := by
  intro t
  unfold sel
  split <;> simp
 have hin := bOk_parts hB
 refine region_preF (p := p) Fl xs DLp hB hB0 hn hp hDp (fun t ht => ?_) (fun i h1 h2 j hj hjf => ?_) (fun f hf => by simpa using List.all_eq_true.1 hFl f hf) hDl' hR (fun f hf l2 w h1 h2 => ?_) (fun f hf r u lo hi w => by rw [hΦF f hf]; exact Iff.rfl) (fun i hi hM => hs i ?_) hm (by rw [hN]; exact hend) n (fun _ => false) _ _ hf (fun _ _ => rfl) ⟨⟨fun _ => undef, fun _ => 0, fun _ => 0, 0, l, rfl, rfl, hsel, No.any hdr, (fun _ _ h => by cases h), ⟨(fun _ h => by cases h), (fun _ _ h => by cases h)⟩, Nat.zero_le _, (fun t _ => ⟨(fun h => by cases h), (fun h => absurd h (Nat.not_lt_zero t))⟩), hR _ _ _ h0 hdr⟩, (fun _ h => by cases h)⟩
 ·have := List.all_eq_true.1 hMp (Ms.getD t 0) (by rw [List.getD_eq_getElem?_getD, List.getElem?_eq_getElem ht]; exact List.getElem_mem ht)
  rw [Bool.and_eq_true] at this
  refine ⟨by simpa using this.1, fun h => ?_⟩
  have h2 := this.2
  rw [List.contains_iff_mem.2 h] at h2
  cases h2
 ·have := List.all_eq_true.1 hlate i (List.mem_range.2 h2)
  rw [Bool.or_eq_true] at this
  rcases this with h | h
  ·have : i < p := by simpa using h
   omega
  ·have h3 := List.all_eq_true.1 h j (List.mem_range.2 hj)
   rw [Bool.or_eq_true] at h3
   rcases h3 with h3 | h3
   ·exact absurd (List.contains_iff_mem.1 h3) hjf
   ·exact h3
 ·obtain ⟨o, ho, hg⟩ := hF l2 w h1 (fun t ht => h2 t (fun e he het => by
   have := List.all_eq_true.1 ht e he
   simp [het] at this)) f hf
  exact ⟨o, nthO_ops ho, hg⟩
 ·have := List.all_eq_true.1 hLs i (List.mem_range.2 hi)
  rw [Bool.or_eq_true] at this
  rcases this with h | h
  ·exact List.contains_iff_mem.1 h
  ·exact absurd (List.contains_iff_mem.1 h) hM
theorem fl_nil {p : Nat → Prop} : ∀ f ∈ ([] : List Nat), p f := fun _ h => by cases h
theorem fl_cons {p : Nat → Prop} {f : Nat} {fs : List Nat} (h : p f) (hs : ∀ f ∈ fs, p f) : ∀ g ∈ f :: fs, p g := fun g hg => by
 rcases List.mem_cons.1 hg with rfl | hg
 ·exact h
 ·exact hs _ hg
theorem fl_move {l2 : List Value} {t : Tmp} {x : Value} {d : Option Tmp} {tt : TypeId} {s : String} {af : Array Edge} (hn : ∀ t, (DL.all fun e => !(e.2 == t)) = true → nth l2 t = nth l t) (ht : (DL.all fun e => !(e.2 == t)) = true) (hx : nth l t = x) (ho : nthO ops.toList i = some ⟨d, .move (.tmp t), tt, s, af, none⟩) :
  ∃ o, nthO ops.toList i = some o ∧ GDoes P ops o l2 w (fun u w' => u = x ∧ w' = w) := ⟨_, ho, gd rfl (d_move ((hn t ht).trans hx))⟩
end
end Go.Proofs.YtpamdlnobekihaaF
namespace Go.Proofs.YtpamdlnobekihaaF
open Go Shelf YtpamdlnobekihaaS
section
variable {r : Option Nat} {P : Program} {ops : Array Oper} {Q : Exit → Act → World → Prop} {l : List Value} {ds : List Deferred} {w w0 : World} {n i : Nat} {B : List Nat} {DL : List (Nat × Tmp)} {o : Oper} {js : List Nat}
def wpI (P : Program) (ops : Array Oper) (K : List Value → World → Prop) (Iw : World → Prop) : List Nat → List Value → World → Prop
 | [], l, w => Iw w ∧ K l w
 | k :: ks, l, w => Iw w ∧ ∃ o R, nthO ops.toList k = some o ∧ GDoes P ops o l w R ∧ ∀ u w', R u w' → wpI P ops K Iw ks (lput l o.dst u) w'
theorem wpI.iw {K : List Value → World → Prop} {Iw : World → Prop} : ∀ {ks : List Nat} {l : List Value} {w : World}, wpI P ops K Iw ks l w → Iw w
 | [], _, _, h => h.1
 | _ :: _, _, _, h => h.1
def Rest (r : Option Nat) (P : Program) (ops : Array Oper) (Q : Exit → Act → World → Prop) (ds : List Deferred) (n q : Nat) (l : List Value) (w : World) : Prop :=
 ∀ m, ((List.range n).filter fun j => !decide (j < q)).length = m → wpAnyIn (Wf r) 0 P .any ops Q m ((List.range n).map fun j => decide (j < q)).toArray (fr l ds) w
theorem region_floatI {Fl : List Nat} {xs : Nat → Value} {Iw : World → Prop} {p q : Nat} {K : List Value → World → Prop} {lF : List Value} (hB : bOk ops B DL [] = true) (hn : ops.size = n) (hDl : ∀ e ∈ DL, e.2 < l.length) (hlF : lF.length = l.length) (hlF1 : ∀ e ∈ DL, e.1 ∈ Fl → nth lF e.2 = xs e.1) (hlF2 : ∀ t, (∀ e ∈ DL, e.2 = t → e.1 ∉ Fl) → nth lF t = nth l t)
  (hq : q ≤ n) (hcq : ∀ i, q ≤ i → i < n → ∀ j, j < q → bit B i j = true) (hK : ∀ l w, K l w → Rest r P ops Q ds n q l w) (hFl : ∀ f ∈ Fl, (p ≤ f ∧ f < q) ∧ ∀ j, bit B f j = true → j < p ∨ j ∈ Fl) (hord : ∀ i, p ≤ i → i < q → i ∉ Fl → ∀ j, p ≤ j → j < i → j ∉ Fl → bit B i j = true)
  (hlk : ∀ f ∈ Fl, ∀ o, ops[f]? = some o → ∀ t ∈ o.looksAt ops, ∀ e ∈ DL, e.2 = t → p ≤ e.1 → (e.1 ∈ Fl ∧ bit B f e.1 = true) ∨ (e.1 ∉ Fl ∧ bit B e.1 f = true))
  (hF : ∀ f ∈ Fl, ∀ w, Iw w → ∃ o, ops[f]? = some o ∧ GDoes P ops o lF w (fun u w' => u = xs f ∧ w' = w)) :
  ∀ (m : Nat) (b : Nat → Bool) (l' li : List Value) (w : World), ((List.range n).filter fun j => !b j).length = m → (∀ j, j < p → b j = true) → (∀ j, q ≤ j → b j = false) → (∀ i, b i = true → ∀ j, bit B i j = true → b j = true) → l'.length = l.length → li.length = l.length →
   (∀ t, (∀ e ∈ DL, e.2 = t → e.1 ∈ Fl → b e.1 = true) → nth l' t = nth li t) → (∀ e ∈ DL, e.1 ∈ Fl → nth li e.2 = xs e.1) → (∀ t, (∀ e ∈ DL, e.2 = t → e.1 < p ∨ (e.1 ∉ Fl ∧ b e.1 = false)) → nth li t = nth l t) →
   wpI P ops K Iw ((List.range n).filter fun j => (!Fl.contains j && decide (j < q)) && !b j) li w → wpAnyIn (Wf r) 0 P .any ops Q m ((List.range n).map b).toArray (fr l' ds) w := by
 obtain ⟨hops, hlt, hnd1, hnd2, hMs, hMn⟩ := bOk_parts hB
 have getT : ∀ (b : Nat → Bool) (j : Nat), ((List.range n).map b).toArray.getD j true = (if j < n then b j else true) := by
  intro b j
  rw [Array.getD_eq_getD_getElem?, List.getElem?_toArray, List.getElem?_map]
  by_cases h : j < n <;> simp [h]
 have getF : ∀ (b : Nat → Bool) (j : Nat), ((List.range n).map b).toArray.getD j false = (if j < n then b j else false) := by
  intro b j
  rw [Array.getD_eq_getD_getElem?, List.getElem?_toArray, List.getElem?_map]
  by_cases h : j < n <;> simp [h]
 have all_of : ∀ b : Nat → Bool, Region.ready .any ops ((List.range n).map b).toArray = [] → ∀ i, i < n → b i = true := by
  intro b hr i
  induction i using Nat.strongRecOn with
  | _ i ih =>
   intro hi
   cases hb : b i with
   | true => rfl
   | false =>
    obtain ⟨o, ho⟩ : ∃ o, ops[i]? = some o := ⟨_, Array.getElem?_eq_getElem (by omega)⟩
    have : i ∈ Region.ready .any ops ((List.range n).map b).toArray := by
     rw [mem_ready]
     refine ⟨by rw [getT, if_pos hi, hb], o, ho, fun e he hbe => ?_⟩
     have := (hops i o ho).1 e he hbe
     rw [getF, if_pos (by omega)]
     exact ih e.on this (by omega)
    rw [hr] at this
    cases this
 have fin : ∀ (m : Nat) (b : Nat → Bool) (l' li : List Value) (w : World), ((List.range n).filter fun j => !b j).length = m → (∀ j, j < q → b j = true) → (∀ j, q ≤ j → b j = false) → l'.length = l.length → li.length = l.length → (∀ t, (∀ e ∈ DL, e.2 = t → e.1 ∈ Fl → b e.1 = true) → nth l' t = nth li t) → wpI P ops K Iw ((List.range n).filter fun j => (!Fl.contains j && decide (j < q)) && !b j) li w → wpAnyIn (Wf r) 0 P .any ops Q m ((List.range n).map b).toArray (fr l' ds) w := by
  intro m b l' li w hm hb hbq h1 h2 hr1 h
  have hbe : b = fun j => decide (j < q) := by
   funext j
   by_cases hj : j < q
   ·rw [hb j hj]; simp [hj]
   ·rw [hbq j (Nat.le_of_not_lt hj)]; simp [hj]
  have he : (List.range n).filter (fun j => (!Fl.contains j && decide (j < q)) && !b j) = [] := by
   rw [List.filter_eq_nil_iff]
   intro j hj
   rw [hbe]
   by_cases h : j < q <;> simp [h]
  rw [he] at h
  have : l' = li := nth_ext (by omega) fun t => hr1 t fun e he _ hef => hb _ ((hFl e.1 hef).1.2)
  rw [this, hbe]
  exact hK li w h.2 m (by rw [← hm, hbe])
 intro m
 induction m with
 | zero =>
  intro b l' li w hm hbp hbq hcl h1 h2 hr1 hr2 hr3 h
  have hb : ∀ j, j < n → b j = true := by
   intro j hj
   cases hbj : b j with
   | true => rfl
   | false =>
    have : j ∈ (List.range n).filter fun j => !b j := List.mem_filter.2 ⟨List.mem_range.2 hj, by simp [hbj]⟩
    rw [List.eq_nil_of_length_eq_zero hm] at this
    cases this
  exact fin 0 b l' li w hm (fun j hj => hb j (by omega)) hbq h1 h2 hr1 h
 | succ m ih =>
  intro b l' li w hm hbp hbq hcl h1 h2 hr1 hr2 hr3 h
  by_cases hall : ∀ j, j < q → b j = true
  ·exact fin (m + 1) b l' li w hm hall hbq h1 h2 hr1 h
  refine ⟨fun hr => absurd (fun j hj => all_of b hr j (by omega)) hall, fun i hi => ?_⟩
  rw [mem_ready] at hi
  obtain ⟨hbi, o, ho, hedge⟩ := hi
  have hin : i < n := by have := (Array.getElem?_eq_some_iff.1 ho).1; omega
  rw [getT, if_pos hin] at hbi
  obtain ⟨e1, e2, e3, e4, e5, e6, e7⟩ := hops i o ho
  have hpre : ∀ j, bit B i j = true → b j = true := by
   intro j hj
   obtain ⟨e, he, hbe, hor⟩ := e2 j (e7 j hj) hj
   have hbon : b e.on = true := by
    have := hedge e he hbe
    rw [getF] at this
    split at this
    ·exact this
    ·cases this
   rcases hor with rfl | hor
   ·exact hbon
   ·exact hcl e.on hbon j hor
  have hiq : i < q := by
   rcases Nat.lt_or_ge i q with h | h
   ·exact h
   ·exact absurd (fun j hj => hpre j (hcq i h hin j hj)) hall
  have hbq' : ∀ j, q ≤ j → up b i j = false := fun j hj => by unfold up; rw [if_neg (by omega)]; exact hbq j hj
  have hcnt : ((List.range n).filter fun j => !up b i j).length = m := by
   have := count_up hbi List.nodup_range (List.mem_range.2 hin)
   omega
  have hbp' : ∀ j, j < p → up b i j = true := fun j hj => by unfold up; split; rfl; exact hbp j hj
  have hcl' : ∀ k, up b i k = true → ∀ j, bit B k j = true → up b i j = true := by
   intro k hk j hj
   unfold up at hk ⊢
   by_cases hji : j = i
   ·rw [if_pos hji]
   ·rw [if_neg hji]
    by_cases hki : k = i
    ·subst hki; exact hpre j hj
    ·rw [if_neg hki] at hk; exact hcl k hk j hj
  have nput : ∀ (l1 : List Value), l1.length = l.length → ∀ u t, nth (lput l1 o.dst u) t = if o.dst = some t then u else nth l1 t := by
   intro l1 hl1 u t
   cases hd : o.dst with
   | none => rw [if_neg (by simp)]; rfl
   | some d =>
    have hdl : d < l1.length := by rw [hl1]; exact hDl (i, d) (e4 d hd)
    show nth (lset l1 d u) t = _
    rw [nth_lset l1 d t u hdl]
    by_cases htd : t = d
    ·subst htd; simp
    ·rw [if_neg htd, if_neg (by simpa using fun h => htd h.symm)]
  have lput_len : ∀ (l1 : List Value) u, (lput l1 o.dst u).length = l1.length := by
   intro l1 u
   cases o.dst with
   | none => rfl
   | some d => exact lset_length l1 d u
  have hdst : ∀ e ∈ DL, o.dst = some e.2 → e.1 = i := by
   intro e he hd
   have hm' : (i, e.2) ∈ DL := e4 _ hd
   have h3 := find_at hnd2 hm'
   have h4 := find_at (i := e.1) hnd2 (show (e.1, e.2) ∈ DL from he)
   rw [h3] at h4
   have := Option.some.inj h4
   exact (congrArg Prod.fst this).symm
  by_cases hif : i ∈ Fl
  ·obtain ⟨o', ho', hg0⟩ := hF i hif w h.iw
   rw [ho] at ho'
   obtain rfl := Option.some.inj ho'
   have hg := gdoes_congr (l1 := l') (l2 := lF) e6 (by omega) (fun t ht => by
    cases hf : DL.find? (fun e => e.2 == t) with
    | none =>
     have hno : ∀ e ∈ DL, e.2 ≠ t := fun e he het => by have := List.find?_eq_none.1 hf e he; simp [het] at this
     rw [hr1 t (fun e he het => absurd het (hno e he)), hr3 t (fun e he het => absurd het (hno e he)), hlF2 t (fun e he het => absurd het (hno e he))]
    | some e =>
     have he := List.mem_of_find?_eq_some hf
     have het : e.2 = t := by simpa using List.find?_some hf
     have huniq : ∀ e' ∈ DL, e'.2 = t → e' = e := fun e' he' het' => by
      have h3 := find_at (i := e'.1) hnd2 (show (e'.1, t) ∈ DL by rw [← het']; exact he')
      rw [hf] at h3
      have := Option.some.inj h3
      rw [this, ← het']
     rcases Nat.lt_or_ge e.1 p with hep | hep
     ·have hef : e.1 ∉ Fl := fun h => by have := (hFl e.1 h).1.1; omega
      rw [hr1 t (fun e' he' het' hef' => absurd (huniq e' he' het' ▸ hef') hef), hr3 t (fun e' he' het' => .inl (by rw [huniq e' he' het']; exact hep)), hlF2 t (fun e' he' het' => by rw [huniq e' he' het']; exact hef)]
     ·rcases hlk i hif o ho t ht e he het hep with ⟨hef, hbit⟩ | ⟨hef, hbit⟩
      ·have hbe := hpre e.1 hbit
       rw [hr1 t (fun e' he' het' _ => by rw [huniq e' he' het']; exact hbe), ← het, hr2 e he hef, hlF1 e he hef]
      ·have hbe : b e.1 = false := by
        cases hc : b e.1 with
        | false => rfl
        | true => have := hcl e.1 hc i hbit; rw [hbi] at this; cases this
       rw [hr1 t (fun e' he' het' hef' => absurd (huniq e' he' het' ▸ hef') hef), hr3 t (fun e' he' het' => .inr (by rw [huniq e' he' het']; exact ⟨hef, hbe⟩)), hlF2 t (fun e' he' het' => by rw [huniq e' he' het']; exact hef)]) hg0
   refine gdoes_wp0 ho hg (fun u w' hu => ?_)
   obtain ⟨rfl, rfl⟩ := hu
   rw [list_up]
   refine ih _ _ li _ hcnt hbp' hbq' hcl' (by rw [lput_len]; exact h1) h2 (fun t ht => ?_) hr2 (fun t ht => hr3 t (fun e he het => (ht e he het).imp id fun h => ⟨h.1, by have := h.2; unfold up at this; rwa [if_neg (fun hh => h.1 (by rw [hh]; exact hif))] at this⟩)) ?_
   ·rw [nput l' h1]
    by_cases hd : o.dst = some t
    ·rw [if_pos hd]
     exact (hr2 (i, t) (e4 t hd) hif).symm
    ·rw [if_neg hd]
     refine hr1 t (fun e he het hef => ?_)
     have := ht e he het hef
     unfold up at this
     by_cases hei : e.1 = i
     ·exfalso
      cases hd2 : o.dst with
      | none => exact e5 hd2 e he hei
      | some d =>
       have hm' := e4 d hd2
       have := fst_at hnd1 he hm' hei
       exact hd (by rw [hd2, ← het, this])
     ·rwa [if_neg hei] at this
   ·have : (fun j => (!Fl.contains j && decide (j < q)) && !up b i j) = (fun j => (!Fl.contains j && decide (j < q)) && !b j) := by
     funext j
     unfold up
     by_cases hj : j = i
     ·have hc : Fl.contains j = true := by rw [hj]; exact List.contains_iff_mem.2 hif
      rw [hc]; rfl
     ·rw [if_neg hj]
    rw [this]; exact h
  ·have hmem : i ∈ (List.range n).filter fun j => (!Fl.contains j && decide (j < q)) && !b j := List.mem_filter.2 ⟨List.mem_range.2 hin, by
    have : Fl.contains i = false := by
     cases hc : Fl.contains i with
     | false => rfl
     | true => exact absurd (List.contains_iff_mem.1 hc) hif
    rw [this, hbi, decide_eq_true hiq]; rfl⟩
   cases his : (List.range n).filter fun j => (!Fl.contains j && decide (j < q)) && !b j with
   | nil => rw [his] at hmem; cases hmem
   | cons k is =>
    have hsort : ((List.range n).filter fun j => (!Fl.contains j && decide (j < q)) && !b j).Pairwise (· < ·) := List.pairwise_lt_range.sublist List.filter_sublist
    have hk : k ∈ (List.range n).filter fun j => (!Fl.contains j && decide (j < q)) && !b j := by rw [his]; exact List.mem_cons_self
    obtain ⟨hk1, hk2⟩ := List.mem_filter.1 hk
    rw [Bool.and_eq_true, Bool.and_eq_true] at hk2
    have hkF : k ∉ Fl := fun h => by have := List.contains_iff_mem.2 h; rw [this] at hk2; simp at hk2
    have hkb : b k = false := by simpa using hk2.2
    have hik : i = k := by
     rw [his] at hmem hsort
     rcases List.mem_cons.1 hmem with h | h
     ·exact h
     ·have hki := (List.pairwise_cons.1 hsort).1 i h
      have hpk : p ≤ k := by
       rcases Nat.lt_or_ge k p with h | h
       ·rw [hbp k h] at hkb; cases hkb
       ·exact h
      have hpi : p ≤ i := by
       rcases Nat.lt_or_ge i p with h | h
       ·rw [hbp i h] at hbi; cases hbi
       ·exact h
      have := hpre k (hord i hpi hiq hif k hpk hki hkF)
      rw [hkb] at this
      cases this
    subst hik
    have hrest := filter_up (i := i) (js := is) (b := b) (q := fun j => !Fl.contains j && decide (j < q)) List.nodup_range his
    rw [his] at h
    obtain ⟨_, o', R, ho', hg, hk⟩ := h
    have ho'' := nthO_ops ho'
    rw [ho] at ho''
    obtain rfl := Option.some.inj ho''
    refine gdoes_wp0 ho (gdoes_congr (l2 := li) e6 (by omega) (fun t ht => ?_) hg) (fun u w' hu => ?_)
    ·refine hr1 t (fun e he het hef => ?_)
     have h3 := e3 t ht e he het
     rw [Bool.or_eq_true] at h3
     rcases h3 with h3 | h3
     ·exact hpre _ h3
     ·exfalso
      rcases (hFl e.1 hef).2 i h3 with h4 | h4
      ·rw [hbp i h4] at hbi; cases hbi
      ·exact hif h4
    ·rw [list_up]
     refine ih _ _ (lput li o.dst u) _ hcnt hbp' hbq' hcl' (by rw [lput_len]; exact h1) (by rw [lput_len]; exact h2) (fun t ht => ?_) (fun e he hef => ?_) (fun t ht => ?_) (by rw [hrest]; exact hk u w' hu)
     ·rw [nput l' h1, nput li h2]
      by_cases hd : o.dst = some t
      ·rw [if_pos hd, if_pos hd]
      ·rw [if_neg hd, if_neg hd]
       refine hr1 t (fun e he het hef => ?_)
       have := ht e he het hef
       unfold up at this
       have hne : ¬ e.1 = i := fun h => hif (by rw [← h]; exact hef)
       rwa [if_neg hne] at this
     ·rw [nput li h2, if_neg (fun hd => hif (by rw [← hdst e he hd]; exact hef))]
      exact hr2 e he hef
     ·rw [nput li h2]
      have hne : ¬ o.dst = some t := fun hd => by
       rcases ht (i, t) (e4 t hd) rfl with h4 | ⟨_, h4⟩
       ·have h4 : i < p := h4
        rw [hbp i h4] at hbi; cases hbi
       ·simp [up] at h4
      rw [if_neg hne]
      exact hr3 t (fun e he het => (ht e he het).imp id fun h => ⟨h.1, by
       have h5 := h.2
       unfold up at h5
       split at h5
       ·cases h5
       ·exact h5⟩)
theorem region_preG {O : Nat → Prop} {Ms : List Nat} {Φ : Nat → RF O} {Rs : Nat → World → Prop} {p : Nat} (DLp : List (Nat × Tmp)) (hB : bOk ops B DL Ms = true) (hn : ops.size = n) (hp : p < n) (hDp : DLp = DL.filter (fun e => decide (e.1 < p))) (hMp : ∀ t, t < Ms.length → Ms.getD t 0 < p)
  (hcut : ∀ i, p ≤ i → i < n → ∀ j, j < p → bit B i j = true) (hDl : ∀ e ∈ DL, e.2 < l.length) (hR : ∀ k w w', Rs k w → Only No w w' → Rs k w')
  (hs : ∀ i, i < p → i ∉ Ms → LStep P ops O DL l (fun v => fillL l DL v) w0 n B Ms Φ Rs i) (hm : ∀ t, t < Ms.length → MStep P ops O DL l (fun v => fillL l DL v) w0 n B Φ Rs t (Ms.getD t 0))
  (hend : ∀ (v : Nat → Value) (lo hi : Nat → Nat) w', Only O w0 w' → (∀ j, j < p → (Φ j).p (rs B j v) (v j) (lo j) (hi j) w') → Rs Ms.length w' → Rest r P ops Q ds n p (fillL l DLp v) w') :
  ∀ (m : Nat) (b : Nat → Bool) (a : Act) (w : World), ((List.range n).filter fun j => !b j).length = m → (∀ i, p ≤ i → b i = false) → Inv O l ds w0 n B DL Ms Φ Rs b a w → wpAnyIn (Wf r) 0 P .any ops Q m ((List.range n).map b).toArray a w := by
 obtain ⟨hops, hlt, hnd1, hnd2, hMs, hMn⟩ := bOk_parts hB
 have getT : ∀ (b : Nat → Bool) (j : Nat), ((List.range n).map b).toArray.getD j true = (if j < n then b j else true) := by
  intro b j
  rw [Array.getD_eq_getD_getElem?, List.getElem?_toArray, List.getElem?_map]
  by_cases h : j < n <;> simp [h]
 have getF : ∀ (b : Nat → Bool) (j : Nat), ((List.range n).map b).toArray.getD j false = (if j < n then b j else false) := by
  intro b j
  rw [Array.getD_eq_getD_getElem?, List.getElem?_toArray, List.getElem?_map]
  by_cases h : j < n <;> simp [h]
 have all_of : ∀ b : Nat → Bool, Region.ready .any ops ((List.range n).map b).toArray = [] → ∀ i, i < n → b i = true := by
  intro b hr i
  induction i using Nat.strongRecOn with
  | _ i ih =>
   intro hi
   cases hb : b i with
   | true => rfl
   | false =>
    obtain ⟨o, ho⟩ : ∃ o, ops[i]? = some o := ⟨_, Array.getElem?_eq_getElem (by omega)⟩
    have : i ∈ Region.ready .any ops ((List.range n).map b).toArray := by
     rw [mem_ready]
     refine ⟨by rw [getT, if_pos hi, hb], o, ho, fun e he hbe => ?_⟩
     have := (hops i o ho).1 e he hbe
     rw [getF, if_pos (by omega)]
     exact ih e.on this (by omega)
    rw [hr] at this
    cases this
 intro m
 induction m with
 | zero =>
  intro b a w hm0 hbp hI
  have : p ∈ (List.range n).filter fun j => !b j := List.mem_filter.2 ⟨List.mem_range.2 hp, by simp [hbp p (Nat.le_refl _)]⟩
  rw [List.eq_nil_of_length_eq_zero hm0] at this
  cases this
 | succ m ih =>
  intro b a w hm0 hbp hI
  refine ⟨fun hr => (by have := all_of b hr p hp; rw [hbp p (Nat.le_refl _)] at this; cases this), fun i hi => ?_⟩
  rw [mem_ready] at hi
  obtain ⟨h1, o, ho, hedge⟩ := hi
  have hin : i < n := by have := (Array.getElem?_eq_some_iff.1 ho).1; omega
  rw [getT, if_pos hin] at h1
  obtain ⟨⟨v, lo, hi, k, l', rfl, hlen, hl', hO, hΦ, hIv, hk, hms, hr⟩, hcl⟩ := hI
  obtain ⟨e1, e2, e3, e4, e5, e6, e7⟩ := hops i o ho
  obtain ⟨v, hl', hΦ, hold⟩ : ∃ v : Nat → Value, (∀ t, nth l' t = sel DL b v l t) ∧ (∀ j, j < n → b j = true → (Φ j).p (rs B j v) (v j) (lo j) (hi j) w) ∧ (∀ e ∈ DL, b e.1 = false → v e.1 = nth l e.2) := by
   refine ⟨fun j => if b j then v j else match DL.find? (fun e => e.1 == j) with | some e => nth l e.2 | none => undef, fun t => ?_, fun j hj hbj => ?_, fun e he hbe => ?_⟩
   ·rw [hl' t]
    unfold sel
    split
    ·split
     ·rename_i hb; exact (if_pos hb).symm
     ·rfl
    ·rfl
   ·have h1 : rs B j (fun j => if b j then v j else match DL.find? (fun e => e.1 == j) with | some e => nth l e.2 | none => undef) = rs B j v := by
     funext m
     unfold rs
     split
     ·rename_i hm; exact if_pos (hcl j hbj m hm)
     ·rfl
    rw [h1]
    simp only [hbj, if_true]
    exact hΦ j hj hbj
   ·have hf : DL.find? (fun e' => e'.1 == e.1) = some e := by
     cases hf : DL.find? (fun e' => e'.1 == e.1) with
     | none => have := List.find?_eq_none.1 hf e he; simp at this
     | some e' => rw [fst_at hnd1 (List.mem_of_find?_eq_some hf) he (by simpa using List.find?_some hf)]
    simp only [hbe, hf]
    rfl
  have hold' : ∀ e ∈ DL, bit B e.1 i = true → v e.1 = nth l e.2 := fun e he hbe => hold e he (by
   cases hb : b e.1 with
   | false => rfl
   | true => have := hcl e.1 hb i hbe; rw [h1] at this; cases this)
  have hpre : ∀ j, bit B i j = true → b j = true := by
   intro j hj
   obtain ⟨e, he, hbe, hor⟩ := e2 j (e7 j hj) hj
   have hbon : b e.on = true := by
    have := hedge e he hbe
    rw [getF] at this
    split at this
    ·exact this
    ·cases this
   rcases hor with rfl | hor
   ·exact hbon
   ·exact hcl e.on hbon j hor
  have hkmin : ∀ t, t < Ms.length → bit B i (Ms.getD t 0) = true → t < k := fun t ht hb => (hms t ht).1 (hpre _ hb)
  have hkmax : ∀ t, t < Ms.length → bit B (Ms.getD t 0) i = true → k ≤ t := by
   intro t ht hb
   rcases Nat.lt_or_ge t k with h | h
   ·have := hcl _ ((hms t ht).2 h) i hb
    rw [h1] at this
    cases this
   ·exact h
  have hIv' : Ivs (fun j => bit B i j = true) lo hi w0 w := ⟨fun j hj => hIv.1 j (hpre j hj), fun x y hx hy => hIv.2 x y (hpre x hx) (hpre y hy)⟩
  have hΦ' : ∀ j, bit B i j = true → (Φ j).p (rs B j v) (v j) (lo j) (hi j) w := fun j hj => hΦ j (by have := e7 j hj; omega) (hpre j hj)
  have hcnt : ((List.range n).filter fun j => !up b i j).length = m := by
   have := count_up h1 List.nodup_range (List.mem_range.2 hin)
   omega
  by_cases hip : i < p
  case neg =>
   have hpi : p ≤ i := Nat.le_of_not_lt hip
   have hball : ∀ j, j < p → b j = true := fun j hj => hpre j (hcut i hpi hin j hj)
   have hbe : b = fun j => decide (j < p) := by
    funext j
    by_cases hj : j < p
    ·rw [hball j hj]; simp [hj]
    ·rw [hbp j (Nat.le_of_not_lt hj)]; simp [hj]
   have hke : k = Ms.length := by
    rcases Nat.lt_or_ge k Ms.length with h | h
    ·have := (hms k h).1 (hball _ (hMp k h))
     omega
    ·omega
   have hfl : l' = fillL l DLp v := by
    refine nth_ext (by rw [hlen, fillL_length]) (fun t => ?_)
    have hnd2' : (DLp.map (·.2)).Nodup := by rw [hDp]; exact hnd2.sublist (List.filter_sublist.map _)
    have hlt' : ∀ e ∈ DLp, e.2 < l.length := fun e he => hDl e (by rw [hDp] at he; exact (List.mem_filter.1 he).1)
    rw [hl' t, nth_fillL DLp l v t hlt' hnd2']
    unfold sel
    cases hf : DL.find? (fun e => e.2 == t) with
    | none =>
     have : DLp.find? (fun e => e.2 == t) = none := by
      rw [List.find?_eq_none] at hf ⊢
      exact fun e he => hf e (by rw [hDp] at he; exact (List.mem_filter.1 he).1)
     rw [this]
    | some e =>
     have he := List.mem_of_find?_eq_some hf
     have het : e.2 = t := by simpa using List.find?_some hf
     by_cases hep : e.1 < p
     ·have hm' : (e.1, t) ∈ DLp := by rw [hDp, ← het]; exact List.mem_filter.2 ⟨he, by simpa using hep⟩
      rw [find_at hnd2' hm']
      simp [hball e.1 hep]
     ·have : DLp.find? (fun e => e.2 == t) = none := by
       rw [List.find?_eq_none]
       intro e' he' h'
       rw [hDp] at he'
       obtain ⟨h1', h2'⟩ := List.mem_filter.1 he'
       have h3' : e'.2 = t := by simpa using h'
       have := find_at hnd2 (show (e'.1, t) ∈ DL by rw [← h3']; exact h1')
       rw [hf] at this
       have := Option.some.inj this
       rw [this] at hep
       simp at h2' hep
       omega
      rw [this]
      simp [hbp e.1 (Nat.le_of_not_lt hep)]
   subst hke
   have hT := hend v lo hi w hO (fun j hj => hΦ j (by omega) (hball j hj)) hr
   rw [← hfl] at hT
   have hgo := hT (m + 1) (by rw [← hm0, hbe])
   rw [← hbe] at hgo
   exact hgo.2 i (by rw [mem_ready]; exact ⟨by rw [getT, if_pos hin]; exact h1, o, ho, hedge⟩)
  have hbp' : ∀ j, p ≤ j → up b i j = false := fun j hj => by simp only [up, show j ≠ i by omega, if_false]; exact hbp j hj
  by_cases hiM : i ∈ Ms
  ·obtain ⟨t, ht, hti⟩ : ∃ t, t < Ms.length ∧ Ms.getD t 0 = i := by
    obtain ⟨t, ht, hti⟩ := List.getElem_of_mem hiM
    exact ⟨t, ht, by rw [List.getD_eq_getElem?_getD, List.getElem?_eq_getElem ht]; exact hti⟩
   have hkt : k = t := by
    have h2 : ¬ t < k := fun h => by
     have := (hms t ht).2 h
     rw [hti, h1] at this
     cases this
    rcases Nat.eq_zero_or_pos t with h0 | h0
    ·omega
    ·have h3 := (hMs t ht).2 (t - 1) (by omega)
     rw [hti] at h3
     have := hkmin (t - 1) (by omega) h3
     omega
   subst hkt
   obtain ⟨o', ho'', hg⟩ := (hm k ht).2 v lo hi w hO (by rw [hti]; exact hΦ') (by rw [hti]; exact hIv') hr (by rw [hti]; exact hold')
   have ho' := nthO_ops ho''
   rw [hti] at ho' hg
   rw [ho] at ho'
   obtain rfl := Option.some.inj ho'
   refine gdoes_wp (l := l) (DL := DL) hB hDl ho hlen hl' hold hg (fun u w' hu => ?_)
   rw [list_up]
   obtain ⟨hu1, hu2, hu3⟩ := hu
   refine ih _ _ _ hcnt hbp' (inv_up hB hn hDl ho h1 hlen hl' hO hΦ hIv hcl hpre hu1 hu3 (fun j hj hb hs_ => by rcases msens (hti ▸ (hm k ht).1) hj hs_ with rfl | e; (rw [h1] at hb; cases hb); (have := hcl j hb i e; rw [h1] at this; cases this)) ht (fun s hs' => ?_) hu2)
   by_cases hst : s = k
   ·subst hst; rw [hti]; simp [up]
   ·have hne : Ms.getD s 0 ≠ i := by
     intro h
     rw [← hti, List.getD_eq_getElem?_getD, List.getD_eq_getElem?_getD, List.getElem?_eq_getElem hs', List.getElem?_eq_getElem ht] at h
     exact hst (nodup_at hMn hs' ht (by simpa using h))
    simp only [up, hne, if_false]
    rw [hms s hs']
    omega
  ·obtain ⟨o', ho'', hg⟩ := hs i hip hiM v lo hi w k hO hΦ' hIv' hkmin hkmax hk hr hold'
   have ho' := nthO_ops ho''
   rw [ho] at ho'
   obtain rfl := Option.some.inj ho'
   refine gdoes_wp (l := l) (DL := DL) hB hDl ho hlen hl' hold hg (fun u w' hu => ?_)
   rw [list_up]
   refine ih _ _ _ hcnt hbp' (inv_up hB hn hDl ho h1 hlen hl' hO hΦ hIv hcl hpre hu.1 (No.any hu.2) (fun _ _ _ _ => hu.2) hk (fun s hs' => ?_) (hR _ _ _ hr hu.2))
   have hne : Ms.getD s 0 ≠ i := by
    intro h
    refine hiM ?_
    rw [← h, List.getD_eq_getElem?_getD, List.getElem?_eq_getElem hs']
    exact List.getElem_mem hs'
   simp only [up, hne, if_false]
   exact hms s hs'
theorem drawnG {O : Nat → Prop} {id : Nat} (p : Nat) (B : List Nat) (DL DLp : List (Nat × Tmp)) (Ls : List Nat) (Ms : List Nat) (Φ : Nat → RF O) (Rs : Nat → World → Prop)
  (lv lp : (Nat → Value) → List Value) (hmx : P.follows .mixedOrders = true) (hB : bOk ops B DL Ms = true) (hn : ops.size = n) (hp : p < n) (hDp : DLp = DL.filter (fun e => decide (e.1 < p))) (hMp : (Ms.all fun t => decide (t < p)) = true)
  (hlate : ((List.range n).all fun i => decide (i < p) || (List.range p).all fun j => bit B i j) = true) (hLs : ((List.range p).all fun i => Ls.contains i || Ms.contains i) = true)
  (hDl : (DL.all fun e => decide (e.2 < l.length)) = true) (hlv : ∀ v, fillL l DL v = lv v) (hlp : ∀ v, fillL l DLp v = lp v) (hR : ∀ k w w', Rs k w → Only No w w' → Rs k w') (h0 : Rs 0 w0)
  (hs : ∀ i ∈ Ls, LStep P ops O DL l lv w0 n B Ms Φ Rs i) (hm : ∀ t, t < Ms.length → MStep P ops O DL l lv w0 n B Φ Rs t (Ms.getD t 0))
  (hend : ∀ (v : Nat → Value) (lo hi : Nat → Nat) w', Only O w0 w' → (∀ j, j < p → (Φ j).p (rs B j v) (v j) (lo j) (hi j) w') → Rs Ms.length w' → Rest r P ops Q ds n p (lp v) w') :
  (Code.region id ops true).wpIn (Wf r) 0 P Q (fr l ds) w0 := by
 obtain rfl : (fun v => fillL l DL v) = lv := funext hlv
 obtain rfl : (fun v => fillL l DLp v) = lp := funext hlp
 refine wpIn_region_any hmx ?_
 have hdr : Only No w0 { w0 with drawn := w0.drawn + 1 } := ⟨rfl, rfl, rfl, Nat.le_refl _, fun _ _ _ => rfl⟩
 have hl : Array.replicate ops.size false = ((List.range n).map fun _ => false).toArray := by
  rw [hn]
  apply Array.ext'
  simp [List.map_const']
 rw [hl, hn]
 have hDl' : ∀ e ∈ DL, e.2 < l.length := fun e he => by simpa using List.all_eq_true.1 hDl e he
 have hf : ((List.range n).filter fun _ => !false).length = n := by
  have h1 : ((List.range n).filter fun _ => !false) = List.range n := List.filter_eq_self.2 (fun _ _ => rfl)
  rw [h1, List.length_range]
 have hsel : ∀ t, nth l t = sel DL (fun _ => false) (fun _ => undef) l t := by
  intro t
  unfold sel
  split <;> simp
 refine region_preG (p := p) DLp hB hn hp hDp (fun t ht => ?_) (fun i h1 h2 j hj => ?_) hDl' hR (fun i hi hM => hs i ?_) hm hend n (fun _ => false) _ _ hf (fun _ _ => rfl) ⟨⟨fun _ => undef, fun _ => 0, fun _ => 0, 0, l, rfl, rfl, hsel, No.any hdr, (fun _ _ h => by cases h), ⟨(fun _ h => by cases h), (fun _ _ h => by cases h)⟩, Nat.zero_le _, (fun t _ => ⟨(fun h => by cases h), (fun h => absurd h (Nat.not_lt_zero t))⟩), hR _ _ _ h0 hdr⟩, (fun _ h => by cases h)⟩
 ·have := List.all_eq_true.1 hMp (Ms.getD t 0) (by rw [List.getD_eq_getElem?_getD, List.getElem?_eq_getElem ht]; exact List.getElem_mem ht)
  simpa using this
 ·have := List.all_eq_true.1 hlate i (List.mem_range.2 h2)
  rw [Bool.or_eq_true] at this
  rcases this with h | h
  ·have : i < p := by simpa using h
   omega
  ·exact List.all_eq_true.1 h j (List.mem_range.2 hj)
 ·have := List.all_eq_true.1 hLs i (List.mem_range.2 hi)
  rw [Bool.or_eq_true] at this
  rcases this with h | h
  ·exact List.contains_iff_mem.1 h
  ·exact absurd (List.contains_iff_mem.1 h) hM
theorem rest_done (hn : ops.size = n) (h : Q .normal (fr l ds) w) : Rest r P ops Q ds n n l w := by
 intro m hm
 have h0 : (List.range n).filter (fun j => !decide (j < n)) = [] := by
  rw [List.filter_eq_nil_iff]
  intro j hj
  simp [List.mem_range.1 hj]
 rw [h0] at hm
 subst hm
 refine ⟨List.eq_nil_iff_forall_not_mem.2 (fun i hi => ?_), h⟩
 rw [mem_ready] at hi
 obtain ⟨h1, o, ho, _⟩ := hi
 have hin : i < n := by have := (Array.getElem?_eq_some_iff.1 ho).1; omega
 rw [Array.getD_eq_getD_getElem?, List.getElem?_toArray, List.getElem?_map, List.getElem?_range hin] at h1
 simp [hin] at h1
theorem rest_seg {p q : Nat} (Fl N : List Nat) (FD DL : List (Nat × Tmp)) (B : List Nat) (xs : Nat → Value) (lF : List Value) (Iw : World → Prop) (hB0 : bOk ops B DL [] = true) (hn : ops.size = n) (hq : q ≤ n) (hcq : ((List.range n).all fun i => decide (i < q) || (List.range q).all fun j => bit B i j) = true)
  (hFl : (Fl.all fun f => ((decide (p ≤ f) && decide (f < q)) && decide (B.getD f 0 < 2 ^ n)) && (List.range n).all fun j => !bit B f j || (decide (j < p) || Fl.contains j)) = true) (hFD : FD = DL.filter (fun e => Fl.contains e.1)) (hN : ((List.range n).filter fun j => (!Fl.contains j && decide (j < q)) && !decide (j < p)) = N) (hlF : fillL l FD xs = lF)
  (hlk : (Fl.all fun f => match ops[f]? with | some o => (o.looksAt ops).all fun t => DL.all fun e => !(e.2 == t) || (decide (e.1 < p) || ((Fl.contains e.1 && bit B f e.1) || (!Fl.contains e.1 && bit B e.1 f))) | none => true) = true)
  (hord : ((List.range q).all fun i => (decide (i < p) || Fl.contains i) || (List.range i).all fun j => (decide (j < p) || Fl.contains j) || bit B i j) = true) (hDl : (DL.all fun e => decide (e.2 < l.length)) = true) (hpq : p ≤ q)
  (hF : ∀ w, Iw w → ∀ f ∈ Fl, ∃ o, nthO ops.toList f = some o ∧ GDoes P ops o lF w (fun u w' => u = xs f ∧ w' = w)) (h : wpI P ops (Rest r P ops Q ds n q) Iw N lF w) : Rest r P ops Q ds n p l w := by
 intro m hm
 subst hlF
 have hin := bOk_parts hB0
 obtain ⟨_, hlt, hnd1, hnd2, _, _⟩ := hin
 have hDl' : ∀ e ∈ DL, e.2 < l.length := fun e he => by simpa using List.all_eq_true.1 hDl e he
 have hnd2F : (FD.map (·.2)).Nodup := by rw [hFD]; exact hnd2.sublist (List.filter_sublist.map _)
 have hmF : ∀ e, e ∈ FD ↔ e ∈ DL ∧ e.1 ∈ Fl := fun e => by rw [hFD, List.mem_filter, List.contains_iff_mem]
 have hltF : ∀ e ∈ FD, e.2 < l.length := fun e he => hDl' e ((hmF e).1 he).1
 have hlF := fun t => nth_fillL FD l xs t hltF hnd2F
 have hlF1 : ∀ e ∈ DL, e.1 ∈ Fl → nth (fillL l FD xs) e.2 = xs e.1 := fun e he hef => by
  rw [hlF e.2]
  unfold sel
  rw [find_at hnd2F (show (e.1, e.2) ∈ FD from (hmF e).2 ⟨he, hef⟩)]
  rfl
 have hlF2 : ∀ t, (∀ e ∈ DL, e.2 = t → e.1 ∉ Fl) → nth (fillL l FD xs) t = nth l t := fun t ht => by
  rw [hlF t]
  unfold sel
  cases hf : FD.find? (fun e => e.2 == t) with
  | none => rfl
  | some e =>
   have he := (hmF e).1 (List.mem_of_find?_eq_some hf)
   exact absurd he.2 (ht e he.1 (by simpa using List.find?_some hf))
 have hFl' : ∀ f ∈ Fl, (p ≤ f ∧ f < q) ∧ ∀ j, bit B f j = true → j < p ∨ j ∈ Fl := fun f hf => by
  have := List.all_eq_true.1 hFl f hf
  rw [Bool.and_eq_true, Bool.and_eq_true, Bool.and_eq_true, decide_eq_true_eq, decide_eq_true_eq, decide_eq_true_eq] at this
  obtain ⟨⟨⟨h1, h2⟩, h3⟩, h4⟩ := this
  refine ⟨⟨h1, h2⟩, fun j hj => ?_⟩
  have hjn : j < n := by
   rcases Nat.lt_or_ge j n with h | h
   ·exact h
   ·have h6 : B.getD f 0 < 2 ^ j := Nat.lt_of_lt_of_le h3 (Nat.pow_le_pow_right (by decide) h)
    have := Nat.testBit_lt_two_pow h6
    unfold bit at hj
    rw [this] at hj
    cases hj
  have h5 := List.all_eq_true.1 h4 j (List.mem_range.2 hjn)
  rw [Bool.or_eq_true, Bool.or_eq_true, hj] at h5
  rcases h5 with h5 | h5 | h5
  ·cases h5
  ·exact .inl (by simpa using h5)
  ·exact .inr (List.contains_iff_mem.1 h5)
 refine region_floatI (r := r) (P := P) (ops := ops) (Q := Q) (ds := ds) (l := l) (Fl := Fl) (xs := xs) (p := p) (q := q) (K := Rest r P ops Q ds n q) (lF := fillL l FD xs) (Iw := Iw) hB0 hn hDl' (by rw [fillL_length]) hlF1 hlF2 hq (fun i h1 h2 j hj => ?_) (fun _ _ h => h) hFl' (fun i h1 h2 hif j hpj hj hjf => ?_) (fun f hf o ho t ht e he het hpe => ?_)
  (fun f hf w hw => by obtain ⟨o, ho, hg⟩ := hF w hw f hf; exact ⟨o, nthO_ops ho, hg⟩) m (fun j => decide (j < p)) l (fillL l FD xs) w hm (fun j hj => decide_eq_true hj) (fun j hj => decide_eq_false (by omega)) (fun i hi j hj => ?_) rfl (by rw [fillL_length]) (fun t ht => ?_) hlF1 (fun t ht => ?_) (by rw [hN]; exact h)
 ·have := List.all_eq_true.1 hcq i (List.mem_range.2 h2)
  rw [Bool.or_eq_true] at this
  rcases this with h | h
  ·have : i < q := by simpa using h
   omega
  ·exact List.all_eq_true.1 h j (List.mem_range.2 hj)
 ·have := List.all_eq_true.1 hord i (List.mem_range.2 h2)
  simp only [Bool.or_eq_true, decide_eq_true_eq, List.contains_iff_mem] at this
  rcases this with (h | h) | h
  ·omega
  ·exact absurd h hif
  ·have h3 := List.all_eq_true.1 h j (List.mem_range.2 hj)
   simp only [Bool.or_eq_true, decide_eq_true_eq, List.contains_iff_mem] at h3
   rcases h3 with (h3 | h3) | h3
   ·omega
   ·exact absurd h3 hjf
   ·exact h3
 ·have h1 := List.all_eq_true.1 hlk f hf
  rw [ho] at h1
  have h2 := List.all_eq_true.1 (List.all_eq_true.1 h1 t ht) e he
  simp only [Bool.or_eq_true, Bool.and_eq_true, Bool.not_eq_true', beq_eq_false_iff_ne, decide_eq_true_eq, List.contains_iff_mem] at h2
  rcases h2 with h2 | h2 | h2 | h2
  ·exact absurd het h2
  ·omega
  ·exact .inl h2
  ·exact .inr ⟨fun hh => absurd (List.contains_iff_mem.2 hh) (by rw [h2.1]; decide), h2.2⟩
 ·have hi' : i < p := by simpa using hi
  have key : ∀ i, ∀ j, i < ops.size → bit B i j = true → j < i := by
   have hops := (bOk_parts hB0).1
   intro i
   induction i using Nat.strongRecOn with
   | _ i ih =>
    intro j hs hj
    have hp := hops i _ (Array.getElem?_eq_getElem hs)
    obtain ⟨e, he, hb, h⟩ := hp.2.1 j (hp.2.2.2.2.2.2 j hj) hj
    have h1 := hp.1 e he hb
    rcases h with h | h
    ·omega
    ·have := ih e.on h1 j (by omega) h; omega
  have := key i j (by omega) hj
  exact decide_eq_true (by omega)
 ·refine (hlF2 t (fun e he het hef => ?_)).symm
  have := ht e he het hef
  have := (hFl' e.1 hef).1.1
  simp at *
  omega
 ·refine hlF2 t (fun e he het hef => ?_)
  rcases ht e he het with h | h
  ·have := (hFl' e.1 hef).1.1; omega
  ·exact h.1 hef
end
end Go.Proofs.YtpamdlnobekihaaF
namespace Go.Proofs.YtpamdlnobekihaaF
open Go Shelf YtpamdlnobekihaaS
section
variable {r : Option Nat} {P : Program} {ops : Array Oper} {Q : Exit → Act → World → Prop} {l : List Value} {ds : List Deferred} {w : World} {n p i : Nat} {o : Oper} {js : List Nat} {K : List Value → World → Prop} {Iw : World → Prop}
theorem wJ.done (iw : Iw w) (h : K l w) : wpI P ops K Iw [] l w := ⟨iw, h⟩
theorem wJ.op {R : Value → World → Prop} (iw : Iw w) (ho : nthO ops.toList i = some o) (hg : o.guard = none) (h : Does P o (ev l) w R) (hk : ∀ u w', R u w' → wpI P ops K Iw js (lput l o.dst u) w') : wpI P ops K Iw (i :: js) l w := ⟨iw, o, R, ho, gd hg h, hk⟩
theorem wJ.is {v : Value} (iw : Iw w) (ho : nthO ops.toList i = some o) (hg : o.guard = none) (h : DV P o (ev l) w v) (hk : wpI P ops K Iw js (lput l o.dst v) w) : wpI P ops K Iw (i :: js) l w := wJ.op iw ho hg h (by rintro _ _ ⟨rfl, rfl⟩; exact hk)
theorem wJ.flat (l' : List Value) (h : l = l') (hk : wpI P ops K Iw js l' w) : wpI P ops K Iw js l w := by rw [h]; exact hk
end
end Go.Proofs.YtpamdlnobekihaaF
namespace Go.Proofs.YtpamdlnobekihaaF
open Go
theorem s_ti3 : (Try.prog.info? 3).map (fun i => (i.size, i.bytes, i.zero)) = some (1, 8, some (Value.int .i64 0)) := by kernel_rfl
theorem s_ti4 : (Try.prog.info? 4).map (fun i => (i.size, i.bytes, i.zero)) = some (1, 1, some (Value.bool false)) := by kernel_rfl
theorem s_ti5 : (Try.prog.info? 5).map (fun i => (i.size, i.bytes, i.zero)) = some (1, 1, some (Value.int .u8 0)) := by kernel_rfl
theorem s_ti23 : (Try.prog.info? 23).map (fun i => (i.size, i.bytes, i.zero)) = some (3, 24, some (Value.agg #[(Value.int .i64 0), (Value.int .i64 0), (Value.int .i64 0)])) := by kernel_rfl
theorem s_ti36 : (Try.prog.info? 36).map (fun i => (i.size, i.bytes, i.zero)) = some (1, 24, some (Value.slice none 0 0)) := by kernel_rfl
theorem s_ti37 : (Try.prog.info? 37).map (fun i => (i.size, i.bytes, i.zero)) = some (1, 24, some (Value.slice none 0 0)) := by kernel_rfl
theorem s_ti51 : (Try.prog.info? 51).map (fun i => (i.size, i.bytes, i.zero)) = some (2, 16, some (Value.agg #[(Value.int .i64 0), (Value.int .i64 0)])) := by kernel_rfl
theorem s_ti59 : (Try.prog.info? 59).map (fun i => (i.size, i.bytes, i.zero)) = some (7, 88, some (Value.agg #[(Value.int .i64 0), (Value.int .i64 0), (Value.int .i64 0), (Value.int .i64 0), (Value.int .i64 0), (Value.slice none 0 0), (Value.slice none 0 0)])) := by kernel_rfl
theorem s_ti63 : (Try.prog.info? 63).map (fun i => (i.size, i.bytes, i.zero)) = some (1, 24, some (Value.slice none 0 0)) := by kernel_rfl
theorem s_ti65 : (Try.prog.info? 65).map (fun i => (i.size, i.bytes, i.zero)) = some (4, 48, some (Value.agg #[(Value.int .i64 0), (Value.int .i64 0), (Value.int .i64 0), (Value.slice none 0 0)])) := by kernel_rfl
theorem s_ti67 : (Try.prog.info? 67).map (fun i => (i.size, i.bytes, i.zero)) = some (1, 24, some (Value.slice none 0 0)) := by kernel_rfl
theorem s_ti69 : (Try.prog.info? 69).map (fun i => (i.size, i.bytes, i.zero)) = some (4, 48, some (Value.agg #[(Value.int .i64 0), (Value.int .i64 0), (Value.int .i64 0), (Value.slice none 0 0)])) := by kernel_rfl
theorem s_ti71 : (Try.prog.info? 71).map (fun i => (i.size, i.bytes, i.zero)) = some (1, 24, some (Value.slice none 0 0)) := by kernel_rfl
theorem s_ti73 : (Try.prog.info? 73).map (fun i => (i.size, i.bytes, i.zero)) = some (17, 200, some (Value.agg #[(Value.int .i64 0), (Value.int .i64 0), (Value.int .i64 0), (Value.int .i64 0), (Value.int .i64 0), (Value.int .i64 0), (Value.slice none 0 0), (Value.int .i64 0), (Value.int .i64 0), (Value.int .i64 0), (Value.slice none 0 0), (Value.slice none 0 0), (Value.int .i64 0), (Value.slice none 0 0), (Value.bool false), (Value.int .i64 0), (Value.int .i64 0)])) := by kernel_rfl
theorem s_ti75 : (Try.prog.info? 75).map (fun i => (i.size, i.bytes, i.zero)) = some (1, 24, some (Value.slice none 0 0)) := by kernel_rfl
theorem s_ti77 : (Try.prog.info? 77).map (fun i => (i.size, i.bytes, i.zero)) = some (3, 24, some (Value.agg #[(Value.int .i64 0), (Value.int .i64 0), (Value.bool false)])) := by kernel_rfl
theorem s_ti78 : (Try.prog.info? 78).map (fun i => (i.size, i.bytes, i.zero)) = some (1, 24, some (Value.slice none 0 0)) := by kernel_rfl
theorem s_ti79 : (Try.prog.info? 79).map (fun i => (i.size, i.bytes, i.zero)) = some (1, 24, some (Value.slice none 0 0)) := by kernel_rfl
theorem s_ti81 : (Try.prog.info? 81).map (fun i => (i.size, i.bytes, i.zero)) = some (10, 128, some (Value.agg #[(Value.int .i64 0), (Value.int .i64 0), (Value.int .i64 0), (Value.slice none 0 0), (Value.slice none 0 0), (Value.int .i64 0), (Value.slice none 0 0), (Value.bool false), (Value.int .i64 0), (Value.int .i64 0)])) := by kernel_rfl
theorem s_ti82 : (Try.prog.info? 82).map (fun i => (i.size, i.bytes, i.zero)) = some (1, 24, some (Value.slice none 0 0)) := by kernel_rfl
theorem s_ti83 : (Try.prog.info? 83).map (fun i => (i.size, i.bytes, i.zero)) = some (1, 24, some (Value.slice none 0 0)) := by kernel_rfl
theorem s_ti85 : (Try.prog.info? 85).map (fun i => (i.size, i.bytes, i.zero)) = some (4, 48, some (Value.agg #[(Value.slice none 0 0), (Value.int .i64 0), (Value.int .i64 0), (Value.bool false)])) := by kernel_rfl
end Go.Proofs.YtpamdlnobekihaaF
namespace Go.Proofs.YtpamdlnobekihaaF
open Go Shelf YtpamdlnobekihaaS
def befL (ops : List Oper) : List Nat := ops.foldl (fun B o => B ++ [o.after.toList.foldl (fun m e => if Region.binds .any e = true then m ||| 2 ^ e.on ||| B.getD e.on 0 else m) 0]) []
def dstL (ops : List Oper) : List (Nat × Tmp) := ops.zipIdx.filterMap fun x => x.1.dst.map fun d => (x.2, d)
def aOkP (ops : Array Oper) (B : List Nat) (DL : List (Nat × Tmp)) (p : Nat) : Bool :=
 (List.range p).all fun i => match ops[i]? with
  | some o => (o.looksAt ops).all fun t => DL.all fun e => !(e.2 == t) || bit B i e.1
  | none => false
def lateOk (B : List Nat) (p n : Nat) : Bool := (List.range n).all fun i => decide (i < p) || (List.range i).all fun j => bit B i j
def dpOk (ops : Array Oper) (B : List Nat) (DL : List (Nat × Tmp)) (p : Nat) (len : Nat) : Bool := bOk ops B DL [] && aOkP ops B DL p && lateOk B p ops.size && DL.all (fun e => decide (e.2 < len))
section
variable {r : Option Nat} {P : Program} {ops : Array Oper} {Q : Exit → Act → World → Prop} {ds : List Deferred} {w0 : World} {K : List Value → Prop} {l : List Value} {o : Oper} {os : List Oper}
def pwL (P : Program) (ops : Array Oper) (w0 : World) (K : List Value → Prop) : List Oper → List Value → Prop
 | [], l => K l
 | o :: os, l => ∃ x, (∀ w, Only No w0 w → GDoes P ops o l w (fun u w' => u = x ∧ Only No w w')) ∧ pwL P ops w0 K os (lput l o.dst x)
def fillS : List Oper → List Value → List Value → List Value
 | [], _, l => l
 | o :: os, X, l => match X with
  | [] => l
  | x :: xs => fillS os xs (lput l o.dst x)
abbrev fillR (l : List Value) (os : List Oper) (X : List Value) : List Value := fillS os X l
theorem fillR_snoc : ∀ {os : List Oper} {X : List Value} {l : List Value} {i : Nat} {o : Oper}, os[i]? = some o → os.length ≤ X.length → fillR l (os.take (i + 1)) X = lput (fillR l (os.take i) X) o.dst (nth X i)
 | o :: os, x :: X, l, 0, o', h, _ => by
  simp at h; subst h
  rfl
 | o :: os, x :: X, l, i + 1, o', h, hl => by
  show fillR (lput l o.dst x) (os.take (i + 1)) X = lput (fillR (lput l o.dst x) (os.take i) X) o'.dst (nth X i)
  exact fillR_snoc (by simpa using h) (by simpa using hl)
 | [], _, _, _, _, h, _ => by simp at h
 | _ :: _, [], _, _, _, _, hl => by simp at hl
theorem pwL_out : ∀ {os : List Oper} {l : List Value}, pwL P ops w0 K os l → ∃ X : List Value, X.length = os.length ∧ K (fillR l os X) ∧ ∀ i o, os[i]? = some o → ∀ w, Only No w0 w → GDoes P ops o (fillR l (os.take i) X) w (fun u w' => u = nth X i ∧ Only No w w')
 | [], l, h => ⟨[], rfl, h, fun i o ho => by simp at ho⟩
 | o :: os, l, ⟨x, h, hr⟩ => by
  obtain ⟨X, h1, h2, h3⟩ := pwL_out hr
  refine ⟨x :: X, by simp [h1], h2, fun i o' ho w hw => ?_⟩
  cases i with
  | zero => simp at ho; subst ho; exact h w hw
  | succ i => exact h3 i o' (by simpa using ho) w hw
theorem fillR_length : ∀ {os : List Oper} {X l : List Value}, (fillR l os X).length = l.length
 | [], _, _ => rfl
 | _ :: _, [], _ => rfl
 | o :: os, x :: X, l => by
  show (fillR (lput l o.dst x) os X).length = _
  rw [fillR_length]
  cases o.dst with
  | none => rfl
  | some d => exact lset_length _ _ _
theorem nth_fillR {B : List Nat} {DL : List (Nat × Tmp)} {X : List Value} {p : Nat} (hB : bOk ops B DL [] = true) (hDl : ∀ e ∈ DL, e.2 < l.length) (hp : p ≤ ops.size) (hX : X.length = p) :
  ∀ i, i ≤ p → ∀ t, nth (fillR l ((ops.toList.take p).take i) X) t = sel DL (fun j => decide (j < i)) (nth X) l t
 | 0, _, t => by
  have : fillR l ((ops.toList.take p).take 0) X = l := by rw [List.take_zero]; rfl
  rw [this]
  unfold sel
  split <;> simp
 | i + 1, hi, t => by
  obtain ⟨hops, hlt, hnd1, hnd2, hMs, hMn⟩ := bOk_parts hB
  have his : i < ops.size := by omega
  have ho : ops[i]? = some ops[i] := Array.getElem?_eq_getElem his
  obtain ⟨e1, e2, e3, e4, e5, e6, e7⟩ := hops i _ ho
  have ih := nth_fillR hB hDl hp hX i (by omega)
  have ho' : (ops.toList.take p)[i]? = some ops[i] := by
   rw [List.getElem?_take, if_pos (by omega), Array.getElem?_toList]; exact ho
  rw [fillR_snoc ho' (by rw [List.length_take, hX]; omega)]
  have hlen : (fillR l ((ops.toList.take p).take i) X).length = l.length := fillR_length
  cases hd : (ops[i]).dst with
  | none =>
   show nth (fillR l ((ops.toList.take p).take i) X) t = _
   rw [ih t]
   unfold sel
   cases hf : DL.find? (fun e => e.2 == t) with
   | none => rfl
   | some e =>
    have hne := e5 hd e (List.mem_of_find?_eq_some hf)
    have : decide (e.1 < i) = decide (e.1 < i + 1) := by rw [decide_eq_decide]; omega
    simp only [this]
  | some d =>
   have hm := e4 d hd
   show nth (lset (fillR l ((ops.toList.take p).take i) X) d (nth X i)) t = _
   rw [nth_lset _ _ _ _ (by rw [hlen]; exact hDl _ hm)]
   by_cases htd : t = d
   ·subst htd
    rw [if_pos rfl]
    unfold sel
    rw [find_at hnd2 hm]
    simp
   ·rw [if_neg htd, ih t]
    unfold sel
    cases hf : DL.find? (fun e => e.2 == t) with
    | none => rfl
    | some e =>
     have he := List.mem_of_find?_eq_some hf
     have het : e.2 = t := by simpa using List.find?_some hf
     have hne : e.1 ≠ i := by
      intro h
      have := fst_at hnd1 he hm h
      rw [this] at het
      exact htd het.symm
     have : decide (e.1 < i) = decide (e.1 < i + 1) := by rw [decide_eq_decide]; omega
     simp only [this]
theorem bit_lt {B : List Nat} {DL : List (Nat × Tmp)} (hB : bOk ops B DL [] = true) : ∀ i, ∀ j, i < ops.size → bit B i j = true → j < i := by
 intro i
 induction i using Nat.strongRecOn with
 | _ i ih =>
  intro j hs hj
  have hp := (bOk_parts hB).1 i _ (Array.getElem?_eq_getElem hs)
  obtain ⟨e, he, hb, h⟩ := hp.2.1 j (hp.2.2.2.2.2.2 j hj) hj
  have h1 := hp.1 e he hb
  rcases h with h | h
  ·omega
  ·have := ih e.on h1 j (by omega) h; omega
theorem pwL_step {B : List Nat} {DL : List (Nat × Tmp)} {X : List Value} {p i : Nat} (hB : bOk ops B DL [] = true) (hA : aOkP ops B DL p = true) (hDl : ∀ e ∈ DL, e.2 < l.length) (hp : p ≤ ops.size) (hX : X.length = p) (hi : i < p)
  (h3 : ∀ i o, (ops.toList.take p)[i]? = some o → ∀ w, Only No w0 w → GDoes P ops o (fillR l ((ops.toList.take p).take i) X) w (fun u w' => u = nth X i ∧ Only No w w'))
  {v : Nat → Value} {w : World} (hO : Only No w0 w) (hd : ∀ j, bit B i j = true → v j = nth X j) :
  ∃ o, nthO ops.toList i = some o ∧ GDoes P ops o (fillL l DL v) w (fun u w' => u = nth X i ∧ Only No w w') := by
 have hin := bOk_parts hB
 have hs : i < ops.size := by omega
 have ho : ops[i]? = some ops[i] := Array.getElem?_eq_getElem hs
 refine ⟨ops[i], by rw [nthO_eq, Array.getElem?_toList]; exact ho, ?_⟩
 refine gdoes_congr (l2 := fillR l ((ops.toList.take p).take i) X) ((hin.1 i _ ho).2.2.2.2.2.1) (by rw [fillL_length, fillR_length]) (fun t ht => ?_) (h3 i _ (by rw [List.getElem?_take, if_pos hi, Array.getElem?_toList]; exact ho) w hO)
 rw [nth_fillR hB hDl hp hX i (by omega) t, nth_fillL DL l v t hDl hin.2.2.2.1]
 unfold sel
 cases hf : DL.find? (fun e => e.2 == t) with
 | none => rfl
 | some e =>
  have he := List.mem_of_find?_eq_some hf
  have het : e.2 = t := by simpa using List.find?_some hf
  have h1 := List.all_eq_true.1 hA i (List.mem_range.2 hi)
  rw [ho] at h1
  have h2 := List.all_eq_true.1 (List.all_eq_true.1 h1 t ht) e he
  rw [Bool.or_eq_true] at h2
  rcases h2 with h2 | h2
  ·simp [het] at h2
  ·have := bit_lt hB i e.1 hs h2
   simp only [if_true, this, decide_true]
   exact hd _ h2
def dropO : Nat → List Oper → List Oper
 | 0, l => l
 | _ + 1, [] => []
 | n + 1, _ :: l => dropO n l
def takeO : Nat → List Oper → List Oper
 | 0, _ => []
 | _ + 1, [] => []
 | n + 1, o :: l => o :: takeO n l
theorem dropO_eq : ∀ (n : Nat) (l : List Oper), l.drop n = dropO n l
 | 0, _ => rfl
 | _ + 1, [] => by simp [dropO]
 | n + 1, _ :: l => dropO_eq n l
theorem takeO_eq : ∀ (n : Nat) (l : List Oper), l.take n = takeO n l
 | 0, _ => by simp [takeO]
 | _ + 1, [] => by simp [takeO]
 | n + 1, o :: l => congrArg (o :: ·) (takeO_eq n l)
structure LS (a b : List Oper) : Prop where
 h : a = b
theorem lsi {a : List Oper} : LS a a := ⟨rfl⟩
theorem dpT {id : Nat} {os1 os2 : List Oper} (p : Nat) (h : pwL P ops w0 (fun l' => ∀ w', Only No w0 w' → wpL r P ops Q os2 l' ds w') os1 l) (h1 : LS (takeO p ops.toList) os1 := by (try dsimp only [List.toList_toArray, List.append_eq, List.cons_append, List.nil_append, takeO]); exact lsi) (h2 : LS (dropO p ops.toList) os2 := by (try dsimp only [List.toList_toArray, List.append_eq, List.cons_append, List.nil_append, dropO]); exact lsi) (hk : dpOk ops (befL ops.toList) (dstL ops.toList) p l.length = true := by kernel_rfl) (hp : Nat.blt p ops.size = true := by kernel_rfl) (hmx : P.follows .mixedOrders = true := by exact s_mx) :
  (Code.region id ops true).wpIn (Wf r) 0 P Q (fr l ds) w0 := by
 obtain ⟨h1⟩ := h1
 obtain ⟨h2⟩ := h2
 rw [← takeO_eq] at h1
 rw [← dropO_eq] at h2
 subst h1 h2
 generalize befL ops.toList = B at hk
 generalize dstL ops.toList = DL at hk
 simp only [dpOk, Bool.and_eq_true] at hk
 obtain ⟨⟨⟨hB, hA⟩, hlt⟩, hDl⟩ := hk
 have hps : p < ops.size := by simpa [Nat.blt_eq] using hp
 have hDl' : ∀ e ∈ DL, e.2 < l.length := fun e he => by simpa using List.all_eq_true.1 hDl e he
 have hin := bOk_parts hB
 obtain ⟨X, hX, hK, h3⟩ := pwL_out h
 have hX' : X.length = p := by rw [hX, List.length_take, Array.length_toList]; omega
 refine drawnT (O := No) (n := ops.size) p B DL (DL.filter fun e => decide (e.1 < p)) (List.range p) [] (fun i => RF.is No (nth X i)) (fun _ _ => True) (fun v => fillL l DL v) (fun v => fillL l (DL.filter fun e => decide (e.1 < p)) v) hmx hB rfl hps rfl rfl hlt ?_ hDl (fun _ => rfl) (fun _ => rfl) (fun _ _ _ _ _ => trivial) trivial (fun i hi => ?_) (fun t ht => by simp at ht) (fun v lo hi w' hO hd _ _ => ?_)
 ·rw [List.all_eq_true]
  intro i hi
  rw [List.contains_iff_mem.2 hi]
  rfl
 ·intro v lo hi' w k hO hd _ _ _ _ _ _
  exact pwL_step hB hA hDl' (by omega) hX' (List.mem_range.1 hi) h3 hO (fun j hj => hd j hj)
 ·have : fillL l (DL.filter fun e => decide (e.1 < p)) v = fillR l (ops.toList.take p) X := by
   have hnd : ((DL.filter fun e => decide (e.1 < p)).map (·.2)).Nodup := hin.2.2.2.1.sublist (List.filter_sublist.map _)
   refine nth_ext (by rw [fillL_length, fillR_length]) fun t => ?_
   have h4 := nth_fillR (l := l) hB hDl' (Nat.le_of_lt hps) hX' p (Nat.le_refl _) t
   rw [List.take_take, Nat.min_self] at h4
   rw [h4, nth_fillL _ l v t (fun e he => hDl' e (List.mem_filter.1 he).1) hnd]
   unfold sel
   cases hf : DL.find? (fun e => e.2 == t) with
   | none =>
    have : (DL.filter fun e => decide (e.1 < p)).find? (fun e => e.2 == t) = none := by
     rw [List.find?_eq_none] at hf ⊢
     exact fun e he => hf e (List.mem_filter.1 he).1
    rw [this]
   | some e =>
    have he := List.mem_of_find?_eq_some hf
    have het : e.2 = t := by simpa using List.find?_some hf
    by_cases hep : e.1 < p
    ·have hm : (e.1, t) ∈ DL.filter fun e => decide (e.1 < p) := by rw [← het]; exact List.mem_filter.2 ⟨he, by simpa using hep⟩
     rw [find_at hnd hm]
     simp only [if_true, hep, decide_true]
     exact hd e.1 hep
    ·have : (DL.filter fun e => decide (e.1 < p)).find? (fun e => e.2 == t) = none := by
      rw [List.find?_eq_none]
      intro e' he' h'
      obtain ⟨h1', h2'⟩ := List.mem_filter.1 he'
      have h3' : e'.2 = t := by simpa using h'
      have := find_at hin.2.2.2.1 (show (e'.1, t) ∈ DL by rw [← h3']; exact h1')
      rw [hf] at this
      have := Option.some.inj this
      rw [this] at hep
      simp at h2' hep
      omega
     rw [this]
     simp [hep]
  show wpL r P ops Q _ (fillL l (DL.filter fun e => decide (e.1 < p)) v) ds w'
  rw [this]
  exact hK w' hO
theorem pI {v : Value} (h : ∀ w, Only No w0 w → DV P o (ev l) w v) (hk : pwL P ops w0 K os (lput l o.dst v)) (hg : o.guard = none := by rfl) : pwL P ops w0 K (o :: os) l := ⟨v, fun w hw => gi hg (h w hw), hk⟩
theorem pC {v : Value} (h : ∀ w, Only No w0 w → Does P o (ev l) w (RIs v w)) (hk : pwL P ops w0 K os (lput l o.dst v)) (hg : o.guard = none := by rfl) : pwL P ops w0 K (o :: os) l := ⟨v, fun w hw => gc hg (h w hw), hk⟩
theorem pG {v : Value} {g : Nat} {u : Bool} {og : Oper} {t : Tmp} (h : ∀ w, Only No w0 w → DV P o (ev l) w v) (hk : pwL P ops w0 K os (lput l o.dst v)) (hg : o.guard = some (g, u) := by rfl) (ho : ops[g]? = some og := by rfl) (hd : og.dst = some t := by rfl) (hl : t < l.length := by exact Nat.le_of_ble_eq_true rfl) (hv : nth l t = .bool u := by rfl) : pwL P ops w0 K (o :: os) l :=
 ⟨v, fun w hw => gi_on hg ho hd hl hv (h w hw), hk⟩
theorem pH {v : Value} {g : Nat} {u : Bool} {og : Oper} {t : Tmp} (h : ∀ w, Only No w0 w → Does P o (ev l) w (RIs v w)) (hk : pwL P ops w0 K os (lput l o.dst v)) (hg : o.guard = some (g, u) := by rfl) (ho : ops[g]? = some og := by rfl) (hd : og.dst = some t := by rfl) (hl : t < l.length := by exact Nat.le_of_ble_eq_true rfl) (hv : nth l t = .bool u := by rfl) : pwL P ops w0 K (o :: os) l :=
 ⟨v, fun w hw => gc_on hg ho hd hl hv (h w hw), hk⟩
theorem pX {g : Nat} {u : Bool} {og : Oper} {t : Tmp} (hk : pwL P ops w0 K os (lput l o.dst undef)) (hg : o.guard = some (g, u) := by rfl) (ho : ops[g]? = some og := by rfl) (hd : og.dst = some t := by rfl) (hl : t < l.length := by exact Nat.le_of_ble_eq_true rfl) (hv : nth l t = .bool (!u) := by rfl) : pwL P ops w0 K (o :: os) l :=
 ⟨undef, fun w hw => gf hg ho hd hl hv, hk⟩
theorem pz_ (h : K l) : pwL P ops w0 K [] l := h
end
end Go.Proofs.YtpamdlnobekihaaF
