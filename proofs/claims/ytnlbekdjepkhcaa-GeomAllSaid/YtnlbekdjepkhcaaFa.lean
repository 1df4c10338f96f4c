/-
  The frame of all walks: worlds that abide, facts that abide, what an operation does, regions in the text's order and in any order.
-/
import Derived.Test.YtnlbekdjepkhcaaSeq
import Derived.TacticsIn
import Derived.OrdersIn
import Derived.Orders
import Derived.OwnWalkIn
set_option linter.unusedVariables false
namespace Go.Proofs.YtnlbekdjepkhcaaF
open Go Go.Proofs.YtnlbekdjepkhcaaS

/-! ### Worlds -/
def No : Nat → Prop := fun _ => False
def Or1 (b : Nat) (X : Nat → Prop) : Nat → Prop := fun k => k = b ∨ X k
def Old (n : Nat) : Nat → Prop := fun k => k < n
def Is1 (b : Nat) : Nat → Prop := fun k => k = b

theorem No.any {A B : World} {T : Nat → Prop} (h : Only No A B) : Only T A B := h.mono fun _ _ x => x.elim

/-- p holds here, and wherever all stands as it stands here but for what lies in X (and what is newer). -/
def Ps (X : Nat → Prop) (p : World → Prop) (w : World) : Prop :=
  ∀ w', (∀ k, k < w.heap.size → ¬ X k → w'.heap[k]? = w.heap[k]?) → p w'

section
variable {X Y T : Nat → Prop} {p q : World → Prop} {w w' : World} {b n : Nat}
theorem Ps.now (h : Ps X p w) : p w := h w fun _ _ _ => rfl
theorem Ps.imp (h : Ps X p w) (hi : ∀ w, p w → q w) : Ps X q w := fun w' hw => hi _ (h w' hw)
theorem Ps.step (h : Ps X p w) (hO : Only T w w') (hT : ∀ k, T k → X k) : Ps X p w' := fun w'' h2 =>
  h w'' fun k hk hx => (h2 k (Nat.lt_of_lt_of_le hk hO.size) hx).trans (hO.same k hk fun t => hx (hT k t))
theorem Ps.step0 (h : Ps X p w) (hO : Only No w w') : Ps X p w' := h.step hO fun _ x => x.elim
theorem Ps.less (h : Ps X p w) (hY : ∀ k, k < w.heap.size → Y k → X k) : Ps Y p w := fun w' h2 => h w' fun k hk hx => h2 k hk fun y => hx (hY k hk y)
theorem Ps.no (h : Ps X p w) : Ps No p w := h.less fun _ _ x => x.elim
theorem Ps.new (h : Ps X p w) (hO : Only No w w') (hb : w.heap.size ≤ b) : Ps (Or1 b X) p w' := fun w'' h2 =>
  h w'' fun k hk hx => (h2 k (Nat.lt_of_lt_of_le hk hO.size) (fun t => t.elim (fun e => by omega) hx)).trans (hO.same k hk fun t => t.elim)
theorem Ps.and (h : Ps X p w) (h' : Ps X q w) : Ps X (fun w => p w ∧ q w) w := fun w' hw => ⟨h w' hw, h' w' hw⟩
theorem Ps.mk0 (h : ∀ w, p w) : Ps X p w := fun w' _ => h w'
end

/-! ### What an operation does -/
abbrev Wf (r : Option Nat) : Fence := { fn := fun _ => True, depth := none, alive := false, round := r }
abbrev CW (P : Program) (f : FuncId) (args : Array Value) (w : World) (R : Ending → World → Prop) : Prop := CallsIn Fence.wide 0 P f args w R
/-- A call that returns. -/
def Rt (R : Value → World → Prop) : Ending → World → Prop := fun e w' => ∃ u, e = .returned u ∧ R u w'

def Does (P : Program) (o : Oper) (ρ : Operand → Value) (w : World) (R : Value → World → Prop) : Prop :=
  (∀ c, o.op ≠ .defer c) ∧ match (execOp ρ o).run P w with
  | .ok (.value u) w' => R u w'
  | .ok .skip w' => R undef w'
  | .ok (.enter f args) w' => CW P f args w' (Rt R)
  | .ok (.round l f tmps assign body) w' => RoundIn Fence.wide 0 P l f tmps assign body w' (Rt R)
  | _ => False

section
variable {r : Option Nat} {P : Program} {o : Oper} {a : Act} {w : World} {R : Value → World → Prop} {K : Act → World → Prop} {Q : Exit → Act → World → Prop}
theorem Does.wp (h : Does P o a.eval w R) (hk : ∀ u w', R u w' → K (a.put o.dst u) w') : o.wpIn (Wf r) 0 P a w K Q := by
  obtain ⟨hd, h⟩ := h
  refine ⟨fun _ _ => trivial, ?_⟩
  rw [Oper.semAt_plain _ _ _ hd]
  generalize (execOp a.eval o).run P w = x at h
  cases x with
  | ok n w' =>
    cases n <;> simp only [Oper.uponIn] at h ⊢ <;> first
      | exact hk _ _ h
      | exact h.elim
      | exact ⟨fun h => by simp at h, CallsIn.mono (F := Fence.wide) h (fun e w'' ⟨u, he, hu⟩ => by subst he; exact hk _ _ hu)⟩
      | exact ⟨fun h => by simp at h, RoundIn.mono (F := Fence.wide) h (fun e w'' ⟨u, he, hu⟩ => by subst he; exact hk _ _ hu)⟩
  | halt x w' => exact h.elim
theorem Does.mono {ρ : Operand → Value} {R' : Value → World → Prop} (h : Does P o ρ w R) (hr : ∀ u w', R u w' → R' u w') : Does P o ρ w R' := by
  obtain ⟨hd, h⟩ := h
  refine ⟨hd, ?_⟩
  generalize (execOp ρ o).run P w = x at h
  cases x with
  | ok n w' =>
    cases n <;> first
      | exact hr _ _ h
      | exact h.elim
      | exact CallsIn.mono (F := Fence.wide) h (fun e w'' ⟨u, he, hu⟩ => ⟨u, he, hr _ _ hu⟩)
      | exact RoundIn.mono (F := Fence.wide) h (fun e w'' ⟨u, he, hu⟩ => ⟨u, he, hr _ _ hu⟩)
  | halt x w' => exact h.elim
end

/-! ### Frames -/
def nth : List Value → Nat → Value
  | [], _ => undef
  | v :: _, 0 => v
  | _ :: l, n + 1 => nth l n
def lset : List Value → Nat → Value → List Value
  | [], _, _ => []
  | _ :: l, 0, v => v :: l
  | x :: l, n + 1, v => x :: lset l n v
def lput (l : List Value) : Option Tmp → Value → List Value
  | none, _ => l
  | some d, v => lset l d v
def fr (l : List Value) (ds : List Deferred) : Act := { tmps := l.toArray, defers := ds }
def ev (l : List Value) : Operand → Value
  | .tmp t => nth l t
  | .const v => v
  | .global g => .pointer (some ⟨g, 0, none⟩)
  | .func f => .func (.func f) #[] #[]
theorem nth_eq : ∀ (l : List Value) (t : Nat), nth l t = l.getD t undef
  | [], _ => rfl
  | _ :: _, 0 => rfl
  | _ :: l, n + 1 => by simp [nth, nth_eq l n]
theorem lset_eq : ∀ (l : List Value) (t : Nat) (v : Value), lset l t v = l.set t v
  | [], _, _ => rfl
  | _ :: _, 0, _ => rfl
  | _ :: l, n + 1, v => by simp [lset, lset_eq l n v]
theorem fr_eval (l : List Value) (ds : List Deferred) : (fr l ds).eval = ev l := by
  funext x
  cases x with
  | tmp t => simp [Act.eval, ev, fr, nth_eq]
  | _ => rfl
theorem fr_put (l : List Value) (ds : List Deferred) (d : Option Tmp) (v : Value) : (fr l ds).put d v = fr (lput l d v) ds := by
  cases d with
  | none => rfl
  | some d => simp [Act.put, fr, lput, lset_eq]
theorem fr_tmps (l : List Value) (ds : List Deferred) : (fr l ds).tmps = l.toArray := rfl

/-! ### A region in the text's order -/
section
variable {r : Option Nat} {P : Program} {ops : Array Oper} {Q : Exit → Act → World → Prop} {l : List Value} {ds : List Deferred} {w : World} {o : Oper} {rest : List Oper}
def wpL (r : Option Nat) (P : Program) (ops : Array Oper) (Q : Exit → Act → World → Prop) (os : List Oper) (l : List Value) (ds : List Deferred) (w : World) : Prop :=
  wpListIn (Wf r) 0 P ops Q os (fr l ds) w
theorem plain {id : Nat} {os : List Oper} (h : wpL r P os.toArray Q os l ds w) : (Code.region id os.toArray false).wpIn (Wf r) 0 P Q (fr l ds) w := wpIn_region_lit h
theorem wpL.done (h : Q .normal (fr l ds) w) : wpL r P ops Q [] l ds w := h
theorem wpL.op {R : Value → World → Prop} (hg : o.guard = none) (h : Does P o (ev l) w R) (hk : ∀ u w', R u w' → wpL r P ops Q rest (lput l o.dst u) ds w') : wpL r P ops Q (o :: rest) l ds w := by
  have hw : Region.wanted o (yielded ops (fr l ds).tmps) = true := by simp [Region.wanted, hg]
  unfold wpL
  simp only [wpListIn, hw, if_true]
  refine Does.wp (R := R) (by rw [fr_eval]; exact h) (fun u w' hu => ?_)
  rw [fr_put]
  exact hk u w' hu
theorem wpL.on {R : Value → World → Prop} {g : Nat} {u : Bool} {og : Oper} {t : Tmp} (hg : o.guard = some (g, u)) (ho : ops[g]? = some og) (hd : og.dst = some t) (hl : t < l.length) (hv : nth l t = .bool u)
    (h : Does P o (ev l) w R) (hk : ∀ u w', R u w' → wpL r P ops Q rest (lput l o.dst u) ds w') : wpL r P ops Q (o :: rest) l ds w := by
  have hv' : l[t]? = some (.bool u) := by rw [nth_eq, List.getD_eq_getElem?_getD, List.getElem?_eq_getElem hl, Option.getD_some] at hv; rw [List.getElem?_eq_getElem hl, hv]
  have hw : Region.wanted o (yielded ops (fr l ds).tmps) = true := by simp [Region.wanted, hg, yielded, ho, hd, fr, hv']
  unfold wpL
  simp only [wpListIn, hw, if_true]
  refine Does.wp (R := R) (by rw [fr_eval]; exact h) (fun u w' hu => ?_)
  rw [fr_put]
  exact hk u w' hu
theorem wpL.off {g : Nat} {u : Bool} {og : Oper} {t : Tmp} (hg : o.guard = some (g, u)) (ho : ops[g]? = some og) (hd : og.dst = some t) (hl : t < l.length) (hv : nth l t = .bool (!u))
    (hk : wpL r P ops Q rest (lput l o.dst undef) ds w) : wpL r P ops Q (o :: rest) l ds w := by
  have hv' : l[t]? = some (.bool (!u)) := by rw [nth_eq, List.getD_eq_getElem?_getD, List.getElem?_eq_getElem hl, Option.getD_some] at hv; rw [List.getElem?_eq_getElem hl, hv]
  have hw : Region.wanted o (yielded ops (fr l ds).tmps) = false := by cases u <;> simp [Region.wanted, hg, yielded, ho, hd, fr, hv']
  unfold wpL
  simp only [wpListIn, hw]
  rw [fr_put]
  exact ⟨fun _ _ => trivial, hk⟩
end
end Go.Proofs.YtnlbekdjepkhcaaF
