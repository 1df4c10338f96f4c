/-
  Operations on memory: what is made, read, written; rows that are only read (Seq), rows that are owned (Arr).
-/
import Derived.Test.YtnlbekdjepkhcaaFc
import Derived.KernelRfl
import Derived.Laws.MakeOwn
import Derived.Laws.IdiomCopy
import Derived.Deep.AppendSrc
import Derived.IntWalk
import Derived.Laws.Slices
set_option linter.unusedVariables false
set_option linter.unusedSimpArgs false
namespace Go.Proofs.YtnlbekdjepkhcaaF
open Go Go.Shelf Go.Proofs.YtnlbekdjepkhcaaS

/-! ### What stands in memory -/
/-- How an element of a row stands: so many cells from an address on. -/
structure Kd (α : Type) where
  sz : Nat
  at_ : World → Addr → α → Prop
def kS {α : Type} (enc : α → Value) : Kd α := ⟨1, fun w p x => w.cell? p = some (enc x)⟩
def eB (x : UInt8) : Value := .int .u8 (x.toNat : Int)
def eI (x : Int) : Value := .int .i64 x
def eN (x : Nat) : Value := .int .i64 (x : Int)
def kB : Kd UInt8 := kS eB
def kI : Kd Int := kS eI
def kN : Kd Nat := kS eN
def kV : Kd Value := kS id
/-- Elements of so many cells. -/
def kA {α : Type} (n : Nat) (enc : α → List Value) : Kd α := ⟨n, fun w p x => (enc x).length = n ∧ ∀ j v, (enc x)[j]? = some v → w.cell? (p.add j) = some v⟩
def Seq {α : Type} (d : Kd α) (xs : List α) (u : Value) (w : World) : Prop :=
  ∃ A c, u = .slice A xs.length c ∧ xs.length ≤ c ∧ ∀ (i : Nat) (x : α), xs[i]? = some x → ∃ ad, A = some ad ∧ d.at_ w (ad.add (i * d.sz)) x
/-- A pointer at which x stands. -/
def At {α : Type} (d : Kd α) (x : α) (u : Value) (w : World) : Prop := ∃ p, u = .pointer (some p) ∧ d.at_ w p x
/-- A block, whole. -/
def Arr (e : TypeId) (b : Nat) (cs : List Value) (w : World) : Prop := w.heap[b]? = some (.cells cs.toArray e (0, 0))

section
variable {w w' : World} {e : TypeId} {b n i : Nat} {cs : List Value} {T : Nat → Prop} {v : Value}
theorem add0 (b o n : Nat) : (⟨b, o, none⟩ : Addr).add n = ⟨b, o + n, none⟩ := by unfold Addr.add; split <;> simp_all
theorem Arr.lt (h : Arr e b cs w) : b < w.heap.size := (Array.getElem?_eq_some_iff.1 h).1
theorem Arr.step (h : Arr e b cs w) (hO : Only T w w') (hT : ¬ T b) : Arr e b cs w' := (hO.same b h.lt hT).trans h
theorem Arr.step0 (h : Arr e b cs w) (hO : Only No w w') : Arr e b cs w' := h.step hO id
theorem Arr.cell (h : Arr e b cs w) (hi : cs[i]? = some v) : w.cell? ⟨b, i, none⟩ = some v := by
  unfold World.cell?
  rw [h]
  simpa using hi
theorem Arr.frozen (h : Arr e b cs w) : w.frozen? ⟨b, i, none⟩ = false := by
  unfold World.frozen?
  rw [h]
  simp
theorem Arr.new (w : World) (e : TypeId) (cs : List Value) : Arr e w.heap.size cs (w.alloc (.cells cs.toArray e)) := World.alloc_heap_new w _
theorem Arr.ps (h : Arr e b cs w) {p : World → Prop} (hp : ∀ w', Arr e b cs w' → p w') : Ps (fun k => k ≠ b) p w := fun w' hw => hp w' ((hw b h.lt (by simp)).trans h)
theorem only_alloc (w : World) (o : Obj) : Only No w (w.alloc o) := (Only.refl _ w).alloc o
theorem only_set {p : Addr} (w : World) (v : Value) : Only (Is1 p.block) w (w.setCell p v) := (Only.refl _ w).setCell (T := Is1 p.block) rfl v
theorem Arr.set (h : Arr e b cs w) (hi : i < cs.length) (v : Value) : Arr e b (cs.set i v) (w.setCell ⟨b, i, none⟩ v) := by
  unfold Arr at h ⊢
  unfold World.setCell
  simp only [Array.getElem?_modify, if_true, h, Option.map_some, Option.isSome_none, Bool.false_eq_true, if_false, List.setIfInBounds_toArray]
theorem Arr.ne {b' : Nat} (h : Arr e b cs w) (hb : w.heap.size ≤ b') : b ≠ b' := by have := h.lt; omega
end

/-! ### Types -/
abbrev TI (P : Program) (t : TypeId) (sz bytes : Nat) (z : Value) : Prop := (P.info? t).map (fun i => (i.size, i.bytes, i.zero)) = some (sz, bytes, some z)
/-- Neither a struct nor an array. -/
abbrev Sc (P : Program) (t : TypeId) : Prop := ∃ d, P.underlying t = some d ∧ (match d with | .struct _ | .array _ _ => true | _ => false) = false
abbrev Ag (P : Program) (t : TypeId) : Prop := ∃ d, P.underlying t = some d ∧ (match d with | .struct _ | .array _ _ => true | _ => false) = true

section
variable {P : Program} {d : Option Tmp} {tt : TypeId} {s : String} {af : Array Edge} {g : Option (Nat × Bool)} {ρ : Operand → Value} {w : World}
theorem TI.size {t : TypeId} {sz bytes : Nat} {z : Value} (h : TI P t sz bytes z) (w : World) : (sizeOf t).run P w = .ok sz w := by
  unfold TI at h
  cases hi : P.info? t with
  | none => rw [hi] at h; cases h
  | some i =>
    rw [hi] at h
    simp only [Option.map_some, Option.some.injEq, Prod.mk.injEq] at h
    unfold sizeOf
    rw [Sem.run_bind, run_typeInfo w hi]
    simp [Result.andThen, Sem.run_pure, h.1]
theorem TI.zero {t : TypeId} {sz bytes : Nat} {z : Value} (h : TI P t sz bytes z) (w : World) : (zeroValue t).run P w = .ok z w := by
  unfold TI at h
  cases hi : P.info? t with
  | none => rw [hi] at h; cases h
  | some i =>
    rw [hi] at h
    simp only [Option.map_some, Option.some.injEq, Prod.mk.injEq] at h
    unfold zeroValue
    rw [Sem.run_bind, run_typeInfo w hi]
    simp [Result.andThen, Sem.run_pure, h.2.2]
theorem TI.info {t : TypeId} {sz bytes : Nat} {z : Value} (h : TI P t sz bytes z) : ∃ i, P.info? t = some i ∧ i.bytes = bytes ∧ i.size = sz ∧ i.zero = some z := by
  unfold TI at h
  cases hi : P.info? t with
  | none => rw [hi] at h; cases h
  | some i =>
    rw [hi] at h
    simp only [Option.map_some, Option.some.injEq, Prod.mk.injEq] at h
    exact ⟨i, rfl, h.2.1, h.1, h.2.2⟩
theorem run_isAgg_agg {t : TypeId} (h : Ag P t) (w : World) : (isAgg t).run P w = .ok true w := by
  obtain ⟨d, h, hd⟩ := h
  cases d <;> simp_all [isAgg, run_underlying h]
theorem run_isAgg_sc {t : TypeId} (h : Sc P t) (w : World) : (isAgg t).run P w = .ok false w := by
  obtain ⟨d, h, hd⟩ := h
  cases d <;> simp_all [isAgg, run_underlying h]

/-! ### Making -/
/-- New: a block b of these cells, pointed at by u. -/
def Made (e : TypeId) (w : World) (mk : Nat → Value) (cs : List Value) : Value → World → Prop := fun u w' => ∃ b, u = mk b ∧ w.heap.size ≤ b ∧ Arr e b cs w' ∧ Only No w w'
def ptr (b o : Nat) : Value := .pointer (some ⟨b, o, none⟩)
def sli (b o len cap : Nat) : Value := .slice (some ⟨b, o, none⟩) len cap
theorem Made.mk_ {e : TypeId} {mk : Nat → Value} {cs : List Value} : Made e w mk cs (mk w.heap.size) (w.alloc (.cells cs.toArray e)) := ⟨_, rfl, Nat.le_refl _, Arr.new _ _ _, only_alloc _ _⟩

theorem d_box {x : Operand} {e : TypeId} {v : Value} {cs : List Value} (hx : ρ x = v) (hc : v.cells.toList = cs) : Does P ⟨d, .box e x, tt, s, af, g⟩ ρ w (Made e w (fun b => ptr b 0) cs) := by
  subst hc
  refine Does.of_value (v := ptr w.heap.size 0) (w' := w.alloc (.cells v.cells e)) (by simp) ?_ ?_
  · simp [execOp, hx, Instr.box, newVar, newRow, newObj, go_sem]; rfl
  · have := Made.mk_ (w := w) (e := e) (mk := fun b => ptr b 0) (cs := v.cells.toList)
    simpa using this
theorem d_alloc {e : TypeId} {sz bytes : Nat} {z : Value} {cs : List Value} (hz : TI P e sz bytes z) (hc : z.cells.toList = cs) : Does P ⟨d, .alloc e, tt, s, af, g⟩ ρ w (Made e w (fun b => ptr b 0) cs) := by
  subst hc
  refine Does.of_value (v := ptr w.heap.size 0) (w' := w.alloc (.cells z.cells e)) (by simp) ?_ ?_
  · simp [execOp, Instr.alloc, newVar, newRow, newObj, go_sem, hz.zero]; rfl
  · have := Made.mk_ (w := w) (e := e) (mk := fun b => ptr b 0) (cs := z.cells.toList)
    simpa using this

theorem made_one {z : Value} (n : Nat) : (madeCells #[z] n).toList = List.replicate n z := by
  have h0 : ∀ i, (#[z] : Array Value)[i % (#[z] : Array Value).size]! = z := fun i => by
    have : i % (#[z] : Array Value).size = 0 := Nat.mod_one i
    rw [this]; rfl
  unfold madeCells
  apply List.ext_getElem?
  intro i
  simp only [Array.toList_map, Array.toList_range, List.getElem?_map, List.getElem?_replicate, h0]
  by_cases h : i < n
  · simp [h]
  · simp [h]
theorem d_make {t e : TypeId} {x y : Operand} {n : Nat} {kl kc : IntKind} {sz bytes : Nat} {z : Value} {cs : List Value} (ht : P.underlying t = some (.slice e)) (hz : TI P e sz bytes z) (hx : ρ x = .int kl (n : Int)) (hy : ρ y = .int kc (n : Int))
    (hn : n < 2 ^ 62) (hb : bytes * n ≤ 281474976710656) (hc : (madeCells z.cells (n * sz)).toList = cs) : Does P ⟨d, .makeSlice t x y, tt, s, af, g⟩ ρ w (Made e w (fun b => sli b 0 n n) cs) := by
  subst hc
  refine Does.of_value (v := sli w.heap.size 0 n n) (w' := w.alloc (.cells (madeCells z.cells (n * sz)) e)) (by simp) ?_ ?_
  · obtain ⟨i, hi, hby, hsz, hze⟩ := hz.info
    have hb' : (i.bytes : Int) * (n : Int) ≤ 281474976710656 := by
      rw [hby]
      have h3 : ((bytes * n : Nat) : Int) ≤ ((281474976710656 : Nat) : Int) := Int.ofNat_le.2 hb
      rw [Int.natCast_mul] at h3
      exact h3
    have := run_make (P := P) w t e i z ht hi hze kl kc n n (by omega) (Int.le_refl _) hb' (by omega)
    simp only [Int.toNat_natCast, hsz] at this
    simp only [execOp, hx, hy, Sem.run_bind, this, Result.andThen, Sem.run_pure]
    rfl
  · have := Made.mk_ (w := w) (e := e) (mk := fun b => sli b 0 n n) (cs := (madeCells z.cells (n * sz)).toList)
    simpa using this
theorem d_make1 {t e : TypeId} {x y : Operand} {n : Nat} {kl kc : IntKind} {bytes : Nat} {z : Value} (ht : P.underlying t = some (.slice e)) (hz : TI P e 1 bytes z) (hx : ρ x = .int kl (n : Int)) (hy : ρ y = .int kc (n : Int))
    (hn : n < 2 ^ 62) (hb : bytes * n ≤ 281474976710656) (hc : z.cells = #[z]) : Does P ⟨d, .makeSlice t x y, tt, s, af, g⟩ ρ w (Made e w (fun b => sli b 0 n n) (List.replicate n z)) :=
  d_make ht hz hx hy hn hb (by rw [hc, Nat.mul_one]; exact made_one n)
theorem d_buildSlice {t e : TypeId} {n sz bytes : Nat} {z : Value} {ps : Array (Nat × Operand)} {cs : List Value} (ht : P.underlying t = some (.slice e)) (hz : TI P e sz bytes z) (hn : n * sz ≤ 16777216)
    (hf : Instr.fill (fun i => some (i * sz, sz)) (madeCells z.cells (n * sz)) (ps.map fun (i, x) => (i, ρ x)).toList = some cs.toArray) : Does P ⟨d, .buildSlice t n ps, tt, s, af, g⟩ ρ w (Made e w (fun b => sli b 0 n n) cs) := by
  refine Does.of_value (v := sli w.heap.size 0 n n) (w' := w.alloc (.cells cs.toArray e)) (by simp) ?_ Made.mk_
  have hn' : ¬ 16777216 < n * sz := by omega
  simp only [execOp, Instr.buildSlice, Sem.run_bind, run_underlying ht, hz.size, Result.andThen]
  rw [if_neg hn']
  by_cases h0 : n * sz = 0
  · have hl : (Array.range (n * sz)).map (fun i => (#[] : Array Value)[i % (#[] : Array Value).size]!) = madeCells z.cells (n * sz) := by
      rw [h0]; simp [madeCells]
    rw [if_pos h0]
    simp only [Sem.run_bind, Sem.run_pure, Result.andThen, hl]
    rw [hf]
    simp [newRow, newObj, go_sem]
    rfl
  · have hl : (Array.range (n * sz)).map (fun i => z.cells[i % z.cells.size]!) = madeCells z.cells (n * sz) := rfl
    rw [if_neg h0]
    simp only [Sem.run_bind, Sem.run_pure, Result.andThen, hz.zero, hl]
    rw [hf]
    simp [newRow, newObj, go_sem]
    rfl

/-! ### Reading and writing what is owned -/
theorem d_load {t e : TypeId} {x : Operand} {b i : Nat} {cs : List Value} {v : Value} (ht : Sc P t) (hx : ρ x = ptr b i) (hA : Arr e b cs w) (hv : cs[i]? = some v) : DV P ⟨d, .load t x, tt, s, af, g⟩ ρ w v := by
  refine Does.of_value (v := v) (w' := w) (by simp) ?_ ⟨rfl, rfl⟩
  have hc := hA.cell hv
  have hx' : ρ x = .pointer (some ⟨b, i, none⟩) := hx
  simp [execOp, Instr.loadAt, Instr.sureAddr, hx', loadVar, run_isAgg_sc ht, go_sem, hc]
theorem d_loadAg {t e : TypeId} {x : Operand} {b i n bytes : Nat} {z : Value} {cs vs : List Value} (ht : Ag P t) (hz : TI P t n bytes z) (hx : ρ x = ptr b i) (hA : Arr e b cs w) (hv : (cs.drop i).take n = vs) (hn : vs.length = n) : DV P ⟨d, .load t x, tt, s, af, g⟩ ρ w (.agg vs.toArray) := by
  refine Does.of_value (v := .agg vs.toArray) (w' := w) (by simp) ?_ ⟨rfl, rfl⟩
  have hl : (loadCells ⟨b, i, none⟩ vs.length).run P w = .ok vs.toArray w := run_loadCells_list (P := P) w _ vs (fun j v hj => by
    rw [add0]
    refine hA.cell ?_
    rw [← hv] at hj
    rw [List.getElem?_take] at hj
    split at hj
    · rw [List.getElem?_drop] at hj; exact hj
    · cases hj)
  have hx' : ρ x = .pointer (some ⟨b, i, none⟩) := hx
  rw [hn] at hl
  have hl' : (loadCellsFrom ⟨b, i, none⟩ 0 n #[]).run P w = .ok vs.toArray w := hl
  simp [execOp, Instr.loadAt, Instr.sureAddr, hx', loadVar, run_isAgg_agg ht, hz.size, go_sem, hl']
/-- Written: block b holds these cells. -/
def Wrote (e : TypeId) (b : Nat) (cs : List Value) (w : World) : Value → World → Prop := fun _ w' => Arr e b cs w' ∧ Only (Is1 b) w w'
theorem d_store {t e : TypeId} {x y : Operand} {b i bytes : Nat} {z : Value} {cs cs' : List Value} {v : Value} (hz : TI P t 1 bytes z) (hx : ρ x = ptr b i) (hy : ρ y = v) (hv : v.oneCell' = true) (hA : Arr e b cs w) (hi : i < cs.length) (hc : cs.set i v = cs') :
    Does P ⟨d, .store t x y, tt, s, af, g⟩ ρ w (Wrote e b cs' w) := by
  subst hc
  have hcell : (w.cell? ⟨b, i, none⟩).isSome = true := by rw [hA.cell (List.getElem?_eq_getElem hi)]; rfl
  refine Does.of_skip (w' := w.setCell ⟨b, i, none⟩ v) (by simp) ?_ ⟨hA.set hi v, only_set (p := ⟨b, i, none⟩) w v⟩
  have hx' : ρ x = .pointer (some ⟨b, i, none⟩) := hx
  have hf := hA.frozen (i := i)
  have hcs : v.cells = #[v] := by cases v <;> first | rfl | (simp [Value.oneCell'] at hv)
  obtain ⟨c, hc⟩ := Option.isSome_iff_exists.1 hcell
  have h0 : (⟨b, i, none⟩ : Addr).add 0 = ⟨b, i, none⟩ := rfl
  have hst : (store ⟨b, i, none⟩ v).run P w = .ok () (w.setCell ⟨b, i, none⟩ v) := by
    rw [run_store P w _ v _ hv, hc]
    simp [hf]
  have hsv : (storeVar t ⟨b, i, none⟩ v).run P w = .ok () (w.setCell ⟨b, i, none⟩ v) := by
    unfold storeVar
    rw [hcs]
    simp [hz.size, go_sem, storeCells, h0, hst]
  simp only [execOp, Instr.storeAt, Sem.run_bind, Instr.sureAddr, hx', hy, Sem.run_pure, Result.andThen, hsv]

/-! ### Addresses -/
theorem d_index {t e : TypeId} {x y : Operand} {b o n c sz bytes : Nat} {z : Value} {k : IntKind} {i : Int} {j : Nat} (ht : P.underlying t = some (.slice e)) (hz : TI P e sz bytes z) (hx : ρ x = sli b o n c) (hy : ρ y = .int k i) (h0 : 0 ≤ i) (h1 : i < n) (hj : o + i.toNat * sz = j) :
    DV P ⟨d, .indexAddr t x y, tt, s, af, g⟩ ρ w (ptr b j) := by
  subst hj
  refine Does.of_value (v := ptr b (o + i.toNat * sz)) (w' := w) (by simp) ?_ ⟨rfl, rfl⟩
  have hx' : ρ x = .slice (some ⟨b, o, none⟩) n c := hx
  simp [execOp, Instr.indexAt, hx', hy, asIntOf, run_underlying ht, hz.size, go_sem, h0, h1, add0]
  rfl
theorem d_indexArr {t e : TypeId} {x y : Operand} {b o n sz bytes : Nat} {z : Value} {k : IntKind} {i : Int} {j : Nat} (ht : P.underlying t = some (.array n e)) (hz : TI P e sz bytes z) (hx : ρ x = ptr b o) (hy : ρ y = .int k i) (h0 : 0 ≤ i) (h1 : i < n) (hj : o + i.toNat * sz = j) :
    DV P ⟨d, .indexAddr t x y, tt, s, af, g⟩ ρ w (ptr b j) := by
  subst hj
  refine Does.of_value (v := ptr b (o + i.toNat * sz)) (w' := w) (by simp) ?_ ⟨rfl, rfl⟩
  have hx' : ρ x = .pointer (some ⟨b, o, none⟩) := hx
  simp [execOp, Instr.indexAt, Instr.sureAddr, hx', hy, asIntOf, run_underlying ht, hz.size, go_sem, h0, h1, add0]
  rfl
/-- An element of a row that is read. -/
theorem d_indexS {α : Type} {q : Kd α} {xs : List α} {t e : TypeId} {x y : Operand} {bytes : Nat} {z : Value} {k : IntKind} {i : Int} {X : Nat → Prop} {v : α} {u : Value} (ht : P.underlying t = some (.slice e)) (hz : TI P e q.sz bytes z) (hx : ρ x = u) (hS : Ps X (Seq q xs u) w) (hy : ρ y = .int k i)
    (h0 : 0 ≤ i) (hv : xs[i.toNat]? = some v) : Does P ⟨d, .indexAddr t x y, tt, s, af, g⟩ ρ w fun u' w' => Ps X (At q v u') w ∧ w = w' := by
  obtain ⟨A, c, hu, hc, hel⟩ := hS.now
  obtain ⟨ad, hA, _⟩ := hel i.toNat v hv
  subst hA
  have h1 : i < xs.length := by have := (List.getElem?_eq_some_iff.1 hv).1; omega
  refine Does.of_value (v := .pointer (some (ad.add (i.toNat * q.sz)))) (w' := w) (by simp) ?_ ⟨?_, rfl⟩
  · subst hu
    simp [execOp, Instr.indexAt, hx, hy, asIntOf, run_underlying ht, hz.size, go_sem, h0, h1]
  · refine hS.imp (fun w2 h2 => ?_)
    obtain ⟨A2, c2, hu2, _, hel2⟩ := h2
    obtain ⟨ad2, hA2, hat⟩ := hel2 i.toNat v hv
    rw [hu, hA2] at hu2
    injection hu2 with e1 e2 e3
    injection e1 with e1
    subst e1
    exact ⟨_, rfl, hat⟩
theorem d_loadAt {α : Type} {enc : α → Value} {v : α} {t : TypeId} {x : Operand} {X : Nat → Prop} {u : Value} (ht : Sc P t) (hx : ρ x = u) (hA : Ps X (At (kS enc) v u) w) : DV P ⟨d, .load t x, tt, s, af, g⟩ ρ w (enc v) := by
  obtain ⟨p, hu, hc⟩ := hA.now
  subst hu
  have hc' : w.cell? p = some (enc v) := hc
  refine Does.of_value (v := enc v) (w' := w) (by simp) ?_ ⟨rfl, rfl⟩
  simp [execOp, Instr.loadAt, Instr.sureAddr, hx, loadVar, run_isAgg_sc ht, go_sem, hc']
end
end Go.Proofs.YtnlbekdjepkhcaaF
