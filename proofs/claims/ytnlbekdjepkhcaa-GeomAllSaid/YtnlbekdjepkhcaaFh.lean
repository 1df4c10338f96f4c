/-
  Structs that are built; nil checks; bounds of rows.
-/
import Derived.Test.YtnlbekdjepkhcaaFg
set_option linter.unusedVariables false
set_option linter.unusedSimpArgs false
namespace Go.Proofs.YtnlbekdjepkhcaaF
open Go Go.Shelf Go.Proofs.YtnlbekdjepkhcaaS

def fillP (pl : Nat → Option (Nat × Nat)) : List Value → List (Nat × List Value) → Option (List Value)
  | cs, [] => some cs
  | cs, (i, vs) :: r => match pl i with
    | none => none
    | some (o, n) => if vs.length ≠ n ∨ o + n > cs.length then none else fillP pl (cs.take o ++ vs ++ cs.drop (o + n)) r
theorem foldl_put : ∀ (vs : List Value) (k o : Nat) (cs : Array Value), o + k + vs.length ≤ cs.size →
    ((vs.zipIdx k).foldl (fun (cs : Array Value) (x : Value × Nat) => cs.setIfInBounds (o + x.2) x.1) cs).toList = cs.toList.take (o + k) ++ vs ++ cs.toList.drop (o + k + vs.length)
  | [], k, o, cs, h => by simp
  | v :: r, k, o, cs, h => by
    simp only [List.length_cons] at h
    simp only [List.zipIdx_cons, List.foldl_cons]
    rw [foldl_put r (k + 1) o _ (by rw [Array.size_setIfInBounds]; omega), Array.toList_setIfInBounds]
    have hlt : o + k < cs.toList.length := by simpa using (by omega : o + k < cs.size)
    have e1 : (cs.toList.set (o + k) v).take (o + (k + 1)) = cs.toList.take (o + k) ++ [v] := by
      rw [show o + (k + 1) = o + k + 1 by omega, List.take_succ_eq_append_getElem (by rw [List.length_set]; exact hlt), List.take_set_of_le (by omega)]
      simp
    rw [e1, List.drop_set_of_lt (by omega), List.append_assoc, List.append_assoc, List.append_assoc]
    simp only [List.length_cons]
    rw [show o + (k + 1) + r.length = o + k + (r.length + 1) by omega]
    rfl
theorem fill_of {pl : Nat → Option (Nat × Nat)} : ∀ {ps : List (Nat × Value)} {qs : List (Nat × List Value)} {cs : Array Value} {cs' : List Value}, ps.map (fun x => (x.1, x.2.cells.toList)) = qs → fillP pl cs.toList qs = some cs' →
    Instr.fill pl cs ps = some cs'.toArray
  | [], qs, cs, cs', h, hf => by
    subst h
    simp only [List.map_nil, fillP, Option.some.injEq] at hf
    subst hf
    rfl
  | (i, v) :: r, qs, cs, cs', h, hf => by
    subst h
    simp only [List.map_cons, fillP] at hf
    unfold Instr.fill
    cases hp : pl i with
    | none => rw [hp] at hf; cases hf
    | some on =>
      obtain ⟨o, n⟩ := on
      rw [hp] at hf
      simp only at hf ⊢
      have hz : v.cells.size = v.cells.toList.length := by simp
      by_cases hc : v.cells.toList.length ≠ n ∨ o + n > cs.toList.length
      · rw [if_pos hc] at hf; cases hf
      · rw [if_neg hc] at hf
        have hc1 : v.cells.toList.length = n := Classical.byContradiction fun h => hc (.inl h)
        have hc2 : ¬ o + n > cs.toList.length := fun h => hc (.inr h)
        have hsz : cs.size = cs.toList.length := by simp
        have g1 : (v.cells.size ≠ n || decide (o + v.cells.size > cs.size)) = false := by
          simp only [Bool.or_eq_false_iff, decide_eq_false_iff_not, hz, hc1, hsz]
          exact ⟨by simp, hc2⟩
        simp only [g1]
        have hr : (v.cells.zipIdx.foldl (fun (cs : Array Value) (x : Value × Nat) => cs.setIfInBounds (o + x.2) x.1) cs) = (cs.toList.take o ++ v.cells.toList ++ cs.toList.drop (o + n)).toArray := by
          have := foldl_put v.cells.toList 0 o cs (by omega)
          apply Array.ext'
          rw [← Array.foldl_toList, Array.toList_zipIdx, this, hc1]
          simp
        have := fill_of (pl := pl) (ps := r) (cs := (cs.toList.take o ++ v.cells.toList ++ cs.toList.drop (o + n)).toArray) rfl hf
        rw [← hr] at this
        exact this
/-! a made block, a row from now on -/
theorem Ow.of_map2 {α : Type} {enc : α → Value} {e : TypeId} {b n : Nat} {xs : List α} {w : World} (h : Arr e b (xs.map enc) w) (hn : xs.length = n) : Ow e 1 (some b) (sli b 0 n n) xs.length (xs.map enc) w := by subst hn; exact Ow.of_map h rfl
theorem xx_br {X X' : Nat → Prop} {n b : Nat} (h : ∀ k, k < n → X' k → X k) : ∀ k, k < n → Orq (some b) X' k → Or1 b X k := fun k hk t => t.imp (fun e => (Option.some.inj e).symm) (h k hk)
theorem nq_b {b c : Nat} (h : b ≠ c) : ∀ x, some b = some x → ¬ x = c := fun x hx e => h ((Option.some.inj hx).trans e)
theorem nqq_b1 {bo : Option Nat} {b : Nat} (h : ∀ x, bo = some x → ¬ x = b) : ∀ x, bo = some x → some b = some x → False := fun x h1 h2 => h x h1 (Option.some.inj h2).symm
theorem nqq_b2 {bo : Option Nat} {b : Nat} (h : ∀ x, bo = some x → ¬ x = b) : ∀ x, some b = some x → bo = some x → False := fun x h2 h1 => h x h1 (Option.some.inj h2).symm
theorem xx_skip {X X' : Nat → Prop} {n : Nat} {p : Nat → Prop} (h : ∀ k, k < n → X' k → X k) : ∀ k, k < n → X' k → (p k ∨ X k) := fun k hk t => .inr (h k hk t)
theorem old_ne {n b m : Nat} (h : n ≤ b) : ∀ k, k < m → Old n k → k ≠ b := fun k _ t => by unfold Old at t; omega
theorem old_q {n : Nat} {bo : Option Nat} (h : Fr bo none n) : ∀ b, bo = some b → ¬ Old n b := fun b hb t => (h b hb).elim (fun h => by cases h) (fun h => by unfold Old at t; omega)
/-- Two rows and whether they are. -/
def RDiv (q r : List UInt8) (is : Bool) (W : World) : Value → World → Prop := fun u w => ∃ a b, u = .tuple #[a, b, .bool is] ∧ Ps (Old W.heap.size) (Seq kB q a) w ∧ Ps (Old W.heap.size) (Seq kB r b) w ∧ Only No W w
theorem wpL.flat {r : Option Nat} {P : Program} {ops : Array Oper} {Q : Exit → Act → World → Prop} {l : List Value} {ds : List Deferred} {w : World} {rest : List Oper} (l' : List Value) (h : l = l') (hk : wpL r P ops Q rest l' ds w) : wpL r P ops Q rest l ds w := by rw [h]; exact hk
/-- Where the fields stand, how many cells each has. -/
def Places (P : Program) : List Field → List (Nat × Nat) → Prop
  | [], pl => pl = []
  | f :: fs, pl => ∃ n pl' bytes z, pl = (f.offset, n) :: pl' ∧ TI P f.type n bytes z ∧ Places P fs pl'
theorem run_places {P : Program} (w : World) : ∀ {fs : List Field} {pl : List (Nat × Nat)}, Places P fs pl → (fs.mapM (m := Sem) fun (f : Field) => do pure (f.offset, ← sizeOf f.type)).run P w = .ok pl w
  | [], pl, h => by
    subst h
    rfl
  | f :: fs, pl, h => by
    obtain ⟨n, pl', bytes, z, rfl, hz, hr⟩ := h
    have := run_places w hr
    rw [List.mapM_cons]
    simp only [Sem.run_bind, hz.size, Result.andThen, Sem.run_pure, this]
section
variable {P : Program} {d : Option Tmp} {tt : TypeId} {s : String} {af : Array Edge} {g : Option (Nat × Bool)} {ρ : Operand → Value} {w : World}
theorem d_buildS {t : TypeId} {fs : List Field} {pl : List (Nat × Nat)} {sz bytes : Nat} {z : Value} {ps : List (Nat × Operand)} {qs : List (Nat × List Value)} {zs cs : List Value} (ht : P.underlying t = some (.struct fs.toArray)) (hz : TI P t sz bytes z) (hpl : Places P fs pl) (hzs : z.cells.toList = zs)
    (hq : ps.map (fun x => (x.1, (ρ x.2).cells.toList)) = qs) (hf : fillP (pl[·]?) zs qs = some cs) : DV P ⟨d, .build t ps.toArray, tt, s, af, g⟩ ρ w (.agg cs.toArray) := by
  refine Does.of_value (v := .agg cs.toArray) (w' := w) (by simp) ?_ ⟨rfl, rfl⟩
  have h1 := run_places w hpl
  have h2 : (fs.toArray.mapM (m := Sem) fun (f : Field) => do pure (f.offset, ← sizeOf f.type)).run P w = .ok pl.toArray w := by
    rw [Array.mapM_eq_mapM_toList, map_eq_pure_bind]
    simp only [Sem.run_bind, h1, Result.andThen, Sem.run_pure]
  have he : (fun i => pl.toArray[i]?) = (fun i => pl[i]?) := funext fun i => List.getElem?_toArray
  have h3 := fill_of (pl := (pl.toArray[·]?)) (ps := ps.map (fun x => (x.1, ρ x.2))) (cs := z.cells) (cs' := cs) rfl (by rw [he, hzs, List.map_map, ← hf, ← hq]; rfl)
  have h4 : (ps.toArray.map fun (i, x) => (i, ρ x)).toList = ps.map (fun x => (x.1, ρ x.2)) := by simp
  simp only [execOp, Instr.build, Sem.run_bind, hz.zero, Result.andThen, run_underlying ht, h2, h4, h3, Sem.run_pure]
/-- A slice's elements, of one cell each. -/
theorem d_buildL {t e : TypeId} {n bytes : Nat} {z : Value} {ps : List (Nat × Operand)} {qs : List (Nat × List Value)} {cs : List Value} (ht : P.underlying t = some (.slice e)) (hz : TI P e 1 bytes z) (hz1 : z.cells = #[z]) (hn : n ≤ 16777216)
    (hq : ps.map (fun x => (x.1, (ρ x.2).cells.toList)) = qs) (hf : fillP (fun i => some (i, 1)) (List.replicate n z) qs = some cs) : Does P ⟨d, .buildSlice t n ps.toArray, tt, s, af, g⟩ ρ w (Made e w (fun b => sli b 0 n n) cs) := by
  refine d_buildSlice ht hz (by omega) ?_
  have h3 := fill_of (pl := fun i => some (i, 1)) (ps := ps.map (fun x => (x.1, ρ x.2))) (cs := madeCells z.cells (n * 1)) (cs' := cs) rfl (by rw [hz1, Nat.mul_one, made_one, List.map_map, ← hf, ← hq]; rfl)
  have h4 : (ps.toArray.map fun (i, x) => (i, ρ x)).toList = ps.map (fun x => (x.1, ρ x.2)) := by simp
  rw [h4, ← h3]
  congr 1
  funext i
  rw [Nat.mul_one]
theorem d_nilCheck {x : Operand} {b o : Nat} (hx : ρ x = ptr b o) : DV P ⟨d, .nilCheck x, tt, s, af, g⟩ ρ w (ptr b o) := by
  refine Does.of_value (v := ptr b o) (w' := w) (by simp) ?_ ⟨rfl, rfl⟩
  have hx' : ρ x = .pointer (some ⟨b, o, none⟩) := hx
  simp only [execOp, hx', Sem.run_pure]
  rfl
theorem Seq.cells {α : Type} {q : Kd α} {xs : List α} {u : Value} {X : Nat → Prop} (h : Ps X (Seq q xs u) w) : u.cells.toList = [u] := by
  obtain ⟨A, c, rfl, _⟩ := h.now
  rfl
theorem Seq.one {α : Type} {q : Kd α} {xs : List α} {u : Value} {X : Nat → Prop} (h : Ps X (Seq q xs u) w) : u.oneCell' = true := by
  obtain ⟨A, c, rfl, _⟩ := h.now
  rfl
theorem Ow.one {e : TypeId} {sz n : Nat} {bo : Option Nat} {u : Value} {cs : List Value} (h : Ow e sz bo u n cs w) : u.oneCell' = true := by
  rcases h with ⟨_, rfl, _⟩ | ⟨b, cap, rest, _, rfl, _⟩ <;> rfl
theorem Ow.cells {e : TypeId} {sz n : Nat} {bo : Option Nat} {u : Value} {cs : List Value} (h : Ow e sz bo u n cs w) : u.cells.toList = [u] := by
  rcases h with ⟨_, rfl, _⟩ | ⟨b, cap, rest, _, rfl, _⟩ <;> rfl
theorem cells_of {x : Operand} {v : Value} {vs : List Value} (h : ρ x = v) (hc : v.cells.toList = vs) : (ρ x).cells.toList = vs := by rw [h, hc]
theorem parts_nil : ([] : List (Nat × Operand)).map (fun x => (x.1, (ρ x.2).cells.toList)) = [] := rfl
theorem parts_cons {i : Nat} {x : Operand} {ps : List (Nat × Operand)} {vs : List Value} {qs : List (Nat × List Value)} (h : (ρ x).cells.toList = vs) (hr : ps.map (fun x => (x.1, (ρ x.2).cells.toList)) = qs) :
    ((i, x) :: ps).map (fun x => (x.1, (ρ x.2).cells.toList)) = (i, vs) :: qs := by rw [List.map_cons, hr, h]
end
end Go.Proofs.YtnlbekdjepkhcaaF
