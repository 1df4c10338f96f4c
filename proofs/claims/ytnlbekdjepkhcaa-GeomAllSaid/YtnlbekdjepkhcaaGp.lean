/-
  Pairs of whole numbers: asked whether they are the same; made, read.
-/
import Derived.Test.YtnlbekdjepkhcaaFr
import Derived.ChangeKeysEq
set_option linter.unusedVariables false
set_option linter.unusedSimpArgs false
namespace Go.Proofs.YtnlbekdjepkhcaaF
open Go Go.Shelf Go.Proofs.YtnlbekdjepkhcaaS
section
variable {P : Program} {dd : Option Tmp} {tt : TypeId} {s : String} {af : Array Edge} {g : Option (Nat × Bool)} {ρ : Operand → Value} {w : World} {t e : TypeId}
theorem dv_to {o : Oper} {v v' : Value} (h : DV P o ρ w v) (e : v = v') : DV P o ρ w v' := e ▸ h
theorem run_part {cs : Array Value} {v : Value} {off : Nat} (he : P.underlying e = some (.int .i64)) (h : cs[off]? = some v) : (part e cs off).run P w = .ok v w := by
  unfold part
  simp [isAgg, run_underlying he, go_sem, h]
theorem run_equalIn_int (m : Nat) {a b : Int} (he : P.underlying e = some (.int .i64)) : (Op.equalIn (m + 1) e (.int .i64 a) (.int .i64 b)).run P w = .ok (a == b) w := by
  rw [Op.equalIn]
  simp only [Sem.run_bind, run_underlying he, Result.andThen]
  rfl
theorem eq_step (m : Nat) {xs ys : Array Value} {i : Nat} {is : List Nat} {a b : Int} (he : P.underlying e = some (.int .i64)) (h1 : xs[i * 1]? = some (.int .i64 a)) (h2 : ys[i * 1]? = some (.int .i64 b)) :
    (Op.eqItems (m + 1) e 1 xs ys (i :: is)).run P w = if a = b then (Op.eqItems (m + 1) e 1 xs ys is).run P w else .ok false w := by
  simp only [Op.eqItems, Sem.run_bind, run_part he h1, run_part he h2, Result.andThen_ok, run_equalIn_int m he]
  by_cases h : a = b
  · rw [if_pos h]; simp [h]
  · rw [if_neg h]; simp [h, Sem.run_pure]
theorem run_equal_pair {a b c d : Int} {i : TypeInfo} (ht : P.underlying t = some (.array 2 e)) (he : P.underlying e = some (.int .i64)) (hi : P.info? e = some i) (hc : P.cellsOf e = 1) :
    (Op.equal t (.agg #[.int .i64 a, .int .i64 b]) (.agg #[.int .i64 c, .int .i64 d])).run P w = .ok (decide (a = c ∧ b = d)) w := by
  have gen : ∀ m, (Op.equalIn (m + 2) t (.agg #[.int .i64 a, .int .i64 b]) (.agg #[.int .i64 c, .int .i64 d])).run P w = .ok (decide (a = c ∧ b = d)) w := by
    intro m
    rw [run_equalIn_array w (m + 1) _ _ ht hi, hc]
    show (Op.eqItems (m + 1) e 1 _ _ [0, 1]).run P w = _
    rw [eq_step m he (a := a) (b := c) rfl rfl]
    by_cases h1 : a = c
    · rw [if_pos h1, eq_step m he (a := b) (b := d) rfl rfl]
      by_cases h2 : b = d
      · rw [if_pos h2]; simp [Op.eqItems, h1, h2, Sem.run_pure]
      · rw [if_neg h2]; simp [h2]
    · rw [if_neg h1]; simp [h1]
  exact gen 9998
theorem d_eqlPair {t2 : TypeId} {x y : Operand} {a b c d : Int} {r : Bool} {bytes : Nat} {z : Value} (ht : P.underlying t = some (.array 2 e)) (he : P.underlying e = some (.int .i64)) (hz : TI P e 1 bytes z) (hc : P.cellsOf e = 1) (hg : P.eqGuardType P.depth t = false) (hx : ρ x = .agg #[.int .i64 a, .int .i64 b]) (hy : ρ y = .agg #[.int .i64 c, .int .i64 d]) (hr : decide (a = c ∧ b = d) = r) :
    DV P ⟨dd, .binOp .eql t x y t2, tt, s, af, g⟩ ρ w (.bool r) := by
  subst hr
  obtain ⟨i, hi, _⟩ := hz.info
  refine Does.of_value (v := .bool (decide (a = c ∧ b = d))) (w' := w) (by simp) ?_ ⟨rfl, rfl⟩
  simp [execOp, hx, hy, go_sem, eqGuard, binOp, run_equal_pair ht he hi hc, hg]
end
/-! ### Pairs -/
def eP (x : Nat × Nat) : List Value := [eN x.1, eN x.2]
def eQ (x : Int × Int) : List Value := [eI x.1, eI x.2]
section
variable {P : Program} {d : Option Tmp} {tt : TypeId} {s : String} {af : Array Edge} {g : Option (Nat × Bool)} {ρ : Operand → Value} {w : World}
theorem d_buildA {t e : TypeId} {n sz bytes bytes' : Nat} {z z' : Value} {ps : List (Nat × Operand)} {qs : List (Nat × List Value)} {zs cs : List Value} (ht : P.underlying t = some (.array n e)) (hz : TI P t sz bytes z) (he : TI P e 1 bytes' z') (hzs : z.cells.toList = zs)
    (hq : ps.map (fun x => (x.1, (ρ x.2).cells.toList)) = qs) (hf : fillP (fun i => some (i, 1)) zs qs = some cs) : DV P ⟨d, .build t ps.toArray, tt, s, af, g⟩ ρ w (.agg cs.toArray) := by
  refine Does.of_value (v := .agg cs.toArray) (w' := w) (by simp) ?_ ⟨rfl, rfl⟩
  have h3 := fill_of (pl := fun i => some (i, 1)) (ps := ps.map (fun x => (x.1, ρ x.2))) (cs := z.cells) (cs' := cs) rfl (by rw [hzs, List.map_map, ← hf, ← hq]; rfl)
  have h4 : (ps.toArray.map fun (i, x) => (i, ρ x)).toList = ps.map (fun x => (x.1, ρ x.2)) := by simp
  have h5 : (fun i : Nat => some (i * 1, 1)) = fun i => some (i, 1) := funext fun i => by rw [Nat.mul_one]
  simp only [execOp, Instr.build, Sem.run_bind, hz.zero, Result.andThen, run_underlying ht, he.size, h4, h5, h3, Sem.run_pure]
theorem d_buildL2 {t e : TypeId} {n sz bytes : Nat} {z : Value} {ps : List (Nat × Operand)} {qs : List (Nat × List Value)} {zs cs : List Value} (ht : P.underlying t = some (.slice e)) (hz : TI P e sz bytes z) (hzs : (madeCells z.cells (n * sz)).toList = zs) (hn : n * sz ≤ 16777216)
    (hq : ps.map (fun x => (x.1, (ρ x.2).cells.toList)) = qs) (hf : fillP (fun i => some (i * sz, sz)) zs qs = some cs) : Does P ⟨d, .buildSlice t n ps.toArray, tt, s, af, g⟩ ρ w (Made e w (fun b => sli b 0 n n) cs) := by
  refine d_buildSlice ht hz hn ?_
  have h3 := fill_of (pl := fun i => some (i * sz, sz)) (ps := ps.map (fun x => (x.1, ρ x.2))) (cs := madeCells z.cells (n * sz)) (cs' := cs) rfl (by rw [hzs, List.map_map, ← hf, ← hq]; rfl)
  have h4 : (ps.toArray.map fun (i, x) => (i, ρ x)).toList = ps.map (fun x => (x.1, ρ x.2)) := by simp
  rw [h4, ← h3]
theorem made_two : (madeCells (Value.agg #[Value.int .i64 0, Value.int .i64 0]).cells (2 * 2)).toList = [eN 0, eN 0, eN 0, eN 0] := by
  unfold madeCells
  rw [Array.toList_map, Array.toList_range]
  show List.map _ [0, 1, 2, 3] = _
  rfl
theorem d_loadAtA {α : Type} {n bytes : Nat} {enc : α → List Value} {v : α} {t : TypeId} {x : Operand} {z u : Value} {X : Nat → Prop} (ht : Ag P t) (hz : TI P t n bytes z) (hx : ρ x = u) (hA : Ps X (At (kA n enc) v u) w) : DV P ⟨d, .load t x, tt, s, af, g⟩ ρ w (.agg (enc v).toArray) := by
  obtain ⟨p, hu, hl, hc⟩ := hA.now
  subst hu
  refine Does.of_value (v := .agg (enc v).toArray) (w' := w) (by simp) ?_ ⟨rfl, rfl⟩
  have h1 : (loadCells p (enc v).length).run P w = .ok (enc v).toArray w := run_loadCells_list (P := P) w _ (enc v) (fun j y hj => hc j y hj)
  rw [hl] at h1
  have h2 : (loadCellsFrom p 0 n #[]).run P w = .ok (enc v).toArray w := h1
  simp [execOp, Instr.loadAt, Instr.sureAddr, hx, loadVar, run_isAgg_agg ht, hz.size, go_sem, h2]
theorem arr_two {e : TypeId} {b : Nat} {x y : Nat × Nat} {X : Nat → Prop} (h : Arr e b [eN x.1, eN x.2, eN y.1, eN y.2] w) (hX : ∀ k, k < w.heap.size → X k → k ≠ b) : Ps X (Seq (kA 2 eP) [x, y] (sli b 0 2 2)) w := by
  refine (h.ps fun w' h' => ?_).less hX
  refine ⟨some ⟨b, 0, none⟩, 2, rfl, Nat.le_refl _, fun i v hi => ⟨_, rfl, ?_⟩⟩
  have ha : ∀ i j, ((⟨b, 0, none⟩ : Addr).add (i * 2)).add j = ⟨b, i * 2 + j, none⟩ := fun i j => by rw [add0, add0, Nat.zero_add]
  rcases i with _ | _ | i
  · obtain rfl : x = v := by simpa using hi
    refine ⟨rfl, fun j u hj => ?_⟩
    show w'.cell? (((⟨b, 0, none⟩ : Addr).add (0 * 2)).add j) = some u
    rw [ha]
    rcases j with _ | _ | j
    · exact h'.cell (by simpa [eP] using hj)
    · exact h'.cell (by simpa [eP] using hj)
    · simp [eP] at hj
  · obtain rfl : y = v := by simpa using hi
    refine ⟨rfl, fun j u hj => ?_⟩
    show w'.cell? (((⟨b, 0, none⟩ : Addr).add (1 * 2)).add j) = some u
    rw [ha]
    rcases j with _ | _ | j
    · exact h'.cell (by simpa [eP] using hj)
    · exact h'.cell (by simpa [eP] using hj)
    · simp [eP] at hj
  · simp at hi
end

/-! ### Rows of rows -/
def eV (v : Value) : Value := v
theorem map_eV (l : List Value) : l.map eV = l := by
  have : eV = id := rfl
  rw [this, List.map_id]
/-- Rows one behind the other: those of f. -/
def Fam {α : Type} (q : Kd α) (n : Nat) (f : Nat → List α) (vd : List Value) (w : World) : Prop := ∀ i, i < n → Seq q (f i) (vd.getD i undef) w
theorem fam_at {α : Type} {q : Kd α} {n i : Nat} {f : Nat → List α} {vd : List Value} {X : Nat → Prop} {w : World} (h : Ps X (Fam q n f vd) w) (hi : i < n) : Ps X (Seq q (f i) (vd.getD i undef)) w := h.imp fun w' h' => h' i hi
theorem fam_set {α : Type} {q : Kd α} {n i : Nat} {f : Nat → List α} {vd : List Value} {X : Nat → Prop} {w : World} {l : List α} {u : Value} (h : Ps X (Fam q n f vd) w) (hu : Ps X (Seq q l u) w) (hn : vd.length = n) :
    Ps X (Fam q n (fun k => if k = i then l else f k) (vd.set i u)) w := fun w' hw k hk => by
  have h1 := h w' hw k hk
  have h2 := hu w' hw
  rw [List.getD_eq_getElem?_getD] at h1 ⊢
  by_cases hki : k = i
  · subst hki
    rw [List.getElem?_set_self (by omega)]
    show Seq q (if k = k then l else f k) _ w'
    rw [if_pos rfl]
    exact h2
  · rw [List.getElem?_set_ne (Ne.symm hki)]
    show Seq q (if k = i then l else f k) _ w'
    rw [if_neg hki]
    exact h1

theorem fam_zero {α : Type} {q : Kd α} {f : Nat → List α} {vd : List Value} {X : Nat → Prop} {w : World} : Ps X (Fam q 0 f vd) w := fun w' _ k hk => absurd hk (Nat.not_lt_zero k)
theorem fam_snoc {α : Type} {q : Kd α} {n : Nat} {f : Nat → List α} {l : List α} {vd : List Value} {X : Nat → Prop} {w : World} {u : Value} (h : Ps X (Fam q n f vd) w) (hu : Ps X (Seq q l u) w) (hl : l = f n) (hn : vd.length = n) : Ps X (Fam q (n + 1) f (vd ++ [u])) w := fun w' hw k hk => by
  subst hl
  rw [List.getD_eq_getElem?_getD]
  rcases Nat.lt_or_ge k n with h1 | h1
  · rw [List.getElem?_append_left (by omega)]
    have := h w' hw k h1
    rw [List.getD_eq_getElem?_getD] at this
    exact this
  · have : k = n := by omega
    subst this
    rw [List.getElem?_append_right (by omega), hn, Nat.sub_self]
    exact hu w' hw
theorem fam_put {α : Type} {q : Kd α} {n : Nat} {f : Nat → List α} {l : List α} {vd : List Value} {X : Nat → Prop} {w : World} {u : Value} (h : Ps X (Fam q n f vd) w) (hu : Ps X (Seq q l u) w) (hl : l = f n) (hn : n < vd.length) : Ps X (Fam q (n + 1) f (vd.set n u)) w := fun w' hw k hk => by
  subst hl
  rw [List.getD_eq_getElem?_getD]
  by_cases hkn : k = n
  · subst hkn
    rw [List.getElem?_set_self hn]
    exact hu w' hw
  · rw [List.getElem?_set_ne (Ne.symm hkn)]
    have := h w' hw k (by omega)
    rw [List.getD_eq_getElem?_getD] at this
    exact this
/-! ### Blocks made in a region of open order, owned from there on -/
def RF.mk_ (O : Nat → Prop) (mk : Nat → Value) (e : TypeId) (cs : List Value) (n0 : Nat) (h : ∀ k, O k → k < n0) : RF O :=
  ⟨fun _ u _ _ w => ∃ b, u = mk b ∧ Arr e b cs w ∧ n0 ≤ b, fun hp ho => by obtain ⟨b, h1, h2, h3⟩ := hp; exact ⟨b, h1, h2.step ho (fun t => by have := h b t; omega), h3⟩⟩
def RF.mkv_ (O : Nat → Prop) (mk : Nat → Value) (e : TypeId) (cs : (Nat → Value) → List Value) (n0 : Nat) (h : ∀ k, O k → k < n0) : RF O :=
  ⟨fun v u _ _ w => ∃ b, u = mk b ∧ Arr e b (cs v) w ∧ n0 ≤ b, fun hp ho => by obtain ⟨b, h1, h2, h3⟩ := hp; exact ⟨b, h1, h2.step ho (fun t => by have := h b t; omega), h3⟩⟩
theorem arr_ne {e1 e2 : TypeId} {b1 b2 : Nat} {c1 c2 : List Value} {w : World} (h1 : Arr e1 b1 c1 w) (h2 : Arr e2 b2 c2 w) (h : e1 ≠ e2) : b1 ≠ b2 := fun e => by
  subst e
  have h3 := h1.symm.trans h2
  injection h3 with h3
  injection h3 with _ h4
  exact h h4
end Go.Proofs.YtnlbekdjepkhcaaF
