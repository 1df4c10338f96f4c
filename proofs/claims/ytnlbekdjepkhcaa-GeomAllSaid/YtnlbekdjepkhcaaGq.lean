/-
  Ranges over functions inside of loops: as many marks of what is deferred as there were rounds. What stands in rows does not look at marks.
-/
import Derived.Test.YtnlbekdjepkhcaaGp
set_option linter.unusedVariables false
set_option linter.unusedSimpArgs false
namespace Go.Proofs.YtnlbekdjepkhcaaF
open Go Go.Shelf Go.Proofs.YtnlbekdjepkhcaaS

/-- What p tells does not look at marks. -/
def Nodef (p : World → Prop) : Prop := ∀ w w', (∀ k, k < w.heap.size → w'.heap[k]? = w.heap[k]? ∨ ∃ q, w.heap[k]? = some (.deferred q)) → p w → p w'
section
variable {w w' w2 : World} {p q : World → Prop} {X T : Nat → Prop} {rs : List Nat} {b D n : Nat}
theorem heap_lt {k : Nat} {o : Obj} (h : w.heap[k]? = some o) : k < w.heap.size := (Array.getElem?_eq_some_iff.1 h).1
theorem nodef_cell {a : Addr} {v : Value} (h : ∀ k, k < w.heap.size → w'.heap[k]? = w.heap[k]? ∨ ∃ q, w.heap[k]? = some (.deferred q)) (hc : w.cell? a = some v) : w'.cell? a = some v := by
  unfold World.cell? at hc ⊢
  rcases Nat.lt_or_ge a.block w.heap.size with h1 | h1
  · rcases h a.block h1 with e | ⟨q, e⟩
    · rw [e]; exact hc
    · rw [e] at hc; simp at hc
  · rw [Array.getElem?_eq_none h1] at hc; simp at hc
theorem nodef_seq {α : Type} {enc : α → Value} {xs : List α} {u : Value} : Nodef (Seq (kS enc) xs u) := fun w w' h ⟨A, c, hu, hl, hx⟩ =>
  ⟨A, c, hu, hl, fun i x hi => by obtain ⟨ad, ha, hc⟩ := hx i x hi; exact ⟨ad, ha, nodef_cell h hc⟩⟩
theorem nodef_fam {α : Type} {q : Kd α} {n : Nat} {f : Nat → List α} {vd : List Value} (hq : ∀ xs u, Nodef (Seq q xs u)) : Nodef (Fam q n f vd) := fun w w' h hF i hi => hq _ _ w w' h (hF i hi)
theorem nodef_arr {e : TypeId} {cs : List Value} : Nodef (Arr e b cs) := fun w w' h hA => by
  unfold Arr at hA ⊢
  rcases h b (heap_lt hA) with e | ⟨q, e⟩
  · rw [e]; exact hA
  · rw [e] at hA; cases hA
theorem nodef_now (hp : Nodef p) (h : p w) (hm : MarksOk rs w) (ho : Only (· ∈ rs) w w2) : p w2 := by
  refine hp w w2 (fun k hk => ?_) h
  by_cases hm' : k ∈ rs
  · exact .inr ⟨_, hm.2 k hm'⟩
  · exact .inl (ho.same k hk hm')
theorem Ps.nodef (h : Ps X p w) (hp : Nodef p) (hm : MarksOk rs w) (ho : Only (· ∈ rs) w w2) : Ps X p w2 := by
  intro w3 h3
  let g : Nat → Obj := fun k => if k ∈ rs then .deferred (some []) else (w3.heap[k]?).getD (.deferred (some []))
  let N := max w.heap.size w3.heap.size
  let w4 : World := { w3 with heap := Array.ofFn (n := N) fun i => g i }
  have hsz : w4.heap.size = N := Array.size_ofFn
  have hg : ∀ k, k < N → w4.heap[k]? = some (g k) := fun k hk => by
    show (Array.ofFn (n := N) fun i => g i)[k]? = _
    rw [Array.getElem?_eq_getElem (by rw [Array.size_ofFn]; exact hk), Array.getElem_ofFn]
  refine hp w4 w3 (fun k hk => ?_) (h w4 fun k hk hx => ?_)
  · rw [hg k (by omega)]
    by_cases hr : k ∈ rs
    · exact .inr ⟨_, by show some (g k) = _; rw [show g k = .deferred (some []) from if_pos hr]⟩
    · rw [show g k = (w3.heap[k]?).getD (.deferred (some [])) from if_neg hr]
      cases e : w3.heap[k]? with
      | none => exact .inr ⟨_, rfl⟩
      | some o => exact .inl rfl
  · rw [hg k (by omega)]
    by_cases hr : k ∈ rs
    · rw [show g k = .deferred (some []) from if_pos hr]; exact (hm.2 k hr).symm
    · rw [show g k = (w3.heap[k]?).getD (.deferred (some [])) from if_neg hr, h3 k (Nat.lt_of_lt_of_le hk ho.size) hx, ho.same k hk hr, Array.getElem?_eq_getElem hk]
      rfl
theorem marks_nil : Ps X (MarksOk []) w := fun w' _ => ⟨List.nodup_nil, fun r hr => absurd hr List.not_mem_nil⟩
theorem marks_ne (h : MarksOk rs w) (hD : w.heap.size = D) : ∀ r ∈ rs, r ≠ D := fun r hr e => by have := heap_lt (h.2 r hr); omega
theorem marks_cons (h : Ps X (MarksOk rs) w) (hD : Defd D w) (hne : ∀ r ∈ rs, r ≠ D) (hX : ∀ k, k < w.heap.size → X k → k ≠ D) : Ps X (MarksOk (D :: rs)) w := fun w' hw => by
  have h1 := h w' hw
  refine ⟨List.nodup_cons.2 ⟨fun hm => hne D hm rfl, h1.1⟩, fun r hr => ?_⟩
  rcases List.mem_cons.1 hr with e | hr
  · rw [e]; exact (hw D hD.lt fun hx => hX D hD.lt hx rfl).trans hD
  · exact h1.2 r hr
theorem marks_new (h : ∀ r ∈ rs, n ≤ r) (hD : n ≤ D) : ∀ r ∈ D :: rs, n ≤ r := fun r hr => (List.mem_cons.1 hr).elim (fun e => e ▸ hD) (h r)
theorem only_marks (h : Only T w w') (ho : Only (· ∈ rs) w' w2) (hr : ∀ r ∈ rs, w.heap.size ≤ r) : Only T w w2 := h.tail ho fun k hk hm => by have := hr k hm; omega
/-- A loop in which marks are left. -/
theorem loop3 {P : Program} {r : Option Nat} {Q : Exit → Act → World → Prop} {l : List Value} {ds : List Deferred} {c : Code} {σ : Type} (shape : σ → (Nat → Value) → List Value) (rsOf : σ → List Nat) (Inv : σ → World → Prop) (μ : σ → Nat) (s0 : σ) (hl : l = shape s0 (nth l)) (hd : ds = marks (rsOf s0)) (h0 : Inv s0 w)
    (round : ∀ s z w, Inv s w → c.wpIn (Wf r) 0 P (Exit.then (fun a' w' => ∃ l' s', a' = fr l' (marks (rsOf s')) ∧ l' = shape s' (nth l') ∧ Inv s' w' ∧ μ s' < μ s) Q) (fr (shape s z) (marks (rsOf s))) w) : (Code.loop c).wpIn (Wf r) 0 P Q (fr l ds) w := by
  refine loop (σ := σ) (fun s l ds' w => ds' = marks (rsOf s) ∧ (∃ z, l = shape s z) ∧ Inv s w) μ s0 ⟨hd, ⟨_, hl⟩, h0⟩ ?_
  rintro s _ _ w ⟨rfl, ⟨z, rfl⟩, hI⟩
  refine wpIn_mono (round s z w hI) ?_
  intro e a w he
  cases e with
  | normal =>
    obtain ⟨l', s', rfl, hl', hI', hlt⟩ := he
    exact ⟨s', l', _, rfl, ⟨rfl, ⟨_, hl'⟩, hI'⟩, hlt⟩
  | _ => exact he
end
theorem cw_is {P : Program} {f : Nat} {args : Array Value} {W : World} {v v' : Value} (h : CW P f args W (Rt (RIs v W))) (e : v = v') : CW P f args W (Rt (RIs v' W)) := e ▸ h
theorem d_neqlPair {P : Program} {dd : Option Tmp} {tt : TypeId} {s : String} {af : Array Edge} {g : Option (Nat × Bool)} {ρ : Operand → Value} {w : World} {t e : TypeId} {t2 : TypeId} {x y : Operand} {a b c d : Int} {r : Bool} {bytes : Nat} {z : Value} (ht : P.underlying t = some (.array 2 e)) (he : P.underlying e = some (.int .i64)) (hz : TI P e 1 bytes z) (hc : P.cellsOf e = 1) (hg : P.eqGuardType P.depth t = false) (hx : ρ x = .agg #[.int .i64 a, .int .i64 b]) (hy : ρ y = .agg #[.int .i64 c, .int .i64 d]) (hr : (!decide (a = c ∧ b = d)) = r) :
    DV P ⟨dd, .binOp .neq t x y t2, tt, s, af, g⟩ ρ w (.bool r) := by
  subst hr
  obtain ⟨i, hi, _⟩ := hz.info
  refine Does.of_value (v := .bool (!decide (a = c ∧ b = d))) (w' := w) (by simp) ?_ ⟨rfl, rfl⟩
  simp [execOp, hx, hy, go_sem, eqGuard, binOp, run_equal_pair ht he hi hc, hg]
theorem made_one2 : (madeCells (Value.agg #[Value.int .i64 0, Value.int .i64 0]).cells (1 * 2)).toList = [eN 0, eN 0] := by
  unfold madeCells
  rw [Array.toList_map, Array.toList_range]
  show List.map _ [0, 1] = _
  rfl
theorem made_three2 : (madeCells (Value.agg #[Value.int .i64 0, Value.int .i64 0]).cells (3 * 2)).toList = [eN 0, eN 0, eN 0, eN 0, eN 0, eN 0] := by
  unfold madeCells
  rw [Array.toList_map, Array.toList_range]
  show List.map _ [0, 1, 2, 3, 4, 5] = _
  rfl
theorem made_three3 : (madeCells (Value.agg #[Value.int .i64 0, Value.int .i64 0, Value.int .i64 0]).cells (3 * 3)).toList = [eN 0, eN 0, eN 0, eN 0, eN 0, eN 0, eN 0, eN 0, eN 0] := by
  unfold madeCells
  rw [Array.toList_map, Array.toList_range]
  show List.map _ [0, 1, 2, 3, 4, 5, 6, 7, 8] = _
  rfl
/-- A number of a pair that is read. -/
theorem d_indexA {P : Program} {d : Option Tmp} {tt : TypeId} {s : String} {af : Array Edge} {g : Option (Nat × Bool)} {ρ : Operand → Value} {w : World} {t e : TypeId} {x y : Operand} {bytes : Nat} {z u : Value} {k : IntKind} {i c : Int} {v : Int × Int} {X : Nat → Prop} (ht : P.underlying t = some (.array 2 e)) (hz : TI P e 1 bytes z) (hx : ρ x = u) (hA : Ps X (At (kA 2 eQ) v u) w) (hy : ρ y = .int k i)
    (h0 : 0 ≤ i) (h1 : i < 2) (hv : (eQ v)[i.toNat]? = some (eI c)) : Does P ⟨d, .indexAddr t x y, tt, s, af, g⟩ ρ w fun u' w' => Ps X (At kI c u') w ∧ w = w' := by
  obtain ⟨p, hu, _, hc⟩ := hA.now
  refine Does.of_value (v := .pointer (some (p.add (i.toNat * 1)))) (w' := w) (by simp) ?_ ⟨?_, rfl⟩
  · subst hu
    simp [execOp, Instr.indexAt, Instr.sureAddr, hx, hy, asIntOf, run_underlying ht, hz.size, go_sem, h0, h1]
  · refine hA.imp (fun w2 h2 => ?_)
    obtain ⟨p', hu', _, hc'⟩ := h2
    rw [hu] at hu'
    injection hu' with hu'
    injection hu' with hu'
    subst hu'
    exact ⟨_, rfl, by rw [Nat.mul_one]; exact hc' _ _ hv⟩
/-! ### Rows of pairs that grow -/
section
variable {e : TypeId} {bo : Option Nat} {u : Value} {w : World} {X : Nat → Prop} {n : Nat} {xs ys : List (Int × Int)} {cs : List Value}
theorem flat_len : ∀ xs : List (Int × Int), (xs.flatMap eQ).length = xs.length * 2
  | [] => rfl
  | x :: xs => by rw [List.flatMap_cons, List.length_append, flat_len xs, List.length_cons]; show 2 + _ = _; omega
theorem flat_at : ∀ (xs : List (Int × Int)) (i j : Nat) (x : Int × Int) (v : Value), xs[i]? = some x → (eQ x)[j]? = some v → (xs.flatMap eQ)[i * 2 + j]? = some v
  | [], i, j, x, v, h, _ => by simp at h
  | y :: xs, 0, j, x, v, h, hv => by
    have h : y = x := by simpa using h
    subst h
    have := (List.getElem?_eq_some_iff.1 hv).1
    rw [List.flatMap_cons, List.getElem?_append_left (by omega), Nat.zero_mul, Nat.zero_add]
    exact hv
  | y :: xs, i + 1, j, x, v, h, hv => by
    have h : xs[i]? = some x := by simpa using h
    rw [List.flatMap_cons, List.getElem?_append_right (by show 2 ≤ _; omega)]
    rw [show (i + 1) * 2 + j - (eQ y).length = i * 2 + j by show _ - 2 = _; omega]
    exact flat_at xs i j x v h hv
theorem seqA_nil {X : Nat → Prop} {w : World} : Ps X (Seq (kA 2 eQ) [] (.slice none 0 0)) w := Ps.mk0 fun w => ⟨none, 0, rfl, Nat.le_refl _, fun i x h => by simp at h⟩
theorem Ow.seqA (h : Ow e 2 bo u n (xs.flatMap eQ) w) (hX : ∀ b, bo = some b → ¬ X b) : Ps X (Seq (kA 2 eQ) xs u) w := by
  rcases h with ⟨h1, h2, h3, h4⟩ | ⟨b, cap, rest, h1, h2, h3, h4, h5, h6⟩
  · have := flat_len xs
    rw [h4] at this
    have : xs = [] := List.eq_nil_of_length_eq_zero (by simp at this; omega)
    subst this; subst h2
    exact Ps.mk0 fun w => ⟨none, 0, rfl, Nat.le_refl _, fun i x h => by simp at h⟩
  · have hn : xs.length = n := by rw [flat_len] at h5; omega
    subst h2; subst hn
    refine (h4.ps fun w' h' => ?_).less (fun k _ hk e => hX b h1 (e ▸ hk))
    refine ⟨_, _, rfl, h3, fun i x hi => ⟨_, rfl, rfl, fun j v hj => ?_⟩⟩
    rw [add0]
    show w'.cell? ((⟨b, 0 + i * 2, none⟩ : Addr).add j) = some v
    rw [add0]
    refine h'.cell ?_
    have h7 := flat_at xs i j x v hi hj
    rw [Nat.zero_add, List.getElem?_append_left (List.getElem?_eq_some_iff.1 h7).1]
    exact h7
theorem ow_app2 (h : Ow e 2 bo u (xs.length + n) (xs.flatMap eQ ++ cs) w) (hn : ys.length = n) (hc : cs = ys.flatMap eQ) : Ow e 2 bo u (xs ++ ys).length ((xs ++ ys).flatMap eQ) w := by
  rw [List.length_append, List.flatMap_append, hn, ← hc]; exact h
theorem one_eQ : ∀ (ys : List (Int × Int)), ∀ v ∈ ys.flatMap eQ, v.oneCell' = true := fun ys v hv => by
  obtain ⟨x, _, hx⟩ := List.mem_flatMap.1 hv
  rcases List.mem_cons.1 hx with h | hx
  · rw [h]; rfl
  · rw [List.mem_singleton.1 hx]; rfl
end
end Go.Proofs.YtnlbekdjepkhcaaF
