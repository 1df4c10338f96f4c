/-
  More operations: booleans in memory; append of what is made.
-/
import Derived.Test.YtnlbekdjepkhcaaFi
import Derived.Lib.AppendZerosOnto
set_option linter.unusedVariables false
set_option linter.unusedSimpArgs false
namespace Go.Proofs.YtnlbekdjepkhcaaF
open Go Go.Shelf Go.Proofs.YtnlbekdjepkhcaaS

/-- values that are left open, told short. -/
def zs (z : Nat → Value) : Nat → Nat → List Value
  | _, 0 => []
  | i, n + 1 => z i :: zs z (i + 1) n
def us : Nat → List Value
  | 0 => []
  | n + 1 => undef :: us n
def eT (x : Bool) : Value := .bool x
def kT : Kd Bool := kS eT
section
variable {P : Program} {d : Option Tmp} {tt : TypeId} {s : String} {af : Array Edge} {g : Option (Nat × Bool)} {ρ : Operand → Value} {w : World}
theorem zeroCells_one (z : Value) (n : Nat) : Builtin.zeroCells #[z] n = (List.replicate n z).toArray := by
  apply Array.ext'
  have : ∀ n, (Builtin.zeroCells #[z] n).toList = List.replicate n z := by
    intro n
    unfold Builtin.zeroCells
    apply List.ext_getElem
    · simp
    · intro i h1 h2
      simp
      rw [Nat.mod_one]; rfl
  rw [this]
theorem d_append0 {t tn e : TypeId} {x y : Operand} {bytes n m : Nat} {z : Value} {bo : Option Nat} {u : Value} {cs : List Value} {kn kq : IntKind} {ts : Array TypeId} (ht : P.underlying t = some (.slice e)) (htn : P.underlying tn = some (.int kn)) (hz : TI P e 1 bytes z) (hzc : z.cells = #[z]) (hz1 : z.oneCell' = true)
    (hx : ρ x = u) (hy : ρ y = .int kq (m : Int)) (hO : Ow e 1 bo u n cs w) (hb : (2 * (n + m) + 192) * bytes ≤ 281474976710656) (hm : n + m < 2 ^ 62) (hts : ts = #[t, tn]) :
    Does P ⟨d, .call ⟨.builtin .append, #[x, y], ts⟩, tt, s, af, g⟩ ρ w (Appended e 1 bo (n + m) (cs ++ List.replicate m z) w) := by
  subst hts
  obtain ⟨i, hi, hby, hsz, hze⟩ := hz.info
  have hmb : m * i.bytes ≤ 281474976710656 := by
    rw [hby]; exact Nat.le_trans (Nat.mul_le_mul_right _ (by omega)) hb
  suffices hmain : ∃ u' w', (Builtin.append_ #[t, tn] tt #[u, .int kq (m : Int)]).run P w = .ok u' w' ∧ Appended e 1 bo (n + m) (cs ++ List.replicate m z) w u' w' by
    obtain ⟨u', w', hr, hA⟩ := hmain
    refine Does.of_value (v := u') (w' := w') (by simp) ?_ hA
    simp only [execOp, resolve, Sem.run_bind, Sem.run_pure, Result.andThen, invoke, builtin, List.map_toArray, List.map_cons, List.map_nil, hx, hy, hr]
  have hgrow : ∀ (base : Option Addr) (cap : Nat), 0 < m → u = .slice base n cap → cap < n + m → (Builtin.firstCells i.size n (.slice base n cap)).run P w.drew = .ok cs.toArray w.drew → cs.length = n →
      ∃ u' w', (Builtin.append_ #[t, tn] tt #[u, .int kq (m : Int)]).run P w = .ok u' w' ∧ Appended e 1 bo (n + m) (cs ++ List.replicate m z) w u' w' := by
    intro base cap h0 hu hlt hold hcs
    subst hu
    have hnc := nextcap_le hlt
    have hfit : Builtin.nextslicecap (n + m) cap * i.bytes ≤ 281474976710656 := by
      rw [hby]
      exact Nat.le_trans (Nat.mul_le_mul_right _ hnc) hb
    refine ⟨_, _, Lib.run_append_grow_zeros w t tn tt e i z kq kn ht htn hi hze base n cap cs hold m h0 (by rw [hsz]; exact Nat.one_pos) hlt (by omega) hmb hfit, ?_⟩
    have hcap : n + m ≤ grownCap w (n + m) cap e := by unfold grownCap Question.cut; simp
    refine ⟨some w.heap.size, .inr ⟨w.heap.size, _, List.replicate (grownCap w (n + m) cap e - (n + m)) z, rfl, rfl, hcap, ?_, ?_, ?_⟩, ?_, .inr ⟨_, rfl, Nat.le_refl _⟩⟩
    · have := Arr.new w.drew e ((cs ++ List.replicate m z) ++ List.replicate (grownCap w (n + m) cap e - (n + m)) z)
      have h2 : ((cs ++ List.replicate m z) ++ List.replicate (grownCap w (n + m) cap e - (n + m)) z).toArray = cs.toArray ++ Builtin.zeroCells z.cells m ++ Builtin.zeroCells z.cells (grownCap w (n + m) cap e - (n + m)) := by
        rw [hzc, zeroCells_one, zeroCells_one]
        apply Array.ext'; simp
      rw [h2] at this
      exact this
    · rw [List.length_append, hcs, List.length_replicate, Nat.mul_one]
    · rw [List.length_replicate, Nat.mul_one]
    · have hd : Only No w w.drew := ⟨rfl, rfl, rfl, Nat.le_refl _, fun _ _ _ => rfl⟩
      exact No.any (hd.trans (only_alloc _ _))
  have hw : IntKind.i64.wrap (m : Int) = m := by rw [IntKind.wrap_i64]; omega
  have hneg : ¬ ((m : Int) < 0) := by omega
  have hw0 : IntKind.i64.wrap 0 = 0 := by decide
  have h48i : ¬ (281474976710656 < (m : Int) * (i.bytes : Int)) := by rw [← Int.natCast_mul]; omega
  rcases hO with ⟨h1, h2, h3, h4⟩ | ⟨b, cap, rest, h1, h2, h3, h4, h5, h6⟩
  · subst h1; subst h2; subst h3; subst h4
    by_cases hm0 : m = 0
    · subst hm0
      refine ⟨.slice none 0 0, w, ?_, none, by simpa using Ow.nil e 1 w, Only.refl _ _, .inl rfl⟩
      simp [Builtin.append_, run_underlying ht, run_underlying htn, go_sem, sizeOf, typeInfo, hi, asInt, asIntOf, zeroValue, hze, hw0]
    · exact hgrow none 0 (by omega) rfl (by omega) rfl (by simp)
  · rw [Nat.mul_one] at h5 h6
    by_cases hroom : n + m ≤ cap
    · subst h1
      have hlen : (cs ++ rest).length = cap := by rw [List.length_append, h5, h6]; omega
      have hnc : n + (List.replicate m z).length ≤ (cs ++ rest).length := by rw [hlen, List.length_replicate]; exact hroom
      have hst := run_storeCells_cells (P := P) b n (List.replicate m z) 0 w (by
          intro j hj
          rw [Nat.add_zero, h4.cell (List.getElem?_eq_getElem (by omega))]; rfl) (fun j hj => h4.frozen) (fun u hu => by rw [List.eq_of_mem_replicate hu]; exact hz1)
      simp only [Nat.add_zero] at hst
      rw [h2]
      refine ⟨sli b 0 (n + m) cap, w.setCells b n (List.replicate m z), ?_, some b, .inr ⟨b, cap, rest.drop (List.replicate m z).length, rfl, rfl, hroom, ?_, ?_, ?_⟩, (only_setCells _ _ _).mono (fun k _ h => (congrArg some h).symm), .inl rfl⟩
      · by_cases hm0 : m = 0
        · subst hm0
          have : w.setCells b n (List.replicate 0 z) = w := rfl
          rw [this]
          simp [Builtin.append_, sli, run_underlying ht, run_underlying htn, go_sem, sizeOf, typeInfo, hi, asInt, asIntOf, zeroValue, hze, hroom, hw0]
          exact fun h => absurd h (by omega)
        · simp [Builtin.append_, sli, run_underlying ht, run_underlying htn, sizeOf, typeInfo, zeroValue, hi, hze, asInt, asIntOf, hw, hneg, h48i, hroom, hm0, hsz, hzc, zeroCells_one, Addr.add_lit, hst]
      · have := Arr.setCells (List.replicate m z) n _ w h4 hnc
        rw [← h5, List.take_append_of_le_length (Nat.le_refl _), List.take_length, List.drop_append] at this
        have e1 : List.drop (cs.length + (List.replicate m z).length) cs = [] := List.drop_of_length_le (by omega)
        have e2 : cs.length + (List.replicate m z).length - cs.length = (List.replicate m z).length := by omega
        rw [e1, e2, List.nil_append] at this
        exact h5 ▸ this
      · rw [List.length_append, h5, List.length_replicate, Nat.mul_one]
      · rw [List.length_drop, h6, List.length_replicate]; omega
    · refine hgrow (some ⟨b, 0, none⟩) cap (by omega) h2 (by omega) ?_ h5
      have := run_loadCells_list (P := P) w.drew ⟨b, 0, none⟩ cs (fun j v hj => by
        rw [add0]
        have h7 : w.cell? ⟨b, 0 + j, none⟩ = some v := h4.cell (by rw [Nat.zero_add, List.getElem?_append_left (List.getElem?_eq_some_iff.1 hj).1]; exact hj)
        exact h7)
      rw [h5] at this
      simpa [Builtin.firstCells, hsz] using this
end
theorem take_all {α : Type} {enc : α → Value} {xs : List α} {n : Nat} (h : xs.length = n) : ((xs.map enc).drop 0).take n = xs.map enc := by rw [List.drop_zero]; exact List.take_of_length_le (by rw [List.length_map, h]; exact Nat.le_refl _)
theorem map_len {α : Type} {enc : α → Value} {xs : List α} {n : Nat} (h : xs.length = n) : (xs.map enc).length = n := by rw [List.length_map]; exact h
theorem put_all {cs vs : List Value} {n : Nat} (h : cs.length = n) : cs.take 0 ++ vs ++ cs.drop (0 + n) = vs := by rw [List.take_zero, List.nil_append, Nat.zero_add, List.drop_of_length_le (by omega), List.append_nil]
theorem forget {r : Option Nat} {P : Program} {Q : Exit → Act → World → Prop} {l : List Value} {ds : List Deferred} {w : World} {c : Code} (F : (Nat → Value) → List Value) (h : l = F (nth l)) (hq : ∀ z, c.wpIn (Wf r) 0 P Q (fr (F z) ds) w) : c.wpIn (Wf r) 0 P Q (fr l ds) w := by rw [h]; exact hq _
theorem reslot (l : List Value) (t : Nat) {v v' : Value} (h : v = v') : lset l t v = lset l t v' := by rw [h]
section
variable {P : Program} {d : Option Tmp} {tt : TypeId} {s : String} {af : Array Edge} {g : Option (Nat × Bool)} {ρ : Operand → Value} {w : World} {e : TypeId} {b o n c bytes j : Nat} {α : Type} {enc : α → Value} {xs ys zs : List α} {x y : Operand} {z : Value} {bo : Option Nat} {u : Value}
theorem d_copyC {X : Nat → Prop} {us : Value} {cs cs' : List Value} {ts : Array TypeId} {dT sT : TypeId} (hts : ts = #[dT, sT]) (ht : P.underlying dT = some (.slice e)) (hz : TI P e 1 bytes z) (hx : ρ x = sli b o n c) (hy : ρ y = us) (hA : Arr e b cs w) (hS : Ps X (Seq (kS enc) ys us) w) (h1 : ∀ v, (enc v).oneCell' = true)
    (hfit : o + n ≤ cs.length) (hk : min ys.length n = j) (hnew : cs.take o ++ (ys.take j).map enc ++ cs.drop (o + j) = cs') : Does P ⟨d, .call ⟨.builtin .copy, #[x, y], ts⟩, tt, s, af, g⟩ ρ w fun u' w' => u' = eN j ∧ Arr e b cs' w' ∧ Only (Is1 b) w w' := by
  subst hts; subst hnew; subst hk
  obtain ⟨A, cc, hu, hc, hel⟩ := hS.now
  subst hu
  have hzi : (P.info? e).map (·.size) = some 1 := by
    obtain ⟨i, hi, _, hs, _⟩ := hz.info
    rw [hi]; simp [hs]
  have hsame : Only (Is1 b) w w := Only.refl _ _
  cases A with
  | none =>
    have hys : ys = [] := by
      cases ys with
      | nil => rfl
      | cons v r => obtain ⟨ad, h, _⟩ := hel 0 v rfl; cases h
    subst hys
    refine Does.of_value (v := eN 0) (w' := w) (by simp) ?_ ⟨by simp, by simpa using hA, hsame⟩
    have := run_copy_none (P := P) w dT sT tt e (some ⟨b, o, none⟩) none n c 0 cc ht hzi (by simp [Nat.min_def])
    simp only [execOp, resolve, Sem.run_bind, Sem.run_pure, Result.andThen, invoke, builtin, List.map_toArray, List.map_cons, List.map_nil, hx, hy, sli, List.length_nil, this]
    rfl
  | some a =>
    have hmin : Nat.min ys.length n = min ys.length n := rfl
    have hlen : ((ys.take (min ys.length n)).map enc).length = Nat.min ys.length n := by simp [List.length_take]
    have hrun := run_copy_row (P := P) w dT sT tt e b o n c a ys.length cc cs.toArray e ((ys.take (min ys.length n)).map enc) ht hzi hA hlen (fun j v hj => by
      rw [List.getElem?_map, List.getElem?_take] at hj
      split at hj
      · cases hq : ys[j]? with
        | none => rw [hq] at hj; cases hj
        | some v' =>
          rw [hq] at hj
          obtain ⟨ad, h2, h3⟩ := hel j v' hq
          injection h2 with h2
          subst h2
          have h4 : w.cell? (a.add (j * 1)) = some (enc v') := h3
          rw [Nat.mul_one] at h4
          rw [h4]; exact hj
      · cases hj) (by rw [hlen, hmin]; simp; omega) (oneC h1 _)
    refine Does.of_value (v := eN (min ys.length n)) (w' := w.setRow b ((cs.toArray.toList.take o ++ (ys.take (min ys.length n)).map enc ++ cs.toArray.toList.drop (o + ((ys.take (min ys.length n)).map enc).length)).toArray)) (by simp) ?_ ⟨rfl, ?_, ?_⟩
    · simp only [execOp, resolve, Sem.run_bind, Sem.run_pure, Result.andThen, invoke, builtin, List.map_toArray, List.map_cons, List.map_nil, hx, hy, sli, hrun]
      rw [hlen]; rfl
    · have h5 := setRow_heap w b cs.toArray ((cs.toArray.toList.take o ++ (ys.take (min ys.length n)).map enc ++ cs.toArray.toList.drop (o + ((ys.take (min ys.length n)).map enc).length)).toArray) e (0, 0) hA
      unfold Arr
      rw [h5, hlen, hmin]
    · refine ⟨rfl, rfl, rfl, by simp [World.setRow], fun k hk hne => ?_⟩
      have hne' : b ≠ k := fun e => hne e.symm
      simp [World.setRow, Array.getElem?_modify, hne']
/-- A copy to the front of an owned row. -/
theorem d_copyOw {X : Nat → Prop} {us : Value} {ts : Array TypeId} {dT sT : TypeId} (hts : ts = #[dT, sT]) (ht : P.underlying dT = some (.slice e)) (hz : TI P e 1 bytes z) (hx : ρ x = u) (hy : ρ y = us) (hO : Ow e 1 bo u xs.length (xs.map enc) w) (hS : Ps X (Seq (kS enc) ys us) w) (h1 : ∀ v, (enc v).oneCell' = true)
    (hne : 0 < xs.length) (hk : min ys.length xs.length = j) (hnew : ys.take j ++ xs.drop j = zs) : Does P ⟨d, .call ⟨.builtin .copy, #[x, y], ts⟩, tt, s, af, g⟩ ρ w fun u' w' => u' = eN j ∧ Ow e 1 bo u zs.length (zs.map enc) w' ∧ Only (Isq bo) w w' := by
  rcases hO with ⟨h1', h2, h3, h4⟩ | ⟨b, cap, rest, hb, hu, hc, hA, hl, hr⟩
  · omega
  · subst hu; subst hb
    have hlz : zs.length = xs.length := by rw [← hnew, List.length_append, List.length_take, List.length_drop]; omega
    refine Does.mono (d_copyC (o := 0) (n := xs.length) (j := j) hts ht hz hx hy hA hS h1 (by simp) hk rfl) fun u' w' h => ⟨h.1, .inr ⟨b, cap, rest, rfl, by rw [hlz], by rw [hlz]; exact hc, ?_, by simp, by rw [hlz]; exact hr⟩, h.2.2.mono fun k _ e => by rw [show k = b from e]; rfl⟩
    have := h.2.1
    rw [List.take_zero, List.nil_append, Nat.zero_add, List.drop_append_of_le_length (by rw [List.length_map]; omega), ← List.append_assoc, ← List.map_drop, ← List.map_append, hnew] at this
    exact this
end
/-! a guard that was itself left out -/
theorem wpL.offu {r : Option Nat} {P : Program} {ops : Array Oper} {Q : Exit → Act → World → Prop} {l : List Value} {ds : List Deferred} {w : World} {o : Oper} {rest : List Oper} {g : Nat} {u : Bool} {og : Oper} {t : Tmp} (hg : o.guard = some (g, u)) (ho : ops[g]? = some og) (hd : og.dst = some t) (hl : t < l.length) (hv : nth l t = undef)
    (hk : wpL r P ops Q rest (lput l o.dst undef) ds w) : wpL r P ops Q (o :: rest) l ds w := by
  have hv' : l[t]? = some undef := by rw [nth_eq, List.getD_eq_getElem?_getD, List.getElem?_eq_getElem hl, Option.getD_some] at hv; rw [List.getElem?_eq_getElem hl, hv]
  have hw : Region.wanted o (yielded ops (fr l ds).tmps) = false := by cases u <;> simp [Region.wanted, hg, yielded, ho, hd, fr, hv', undef]
  unfold wpL
  simp only [wpListIn, hw]
  rw [fr_put]
  exact ⟨fun _ _ => trivial, hk⟩
theorem gd_offu {P : Program} {ops : Array Oper} {o : Oper} {l : List Value} {w : World} {R : Value → World → Prop} {g : Nat} {u : Bool} {og : Oper} {t : Tmp} (hg : o.guard = some (g, u)) (ho : ops[g]? = some og) (hd : og.dst = some t) (hl : t < l.length) (hv : nth l t = undef) (h : R undef w) : GDoes P ops o l w R := by
  unfold GDoes
  rw [if_neg (by cases u <;> simp [Region.wanted, hg, yielded_at ho hd hl hv, undef])]; exact h
end Go.Proofs.YtnlbekdjepkhcaaF
