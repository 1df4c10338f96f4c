/-
  More operations: booleans in memory; append of what is made.
-/
import Derived.Test.YtphlhejccgbmfaaFi
import Derived.Lib.AppendZerosOnto
set_option linter.unusedVariables false
set_option linter.unusedSimpArgs false
namespace Go.Proofs.YtphlhejccgbmfaaF
open Go Go.Shelf Go.Proofs.YtphlhejccgbmfaaS

def eT (x : Bool) : Value := .bool x
def kT : Kd Bool := kS eT
section
variable {P : Program} {d : Option Tmp} {tt : TypeId} {s : String} {af : Array Edge} {g : Option (Nat × Bool)} {ρ : Operand → Value} {w : World}
theorem zeroCells_one (z : Value) (n : Nat) : Builtin.zeroCells #[z] n = (List.replicate n z).toArray := by
  apply Array.ext'
  have : ∀ n, (Builtin.zeroCells #[z] n).toList = List.replicate n z := by
    intro n
    unfold Builtin.zeroCells
    apply List.ext_getElem
    · simp
    · intro i h1 h2
      simp
      rw [Nat.mod_one]; rfl
  rw [this]
theorem d_append0 {t tn e : TypeId} {x y : Operand} {bytes n m : Nat} {z : Value} {bo : Option Nat} {u : Value} {cs : List Value} {kn kq : IntKind} {ts : Array TypeId} (ht : P.underlying t = some (.slice e)) (htn : P.underlying tn = some (.int kn)) (hz : TI P e 1 bytes z) (hzc : z.cells = #[z]) (hz1 : z.oneCell' = true)
    (hx : ρ x = u) (hy : ρ y = .int kq (m : Int)) (hO : Ow e 1 bo u n cs w) (hb : (2 * (n + m) + 192) * bytes ≤ 281474976710656) (hm : n + m < 2 ^ 62) (hts : ts = #[t, tn]) :
    Does P ⟨d, .call ⟨.builtin .append, #[x, y], ts⟩, tt, s, af, g⟩ ρ w (Appended e 1 bo (n + m) (cs ++ List.replicate m z) w) := by
  subst hts
  obtain ⟨i, hi, hby, hsz, hze⟩ := hz.info
  have hmb : m * i.bytes ≤ 281474976710656 := by
    rw [hby]; exact Nat.le_trans (Nat.mul_le_mul_right _ (by omega)) hb
  suffices hmain : ∃ u' w', (Builtin.append_ #[t, tn] tt #[u, .int kq (m : Int)]).run P w = .ok u' w' ∧ Appended e 1 bo (n + m) (cs ++ List.replicate m z) w u' w' by
    obtain ⟨u', w', hr, hA⟩ := hmain
    refine Does.of_value (v := u') (w' := w') (by simp) ?_ hA
    simp only [execOp, resolve, Sem.run_bind, Sem.run_pure, Result.andThen, invoke, builtin, List.map_toArray, List.map_cons, List.map_nil, hx, hy, hr]
  have hgrow : ∀ (base : Option Addr) (cap : Nat), 0 < m → u = .slice base n cap → cap < n + m → (Builtin.firstCells i.size n (.slice base n cap)).run P w.drew = .ok cs.toArray w.drew → cs.length = n →
      ∃ u' w', (Builtin.append_ #[t, tn] tt #[u, .int kq (m : Int)]).run P w = .ok u' w' ∧ Appended e 1 bo (n + m) (cs ++ List.replicate m z) w u' w' := by
    intro base cap h0 hu hlt hold hcs
    subst hu
    have hnc := nextcap_le hlt
    have hfit : Builtin.nextslicecap (n + m) cap * i.bytes ≤ 281474976710656 := by
      rw [hby]
      exact Nat.le_trans (Nat.mul_le_mul_right _ hnc) hb
    refine ⟨_, _, Lib.run_append_grow_zeros w t tn tt e i z kq kn ht htn hi hze base n cap cs hold m h0 (by rw [hsz]; exact Nat.one_pos) hlt (by omega) hmb hfit, ?_⟩
    have hcap : n + m ≤ grownCap w (n + m) cap e := by unfold grownCap Question.cut; simp
    refine ⟨some w.heap.size, .inr ⟨w.heap.size, _, List.replicate (grownCap w (n + m) cap e - (n + m)) z, rfl, rfl, hcap, ?_, ?_, ?_⟩, ?_, .inr ⟨_, rfl, Nat.le_refl _⟩⟩
    · have := Arr.new w.drew e ((cs ++ List.replicate m z) ++ List.replicate (grownCap w (n + m) cap e - (n + m)) z)
      have h2 : ((cs ++ List.replicate m z) ++ List.replicate (grownCap w (n + m) cap e - (n + m)) z).toArray = cs.toArray ++ Builtin.zeroCells z.cells m ++ Builtin.zeroCells z.cells (grownCap w (n + m) cap e - (n + m)) := by
        rw [hzc, zeroCells_one, zeroCells_one]
        apply Array.ext'; simp
      rw [h2] at this
      exact this
    · rw [List.length_append, hcs, List.length_replicate, Nat.mul_one]
    · rw [List.length_replicate, Nat.mul_one]
    · have hd : Only No w w.drew := ⟨rfl, rfl, rfl, Nat.le_refl _, fun _ _ _ => rfl⟩
      exact No.any (hd.trans (only_alloc _ _))
  have hw : IntKind.i64.wrap (m : Int) = m := by rw [IntKind.wrap_i64]; omega
  have hneg : ¬ ((m : Int) < 0) := by omega
  have hw0 : IntKind.i64.wrap 0 = 0 := by decide
  have h48i : ¬ (281474976710656 < (m : Int) * (i.bytes : Int)) := by rw [← Int.natCast_mul]; omega
  rcases hO with ⟨h1, h2, h3, h4⟩ | ⟨b, cap, rest, h1, h2, h3, h4, h5, h6⟩
  · subst h1; subst h2; subst h3; subst h4
    by_cases hm0 : m = 0
    · subst hm0
      refine ⟨.slice none 0 0, w, ?_, none, by simpa using Ow.nil e 1 w, Only.refl _ _, .inl rfl⟩
      simp [Builtin.append_, run_underlying ht, run_underlying htn, go_sem, sizeOf, typeInfo, hi, asInt, asIntOf, zeroValue, hze, hw0]
    · exact hgrow none 0 (by omega) rfl (by omega) rfl (by simp)
  · rw [Nat.mul_one] at h5 h6
    by_cases hroom : n + m ≤ cap
    · subst h1
      have hlen : (cs ++ rest).length = cap := by rw [List.length_append, h5, h6]; omega
      have hnc : n + (List.replicate m z).length ≤ (cs ++ rest).length := by rw [hlen, List.length_replicate]; exact hroom
      have hst := run_storeCells_cells (P := P) b n (List.replicate m z) 0 w (by
          intro j hj
          rw [Nat.add_zero, h4.cell (List.getElem?_eq_getElem (by omega))]; rfl) (fun j hj => h4.frozen) (fun u hu => by rw [List.eq_of_mem_replicate hu]; exact hz1)
      simp only [Nat.add_zero] at hst
      rw [h2]
      refine ⟨sli b 0 (n + m) cap, w.setCells b n (List.replicate m z), ?_, some b, .inr ⟨b, cap, rest.drop (List.replicate m z).length, rfl, rfl, hroom, ?_, ?_, ?_⟩, (only_setCells _ _ _).mono (fun k _ h => (congrArg some h).symm), .inl rfl⟩
      · by_cases hm0 : m = 0
        · subst hm0
          have : w.setCells b n (List.replicate 0 z) = w := rfl
          rw [this]
          simp [Builtin.append_, sli, run_underlying ht, run_underlying htn, go_sem, sizeOf, typeInfo, hi, asInt, asIntOf, zeroValue, hze, hroom, hw0]
          exact fun h => absurd h (by omega)
        · simp [Builtin.append_, sli, run_underlying ht, run_underlying htn, sizeOf, typeInfo, zeroValue, hi, hze, asInt, asIntOf, hw, hneg, h48i, hroom, hm0, hsz, hzc, zeroCells_one, Addr.add_lit, hst]
      · have := Arr.setCells (List.replicate m z) n _ w h4 hnc
        rw [← h5, List.take_append_of_le_length (Nat.le_refl _), List.take_length, List.drop_append] at this
        have e1 : List.drop (cs.length + (List.replicate m z).length) cs = [] := List.drop_of_length_le (by omega)
        have e2 : cs.length + (List.replicate m z).length - cs.length = (List.replicate m z).length := by omega
        rw [e1, e2, List.nil_append] at this
        exact h5 ▸ this
      · rw [List.length_append, h5, List.length_replicate, Nat.mul_one]
      · rw [List.length_drop, h6, List.length_replicate]; omega
    · refine hgrow (some ⟨b, 0, none⟩) cap (by omega) h2 (by omega) ?_ h5
      have := run_loadCells_list (P := P) w.drew ⟨b, 0, none⟩ cs (fun j v hj => by
        rw [add0]
        have h7 : w.cell? ⟨b, 0 + j, none⟩ = some v := h4.cell (by rw [Nat.zero_add, List.getElem?_append_left (List.getElem?_eq_some_iff.1 hj).1]; exact hj)
        exact h7)
      rw [h5] at this
      simpa [Builtin.firstCells, hsz] using this
end
theorem reslot (l : List Value) (t : Nat) {v v' : Value} (h : v = v') : lset l t v = lset l t v' := by rw [h]
/-! a guard that was itself left out -/
theorem wpL.offu {r : Option Nat} {P : Program} {ops : Array Oper} {Q : Exit → Act → World → Prop} {l : List Value} {ds : List Deferred} {w : World} {o : Oper} {rest : List Oper} {g : Nat} {u : Bool} {og : Oper} {t : Tmp} (hg : o.guard = some (g, u)) (ho : ops[g]? = some og) (hd : og.dst = some t) (hl : t < l.length) (hv : nth l t = undef)
    (hk : wpL r P ops Q rest (lput l o.dst undef) ds w) : wpL r P ops Q (o :: rest) l ds w := by
  have hv' : l[t]? = some undef := by rw [nth_eq, List.getD_eq_getElem?_getD, List.getElem?_eq_getElem hl, Option.getD_some] at hv; rw [List.getElem?_eq_getElem hl, hv]
  have hw : Region.wanted o (yielded ops (fr l ds).tmps) = false := by cases u <;> simp [Region.wanted, hg, yielded, ho, hd, fr, hv', undef]
  unfold wpL
  simp only [wpListIn, hw]
  rw [fr_put]
  exact ⟨fun _ _ => trivial, hk⟩
theorem gd_offu {P : Program} {ops : Array Oper} {o : Oper} {l : List Value} {w : World} {R : Value → World → Prop} {g : Nat} {u : Bool} {og : Oper} {t : Tmp} (hg : o.guard = some (g, u)) (ho : ops[g]? = some og) (hd : og.dst = some t) (hl : t < l.length) (hv : nth l t = undef) (h : R undef w) : GDoes P ops o l w R := by
  unfold GDoes
  rw [if_neg (by cases u <;> simp [Region.wanted, hg, yielded_at ho hd hl hv, undef])]; exact h
end Go.Proofs.YtphlhejccgbmfaaF
