/-
  Parts of a row as values; a row part by part.
-/
import Derived.Test.YtnlbekdjepkhcaaFn
set_option linter.unusedVariables false
set_option linter.unusedSimpArgs false
namespace Go.Proofs.YtnlbekdjepkhcaaF
open Go Go.Shelf Go.Proofs.YtnlbekdjepkhcaaS

/-- The value of a part of a slice. -/
def subv (sz l h : Nat) : Value → Value
  | .slice A _ c => .slice (if c = l then A else A.map (·.add (l * sz))) (h - l) (c - l)
  | v => v
section
variable {P : Program} {d : Option Tmp} {tt : TypeId} {s : String} {af : Array Edge} {g : Option (Nat × Bool)} {ρ : Operand → Value} {w : World}
theorem d_subv {α : Type} {q : Kd α} {xs : List α} {X : Nat → Prop} {t e : TypeId} {x : Operand} {bytes : Nat} {z : Value} {l h : Nat} {lo hi : Option Operand} {u : Value} (ht : P.underlying t = some (.slice e)) (hz : TI P e q.sz bytes z) (hx : ρ x = u) (hS : Ps X (Seq q xs u) w)
    (hlo : Bd ρ lo 0 l) (hhi : Bd ρ hi xs.length h) (h1 : l ≤ h) (h2 : h ≤ xs.length) : DV P ⟨d, .slice t x lo hi none, tt, s, af, g⟩ ρ w (subv q.sz l h u) := by
  obtain ⟨A, c, hu, hc, _⟩ := hS.now
  have hr := run_sl (P := P) (w := w) (A := A) (n := xs.length) (c := c) ht hz hlo hhi h1 (by omega)
  subst hu
  refine Does.of_value (v := .slice (if c = l then A else A.map (·.add (l * q.sz))) (h - l) (c - l)) (w' := w) (by simp) ?_ ⟨rfl, rfl⟩
  simp only [execOp, hx, Sem.run_bind, Option.map_none, hr, Result.andThen, Sem.run_pure]
theorem subv_seq {α : Type} {q : Kd α} {xs ys : List α} {X : Nat → Prop} {l h : Nat} {u : Value} (hS : Ps X (Seq q xs u) w) (h1 : l ≤ h) (h2 : h ≤ xs.length) (hy : (xs.take h).drop l = ys) : Ps X (Seq q ys (subv q.sz l h u)) w := by
  subst hy
  obtain ⟨A, c, hu, hc, _⟩ := hS.now
  subst hu
  refine hS.imp (fun w2 h2' => ?_)
  obtain ⟨A2, c2, hu2, hc2, hel⟩ := h2'
  injection hu2 with e1 _ e3
  subst e1; subst e3
  have hlen : ((xs.take h).drop l).length = h - l := by rw [List.length_drop, List.length_take]; omega
  refine ⟨_, _, by rw [hlen]; rfl, by rw [hlen]; omega, fun i v hi' => ?_⟩
  have hil : i < h - l := by rw [← hlen]; exact (List.getElem?_eq_some_iff.1 hi').1
  rw [List.getElem?_drop, List.getElem?_take] at hi'
  split at hi'
  · obtain ⟨ad, hA, hat⟩ := hel (l + i) v hi'
    subst hA
    rw [if_neg (by omega)]
    refine ⟨_, rfl, ?_⟩
    have : (ad.add (l * q.sz)).add (i * q.sz) = ad.add ((l + i) * q.sz) := by rw [add_add, Nat.add_mul]
    rw [this]; exact hat
  · cases hi'
end

theorem oc_nil : ∀ v ∈ ([] : List Value), v.oneCell' = true := fun _ h => by cases h
theorem oc_cons {v : Value} {vs : List Value} (h : v.oneCell' = true) (hs : ∀ v ∈ vs, v.oneCell' = true) : ∀ x ∈ v :: vs, x.oneCell' = true := fun x hx => by
  rcases List.mem_cons.1 hx with rfl | hx
  · exact h
  · exact hs x hx

/-! What is made in a region of open order, and appended to there. -/
theorem xx_newq {bo : Option Nat} {X X' : Nat → Prop} {n : Nat} (hf : ∀ b, bo = some b → n ≤ b) (h : ∀ k, k < n → X' k → X k) : ∀ k, k < n → Orq bo X' k → X k := fun k hk t => t.elim (fun e => by have := hf k e; omega) (h k hk)
theorem orq_skip {bo : Option Nat} {O X : Nat → Prop} (h : ∀ k, O k → X k) : ∀ k, O k → Orq bo X k := fun k t => .inr (h k t)
theorem Ps.orN {X : Nat → Prop} {p : World → Prop} {w : World} (h : Ps X p w) : Ps (OrN X w.heap.size) p w := h.less fun k hk t => t.elim id (fun t => by omega)
theorem orn_mono {O X : Nat → Prop} {n : Nat} (h : ∀ k, O k → X k) : ∀ k, O k → OrN X n k := fun k t => .inl (h k t)
theorem orN_q {bo : Option Nat} {X : Nat → Prop} {n m : Nat} (hf : ∀ b, bo = some b → n ≤ b) : ∀ k, k < m → Orq bo X k → OrN X n k := fun k _ t => t.elim (fun e => .inr (hf k e)) .inl
def RF.ar (O : Nat → Prop) (e : TypeId) (n : Nat) (cs : List Value) (n0 : Nat) (h : ∀ k, O k → k < n0) : RF O :=
  ⟨fun _ u _ _ w => ∃ b, u = sli b 0 n n ∧ Arr e b cs w ∧ n0 ≤ b, fun hp ho => by obtain ⟨b, h1, h2, h3⟩ := hp; exact ⟨b, h1, h2.step ho (fun t => by have := h b t; omega), h3⟩⟩
def RF.ow (O : Nat → Prop) (e : TypeId) (n : Nat) (cs : List Value) (n0 : Nat) (h : ∀ k, O k → k < n0) : RF O :=
  ⟨fun _ u _ _ w => ∃ bo, Ow e 1 bo u n cs w ∧ ∀ b, bo = some b → n0 ≤ b, fun hp ho => by obtain ⟨bo, h1, h2⟩ := hp; exact ⟨bo, h1.step ho (fun b hb t => by have := h b t; have := h2 b hb; omega), h2⟩⟩
theorem fresh_of {bo : Option Nat} {b n0 n : Nat} (h : bo = some b ∨ ∃ c, bo = some c ∧ n ≤ c) (hb : n0 ≤ b) (hn : n0 ≤ n) : ∀ c, bo = some c → n0 ≤ c := fun c hc => by
  rcases h with h | ⟨c', h, h'⟩
  · rw [h] at hc; injection hc with hc; omega
  · rw [h] at hc; injection hc with hc; omega
theorem not_of_lt {X : Nat → Prop} {bo : Option Nat} {n : Nat} (h : ∀ k, X k → k < n) (hf : ∀ b, bo = some b → n ≤ b) : ∀ b, bo = some b → ¬ X b := fun b hb t => by have := h b t; have := hf b hb; omega
/-- What an append to a full slice gives. -/
def AppFull {α : Type} (e : TypeId) (enc : α → Value) (b : Nat) (xs : List α) (w : World) : Value → World → Prop := fun u' w' =>
  ∃ bo', Ow e 1 bo' u' xs.length (xs.map enc) w' ∧ (bo' = some b ∨ ∃ c, bo' = some c ∧ w.heap.size ≤ c) ∧ Only No w w'
section
variable {P : Program} {d : Option Tmp} {tt : TypeId} {s : String} {af : Array Edge} {g : Option (Nat × Bool)} {ρ : Operand → Value} {w : World}
theorem d_append_full {α : Type} {enc : α → Value} {t tx e e' : TypeId} {x y : Operand} {bytes n b : Nat} {z : Value} {v : Value} {xs ys : List α} {ts : Array TypeId} (ht : P.underlying t = some (.slice e)) (htx : P.underlying tx = some (.slice e')) (hz : TI P e 1 bytes z) (hzc : z.cells.size = 1)
    (hx : ρ x = sli b 0 n n) (hy : ρ y = v) (hA : Arr e b (xs.map enc) w) (hxn : xs.length = n) (hs : SrcV 1 ys.length (ys.map enc) v w) (hb : (2 * (xs.length + ys.length) + 192) * bytes ≤ 281474976710656) (hm : xs.length + ys.length < 2 ^ 62) (hts : ts = #[t, tx]) :
    Does P ⟨d, .call ⟨.builtin .append, #[x, y], ts⟩, tt, s, af, g⟩ ρ w (AppFull e enc b (xs ++ ys) w) := by
  subst hts; subst hxn
  obtain ⟨i, hi, hby, hsz, hze⟩ := hz.info
  have hsrc := hs.src (P := P) (bytes := 0) htx
  have hnl := hsrc.newsLen
  rw [← hsz] at hsrc
  suffices hmain : ∃ u' w', (Builtin.append_ #[t, tx] tt #[sli b 0 xs.length xs.length, v]).run P w = .ok u' w' ∧ AppFull e enc b (xs ++ ys) w u' w' by
    obtain ⟨u', w', hr, hA⟩ := hmain
    refine Does.of_value (v := u') (w' := w') (by simp) ?_ hA
    simp only [execOp, resolve, Sem.run_bind, Sem.run_pure, Result.andThen, invoke, builtin, List.map_toArray, List.map_cons, List.map_nil, hx, hy, hr]
  by_cases hm0 : ys.length = 0
  · have hy0 : ys = [] := List.eq_nil_of_length_eq_zero hm0
    subst hy0
    have hrun := run_append_room_src w t tx tt e i ht hi b 0 xs.length xs.length v 0 [] hsrc (by simp) (fun j hj => by simp at hj) (fun j hj => by simp at hj)
    refine ⟨_, _, hrun, some b, .inr ⟨b, xs.length, [], rfl, ?_, ?_, ?_, by simp, by simp⟩, .inl rfl, ?_⟩
    · simp [sli]
    · simp
    · simpa [World.setCells] using hA
    · simpa [World.setCells] using Only.refl No w
  · have hlt : xs.length < xs.length + ys.length := by omega
    have hnc := nextcap_le hlt
    have hfit : Builtin.nextslicecap (xs.length + ys.length) xs.length * i.bytes ≤ 281474976710656 := by
      rw [hby]
      exact Nat.le_trans (Nat.mul_le_mul_right _ hnc) hb
    have hold : (Builtin.firstCells i.size xs.length (.slice (some ⟨b, 0, none⟩) xs.length xs.length)).run P w.drew = .ok (xs.map enc).toArray w.drew := by
      have := run_loadCells_list (P := P) w.drew ⟨b, 0, none⟩ (xs.map enc) (fun j v hj => by
        rw [add0]
        have h7 : w.cell? ⟨b, 0 + j, none⟩ = some v := hA.cell (by rw [Nat.zero_add]; exact hj)
        exact h7)
      rw [List.length_map] at this
      rw [hsz]
      simpa [Builtin.firstCells] using this
    refine ⟨_, _, run_append_grow_src w t tx tt e i z ht hi hze (some ⟨b, 0, none⟩) xs.length xs.length (xs.map enc) hold v ys.length (ys.map enc) hsrc hlt (by omega) hfit, ?_⟩
    have hcap : xs.length + ys.length ≤ grownCap w (xs.length + ys.length) xs.length e := by unfold grownCap Question.cut; simp
    have hzl : (Builtin.zeroCells z.cells (grownCap w (xs.length + ys.length) xs.length e - (xs.length + ys.length))).toList.length = (grownCap w (xs.length + ys.length) xs.length e - (xs.length + ys.length)) * 1 := by
      simp [Builtin.zeroCells, hzc]
    refine ⟨some w.heap.size, .inr ⟨w.heap.size, grownCap w (xs.length + ys.length) xs.length e, (Builtin.zeroCells z.cells (grownCap w (xs.length + ys.length) xs.length e - (xs.length + ys.length))).toList, rfl, ?_, ?_, ?_, ?_, ?_⟩, .inr ⟨_, rfl, Nat.le_refl _⟩, ?_⟩
    · rw [List.length_append]; rfl
    · rw [List.length_append]; exact hcap
    · have := Arr.new w.drew e ((xs.map enc ++ ys.map enc) ++ (Builtin.zeroCells z.cells (grownCap w (xs.length + ys.length) xs.length e - (xs.length + ys.length))).toList)
      have h2 : ((xs.map enc ++ ys.map enc) ++ (Builtin.zeroCells z.cells (grownCap w (xs.length + ys.length) xs.length e - (xs.length + ys.length))).toList).toArray = (xs.map enc ++ ys.map enc).toArray ++ Builtin.zeroCells z.cells (grownCap w (xs.length + ys.length) xs.length e - (xs.length + ys.length)) := by
        apply Array.ext'; simp
      rw [h2] at this
      rw [List.map_append]
      exact this
    · simp
    · rw [List.length_append]; exact hzl
    · have hd : Only No w w.drew := ⟨rfl, rfl, rfl, Nat.le_refl _, fun _ _ _ => rfl⟩
      exact hd.trans (only_alloc _ _)
end

/-- What is left of a row, n taken off i times. -/
def pu (n : Nat) (l : List UInt8) (u : Value) : Nat → Value
  | 0 => u
  | i + 1 => subv 1 n (l.drop (i * n)).length (pu n l u i)
def pv (n : Nat) (l : List UInt8) (u : Value) (i : Nat) : Value := subv 1 0 n (pu n l u i)
def partsV (n : Nat) (l : List UInt8) (u : Value) : List Value := (List.range (l.length / n)).map (pv n l u)
section
variable {n i : Nat} {l : List UInt8} {u x : Value} {X : Nat → Prop} {w : World} {pre : List Value}
theorem parts_more (hn : 0 < n) : n ≤ (l.drop (i * n)).length ↔ i < l.length / n := by
  rw [List.length_drop, Nat.lt_div_iff_mul_lt hn]
  have h1 : (i + 1) * n = i * n + n := by rw [Nat.add_mul, Nat.one_mul]
  constructor
  · intro h
    have := Nat.mul_comm n i
    omega
  · intro h
    have h2 : i + 1 ≤ l.length / n := (Nat.lt_div_iff_mul_lt hn).2 h
    have h3 := (Nat.le_div_iff_mul_le hn).1 h2
    omega
theorem pu_seq (hn : 0 < n) (hS : Ps X (Seq kB l u) w) : ∀ i, i ≤ l.length / n → Ps X (Seq kB (l.drop (i * n)) (pu n l u i)) w
  | 0, _ => by rw [Nat.zero_mul, List.drop_zero]; exact hS
  | i + 1, hi => subv_seq (q := kB) (pu_seq hn hS i (by omega)) ((parts_more hn).2 (by omega)) (Nat.le_refl _) (by rw [List.take_length, List.drop_drop, Nat.add_mul, Nat.one_mul])
theorem pv_seq (hn : 0 < n) (hS : Ps X (Seq kB l u) w) (i : Nat) (hi : i < l.length / n) : Ps X (Seq kB ((l.drop (i * n)).take n) (pv n l u i)) w :=
  subv_seq (q := kB) (pu_seq hn hS i (by omega)) (Nat.zero_le _) ((parts_more hn).2 hi) (by rw [List.drop_zero])
theorem parts_len (n : Nat) (l : List UInt8) (u : Value) : (partsV n l u).length = l.length / n := by simp [partsV]
theorem parts_snoc (hi : i < l.length / n) : (partsV n l u).take i ++ [pv n l u i] = (partsV n l u).take (i + 1) := by
  rw [List.take_add_one]
  congr 1
  simp [partsV, hi]
theorem parts_pre (hi : i < l.length / n) : (partsV n l u).take i ++ [pv n l u i] <+: partsV n l u := by rw [parts_snoc hi]; exact List.take_prefix _ _
theorem parts_all (h : ¬ i < l.length / n) : (partsV n l u).take i = partsV n l u := List.take_of_length_le (by rw [parts_len]; omega)
theorem parts_in (h : pre ++ [x] <+: partsV n l u) : pre.length < l.length / n ∧ x = pv n l u pre.length := by
  obtain ⟨r, hr⟩ := h
  have h1 := congrArg List.length hr
  rw [parts_len, List.length_append, List.length_append, List.length_singleton] at h1
  have h2 : pre.length < l.length / n := by omega
  refine ⟨h2, ?_⟩
  have h3 := congrArg (fun z => z[pre.length]?) hr
  simp only [partsV, List.getElem?_map, List.getElem?_range h2, Option.map_some, List.append_assoc] at h3
  rw [List.getElem?_append_right (Nat.le_refl _)] at h3
  simpa using h3
end
end Go.Proofs.YtnlbekdjepkhcaaF
