/-
  What the generator's lines name beside.
-/
import Derived.Test.YtnlbekdjepkhcaaFf
import Derived.Test.YtnlbekdjepkhcaaProg
import Derived.Laws.IdiomCopy
set_option linter.unusedVariables false
set_option linter.unusedSimpArgs false
namespace Go.Proofs.YtnlbekdjepkhcaaF
open Go Go.Shelf Go.Proofs.YtnlbekdjepkhcaaS

theorem s_mx : Try.prog.follows .mixedOrders = true := by kernel_rfl
theorem fr_eq {Q : Exit → Act → World → Prop} {l l' : List Value} {ds : List Deferred} {w : World} (h : l = l') (hq : Q .normal (fr l' ds) w) : Q .normal (fr l ds) w := by rw [h]; exact hq

section
variable {w w' W base : World} {e : TypeId} {b n n' i : Nat} {α : Type} {enc : α → Value} {xs ys : List α} {bo bo' bo0 : Option Nat} {T X X' O : Nat → Prop} {p : World → Prop}
theorem g_at {d : α} (h : i < xs.length) : xs[i]? = some (xs.getD i d) := by rw [List.getD_eq_getElem?_getD, List.getElem?_eq_getElem h]; rfl
theorem m_at {d : α} (h : i < xs.length) : (xs.map enc)[i]? = some (enc (xs.getD i d)) := by rw [List.getElem?_map, g_at (d := d) h]; rfl
theorem m_put (xs : List α) (i : Nat) (v : α) (enc : α → Value) : (xs.map enc).set i (enc v) = (xs.set i v).map enc := by rw [List.map_set]
theorem seq_nil : Ps X (Seq (kS enc) ([] : List α) (.slice none 0 0)) w := Ps.mk0 fun w => ⟨none, 0, rfl, Nat.le_refl _, fun i x h => by simp at h⟩
theorem arr_part {o c : Nat} (h : Arr e b (xs.map enc) w) (hy : (xs.drop o).take n = ys) (hn : ys.length = n) (hc : n ≤ c) : Ps No (Seq (kS enc) ys (sli b o n c)) w := by
  refine (h.ps fun w' h' => ?_).less (fun _ _ t => t.elim)
  subst hn
  refine ⟨_, _, rfl, hc, fun i x hi => ⟨_, rfl, ?_⟩⟩
  show w'.cell? _ = some (enc x)
  rw [add0]
  refine h'.cell ?_
  have hi2 := hi
  rw [← hy, List.getElem?_take] at hi2
  split at hi2
  · rw [List.getElem?_drop] at hi2
    show (xs.map enc)[o + i * 1]? = _
    rw [Nat.mul_one, List.getElem?_map, hi2]; rfl
  · cases hi2
theorem arr_seq {c : Nat} (h : Arr e b (xs.map enc) w) (hn : xs.length = n) (hc : n ≤ c) : Ps No (Seq (kS enc) xs (sli b 0 n c)) w := arr_part h (by rw [List.drop_zero, ← hn, List.take_length]) hn hc
/-- The same, kept: but for the block itself, whatever else turns. -/
theorem arr_keep {c : Nat} (h : Arr e b (xs.map enc) w) (hn : xs.length = n) (hc : n ≤ c) (hX : ∀ k, k < w.heap.size → X k → k ≠ b) : Ps X (Seq (kS enc) xs (sli b 0 n c)) w := by
  refine (h.ps fun w' h' => ?_).less hX
  have := arr_seq h' hn hc
  exact this.now
theorem made_old {mk : Nat → Value} {cs : List Value} {q : Value → World → Prop} {u : Value} (h : Made e w mk cs u w') (hq : ∀ b w', Arr e b cs w' → q (mk b) w') : RPs q w u w' := by
  obtain ⟨b, rfl, hb, hA, hO⟩ := h
  exact ⟨(hA.ps fun w2 h2 => hq b w2 h2).less (fun k hk t => by have : k < w.heap.size := t; omega), hO⟩
theorem made_seq {cs : List Value} {u : Value} (h : Made e w (fun b => sli b 0 n n) cs u w') (hn : xs.length = n) (hc : cs = xs.map enc := by rfl) : RPs (Seq (kS enc) xs) w u w' := by
  subst hc
  exact made_old h fun b w2 h2 => (arr_seq h2 hn (Nat.le_refl _)).now
theorem made_zero {x : α} {z : Value} {u : Value} (h : Made e w (fun b => sli b 0 n n) (List.replicate n z) u w') (hz : z = enc x := by rfl) : RPs (Seq (kS enc) (List.replicate n x)) w u w' :=
  made_seq h (by simp) (by rw [hz, List.map_replicate])
theorem Ow.of_map (h : Arr e b (xs.map enc) w) (hn : xs.length = n) : Ow e 1 (some b) (sli b 0 n n) n (xs.map enc) w := Ow.of_made h (by simp [hn])

/-! rows that grow -/
theorem nqs {w : World} (hn : ∀ x, bo = some x → ¬ x = b) (hq : Fr bo' bo w.heap.size) (hb : b < w.heap.size) : ∀ x, bo' = some x → ¬ x = b := fun x hx e => (hq x hx).elim (fun h => hn x h e) (fun h => by omega)
theorem qtr (h : Fr bo' bo w.heap.size) (q : Fr bo bo0 base.heap.size) (hs : base.heap.size ≤ w.heap.size) : Fr bo' bo0 base.heap.size := fun c hc => (h c hc).elim (q c) (fun h => .inr (by omega))
theorem _root_.Go.Proofs.YtnlbekdjepkhcaaS.Only.tailr (h : Only T base w) (h2 : Only (Isq bo) w w') (q : Fr bo bo0 base.heap.size) (hT : ∀ b, bo0 = some b → T b) : Only T base w' := h.tail h2 fun k hk t => (q k t).elim (hT k) (fun h => by omega)
theorem tl_no : ∀ k, k < n → No k → T k := fun _ _ t => t.elim
theorem tl_new (hb : n ≤ b) (h : ∀ k, k < n → O k → T k) : ∀ k, k < n → Or1 b O k → T k := fun k hk t => t.elim (fun e => by omega) (h k hk)
theorem tl_in (hb : T b) (h : ∀ k, k < n → O k → T k) : ∀ k, k < n → Or1 b O k → T k := fun k hk t => t.elim (fun e => by rw [e]; exact hb) (h k hk)
theorem tl_q (q : Fr bo bo0 base.heap.size) (hT : ∀ b, bo0 = some b → T b) (h : ∀ k, k < base.heap.size → O k → T k) : ∀ k, k < base.heap.size → Orq bo O k → T k := fun k hk t => t.elim (fun e => (q k e).elim (hT k) (fun h => by omega)) (h k hk)
theorem xx_id : ∀ k, k < n → X k → X k := fun _ _ t => t
theorem xx_or1 (h : ∀ k, k < n → X' k → X k) : ∀ k, k < n → Or1 b X' k → Or1 b X k := fun k hk t => t.imp id (h k hk)
theorem xx_orq (h : ∀ k, k < n → X' k → X k) : ∀ k, k < n → Orq bo X' k → Orq bo X k := fun k hk t => t.imp id (h k hk)
theorem xx_re (q : Fr bo' bo n) (h : ∀ k, k < n → X' k → X k) : ∀ k, k < n → Orq bo' X' k → Orq bo X k := fun k hk t => t.imp (fun e => (q k e).elim id (fun h => by omega)) (h k hk)
theorem Ps.re (h : Ps X p w) (hO : Only O w w') (hX : ∀ k, O k → X k) (hXX : ∀ k, k < w.heap.size → X' k → X k) : Ps X' p w' := fun w2 h2 =>
  h w2 fun k hk hx => (h2 k (Nat.lt_of_lt_of_le hk hO.size) fun t => hx (hXX k hk t)).trans (hO.same k hk fun t => hx (hX k t))
theorem Ps.gr (h : Ps X p w) (hO : Only (Isq bo) w w') (hX : ∀ k, bo = some k → X k) (hXX : ∀ k, k < w.heap.size → X' k → X k) : Ps X' p w' := h.re hO hX hXX
end

section
variable {P : Program} {d : Option Tmp} {tt : TypeId} {s : String} {af : Array Edge} {g : Option (Nat × Bool)} {ρ : Operand → Value} {w : World} {t e : TypeId} {x y : Operand} {b o n c i j : Nat} {bytes sz : Nat} {z : Value} {k : IntKind}
theorem d_index1 (ht : P.underlying t = some (.slice e)) (hz : TI P e 1 bytes z) (hx : ρ x = sli b 0 n c) (hy : ρ y = .int k (i : Int)) (h1 : i < n) : DV P ⟨d, .indexAddr t x y, tt, s, af, g⟩ ρ w (ptr b i) :=
  d_index ht hz hx hy (by omega) (by omega) (by simp)
theorem d_indexArr1 (ht : P.underlying t = some (.array n e)) (hz : TI P e 1 bytes z) (hx : ρ x = ptr b 0) (hy : ρ y = .int k (i : Int)) (h1 : i < n) : DV P ⟨d, .indexAddr t x y, tt, s, af, g⟩ ρ w (ptr b i) :=
  d_indexArr ht hz hx hy (by omega) (by omega) (by simp)
theorem d_str0 {src dst e : TypeId} (hs : P.underlying src = some (.slice e)) (he : P.underlying e = some (.int .u8)) (hd : P.underlying dst = some .string) (hx : ρ x = .slice none 0 0) : DV P ⟨d, .convert src dst x, tt, s, af, g⟩ ρ w (.string (strOf [])) :=
  d_str hs he hd hx (seq_nil (X := No))
theorem u64_wrapN {a : Nat} (h : a < 18446744073709551616) : IntKind.u64.wrap (a : Int) = (a : Int) := by
  simp only [IntKind.wrap, IntKind.bits, IntKind.signed, Bool.false_and, Bool.false_eq_true, if_false]
  exact Int.emod_eq_of_lt (by omega) (by omega)
theorem n_toU {src dst : TypeId} {u : TypeDesc} {a : Nat} (hs : P.underlying src = some u) (hd : P.underlying dst = some (.int .u64)) (hx : ρ x = eN a) (h : a < 9223372036854775808) : DV P ⟨d, .convert src dst x, tt, s, af, g⟩ ρ w (.int .u64 (a : Int)) :=
  d_conv hs hd hx (u64_wrapN (by omega))
theorem d_field {fs : Array Field} {f : Nat} {fd : Field} {cs : List Value} {v : Value} (ht : P.underlying t = some (.struct fs)) (hf : fs[f]? = some fd) (hs : Sc P fd.type) (hx : ρ x = .agg cs.toArray) (hv : cs[fd.offset]? = some v) : DV P ⟨d, .field t x f, tt, s, af, g⟩ ρ w v := by
  refine Does.of_value (v := v) (w' := w) (by simp) ?_ ⟨rfl, rfl⟩
  simp [execOp, Instr.field, run_underlying ht, hf, hx, asAgg, part, run_isAgg_sc hs, hv, go_sem]
theorem d_fieldAg {fs : Array Field} {f n : Nat} {fd : Field} {cs vs : List Value} (ht : P.underlying t = some (.struct fs)) (hf : fs[f]? = some fd) (hs : Ag P fd.type) (hz : TI P fd.type n bytes z) (hx : ρ x = .agg cs.toArray) (hv : (cs.drop fd.offset).take n = vs) : DV P ⟨d, .field t x f, tt, s, af, g⟩ ρ w (.agg vs.toArray) := by
  refine Does.of_value (v := .agg vs.toArray) (w' := w) (by simp) ?_ ⟨rfl, rfl⟩
  have he : cs.toArray.extract fd.offset (fd.offset + n) = vs.toArray := by
    rw [← hv]
    apply Array.ext'
    simp [List.extract_eq_take_drop, Nat.add_sub_cancel_left]
  simp [execOp, Instr.field, run_underlying ht, hf, hx, asAgg, part, run_isAgg_agg hs, hz.size, he, go_sem, hv]
theorem d_fieldAddr {fs : Array Field} {f : Nat} {fd : Field} (ht : P.underlying t = some (.struct fs)) (hf : fs[f]? = some fd) (hz : TI P fd.type n bytes z) (hn : n ≠ 0) (hx : ρ x = ptr b o) (hj : o + fd.offset = j) : DV P ⟨d, .fieldAddr t x f, tt, s, af, g⟩ ρ w (ptr b j) := by
  subst hj
  refine Does.of_value (v := ptr b (o + fd.offset)) (w' := w) (by simp) ?_ ⟨rfl, rfl⟩
  have hx' : ρ x = .pointer (some ⟨b, o, none⟩) := hx
  simp [execOp, Instr.fieldAt, Instr.sureAddr, fieldPlace, run_underlying ht, hf, hx', hz.size, hn, add0, go_sem]
  rfl
/-- Several cells written. -/
theorem d_storeAg {n : Nat} {cs vs cs' : List Value} (hz : TI P t n bytes z) (hx : ρ x = ptr b o) (hy : ρ y = .agg vs.toArray) (hn : vs.length = n) (h1 : ∀ v ∈ vs, v.oneCell' = true) (hA : Arr e b cs w) (hi : o + n ≤ cs.length) (hc : cs.take o ++ vs ++ cs.drop (o + n) = cs') :
    Does P ⟨d, .store t x y, tt, s, af, g⟩ ρ w (Wrote e b cs' w) := by
  subst hc; subst hn
  have hst := run_storeCells_cells (P := P) b o vs 0 w (fun j hj => by rw [hA.cell (List.getElem?_eq_getElem (by omega))]; rfl) (fun j hj => hA.frozen) h1
  refine Does.of_skip (w' := w.setCells b o vs) (by simp) ?_ ⟨Arr.setCells vs o cs w hA hi, only_setCells vs o w⟩
  have hx' : ρ x = .pointer (some ⟨b, o, none⟩) := hx
  have hsv : (storeVar t ⟨b, o, none⟩ (.agg vs.toArray)).run P w = .ok () (w.setCells b o vs) := by
    unfold storeVar
    have hcs : (Value.agg vs.toArray).cells = vs.toArray := rfl
    rw [hcs]
    simp only [Sem.run_bind, hz.size, Result.andThen, List.size_toArray, ne_eq, not_true_eq_false, if_false]
    simpa using hst
  simp only [execOp, Instr.storeAt, Sem.run_bind, Instr.sureAddr, hx', hy, Sem.run_pure, Result.andThen, hsv]
theorem resC {fn : Func} {l : List Value} {tm : Tmp} {n : Nat} {cs : List Value} (hr : fn.results = #[.cell tm t]) (ht : Ag P t) (hz : TI P t n bytes z) (hv : nth l tm = ptr b 0) (hA : Arr e b cs w) (hn : cs.length = n) : (results fn l.toArray).run P w = .ok (.agg cs.toArray) w := by
  subst hn
  have hv' : l.getD tm undef = .pointer (some ⟨b, 0, none⟩) := by rw [← nth_eq]; exact hv
  have hl : (loadCells ⟨b, 0, none⟩ cs.length).run P w = .ok cs.toArray w := run_loadCells_list (P := P) w _ cs (fun j v hj => by rw [add0]; exact hA.cell (by simpa using hj))
  have hl' : (loadVar t ⟨b, 0, none⟩).run P w = .ok (.agg cs.toArray) w := by
    unfold loadVar
    simp only [Sem.run_bind, run_isAgg_agg ht, Result.andThen, if_true, hz.size, hl, Sem.run_pure]
  unfold results
  rw [hr]
  have hg : l[tm]?.getD undef = .pointer (some ⟨b, 0, none⟩) := by rw [← hv', List.getD_eq_getElem?_getD]
  simp [Sem.run_bind, Sem.run_pure, Result.andThen, hg, asAddr, hl']
theorem oneC {α : Type} {enc : α → Value} (h : ∀ x, (enc x).oneCell' = true) (xs : List α) : ∀ v ∈ xs.map enc, v.oneCell' = true := fun v hv => by obtain ⟨x, _, rfl⟩ := List.mem_map.1 hv; exact h x
end
end Go.Proofs.YtnlbekdjepkhcaaF
namespace Go.Proofs.YtnlbekdjepkhcaaF
open Go Go.Shelf Go.Proofs.YtnlbekdjepkhcaaS
section
variable {w w' W base : World} {e : TypeId} {b n n' i : Nat} {α : Type} {enc : α → Value} {xs ys zs : List α} {bo bo' bo0 bo2 : Option Nat} {T X X' O : Nat → Prop} {p : World → Prop} {u : Value}
theorem ROw.mk_ (h : Ow e 1 bo u ys.length (ys.map enc) w') (he : ys = xs) (q : Fr bo none W.heap.size) (hO : Only No W w') : ROw e enc xs W u w' := by
  subst he
  exact ⟨bo, h, fun b hb => (q b hb).elim (fun h => by cases h) id, hO⟩
theorem ROw.arr (h : Arr e b (ys.map enc) w') (hn : ys.length = n) (he : ys = xs) (hb : W.heap.size ≤ b) (hO : Only No W w') : ROw e enc xs W (sli b 0 n n) w' := by
  subst he; subst hn
  exact ⟨some b, Ow.of_map h rfl, fun c hc => by injection hc with hc; omega, hO⟩
theorem ROw.nil {e : TypeId} (he : ([] : List α) = xs) (hO : Only No W w') : ROw e enc xs W (.slice none 0 0) w' := by
  subst he
  exact ⟨none, Ow.nil _ _ _, (fun _ h => by cases h), hO⟩
theorem Ps.newq (h : Ps X p w) (hO : Only No w w') (hf : ∀ b, bo = some b → w.heap.size ≤ b) : Ps (Orq bo X) p w' := fun w2 h2 =>
  h w2 fun k hk hx => (h2 k (Nat.lt_of_lt_of_le hk hO.size) fun t => t.elim (fun e => by have := hf k e; omega) hx).trans (hO.same k hk id)
theorem qnew (hf : ∀ b, bo = some b → w.heap.size ≤ b) (hs : base.heap.size ≤ w.heap.size) : Fr bo none base.heap.size := Fr.fresh hf hs
theorem nq_new (hf : ∀ b, bo = some b → w.heap.size ≤ b) (hb : b < w.heap.size) : ∀ x, bo = some x → ¬ x = b := fun x hx e => by have := hf x hx; omega
theorem nqq_new (hf : ∀ b, bo = some b → w.heap.size ≤ b) (hb : ∀ x, bo2 = some x → x < w.heap.size) : ∀ x, bo2 = some x → bo = some x → False := fun x h1 h2 => by have := hf x h2; have := hb x h1; omega
theorem nqq_step (hn : ∀ x, bo2 = some x → bo = some x → False) (hq : Fr bo' bo w.heap.size) (hb : ∀ x, bo2 = some x → x < w.heap.size) : ∀ x, bo2 = some x → bo' = some x → False := fun x h1 h2 => (hq x h2).elim (hn x h1) (fun h => by have := hb x h1; omega)
theorem Ow.lts {sz : Nat} {cs : List Value} (h : Ow e sz bo u n cs w) : ∀ x, bo = some x → x < w.heap.size := fun x hx => by subst hx; exact h.lt
theorem Ow.at_ (h : Ow e 1 bo u n (xs.map enc) w) (hn : xs.length = n) (hi : i < n) : ∃ b cap rest, bo = some b ∧ u = sli b 0 n cap ∧ n ≤ cap ∧ Arr e b (xs.map enc ++ rest) w ∧ rest.length = cap - n := by
  rcases h with ⟨h1, h2, h3, h4⟩ | ⟨b, cap, rest, h1, h2, h3, h4, h5, h6⟩
  · omega
  · exact ⟨b, cap, rest, h1, h2, h3, h4, by omega⟩
end
section
variable {P : Program} {d : Option Tmp} {tt : TypeId} {s : String} {af : Array Edge} {g : Option (Nat × Bool)} {ρ : Operand → Value} {w : World} {t e : TypeId} {x y : Operand} {b o n c i j : Nat} {bytes sz : Nat} {z : Value} {k : IntKind} {α : Type} {enc : α → Value} {xs ys zs : List α} {bo : Option Nat} {u : Value}
/-- A pointer into an owned row. -/
def InRow (bo : Option Nat) (i : Nat) (u : Value) : Prop := ∃ b, bo = some b ∧ u = ptr b i
theorem d_indexOw (ht : P.underlying t = some (.slice e)) (hz : TI P e 1 bytes z) (hx : ρ x = u) (hO : Ow e 1 bo u xs.length (xs.map enc) w) (hy : ρ y = .int k (i : Int)) (h1 : i < xs.length) : Does P ⟨d, .indexAddr t x y, tt, s, af, g⟩ ρ w fun u' w' => InRow bo i u' ∧ w = w' := by
  obtain ⟨b, cap, rest, hb, hu, hc, hA, hr⟩ := hO.at_ rfl h1
  subst hu
  exact (d_index1 ht hz hx hy h1).mono fun u' w' ⟨h2, h3⟩ => ⟨⟨b, hb, h2⟩, h3.symm⟩
theorem d_loadOw {v : α} {p : Value} (ht : Sc P t) (hx : ρ x = p) (hp : InRow bo i p) (hO : Ow e 1 bo u xs.length (xs.map enc) w) (hv : xs[i]? = some v) : DV P ⟨d, .load t x, tt, s, af, g⟩ ρ w (enc v) := by
  obtain ⟨b, cap, rest, hb, hu, hc, hA, hr⟩ := hO.at_ rfl (List.getElem?_eq_some_iff.1 hv).1
  obtain ⟨b', hb', hp'⟩ := hp
  rw [hb] at hb'; injection hb' with hb'; subst hb'
  refine d_load ht (hx.trans hp') hA ?_
  rw [List.getElem?_append_left (by simp; exact (List.getElem?_eq_some_iff.1 hv).1), List.getElem?_map, hv]; rfl
def WroteOw (e : TypeId) (enc : α → Value) (bo : Option Nat) (u : Value) (xs : List α) (w : World) : Value → World → Prop := fun _ w' => Ow e 1 bo u xs.length (xs.map enc) w' ∧ Only (Isq bo) w w'
theorem d_storeOw {v : α} {p : Value} (hz : TI P t 1 bytes z) (hx : ρ x = p) (hp : InRow bo i p) (hy : ρ y = enc v) (h1 : (enc v).oneCell' = true) (hO : Ow e 1 bo u xs.length (xs.map enc) w) (hi : i < xs.length) (hxs : xs.set i v = zs) : Does P ⟨d, .store t x y, tt, s, af, g⟩ ρ w (WroteOw e enc bo u zs w) := by
  subst hxs
  obtain ⟨b, cap, rest, hb, hu, hc, hA, hr⟩ := hO.at_ rfl hi
  obtain ⟨b', hb', hp'⟩ := hp
  rw [hb] at hb'; injection hb' with hb'; subst hb'
  refine (d_store hz (hx.trans hp') hy h1 hA (by simp; omega) rfl).mono fun u' w' ⟨h2, h3⟩ => ⟨.inr ⟨b, cap, rest, hb, by rw [hu, List.length_set], by rw [List.length_set]; exact hc, ?_, by simp, by rw [List.length_set]; omega⟩, h3.mono fun k _ h => by have : k = b := h; rw [this]; exact hb⟩
  rw [List.set_append_left _ _ (by simp; exact hi), List.map_set] at *
  exact h2
theorem d_copy {X : Nat → Prop} {us : Value} {ts : Array TypeId} {dT sT : TypeId} (hts : ts = #[dT, sT]) (ht : P.underlying dT = some (.slice e)) (hz : TI P e 1 bytes z) (hx : ρ x = sli b o n c) (hy : ρ y = us) (hA : Arr e b (xs.map enc) w) (hS : Ps X (Seq (kS enc) ys us) w) (h1 : ∀ v, (enc v).oneCell' = true)
    (hfit : o + n ≤ xs.length) (hk : min ys.length n = j) (hnew : xs.take o ++ ys.take j ++ xs.drop (o + j) = zs) : Does P ⟨d, .call ⟨.builtin .copy, #[x, y], ts⟩, tt, s, af, g⟩ ρ w fun u' w' => u' = eN j ∧ Arr e b (zs.map enc) w' ∧ Only (Is1 b) w w' := by
  subst hts; subst hnew; subst hk
  obtain ⟨A, cc, hu, hc, hel⟩ := hS.now
  subst hu
  have hzi : (P.info? e).map (·.size) = some 1 := by
    obtain ⟨i, hi, _, hs, _⟩ := hz.info
    rw [hi]; simp [hs]
  have hsame : Only (Is1 b) w w := Only.refl _ _
  cases A with
  | none =>
    have hys : ys = [] := by
      cases ys with
      | nil => rfl
      | cons v r => obtain ⟨ad, h, _⟩ := hel 0 v rfl; cases h
    subst hys
    refine Does.of_value (v := eN 0) (w' := w) (by simp) ?_ ⟨by simp, by simpa using hA, hsame⟩
    have := run_copy_none (P := P) w dT sT tt e (some ⟨b, o, none⟩) none n c 0 cc ht hzi (by simp [Nat.min_def])
    simp only [execOp, resolve, Sem.run_bind, Sem.run_pure, Result.andThen, invoke, builtin, List.map_toArray, List.map_cons, List.map_nil, hx, hy, sli, List.length_nil, this]
    rfl
  | some a =>
    have hmin : Nat.min ys.length n = min ys.length n := rfl
    have hlen : ((ys.take (min ys.length n)).map enc).length = Nat.min ys.length n := by simp [List.length_take]
    have hrun := run_copy_row (P := P) w dT sT tt e b o n c a ys.length cc (xs.map enc).toArray e ((ys.take (min ys.length n)).map enc) ht hzi hA hlen (fun j v hj => by
      rw [List.getElem?_map, List.getElem?_take] at hj
      split at hj
      · cases hq : ys[j]? with
        | none => rw [hq] at hj; cases hj
        | some v' =>
          rw [hq] at hj
          obtain ⟨ad, h2, h3⟩ := hel j v' hq
          injection h2 with h2
          subst h2
          have h4 : w.cell? (a.add (j * 1)) = some (enc v') := h3
          rw [Nat.mul_one] at h4
          rw [h4]; exact hj
      · cases hj) (by rw [hlen, hmin]; simp; omega) (oneC h1 _)
    refine Does.of_value (v := eN (min ys.length n)) (w' := w.setRow b (((xs.map enc).toArray.toList.take o ++ (ys.take (min ys.length n)).map enc ++ (xs.map enc).toArray.toList.drop (o + ((ys.take (min ys.length n)).map enc).length)).toArray)) (by simp) ?_ ⟨rfl, ?_, ?_⟩
    · simp only [execOp, resolve, Sem.run_bind, Sem.run_pure, Result.andThen, invoke, builtin, List.map_toArray, List.map_cons, List.map_nil, hx, hy, sli, hrun]
      rw [hlen]; rfl
    · have h5 := setRow_heap w b (xs.map enc).toArray (((xs.map enc).toArray.toList.take o ++ (ys.take (min ys.length n)).map enc ++ (xs.map enc).toArray.toList.drop (o + ((ys.take (min ys.length n)).map enc).length)).toArray) e (0, 0) hA
      unfold Arr
      rw [h5, hlen, hmin]
      simp [List.map_take, List.map_drop]
    · refine ⟨rfl, rfl, rfl, by simp [World.setRow], fun k hk hne => ?_⟩
      have hne' : b ≠ k := fun e => hne e.symm
      simp [World.setRow, Array.getElem?_modify, hne']
end
end Go.Proofs.YtnlbekdjepkhcaaF
