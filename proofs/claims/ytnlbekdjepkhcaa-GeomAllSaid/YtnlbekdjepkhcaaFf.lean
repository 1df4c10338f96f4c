/-
  Control; numbers that are naturals or bytes; copies, fields.
-/
import Derived.Test.YtnlbekdjepkhcaaFe
import Derived.LoopNIn
set_option linter.unusedVariables false
set_option linter.unusedSimpArgs false
namespace Go.Proofs.YtnlbekdjepkhcaaF
open Go Go.Shelf Go.Proofs.YtnlbekdjepkhcaaS

/-! ### Control -/
def marks (rs : List Nat) : List Deferred := rs.map fun r => { target := .collected r, args := #[] }
def MarksOk (rs : List Nat) (w : World) : Prop := rs.Nodup ∧ ∀ r ∈ rs, w.heap[r]? = some (.deferred (some []))
def fm (l : List Value) (rs : List Nat) : Act := fr l (marks rs)

section
variable {P : Program} {r : Option Nat} {Q : Exit → Act → World → Prop} {K : Act → World → Prop} {a : Act} {w : World} {l : List Value} {ds : List Deferred} {x y : Code} {id id' : Nat}
theorem then_n (h : K a w) : Exit.then K Q .normal a w := h
theorem then_x (h : Q (.exit id) a w) : Exit.then K Q (.exit id) a w := h
theorem then_r (h : Q .ret a w) : Exit.then K Q .ret a w := h
theorem inb_n (h : Q .normal a w) : Exit.inBlock id Q .normal a w := h
theorem inb_r (h : Q .ret a w) : Exit.inBlock id Q .ret a w := h
theorem inb_e (h : Q .normal a w) : Exit.inBlock id Q (.exit id) a w := by simp only [Exit.inBlock, if_true]; exact h
theorem inb_x (hne : id' ≠ id) (h : Q (.exit id') a w) : Exit.inBlock id Q (.exit id') a w := by simp only [Exit.inBlock, if_neg hne]; exact h
theorem wp_eq {l' : List Value} {c : Code} (h : l = l') (hc : c.wpIn (Wf r) 0 P Q (fr l' ds) w) : c.wpIn (Wf r) 0 P Q (fr l ds) w := by rw [h]; exact hc
theorem cond_t {t : Tmp} (hc : nth l t = .bool true) (h : x.wpIn (Wf r) 0 P Q (fr l ds) w) : (Code.cond (.tmp t) x y).wpIn (Wf r) 0 P Q (fr l ds) w := wpIn_cond_true (by rw [fr_eval]; exact hc) h
theorem cond_f {t : Tmp} (hc : nth l t = .bool false) (h : y.wpIn (Wf r) 0 P Q (fr l ds) w) : (Code.cond (.tmp t) x y).wpIn (Wf r) 0 P Q (fr l ds) w := wpIn_cond_false (by rw [fr_eval]; exact hc) h

theorem loop {c : Code} {σ : Type} (Inv : σ → List Value → List Deferred → World → Prop) (μ : σ → Nat) (s0 : σ) (h0 : Inv s0 l ds w)
    (round : ∀ s l ds w, Inv s l ds w → c.wpIn (Wf r) 0 P (Exit.then (fun a' w' => ∃ s' l' ds', a' = fr l' ds' ∧ Inv s' l' ds' w' ∧ μ s' < μ s) Q) (fr l ds) w) : (Code.loop c).wpIn (Wf r) 0 P Q (fr l ds) w := by
  refine wpIn_loop_rounds (μ s0 + 1) ?_
  have key : ∀ m s l ds w, μ s < m → Inv s l ds w → Code.roundsIn (Wf r) 0 P c Q m (fr l ds) w := by
    intro m
    induction m with
    | zero => intro s l ds w h; omega
    | succ m ih =>
      intro s l ds w h hI
      rw [roundsIn_succ]
      refine wpIn_mono (round s l ds w hI) ?_
      intro e a w he
      cases e with
      | normal =>
        obtain ⟨s', l', ds', rfl, hI', hlt⟩ := he
        exact ih s' l' ds' w (by omega) hI'
      | _ => exact he
  exact key _ s0 l ds w (by omega) h0

/-- A loop: what the slots hold is told by the ghost state s, the others hold whatever they hold (z). -/
theorem loop2 {c : Code} {σ : Type} (shape : σ → (Nat → Value) → List Value) (Inv : σ → World → Prop) (μ : σ → Nat) (s0 : σ) (hl : l = shape s0 (nth l)) (h0 : Inv s0 w)
    (round : ∀ s z w, Inv s w → c.wpIn (Wf r) 0 P (Exit.then (fun a' w' => ∃ l' s', a' = fr l' ds ∧ l' = shape s' (nth l') ∧ Inv s' w' ∧ μ s' < μ s) Q) (fr (shape s z) ds) w) : (Code.loop c).wpIn (Wf r) 0 P Q (fr l ds) w := by
  refine loop (σ := σ) (fun s l ds' w => ds' = ds ∧ (∃ z, l = shape s z) ∧ Inv s w) μ s0 ⟨rfl, ⟨_, hl⟩, h0⟩ ?_
  rintro s _ _ w ⟨rfl, ⟨z, rfl⟩, hI⟩
  refine wpIn_mono (round s z w hI) ?_
  intro e a w he
  cases e with
  | normal =>
    obtain ⟨l', s', rfl, hl', hI', hlt⟩ := he
    exact ⟨s', l', _, rfl, ⟨rfl, ⟨_, hl'⟩, hI'⟩, hlt⟩
  | _ => exact he
theorem cond_if {t : Tmp} {p : Prop} [Decidable p] (hc : nth l t = .bool (decide p)) (ht : p → x.wpIn (Wf r) 0 P Q (fr l ds) w) (hf : ¬p → y.wpIn (Wf r) 0 P Q (fr l ds) w) : (Code.cond (.tmp t) x y).wpIn (Wf r) 0 P Q (fr l ds) w := by
  by_cases h : p
  · exact cond_t (hc.trans (by rw [decide_eq_true h])) (ht h)
  · exact cond_f (hc.trans (by rw [decide_eq_false h])) (hf h)
theorem cond_un {t : Tmp} {p : Prop} [Decidable p] (hc : nth l t = .bool (!decide p)) (ht : ¬p → x.wpIn (Wf r) 0 P Q (fr l ds) w) (hf : p → y.wpIn (Wf r) 0 P Q (fr l ds) w) : (Code.cond (.tmp t) x y).wpIn (Wf r) 0 P Q (fr l ds) w := by
  by_cases h : p
  · exact cond_f (hc.trans (by rw [decide_eq_true h]; rfl)) (hf h)
  · exact cond_t (hc.trans (by rw [decide_eq_false h]; rfl)) (ht h)
theorem cond_b {t : Tmp} {b : Bool} (hc : nth l t = .bool b) (ht : b = true → x.wpIn (Wf r) 0 P Q (fr l ds) w) (hf : b = false → y.wpIn (Wf r) 0 P Q (fr l ds) w) : (Code.cond (.tmp t) x y).wpIn (Wf r) 0 P Q (fr l ds) w := by
  cases b
  · exact cond_f hc (hf rfl)
  · exact cond_t hc (ht rfl)

theorem enter {f : FuncId} {fn : Func} {c : Code} {al : List Value} {n k : Nat} {R : Value → World → Prop} (hf : P.funcs[f]? = some fn) (hb : fn.body = some c) (hn : fn.ntmps = n) (hk : n - al.length = k) (hl : al ++ List.replicate k undef = l)
    (h : c.wpIn (Wf none) 0 P (bodyPostM Fence.wide 0 P fn (Rt R)) (fr l []) w) : CW P f al.toArray w (Rt R) := by
  refine callsIn_of_wp_marks hf hb trivial ?_ rfl
  have e : al.toArray ++ Array.replicate (fn.ntmps - al.toArray.size) undef = l.toArray := by
    rw [hn, List.size_toArray, hk, ← hl]
    apply Array.ext'
    simp
  rw [e]
  exact h

theorem leave {fn : Func} {R : Value → World → Prop} {v : Value} {rs : List Nat} (hm : MarksOk rs w) (hres : ∀ w', Only (· ∈ rs) w w' → (results fn l.toArray).run P w' = .ok v w' ∧ R v w') :
    bodyPostM Fence.wide 0 P fn (Rt R) .ret (fr l (marks rs)) w := by
  show LeavesInM Fence.wide 0 P fn l.toArray (Rt R) (marks rs) .returning w
  induction rs generalizing w with
  | nil =>
    obtain ⟨h1, h2⟩ := hres w (Only.refl _ _)
    exact ⟨v, h1, v, rfl, h2⟩
  | cons r rs ih =>
    obtain ⟨hn, hall⟩ := hm
    rw [List.nodup_cons] at hn
    have hr := hall r List.mem_cons_self
    have hrun := run_takeDeferred (P := P) hr
    have ho : Only (· ∈ r :: rs) w (w.putObj r (.deferred none)) := (Only.refl _ _).putObj (T := (· ∈ r :: rs)) List.mem_cons_self _
    refine ⟨by simp, .inl ⟨r, _, rfl, hrun, ih ⟨hn.2, fun r' hr' => ?_⟩ (fun w' hw' => hres w' (ho.trans (hw'.mono fun k _ hk => List.mem_cons_of_mem _ hk)))⟩⟩
    have hne : r' ≠ r := fun e => hn.1 (e ▸ hr')
    exact (World.putObj_heap_other hne).trans (hall r' (List.mem_cons_of_mem _ hr'))
theorem leave0 {fn : Func} {R : Value → World → Prop} {v : Value} (hres : (results fn l.toArray).run P w = .ok v w) (hR : R v w) : bodyPostM Fence.wide 0 P fn (Rt R) .ret (fr l []) w := ⟨v, hres, v, rfl, hR⟩
theorem to_ret {fn : Func} {R : Ending → World → Prop} (h : bodyPostM Fence.wide 0 P fn R .ret a w) : bodyPostM Fence.wide 0 P fn R .normal a w := h
theorem res0 {fn : Func} (hr : fn.results = #[]) : (results fn l.toArray).run P w = .ok (.tuple #[]) w := by
  unfold results; rw [hr]; simp [Sem.run_pure]
theorem res1 {fn : Func} {t : Tmp} {v : Value} (hr : fn.results = #[.tmp t]) (hv : nth l t = v) : (results fn l.toArray).run P w = .ok v w := by
  unfold results; rw [hr, ← hv, nth_eq]; simp [Sem.run_pure, go_sem]
theorem res2 {fn : Func} {t t2 : Tmp} {v v2 : Value} (hr : fn.results = #[.tmp t, .tmp t2]) (hv : nth l t = v) (hv2 : nth l t2 = v2) : (results fn l.toArray).run P w = .ok (.tuple #[v, v2]) w := by
  unfold results; rw [hr, ← hv, ← hv2, nth_eq, nth_eq]; simp [Sem.run_pure, go_sem]
theorem res3 {fn : Func} {t t2 t3 : Tmp} {v v2 v3 : Value} (hr : fn.results = #[.tmp t, .tmp t2, .tmp t3]) (hv : nth l t = v) (hv2 : nth l t2 = v2) (hv3 : nth l t3 = v3) : (results fn l.toArray).run P w = .ok (.tuple #[v, v2, v3]) w := by
  unfold results; rw [hr, ← hv, ← hv2, ← hv3, nth_eq, nth_eq, nth_eq]; simp [Sem.run_pure, go_sem]
end

/-! ### Steps told for the generator -/
section
variable {r : Option Nat} {P : Program} {ops : Array Oper} {Q : Exit → Act → World → Prop} {l : List Value} {ds : List Deferred} {w w' W : World} {o : Oper} {rest : List Oper} {T X : Nat → Prop} {b : Nat} {bo bo' : Option Nat}
theorem wpL.is {v : Value} (hg : o.guard = none) (h : DV P o (ev l) w v) (hk : wpL r P ops Q rest (lput l o.dst v) ds w) : wpL r P ops Q (o :: rest) l ds w := wpL.op hg h (by rintro _ _ ⟨rfl, rfl⟩; exact hk)
theorem wpL.onis {v : Value} {g : Nat} {u : Bool} {og : Oper} {t : Tmp} (hg : o.guard = some (g, u)) (ho : ops[g]? = some og) (hd : og.dst = some t) (hl : t < l.length) (hv : nth l t = .bool u)
    (h : DV P o (ev l) w v) (hk : wpL r P ops Q rest (lput l o.dst v) ds w) : wpL r P ops Q (o :: rest) l ds w := wpL.on hg ho hd hl hv h (by rintro _ _ ⟨rfl, rfl⟩; exact hk)
theorem _root_.Go.Proofs.YtnlbekdjepkhcaaS.Only.tail {T' : Nat → Prop} (h : Only T W w) (h2 : Only T' w w') (hT : ∀ k, k < W.heap.size → T' k → T k) : Only T W w' :=
  ⟨h2.os.trans h.os, h2.tape.trans h.tape, h2.output.trans h.output, Nat.le_trans h.size h2.size, fun k hk ht => (h2.same k (Nat.lt_of_lt_of_le hk h.size) fun t => ht (hT k hk t)).trans (h.same k hk ht)⟩
theorem _root_.Go.Proofs.YtnlbekdjepkhcaaS.Only.tail0 (h : Only T W w) (h2 : Only No w w') : Only T W w' := h.tail h2 fun _ _ t => t.elim
theorem _root_.Go.Proofs.YtnlbekdjepkhcaaS.Only.tailb (h : Only T W w) (h2 : Only (Is1 b) w w') (hb : W.heap.size ≤ b) : Only T W w' := h.tail h2 fun k hk t => by have : k = b := t; omega
theorem _root_.Go.Proofs.YtnlbekdjepkhcaaS.Only.tailq (h : Only T W w) (h2 : Only (Isq bo) w w') (hb : ∀ b, bo = some b → W.heap.size ≤ b) : Only T W w' := h.tail h2 fun k hk t => by have := hb k t; omega
theorem or1_mono {O X : Nat → Prop} (h : ∀ k, O k → X k) : ∀ k, Or1 b O k → Or1 b X k := fun k t => t.imp id (h k)
theorem orq_mono {O X : Nat → Prop} (h : ∀ k, O k → X k) : ∀ k, Orq bo O k → Orq bo X k := fun k t => t.imp id (h k)
theorem no_any {X : Nat → Prop} : ∀ k, No k → X k := fun _ t => t.elim
theorem id_any {X : Nat → Prop} : ∀ k, X k → X k := fun _ t => t
theorem or1_old {X : Nat → Prop} {n m : Nat} (hb : b < n) (h : ∀ k, k < m → X k → Old n k) : ∀ k, k < m → Or1 b X k → Old n k := fun k hk t => t.elim (fun e => by rw [e]; exact hb) (h k hk)
theorem orq_old {X : Nat → Prop} {n m : Nat} (hb : ∀ b, bo = some b → b < n) (h : ∀ k, k < m → X k → Old n k) : ∀ k, k < m → Orq bo X k → Old n k := fun k hk t => t.elim (fun e => hb k e) (h k hk)
theorem old_old {n n' m : Nat} (h : n ≤ n') : ∀ k, k < m → Old n k → Old n' k := fun k _ t => Nat.lt_of_lt_of_le t h
theorem no_old {n m : Nat} : ∀ k, k < m → No k → Old n k := fun k _ t => t.elim
theorem Ps.qnone {p : World → Prop} (h : Ps X p w) : Ps (Orq none X) p w := h.less fun k _ t => t.elim (fun e => by cases e) id
theorem Ps.stepb {p : World → Prop} (h : Ps X p w) (hO : Only (Is1 b) w w') (hX : X b) : Ps X p w' := h.step hO fun k t => by have : k = b := t; rw [this]; exact hX
theorem in1 {X : Nat → Prop} : Or1 b X b := .inl rfl
theorem in2 {X : Nat → Prop} {c : Nat} (h : X b) : Or1 c X b := .inr h
theorem inq {X : Nat → Prop} (h : X b) : Orq bo X b := .inr h
end
/-- Results. -/
def RIs (v : Value) (w : World) : Value → World → Prop := fun u w' => u = v ∧ Only No w w'
def RPs (q : Value → World → Prop) (w : World) : Value → World → Prop := fun u w' => Ps (Old w.heap.size) (q u) w' ∧ Only No w w'
def ROw {α : Type} (e : TypeId) (enc : α → Value) (xs : List α) (w : World) : Value → World → Prop := fun u w' => ∃ bo, Ow e 1 bo u xs.length (xs.map enc) w' ∧ (∀ b, bo = some b → w.heap.size ≤ b) ∧ Only No w w'
theorem ROw.ps {α : Type} {e : TypeId} {enc : α → Value} {xs : List α} {w w' : World} {u : Value} (h : ROw e enc xs w u w') : RPs (Seq (kS enc) xs) w u w' := by
  obtain ⟨bo, h1, h2, h3⟩ := h
  exact ⟨h1.seq fun b hb t => by have := h2 b hb; exact absurd t (by unfold Old; omega), h3⟩

/-! ### A region of open order, told by lists -/
theorem drawn' {r : Option Nat} {P : Program} {ops : Array Oper} {Q : Exit → Act → World → Prop} {O : Nat → Prop} {l : List Value} {ds : List Deferred} {w0 : World} {n : Nat} {id : Nat} (B : List Nat) (DL : List (Nat × Tmp)) (Ls : List Nat) (Ms : List Nat) (Φ : Nat → RF O) (Rs : Nat → World → Prop)
    (lv : (Nat → Value) → List Value) (hmx : P.follows .mixedOrders = true) (hB : bOk ops B DL Ms = true) (hn : ops.size = n) (hLs : ((List.range n).all fun i => Ls.contains i || Ms.contains i) = true)
    (hDl : (DL.all fun e => decide (e.2 < l.length)) = true) (hlv : ∀ v, fillL l DL v = lv v) (hR : ∀ k w w', Rs k w → Only No w w' → Rs k w') (h0 : Rs 0 w0)
    (hs : ∀ i ∈ Ls, LStep P ops O DL l lv w0 n B Ms Φ Rs i) (hm : ∀ t, t < Ms.length → MStep P ops O DL l lv w0 n B Φ Rs t (Ms.getD t 0))
    (hend : ∀ v lo hi w', Only O w0 w' → (∀ j, j < n → (Φ j).p (rs B j v) (v j) (lo j) (hi j) w') → Ivs (fun j => j < n) lo hi w0 w' → Rs Ms.length w' → Q .normal (fr (lv v) ds) w') :
    (Code.region id ops true).wpIn (Wf r) 0 P Q (fr l ds) w0 := by
  obtain rfl : (fun v => fillL l DL v) = lv := funext hlv
  refine drawn B DL Ms Φ Rs hmx hB hn hDl hR h0 (fun i hi hM => hs i ?_) hm hend
  have := List.all_eq_true.1 hLs i (List.mem_range.2 hi)
  rw [Bool.or_eq_true] at this
  rcases this with h | h
  · exact List.contains_iff_mem.1 h
  · exact absurd (List.contains_iff_mem.1 h) hM
section
variable {P : Program} {ops : Array Oper} {O : Nat → Prop} {lv : (Nat → Value) → List Value} {w0 : World} {n : Nat} {B : List Nat} {Ms : List Nat} {Φ : Nat → RF O} {Rs : Nat → World → Prop} {i : Nat} {is : List Nat} {DL : List (Nat × Tmp)} {l : List Value}
theorem ls_nil : ∀ i ∈ ([] : List Nat), LStep P ops O DL l lv w0 n B Ms Φ Rs i := fun _ h => by cases h
theorem ls_cons (h : LStep P ops O DL l lv w0 n B Ms Φ Rs i) (hs : ∀ j ∈ is, LStep P ops O DL l lv w0 n B Ms Φ Rs j) : ∀ j ∈ i :: is, LStep P ops O DL l lv w0 n B Ms Φ Rs j := fun j hj => by
  rcases List.mem_cons.1 hj with rfl | hj
  · exact h
  · exact hs j hj
theorem ms_nil : ∀ t, t < ([] : List Nat).length → MStep P ops O DL l lv w0 n B Φ Rs t (([] : List Nat).getD t 0) := fun _ h => by simp at h
theorem ms_one {m : Nat} (h : MStep P ops O DL l lv w0 n B Φ Rs 0 m) : ∀ t, t < [m].length → MStep P ops O DL l lv w0 n B Φ Rs t ([m].getD t 0) := fun t ht => by
  have : t = 0 := by simpa using ht
  subst this; exact h
theorem ms_two {m m' : Nat} (h : MStep P ops O DL l lv w0 n B Φ Rs 0 m) (h' : MStep P ops O DL l lv w0 n B Φ Rs 1 m') : ∀ t, t < [m, m'].length → MStep P ops O DL l lv w0 n B Φ Rs t ([m, m'].getD t 0) := fun t ht => by
  have : t = 0 ∨ t = 1 := by simp at ht; omega
  rcases this with rfl | rfl
  · exact h
  · exact h'
end

/-! ### Naturals and bytes -/
theorem wrapN {n : Nat} (h : n < 9223372036854775808) : IntKind.i64.wrap (n : Int) = (n : Int) := IntWalk.i64_in _ (by omega)
section
variable {P : Program} {d : Option Tmp} {tt : TypeId} {s : String} {af : Array Edge} {g : Option (Nat × Bool)} {ρ : Operand → Value} {w : World} {x y : Operand} {t t2 : TypeId} {a b : Nat} {c e : UInt8}
theorem n_add (hx : ρ x = eN a) (hy : ρ y = eN b) (h : a + b < 9223372036854775808) : DV P ⟨d, .binOp .add t x y t2, tt, s, af, g⟩ ρ w (eN (a + b)) :=
  d_add hx hy (by rw [← Int.natCast_add]; exact wrapN h)
theorem n_sub (hx : ρ x = eN a) (hy : ρ y = eN b) (h : b ≤ a) (ha : a < 9223372036854775808) : DV P ⟨d, .binOp .sub t x y t2, tt, s, af, g⟩ ρ w (eN (a - b)) :=
  d_sub hx hy (by rw [← Int.ofNat_sub h]; exact wrapN (by omega))
theorem n_mul (hx : ρ x = eN a) (hy : ρ y = eN b) (h : a * b < 9223372036854775808) : DV P ⟨d, .binOp .mul t x y t2, tt, s, af, g⟩ ρ w (eN (a * b)) :=
  d_mul hx hy (by rw [← Int.natCast_mul]; exact wrapN h)
theorem n_quo (hx : ρ x = eN a) (hy : ρ y = eN b) (h : b ≠ 0) (ha : a < 9223372036854775808) : DV P ⟨d, .binOp .quo t x y t2, tt, s, af, g⟩ ρ w (eN (a / b)) :=
  d_quo hx hy (by omega) (by
    rw [Int.tdiv_eq_ediv_of_nonneg (by omega), ← Int.natCast_ediv]
    exact wrapN (Nat.lt_of_le_of_lt (Nat.div_le_self _ _) ha))
theorem n_rem (hx : ρ x = eN a) (hy : ρ y = eN b) (h : b ≠ 0) : DV P ⟨d, .binOp .rem t x y t2, tt, s, af, g⟩ ρ w (eN (a % b)) :=
  d_rem hx hy (by omega) (by rw [Int.tmod_eq_emod_of_nonneg (by omega), ← Int.natCast_emod])
theorem n_lss {r : Bool} (hx : ρ x = eN a) (hy : ρ y = eN b) (hr : decide (a < b) = r) : DV P ⟨d, .binOp .lss t x y t2, tt, s, af, g⟩ ρ w (.bool r) := d_lss hx hy (by rw [← hr, decide_eq_decide]; omega)
theorem n_leq {r : Bool} (hx : ρ x = eN a) (hy : ρ y = eN b) (hr : decide (a ≤ b) = r) : DV P ⟨d, .binOp .leq t x y t2, tt, s, af, g⟩ ρ w (.bool r) := d_leq hx hy (by rw [← hr, decide_eq_decide]; omega)
theorem n_gtr {r : Bool} (hx : ρ x = eN a) (hy : ρ y = eN b) (hr : decide (b < a) = r) : DV P ⟨d, .binOp .gtr t x y t2, tt, s, af, g⟩ ρ w (.bool r) := d_gtr hx hy (by rw [← hr, decide_eq_decide]; omega)
theorem n_geq {r : Bool} (hx : ρ x = eN a) (hy : ρ y = eN b) (hr : decide (b ≤ a) = r) : DV P ⟨d, .binOp .geq t x y t2, tt, s, af, g⟩ ρ w (.bool r) := d_geq hx hy (by rw [← hr, decide_eq_decide]; omega)
theorem n_eql {r : Bool} (hx : ρ x = eN a) (hy : ρ y = eN b) (hr : decide (a = b) = r) : DV P ⟨d, .binOp .eql t x y t2, tt, s, af, g⟩ ρ w (.bool r) := d_eql hx hy (by rw [← hr, decide_eq_decide]; omega)
theorem n_neq {r : Bool} (hx : ρ x = eN a) (hy : ρ y = eN b) (hr : (!decide (a = b)) = r) : DV P ⟨d, .binOp .neq t x y t2, tt, s, af, g⟩ ρ w (.bool r) := d_neq hx hy (by rw [← hr]; congr 1; rw [decide_eq_decide]; omega)
theorem bvN (a : Nat) : BitVec.ofInt 64 (a : Int) = BitVec.ofNat 64 a := by
  apply BitVec.eq_of_toNat_eq
  simp
theorem bitsN {op : BinOp} {r : Nat} (h : r < 9223372036854775808) (f : BitVec 64 → BitVec 64 → BitVec 64) (hf : ∀ x y : Int, Go.bits op .i64 x y = IntKind.i64.wrap ((f (BitVec.ofInt 64 x) (BitVec.ofInt 64 y)).toNat : Int)) (hr : (f (BitVec.ofNat 64 a) (BitVec.ofNat 64 b)).toNat = r) : Go.bits op .i64 (a : Int) (b : Int) = (r : Int) := by
  rw [hf, bvN, bvN, hr]; exact wrapN h
theorem n_and (hx : ρ x = eN a) (hy : ρ y = eN b) (ha : a < 9223372036854775808) (hb : b < 9223372036854775808) : DV P ⟨d, .binOp .and t x y t2, tt, s, af, g⟩ ρ w (eN (a &&& b)) :=
  d_bits (by simp) hx hy (bitsN (Nat.lt_of_le_of_lt Nat.and_le_left ha) (· &&& ·) (fun _ _ => rfl) (by
    rw [BitVec.toNat_and, BitVec.toNat_ofNat, BitVec.toNat_ofNat, Nat.mod_eq_of_lt (by omega), Nat.mod_eq_of_lt (by omega)]))
theorem n_or (hx : ρ x = eN a) (hy : ρ y = eN b) (ha : a < 9223372036854775808) (hb : b < 9223372036854775808) : DV P ⟨d, .binOp .or t x y t2, tt, s, af, g⟩ ρ w (eN (a ||| b)) :=
  d_bits (by simp) hx hy (bitsN (Nat.or_lt_two_pow (n := 63) ha hb) (· ||| ·) (fun _ _ => rfl) (by
    rw [BitVec.toNat_or, BitVec.toNat_ofNat, BitVec.toNat_ofNat, Nat.mod_eq_of_lt (by omega), Nat.mod_eq_of_lt (by omega)]))
theorem n_xor (hx : ρ x = eN a) (hy : ρ y = eN b) (ha : a < 9223372036854775808) (hb : b < 9223372036854775808) : DV P ⟨d, .binOp .xor t x y t2, tt, s, af, g⟩ ρ w (eN (a ^^^ b)) :=
  d_bits (by simp) hx hy (bitsN (Nat.xor_lt_two_pow (n := 63) ha hb) (· ^^^ ·) (fun _ _ => rfl) (by
    rw [BitVec.toNat_xor, BitVec.toNat_ofNat, BitVec.toNat_ofNat, Nat.mod_eq_of_lt (by omega), Nat.mod_eq_of_lt (by omega)]))
theorem n_shl {k : IntKind} (hx : ρ x = eN a) (hy : ρ y = .int k (b : Int)) {c : Nat} (hb : b ≤ 64) (hc : 2 ^ b = c) (h : a * c < 9223372036854775808) : DV P ⟨d, .binOp .shl t x y t2, tt, s, af, g⟩ ρ w (eN (a * c)) := by
  subst hc
  exact d_shl hx hy (by omega) (by
    have h1 : min ((b : Int)).toNat (IntKind.bits .i64) = b := by simp only [IntKind.bits]; omega
    rw [h1]
    have h2 : (a : Int) * 2 ^ b = ((a * 2 ^ b : Nat) : Int) := by push_cast; rfl
    rw [h2]; exact wrapN h)
theorem n_shr {k : IntKind} (hx : ρ x = eN a) (hy : ρ y = .int k (b : Int)) {c : Nat} (hb : b ≤ 64) (hc : 2 ^ b = c) : DV P ⟨d, .binOp .shr t x y t2, tt, s, af, g⟩ ρ w (eN (a / c)) := by
  subst hc
  exact d_shr hx hy (by omega) (by
    have h1 : min ((b : Int)).toNat (IntKind.bits .i64) = b := by simp only [IntKind.bits]; omega
    rw [h1]
    have h2 : (2 : Int) ^ b = ((2 ^ b : Nat) : Int) := by push_cast; rfl
    rw [h2, Int.fdiv_eq_ediv_of_nonneg _ (Int.natCast_nonneg _), ← Int.natCast_ediv])
theorem u8_wrap (n : Int) : IntKind.u8.wrap n = ((UInt8.ofInt n).toNat : Int) := by
  rw [IntKind.wrap_u8]
  simp only [UInt8.ofInt, UInt8.toNat_ofNat']
  have h1 : 0 ≤ n % 2 ^ 8 := Int.emod_nonneg _ (by decide)
  have h2 : n % 2 ^ 8 < 2 ^ 8 := Int.emod_lt_of_pos _ (by decide)
  omega
theorem u8_ofNat (n : Nat) : UInt8.ofInt (n : Int) = UInt8.ofNat n := by
  apply UInt8.toNat_inj.1
  simp only [UInt8.ofInt, UInt8.toNat_ofNat']
  omega
theorem b_bits {op : BinOp} {r : UInt8} (hop : op = .and ∨ op = .or ∨ op = .xor ∨ op = .andNot) (hx : ρ x = eB c) (hy : ρ y = eB e) (hr : Go.bits op .u8 (c.toNat : Int) (e.toNat : Int) = (r.toNat : Int)) : DV P ⟨d, .binOp op t x y t2, tt, s, af, g⟩ ρ w (eB r) :=
  d_bits hop hx hy hr
theorem bv (c : UInt8) : BitVec.ofInt 8 (c.toNat : Int) = c.toBitVec := by
  apply BitVec.eq_of_toNat_eq
  simp
theorem u8_lt (c : UInt8) : IntKind.u8.wrap (c.toNat : Int) = (c.toNat : Int) := IntWalk.u8_in _ (by have := c.toNat_lt; omega)
theorem b_xor (hx : ρ x = eB c) (hy : ρ y = eB e) : DV P ⟨d, .binOp .xor t x y t2, tt, s, af, g⟩ ρ w (eB (c ^^^ e)) :=
  b_bits (by simp) hx hy (by
    have : (BitVec.ofInt 8 (c.toNat : Int) ^^^ BitVec.ofInt 8 (e.toNat : Int)).toNat = (c ^^^ e).toNat := by rw [bv, bv]; rfl
    show IntKind.u8.wrap ((BitVec.ofInt 8 (c.toNat : Int) ^^^ BitVec.ofInt 8 (e.toNat : Int)).toNat : Int) = _
    rw [this, u8_lt])
theorem b_and (hx : ρ x = eB c) (hy : ρ y = eB e) : DV P ⟨d, .binOp .and t x y t2, tt, s, af, g⟩ ρ w (eB (c &&& e)) :=
  b_bits (by simp) hx hy (by
    have : (BitVec.ofInt 8 (c.toNat : Int) &&& BitVec.ofInt 8 (e.toNat : Int)).toNat = (c &&& e).toNat := by rw [bv, bv]; rfl
    show IntKind.u8.wrap ((BitVec.ofInt 8 (c.toNat : Int) &&& BitVec.ofInt 8 (e.toNat : Int)).toNat : Int) = _
    rw [this, u8_lt])
theorem b_or (hx : ρ x = eB c) (hy : ρ y = eB e) : DV P ⟨d, .binOp .or t x y t2, tt, s, af, g⟩ ρ w (eB (c ||| e)) :=
  b_bits (by simp) hx hy (by
    have : (BitVec.ofInt 8 (c.toNat : Int) ||| BitVec.ofInt 8 (e.toNat : Int)).toNat = (c ||| e).toNat := by rw [bv, bv]; rfl
    show IntKind.u8.wrap ((BitVec.ofInt 8 (c.toNat : Int) ||| BitVec.ofInt 8 (e.toNat : Int)).toNat : Int) = _
    rw [this, u8_lt])
theorem b_andNot (hx : ρ x = eB c) (hy : ρ y = eB e) : DV P ⟨d, .binOp .andNot t x y t2, tt, s, af, g⟩ ρ w (eB (c &&& ~~~e)) :=
  b_bits (by simp) hx hy (by
    have : (BitVec.ofInt 8 (c.toNat : Int) &&& ~~~(BitVec.ofInt 8 (e.toNat : Int))).toNat = (c &&& ~~~e).toNat := by rw [bv, bv]; rfl
    show IntKind.u8.wrap ((BitVec.ofInt 8 (c.toNat : Int) &&& ~~~(BitVec.ofInt 8 (e.toNat : Int))).toNat : Int) = _
    rw [this, u8_lt])
def shlB (c : UInt8) (n : Nat) : UInt8 := UInt8.ofNat (c.toNat * 2 ^ n)
def shrB (c : UInt8) (n : Nat) : UInt8 := UInt8.ofNat (c.toNat / 2 ^ n)
theorem b_shl {k : IntKind} (hx : ρ x = eB c) (hy : ρ y = .int k (a : Int)) (h : a ≤ 8) : DV P ⟨d, .binOp .shl t x y t2, tt, s, af, g⟩ ρ w (eB (shlB c a)) :=
  d_shl hx hy (by omega) (by
    have h1 : min ((a : Int)).toNat (IntKind.bits .u8) = a := by simp only [IntKind.bits]; omega
    rw [h1, u8_wrap]
    have : (c.toNat : Int) * 2 ^ a = ((c.toNat * 2 ^ a : Nat) : Int) := by push_cast; rfl
    rw [this, u8_ofNat]; rfl)
theorem b_shr {k : IntKind} (hx : ρ x = eB c) (hy : ρ y = .int k (a : Int)) (h : a ≤ 8) : DV P ⟨d, .binOp .shr t x y t2, tt, s, af, g⟩ ρ w (eB (shrB c a)) :=
  d_shr hx hy (by omega) (by
    have h1 : min ((a : Int)).toNat (IntKind.bits .u8) = a := by simp only [IntKind.bits]; omega
    rw [h1]
    have h2 : (2 : Int) ^ a = ((2 ^ a : Nat) : Int) := by push_cast; rfl
    rw [h2, Int.fdiv_eq_ediv_of_nonneg _ (Int.natCast_nonneg _), ← Int.natCast_ediv]
    have h3 : c.toNat / 2 ^ a < 256 := Nat.lt_of_le_of_lt (Nat.div_le_self _ _) c.toNat_lt
    unfold shrB
    rw [UInt8.toNat_ofNat', Nat.mod_eq_of_lt h3])
theorem b_add (hx : ρ x = eB c) (hy : ρ y = eB e) : DV P ⟨d, .binOp .add t x y t2, tt, s, af, g⟩ ρ w (eB (c + e)) :=
  d_add hx hy (by
    rw [← Int.natCast_add, u8_wrap, u8_ofNat]
    congr 2)
theorem b_lss {r : Bool} (hx : ρ x = eB c) (hy : ρ y = eB e) (hr : decide (c.toNat < e.toNat) = r) : DV P ⟨d, .binOp .lss t x y t2, tt, s, af, g⟩ ρ w (.bool r) := d_lss hx hy (by rw [← hr, decide_eq_decide]; omega)
theorem b_gtr {r : Bool} (hx : ρ x = eB c) (hy : ρ y = eB e) (hr : decide (e.toNat < c.toNat) = r) : DV P ⟨d, .binOp .gtr t x y t2, tt, s, af, g⟩ ρ w (.bool r) := d_gtr hx hy (by rw [← hr, decide_eq_decide]; omega)
theorem b_geq {r : Bool} (hx : ρ x = eB c) (hy : ρ y = eB e) (hr : decide (e.toNat ≤ c.toNat) = r) : DV P ⟨d, .binOp .geq t x y t2, tt, s, af, g⟩ ρ w (.bool r) := d_geq hx hy (by rw [← hr, decide_eq_decide]; omega)
theorem u8_eq (c e : UInt8) : ((c.toNat : Int) = (e.toNat : Int)) ↔ c = e := ⟨fun h => UInt8.toNat_inj.1 (by omega), fun h => by rw [h]⟩
theorem b_eql {r : Bool} (hx : ρ x = eB c) (hy : ρ y = eB e) (hr : decide (c = e) = r) : DV P ⟨d, .binOp .eql t x y t2, tt, s, af, g⟩ ρ w (.bool r) := d_eql hx hy (by rw [← hr, decide_eq_decide]; exact u8_eq c e)
theorem b_neq {r : Bool} (hx : ρ x = eB c) (hy : ρ y = eB e) (hr : (!decide (c = e)) = r) : DV P ⟨d, .binOp .neq t x y t2, tt, s, af, g⟩ ρ w (.bool r) := d_neq hx hy (by rw [← hr]; congr 1; rw [decide_eq_decide]; exact u8_eq c e)
theorem n_ofB {src dst : TypeId} {u : TypeDesc} (hs : P.underlying src = some u) (hd : P.underlying dst = some (.int .i64)) (hx : ρ x = eB c) : DV P ⟨d, .convert src dst x, tt, s, af, g⟩ ρ w (eN c.toNat) := d_conv hs hd hx (wrapN (by have := c.toNat_lt; omega))
theorem b_ofN {src dst : TypeId} {u : TypeDesc} (hs : P.underlying src = some u) (hd : P.underlying dst = some (.int .u8)) (hx : ρ x = eN a) : DV P ⟨d, .convert src dst x, tt, s, af, g⟩ ρ w (eB (UInt8.ofNat a)) := d_conv hs hd hx (by rw [u8_wrap, u8_ofNat])
theorem b_ofI {src dst : TypeId} {u : TypeDesc} {i : Int} (hs : P.underlying src = some u) (hd : P.underlying dst = some (.int .u8)) (hx : ρ x = eI i) : DV P ⟨d, .convert src dst x, tt, s, af, g⟩ ρ w (eB (UInt8.ofInt i)) := d_conv hs hd hx (u8_wrap _)
theorem n_max (hx : ρ x = eN a) (hy : ρ y = eN b) {ts : Array TypeId} : DV P ⟨d, .call ⟨.builtin .max, #[x, y], ts⟩, tt, s, af, g⟩ ρ w (eN (max a b)) := d_max2 hx hy (by split <;> omega)
theorem n_min (hx : ρ x = eN a) (hy : ρ y = eN b) {ts : Array TypeId} : DV P ⟨d, .call ⟨.builtin .min, #[x, y], ts⟩, tt, s, af, g⟩ ρ w (eN (min a b)) := d_min2 hx hy (by split <;> omega)
end
end Go.Proofs.YtnlbekdjepkhcaaF
