import Derived.Test.YtnlbekdjepkhcaaWInvWords
namespace Go.Proofs.YtnlbekdjepkhcaaG
open Go.RowKit Go.Proofs.YtnlbekdjepkhcaaW.PrintWords Go.Proofs.YtnlbekdjepkhcaaW.PrintLast

/-! A region of open order in which nothing that stands is written: one fact for each operation's value, each told once. -/
def Grew (w w' : World) : Prop := Below w.heap.size w w'
theorem Grew.refl (w : World) : Grew w w := Below.refl _ _
theorem Grew.step {a b c : World} (h : Grew a b) (k : Grew b c) : Grew a c := below_step h k
theorem Grew.drew {a b : World} (h : Grew a b.drew) : Grew a b := ⟨h.os, h.tape, h.output, h.size, h.block⟩

structure Fact where
  p : Value → World → Prop
  mono : ∀ {u w w'}, p u w → Grew w w' → p u w'

def fills (DL : List (Nat × Tmp)) (v : Nat → Value) : List (Nat × Tmp × Value) := DL.map fun e => (e.1, e.2, v e.1)
def filled (a : Act) : List (Nat × Tmp) → (Nat → Value) → Act
  | [], _ => a
  | e :: r, v => filled (a.put (some e.2) (v e.1)) r v
def upd (v : Nat → Value) (i : Nat) (u : Value) : Nat → Value := fun j => if j = i then u else v j

theorem filled_all {b : Nat → Bool} {v : Nat → Value} : ∀ {DL : List (Nat × Tmp)} {a : Act}, (∀ e ∈ DL, b e.1 = true) → putSel a b (fills DL v) = filled a DL v
  | [], _, _ => rfl
  | e :: r, a, h => by
    show putSel (if b e.1 = true then a.put (some e.2) (v e.1) else a) b (fills r v) = _
    rw [if_pos (h e List.mem_cons_self)]
    exact filled_all (fun e' he' => h e' (List.mem_cons_of_mem _ he'))

theorem filled_sz {v : Nat → Value} : ∀ {DL : List (Nat × Tmp)} {a : Act}, (filled a DL v).tmps.size = a.tmps.size ∧ (filled a DL v).defers = a.defers
  | [], _ => ⟨rfl, rfl⟩
  | e :: r, a => by
    have := filled_sz (v := v) (DL := r) (a := a.put (some e.2) (v e.1))
    exact ⟨this.1.trans (by simp [Act.put]), this.2.trans rfl⟩

theorem agree {b : Nat → Bool} {v : Nat → Value} {t : Tmp} : ∀ {DL : List (Nat × Tmp)} {a a' : Act}, a.tmps.size = a'.tmps.size → a.tmps[t]? = a'.tmps[t]? → (∀ e ∈ DL, e.2 = t → b e.1 = true) →
    (putSel a b (fills DL v)).tmps[t]? = (filled a' DL v).tmps[t]?
  | [], _, _, _, h, _ => h
  | e :: r, a, a', hs, h, hb => by
    show (putSel (if b e.1 = true then a.put (some e.2) (v e.1) else a) b (fills r v)).tmps[t]? = (filled (a'.put (some e.2) (v e.1)) r v).tmps[t]?
    refine agree ?_ ?_ (fun e' he' => hb e' (List.mem_cons_of_mem _ he'))
    · split <;> simp [Act.put, hs]
    · by_cases he : e.2 = t
      · rw [if_pos (hb e List.mem_cons_self he)]
        subst he
        simp only [Act.put, Array.getElem?_setIfInBounds_self]
        rw [hs]
      · have h2 : (a'.put (some e.2) (v e.1)).tmps[t]? = a'.tmps[t]? := by simp [Act.put, Array.getElem?_setIfInBounds_ne he]
        rw [h2]
        split
        · simp [Act.put, Array.getElem?_setIfInBounds_ne he, h]
        · exact h

theorem fills_upd {v : Nat → Value} {i : Nat} {u : Value} {DL : List (Nat × Tmp)} (h : ∀ e ∈ DL, e.1 ≠ i) : fills DL (upd v i u) = fills DL v :=
  List.map_congr_left fun e he => by simp [upd, h e he]

theorem put_up {b : Nat → Bool} {v : Nat → Value} {i : Nat} {d : Tmp} {u : Value} {DL : List (Nat × Tmp)} {a : Act} (hb : b i = false) (h1 : (DL.map (·.1)).Nodup) (h2 : (DL.map (·.2)).Nodup) (hm : (i, d) ∈ DL) :
    (putSel a b (fills DL v)).put (some d) u = putSel a (up b i) (fills DL (upd v i u)) := by
  obtain ⟨L1, L2, rfl⟩ := List.append_of_mem hm
  simp only [List.map_append, List.map_cons, List.nodup_append, List.nodup_cons, List.mem_cons] at h1 h2
  obtain ⟨_, ⟨h1b, _⟩, h1c⟩ := h1
  obtain ⟨_, ⟨h2b, _⟩, h2c⟩ := h2
  have f1 : ∀ e ∈ L1, e.1 ≠ i := fun e he => h1c e.1 (List.mem_map_of_mem he) i (.inl rfl)
  have f2 : ∀ e ∈ L2, e.1 ≠ i := fun e he heq => h1b (heq ▸ List.mem_map_of_mem (f := (·.1)) he)
  have g1 : ∀ e ∈ L1, e.2 ≠ d := fun e he => h2c e.2 (List.mem_map_of_mem he) d (.inl rfl)
  have g2 : ∀ e ∈ L2, e.2 ≠ d := fun e he heq => h2b (heq ▸ List.mem_map_of_mem (f := (·.2)) he)
  have e1 : fills (L1 ++ (i, d) :: L2) v = fills L1 v ++ (i, d, v i) :: fills L2 v := by simp [fills]
  have e2 : fills (L1 ++ (i, d) :: L2) (upd v i u) = fills L1 v ++ (i, d, u) :: fills L2 v := by
    have : fills (L1 ++ (i, d) :: L2) (upd v i u) = fills L1 (upd v i u) ++ (i, d, upd v i u i) :: fills L2 (upd v i u) := by simp [fills]
    rw [this, fills_upd f1, fills_upd f2]
    simp [upd]
  rw [e1, e2]
  refine putSel_up hb ?_
  rw [List.all_eq_true]
  intro e he
  rcases List.mem_append.1 he with he | he
  · obtain ⟨x, hx, rfl⟩ := List.mem_map.1 he
    simp [f1 x hx, g1 x hx]
  · obtain ⟨x, hx, rfl⟩ := List.mem_map.1 he
    simp [f2 x hx, g2 x hx]

theorem put_none_up {b : Nat → Bool} {v : Nat → Value} {i : Nat} {u : Value} {DL : List (Nat × Tmp)} {a : Act} (h : ∀ e ∈ DL, e.1 ≠ i) :
    (putSel a b (fills DL v)).put none u = putSel a (up b i) (fills DL (upd v i u)) := by
  rw [fills_upd h]
  refine putSel_none ?_
  rw [List.all_eq_true]
  intro e he
  obtain ⟨x, hx, rfl⟩ := List.mem_map.1 he
  simp [h x hx]

section
variable {P : Program} {ops : Array Oper} {Q : Exit → Act → World → Prop}

theorem put_same {a A : Act} {dst : Option Tmp} {u v : Value} (hsz : a.tmps.size = A.tmps.size) (h : A.put dst v = A.put dst u) : a.put dst v = a.put dst u := by
  cases dst with
  | none => rfl
  | some d =>
    have h1 : (A.put (some d) v).tmps[d]? = (A.put (some d) u).tmps[d]? := by rw [h]
    simp only [Act.put, Array.getElem?_setIfInBounds_self] at h1
    by_cases hd : d < A.tmps.size
    · rw [if_pos hd, if_pos hd] at h1
      injection h1 with h1
      rw [h1]
    · have : a.tmps.size ≤ d := by rw [hsz]; exact Nat.le_of_not_lt hd
      simp only [Act.put, Array.setIfInBounds_eq_of_size_le this]

theorem wp_other {o : Oper} {a A : Act} {w : World} {KV : Value → World → Prop} {K : Act → World → Prop} (hsz : a.tmps.size = A.tmps.size) (he : execOp a.eval o = execOp A.eval o)
    (hK : ∀ u w', KV u w' → K (a.put o.dst u) w')
    (h : Oper.wp P o A w (fun a' w' => ∃ u, a' = A.put o.dst u ∧ KV u w') (fun _ _ _ => False)) : Oper.wp P o a w K Q := by
  unfold Oper.wp at *
  rw [he]
  have hv : ∀ u w', (∃ u', A.put o.dst u = A.put o.dst u' ∧ KV u' w') → K (a.put o.dst u) w' := by
    rintro u w' ⟨u', h1, h2⟩
    rw [put_same hsz h1]
    exact hK _ _ h2
  generalize (execOp A.eval o).run P w = r at *
  cases r with
  | ok n w' =>
    cases n with
    | defer d =>
      rw [Oper.upon_defer] at h
      obtain ⟨u, h1, _⟩ := h
      have h2 := congrArg (fun x : Act => x.defers.length) h1
      cases hd : o.dst <;> simp [Act.put, hd] at h2
    | value u => exact hv _ _ h
    | skip => exact hv _ _ h
    | enter f args =>
      refine Calls.mono h (fun e w'' hh => ?_)
      cases e with
      | returned u => exact hv _ _ hh
      | panicked c => exact hh.elim
      | outgrown => obtain ⟨_, _, hf⟩ := hh; exact hf.elim
    | row row args => exact Rows.mono h (fun _ _ hh => hv _ _ hh)
    | _ => exact h.elim
  | halt x w' => cases x <;> first | exact h.elim | exact False.elim h

def growB (ops : Array Oper) (B : List Nat) (DL : List (Nat × Tmp)) (n : Nat) : Bool :=
  ops.size == n && (List.range n).all (fun i => match ops[i]? with
    | some o => (match o.dst with
        | some d => DL.contains (i, d)
        | none => DL.all fun e => !(e.1 == i)) && (o.looksAt ops).all (fun t => DL.all fun e => !(e.2 == t) || (B.getD i 0).testBit e.1)
    | none => false) && DL.all (fun e => decide (e.1 < n)) && decide (DL.map (·.1)).Nodup && decide (DL.map (·.2)).Nodup

/-- One operation: shown where all are filled, of what it waits for each fact is known. -/
def GStep (P : Program) (ops : Array Oper) (B : List Nat) (a0 : Act) (DL : List (Nat × Tmp)) (n : Nat) (Φ : Nat → Fact) (w0 : World) (i : Nat) : Prop :=
  ∀ v w, Grew w0 w → (∀ j, (decide (j < n) && (B.getD i 0).testBit j) = true → (Φ j).p (v j) w) →
    ∃ oi, ops[i]? = some oi ∧ ∀ K : Act → World → Prop, Shut (∀ u w', (Φ i).p u w' → Grew w w' → K ((filled a0 DL v).put oi.dst u) w') →
      if Region.wanted oi (yielded ops (filled a0 DL v).tmps) = true then Oper.wp P oi (filled a0 DL v) w K (fun _ _ _ => False) else K ((filled a0 DL v).put oi.dst undef) w

theorem gsteps_nil {B : List Nat} {a0 : Act} {DL : List (Nat × Tmp)} {n : Nat} {Φ : Nat → Fact} {w0 : World} : ∀ i ∈ ([] : List Nat), GStep P ops B a0 DL n Φ w0 i := fun _ h => by cases h
theorem gsteps_cons {B : List Nat} {a0 : Act} {DL : List (Nat × Tmp)} {n : Nat} {Φ : Nat → Fact} {w0 : World} {i : Nat} {rs : List Nat} (h : GStep P ops B a0 DL n Φ w0 i) (hs : ∀ j ∈ rs, GStep P ops B a0 DL n Φ w0 j) : ∀ j ∈ i :: rs, GStep P ops B a0 DL n Φ w0 j := fun j hj => by
  rcases List.mem_cons.1 hj with rfl | hj
  · exact h
  · exact hs j hj

/-- The relation: what is listed is filled, its facts hold. -/
def GI (a : Act) (DL : List (Nat × Tmp)) (n : Nat) (Φ : Nat → Fact) (w : World) : (Nat → Bool) → Act → World → Prop :=
  fun b a' w' => ∃ v, a' = putSel a b (fills DL v) ∧ Grew w w' ∧ ∀ j, j < n → b j = true → (Φ j).p (v j) w'
theorem growB_parts {B : List Nat} {DL : List (Nat × Tmp)} {n : Nat} (hg : growB ops B DL n = true) : ops.size = n ∧ (∀ e ∈ DL, e.1 < n) ∧ (DL.map (·.1)).Nodup ∧ (DL.map (·.2)).Nodup ∧
    ∀ i o, ops[i]? = some o → (∀ d, o.dst = some d → (i, d) ∈ DL) ∧ (o.dst = none → ∀ e ∈ DL, e.1 ≠ i) ∧ ∀ t ∈ o.looksAt ops, ∀ e ∈ DL, e.2 = t → (B.getD i 0).testBit e.1 = true := by
  simp only [growB, Bool.and_eq_true, beq_iff_eq, decide_eq_true_eq] at hg
  obtain ⟨⟨⟨⟨hn, hops⟩, hlt⟩, hnd1⟩, hnd2⟩ := hg
  refine ⟨hn, fun e he => by simpa using List.all_eq_true.1 hlt e he, hnd1, hnd2, ?_⟩
  intro i o ho
  have hi : i < n := by have := (Array.getElem?_eq_some_iff.1 ho).1; omega
  have h1 := List.all_eq_true.1 hops i (List.mem_range.2 hi)
  rw [ho] at h1
  simp only [Bool.and_eq_true] at h1
  refine ⟨fun d hd => ?_, fun hd e he => ?_, fun t ht e he het => ?_⟩
  · have := h1.1; rw [hd] at this; exact List.contains_iff_mem.1 this
  · have := h1.1; rw [hd] at this; simpa using List.all_eq_true.1 this e he
  · have := List.all_eq_true.1 (List.all_eq_true.1 h1.2 t ht) e he
    simpa [het] using this
theorem grow_stepAt {B : List Nat} {n : Nat} {a : Act} {w : World} {DL : List (Nat × Tmp)} {Φ : Nat → Fact} (hsel : Region.noSelect ops = true) (hg : growB ops B DL n = true)
    (hs : ∀ i ∈ List.range n, GStep P ops B a DL n Φ w i) : ∀ i ∈ List.range n, StepAt P ops Q B (List.range n) (GI a DL n Φ w) i := by
  obtain ⟨hn, hlt, hnd1, hnd2, hrow⟩ := growB_parts hg
  have hno := Region.noSelect_spec hsel
  intro i hi b a' w' hI hb hon hoff
  obtain ⟨v, rfl, hgr, hfacts⟩ := hI
  have hin : i < n := List.mem_range.1 hi
  have hon' : ∀ j, j < n → (B.getD i 0).testBit j = true → b j = true := fun j hj hbit => hon j (by rw [Bool.and_eq_true]; exact ⟨by simp [hj], hbit⟩)
  obtain ⟨oi, hoi, hK⟩ := hs i hi v w' hgr (fun j hj => by
    simp only [Bool.and_eq_true, decide_eq_true_eq] at hj
    exact hfacts j hj.1 (hon' j hj.1 hj.2))
  refine ⟨oi, hoi, fun K hKs => ?_⟩
  obtain ⟨hd1, hd2, hlook⟩ := hrow i oi hoi
  have hagree : ∀ t ∈ oi.looksAt ops, (putSel a b (fills DL v)).tmps[t]? = (filled a DL v).tmps[t]? := fun t ht =>
    agree rfl rfl (fun e he het => hon' e.1 (hlt e he) (hlook t ht e he het))
  have hsz : (putSel a b (fills DL v)).tmps.size = (filled a DL v).tmps.size := by rw [(putSel_size _ _ _).1, filled_sz.1]
  have hex : execOp (putSel a b (fills DL v)).eval oi = execOp (filled a DL v).eval oi := by
    refine execOp_congr oi (hno i oi · · hoi) (fun x hx => ?_)
    cases x with
    | tmp t =>
      have ht : t ∈ oi.looksAt ops := by
        unfold Oper.looksAt
        exact List.mem_append_left _ (List.mem_filterMap.2 ⟨.tmp t, by simpa using hx, rfl⟩)
      have h1 := hagree t ht
      show (putSel a b (fills DL v)).tmps.getD t undef = (filled a DL v).tmps.getD t undef
      rw [Array.getD_eq_getD_getElem?, Array.getD_eq_getD_getElem?, h1]
    | _ => rfl
  have hwt : Region.wanted oi (yielded ops (putSel a b (fills DL v)).tmps) = Region.wanted oi (yielded ops (filled a DL v).tmps) := by
    unfold Region.wanted
    cases hgd : oi.guard with
    | none => rfl
    | some gw =>
      obtain ⟨g, want⟩ := gw
      have hy : yielded ops (putSel a b (fills DL v)).tmps g = yielded ops (filled a DL v).tmps g := by
        unfold yielded
        cases ht : (ops[g]?).bind (·.dst) with
        | none => rfl
        | some t =>
          have h1 := hagree t (by unfold Oper.looksAt; rw [hgd]; simp [ht])
          simp only [Option.bind_some, h1]
      simp only [hy]
  have hinto : ∀ u w'', (Φ i).p u w'' → Grew w' w'' → K ((putSel a b (fills DL v)).put oi.dst u) w'' := by
    intro u w'' hu hg2
    refine hKs.out _ _ ⟨upd v i u, ?_, hgr.step hg2, fun j hj hbj => ?_⟩
    · cases hd : oi.dst with
      | none => exact put_none_up (hd2 hd)
      | some d => exact put_up hb hnd1 hnd2 (hd1 d hd)
    · by_cases hji : j = i
      · subst hji; simp only [upd, if_true]; exact hu
      · simp only [upd, hji, if_false]
        rw [up_ne hji] at hbj
        exact (Φ j).mono (hfacts j hj hbj) hg2
  have hK' := hK (fun a' w'' => ∃ u, a' = (filled a DL v).put oi.dst u ∧ ((Φ i).p u w'' ∧ Grew w' w'')) (show Shut _ from fun u w'' hu hg2 => ⟨u, rfl, hu, hg2⟩)
  rw [hwt]
  split
  · rename_i hwd
    rw [if_pos hwd] at hK'
    exact wp_other (KV := fun u w'' => (Φ i).p u w'' ∧ Grew w' w'') hsz hex (fun u w'' h => hinto u w'' h.1 h.2) hK'
  · rename_i hwd
    rw [if_neg hwd] at hK'
    obtain ⟨u, h1, h2, h3⟩ := hK'
    rw [put_same hsz h1]
    exact hinto u _ h2 h3
theorem putSel_no : ∀ (L : List (Nat × Tmp × Value)) (a : Act), putSel a (fun _ => false) L = a := by
  intro L
  induction L with
  | nil => intro a; rfl
  | cons e r ih => intro a; show putSel (if (false = true) then _ else a) _ r = a; rw [if_neg (by simp)]; exact ih a

theorem grow_region {T : Bool × List (List Nat × List Nat)} {B : List Nat} {id n : Nat} {a : Act} {w : World} (DL : List (Nat × Tmp)) (Φ : Nat → Fact) (hm : P.follows .mixedOrders = true)
    (hT : rtab .any ops = T) (hsel : T.1 = true) (hw : waitsOk T.2 B = true) (hk : baseOk T.2 (List.range n) = true) (hg : growB ops B DL n = true)
    (hs : ∀ i ∈ List.range n, GStep P ops B a DL n Φ w i)
    (hend : ∀ v w', Grew w w' → (∀ j, j < n → (Φ j).p (v j) w') → Q .normal (filled a DL v) w') : (Code.region id ops true).wp P Q a w := by
  obtain ⟨hn, hlt, hnd1, hnd2, hrow⟩ := growB_parts hg
  have hTl : T.2.length = n := by rw [← hT]; rw [rtab_length, hn]
  refine start_ (n := n) (S := fun _ => True) (ds := []) (Array.replicate n false) hm hn rfl trivial (fun _ => ?_)
  refine inv_ (T := T) (B := B) (List.range n) (GI a DL n Φ w) hT hw hk ?_ ?_ (grow_stepAt (by have := hsel; rw [← hT] at this; exact this) hg hs) ?_
  · rw [hTl]
    simp only [List.length_range, beq_self_eq_true, Bool.and_true, beq_iff_eq, Array.toList_replicate]
    apply List.ext_getElem
    · simp [lof]
    · intro k h1 h2
      have hk' : k < n := by simpa using h2
      simp [lof, hk']
  · exact ⟨fun _ => undef, (putSel_no _ _).symm, below_drew (Grew.refl w), fun _ _ h => by cases h⟩
  · intro b a' w' hall hI
    obtain ⟨v, rfl, hgr, hfacts⟩ := hI
    rw [filled_all (fun e he => hall e.1 (by simpa using hlt e he))]
    exact hend v w' hgr (fun j hj => hfacts j hj (hall j (by simpa using hj)))

def lowB (B : List Nat) (n : Nat) : Bool := (List.range n).all fun d => (List.range n).all fun j => !(B.getD d 0).testBit j || decide (j < d)
/-- A region in the text's order. -/
theorem grow_plain {B : List Nat} {id n : Nat} {a : Act} {w : World} (DL : List (Nat × Tmp)) (Φ : Nat → Fact)
    (hsel : Region.noSelect ops = true) (hg : growB ops B DL n = true) (hlow : lowB B n = true)
    (hs : ∀ i ∈ List.range n, GStep P ops B a DL n Φ w i)
    (hend : ∀ v w', Grew w w' → (∀ j, j < n → (Φ j).p (v j) w') → Q .normal (filled a DL v) w') : (Code.region id ops false).wp P Q a w := by
  obtain ⟨hn, hlt, hnd1, hnd2, hrow⟩ := growB_parts hg
  have hstep := grow_stepAt (Q := Q) hsel hg hs
  refine wp_region ?_
  rw [hn]
  have key : ∀ (m i : Nat) (a' : Act) (w' : World), i + m = n → GI a DL n Φ w (fun j => decide (j < i)) a' w' → wpOps P ops Q (List.range' i m) a' w' := by
    intro m
    induction m with
    | zero =>
      intro i a' w' him hI
      obtain ⟨v, rfl, hgr, hfacts⟩ := hI
      rw [filled_all (fun e he => by have := hlt e he; simp; omega)]
      exact hend v w' hgr (fun j hj => hfacts j hj (by simp; omega))
    | succ m ih =>
      intro i a' w' him hI
      rw [List.range'_succ, wpOps_cons]
      obtain ⟨oi, hoi, hK⟩ := hstep i (List.mem_range.2 (by omega)) (fun j => decide (j < i)) a' w' hI (by simp) (fun j hj => by
        simp only [Bool.and_eq_true, List.contains_iff_mem, List.mem_range] at hj
        have h1 := List.all_eq_true.1 (List.all_eq_true.1 hlow i (List.mem_range.2 (by omega))) j (List.mem_range.2 hj.1)
        rw [hj.2] at h1
        simpa using h1) (fun d hd => by
        simp only [Bool.and_eq_true, List.contains_iff_mem, List.mem_range] at hd
        have h1 := List.all_eq_true.1 (List.all_eq_true.1 hlow d (List.mem_range.2 hd.1)) i (List.mem_range.2 (by omega))
        rw [hd.2] at h1
        simp only [Bool.not_true, Bool.false_or, decide_eq_true_eq] at h1
        simp; omega)
      refine wpOp_step hoi (fun K hK' => hK K (fun a'' w'' hI' => hK' a'' w'' (ih (i + 1) a'' w'' (by omega) ?_)))
      have e : up (fun j => decide (j < i)) i = fun j => decide (j < i + 1) := by
        funext j
        unfold up
        split
        · rename_i h; subst h; simp
        · rename_i h; rw [decide_eq_decide]; omega
      rw [e] at hI'
      exact hI'
  have := key n 0 a w (by omega) ⟨fun _ => undef, by
    have : (fun j => decide (j < 0)) = fun _ : Nat => false := by funext j; simp
    rw [this]; exact (putSel_no _ _).symm, Grew.refl w, fun _ _ h => by simp at h⟩
  rw [List.range_eq_range']
  exact this

/-- The same, the frame with all filled written out (A). -/
def GAt (P : Program) (ops : Array Oper) (B : List Nat) (A : (Nat → Value) → Act) (n : Nat) (Φ : Nat → Fact) (w0 : World) (i : Nat) : Prop :=
  ∀ v w, Grew w0 w → (∀ j, (decide (j < n) && (B.getD i 0).testBit j) = true → (Φ j).p (v j) w) →
    ∃ oi, ops[i]? = some oi ∧ ∀ K : Act → World → Prop, Shut (∀ u w', (Φ i).p u w' → Grew w w' → K ((A v).put oi.dst u) w') →
      if Region.wanted oi (yielded ops (A v).tmps) = true then Oper.wp P oi (A v) w K (fun _ _ _ => False) else K ((A v).put oi.dst undef) w
theorem gat_nil {B : List Nat} {A : (Nat → Value) → Act} {n : Nat} {Φ : Nat → Fact} {w0 : World} : ∀ i ∈ ([] : List Nat), GAt P ops B A n Φ w0 i := fun _ h => by cases h
theorem gat_cons {B : List Nat} {A : (Nat → Value) → Act} {n : Nat} {Φ : Nat → Fact} {w0 : World} {i : Nat} {rs : List Nat} (h : GAt P ops B A n Φ w0 i) (hs : ∀ j ∈ rs, GAt P ops B A n Φ w0 j) : ∀ j ∈ i :: rs, GAt P ops B A n Φ w0 j := fun j hj => by
  rcases List.mem_cons.1 hj with rfl | hj
  · exact h
  · exact hs j hj
theorem grow_at {T : Bool × List (List Nat × List Nat)} {B : List Nat} {id : Nat} {a : Act} {w : World} (n : Nat) (DL : List (Nat × Tmp)) (Φ : Nat → Fact) (A : (Nat → Value) → Act) (L : List Nat) (hm : P.follows .mixedOrders = true)
    (hT : rtab .any ops = T) (hsel : T.1 = true) (hw : waitsOk T.2 B = true) (hk : baseOk T.2 (List.range n) = true) (hg : growB ops B DL n = true) (hL : List.range n = L)
    (hA : ∀ v, filled a DL v = A v)
    (hs : ∀ i ∈ L, GAt P ops B A n Φ w i)
    (hend : ∀ v w', Grew w w' → (∀ j, j < n → (Φ j).p (v j) w') → Q .normal (A v) w') : (Code.region id ops true).wp P Q a w := by
  obtain rfl : filled a DL = A := funext hA
  subst hL
  exact grow_region DL Φ hm hT hsel hw hk hg hs hend
theorem grow_plain_at {B : List Nat} {id : Nat} {a : Act} {w : World} (n : Nat) (DL : List (Nat × Tmp)) (Φ : Nat → Fact) (A : (Nat → Value) → Act) (L : List Nat)
    (hsel : Region.noSelect ops = true) (hg : growB ops B DL n = true) (hlow : lowB B n = true) (hL : List.range n = L)
    (hA : ∀ v, filled a DL v = A v)
    (hs : ∀ i ∈ L, GAt P ops B A n Φ w i)
    (hend : ∀ v w', Grew w w' → (∀ j, j < n → (Φ j).p (v j) w') → Q .normal (A v) w') : (Code.region id ops false).wp P Q a w := by
  obtain rfl : filled a DL = A := funext hA
  subst hL
  exact grow_plain DL Φ hsel hg hlow hs hend
end

/-- What a slot holds: this value. -/
def Fact.is (v : Value) : Fact := ⟨fun u _ => u = v, fun h _ => h⟩
/-- A row of these elements. -/
def Fact.seq {α : Type} (d : Kd α) (l : List α) : Fact := ⟨fun u w => ∃ A c, u = .slice A l.length c ∧ l.length ≤ c ∧ d.C w A l.length l, fun ⟨A, c, h1, h2, h3⟩ hg => ⟨A, c, h1, h2, Kd.C_below h3 hg⟩⟩
def Fact.any : Fact := ⟨fun _ _ => True, fun _ _ => trivial⟩
theorem seq_of_R {α : Type} {d : Kd α} {e base : Nat} {ok : Nat → Prop} {w : World} {v : Value} {xs : List α} (h : d.R e w base ok v xs) : (Fact.seq d xs).p v w := by
  obtain ⟨A, c, rfl⟩ := Kd.R_slice h
  have := Kd.R_reads' h
  exact ⟨A, c, rfl, this.2.1, this.2.2⟩
theorem seq_nil {k : IntKind} {w : World} : (Fact.seq (Kd.int k) []).p (.slice none 0 0) w := ⟨none, 0, rfl, Nat.le_refl _, Kd.C_of_reads (d := (0 : Int)) (h1 := fun _ => rfl) ⟨rfl, by decide, fun h => absurd h (by decide)⟩⟩
theorem grew_of_drawn {w w' : World} (h : Drawn0 w w') : Grew w w' := h.below
end Go.Proofs.YtnlbekdjepkhcaaG
