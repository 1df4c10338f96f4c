/-
  A region of open order: its operations, but for some that write (Ms, one behind the other), each shown once out of what it waits for.
-/
import Derived.Test.YtnlbekdjepkhcaaFa
set_option linter.unusedVariables false
set_option linter.unusedSimpArgs false
namespace Go.Proofs.YtnlbekdjepkhcaaF
open Go Go.Proofs.YtnlbekdjepkhcaaS

/-- What is known of an operation's value: (what the operations ahead of it gave) (its own) (the blocks made by it lie from lo to hi). -/
structure RF (O : Nat → Prop) where
  p : (Nat → Value) → Value → Nat → Nat → World → Prop
  st : ∀ {v u lo hi w w'}, p v u lo hi w → Only O w w' → p v u lo hi w'
def RF.is (O : Nat → Prop) (x : Value) : RF O := ⟨fun _ u _ _ _ => u = x, fun h _ => h⟩
def RF.any (O : Nat → Prop) : RF O := ⟨fun _ _ _ _ _ => True, fun _ _ => trivial⟩
def RF.of (O : Nat → Prop) (x : (Nat → Value) → Value) : RF O := ⟨fun v u _ _ _ => u = x v, fun h _ => h⟩
def RF.ps (O X : Nat → Prop) (q : Value → World → Prop) (h : ∀ k, O k → X k) : RF O := ⟨fun _ u _ _ w => Ps X (q u) w, fun hp ho => hp.step ho h⟩
def RF.pr (O : Nat → Prop) (q : Value → Prop) : RF O := ⟨fun _ u _ _ _ => q u, fun h _ => h⟩

def bit (B : List Nat) (i j : Nat) : Bool := (B.getD i 0).testBit j
def rs (B : List Nat) (i : Nat) (v : Nat → Value) : Nat → Value := fun j => if bit B i j then v j else undef
def fillL (l : List Value) : List (Nat × Tmp) → (Nat → Value) → List Value
  | [], _ => l
  | e :: r, v => fillL (lset l e.2 (v e.1)) r v
def sel (DL : List (Nat × Tmp)) (b : Nat → Bool) (v : Nat → Value) (l : List Value) (t : Tmp) : Value :=
  match DL.find? (fun e => e.2 == t) with
  | some e => if b e.1 then v e.1 else nth l t
  | none => nth l t

theorem nth_lset : ∀ (l : List Value) (d t : Nat) (x : Value), d < l.length → nth (lset l d x) t = if t = d then x else nth l t
  | [], _, _, _, h => by simp at h
  | _ :: _, 0, 0, _, _ => rfl
  | _ :: _, 0, t + 1, _, _ => by simp [lset, nth]
  | _ :: _, d + 1, 0, _, _ => by simp [lset, nth]
  | _ :: l, d + 1, t + 1, x, h => by
    have := nth_lset l d t x (by simpa using h)
    simp only [lset, nth, this, Nat.succ_eq_add_one, Nat.add_right_cancel_iff]
theorem lset_length : ∀ (l : List Value) (d : Nat) (x : Value), (lset l d x).length = l.length
  | [], _, _ => rfl
  | _ :: _, 0, _ => rfl
  | _ :: l, d + 1, x => by simp [lset, lset_length l d x]
theorem nth_ext : ∀ {l l' : List Value}, l.length = l'.length → (∀ t, nth l t = nth l' t) → l = l'
  | [], [], _, _ => rfl
  | [], _ :: _, h, _ => by simp at h
  | _ :: _, [], h, _ => by simp at h
  | x :: l, y :: l', h, ht => by
    have h0 := ht 0
    simp only [nth] at h0
    have h1 : l = l' := nth_ext (by simpa using h) (fun t => by simpa [nth] using ht (t + 1))
    rw [h0, h1]
theorem fillL_length : ∀ (DL : List (Nat × Tmp)) (l : List Value) (v : Nat → Value), (fillL l DL v).length = l.length
  | [], _, _ => rfl
  | e :: r, l, v => by rw [fillL, fillL_length r, lset_length]
theorem nth_fillL : ∀ (DL : List (Nat × Tmp)) (l : List Value) (v : Nat → Value) (t : Tmp), (∀ e ∈ DL, e.2 < l.length) → (DL.map (·.2)).Nodup → nth (fillL l DL v) t = sel DL (fun _ => true) v l t
  | [], _, _, _, _, _ => rfl
  | e :: r, l, v, t, hl, hn => by
    simp only [List.map_cons, List.nodup_cons] at hn
    rw [fillL, nth_fillL r _ v t (fun e' he' => by rw [lset_length]; exact hl e' (List.mem_cons_of_mem _ he')) hn.2]
    have h0 := nth_lset l e.2 t (v e.1) (hl e List.mem_cons_self)
    unfold sel
    rw [List.find?_cons]
    by_cases het : e.2 = t
    · subst het
      have : r.find? (fun e' => e'.2 == e.2) = none := by
        rw [List.find?_eq_none]
        intro x hx hxe
        exact hn.1 (by have := beq_iff_eq.1 hxe; rw [← this]; exact List.mem_map_of_mem hx)
      rw [this, h0]
      simp
    · have hb : (e.2 == t) = false := by simpa using het
      rw [hb, h0, if_neg (Ne.symm het)]

def bOk (ops : Array Oper) (B : List Nat) (DL : List (Nat × Tmp)) (Ms : List Nat) : Bool :=
  ((List.range ops.size).all fun i => match ops[i]? with
    | some o =>
      (o.after.toList.all fun e => !Region.binds .any e || decide (e.on < i)) &&
      ((List.range ops.size).all fun j => !bit B i j || (o.after.toList.any fun e => Region.binds .any e && (e.on == j || bit B e.on j))) &&
      ((o.looksAt ops).all fun t => DL.all fun e => !(e.2 == t) || (bit B i e.1 || bit B e.1 i)) &&
      (match o.dst with | some d => DL.contains (i, d) | none => DL.all fun e => !(e.1 == i)) &&
      (match o.op with | .select .. => false | _ => true) && decide (B.getD i 0 < 2 ^ ops.size)
    | none => false) &&
  (DL.all fun e => decide (e.1 < ops.size)) && decide (DL.map (·.1)).Nodup && decide (DL.map (·.2)).Nodup &&
  ((List.range Ms.length).all fun t => decide (Ms.getD t 0 < ops.size) && (List.range t).all fun s => bit B (Ms.getD t 0) (Ms.getD s 0)) && decide Ms.Nodup

/-- An operation, its guard asked. -/
def GDoes (P : Program) (ops : Array Oper) (o : Oper) (l : List Value) (w : World) (R : Value → World → Prop) : Prop :=
  if Region.wanted o (yielded ops l.toArray) = true then Does P o (ev l) w R else R undef w
section
variable {P : Program} {ops : Array Oper} {o : Oper} {l : List Value} {w : World} {R : Value → World → Prop}
theorem gd (hg : o.guard = none) (h : Does P o (ev l) w R) : GDoes P ops o l w R := by
  unfold GDoes
  rw [if_pos (by simp [Region.wanted, hg])]; exact h
theorem yielded_at {g : Nat} {og : Oper} {t : Tmp} {x : Value} (ho : ops[g]? = some og) (hd : og.dst = some t) (hl : t < l.length) (hv : nth l t = x) : yielded ops l.toArray g = (fun y : Value => match y with | .bool b => some b | _ => none) x := by
  have hv' : l[t]? = some x := by rw [nth_eq, List.getD_eq_getElem?_getD, List.getElem?_eq_getElem hl, Option.getD_some] at hv; rw [List.getElem?_eq_getElem hl, hv]
  simp only [yielded, ho, hd, Option.bind_some, List.getElem?_toArray, hv']
  cases x <;> rfl
theorem gd_on {g : Nat} {u : Bool} {og : Oper} {t : Tmp} (hg : o.guard = some (g, u)) (ho : ops[g]? = some og) (hd : og.dst = some t) (hl : t < l.length) (hv : nth l t = .bool u) (h : Does P o (ev l) w R) : GDoes P ops o l w R := by
  unfold GDoes
  rw [if_pos (by simp [Region.wanted, hg, yielded_at ho hd hl hv])]; exact h
theorem gd_off {g : Nat} {u : Bool} {og : Oper} {t : Tmp} (hg : o.guard = some (g, u)) (ho : ops[g]? = some og) (hd : og.dst = some t) (hl : t < l.length) (hv : nth l t = .bool (!u)) (h : R undef w) : GDoes P ops o l w R := by
  unfold GDoes
  rw [if_neg (by cases u <;> simp [Region.wanted, hg, yielded_at ho hd hl hv])]; exact h
end

def nthO : List Oper → Nat → Option Oper
  | [], _ => none
  | o :: _, 0 => some o
  | _ :: l, n + 1 => nthO l n
theorem nthO_eq : ∀ (l : List Oper) (n : Nat), nthO l n = l[n]?
  | [], _ => by simp [nthO]
  | _ :: _, 0 => rfl
  | _ :: l, n + 1 => by simp [nthO, nthO_eq l n]
theorem nthO_ops {ops : Array Oper} {i : Nat} {o : Oper} (h : nthO ops.toList i = some o) : ops[i]? = some o := by
  rw [nthO_eq, Array.getElem?_toList] at h; exact h
def Ivs (b : Nat → Prop) (lo hi : Nat → Nat) (w0 w : World) : Prop :=
  (∀ j, b j → w0.heap.size ≤ lo j ∧ lo j ≤ hi j ∧ hi j ≤ w.heap.size) ∧ ∀ i j, b i → b j → i ≠ j → hi i ≤ lo j ∨ hi j ≤ lo i

section
variable {r : Option Nat} {P : Program} {ops : Array Oper} {Q : Exit → Act → World → Prop} {O : Nat → Prop}

/-- What is owed of an operation that writes nothing that stands. -/
def LStep (P : Program) (ops : Array Oper) (O : Nat → Prop) (DL : List (Nat × Tmp)) (l : List Value) (lv : (Nat → Value) → List Value) (w0 : World) (n : Nat) (B : List Nat) (Ms : List Nat) (Φ : Nat → RF O) (Rs : Nat → World → Prop) (i : Nat) : Prop :=
  ∀ (v : Nat → Value) (lo hi : Nat → Nat) (w : World) (k : Nat), Only O w0 w → (∀ j, bit B i j = true → (Φ j).p (rs B j v) (v j) (lo j) (hi j) w) → Ivs (fun j => bit B i j = true) lo hi w0 w →
    (∀ t, t < Ms.length → bit B i (Ms.getD t 0) = true → t < k) → (∀ t, t < Ms.length → bit B (Ms.getD t 0) i = true → k ≤ t) → k ≤ Ms.length → Rs k w → (∀ e ∈ DL, bit B e.1 i = true → v e.1 = nth l e.2) →
    ∃ o, nthO ops.toList i = some o ∧ GDoes P ops o (lv v) w fun u w' => (Φ i).p (rs B i v) u w.heap.size w'.heap.size w' ∧ Only No w w'
/-- What is owed of the t-th operation that writes. -/
def MStep (P : Program) (ops : Array Oper) (O : Nat → Prop) (DL : List (Nat × Tmp)) (l : List Value) (lv : (Nat → Value) → List Value) (w0 : World) (n : Nat) (B : List Nat) (Φ : Nat → RF O) (Rs : Nat → World → Prop) (t i : Nat) : Prop :=
  ∀ (v : Nat → Value) (lo hi : Nat → Nat) (w : World), Only O w0 w → (∀ j, bit B i j = true → (Φ j).p (rs B j v) (v j) (lo j) (hi j) w) → Ivs (fun j => bit B i j = true) lo hi w0 w → Rs t w → (∀ e ∈ DL, bit B e.1 i = true → v e.1 = nth l e.2) →
    ∃ o, nthO ops.toList i = some o ∧ GDoes P ops o (lv v) w fun u w' => (Φ i).p (rs B i v) u w.heap.size w'.heap.size w' ∧ Rs (t + 1) w' ∧ Only O w w'

structure Inv (O : Nat → Prop) (l : List Value) (ds : List Deferred) (w0 : World) (n : Nat) (B : List Nat) (DL : List (Nat × Tmp)) (Ms : List Nat) (Φ : Nat → RF O) (Rs : Nat → World → Prop) (b : Nat → Bool) (a' : Act) (w : World) : Prop where
  out : ∃ (v : Nat → Value) (lo hi : Nat → Nat) (k : Nat) (l' : List Value), a' = fr l' ds ∧ l'.length = l.length ∧ (∀ t, nth l' t = sel DL b v l t) ∧ Only O w0 w ∧
    (∀ j, j < n → b j = true → (Φ j).p (rs B j v) (v j) (lo j) (hi j) w) ∧ Ivs (fun j => b j = true) lo hi w0 w ∧ k ≤ Ms.length ∧ (∀ t, t < Ms.length → (b (Ms.getD t 0) = true ↔ t < k)) ∧ Rs k w
  closed : ∀ i, b i = true → ∀ j, bit B i j = true → b j = true

theorem bOk_parts {B : List Nat} {DL : List (Nat × Tmp)} {Ms : List Nat} (h : bOk ops B DL Ms = true) :
    (∀ i o, ops[i]? = some o → (∀ e ∈ o.after, Region.binds .any e = true → e.on < i) ∧ (∀ j, j < ops.size → bit B i j = true → ∃ e ∈ o.after, Region.binds .any e = true ∧ (e.on = j ∨ bit B e.on j = true)) ∧
      (∀ t ∈ o.looksAt ops, ∀ e ∈ DL, e.2 = t → (bit B i e.1 || bit B e.1 i) = true) ∧ (∀ d, o.dst = some d → (i, d) ∈ DL) ∧ (o.dst = none → ∀ e ∈ DL, e.1 ≠ i) ∧ (∀ cs c, o.op ≠ .select cs c) ∧ (∀ j, bit B i j = true → j < ops.size)) ∧
    (∀ e ∈ DL, e.1 < ops.size) ∧ (DL.map (·.1)).Nodup ∧ (DL.map (·.2)).Nodup ∧ (∀ t, t < Ms.length → Ms.getD t 0 < ops.size ∧ ∀ s, s < t → bit B (Ms.getD t 0) (Ms.getD s 0) = true) ∧ Ms.Nodup := by
  simp only [bOk, Bool.and_eq_true, decide_eq_true_eq] at h
  obtain ⟨⟨⟨⟨⟨h1, h2⟩, h3⟩, h4⟩, h5⟩, h6⟩ := h
  refine ⟨fun i o ho => ?_, fun e he => by simpa using List.all_eq_true.1 h2 e he, h3, h4, fun t ht => ?_, h6⟩
  · have hi : i < ops.size := (Array.getElem?_eq_some_iff.1 ho).1
    have := List.all_eq_true.1 h1 i (List.mem_range.2 hi)
    rw [ho] at this
    simp only [Bool.and_eq_true] at this
    obtain ⟨⟨⟨⟨⟨a1, a2⟩, a3⟩, a4⟩, a5⟩, a6⟩ := this
    refine ⟨fun e he hb => ?_, fun j hj hb => ?_, fun t ht e he het => ?_, fun d hd => ?_, fun hd e he => ?_, fun cs c hc => ?_, fun j hj => ?_⟩
    · have := List.all_eq_true.1 a1 e (by simpa using he)
      simpa [hb] using this
    · have := List.all_eq_true.1 a2 j (List.mem_range.2 hj)
      rw [hb] at this
      simp only [Bool.not_true, Bool.false_or, List.any_eq_true, Bool.and_eq_true, Bool.or_eq_true, beq_iff_eq] at this
      obtain ⟨e, he, hbe, hor⟩ := this
      exact ⟨e, by simpa using he, hbe, hor⟩
    · have := List.all_eq_true.1 (List.all_eq_true.1 a3 t ht) e he
      simpa [het] using this
    · rw [hd] at a4; exact List.contains_iff_mem.1 a4
    · rw [hd] at a4; simpa using List.all_eq_true.1 a4 e he
    · rw [hc] at a5; cases a5
    · rcases Nat.lt_or_ge j ops.size with h | h
      · exact h
      · have h2 : B.getD i 0 < 2 ^ j := Nat.lt_of_lt_of_le (of_decide_eq_true a6) (Nat.pow_le_pow_right (by decide) h)
        unfold bit at hj
        rw [Nat.testBit_lt_two_pow h2] at hj
        cases hj
  · have := List.all_eq_true.1 h5 t (List.mem_range.2 ht)
    simp only [Bool.and_eq_true, decide_eq_true_eq] at this
    exact ⟨this.1, fun s hs => List.all_eq_true.1 this.2 s (List.mem_range.2 hs)⟩

def up (b : Nat → Bool) (i : Nat) : Nat → Bool := fun j => if j = i then true else b j
def upv {α : Type} (v : Nat → α) (i : Nat) (u : α) : Nat → α := fun j => if j = i then u else v j
theorem find_at {DL : List (Nat × Tmp)} {i d : Nat} (h2 : (DL.map (·.2)).Nodup) (hm : (i, d) ∈ DL) : DL.find? (fun e => e.2 == d) = some (i, d) := by
  induction DL with
  | nil => cases hm
  | cons x r ih =>
    simp only [List.map_cons, List.nodup_cons] at h2
    rw [List.find?_cons]
    rcases List.mem_cons.1 hm with rfl | hm
    · simp
    · have : (x.2 == d) = false := by
        rw [beq_eq_false_iff_ne]
        intro e
        exact h2.1 (by rw [e]; exact List.mem_map_of_mem (f := (·.2)) hm)
      rw [this]
      exact ih h2.2 hm
theorem fst_at {DL : List (Nat × Tmp)} {e e' : Nat × Tmp} (h1 : (DL.map (·.1)).Nodup) (hm : e ∈ DL) (hm' : e' ∈ DL) (h : e.1 = e'.1) : e = e' := by
  induction DL with
  | nil => cases hm
  | cons x r ih =>
    simp only [List.map_cons, List.nodup_cons] at h1
    rcases List.mem_cons.1 hm with hx | hm2
    · rcases List.mem_cons.1 hm' with hx' | hm2'
      · rw [hx, hx']
      · exact absurd (by rw [← hx, h]; exact List.mem_map_of_mem (f := (·.1)) hm2') h1.1
    · rcases List.mem_cons.1 hm' with hx' | hm2'
      · exact absurd (by rw [← hx', ← h]; exact List.mem_map_of_mem (f := (·.1)) hm2) h1.1
      · exact ih h1.2 hm2 hm2'

theorem nodup_at : ∀ {L : List Nat} {i j : Nat} (_ : L.Nodup) (hi : i < L.length) (hj : j < L.length), L[i] = L[j] → i = j
  | [], _, _, _, hi, _, _ => by simp at hi
  | _ :: _, 0, 0, _, _, _, _ => rfl
  | x :: L, 0, j + 1, hn, _, hj, h => by
    rw [List.nodup_cons] at hn
    simp only [List.getElem_cons_zero, List.getElem_cons_succ] at h
    exact absurd (by rw [h]; exact List.getElem_mem _) hn.1
  | x :: L, i + 1, 0, hn, hi, _, h => by
    rw [List.nodup_cons] at hn
    simp only [List.getElem_cons_zero, List.getElem_cons_succ] at h
    exact absurd (by rw [← h]; exact List.getElem_mem _) hn.1
  | x :: L, i + 1, j + 1, hn, hi, hj, h => by
    rw [List.nodup_cons] at hn
    simp only [List.getElem_cons_succ] at h
    rw [nodup_at hn.2 (by simpa using hi) (by simpa using hj) h]
theorem count_up {b : Nat → Bool} {i : Nat} (hb : b i = false) : ∀ {O : List Nat}, O.Nodup → i ∈ O → (O.filter fun j => !up b i j).length + 1 = (O.filter fun j => !b j).length
  | [], _, hi => by cases hi
  | x :: r, hn, hi => by
    rw [List.nodup_cons] at hn
    rcases List.mem_cons.1 hi with rfl | hi
    · have h1 : (r.filter fun j => !up b i j) = r.filter fun j => !b j := by
        refine List.filter_congr (fun j hj => ?_)
        have : j ≠ i := fun e => hn.1 (e ▸ hj)
        simp [up, this]
      rw [List.filter_cons, List.filter_cons]
      simp [up, hb, ← h1]
    · have hxi : x ≠ i := fun e => hn.1 (e ▸ hi)
      have h1 := count_up hb hn.2 hi
      rw [List.filter_cons, List.filter_cons]
      have : up b i x = b x := by simp [up, hxi]
      rw [this]
      cases hbx : b x
      · simp only [Bool.not_false, if_true, List.length_cons]; omega
      · simpa using h1

theorem list_up {b : Nat → Bool} {n i : Nat} : ((List.range n).map b).toArray.setIfInBounds i true = ((List.range n).map (up b i)).toArray := by
  apply Array.ext'
  rw [Array.toList_setIfInBounds]
  apply List.ext_getElem?
  intro j
  rw [List.getElem?_set]
  simp only [List.getElem?_map, List.length_map, List.length_range]
  by_cases hij : i = j
  · subst hij
    by_cases hi : i < n
    · simp [hi, up]
    · simp [hi, List.getElem?_eq_none]
  · simp only [hij, if_false]
    by_cases hj : j < n
    · simp [hj, up, Ne.symm hij]
    · simp [hj, List.getElem?_eq_none]

section
variable {l : List Value} {ds : List Deferred} {w0 : World} {n : Nat} {B : List Nat} {DL : List (Nat × Tmp)} {Ms : List Nat} {Φ : Nat → RF O} {Rs : Nat → World → Prop}

/-- One operation put behind those that are through. -/
theorem inv_up {b : Nat → Bool} {i k' : Nat} {v : Nat → Value} {lo hi : Nat → Nat} {l' : List Value} {w w' : World} {u : Value} {o : Oper}
    (hB : bOk ops B DL Ms = true) (hn : ops.size = n) (hDl : ∀ e ∈ DL, e.2 < l.length) (ho : ops[i]? = some o) (hbi : b i = false)
    (hlen : l'.length = l.length) (hl' : ∀ t, nth l' t = sel DL b v l t) (hO : Only O w0 w) (hΦ : ∀ j, j < n → b j = true → (Φ j).p (rs B j v) (v j) (lo j) (hi j) w)
    (hIv : Ivs (fun j => b j = true) lo hi w0 w) (hcl : ∀ i, b i = true → ∀ j, bit B i j = true → b j = true) (hpre : ∀ j, bit B i j = true → b j = true)
    (hu : (Φ i).p (rs B i v) u w.heap.size w'.heap.size w') (hw : Only O w w') (hk : k' ≤ Ms.length) (hms : ∀ t, t < Ms.length → (up b i (Ms.getD t 0) = true ↔ t < k')) (hr : Rs k' w') :
    Inv O l ds w0 n B DL Ms Φ Rs (up b i) (fr (lput l' o.dst u) ds) w' := by
  obtain ⟨hops, hlt, hnd1, hnd2, hMs, hMn⟩ := bOk_parts hB
  obtain ⟨e1, e2, e3, e4, e5, e6, e7⟩ := hops i o ho
  have hii : bit B i i = false := by
    cases h : bit B i i with
    | false => rfl
    | true => have := hpre i h; rw [hbi] at this; cases this
  have hrs : ∀ j, (j = i ∨ b j = true) → rs B j (upv v i u) = rs B j v := by
    intro j hj
    funext m
    unfold rs
    split
    · rename_i hm
      have : m ≠ i := by
        rintro rfl
        rcases hj with rfl | hj
        · rw [hii] at hm; cases hm
        · have := hcl j hj m hm; rw [hbi] at this; cases this
      simp [upv, this]
    · rfl
  refine ⟨⟨upv v i u, upv lo i w.heap.size, upv hi i w'.heap.size, k', lput l' o.dst u, rfl, ?_, ?_, hO.trans hw, ?_, ?_, hk, hms, hr⟩, ?_⟩
  · cases hd : o.dst with
    | none => exact hlen
    | some d => show (lset l' d u).length = _; rw [lset_length]; exact hlen
  · intro t
    cases hd : o.dst with
    | none =>
      show nth l' t = _
      rw [hl' t]
      unfold sel
      cases hf : DL.find? (fun e => e.2 == t) with
      | none => rfl
      | some e =>
        have hne := e5 hd e (List.mem_of_find?_eq_some hf)
        simp [up, upv, hne]
    | some d =>
      have hm := e4 d hd
      show nth (lset l' d u) t = _
      rw [nth_lset _ _ _ _ (by rw [hlen]; exact hDl _ hm)]
      by_cases htd : t = d
      · subst htd
        rw [if_pos rfl]
        unfold sel
        rw [find_at hnd2 hm]
        simp [up, upv]
      · rw [if_neg htd, hl' t]
        unfold sel
        cases hf : DL.find? (fun e => e.2 == t) with
        | none => rfl
        | some e =>
          have he := List.mem_of_find?_eq_some hf
          have het : e.2 = t := by simpa using List.find?_some hf
          have hne : e.1 ≠ i := by
            intro h
            have := fst_at hnd1 he hm h
            rw [this] at het
            exact htd het.symm
          simp [up, upv, hne]
  · intro j hj hbj
    by_cases hji : j = i
    · subst hji
      rw [hrs j (.inl rfl)]
      simp only [upv, if_true]
      exact hu
    · have hbj' : b j = true := by simpa [up, hji] using hbj
      rw [hrs j (.inr hbj')]
      simp only [upv, hji, if_false]
      exact (Φ j).st (hΦ j hj hbj') hw
  · refine ⟨fun j hj => ?_, fun x y hx hy hxy => ?_⟩
    · by_cases hji : j = i
      · subst hji; simp only [upv, if_true]; exact ⟨hO.size, hw.size, Nat.le_refl _⟩
      · have hbj' : b j = true := by simpa [up, hji] using hj
        simp only [upv, hji, if_false]
        have := hIv.1 j hbj'
        have := hw.size
        omega
    · by_cases hxi : x = i
      · subst hxi
        have hyi : y ≠ x := Ne.symm hxy
        have hby : b y = true := by simpa [up, hyi] using hy
        simp only [upv, if_true, hyi, if_false]
        have := hIv.1 y hby
        omega
      · have hbx : b x = true := by simpa [up, hxi] using hx
        by_cases hyi : y = i
        · subst hyi
          simp only [upv, if_true, hxi, if_false]
          have := hIv.1 x hbx
          omega
        · have hby : b y = true := by simpa [up, hyi] using hy
          simp only [upv, hxi, hyi, if_false]
          exact hIv.2 x y hbx hby hxy
  · intro j hj m hm
    by_cases hji : j = i
    · subst hji
      have := hpre m hm
      by_cases hmi : m = j
      · simp [up, hmi]
      · simp [up, hmi, this]
    · have hbj' : b j = true := by simpa [up, hji] using hj
      have := hcl j hbj' m hm
      by_cases hmi : m = i
      · simp [up, hmi]
      · simp [up, hmi, this]

theorem gdoes_wp {b : Nat → Bool} {i : Nat} {v : Nat → Value} {l' : List Value} {w : World} {o : Oper} {R : Value → World → Prop} {K : Act → World → Prop}
    (hB : bOk ops B DL Ms = true) (hDl : ∀ e ∈ DL, e.2 < l.length) (ho : ops[i]? = some o) (hlen : l'.length = l.length) (hl' : ∀ t, nth l' t = sel DL b v l t) (hold : ∀ e ∈ DL, b e.1 = false → v e.1 = nth l e.2)
    (h : GDoes P ops o (fillL l DL v) w R) (hK : ∀ u w', R u w' → K (fr (lput l' o.dst u) ds) w') : wpOpIn (Wf r) 0 P ops Q i K (fr l' ds) w := by
  obtain ⟨hops, hlt, hnd1, hnd2, hMs, hMn⟩ := bOk_parts hB
  obtain ⟨e1, e2, e3, e4, e5, e6, e7⟩ := hops i o ho
  have hlook : ∀ t ∈ o.looksAt ops, nth l' t = nth (fillL l DL v) t := by
    intro t ht
    rw [hl' t, nth_fillL DL l v t hDl hnd2]
    unfold sel
    cases hf : DL.find? (fun e => e.2 == t) with
    | none => rfl
    | some e =>
      have he := List.mem_of_find?_eq_some hf
      have het : e.2 = t := by simpa using List.find?_some hf
      by_cases hb : b e.1 = true
      · simp only [hb, if_true]
      · have hb' : b e.1 = false := by simpa using hb
        simp only [hb', if_true, Bool.false_eq_true, if_false, hold e he hb', het]
  have hlen2 : (fillL l DL v).length = l'.length := by rw [fillL_length, hlen]
  have hget : ∀ t ∈ o.looksAt ops, l'.toArray[t]? = (fillL l DL v).toArray[t]? := by
    intro t ht
    have h1 := hlook t ht
    rw [nth_eq, nth_eq, List.getD_eq_getElem?_getD, List.getD_eq_getElem?_getD] at h1
    rw [List.getElem?_toArray, List.getElem?_toArray]
    have hlen3 := hlen2
    by_cases htl : t < l'.length
    · rw [List.getElem?_eq_getElem htl, List.getElem?_eq_getElem (by rw [hlen2]; exact htl)] at h1 ⊢
      simpa using h1
    · have h2 : l'.length ≤ t := Nat.le_of_not_lt htl
      rw [List.getElem?_eq_none h2, List.getElem?_eq_none (by rw [hlen2]; exact h2)]
  have hex : execOp (ev l') o = execOp (ev (fillL l DL v)) o := by
    refine execOp_congr o e6 (fun x hx => ?_)
    cases x with
    | tmp t =>
      exact hlook t (by unfold Oper.looksAt; exact List.mem_append_left _ (List.mem_filterMap.2 ⟨.tmp t, by simpa using hx, rfl⟩))
    | _ => rfl
  have hwt : Region.wanted o (yielded ops l'.toArray) = Region.wanted o (yielded ops (fillL l DL v).toArray) := by
    unfold Region.wanted
    cases hgd : o.guard with
    | none => rfl
    | some gw =>
      obtain ⟨g, want⟩ := gw
      have hy : yielded ops l'.toArray g = yielded ops (fillL l DL v).toArray g := by
        unfold yielded
        cases ht : (ops[g]?).bind (·.dst) with
        | none => rfl
        | some t =>
          have h1 := hget t (by unfold Oper.looksAt; rw [hgd]; simp [ht])
          simp only [Option.bind_some, h1]
      simp only [hy]
  unfold wpOpIn
  rw [ho]
  show (if Region.wanted o (yielded ops l'.toArray) = true then _ else _)
  unfold GDoes at h
  rw [hwt]
  split
  · rename_i hwd
    rw [if_pos hwd] at h
    refine Does.wp (R := R) (by rw [fr_eval]; unfold Does at h ⊢; rw [hex]; exact h) (fun u w' hu => ?_)
    rw [fr_put]
    exact hK u w' hu
  · rename_i hwd
    rw [if_neg hwd] at h
    exact ⟨fun _ _ => trivial, by rw [fr_put]; exact hK _ _ h⟩

theorem region_go (hB : bOk ops B DL Ms = true) (hn : ops.size = n) (hDl : ∀ e ∈ DL, e.2 < l.length) (hR : ∀ k w w', Rs k w → Only No w w' → Rs k w')
    (hs : ∀ i, i < n → i ∉ Ms → LStep P ops O DL l (fun v => fillL l DL v) w0 n B Ms Φ Rs i) (hm : ∀ t, t < Ms.length → MStep P ops O DL l (fun v => fillL l DL v) w0 n B Φ Rs t (Ms.getD t 0))
    (hend : ∀ v lo hi w', Only O w0 w' → (∀ j, j < n → (Φ j).p (rs B j v) (v j) (lo j) (hi j) w') → Ivs (fun j => j < n) lo hi w0 w' → Rs Ms.length w' → Q .normal (fr (fillL l DL v) ds) w') :
    ∀ (m : Nat) (b : Nat → Bool) (a : Act) (w : World), ((List.range n).filter fun j => !b j).length = m → Inv O l ds w0 n B DL Ms Φ Rs b a w → wpAnyIn (Wf r) 0 P .any ops Q m ((List.range n).map b).toArray a w := by
  obtain ⟨hops, hlt, hnd1, hnd2, hMs, hMn⟩ := bOk_parts hB
  have getT : ∀ (b : Nat → Bool) (j : Nat), ((List.range n).map b).toArray.getD j true = (if j < n then b j else true) := by
    intro b j
    rw [Array.getD_eq_getD_getElem?, List.getElem?_toArray, List.getElem?_map]
    by_cases h : j < n <;> simp [h]
  have getF : ∀ (b : Nat → Bool) (j : Nat), ((List.range n).map b).toArray.getD j false = (if j < n then b j else false) := by
    intro b j
    rw [Array.getD_eq_getD_getElem?, List.getElem?_toArray, List.getElem?_map]
    by_cases h : j < n <;> simp [h]
  have all_of : ∀ b : Nat → Bool, Region.ready .any ops ((List.range n).map b).toArray = [] → ∀ i, i < n → b i = true := by
    intro b hr i
    induction i using Nat.strongRecOn with
    | _ i ih =>
      intro hi
      cases hb : b i with
      | true => rfl
      | false =>
        obtain ⟨o, ho⟩ : ∃ o, ops[i]? = some o := ⟨_, Array.getElem?_eq_getElem (by omega)⟩
        have : i ∈ Region.ready .any ops ((List.range n).map b).toArray := by
          rw [mem_ready]
          refine ⟨by rw [getT, if_pos hi, hb], o, ho, fun e he hbe => ?_⟩
          have := (hops i o ho).1 e he hbe
          rw [getF, if_pos (by omega)]
          exact ih e.on this (by omega)
        rw [hr] at this
        cases this
  have fin : ∀ (b : Nat → Bool) (a : Act) (w : World), (∀ i, i < n → b i = true) → Inv O l ds w0 n B DL Ms Φ Rs b a w → Q .normal a w := by
    intro b a w hall hI
    obtain ⟨⟨v, lo, hi, k, l', rfl, hlen, hl', hO, hΦ, hIv, hk, hms, hr⟩, hcl⟩ := hI
    have hke : k = Ms.length := by
      rcases Nat.lt_or_ge k Ms.length with h | h
      · have := (hms k h).1 (hall _ (by have := (hMs k h).1; omega))
        omega
      · omega
    subst hke
    have : l' = fillL l DL v := by
      refine nth_ext (by rw [hlen, fillL_length]) (fun t => ?_)
      rw [hl' t, nth_fillL DL l v t hDl hnd2]
      unfold sel
      cases hf : DL.find? (fun e => e.2 == t) with
      | none => rfl
      | some e => simp [hall e.1 (by have := hlt e (List.mem_of_find?_eq_some hf); omega)]
    rw [this]
    exact hend v lo hi w hO (fun j hj => hΦ j hj (hall j hj)) ⟨fun j hj => hIv.1 j (hall j hj), fun x y hx hy => hIv.2 x y (hall x hx) (hall y hy)⟩ hr
  intro m
  induction m with
  | zero =>
    intro b a w hm0 hI
    have hall : ∀ i, i < n → b i = true := by
      intro i hi
      cases hb : b i with
      | true => rfl
      | false =>
        have : i ∈ (List.range n).filter fun j => !b j := List.mem_filter.2 ⟨List.mem_range.2 hi, by simp [hb]⟩
        rw [List.eq_nil_of_length_eq_zero hm0] at this
        cases this
    refine ⟨?_, fin b a w hall hI⟩
    refine List.eq_nil_iff_forall_not_mem.2 (fun i hi => ?_)
    rw [mem_ready] at hi
    obtain ⟨h1, o, ho, _⟩ := hi
    have : i < n := by have := (Array.getElem?_eq_some_iff.1 ho).1; omega
    rw [getT, if_pos this, hall i this] at h1
    cases h1
  | succ m ih =>
    intro b a w hm0 hI
    refine ⟨fun hr => fin b a w (all_of b hr) hI, fun i hi => ?_⟩
    rw [mem_ready] at hi
    obtain ⟨h1, o, ho, hedge⟩ := hi
    have hin : i < n := by have := (Array.getElem?_eq_some_iff.1 ho).1; omega
    rw [getT, if_pos hin] at h1
    obtain ⟨⟨v, lo, hi, k, l', rfl, hlen, hl', hO, hΦ, hIv, hk, hms, hr⟩, hcl⟩ := hI
    obtain ⟨e1, e2, e3, e4, e5, e6, e7⟩ := hops i o ho
    obtain ⟨v, hl', hΦ, hold⟩ : ∃ v : Nat → Value, (∀ t, nth l' t = sel DL b v l t) ∧ (∀ j, j < n → b j = true → (Φ j).p (rs B j v) (v j) (lo j) (hi j) w) ∧ (∀ e ∈ DL, b e.1 = false → v e.1 = nth l e.2) := by
      refine ⟨fun j => if b j then v j else match DL.find? (fun e => e.1 == j) with | some e => nth l e.2 | none => undef, fun t => ?_, fun j hj hbj => ?_, fun e he hbe => ?_⟩
      · rw [hl' t]
        unfold sel
        split
        · split
          · rename_i hb; exact (if_pos hb).symm
          · rfl
        · rfl
      · have h1 : rs B j (fun j => if b j then v j else match DL.find? (fun e => e.1 == j) with | some e => nth l e.2 | none => undef) = rs B j v := by
          funext m
          unfold rs
          split
          · rename_i hm; exact if_pos (hcl j hbj m hm)
          · rfl
        rw [h1]
        simp only [hbj, if_true]
        exact hΦ j hj hbj
      · have hf : DL.find? (fun e' => e'.1 == e.1) = some e := by
          cases hf : DL.find? (fun e' => e'.1 == e.1) with
          | none => have := List.find?_eq_none.1 hf e he; simp at this
          | some e' => rw [fst_at hnd1 (List.mem_of_find?_eq_some hf) he (by simpa using List.find?_some hf)]
        simp only [hbe, hf]
        rfl
    have hold' : ∀ e ∈ DL, bit B e.1 i = true → v e.1 = nth l e.2 := fun e he hbe => hold e he (by
      cases hb : b e.1 with
      | false => rfl
      | true => have := hcl e.1 hb i hbe; rw [h1] at this; cases this)
    have hpre : ∀ j, bit B i j = true → b j = true := by
      intro j hj
      obtain ⟨e, he, hbe, hor⟩ := e2 j (e7 j hj) hj
      have hbon : b e.on = true := by
        have := hedge e he hbe
        rw [getF] at this
        split at this
        · exact this
        · cases this
      rcases hor with rfl | hor
      · exact hbon
      · exact hcl e.on hbon j hor
    have hkmin : ∀ t, t < Ms.length → bit B i (Ms.getD t 0) = true → t < k := fun t ht hb => (hms t ht).1 (hpre _ hb)
    have hkmax : ∀ t, t < Ms.length → bit B (Ms.getD t 0) i = true → k ≤ t := by
      intro t ht hb
      rcases Nat.lt_or_ge t k with h | h
      · have := hcl _ ((hms t ht).2 h) i hb
        rw [h1] at this
        cases this
      · exact h
    have hIv' : Ivs (fun j => bit B i j = true) lo hi w0 w := ⟨fun j hj => hIv.1 j (hpre j hj), fun x y hx hy => hIv.2 x y (hpre x hx) (hpre y hy)⟩
    have hΦ' : ∀ j, bit B i j = true → (Φ j).p (rs B j v) (v j) (lo j) (hi j) w := fun j hj => hΦ j (by have := e7 j hj; omega) (hpre j hj)
    have hcnt : ((List.range n).filter fun j => !up b i j).length = m := by
      have := count_up h1 List.nodup_range (List.mem_range.2 hin)
      omega
    by_cases hiM : i ∈ Ms
    · obtain ⟨t, ht, hti⟩ : ∃ t, t < Ms.length ∧ Ms.getD t 0 = i := by
        obtain ⟨t, ht, hti⟩ := List.getElem_of_mem hiM
        exact ⟨t, ht, by rw [List.getD_eq_getElem?_getD, List.getElem?_eq_getElem ht]; exact hti⟩
      have hkt : k = t := by
        have h2 : ¬ t < k := fun h => by
          have := (hms t ht).2 h
          rw [hti, h1] at this
          cases this
        rcases Nat.eq_zero_or_pos t with h0 | h0
        · omega
        · have h3 := (hMs t ht).2 (t - 1) (by omega)
          rw [hti] at h3
          have := hkmin (t - 1) (by omega) h3
          omega
      subst hkt
      obtain ⟨o', ho'', hg⟩ := hm k ht v lo hi w hO (by rw [hti]; exact hΦ') (by rw [hti]; exact hIv') hr (by rw [hti]; exact hold')
      have ho' := nthO_ops ho''
      rw [hti] at ho' hg
      rw [ho] at ho'
      obtain rfl := Option.some.inj ho'
      refine gdoes_wp (l := l) (DL := DL) hB hDl ho hlen hl' hold hg (fun u w' hu => ?_)
      rw [list_up]
      obtain ⟨hu1, hu2, hu3⟩ := hu
      refine ih _ _ _ hcnt (inv_up hB hn hDl ho h1 hlen hl' hO hΦ hIv hcl hpre hu1 hu3 ht (fun s hs' => ?_) hu2)
      by_cases hst : s = k
      · subst hst; rw [hti]; simp [up]
      · have hne : Ms.getD s 0 ≠ i := by
          intro h
          rw [← hti, List.getD_eq_getElem?_getD, List.getD_eq_getElem?_getD, List.getElem?_eq_getElem hs', List.getElem?_eq_getElem ht] at h
          exact hst (nodup_at hMn hs' ht (by simpa using h))
        simp only [up, hne, if_false]
        rw [hms s hs']
        omega
    · obtain ⟨o', ho'', hg⟩ := hs i hin hiM v lo hi w k hO hΦ' hIv' hkmin hkmax hk hr hold'
      have ho' := nthO_ops ho''
      rw [ho] at ho'
      obtain rfl := Option.some.inj ho'
      refine gdoes_wp (l := l) (DL := DL) hB hDl ho hlen hl' hold hg (fun u w' hu => ?_)
      rw [list_up]
      refine ih _ _ _ hcnt (inv_up hB hn hDl ho h1 hlen hl' hO hΦ hIv hcl hpre hu.1 (No.any hu.2) hk (fun s hs' => ?_) (hR _ _ _ hr hu.2))
      have hne : Ms.getD s 0 ≠ i := by
        intro h
        refine hiM ?_
        rw [← h, List.getD_eq_getElem?_getD, List.getElem?_eq_getElem hs']
        exact List.getElem_mem hs'
      simp only [up, hne, if_false]
      exact hms s hs'

theorem drawn {id : Nat} (B : List Nat) (DL : List (Nat × Tmp)) (Ms : List Nat) (Φ : Nat → RF O) (Rs : Nat → World → Prop) (hmx : P.follows .mixedOrders = true) (hB : bOk ops B DL Ms = true) (hn : ops.size = n)
    (hDl : (DL.all fun e => decide (e.2 < l.length)) = true) (hR : ∀ k w w', Rs k w → Only No w w' → Rs k w') (h0 : Rs 0 w0)
    (hs : ∀ i, i < n → i ∉ Ms → LStep P ops O DL l (fun v => fillL l DL v) w0 n B Ms Φ Rs i) (hm : ∀ t, t < Ms.length → MStep P ops O DL l (fun v => fillL l DL v) w0 n B Φ Rs t (Ms.getD t 0))
    (hend : ∀ v lo hi w', Only O w0 w' → (∀ j, j < n → (Φ j).p (rs B j v) (v j) (lo j) (hi j) w') → Ivs (fun j => j < n) lo hi w0 w' → Rs Ms.length w' → Q .normal (fr (fillL l DL v) ds) w') :
    (Code.region id ops true).wpIn (Wf r) 0 P Q (fr l ds) w0 := by
  refine wpIn_region_any hmx ?_
  have hdr : Only No w0 { w0 with drawn := w0.drawn + 1 } := ⟨rfl, rfl, rfl, Nat.le_refl _, fun _ _ _ => rfl⟩
  have hl : Array.replicate ops.size false = ((List.range n).map fun _ => false).toArray := by
    rw [hn]
    apply Array.ext'
    simp [List.map_const']
  rw [hl, hn]
  have hDl' : ∀ e ∈ DL, e.2 < l.length := fun e he => by simpa using List.all_eq_true.1 hDl e he
  have hf : ((List.range n).filter fun _ => !false).length = n := by
    have h1 : ((List.range n).filter fun _ => !false) = List.range n := List.filter_eq_self.2 (fun _ _ => rfl)
    rw [h1, List.length_range]
  have hsel : ∀ t, nth l t = sel DL (fun _ => false) (fun _ => undef) l t := by
    intro t
    unfold sel
    split <;> simp
  exact region_go hB hn hDl' hR hs hm hend n (fun _ => false) _ _ hf ⟨⟨fun _ => undef, fun _ => 0, fun _ => 0, 0, l, rfl, rfl, hsel, No.any hdr, (fun _ _ h => by cases h), ⟨(fun _ h => by cases h), (fun _ _ h => by cases h)⟩, Nat.zero_le _, (fun t ht => by simp), hR _ _ _ h0 hdr⟩, (fun _ h => by cases h)⟩
end
end
end Go.Proofs.YtnlbekdjepkhcaaF
