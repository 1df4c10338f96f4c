/-
  Regions of open order in which nothing is written, or one thing at the end: told in the text's order, one line an operation.
-/
import Derived.Test.YtnlbekdjepkhcaaFk
set_option linter.unusedVariables false
set_option linter.unusedSimpArgs false
namespace Go.Proofs.YtnlbekdjepkhcaaF
open Go Go.Shelf Go.Proofs.YtnlbekdjepkhcaaS

/-! ### The address of an element of a row -/
def ixp (u : Value) (i : Nat) : Value := match u with
  | .slice (some a) _ _ => .pointer (some (a.add i))
  | _ => undef
section
variable {P : Program} {d : Option Tmp} {tt : TypeId} {s : String} {af : Array Edge} {g : Option (Nat × Bool)} {ρ : Operand → Value} {w : World} {α : Type} {enc : α → Value} {xs : List α} {X : Nat → Prop} {u : Value} {x y : Operand} {t e : TypeId} {bytes i : Nat} {z : Value} {k : IntKind} {v : α} {bo : Option Nat}
theorem d_ix (ht : P.underlying t = some (.slice e)) (hz : TI P e 1 bytes z) (hx : ρ x = u) (hS : Ps X (Seq (kS enc) xs u) w) (hy : ρ y = .int k (i : Int)) (h : i < xs.length) : DV P ⟨d, .indexAddr t x y, tt, s, af, g⟩ ρ w (ixp u i) := by
  obtain ⟨A, c, hu, hc, hel⟩ := hS.now
  obtain ⟨ad, hA, _⟩ := hel i xs[i] (List.getElem?_eq_getElem h)
  subst hA; subst hu
  refine Does.of_value (v := .pointer (some (ad.add i))) (w' := w) (by simp) ?_ ⟨rfl, rfl⟩
  have h1 : ¬ xs.length ≤ i := by omega
  simp [execOp, Instr.indexAt, hx, hy, asIntOf, run_underlying ht, hz.size, go_sem, h1]
theorem d_ldx (ht : Sc P t) (hx : ρ x = ixp u i) (hS : Ps X (Seq (kS enc) xs u) w) (hv : xs[i]? = some v) : DV P ⟨d, .load t x, tt, s, af, g⟩ ρ w (enc v) := by
  obtain ⟨A, c, hu, hc, hel⟩ := hS.now
  obtain ⟨ad, hA, hat⟩ := hel i v hv
  subst hA; subst hu
  have hc' : w.cell? (ad.add (i * 1)) = some (enc v) := hat
  rw [Nat.mul_one] at hc'
  refine Does.of_value (v := enc v) (w' := w) (by simp) ?_ ⟨rfl, rfl⟩
  have hx' : ρ x = .pointer (some (ad.add i)) := hx
  simp [execOp, Instr.loadAt, Instr.sureAddr, hx', loadVar, run_isAgg_sc ht, go_sem, hc']
theorem inrow_ix (hO : Ow e 1 bo u xs.length (xs.map enc) w) (h : i < xs.length) : InRow bo i (ixp u i) := by
  obtain ⟨b, cap, rest, hb, hu, hc, hA, hr⟩ := hO.at_ rfl h
  subst hu
  exact ⟨b, hb, by show Value.pointer (some _) = ptr b i; rw [add0, Nat.zero_add]; rfl⟩
theorem d_stx {zs : List α} (hz : TI P t 1 bytes z) (hx : ρ x = ixp u i) (hy : ρ y = enc v) (h1 : (enc v).oneCell' = true) (hO : Ow e 1 bo u xs.length (xs.map enc) w) (hi : i < xs.length) (hxs : xs.set i v = zs) : Does P ⟨d, .store t x y, tt, s, af, g⟩ ρ w (WroteOw e enc bo u zs w) :=
  d_storeOw hz hx (inrow_ix hO hi) hy h1 hO hi hxs
end

/-! ### Frames that agree on what is looked at -/
section
variable {r : Option Nat} {P : Program} {ops : Array Oper} {Q : Exit → Act → World → Prop} {O : Nat → Prop} {l L : List Value} {ds : List Deferred} {w0 w : World} {n : Nat} {B : List Nat} {DL : List (Nat × Tmp)} {X : List Value} {o : Oper} {R : Value → World → Prop}
theorem gdoes_congr {l1 l2 : List Value} (e6 : ∀ cs c, o.op ≠ .select cs c) (hlen : l1.length = l2.length) (hlook : ∀ t ∈ o.looksAt ops, nth l1 t = nth l2 t) (h : GDoes P ops o l2 w R) : GDoes P ops o l1 w R := by
  have hget : ∀ t ∈ o.looksAt ops, l1.toArray[t]? = l2.toArray[t]? := by
    intro t ht
    have h1 := hlook t ht
    rw [nth_eq, nth_eq, List.getD_eq_getElem?_getD, List.getD_eq_getElem?_getD] at h1
    rw [List.getElem?_toArray, List.getElem?_toArray]
    by_cases htl : t < l1.length
    · rw [List.getElem?_eq_getElem htl, List.getElem?_eq_getElem (by rw [← hlen]; exact htl)] at h1 ⊢
      simpa using h1
    · have h2 : l1.length ≤ t := Nat.le_of_not_lt htl
      rw [List.getElem?_eq_none h2, List.getElem?_eq_none (by rw [← hlen]; exact h2)]
  have hex : execOp (ev l1) o = execOp (ev l2) o := by
    refine execOp_congr o e6 (fun x hx => ?_)
    cases x with
    | tmp t => exact hlook t (by unfold Oper.looksAt; exact List.mem_append_left _ (List.mem_filterMap.2 ⟨.tmp t, by simpa using hx, rfl⟩))
    | _ => rfl
  have hwt : Region.wanted o (yielded ops l1.toArray) = Region.wanted o (yielded ops l2.toArray) := by
    unfold Region.wanted
    cases hgd : o.guard with
    | none => rfl
    | some gw =>
      obtain ⟨g, want⟩ := gw
      have hy : yielded ops l1.toArray g = yielded ops l2.toArray g := by
        unfold yielded
        cases ht : (ops[g]?).bind (·.dst) with
        | none => rfl
        | some t =>
          have h1 := hget t (by unfold Oper.looksAt; rw [hgd]; simp [ht])
          simp only [Option.bind_some, h1]
      simp only [hy]
  unfold GDoes at h ⊢
  rw [hwt]
  split
  · rename_i hwd
    rw [if_pos hwd] at h
    unfold Does at h ⊢; rw [hex]; exact h
  · rename_i hwd
    rw [if_neg hwd] at h
    exact h
/-- What is read and written within the region is written ahead. -/
def aOk (ops : Array Oper) (B : List Nat) (DL : List (Nat × Tmp)) : Bool :=
  (List.range ops.size).all fun i => match ops[i]? with
    | some o => (o.looksAt ops).all fun t => DL.all fun e => !(e.2 == t) || bit B i e.1
    | none => false
/-- What each operation gives, in the frame as it stands behind them all. -/
def AllG (P : Program) (ops : Array Oper) (L : List Value) (w : World) : List Oper → List Value → Prop
  | o :: os, x :: xs => GDoes P ops o L w (fun u w' => u = x ∧ Only No w w') ∧ AllG P ops L w os xs
  | _, _ => True
theorem AllG.cons {os : List Oper} {xs : List Value} {x : Value} (h : GDoes P ops o L w (fun u w' => u = x ∧ Only No w w')) (hs : AllG P ops L w os xs) : AllG P ops L w (o :: os) (x :: xs) := ⟨h, hs⟩
theorem AllG.nil {os : List Oper} : AllG P ops L w os [] := by cases os <;> exact trivial
theorem AllG.at_ : ∀ {os : List Oper} {xs : List Value} {i : Nat} {o : Oper}, AllG P ops L w os xs → os[i]? = some o → i < xs.length → GDoes P ops o L w (fun u w' => u = nth xs i ∧ Only No w w')
  | o :: os, x :: xs, 0, o', h, ho, _ => by simp at ho; subst ho; exact h.1
  | o :: os, x :: xs, i + 1, o', h, ho, hi => AllG.at_ (os := os) (xs := xs) (i := i) h.2 (by simpa using ho) (by simpa using hi)
  | [], _, _, _, _, ho, _ => by simp at ho
  | _ :: _, [], i, _, _, _, hi => by simp at hi
theorem look_eq {i : Nat} {Ms : List Nat} (hB : bOk ops B DL Ms = true) (hA : aOk ops B DL = true) (hDl : ∀ e ∈ DL, e.2 < l.length) (ho : ops[i]? = some o) {v x : Nat → Value} (hv : ∀ j, bit B i j = true → v j = x j) :
    ∀ t ∈ o.looksAt ops, nth (fillL l DL v) t = nth (fillL l DL x) t := by
  obtain ⟨hops, hlt, hnd1, hnd2, hMs, hMn⟩ := bOk_parts hB
  intro t ht
  rw [nth_fillL DL l v t hDl hnd2, nth_fillL DL l x t hDl hnd2]
  unfold sel
  cases hf : DL.find? (fun e => e.2 == t) with
  | none => rfl
  | some e =>
    have he := List.mem_of_find?_eq_some hf
    have het : e.2 = t := by simpa using List.find?_some hf
    have hi : i < ops.size := (Array.getElem?_eq_some_iff.1 ho).1
    have h1 := List.all_eq_true.1 hA i (List.mem_range.2 hi)
    rw [ho] at h1
    have h2 := List.all_eq_true.1 (List.all_eq_true.1 h1 t ht) e he
    rw [Bool.or_eq_true] at h2
    rcases h2 with h2 | h2
    · simp [het] at h2
    · simp only [if_true]; exact hv _ h2
theorem drawn_pure {id : Nat} (B : List Nat) (DL : List (Nat × Tmp)) (X L : List Value) (hmx : P.follows .mixedOrders = true) (hB : bOk ops B DL [] = true) (hA : aOk ops B DL = true) (hn : ops.size = X.length)
    (hDl : (DL.all fun e => decide (e.2 < l.length)) = true) (hL : fillL l DL (nth X) = L) (hops : ∀ w, Only No w0 w → AllG P ops L w ops.toList X)
    (hend : ∀ w', Only No w0 w' → Q .normal (fr L ds) w') : (Code.region id ops true).wpIn (Wf r) 0 P Q (fr l ds) w0 := by
  have hDl' : ∀ e ∈ DL, e.2 < l.length := fun e he => by simpa using List.all_eq_true.1 hDl e he
  have hin := bOk_parts hB
  refine drawn (O := No) (n := X.length) B DL [] (fun i => RF.is No (nth X i)) (fun _ _ => True) hmx hB hn hDl (fun _ _ _ _ _ => trivial) trivial (fun i hi _ => ?_) (fun t ht => by simp at ht) (fun v lo hi w' hO hd _ _ => ?_)
  · intro v lo hi' w k hO hd _ _ _ _ _ _
    have hs : i < ops.size := by omega
    refine ⟨ops[i], by rw [nthO_eq, Array.getElem?_toList]; exact Array.getElem?_eq_getElem hs, ?_⟩
    have ho : ops[i]? = some ops[i] := Array.getElem?_eq_getElem hs
    have hg := (hops w hO).at_ (i := i) (o := ops[i]) (by rw [Array.getElem?_toList]; exact ho) (by omega)
    refine gdoes_congr (l2 := L) ((hin.1 i _ ho).2.2.2.2.2.1) (by rw [← hL, fillL_length, fillL_length]) (fun t ht => ?_) hg
    rw [← hL]
    exact look_eq hB hA hDl' ho (fun j hj => hd j hj) t ht
  · have : fillL l DL v = L := by
      rw [← hL]
      refine nth_ext (by rw [fillL_length, fillL_length]) fun t => ?_
      rw [nth_fillL DL l v t hDl' hin.2.2.2.1, nth_fillL DL l (nth X) t hDl' hin.2.2.2.1]
      unfold sel
      cases hf : DL.find? (fun e => e.2 == t) with
      | none => rfl
      | some e =>
        have he := List.mem_of_find?_eq_some hf
        simp only [if_true]
        exact hd e.1 (by have := hin.2.1 e he; omega)
    show Q .normal (fr (fillL l DL v) ds) w'
    rw [this]
    exact hend w' hO
/-- The same, and the last one writes. -/
theorem drawn_last {id m : Nat} {R : World → Prop} (B : List Nat) (DL : List (Nat × Tmp)) (X L : List Value) (hmx : P.follows .mixedOrders = true) (hB : bOk ops B DL [m] = true) (hA : aOk ops B DL = true) (hn : ops.size = X.length + 1) (hm : m = X.length) (hall : ((List.range m).all fun i => bit B m i) = true)
    (hDl : (DL.all fun e => decide (e.2 < l.length)) = true) (hL : fillL l DL (nth X) = L) (hops : ∀ w, Only No w0 w → AllG P ops L w ops.toList X)
    (hR : ∀ w w', R w → Only No w w' → R w')
    (hlast : ∃ o, nthO ops.toList m = some o ∧ o.dst = none ∧ ∀ w, Only No w0 w → GDoes P ops o L w (fun _ w' => Only O w w' ∧ R w'))
    (hend : ∀ w', Only O w0 w' → R w' → Q .normal (fr L ds) w') : (Code.region id ops true).wpIn (Wf r) 0 P Q (fr l ds) w0 := by
  have hDl' : ∀ e ∈ DL, e.2 < l.length := fun e he => by simpa using List.all_eq_true.1 hDl e he
  have hin := bOk_parts hB
  have hbm : ∀ i, i < m → bit B m i = true := fun i hi => List.all_eq_true.1 hall i (List.mem_range.2 hi)
  refine drawn (O := O) (n := X.length + 1) B DL [m] (fun i => if i < m then RF.is O (nth X i) else RF.any O) (fun k w => if k = 0 then Only No w0 w else R w) hmx hB hn hDl (fun k w w' h h2 => ?_) (Only.refl _ _) (fun i hi hM => ?_) (fun t ht => ?_) (fun v lo hi w' hO hd _ hr => ?_)
  · split
    · next hk => rw [if_pos hk] at h; exact h.trans h2
    · next hk => rw [if_neg hk] at h; exact hR _ _ h h2
  · have him : i < m := by simp at hM; omega
    intro v lo hi' w k hO hd _ _ hk _ hr _
    have hk0 : k = 0 := Nat.le_zero.1 (hk 0 (by simp) (hbm i him))
    rw [if_pos hk0] at hr
    have hs : i < ops.size := by omega
    refine ⟨ops[i], by rw [nthO_eq, Array.getElem?_toList]; exact Array.getElem?_eq_getElem hs, ?_⟩
    have ho : ops[i]? = some ops[i] := Array.getElem?_eq_getElem hs
    have hg := (hops w hr).at_ (i := i) (o := ops[i]) (by rw [Array.getElem?_toList]; exact ho) (by omega)
    show GDoes P ops ops[i] (fillL l DL v) w (fun u w' => (if i < m then RF.is O (nth X i) else RF.any O : RF O).p (rs B i v) u w.heap.size w'.heap.size w' ∧ Only No w w')
    rw [if_pos him]
    refine gdoes_congr (l2 := L) ((hin.1 i _ ho).2.2.2.2.2.1) (by rw [← hL, fillL_length, fillL_length]) (fun t ht => ?_) hg
    rw [← hL]
    refine look_eq hB hA hDl' ho (fun j hj => ?_) t ht
    have hji : j < i := by
      have key : ∀ i, ∀ j, i < ops.size → bit B i j = true → j < i := by
        intro i
        induction i using Nat.strongRecOn with
        | _ i ih =>
          intro j hs hj
          have hp := hin.1 i _ (Array.getElem?_eq_getElem hs)
          obtain ⟨e, he, hb, h⟩ := hp.2.1 j (hp.2.2.2.2.2.2 j hj) hj
          have h1 := hp.1 e he hb
          rcases h with h | h
          · omega
          · have := ih e.on h1 j (by omega) h; omega
      exact key i j hs hj
    have h_ : (if j < m then RF.is O (nth X j) else RF.any O : RF O).p (rs B j v) (v j) (lo j) (hi' j) w := hd j hj
    rw [if_pos (show j < m by omega)] at h_
    exact h_
  · have h0 : t = 0 := by simpa using ht
    subst h0
    intro v lo hi w hO hd _ hr _
    obtain ⟨o, ho, hdst, hg⟩ := hlast
    rw [if_pos rfl] at hr
    refine ⟨o, ho, ?_⟩
    show GDoes P ops o (fillL l DL v) w (fun u w' => (if m < m then RF.is O (nth X m) else RF.any O : RF O).p (rs B m v) u w.heap.size w'.heap.size w' ∧ R w' ∧ Only O w w')
    rw [if_neg (Nat.lt_irrefl m)]
    have ho' : ops[m]? = some o := nthO_ops ho
    have hg' : GDoes P ops o L w (fun u w' => (RF.any O).p (rs B m v) u w.heap.size w'.heap.size w' ∧ R w' ∧ Only O w w') := by
      have := hg w hr
      unfold GDoes at this ⊢
      split
      · next hw => rw [if_pos hw] at this; exact this.mono fun u w' h => ⟨trivial, h.2, h.1⟩
      · next hw => rw [if_neg hw] at this; exact ⟨trivial, this.2, this.1⟩
    refine gdoes_congr (l2 := L) ((hin.1 m _ ho').2.2.2.2.2.1) (by rw [← hL, fillL_length, fillL_length]) (fun t ht => ?_) hg'
    rw [← hL]
    refine look_eq hB hA hDl' ho' (fun j hj => ?_) t ht
    have h_ : (if j < m then RF.is O (nth X j) else RF.any O : RF O).p (rs B j v) (v j) (lo j) (hi j) w := hd j hj
    have hjm : j < m := by
      have h1 := (hin.1 m _ ho').2.2.2.2.2.2 j hj
      rcases (show j < m ∨ j = m by omega) with h2 | h2
      · exact h2
      · subst h2
        obtain ⟨e, he, hb, h⟩ := (hin.1 j _ ho').2.1 j h1 hj
        have h3 := (hin.1 j _ ho').1 e he hb
        rcases h with h | h
        · omega
        · have key : ∀ i, ∀ j, i < ops.size → bit B i j = true → j < i := by
            intro i
            induction i using Nat.strongRecOn with
            | _ i ih =>
              intro j hs hj
              have hp := hin.1 i _ (Array.getElem?_eq_getElem hs)
              obtain ⟨e, he, hb, h⟩ := hp.2.1 j (hp.2.2.2.2.2.2 j hj) hj
              have h1 := hp.1 e he hb
              rcases h with h | h
              · omega
              · have := ih e.on h1 j (by omega) h; omega
          have := key j j (by omega) hj; omega
    rw [if_pos hjm] at h_
    exact h_
  · have : fillL l DL v = L := by
      rw [← hL]
      refine nth_ext (by rw [fillL_length, fillL_length]) fun t => ?_
      rw [nth_fillL DL l v t hDl' hin.2.2.2.1, nth_fillL DL l (nth X) t hDl' hin.2.2.2.1]
      unfold sel
      cases hf : DL.find? (fun e => e.2 == t) with
      | none => rfl
      | some e =>
        have he := List.mem_of_find?_eq_some hf
        simp only [if_true]
        have h1 := hin.2.1 e he
        have h2 : (if e.1 < m then RF.is O (nth X e.1) else RF.any O : RF O).p (rs B e.1 v) (v e.1) (lo e.1) (hi e.1) w' := hd e.1 (by omega)
        have h3 : e.1 < m := by
          rcases (show e.1 < m ∨ e.1 = m by omega) with h | h
          · exact h
          · obtain ⟨o, ho, hdst, _⟩ := hlast
            exact absurd h ((hin.1 m o (nthO_ops ho)).2.2.2.2.1 hdst e he)
        rw [if_pos h3] at h2
        exact h2
    show Q .normal (fr (fillL l DL v) ds) w'
    rw [this]
    exact hend w' hO hr
theorem gi {x : Value} (hg : o.guard = none) (h : DV P o (ev L) w x) : GDoes P ops o L w (fun u w' => u = x ∧ Only No w w') := gd hg (h.mono fun u w' ⟨h1, h2⟩ => ⟨h1, h2 ▸ Only.refl _ _⟩)
theorem gc {x : Value} (hg : o.guard = none) (h : Does P o (ev L) w (RIs x w)) : GDoes P ops o L w (fun u w' => u = x ∧ Only No w w') := gd hg h
theorem gi_on {x : Value} {g : Nat} {u : Bool} {og : Oper} {t : Tmp} (hg : o.guard = some (g, u)) (ho : ops[g]? = some og) (hd : og.dst = some t) (hl : t < L.length) (hv : nth L t = .bool u) (h : DV P o (ev L) w x) : GDoes P ops o L w (fun u w' => u = x ∧ Only No w w') := gd_on hg ho hd hl hv (h.mono fun u w' ⟨h1, h2⟩ => ⟨h1, h2 ▸ Only.refl _ _⟩)
theorem gc_on {x : Value} {g : Nat} {u : Bool} {og : Oper} {t : Tmp} (hg : o.guard = some (g, u)) (ho : ops[g]? = some og) (hd : og.dst = some t) (hl : t < L.length) (hv : nth L t = .bool u) (h : Does P o (ev L) w (RIs x w)) : GDoes P ops o L w (fun u w' => u = x ∧ Only No w w') := gd_on hg ho hd hl hv h
theorem gf {g : Nat} {u : Bool} {og : Oper} {t : Tmp} (hg : o.guard = some (g, u)) (ho : ops[g]? = some og) (hd : og.dst = some t) (hl : t < L.length) (hv : nth L t = .bool (!u)) : GDoes P ops o L w (fun u w' => u = undef ∧ Only No w w') := gd_off hg ho hd hl hv ⟨rfl, Only.refl _ _⟩
theorem gfu {g : Nat} {u : Bool} {og : Oper} {t : Tmp} (hg : o.guard = some (g, u)) (ho : ops[g]? = some og) (hd : og.dst = some t) (hl : t < L.length) (hv : nth L t = undef) : GDoes P ops o L w (fun u w' => u = undef ∧ Only No w w') := gd_offu hg ho hd hl hv ⟨rfl, Only.refl _ _⟩
end
end Go.Proofs.YtnlbekdjepkhcaaF
