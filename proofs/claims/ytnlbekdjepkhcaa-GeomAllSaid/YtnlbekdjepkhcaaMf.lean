import Derived.Test.YtnlbekdjepkhcaaMe
import Derived.Test.YtnlbekdjepkhcaaFf
/-
  What the walks of the code name: lists as they stand within the loops.
-/
set_option linter.unusedVariables false
set_option linter.unusedSimpArgs false
namespace Ram
open Go.Proofs.YtnlbekdjepkhcaaF (shlB shrB)
theorem shr_bit (c : UInt8) {k : Nat} (hk : k < 8) : (shrB c k &&& 1 = 1) ↔ c.toNat.testBit k = true := by
  have h : (shrB c k &&& 1).toNat = (c.toNat >>> k) % 2 := by
    rw [UInt8.toNat_and]
    unfold shrB
    have h1 : c.toNat / 2 ^ k < 256 := Nat.lt_of_le_of_lt (Nat.div_le_self _ _) (UInt8.toNat_lt c)
    rw [ofNat_nat h1, Nat.shiftRight_eq_div_pow]
    exact Nat.and_one_is_mod _
  have h2 : c.toNat.testBit k = decide ((c.toNat >>> k) % 2 = 1) := by
    rw [Nat.testBit_eq_decide_div_mod_eq, Nat.shiftRight_eq_div_pow]
  rw [h2, decide_eq_true_eq, ← h]
  exact ⟨fun e => by rw [e]; rfl, fun e => nat_inj e⟩
theorem shr_no (c : UInt8) {k : Nat} (hk : k < 8) : (shrB c k &&& 1 = 0) ↔ c.toNat.testBit k = false := by
  have h := shr_bit c hk
  have h3 : (shrB c k &&& 1).toNat < 2 := by
    rw [UInt8.toNat_and]
    exact Nat.lt_of_le_of_lt Nat.and_le_right (by decide)
  constructor
  · intro e
    cases hb : c.toNat.testBit k with
    | false => rfl
    | true => rw [h.2 hb] at e; exact absurd e (by decide)
  · intro e
    refine nat_inj ?_
    have : (shrB c k &&& 1).toNat ≠ 1 := fun e1 => by have := h.1 (nat_inj e1); rw [e] at this; cases this
    show _ = 0
    omega
/-! places in their order -/
def onesTo (w : List UInt8) (n : Nat) : List Nat := (List.range n).filter (bt w)
def onesP (w : List UInt8) : List Nat := onesTo w (8 * w.length)
theorem onesTo_yes {w : List UInt8} {n : Nat} (h : bt w n = true) : onesTo w n ++ [n] = onesTo w (n + 1) := by
  unfold onesTo; rw [List.range_succ, List.filter_append]; simp [h]
theorem onesTo_no {w : List UInt8} {n : Nat} (h : bt w n = false) : onesTo w (n + 1) = onesTo w n := by
  unfold onesTo; rw [List.range_succ, List.filter_append]; simp [h]
theorem onesTo_pre (w : List UInt8) {n m : Nat} (h : n ≤ m) : onesTo w n <+: onesTo w m := by
  obtain ⟨d, rfl⟩ := Nat.le.dest h
  induction d with
  | zero => exact List.prefix_refl _
  | succ d ih =>
    refine (ih (by omega)).trans ?_
    cases hb : bt w (n + d) with
    | false => rw [show n + (d + 1) = n + d + 1 by omega, onesTo_no hb]; exact List.prefix_refl _
    | true => rw [show n + (d + 1) = n + d + 1 by omega, ← onesTo_yes hb]; exact List.prefix_append _ _
theorem bt_at (w : List UInt8) (i : Nat) {k : Nat} (hk : k < 8) : bt w (8 * i + k) = (w.getD i 0).toNat.testBit k := by
  unfold bt; rw [show (8 * i + k) / 8 = i by omega, show (8 * i + k) % 8 = k by omega]
theorem ones_yes {w : List UInt8} {i k : Nat} (hk : k < 8) (h : shrB (w.getD i 0) k &&& 1 = 1) : onesTo w (8 * i + k) ++ [8 * i + k] = onesTo w (8 * i + (k + 1)) :=
  onesTo_yes (by rw [bt_at w i hk]; exact (shr_bit _ hk).1 h)
theorem ones_no {w : List UInt8} {i k : Nat} (hk : k < 8) (h : ¬ shrB (w.getD i 0) k &&& 1 = 1) : onesTo w (8 * i + (k + 1)) = onesTo w (8 * i + k) :=
  onesTo_no (w := w) (n := 8 * i + k) (by rw [bt_at w i hk]; cases hb : (w.getD i 0).toNat.testBit k with | false => rfl | true => exact absurd ((shr_bit _ hk).2 hb) h)
theorem onesP_lt {w : List UInt8} {pre : List Nat} {x : Nat} (h : pre ++ [x] <+: onesP w) : x < 8 * w.length := by
  have : x ∈ onesP w := h.subset (by simp)
  exact List.mem_range.1 (List.mem_filter.1 this).1
theorem onesP_syn (w : List UInt8) (i : Nat) : syn (onesP w) i = sW w i := syn_filter _ _ _
/-! the word's polynomial -/
def polyTo (w : List UInt8) (pre : List Nat) : List UInt8 := tab (8 * w.length) (fun k => if k ∈ pre then 1 else 0)
theorem polyTo_length (w : List UInt8) (pre : List Nat) : (polyTo w pre).length = 8 * w.length := tab_length
theorem polyTo_nil (w : List UInt8) : List.replicate (8 * w.length) 0 = polyTo w [] := by unfold polyTo; rw [tab_rep]; exact tab_ext fun k _ => by simp
theorem polyTo_snoc (w : List UInt8) (pre : List Nat) (x : Nat) : (polyTo w pre).set x 1 = polyTo w (pre ++ [x]) := by
  unfold polyTo
  rw [tab_set]
  refine tab_ext fun k _ => ?_
  by_cases h : k = x
  · subst h; simp
  · simp [h]
theorem polyTo_done (w : List UInt8) : polyTo w (onesP w) = polyW w := by
  unfold polyTo polyW ofBits
  refine tab_ext fun k hk => ?_
  unfold onesP onesTo
  simp only [List.mem_filter, List.mem_range, hk, true_and]
theorem polyW_len (w : List UInt8) : (polyW w).length = 8 * w.length := tab_length
/-! packing -/
def packTo (l : List UInt8) (i : Nat) : List UInt8 := pkN ((l.length + 7) / 8) (fun k => decide (k < i) && decide ((l.getD k 0 &&& 1) ≠ 0))
def packW (l : List UInt8) : List UInt8 := packTo l l.length
theorem packTo_length (l : List UInt8) (i : Nat) : (packTo l i).length = (l.length + 7) / 8 := pkN_length _ _
theorem packW_len (l : List UInt8) : (packW l).length = (l.length + 7) / 8 := pkN_length _ _
theorem packTo_zero (l : List UInt8) : List.replicate ((l.length + 7) / 8) 0 = packTo l 0 := by
  refine bt_ext (by rw [packTo_length, List.length_replicate]) fun k _ => ?_
  unfold packTo
  rw [bt_rep0, bt_pkN]; simp
theorem shl_bit {c : UInt8} (hc : c = 0 ∨ c = 1) {p : Nat} (hp : p < 8) (j : Nat) : (shlB c p).toNat.testBit j = (decide (j = p) && decide (c ≠ 0)) := by
  rcases hc with rfl | rfl
  · have : shlB 0 p = 0 := by unfold shlB; simp
    rw [this]; simp
  · have : shlB 1 p = UInt8.ofNat (2 ^ p) := by unfold shlB; simp
    rw [this, two_bit hp]; simp
theorem and_one (x : UInt8) : x &&& 1 = 0 ∨ x &&& 1 = 1 := by
  have h3 : (x &&& 1).toNat < 2 := by
    rw [UInt8.toNat_and]
    exact Nat.lt_of_le_of_lt Nat.and_le_right (by decide)
  rcases (show (x &&& 1).toNat = 0 ∨ (x &&& 1).toNat = 1 by omega) with h | h
  · exact .inl (nat_inj h)
  · exact .inr (nat_inj h)
theorem packTo_step {l : List UInt8} {i : Nat} (hi : i < l.length) : (packTo l i).set (i / 8) ((packTo l i).getD (i / 8) 0 ||| shlB (l.getD i 0 &&& 1) (i % 8)) = packTo l (i + 1) := by
  refine bt_ext (by rw [List.length_set, packTo_length, packTo_length]) fun k hk => ?_
  rw [bt_set _ (by rw [packTo_length]; omega)]
  rw [List.length_set, packTo_length] at hk
  by_cases h : k / 8 = i / 8
  · rw [if_pos h, or_bit, shl_bit (and_one _) (by omega), ← h]
    show (bt (packTo l i) k || _) = _
    unfold packTo
    rw [bt_pkN, bt_pkN, decide_eq_true hk, Bool.true_and, Bool.true_and]
    by_cases hki : k = i
    · subst hki; simp
    · rw [decide_eq_false (show ¬ k % 8 = i % 8 by omega), Bool.false_and, Bool.or_false]
      congr 1
      simp only [decide_eq_decide]
      omega
  · rw [if_neg h]
    unfold packTo
    rw [bt_pkN, bt_pkN]
    congr 2
    simp only [decide_eq_decide]
    omega
/-! the generator, factor by factor -/
def genI : Nat → List UInt8
  | 0 => [1]
  | i + 1 => mulP (genI i) (minP ((2 * i + 1 : Nat) : Int))
theorem genI_four : genI 4 = genP := rfl
theorem genI_len (i : Nat) : (genI i).length ≤ 9 * i + 1 := by
  induction i with
  | zero => exact Nat.le_refl _
  | succ i ih =>
    have h1 := mulP_len (genI i) (minP ((2 * i + 1 : Nat) : Int))
    have h2 := minP_le ((2 * i + 1 : Nat) : Int)
    show (mulP _ _).length ≤ _
    omega
theorem gen_odd {i : Nat} (h : i < 4) : ([1, 3, 5, 7] : List Nat).getD i 0 = 2 * i + 1 := by
  rcases (show i = 0 ∨ i = 1 ∨ i = 2 ∨ i = 3 by omega) with rfl | rfl | rfl | rfl <;> rfl
/-! encoding -/
theorem copy_pad {l : List UInt8} (h : l.length = 24) : (List.replicate 28 (0 : UInt8)).take 4 ++ l.take 24 ++ (List.replicate 28 (0 : UInt8)).drop (4 + 24) = pad4 l := by
  unfold pad4
  rw [← h, List.take_length, h]
  simp
theorem pad4_length {l : List UInt8} (h : l.length = 24) : (pad4 l).length = 28 := by unfold pad4; simp [h]
theorem pad4_len (l : List UInt8) : (pad4 l).length = l.length + 4 := by unfold pad4; rw [List.length_append, List.length_replicate, Nat.add_comm]
theorem copy_enc {l : List UInt8} (h : l.length = 24) : (pad4 l).take 0 ++ (packW (restW l)).take (packW (restW l)).length ++ (pad4 l).drop (0 + (packW (restW l)).length) = encW l := by
  have hr := rest_len l
  have hp := packW_len (restW l)
  have hl := pad4_length h
  rw [List.take_zero, List.nil_append, List.take_length, Nat.zero_add]
  refine bt_ext (by rw [List.length_append, List.length_drop, encW_length]; omega) fun k hk => ?_
  rw [List.length_append, List.length_drop] at hk
  rw [bt_app, bt_drop]
  unfold encW
  rw [bt_pkN, decide_eq_true (by omega), Bool.true_and]
  by_cases h1 : k < 8 * (packW (restW l)).length
  · rw [if_pos h1, if_pos (by omega)]
    unfold packW packTo
    rw [bt_pkN, decide_eq_true (by omega), Bool.true_and]
    by_cases h2 : k < (restW l).length
    · rw [decide_eq_true h2, Bool.true_and, rest_bit l k]
      by_cases h0 : (restW l).getD k 0 = 0
      · simp only [h0]; rfl
      · simp only [ne_eq, h0, not_false_eq_true, if_true]; rfl
    · rw [decide_eq_false h2, Bool.false_and, getD_out (l := restW l) (by omega)]; rfl
  · rw [if_neg h1, show 8 * (packW (restW l)).length + (k - 8 * (packW (restW l)).length) = k by omega]
    by_cases h2 : k < 32
    · rw [if_pos h2, pad_bit, if_pos h2, getD_out (l := restW l) (by omega)]; rfl
    · rw [if_neg h2]
noncomputable def encR (d : List UInt8) : List UInt8 := if d.length = 24 then encW d else []
theorem encR_yes {d : List UInt8} (h : d.length = 24) : encR d = encW d := if_pos h
theorem encR_no {d : List UInt8} (h : ¬ d.length = 24) : encR d = [] := if_neg h
/-! sums -/
def powTo (n : Nat) : List UInt8 := tab 255 (fun k => if k ≤ n then exB k else 0)
theorem powTo_length (n : Nat) : (powTo n).length = 255 := tab_length
theorem powTo_zero : (List.replicate 255 (0 : UInt8)).set 0 1 = powTo 0 := by
  unfold powTo
  rw [tab_rep, tab_set]
  refine tab_ext fun k _ => ?_
  by_cases h : k = 0
  · subst h; rfl
  · rw [if_neg h, if_neg (by omega)]
theorem powTo_step {n : Nat} (h : n < 254) : (powTo n).set (n + 1) (gm ((powTo n).getD n 0) 2) = powTo (n + 1) := by
  have e : (powTo n).getD n 0 = exB n := by unfold powTo; rw [tab_at (by omega), if_pos (Nat.le_refl _)]
  rw [e, exB_two]
  unfold powTo
  rw [tab_set]
  refine tab_ext fun k _ => ?_
  by_cases hk : k = n + 1
  · subst hk; rw [if_pos rfl, if_pos (Nat.le_refl _)]
  · rw [if_neg hk]
    by_cases h2 : k ≤ n
    · rw [if_pos h2, if_pos (by omega)]
    · rw [if_neg h2, if_neg (by omega)]
theorem powTo_at {n : Nat} (h : n = 254) (k : Nat) : (powTo n).getD (k % 255) 0 = exB k := by
  subst h
  unfold powTo
  rw [tab_at (Nat.mod_lt _ (by decide)), if_pos (by omega), exB_mod]
def sumMid (pre : List Nat) (x i : Nat) : List UInt8 := tab 8 (fun t => if t < i then syn (pre ++ [x]) (t + 1) else syn pre (t + 1))
def sumTo (pre : List Nat) : List UInt8 := tab 8 (fun t => syn pre (t + 1))
theorem sumTo_length (pre : List Nat) : (sumTo pre).length = 8 := tab_length
theorem sumMid_length (pre : List Nat) (x i : Nat) : (sumMid pre x i).length = 8 := tab_length
theorem sumTo_nil : List.replicate 8 (0 : UInt8) = sumTo [] := rfl
theorem sumMid_zero (pre : List Nat) (x : Nat) : sumTo pre = sumMid pre x 0 := tab_ext fun t _ => by rw [if_neg (by omega)]
theorem sumMid_done (pre : List Nat) (x : Nat) {i : Nat} (h : 8 ≤ i) : sumMid pre x i = sumTo (pre ++ [x]) := tab_ext fun t ht => by rw [if_pos (by omega)]
theorem sumMid_step (pre : List Nat) (x : Nat) {i : Nat} (h : i < 8) : (sumMid pre x i).set i ((sumMid pre x i).getD i 0 ^^^ exB ((i + 1) * x)) = sumMid pre x (i + 1) := by
  have e : (sumMid pre x i).getD i 0 = syn pre (i + 1) := by unfold sumMid; rw [tab_at h, if_neg (by omega)]
  rw [e, ← syn_snoc]
  unfold sumMid
  rw [tab_set]
  refine tab_ext fun k _ => ?_
  by_cases hk : k = i
  · subst hk; rw [if_pos rfl, if_pos (by omega)]
  · rw [if_neg hk]
    by_cases h2 : k < i
    · rw [if_pos h2, if_pos (by omega)]
    · rw [if_neg h2, if_neg (by omega)]
theorem sumTo_done (w : List UInt8) : sumTo (onesP w) = sumsL w := tab_ext fun t _ => onesP_syn w (t + 1)
def synR (w : List UInt8) : List UInt8 := if w.length = 28 then sumsL w else []
end Ram
