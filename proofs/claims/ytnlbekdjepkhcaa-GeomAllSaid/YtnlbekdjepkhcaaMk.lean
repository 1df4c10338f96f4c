import Derived.Test.YtnlbekdjepkhcaaMi
/-
  Bits that are turned, mixed, counted.
-/
set_option linter.unusedVariables false
set_option linter.unusedSimpArgs false
namespace Ram
open Go.Proofs.YtnlbekdjepkhcaaF (shlB shrB)
def onesN (w : List UInt8) : Nat := (onesP w).length
theorem onesTo_len (w : List UInt8) (n : Nat) : (onesTo w n).length ≤ n := by
  unfold onesTo; exact Nat.le_trans (List.length_filter_le _ _) (by rw [List.length_range]; exact Nat.le_refl _)
theorem onesN_le (w : List UInt8) : onesN w ≤ 8 * w.length := onesTo_len w _
theorem pre_len {w : List UInt8} {pre : List Nat} {x : Nat} (h : pre ++ [x] <+: onesP w) : pre.length < 8 * w.length := by
  have h1 := h.length_le
  have h2 := onesN_le w
  unfold onesN at h2
  rw [List.length_append, List.length_singleton] at h1
  omega
theorem ones_next (w : List UInt8) (k : Nat) : (onesTo w k).length + btN w k = (onesTo w (k + 1)).length := by
  rw [btN_eq]
  cases hb : bt w k with
  | true => rw [← onesTo_yes hb]; simp
  | false => rw [onesTo_no hb]; simp
/-- turned at places, those that there are. -/
def flI (w : List UInt8) (x : Int) : List UInt8 := if 0 ≤ x ∧ x < 8 * (w.length : Int) then flip1 w x.toNat else w
def flipI (w : List UInt8) (l : List Int) : List UInt8 := l.foldl flI w
theorem flI_length (w : List UInt8) (x : Int) : (flI w x).length = w.length := by unfold flI; split; exact flip1_length _ _; rfl
theorem flipI_length (w : List UInt8) (l : List Int) : (flipI w l).length = w.length := by
  induction l generalizing w with
  | nil => rfl
  | cons a l ih => exact (ih _).trans (flI_length w a)
theorem flipI_next (w : List UInt8) {l : List Int} {i : Nat} (h : i < l.length) : flI (flipI w (l.take i)) (l.getD i 0) = flipI w (l.take (i + 1)) := by
  rw [take_next (d := 0) h]; unfold flipI; rw [List.foldl_append]; rfl
theorem flI_yes {w : List UInt8} {x : Int} {n : Nat} (hx : x = (n : Int)) (h : n < 8 * w.length) : w.set (n / 8) (w.getD (n / 8) 0 ^^^ shlB 1 (n % 8)) = flI w x := by
  subst hx
  unfold flI
  rw [if_pos ⟨by omega, by omega⟩, shl_one]; rfl
theorem flI_no {w : List UInt8} {x : Int} (h : ¬ (0 ≤ x ∧ x < 8 * (w.length : Int))) : flI w x = w := if_neg h
theorem flipI_nat {w : List UInt8} {L : List Nat} (h : ∀ k ∈ L, k < 8 * w.length) : flipI w (L.map (fun k : Nat => (k : Int))) = flipL w L := by
  induction L generalizing w with
  | nil => rfl
  | cons a L ih =>
    have ha := h a List.mem_cons_self
    show flipI (flI w a) (L.map (fun k : Nat => (k : Int))) = flipL (flip1 w a) L
    have : flI w (a : Int) = flip1 w a := by unfold flI; rw [if_pos ⟨by omega, by omega⟩]; rfl
    rw [this]
    exact ih fun k hk => by rw [flip1_length]; exact h k (List.mem_cons_of_mem _ hk)
/-- how often a place stands in a list, of those that there are. -/
theorem bt_flI (w : List UInt8) (x : Int) (k : Nat) : bt (flI w x) k = (bt w k != (decide (x = (k : Int)) && decide (k < 8 * w.length))) := by
  unfold flI
  by_cases h : 0 ≤ x ∧ x < 8 * (w.length : Int)
  · rw [if_pos h, bt_flip1 (by omega)]
    congr 1
    by_cases hk : k = x.toNat
    · rw [decide_eq_true hk, decide_eq_true (by omega), decide_eq_true (by omega)]; rfl
    · rw [decide_eq_false hk, decide_eq_false (by omega)]; rfl
  · rw [if_neg h]
    have : (decide (x = (k : Int)) && decide (k < 8 * w.length)) = false := by
      by_cases h1 : x = (k : Int)
      · rw [decide_eq_false (show ¬ k < 8 * w.length by omega)]; simp
      · rw [decide_eq_false h1]; rfl
    rw [this]; cases bt w k <;> rfl
theorem bt_flipI (l : List Int) : ∀ (w : List UInt8) (k : Nat), bt (flipI w l) k = (bt w k != (decide ((l.count (k : Int)) % 2 = 1) && decide (k < 8 * w.length))) := by
  induction l with
  | nil => intro w k; show bt w k = _; simp
  | cons a l ih =>
    intro w k
    show bt (flipI (flI w a) l) k = _
    rw [ih, bt_flI, flI_length]
    by_cases hk : k < 8 * w.length
    · rw [decide_eq_true hk, Bool.and_true, Bool.and_true, Bool.and_true]
      by_cases ha : a = (k : Int)
      · subst ha
        rw [decide_eq_true rfl, List.count_cons_self]
        by_cases hc : l.count (k : Int) % 2 = 1
        · rw [decide_eq_true hc, decide_eq_false (show ¬ (l.count (k : Int) + 1) % 2 = 1 by omega)]; cases bt w k <;> rfl
        · rw [decide_eq_false hc, decide_eq_true (show (l.count (k : Int) + 1) % 2 = 1 by omega)]; cases bt w k <;> rfl
      · rw [decide_eq_false ha, List.count_cons_of_ne ha]; cases bt w k <;> rfl
    · rw [decide_eq_false hk, Bool.and_false, Bool.and_false, Bool.and_false]; cases bt w k <;> rfl
/-- the order does not count, nor what is there twice. -/
theorem flipI_congr {l m : List Int} (w : List UInt8) (h : ∀ k : Nat, k < 8 * w.length → l.count (k : Int) % 2 = m.count (k : Int) % 2) : flipI w l = flipI w m := by
  refine bt_ext (by rw [flipI_length, flipI_length]) fun k hk => ?_
  rw [flipI_length] at hk
  rw [bt_flipI, bt_flipI, h k hk]
theorem flipI_none {l : List Int} {w : List UInt8} (h : ∀ x ∈ l, ¬ (0 ≤ x ∧ x < 8 * (w.length : Int))) : flipI w l = w := by
  induction l with
  | nil => rfl
  | cons a l ih =>
    show flipI (flI w a) l = w
    rw [flI_no (h a List.mem_cons_self)]
    exact ih fun x hx => h x (List.mem_cons_of_mem _ hx)
/-- old where the mask has none, now where it has ones. -/
def mixAt (o n m : List UInt8) (i : Nat) : UInt8 := if m.length = 0 then o.getD i 0 else (o.getD i 0 &&& ~~~ m.getD (i % m.length) 0) ||| (n.getD i 0 &&& m.getD (i % m.length) 0)
def mixTo (o n m : List UInt8) (i : Nat) : List UInt8 := tab o.length (fun k => if k < i then mixAt o n m k else o.getD k 0)
def mixL (o n m : List UInt8) : List UInt8 := tab o.length (mixAt o n m)
def mixR (o n m : List UInt8) : List UInt8 := if o.length = n.length then mixL o n m else []
theorem mixTo_length (o n m : List UInt8) (i : Nat) : (mixTo o n m i).length = o.length := tab_length
theorem mixL_length (o n m : List UInt8) : (mixL o n m).length = o.length := tab_length
theorem mixTo_zero (o n m : List UInt8) : o = mixTo o n m 0 := (eq_tab o 0).trans (tab_ext fun k _ => by rw [if_neg (by omega)])
theorem mixTo_step (o n : List UInt8) {m : List UInt8} (i : Nat) (hm : 0 < m.length) : (mixTo o n m i).set i ((o.getD i 0 &&& ~~~ m.getD (i % m.length) 0) ||| (n.getD i 0 &&& m.getD (i % m.length) 0)) = mixTo o n m (i + 1) := by
  unfold mixTo
  refine set_tab ?_ fun k _ hk => ?_
  · rw [if_pos (by omega)]; unfold mixAt; rw [if_neg (by omega)]
  · by_cases h : k < i
    · rw [if_pos h, if_pos (show k < i + 1 by omega)]
    · rw [if_neg h, if_neg (show ¬ k < i + 1 by omega)]
theorem mixTo_none (o n : List UInt8) {m : List UInt8} (i : Nat) (hm : ¬ 0 < m.length) : mixTo o n m (i + 1) = mixTo o n m i := tab_ext fun k _ => by
  have : mixAt o n m k = o.getD k 0 := by unfold mixAt; rw [if_pos (by omega)]
  rw [this]; split <;> split <;> rfl
theorem mixTo_done {o n m : List UInt8} {i : Nat} (h : o.length ≤ i ∨ m.length = 0) : mixTo o n m i = mixL o n m := tab_ext fun k hk => by
  rcases h with h | h
  · rw [if_pos (by omega)]
  · have : mixAt o n m k = o.getD k 0 := by unfold mixAt; rw [if_pos h]
    rw [this]; split <;> rfl
theorem mixR_len (o n m : List UInt8) : (mixR o n m).length ≤ o.length := by
  unfold mixR; split
  · rw [mixL_length]; exact Nat.le_refl _
  · exact Nat.zero_le _
/-- where two differ: the ones of their sum. -/
def xorB (a b : List UInt8) (i : Nat) : List UInt8 := tab a.length (fun k => if k < i then a.getD k 0 ^^^ b.getD k 0 else a.getD k 0)
theorem xorB_length (a b : List UInt8) (i : Nat) : (xorB a b i).length = a.length := tab_length
theorem xorB_zero (a b : List UInt8) : a = xorB a b 0 := (eq_tab a 0).trans (tab_ext fun k _ => by rw [if_neg (by omega)])
theorem xorB_step {a b : List UInt8} {i : Nat} (h : i < a.length) : (xorB a b i).set i ((xorB a b i).getD i 0 ^^^ b.getD i 0) = xorB a b (i + 1) := by
  have e : (xorB a b i).getD i 0 = a.getD i 0 := by unfold xorB; rw [tab_at h, if_neg (by omega)]
  rw [e]
  unfold xorB
  refine set_tab (by rw [if_pos (by omega)]) fun k _ hk => ?_
  by_cases h2 : k < i
  · rw [if_pos h2, if_pos (by omega)]
  · rw [if_neg h2, if_neg (by omega)]
theorem xorB_ones {a b : List UInt8} {i : Nat} (hl : a.length = b.length) (h : a.length ≤ i) : onesP (xorB a b i) = apL a b := by
  unfold onesP onesTo apL
  rw [xorB_length]
  refine List.filter_congr fun k hk => ?_
  have hk := List.mem_range.1 hk
  unfold bt xorB
  rw [tab_at (show k / 8 < a.length by omega), if_pos (by omega), xor_bit]
end Ram
