import Derived.Test.YtnlbekdjepkhcaaMh
/-
  What the laws of the code name: data, places, flips, where two differ.
-/
set_option linter.unusedVariables false
set_option linter.unusedSimpArgs false
namespace Ram
open Go.Proofs.YtnlbekdjepkhcaaF (shlB shrB)
/-! data -/
def dAt (b : List UInt8) (i : Nat) : UInt8 := if b.length = 0 then 0 else b.getD (i % b.length) 0 + UInt8.ofNat (i / b.length)
def dataL (b : List UInt8) (n : Nat) : List UInt8 := tab n (dAt b)
def dataTo (b : List UInt8) (n i : Nat) : List UInt8 := tab n (fun k => if k < i then dAt b k else 0)
theorem dataL_length (b : List UInt8) (n : Nat) : (dataL b n).length = n := tab_length
theorem dataTo_length (b : List UInt8) (n i : Nat) : (dataTo b n i).length = n := tab_length
theorem dataTo_zero (b : List UInt8) (n : Nat) : List.replicate n 0 = dataTo b n 0 := by unfold dataTo; rw [tab_rep]; exact tab_ext fun k _ => by rw [if_neg (by omega)]
theorem dataTo_step {b : List UInt8} (n : Nat) {i : Nat} (hb : 0 < b.length) : (dataTo b n i).set i (b.getD (i % b.length) 0 + UInt8.ofNat (i / b.length)) = dataTo b n (i + 1) := by
  unfold dataTo
  refine set_tab ?_ fun k _ hk => ?_
  · rw [if_pos (by omega)]; unfold dAt; rw [if_neg (by omega)]
  · by_cases h : k < i
    · rw [if_pos h, if_pos (by omega)]
    · rw [if_neg h, if_neg (by omega)]
theorem dataTo_done {b : List UInt8} {n i : Nat} (h : n ≤ i ∨ b.length = 0) : dataTo b n i = dataL b n := tab_ext fun k hk => by
  rcases h with h | h
  · rw [if_pos (by omega)]
  · have : dAt b k = 0 := by unfold dAt; rw [if_pos h]
    rw [this]; split <;> rfl
/-! places -/
def plStep (n most : Nat) (out : List Nat) (x : Int) : List Nat := if out.length < most then (if (x % (n : Int)).toNat ∈ out then out else out ++ [(x % (n : Int)).toNat]) else out
def plTo (l : List Int) (n most i : Nat) : List Nat := (l.take i).foldl (plStep n most) []
def placesL (l : List Int) (n most : Nat) : List Nat := plTo l n most l.length
theorem plTo_next {l : List Int} {n most i : Nat} (h : i < l.length) : plTo l n most (i + 1) = plStep n most (plTo l n most i) (l.getD i 0) := by
  unfold plTo; rw [take_next (d := 0) h, List.foldl_append]; rfl
theorem plTo_in {l : List Int} {n most i : Nat} (h : i < l.length) (hm : (plTo l n most i).length < most) (hk : (l.getD i 0 % (n : Int)).toNat ∈ plTo l n most i) : plTo l n most i = plTo l n most (i + 1) := by
  rw [plTo_next h]; unfold plStep; rw [if_pos hm, if_pos hk]
theorem plTo_new {l : List Int} {n most i : Nat} (h : i < l.length) (hm : (plTo l n most i).length < most) (hk : ¬ (l.getD i 0 % (n : Int)).toNat ∈ plTo l n most i) : plTo l n most i ++ [(l.getD i 0 % (n : Int)).toNat] = plTo l n most (i + 1) := by
  rw [plTo_next h]; unfold plStep; rw [if_pos hm, if_neg hk]
theorem foldl_full {n most : Nat} : ∀ (m : List Int) (out : List Nat), most ≤ out.length → m.foldl (plStep n most) out = out
  | [], _, _ => rfl
  | x :: m, out, h => by
    have : plStep n most out x = out := by unfold plStep; rw [if_neg (by omega)]
    rw [List.foldl_cons, this]; exact foldl_full m out h
theorem plTo_stop {l : List Int} {n most i : Nat} (hi : i ≤ l.length) (h : l.length ≤ i ∨ most ≤ (plTo l n most i).length) : plTo l n most i = placesL l n most := by
  rcases h with h | h
  · rw [show i = l.length by omega]; rfl
  · unfold placesL
    have : plTo l n most l.length = (l.drop i).foldl (plStep n most) (plTo l n most i) := by
      unfold plTo
      rw [List.take_length, ← List.foldl_append, List.take_append_drop]
    rw [this, foldl_full _ _ h]
theorem plStep_ok {n most : Nat} (hn : 0 < n) {out : List Nat} (x : Int) (h1 : out.Nodup) (h2 : ∀ k ∈ out, k < n) (h3 : out.length ≤ most) : (plStep n most out x).Nodup ∧ (∀ k ∈ plStep n most out x, k < n) ∧ (plStep n most out x).length ≤ most := by
  unfold plStep
  split
  · next hm =>
    split
    · exact ⟨h1, h2, h3⟩
    · next hk =>
      refine ⟨?_, fun k hk2 => ?_, by rw [List.length_append, List.length_singleton]; omega⟩
      · rw [List.nodup_append]
        exact ⟨h1, by simp, fun a ha b hb => by
          rw [List.mem_singleton] at hb
          subst hb
          exact fun e => hk (e ▸ ha)⟩
      · rcases List.mem_append.1 hk2 with h | h
        · exact h2 k h
        · rw [List.mem_singleton] at h
          subst h
          have := Int.emod_lt_of_pos x (show (0 : Int) < (n : Int) by omega)
          have := Int.emod_nonneg x (show (n : Int) ≠ 0 by omega)
          omega
  · exact ⟨h1, h2, h3⟩
theorem foldl_ok {n most : Nat} (hn : 0 < n) : ∀ (m : List Int) (out : List Nat), out.Nodup → (∀ k ∈ out, k < n) → out.length ≤ most → (m.foldl (plStep n most) out).Nodup ∧ (∀ k ∈ m.foldl (plStep n most) out, k < n) ∧ (m.foldl (plStep n most) out).length ≤ most
  | [], _, h1, h2, h3 => ⟨h1, h2, h3⟩
  | x :: m, out, h1, h2, h3 => by
    obtain ⟨a, b, c⟩ := plStep_ok hn x h1 h2 h3
    exact foldl_ok hn m _ a b c
theorem plTo_ok (l : List Int) {n : Nat} (most : Nat) (hn : 0 < n) (i : Nat) : (plTo l n most i).Nodup ∧ (∀ k ∈ plTo l n most i, k < n) ∧ (plTo l n most i).length ≤ most :=
  foldl_ok hn _ [] List.nodup_nil (fun _ h => (by cases h)) (Nat.zero_le _)
theorem places_le (l : List Int) (n most : Nat) : (placesL l n most).length ≤ most := by
  have key : ∀ (m : List Int) (out : List Nat), out.length ≤ most → (m.foldl (plStep n most) out).length ≤ most := by
    intro m
    induction m with
    | nil => intro out h; exact h
    | cons x m ih =>
      intro out h
      refine ih _ ?_
      unfold plStep
      split
      · split
        · exact h
        · rw [List.length_append, List.length_singleton]; omega
      · exact h
  exact key _ [] (Nat.zero_le _)
theorem places_nodup (l : List Int) {n : Nat} (most : Nat) (hn : 0 < n) : (placesL l n most).Nodup := (plTo_ok l most hn _).1
theorem places_in (l : List Int) {n : Nat} (most : Nat) (hn : 0 < n) : ∀ k ∈ placesL l n most, k < n := (plTo_ok l most hn _).2.1
theorem places_few (l : List Int) {n : Nat} (most : Nat) (hn : 0 < n) : (placesL l n most).length ≤ most := (plTo_ok l most hn _).2.2
theorem mem_take_next {out : List Nat} {j k : Nat} (h : j < out.length) : (k ∈ out.take (j + 1)) ↔ (k ∈ out.take j ∨ out.getD j 0 = k) := by
  rw [take_next (d := 0) h, List.mem_append, List.mem_singleton]
  exact ⟨fun h => h.imp id Eq.symm, fun h => h.imp id Eq.symm⟩
/-! bits, as the document reads them -/
def btN (l : List UInt8) (k : Nat) : Nat := (shrB (l.getD (k / 8) 0) (k % 8)).toNat &&& 1
theorem btN_eq (l : List UInt8) (k : Nat) : btN l k = if bt l k then 1 else 0 := by
  have h := shr_bit (l.getD (k / 8) 0) (k := k % 8) (Nat.mod_lt _ (by decide))
  have h2 := shr_no (l.getD (k / 8) 0) (k := k % 8) (Nat.mod_lt _ (by decide))
  have e : btN l k = (shrB (l.getD (k / 8) 0) (k % 8) &&& 1).toNat := by unfold btN; rw [UInt8.toNat_and]; rfl
  rw [e]
  unfold bt
  cases hb : (l.getD (k / 8) 0).toNat.testBit (k % 8) with
  | true => rw [h.2 hb]; rfl
  | false => rw [h2.2 hb]; rfl
theorem btN_iff (a b : List UInt8) (k : Nat) : btN a k = btN b k ↔ bt a k = bt b k := by
  rw [btN_eq, btN_eq]
  cases bt a k <;> cases bt b k <;> simp
def apTo (a b : List UInt8) (n : Nat) : List Nat := (List.range n).filter (fun k => bt a k != bt b k)
def apR (a b : List UInt8) : List Nat := if a.length = b.length then apL a b else []
theorem apTo_yes {a b : List UInt8} {n : Nat} (h : ¬ btN a n = btN b n) : apTo a b n ++ [n] = apTo a b (n + 1) := by
  rw [btN_iff] at h
  unfold apTo; rw [List.range_succ, List.filter_append]; simp [h]
theorem apTo_no {a b : List UInt8} {n : Nat} (h : btN a n = btN b n) : apTo a b (n + 1) = apTo a b n := by
  rw [btN_iff] at h
  unfold apTo; rw [List.range_succ, List.filter_append]; simp [h]
theorem apTo_len (a b : List UInt8) (n : Nat) : (apTo a b n).length ≤ n := by
  unfold apTo; exact Nat.le_trans (List.length_filter_le _ _) (by rw [List.length_range]; exact Nat.le_refl _)
theorem apL_len (a b : List UInt8) : (apL a b).length ≤ 8 * a.length := apTo_len a b _
theorem apR_len (a b : List UInt8) : (apR a b).length ≤ 8 * a.length := by
  unfold apR; split
  · exact apL_len a b
  · exact Nat.zero_le _
/-! what is known -/
theorem bt_zeros (n k : Nat) : bt (List.replicate n 0) k = false := bt_rep0 n k
theorem zero_code : IsCode (List.replicate 28 0) := ⟨by rw [List.length_replicate], fun i _ _ => by
  unfold sW
  rw [sB_ext (g := fun _ => false) (fun k _ => bt_rep0 28 k), sB_no]⟩
theorem enc_zero : encR (List.replicate 24 0) = List.replicate 28 0 := by
  have hl : (List.replicate 24 (0 : UInt8)).length = 24 := List.length_replicate
  rw [encR_yes hl]
  exact (enc_of hl zero_code (by simp)).symm
theorem encR_len (d : List UInt8) : (encR d).length ≤ 28 := by
  unfold encR; split
  · rw [encW_length]; exact Nat.le_refl _
  · exact Nat.zero_le _
end Ram
