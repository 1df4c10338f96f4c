/-
  What flash does, as a function of its ghost state.
-/
import Derived.Test.YtpamdlnobekihaaNa
set_option linter.unusedVariables false
set_option linter.unusedSimpArgs false
namespace Go.Proofs.YtpamdlnobekihaaF
open Go Go.Shelf Go.Proofs.YtpamdlnobekihaaS Ram

def onesW : List UInt8 := List.replicate 60 255
namespace NS
def there (s : NS) (d b : Int) : Bool := decide (0 ≤ d ∧ d < (s.gD : Int) ∧ 0 ≤ b ∧ b < (s.gB : Int))
def pageIn (s : NS) (d b p : Int) : Bool := s.there d b && decide (0 ≤ p ∧ p < (s.gP : Int))
def isBad (s : NS) (d b : Int) : Bool := s.there d b && (s.bl d.toNat b.toNat).bad
def erases (s : NS) (d b : Int) : Int := if s.there d b then (s.bl d.toNat b.toNat).er else 0
def ask (s : NS) (fine : Bool) : NS := { s with ops := if s.dead then s.ops else if fine then IntKind.i64.wrap (s.ops + 1) else s.ops, wrong := if s.dead then s.wrong else if fine then s.wrong else IntKind.i64.wrap (s.wrong + 1) }
def askR (s : NS) (fine : Bool) : Nat := if s.dead then 8 else if fine then 0 else 1
def goes (s : NS) : NS := { s with stop := if s.stop < 1 then s.stop else s.stop - 1, dead := if s.stop < 1 then s.dead else decide (s.stop - 1 = 0) }
def goesR (s : NS) : Bool := if s.stop < 1 then false else decide (s.stop - 1 = 0)
def setD (s : NS) (i : Nat) (l : List UInt8) : NS := { s with dl := fun k => if k = i then l else s.dl k }
def setZ (s : NS) (i : Nat) (l : List Int) : NS := { s with nl := fun k => if k = i then l else s.nl k }
def setB (s : NS) (d b : Nat) (x : St) : NS := { s with bl := fun d' => if d' = d then (fun b' => if b' = b then x else s.bl d b') else s.bl d' }
def readOk (s : NS) (d b p : Int) : Bool := s.pageIn d b p && !s.isBad d b
def readL (s : NS) (d b p : Int) : List UInt8 := if s.askR (s.readOk d b p) = 0 then flipI (s.dl (s.ix d.toNat b.toNat p.toNat)) (s.nl (s.ix d.toNat b.toNat p.toNat)) else []
def progOk (s : NS) (d b p : Int) (l : List UInt8) : Bool := s.pageIn d b p && !s.isBad d b && decide (l.length = 60) && decide (((s.bl d.toNat b.toNat).nx : Int) = p)
/-- The state once a page counts as programmed, ahead of its bytes. -/
def prog2 (s : NS) (d b : Nat) : NS := s.setB d b { s.bl d b with nx := (s.bl d b).nx + 1 }
def progA (s : NS) (d b p : Int) (l : List UInt8) : NS := ((s.ask (s.progOk d b p l)).prog2 d.toNat b.toNat).goes
def prog (s : NS) (d b p : Int) (l : List UInt8) : NS :=
  if s.askR (s.progOk d b p l) = 0 then (s.progA d b p l).setD (s.ix d.toNat b.toNat p.toNat) (if s.goesR then mixR onesW l s.mask else l)
  else s.ask (s.progOk d b p l)
def progR (s : NS) (d b p : Int) (l : List UInt8) : Nat :=
  if s.askR (s.progOk d b p l) = 0 then (if s.goesR then 8 else 0) else s.askR (s.progOk d b p l)
def eraseOk (s : NS) (d b : Int) : Bool := s.there d b && !s.isBad d b
/-- The pages of a block, the first k of them erased. -/
def eraseTo (s : NS) (torn : Bool) (d b k : Nat) : NS :=
  { s with dl := fun i => if s.ix d b 0 ≤ i ∧ i < s.ix d b 0 + k then (if torn then mixR (s.dl i) onesW s.mask else onesW) else s.dl i }
def erase2 (s : NS) (d b : Nat) : NS := s.setB d b { s.bl d b with er := IntKind.i64.wrap ((s.bl d b).er + 1) }
def erase3 (s : NS) (d b : Nat) : NS := s.setB d b { s.bl d b with nx := 0 }
def eraseA (s : NS) (d b : Int) : NS := ((s.ask (s.eraseOk d b)).erase2 d.toNat b.toNat).goes
def erase (s : NS) (d b : Int) : NS :=
  if s.askR (s.eraseOk d b) = 0 then
    (if s.goesR then (s.eraseA d b).eraseTo true d.toNat b.toNat s.gP else ((s.eraseA d b).eraseTo false d.toNat b.toNat s.gP).erase3 d.toNat b.toNat)
  else s.ask (s.eraseOk d b)
def eraseR (s : NS) (d b : Int) : Nat := if s.askR (s.eraseOk d b) = 0 then (if s.goesR then 8 else 0) else s.askR (s.eraseOk d b)
def noise (s : NS) (d b p : Int) (l : List Int) : NS := if s.pageIn d b p then s.setZ (s.ix d.toNat b.toNat p.toNat) l else s
def noiseR (s : NS) (d b p : Int) : Nat := if s.pageIn d b p then 0 else 1
def stopAt (s : NS) (k : Nat) (m : List UInt8) : NS := { { s with stop := max k 0 } with mask := m }
def power (s : NS) : NS := { s with stop := 0, mask := [], dead := false }
/-- Flash that is new, of a geometry; with these blocks bad. -/
def new (D B P : Nat) (bad : Nat → Nat → Bool) : NS := ⟨D, B, P, fun _ => onesW, fun _ => [], fun d b => ⟨0, 0, bad d b⟩, 0, [], false, 0, 0⟩
theorem there_of {s : NS} {d b : Int} (h : s.there d b = true) : 0 ≤ d ∧ d < (s.gD : Int) ∧ 0 ≤ b ∧ b < (s.gB : Int) := of_decide_eq_true h
theorem page_of {s : NS} {d b p : Int} (h : s.pageIn d b p = true) : 0 ≤ d ∧ d < (s.gD : Int) ∧ 0 ≤ b ∧ b < (s.gB : Int) ∧ 0 ≤ p ∧ p < (s.gP : Int) := by
  unfold pageIn there at h
  simp only [Bool.and_eq_true, decide_eq_true_eq] at h
  omega
theorem ask_dead {s : NS} {f : Bool} (h : s.dead = true) : s.ask f = s := by unfold ask; rw [if_pos h, if_pos h]
theorem ask_no {s : NS} (h : s.dead = false) : s.ask false = { s with wrong := IntKind.i64.wrap (s.wrong + 1) } := by unfold ask; simp [h]
theorem ask_yes {s : NS} (h : s.dead = false) : s.ask true = { s with ops := IntKind.i64.wrap (s.ops + 1) } := by unfold ask; simp [h]
theorem goes_no {s : NS} (h : s.stop < 1) : s.goes = s := by unfold goes; rw [if_pos h, if_pos h]
theorem goes_yes {s : NS} (h : ¬ s.stop < 1) : s.goes = { { s with stop := s.stop - 1 } with dead := decide (s.stop - 1 = 0) } := by unfold goes; rw [if_neg h, if_neg h]
theorem askR_no {s : NS} {f : Bool} (h : f = false) : ¬ s.askR f = 0 := by unfold askR; rw [h]; cases s.dead <;> simp
theorem askR_yes {s : NS} {f : Bool} (h : s.askR f = 0) : s.dead = false ∧ f = true := by
  unfold askR at h
  cases hd : s.dead <;> cases f <;> simp_all
theorem progOk_nx {s : NS} {d b p : Nat} {l : List UInt8} (h : s.askR (s.progOk d b p l) = 0) : (s.bl d b).nx = p ∧ l.length = 60 := by
  have h := (askR_yes h).2
  unfold progOk at h
  simp only [Bool.and_eq_true, decide_eq_true_eq] at h
  exact ⟨Int.ofNat.inj h.2, h.1.2⟩
theorem prog_no {s : NS} {d b p : Int} {l : List UInt8} (h : ¬ s.askR (s.progOk d b p l) = 0) : s.prog d b p l = s.ask (s.progOk d b p l) ∧ s.progR d b p l = s.askR (s.progOk d b p l) := ⟨if_neg h, if_neg h⟩
theorem prog_torn {s : NS} {d b p : Int} {l : List UInt8} (h : s.askR (s.progOk d b p l) = 0) (hg : s.goesR = true) : s.prog d b p l = (s.progA d b p l).setD (s.ix d.toNat b.toNat p.toNat) (mixR onesW l s.mask) ∧ s.progR d b p l = 8 := by
  unfold prog progR; rw [if_pos h, if_pos h, if_pos hg, if_pos hg]; exact ⟨rfl, rfl⟩
theorem prog_yes {s : NS} {d b p : Int} {l : List UInt8} (h : s.askR (s.progOk d b p l) = 0) (hg : s.goesR = false) : s.prog d b p l = (s.progA d b p l).setD (s.ix d.toNat b.toNat p.toNat) l ∧ s.progR d b p l = 0 := by
  have hg' : ¬ s.goesR = true := by rw [hg]; decide
  unfold prog progR; rw [if_pos h, if_pos h, if_neg hg', if_neg hg']; exact ⟨rfl, rfl⟩
theorem erase_no {s : NS} {d b : Int} (h : ¬ s.askR (s.eraseOk d b) = 0) : s.erase d b = s.ask (s.eraseOk d b) ∧ s.eraseR d b = s.askR (s.eraseOk d b) := ⟨if_neg h, if_neg h⟩
theorem erase_torn {s : NS} {d b : Int} (h : s.askR (s.eraseOk d b) = 0) (hg : s.goesR = true) : s.erase d b = (s.eraseA d b).eraseTo s.goesR d.toNat b.toNat s.gP ∧ s.eraseR d b = 8 := by
  unfold erase eraseR; rw [if_pos h, if_pos h, if_pos hg, if_pos hg, hg]; exact ⟨rfl, rfl⟩
theorem erase_yes {s : NS} {d b : Int} (h : s.askR (s.eraseOk d b) = 0) (hg : s.goesR = false) : s.erase d b = ((s.eraseA d b).eraseTo s.goesR d.toNat b.toNat s.gP).erase3 d.toNat b.toNat ∧ s.eraseR d b = 0 := by
  have hg' : ¬ s.goesR = true := by rw [hg]; decide
  unfold erase eraseR; rw [if_pos h, if_pos h, if_neg hg', if_neg hg', hg]; exact ⟨rfl, rfl⟩
theorem ix_add {s : NS} (d b k : Nat) : s.ix d b k = s.ix d b 0 + k := rfl
theorem eraseTo_zero (s : NS) (T : Bool) (d b : Nat) : s.eraseTo T d b 0 = s := by
  have : (fun i => if s.ix d b 0 ≤ i ∧ i < s.ix d b 0 + 0 then (if T then mixR (s.dl i) onesW s.mask else onesW) else s.dl i) = s.dl := funext fun i => if_neg (by omega)
  unfold eraseTo; rw [this]
theorem eraseTo_dl (s : NS) (T : Bool) (d b k : Nat) : (s.eraseTo T d b k).dl (s.ix d b k) = s.dl (s.ix d b k) := if_neg (by have := ix_add (s := s) d b k; omega)
theorem eraseTo_next (s : NS) (T : Bool) (d b k : Nat) {l : List UInt8} (h : (if T then mixR (s.dl (s.ix d b k)) onesW s.mask else onesW) = l) : (s.eraseTo T d b k).setD (s.ix d b k) l = s.eraseTo T d b (k + 1) := by
  unfold eraseTo setD
  show NS.mk _ _ _ _ _ _ _ _ _ _ _ = NS.mk _ _ _ _ _ _ _ _ _ _ _
  congr 1
  funext i
  show (if i = s.ix d b k then l else if s.ix d b 0 ≤ i ∧ i < s.ix d b 0 + k then (if T then mixR (s.dl i) onesW s.mask else onesW) else s.dl i) = if s.ix d b 0 ≤ i ∧ i < s.ix d b 0 + (k + 1) then (if T then mixR (s.dl i) onesW s.mask else onesW) else s.dl i
  have hx := ix_add (s := s) d b k
  by_cases e : i = s.ix d b k
  · have h2 : s.ix d b 0 ≤ i ∧ i < s.ix d b 0 + (k + 1) := by omega
    rw [if_pos e, if_pos h2, ← h, e]
  · rw [if_neg e]
    by_cases e2 : s.ix d b 0 ≤ i ∧ i < s.ix d b 0 + k
    · have h2 : s.ix d b 0 ≤ i ∧ i < s.ix d b 0 + (k + 1) := by omega
      rw [if_pos e2, if_pos h2]
    · have h2 : ¬ (s.ix d b 0 ≤ i ∧ i < s.ix d b 0 + (k + 1)) := by omega
      rw [if_neg e2, if_neg h2]
end NS
theorem range_pre {k n : Nat} (h : k < n) : List.range k ++ [k] <+: List.range n := by
  rw [← List.range_succ]
  exact ⟨(List.range n).drop (k + 1), by conv => rhs; rw [← List.take_append_drop (k + 1) (List.range n), List.take_range, Nat.min_eq_left (by omega)]⟩
theorem pre_range {n x : Nat} {pre : List Nat} (h : pre ++ [x] <+: List.range n) : x = pre.length ∧ pre.length < n := by
  obtain ⟨t, ht⟩ := h
  have h1 : (List.range n)[pre.length]? = some x := by rw [← ht]; simp
  have h2 := (List.getElem?_eq_some_iff.1 h1)
  obtain ⟨h3, h4⟩ := h2
  rw [List.length_range] at h3
  rw [List.getElem_range] at h4
  exact ⟨h4.symm, h3⟩
theorem onesW_len : onesW.length = 60 := List.length_replicate
theorem mixR60 {o n m : List UInt8} (ho : o.length = 60) (hn : n.length = 60) : (mixR o n m).length = 60 := by unfold mixR; rw [if_pos (ho.trans hn.symm), mixL_length]; exact ho
theorem rep_end (k : Nat) (h : 60 ≤ k ∧ k ≤ 60) : List.replicate k (255 : UInt8) ++ List.replicate (60 - k) 0 = onesW := by
  obtain rfl : k = 60 := by omega
  rfl
theorem rep_drop (k : Nat) (h : k ≤ 60) : ((List.replicate k (255 : UInt8) ++ List.replicate (60 - k) 0).drop k).take (60 - k) = List.replicate (60 - k) 0 := by
  rw [List.drop_left' (List.length_replicate), List.take_of_length_le (by simp)]
theorem rep_take (k : Nat) : ((List.replicate k (255 : UInt8) ++ List.replicate (60 - k) 0).drop 0).take k = List.replicate k 255 := by
  rw [List.drop_zero, List.take_left' (List.length_replicate)]
theorem rep_copy (k : Nat) (h : k ≤ 60) : (List.replicate k (255 : UInt8) ++ List.replicate (60 - k) 0).take k ++ (List.replicate k (255 : UInt8)).take (min k (60 - k)) ++ (List.replicate k (255 : UInt8) ++ List.replicate (60 - k) 0).drop (k + min k (60 - k)) = List.replicate (k + min k (60 - k)) (255 : UInt8) ++ List.replicate (60 - (k + min k (60 - k))) 0 := by
  rw [List.take_left' (List.length_replicate), List.take_replicate, List.drop_append, List.drop_replicate, List.drop_replicate, List.length_replicate]
  have e1 : k - (k + min k (60 - k)) = 0 := by omega
  have e2 : k + min k (60 - k) - k = min k (60 - k) := by omega
  have e3 : min (min k (60 - k)) k = min k (60 - k) := by omega
  rw [e1, e2, e3, List.replicate_zero, List.nil_append, List.replicate_append_replicate, Nat.sub_sub]
end Go.Proofs.YtpamdlnobekihaaF
