/-
  What the laws of flash's helpers say.
-/
import Derived.Test.YtpamdlnobekihaaNm
set_option linter.unusedVariables false
set_option linter.unusedSimpArgs false
namespace Go.Proofs.YtpamdlnobekihaaF
open Go Go.Shelf Go.Proofs.YtpamdlnobekihaaS Ram
def bytesL (l : List UInt8) (n : Nat) : List UInt8 := tab n fun i => l.getD (i % l.length) 0
def bytesTo (l : List UInt8) (n i : Nat) : List UInt8 := tab n fun j => if j < i then l.getD (j % l.length) 0 else 0
theorem bytesL_len (l : List UInt8) (n : Nat) : (bytesL l n).length = n := tab_length
theorem bytesTo_zero (l : List UInt8) (n : Nat) : bytesTo l n 0 = List.replicate n 0 := by
  rw [tab_rep]
  exact tab_ext fun i _ => if_neg (Nat.not_lt_zero i)
theorem bytesTo_next (l : List UInt8) (n i : Nat) : (bytesTo l n i).set i (l.getD (i % l.length) 0) = bytesTo l n (i + 1) := by
  unfold bytesTo
  rw [tab_set]
  refine tab_ext fun j _ => ?_
  by_cases h : j = i
  · subst h; rw [if_pos rfl, if_pos (by omega)]
  · rw [if_neg h]
    by_cases h2 : j < i
    · rw [if_pos h2, if_pos (by omega)]
    · rw [if_neg h2, if_neg (by omega)]
theorem bytesTo_end (l : List UInt8) (n i : Nat) (h : n ≤ i ∨ ¬ 0 < l.length) : bytesTo l n i = bytesL l n := by
  unfold bytesTo bytesL
  refine tab_ext fun j hj => ?_
  rcases h with h | h
  · exact if_pos (by omega)
  · have : l = [] := List.eq_nil_of_length_eq_zero (by omega)
    subst this
    split <;> rfl
theorem up1_in {k : Nat} (h : k < 1000000) : up1 (k : Int) = ((k + 1 : Nat) : Int) := by
  unfold up1
  rw [IntWalk.i64_in _ (by omega)]
  omega
theorem onesW_bytes : bytesL [255] 60 = onesW := by rfl

theorem flipI_nil {w : List UInt8} : flipI w [] = w := rfl

/-! ### A page that is programmed, and one that may not be -/
def kn0 : NS := NS.new 6 8 4 fun _ _ => false
def kn1 : NS := kn0.prog 0 0 1 (List.replicate 60 0)
def kn2 : NS := kn1.ask (kn1.readOk 0 0 0)
theorem kn_c0 : Ctl kn0 6 8 4 0 [] false 0 0 := ctl_new 6 8 4 _
theorem kn_b0 : Bv kn0 0 0 0 0 false (fun _ => onesW) (fun _ => []) := bv_new (by decide) (by decide)
theorem kn_no : kn0.progOk 0 0 1 (List.replicate 60 0) = false := by
  have := bv_progOk kn_b0 1 (List.replicate 60 0)
  exact this.trans (by decide)
theorem kn_prog : kn0.progR ((0 : Nat) : Int) ((0 : Nat) : Int) ((1 : Nat) : Int) (List.replicate 60 0) = 1 := (prog_refused kn_c0 kn_no).1
theorem kn_c1 : Ctl kn1 6 8 4 0 [] false 0 1 := (prog_refused kn_c0 kn_no).2.1
theorem kn_b1 : Bv kn1 0 0 0 0 false (fun _ => onesW) (fun _ => []) := (prog_refused kn_c0 kn_no).2.2 kn_b0
theorem kn_read : (kn0.prog ((0 : Nat) : Int) ((0 : Nat) : Int) ((1 : Nat) : Int) (List.replicate 60 0)).askR ((kn0.prog ((0 : Nat) : Int) ((0 : Nat) : Int) ((1 : Nat) : Int) (List.replicate 60 0)).readOk ((0 : Nat) : Int) ((0 : Nat) : Int) ((0 : Nat) : Int)) = 0 := (readL_eq kn_c1 kn_b1 (p := 0) (by decide)).2
theorem kn_l : (kn0.prog ((0 : Nat) : Int) ((0 : Nat) : Int) ((1 : Nat) : Int) (List.replicate 60 0)).readL ((0 : Nat) : Int) ((0 : Nat) : Int) ((0 : Nat) : Int) = onesW := ((readL_eq kn_c1 kn_b1 (p := 0) (by decide)).1).trans flipI_nil
theorem kn_len : ((kn0.prog ((0 : Nat) : Int) ((0 : Nat) : Int) ((1 : Nat) : Int) (List.replicate 60 0)).readL ((0 : Nat) : Int) ((0 : Nat) : Int) ((0 : Nat) : Int)).length = 60 := by rw [kn_l]; exact onesW_len
theorem kn_pos : 0 < ((kn0.prog ((0 : Nat) : Int) ((0 : Nat) : Int) ((1 : Nat) : Int) (List.replicate 60 0)).readL ((0 : Nat) : Int) ((0 : Nat) : Int) ((0 : Nat) : Int)).length := by rw [kn_len]; decide
theorem kn_at : (((kn0.prog ((0 : Nat) : Int) ((0 : Nat) : Int) ((1 : Nat) : Int) (List.replicate 60 0)).readL ((0 : Nat) : Int) ((0 : Nat) : Int) ((0 : Nat) : Int)).getD 0 0 : UInt8) = (255 : UInt8) := by rw [kn_l]; rfl
theorem kn_wrong : (kn2.wrong : Int) = 1 := (read_ctl kn_c1 kn_b1 (p := 0) (by decide)).wr

/-! ### Pages in order -/
def OrdI (s : NS) (nx wr : Nat) (B : List UInt8) : Prop := ∃ o er, Ctl s 6 8 8 0 [] false o (wr : Int) ∧ Bv s 1 2 nx er false (fun q => if q < nx then B else onesW) (fun _ => []) ∧ Bv s 1 3 0 0 false (fun _ => onesW) (fun _ => [])
section
variable {s : NS} {nx wr p : Nat} {B : List UInt8}
theorem ord_new (B : List UInt8) : OrdI (NS.new 6 8 8 fun _ _ => false) 0 0 B := ⟨0, 0, ctl_new 6 8 8 _, (bv_new (by decide) (by decide)).to rfl (fun p _ => (if_neg (Nat.not_lt_zero p)).symm) (fun _ _ => rfl), bv_new (by decide) (by decide)⟩
theorem ord_erase (h : OrdI s nx wr B) : s.eraseR ((1 : Nat) : Int) ((2 : Nat) : Int) = 0 ∧ OrdI (s.erase ((1 : Nat) : Int) ((2 : Nat) : Int)) 0 wr B := by
  obtain ⟨o, er, hc, hv, hw⟩ := h
  obtain ⟨h1, h2, h3, h4⟩ := erase_done hc hv
  exact ⟨h1, _, _, h2, h3.to rfl (fun p _ => (if_neg (Nat.not_lt_zero p)).symm) (fun _ _ => rfl), h4 (by decide) hw⟩
theorem ord_yes (h : OrdI s nx wr B) (hB : B.length = 60) (e : p = nx) (h8 : p < 8) : s.progR ((1 : Nat) : Int) ((2 : Nat) : Int) (p : Int) B = 0 ∧ OrdI (s.prog ((1 : Nat) : Int) ((2 : Nat) : Int) (p : Int) B) (nx + 1) wr B := by
  obtain ⟨o, er, hc, hv, hw⟩ := h
  obtain ⟨h1, h2, h3, h4⟩ := prog_done hc hv h8 hB e.symm
  refine ⟨h1, _, _, h2, h3.to rfl (fun q _ => ?_) (fun _ _ => rfl), h4 (by decide) hw⟩
  show (if q = p then B else if q < nx then B else onesW) = if q < nx + 1 then B else onesW
  by_cases hq : q = p
  · rw [if_pos hq, if_pos (by omega)]
  · rw [if_neg hq]
    by_cases h5 : q < nx
    · rw [if_pos h5, if_pos (by omega)]
    · rw [if_neg h5, if_neg (by omega)]
theorem ord_no (h : OrdI s nx wr B) (hn : ¬ (p = nx ∧ p < 8)) (hw : wr < 1000) : s.progR ((1 : Nat) : Int) ((2 : Nat) : Int) (p : Int) B = 1 ∧ OrdI (s.prog ((1 : Nat) : Int) ((2 : Nat) : Int) (p : Int) B) nx (wr + 1) B := by
  obtain ⟨o, er, hc, hv, hw'⟩ := h
  have hok : s.progOk ((1 : Nat) : Int) ((2 : Nat) : Int) (p : Int) B = false := by
    rw [bv_progOk hv, hc.gP]
    by_cases h1 : p < 8
    · have : ¬ nx = p := fun e => hn ⟨e.symm, h1⟩
      simp [this]
    · simp [h1]
  obtain ⟨h1, h2, h3⟩ := prog_refused hc hok
  rw [up1_in (by omega)] at h2
  exact ⟨h1, o, er, h2, h3 hv, h3 hw'⟩
theorem ord_read (h : OrdI s nx wr B) (hp : p < 8) : s.askR (s.readOk ((1 : Nat) : Int) ((2 : Nat) : Int) (p : Int)) = 0 ∧ s.readL ((1 : Nat) : Int) ((2 : Nat) : Int) (p : Int) = (if p < nx then B else onesW) ∧ OrdI (s.ask (s.readOk ((1 : Nat) : Int) ((2 : Nat) : Int) (p : Int))) nx wr B := by
  obtain ⟨o, er, hc, hv, hw⟩ := h
  obtain ⟨h1, h2⟩ := readL_eq hc hv hp
  exact ⟨h2, h1, _, _, read_ctl hc hv hp, hv.ask _, hw.ask _⟩
theorem ord_read3 (h : OrdI s nx wr B) (hp : p < 8) : s.askR (s.readOk ((1 : Nat) : Int) ((3 : Nat) : Int) (p : Int)) = 0 ∧ s.readL ((1 : Nat) : Int) ((3 : Nat) : Int) (p : Int) = onesW ∧ OrdI (s.ask (s.readOk ((1 : Nat) : Int) ((3 : Nat) : Int) (p : Int))) nx wr B := by
  obtain ⟨o, er, hc, hv, hw⟩ := h
  obtain ⟨h1, h2⟩ := readL_eq hc hw hp
  exact ⟨h2, h1, _, _, read_ctl hc hw hp, hv.ask _, hw.ask _⟩
theorem ord_wrong (h : OrdI s nx wr B) : s.wrong = ((wr : Nat) : Int) := by obtain ⟨o, er, hc, _⟩ := h; exact hc.wr
end
end Go.Proofs.YtpamdlnobekihaaF
