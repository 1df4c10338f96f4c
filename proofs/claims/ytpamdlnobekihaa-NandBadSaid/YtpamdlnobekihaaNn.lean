/-
  What the laws of flash's helpers say.
-/
import Derived.Test.YtpamdlnobekihaaNm
import Derived.Test.YtpamdlnobekihaaFj
set_option linter.unusedVariables false
set_option linter.unusedSimpArgs false
namespace Go.Proofs.YtpamdlnobekihaaF
open Go Go.Shelf Go.Proofs.YtpamdlnobekihaaS Ram
theorem IsRow.seqI {W : World} {a : Option Addr} {len cap : Nat} {zs : List Int} (h : IsRow .i64 W a len cap zs) : ∃ xs : List Int, xs.length = len ∧ Ps No (Seq kI xs (.slice a len cap)) W ∧ ∀ x ∈ xs, -9223372036854775808 ≤ x ∧ x < 9223372036854775808 := by
  rcases h with ⟨rfl, rfl, rfl, _⟩ | ⟨x, rfl, hl, hz, hc, hw⟩
  · exact ⟨[], rfl, seq_nil, fun _ h => by cases h⟩
  · refine ⟨(zs.take len).map id, by rw [List.length_map, List.length_take]; omega, fun W' hW => ⟨_, cap, by rw [List.length_map, List.length_take, Nat.min_eq_left (by omega)], by rw [List.length_map, List.length_take]; omega, fun i v hv => ⟨x, rfl, ?_⟩⟩, fun v hv => ?_⟩
    · rw [List.getElem?_map, List.getElem?_take] at hv
      split at hv
      · rename_i hi
        have hiz : i < zs.length := by omega
        rw [List.getElem?_eq_getElem hiz] at hv
        injection hv with hv
        subst hv
        have h1 := hc i hiz
        have h2 : zs.getD i 0 = zs[i] := by rw [List.getD_eq_getElem?_getD, List.getElem?_eq_getElem hiz]; rfl
        rw [h2] at h1
        show W'.cell? (x.add (i * 1)) = some (eI zs[i])
        rw [Nat.mul_one]
        have hlt : (x.add i).block < W.heap.size := cells_of_cell h1 |>.elim fun _ hx => (Array.getElem?_eq_some_iff.1 hx.1).1
        rw [World.cell?_of_block (w := W) (hW _ hlt id)]
        exact h1
      · cases hv
    · rw [List.map_id] at hv
      have h := hw v (List.mem_of_mem_take hv)
      simp [Lit.wf, IntKind.min, IntKind.max, IntKind.signed, IntKind.bits] at h
      omega
theorem range_at {l : List Int} (h : ∀ x ∈ l, -9223372036854775808 ≤ x ∧ x < 9223372036854775808) (i : Nat) (hi : i < l.length) : -9223372036854775808 ≤ l.getD i 0 ∧ l.getD i 0 < 9223372036854775808 := by
  rw [List.getD_eq_getElem?_getD, List.getElem?_eq_getElem hi]
  exact h _ (List.getElem_mem hi)
def bytesL (l : List UInt8) (n : Nat) : List UInt8 := tab n fun i => l.getD (i % l.length) 0
def bytesTo (l : List UInt8) (n i : Nat) : List UInt8 := tab n fun j => if j < i then l.getD (j % l.length) 0 else 0
theorem bytesL_len (l : List UInt8) (n : Nat) : (bytesL l n).length = n := tab_length
theorem bytesTo_zero (l : List UInt8) (n : Nat) : bytesTo l n 0 = List.replicate n 0 := by
  rw [tab_rep]
  exact tab_ext fun i _ => if_neg (Nat.not_lt_zero i)
theorem bytesTo_next (l : List UInt8) (n i : Nat) : (bytesTo l n i).set i (l.getD (i % l.length) 0) = bytesTo l n (i + 1) := by
  unfold bytesTo
  rw [tab_set]
  refine tab_ext fun j _ => ?_
  by_cases h : j = i
  · subst h; rw [if_pos rfl, if_pos (by omega)]
  · rw [if_neg h]
    by_cases h2 : j < i
    · rw [if_pos h2, if_pos (by omega)]
    · rw [if_neg h2, if_neg (by omega)]
theorem bytesTo_end (l : List UInt8) (n i : Nat) (h : n ≤ i ∨ ¬ 0 < l.length) : bytesTo l n i = bytesL l n := by
  unfold bytesTo bytesL
  refine tab_ext fun j hj => ?_
  rcases h with h | h
  · exact if_pos (by omega)
  · have : l = [] := List.eq_nil_of_length_eq_zero (by omega)
    subst this
    split <;> rfl
theorem up1_in {k : Nat} (h : k < 1000000) : up1 (k : Int) = ((k + 1 : Nat) : Int) := by
  unfold up1
  rw [IntWalk.i64_in _ (by omega)]
  omega
theorem onesW_bytes : bytesL [255] 60 = onesW := by rfl

theorem flipI_nil {w : List UInt8} : flipI w [] = w := rfl

/-! ### A page that is programmed, and one that may not be -/
def kn0 : NS := NS.new 6 8 4 fun _ _ => false
def kn1 : NS := kn0.prog 0 0 1 (List.replicate 60 0)
def kn2 : NS := kn1.ask (kn1.readOk 0 0 0)
theorem kn_c0 : Ctl kn0 6 8 4 0 [] false 0 0 := ctl_new 6 8 4 _
theorem kn_b0 : Bv kn0 0 0 0 0 false (fun _ => onesW) (fun _ => []) := bv_new (by decide) (by decide)
theorem kn_no : kn0.progOk 0 0 1 (List.replicate 60 0) = false := by
  have := bv_progOk kn_b0 1 (List.replicate 60 0)
  exact this.trans (by decide)
theorem kn_prog : kn0.progR ((0 : Nat) : Int) ((0 : Nat) : Int) ((1 : Nat) : Int) (List.replicate 60 0) = 1 := (prog_refused kn_c0 kn_no).1
theorem kn_c1 : Ctl kn1 6 8 4 0 [] false 0 1 := (prog_refused kn_c0 kn_no).2.1
theorem kn_b1 : Bv kn1 0 0 0 0 false (fun _ => onesW) (fun _ => []) := (prog_refused kn_c0 kn_no).2.2 kn_b0
theorem kn_read : (kn0.prog ((0 : Nat) : Int) ((0 : Nat) : Int) ((1 : Nat) : Int) (List.replicate 60 0)).askR ((kn0.prog ((0 : Nat) : Int) ((0 : Nat) : Int) ((1 : Nat) : Int) (List.replicate 60 0)).readOk ((0 : Nat) : Int) ((0 : Nat) : Int) ((0 : Nat) : Int)) = 0 := (readL_eq kn_c1 kn_b1 (p := 0) (by decide)).2
theorem kn_l : (kn0.prog ((0 : Nat) : Int) ((0 : Nat) : Int) ((1 : Nat) : Int) (List.replicate 60 0)).readL ((0 : Nat) : Int) ((0 : Nat) : Int) ((0 : Nat) : Int) = onesW := ((readL_eq kn_c1 kn_b1 (p := 0) (by decide)).1).trans flipI_nil
theorem kn_len : ((kn0.prog ((0 : Nat) : Int) ((0 : Nat) : Int) ((1 : Nat) : Int) (List.replicate 60 0)).readL ((0 : Nat) : Int) ((0 : Nat) : Int) ((0 : Nat) : Int)).length = 60 := by rw [kn_l]; exact onesW_len
theorem kn_pos : 0 < ((kn0.prog ((0 : Nat) : Int) ((0 : Nat) : Int) ((1 : Nat) : Int) (List.replicate 60 0)).readL ((0 : Nat) : Int) ((0 : Nat) : Int) ((0 : Nat) : Int)).length := by rw [kn_len]; decide
theorem kn_at : (((kn0.prog ((0 : Nat) : Int) ((0 : Nat) : Int) ((1 : Nat) : Int) (List.replicate 60 0)).readL ((0 : Nat) : Int) ((0 : Nat) : Int) ((0 : Nat) : Int)).getD 0 0 : UInt8) = (255 : UInt8) := by rw [kn_l]; rfl
theorem kn_wrong : (kn2.wrong : Int) = 1 := (read_ctl kn_c1 kn_b1 (p := 0) (by decide)).wr

/-! ### Pages in order -/
def OrdI (s : NS) (nx wr : Nat) (B : List UInt8) : Prop := ∃ o er, Ctl s 6 8 8 0 [] false o (wr : Int) ∧ Bv s 1 2 nx er false (fun q => if q < nx then B else onesW) (fun _ => []) ∧ Bv s 1 3 0 0 false (fun _ => onesW) (fun _ => [])
section
variable {s : NS} {nx wr p : Nat} {B : List UInt8}
theorem ord_new (B : List UInt8) : OrdI (NS.new 6 8 8 fun _ _ => false) 0 0 B := ⟨0, 0, ctl_new 6 8 8 _, (bv_new (by decide) (by decide)).to rfl (fun p _ => (if_neg (Nat.not_lt_zero p)).symm) (fun _ _ => rfl), bv_new (by decide) (by decide)⟩
theorem ord_erase (h : OrdI s nx wr B) : s.eraseR ((1 : Nat) : Int) ((2 : Nat) : Int) = 0 ∧ OrdI (s.erase ((1 : Nat) : Int) ((2 : Nat) : Int)) 0 wr B := by
  obtain ⟨o, er, hc, hv, hw⟩ := h
  obtain ⟨h1, h2, h3, h4⟩ := erase_done hc hv
  exact ⟨h1, _, _, h2, h3.to rfl (fun p _ => (if_neg (Nat.not_lt_zero p)).symm) (fun _ _ => rfl), h4 (by decide) hw⟩
theorem ord_yes (h : OrdI s nx wr B) (hB : B.length = 60) (e : p = nx) (h8 : p < 8) : s.progR ((1 : Nat) : Int) ((2 : Nat) : Int) (p : Int) B = 0 ∧ OrdI (s.prog ((1 : Nat) : Int) ((2 : Nat) : Int) (p : Int) B) (nx + 1) wr B := by
  obtain ⟨o, er, hc, hv, hw⟩ := h
  obtain ⟨h1, h2, h3, h4⟩ := prog_done hc hv h8 hB e.symm
  refine ⟨h1, _, _, h2, h3.to rfl (fun q _ => ?_) (fun _ _ => rfl), h4 (by decide) hw⟩
  show (if q = p then B else if q < nx then B else onesW) = if q < nx + 1 then B else onesW
  by_cases hq : q = p
  · rw [if_pos hq, if_pos (by omega)]
  · rw [if_neg hq]
    by_cases h5 : q < nx
    · rw [if_pos h5, if_pos (by omega)]
    · rw [if_neg h5, if_neg (by omega)]
theorem ord_no (h : OrdI s nx wr B) (hn : ¬ (p = nx ∧ p < 8)) (hw : wr < 1000) : s.progR ((1 : Nat) : Int) ((2 : Nat) : Int) (p : Int) B = 1 ∧ OrdI (s.prog ((1 : Nat) : Int) ((2 : Nat) : Int) (p : Int) B) nx (wr + 1) B := by
  obtain ⟨o, er, hc, hv, hw'⟩ := h
  have hok : s.progOk ((1 : Nat) : Int) ((2 : Nat) : Int) (p : Int) B = false := by
    rw [bv_progOk hv, hc.gP]
    by_cases h1 : p < 8
    · have : ¬ nx = p := fun e => hn ⟨e.symm, h1⟩
      simp [this]
    · simp [h1]
  obtain ⟨h1, h2, h3⟩ := prog_refused hc hok
  rw [up1_in (by omega)] at h2
  exact ⟨h1, o, er, h2, h3 hv, h3 hw'⟩
theorem ord_read (h : OrdI s nx wr B) (hp : p < 8) : s.askR (s.readOk ((1 : Nat) : Int) ((2 : Nat) : Int) (p : Int)) = 0 ∧ s.readL ((1 : Nat) : Int) ((2 : Nat) : Int) (p : Int) = (if p < nx then B else onesW) ∧ OrdI (s.ask (s.readOk ((1 : Nat) : Int) ((2 : Nat) : Int) (p : Int))) nx wr B := by
  obtain ⟨o, er, hc, hv, hw⟩ := h
  obtain ⟨h1, h2⟩ := readL_eq hc hv hp
  exact ⟨h2, h1, _, _, read_ctl hc hv hp, hv.ask _, hw.ask _⟩
theorem ord_read3 (h : OrdI s nx wr B) (hp : p < 8) : s.askR (s.readOk ((1 : Nat) : Int) ((3 : Nat) : Int) (p : Int)) = 0 ∧ s.readL ((1 : Nat) : Int) ((3 : Nat) : Int) (p : Int) = onesW ∧ OrdI (s.ask (s.readOk ((1 : Nat) : Int) ((3 : Nat) : Int) (p : Int))) nx wr B := by
  obtain ⟨o, er, hc, hv, hw⟩ := h
  obtain ⟨h1, h2⟩ := readL_eq hc hw hp
  exact ⟨h2, h1, _, _, read_ctl hc hw hp, hv.ask _, hw.ask _⟩
theorem ord_wrong (h : OrdI s nx wr B) : s.wrong = ((wr : Nat) : Int) := by obtain ⟨o, er, hc, _⟩ := h; exact hc.wr
end

/-! ### Where the power goes within a program -/
theorem mix_at {B lm : List UInt8} (hB : B.length = 60) {i : Nat} (hi : i < 60) : (mixR onesW B lm).getD i 0 = (255 &&& ~~~(if 0 < lm.length then lm.getD (i % lm.length) 0 else 0)) ||| (B.getD i 0 &&& (if 0 < lm.length then lm.getD (i % lm.length) 0 else 0)) := by
  unfold mixR
  rw [if_pos (onesW_len.trans hB.symm)]
  unfold mixL
  rw [tab_at (by rw [onesW_len]; exact hi)]
  have h1 : onesW.getD i 0 = 255 := by unfold onesW; rw [List.getD_eq_getElem?_getD, List.getElem?_replicate, if_pos hi]; rfl
  unfold mixAt
  by_cases h : 0 < lm.length
  · rw [if_pos h, if_neg (by omega), h1]
  · rw [if_neg h, if_pos (by omega), h1]
    have : ∀ x : UInt8, 255 = (255 &&& ~~~(0 : UInt8)) ||| (x &&& 0) := by
      intro x
      apply UInt8.toBitVec_inj.1
      have : ∀ x : BitVec 8, 255 = (255 &&& ~~~(0 : BitVec 8)) ||| (x &&& 0) := by decide
      exact this x.toBitVec
    exact this _
def TornI (s : NS) (i kk : Nat) (B lm : List UInt8) : Prop := ∃ o er, Ctl s 6 8 8 (kk - i) lm (decide (i = kk)) o 0 ∧ Bv s 0 0 i er false (fun q => if q < i then (if q + 1 = kk then mixR onesW B lm else B) else onesW) (fun _ => [])
def TornE (s : NS) (kk : Nat) (B lm : List UInt8) : Prop := ∃ o er, Ctl s 6 8 8 0 [] false o 0 ∧ Bv s 0 0 kk er false (fun q => if q < kk then (if q + 1 = kk then mixR onesW B lm else B) else onesW) (fun _ => [])
section
variable {s : NS} {i kk : Nat} {B lm : List UInt8}
theorem torn_new (B lm : List UInt8) (hk : 1 ≤ kk) : TornI ((NS.new 6 8 8 fun _ _ => false).stopAt kk lm) 0 kk B lm := by
  have h0 : decide (0 = kk) = false := by rw [decide_eq_false_iff_not]; omega
  refine ⟨0, 0, ?_, ((bv_new (by decide) (by decide)).stopAt kk lm).to rfl (fun p _ => (if_neg (Nat.not_lt_zero p)).symm) (fun _ _ => rfl)⟩
  rw [h0]
  exact (ctl_new 6 8 8 _).stopAt kk lm
theorem torn_step (h : TornI s i kk B lm) (hi : i < kk) (hk : kk ≤ 8) (hB : B.length = 60) : s.progR ((0 : Nat) : Int) ((0 : Nat) : Int) (i : Int) B = (if i + 1 < kk then 0 else 8) ∧ TornI (s.prog ((0 : Nat) : Int) ((0 : Nat) : Int) (i : Int) B) (i + 1) kk B lm := by
  obtain ⟨o, er, hc, hv⟩ := h
  have h0 : decide (i = kk) = false := by rw [decide_eq_false_iff_not]; omega
  rw [h0] at hc
  obtain ⟨h1, h2, h3, _⟩ := prog_done hc hv (p := i) (by omega) hB rfl
  refine ⟨?_, up1 o, er, ?_, h3.to rfl (fun q _ => ?_) (fun _ _ => rfl)⟩
  · rw [h1]
    by_cases h : i + 1 < kk
    · rw [if_pos h, if_neg (by omega)]
    · rw [if_neg h, if_pos (by omega)]
  · have e1 : kk - i - 1 = kk - (i + 1) := by omega
    have e2 : decide (kk - i = 1) = decide (i + 1 = kk) := by rw [decide_eq_decide]; omega
    rw [e1, e2] at h2
    exact h2
  · show (if q = i then (if kk - i = 1 then mixR onesW B lm else B) else if q < i then (if q + 1 = kk then mixR onesW B lm else B) else onesW) = if q < i + 1 then (if q + 1 = kk then mixR onesW B lm else B) else onesW
    by_cases hq : q = i
    · rw [if_pos hq, if_pos (show q < i + 1 by omega)]
      by_cases h5 : kk - i = 1
      · rw [if_pos h5, if_pos (by omega)]
      · rw [if_neg h5, if_neg (by omega)]
    · rw [if_neg hq]
      by_cases h5 : q < i
      · rw [if_pos h5, if_pos (show q < i + 1 by omega)]
      · rw [if_neg h5, if_neg (show ¬ q < i + 1 by omega)]
theorem torn_dead (h : TornI s i kk B lm) (e : i = kk) : s.dead = true ∧ TornE s.power kk B lm ∧ (∀ g, s.askR g = 8) ∧ s.eraseR ((0 : Nat) : Int) ((0 : Nat) : Int) = 8 ∧ s.erase ((0 : Nat) : Int) ((0 : Nat) : Int) = s := by
  subst e
  obtain ⟨o, er, hc, hv⟩ := h
  have h0 : decide (i = i) = true := decide_eq_true rfl
  rw [h0] at hc
  exact ⟨hc.dd, ⟨o, er, hc.power, hv.power⟩, fun g => by rw [askR_eq hc]; rfl, (erase_dead hc _ _).1, (erase_dead hc _ _).2⟩
theorem torn_ask (h : TornI s i kk B lm) (e : i = kk) (g : Bool) : s.ask g = s := NS.ask_dead (torn_dead h e).1
theorem torn_read (h : TornE s kk B lm) (h1 : 1 ≤ kk) (hk : kk ≤ 8) : s.askR (s.readOk ((0 : Nat) : Int) ((0 : Nat) : Int) ((kk - 1 : Nat) : Int)) = 0 ∧ s.readL ((0 : Nat) : Int) ((0 : Nat) : Int) ((kk - 1 : Nat) : Int) = mixR onesW B lm ∧ TornE (s.ask (s.readOk ((0 : Nat) : Int) ((0 : Nat) : Int) ((kk - 1 : Nat) : Int))) kk B lm := by
  obtain ⟨o, er, hc, hv⟩ := h
  obtain ⟨h3, h2⟩ := readL_eq hc hv (p := kk - 1) (by omega)
  refine ⟨h2, h3.trans ?_, _, _, read_ctl hc hv (by omega), hv.ask _⟩
  show flipI (if kk - 1 < kk then (if kk - 1 + 1 = kk then mixR onesW B lm else B) else onesW) [] = _
  rw [if_pos (by omega), if_pos (by omega)]
  rfl
theorem torn_last (h : TornE s kk B lm) (h1 : 1 ≤ kk) (hk : kk ≤ 8) : s.progR ((0 : Nat) : Int) ((0 : Nat) : Int) ((kk - 1 : Nat) : Int) B = 1 ∧ (s.prog ((0 : Nat) : Int) ((0 : Nat) : Int) ((kk - 1 : Nat) : Int) B).dead = false := by
  obtain ⟨o, er, hc, hv⟩ := h
  have hok : s.progOk ((0 : Nat) : Int) ((0 : Nat) : Int) ((kk - 1 : Nat) : Int) B = false := by
    rw [bv_progOk hv]
    have : ¬ kk = kk - 1 := by omega
    simp [this]
  obtain ⟨h2, h3, _⟩ := prog_refused hc hok
  exact ⟨h2, h3.dd⟩
end

/-! ### An erase that is torn -/
def ErsI (s : NS) (i : Nat) (B : List UInt8) : Prop := ∃ o, Ctl s 6 8 5 0 [] false o 0 ∧ Bv s 2 3 i 0 false (fun q => if q < i then B else onesW) (fun _ => [])
def ErsE (s : NS) (n : Nat) (B lm : List UInt8) : Prop := ∃ o, Ctl s 6 8 5 0 [] false o 0 ∧ Bv s 2 3 n 1 false (fun q => if q < n then mixR B onesW lm else onesW) (fun _ => [])
section
variable {s : NS} {i n : Nat} {B lm : List UInt8}
theorem ers_new (B : List UInt8) : ErsI (NS.new 6 8 5 fun _ _ => false) 0 B := ⟨0, ctl_new 6 8 5 _, (bv_new (by decide) (by decide)).to rfl (fun p _ => (if_neg (Nat.not_lt_zero p)).symm) (fun _ _ => rfl)⟩
theorem ers_step (h : ErsI s i B) (hi : i < 5) (hB : B.length = 60) : s.progR ((2 : Nat) : Int) ((3 : Nat) : Int) (i : Int) B = 0 ∧ ErsI (s.prog ((2 : Nat) : Int) ((3 : Nat) : Int) (i : Int) B) (i + 1) B := by
  obtain ⟨o, hc, hv⟩ := h
  obtain ⟨h1, h2, h3, _⟩ := prog_done hc hv (p := i) hi hB rfl
  refine ⟨h1, _, h2, h3.to rfl (fun q _ => ?_) (fun _ _ => rfl)⟩
  show (if q = i then B else if q < i then B else onesW) = if q < i + 1 then B else onesW
  by_cases hq : q = i
  · rw [if_pos hq, if_pos (by omega)]
  · rw [if_neg hq]
    by_cases h5 : q < i
    · rw [if_pos h5, if_pos (by omega)]
    · rw [if_neg h5, if_neg (by omega)]
theorem mix_ones (lm : List UInt8) : mixR onesW onesW lm = onesW := by
  unfold mixR
  rw [if_pos rfl]
  unfold mixL
  have h1 : ∀ i, i < 60 → onesW.getD i 0 = 255 := fun i hi => by unfold onesW; rw [List.getD_eq_getElem?_getD, List.getElem?_replicate, if_pos hi]; rfl
  have h2 : ∀ m : UInt8, (255 &&& ~~~m) ||| (255 &&& m) = 255 := by
    intro m
    apply UInt8.toBitVec_inj.1
    have : ∀ x : BitVec 8, (255 &&& ~~~x) ||| (255 &&& x) = 255 := by decide
    exact this m.toBitVec
  rw [show onesW = tab 60 (fun i => onesW.getD i 0) from by rw [← onesW_len]; exact eq_tab _ _]
  rw [tab_length]
  refine tab_ext fun i hi => ?_
  unfold mixAt
  rw [tab_at hi, h1 i hi]
  split
  · rfl
  · exact h2 _
theorem ers_torn (h : ErsI s n B) (hn : n ≤ 5) (lm : List UInt8) : (s.stopAt 1 lm).eraseR ((2 : Nat) : Int) ((3 : Nat) : Int) = 8 ∧ ErsE ((s.stopAt 1 lm).erase ((2 : Nat) : Int) ((3 : Nat) : Int)).power n B lm := by
  obtain ⟨o, hc, hv⟩ := h
  obtain ⟨h1, h2, h3, _⟩ := erase_done (hc.stopAt 1 lm) (hv.stopAt 1 lm)
  refine ⟨h1, _, h2.power, ?_⟩
  have h4 := h3.power
  refine h4.to rfl (fun q _ => ?_) (fun _ _ => rfl)
  show mixR (if q < n then B else onesW) onesW lm = _
  split
  · rfl
  · exact mix_ones lm
theorem ers_read (h : ErsE s n B lm) (hi : i < 5) : s.askR (s.readOk ((2 : Nat) : Int) ((3 : Nat) : Int) (i : Int)) = 0 ∧ s.readL ((2 : Nat) : Int) ((3 : Nat) : Int) (i : Int) = (if i < n then mixR B onesW lm else onesW) ∧ ErsE (s.ask (s.readOk ((2 : Nat) : Int) ((3 : Nat) : Int) (i : Int))) n B lm := by
  obtain ⟨o, hc, hv⟩ := h
  obtain ⟨h3, h2⟩ := readL_eq hc hv hi
  exact ⟨h2, h3, _, read_ctl hc hv hi, hv.ask _⟩
theorem ers_end (h : ErsE s n B lm) (hn : 1 ≤ n) (hB : B.length = 60) : s.progR ((2 : Nat) : Int) ((3 : Nat) : Int) ((0 : Nat) : Int) B = 1 ∧ (s.prog ((2 : Nat) : Int) ((3 : Nat) : Int) ((0 : Nat) : Int) B).eraseR ((2 : Nat) : Int) ((3 : Nat) : Int) = 0 ∧
    ((s.prog ((2 : Nat) : Int) ((3 : Nat) : Int) ((0 : Nat) : Int) B).erase ((2 : Nat) : Int) ((3 : Nat) : Int)).erases ((2 : Nat) : Int) ((3 : Nat) : Int) = 2 ∧
    ((s.prog ((2 : Nat) : Int) ((3 : Nat) : Int) ((0 : Nat) : Int) B).erase ((2 : Nat) : Int) ((3 : Nat) : Int)).progR ((2 : Nat) : Int) ((3 : Nat) : Int) ((0 : Nat) : Int) B = 0 := by
  obtain ⟨o, hc, hv⟩ := h
  have hok : s.progOk ((2 : Nat) : Int) ((3 : Nat) : Int) ((0 : Nat) : Int) B = false := by
    rw [bv_progOk hv]
    have : ¬ n = 0 := by omega
    simp [this]
  obtain ⟨h1, h2, h3⟩ := prog_refused hc hok
  obtain ⟨g1, g2, g3, _⟩ := erase_done h2 (h3 hv)
  obtain ⟨k1, _⟩ := prog_done g2 g3 (p := 0) (by decide) hB rfl
  exact ⟨h1, g1, (bv_erases g3).trans (by decide), k1⟩
end

/-! ### Noise -/
def NoiI (s : NS) (i pg : Nat) (l : List Int) (B : List UInt8) : Prop := ∃ o, Ctl s 6 8 4 0 [] false o 0 ∧ Bv s 1 1 i 0 false (fun q => if q < i then B else onesW) (fun q => if q = pg then l else [])
theorem noise_out {s : NS} {D B Q k : Nat} {m : List UInt8} {x : Bool} {o w : Int} {d b p : Int} {ll : List Int} (hc : Ctl s D B Q k m x o w) (h : ¬ (0 ≤ d ∧ d < (D : Int) ∧ 0 ≤ b ∧ b < (B : Int) ∧ 0 ≤ p ∧ p < (Q : Int))) : s.noiseR d b p = 1 ∧ s.noise d b p ll = s := by
  refine noise_no ?_
  unfold NS.pageIn NS.there
  rw [hc.gD, hc.gB, hc.gP, Bool.and_eq_false_iff]
  by_cases h1 : 0 ≤ d ∧ d < (D : Int) ∧ 0 ≤ b ∧ b < (B : Int)
  · right; simp; omega
  · left; simpa using h1
section
variable {s : NS} {i pg : Nat} {l m : List Int} {B : List UInt8}
theorem noi_new (B : List UInt8) (l : List Int) (hp : pg < 4) : (NS.new 6 8 4 fun _ _ => false).noiseR ((1 : Nat) : Int) ((1 : Nat) : Int) (pg : Int) = 0 ∧ NoiI ((NS.new 6 8 4 fun _ _ => false).noise ((1 : Nat) : Int) ((1 : Nat) : Int) (pg : Int) l) 0 pg l B ∧ Ctl ((NS.new 6 8 4 fun _ _ => false).noise ((1 : Nat) : Int) ((1 : Nat) : Int) (pg : Int) l) 6 8 4 0 [] false 0 0 := by
  obtain ⟨h1, h2, h3⟩ := noise_yes (ll := l) (ctl_new 6 8 4 fun _ _ => false) (bv_new (d := 1) (b := 1) (by decide) (by decide)) hp
  exact ⟨h1, ⟨0, h2, h3.to rfl (fun p _ => (if_neg (Nat.not_lt_zero p)).symm) (fun _ _ => rfl)⟩, h2⟩
theorem noi_step (h : NoiI s i pg l B) (hi : i < 4) (hB : B.length = 60) : s.progR ((1 : Nat) : Int) ((1 : Nat) : Int) (i : Int) B = 0 ∧ NoiI (s.prog ((1 : Nat) : Int) ((1 : Nat) : Int) (i : Int) B) (i + 1) pg l B := by
  obtain ⟨o, hc, hv⟩ := h
  obtain ⟨h1, h2, h3, _⟩ := prog_done hc hv (p := i) hi hB rfl
  refine ⟨h1, _, h2, h3.to rfl (fun q _ => ?_) (fun _ _ => rfl)⟩
  show (if q = i then B else if q < i then B else onesW) = if q < i + 1 then B else onesW
  by_cases hq : q = i
  · rw [if_pos hq, if_pos (by omega)]
  · rw [if_neg hq]
    by_cases h5 : q < i
    · rw [if_pos h5, if_pos (by omega)]
    · rw [if_neg h5, if_neg (by omega)]
theorem noi_read {q : Nat} (h : NoiI s i pg l B) (he : i = 4) (hq : q < 4) : s.askR (s.readOk ((1 : Nat) : Int) ((1 : Nat) : Int) (q : Int)) = 0 ∧ s.readL ((1 : Nat) : Int) ((1 : Nat) : Int) (q : Int) = flipI B (if q = pg then l else []) ∧ NoiI (s.ask (s.readOk ((1 : Nat) : Int) ((1 : Nat) : Int) (q : Int))) i pg l B := by
  obtain ⟨o, hc, hv⟩ := h
  obtain ⟨h3, h2⟩ := readL_eq hc hv hq
  refine ⟨h2, h3.trans ?_, _, read_ctl hc hv hq, hv.ask _⟩
  show flipI (if q < i then B else onesW) _ = _
  rw [if_pos (by omega)]
theorem noi_set (h : NoiI s i pg l B) (hp : pg < 4) (m : List Int) : NoiI (s.noise ((1 : Nat) : Int) ((1 : Nat) : Int) (pg : Int) m) i pg m B := by
  obtain ⟨o, hc, hv⟩ := h
  obtain ⟨h1, h2, h3⟩ := noise_yes (ll := m) hc hv hp
  refine ⟨o, h2, h3.to rfl (fun _ _ => rfl) (fun q _ => ?_)⟩
  show (if q = pg then m else if q = pg then l else []) = _
  split <;> rfl
end

/-! ### Just that one at which it was to go -/
def StpI (s : NS) (k d nx ops : Nat) : Prop := ∃ wr er f z f' z', Ctl s 6 8 8 (k - d) [] (decide (d = k)) (ops : Int) wr ∧ Bv s 0 0 nx 0 false f z ∧ Bv s 3 3 0 er false f' z'
section
variable {s : NS} {k d nx ops : Nat}
theorem stp_new (hk : 1 ≤ k) : StpI ((NS.new 6 8 8 fun _ _ => false).stopAt k []) k 0 0 0 := by
  have h0 : decide (0 = k) = false := by rw [decide_eq_false_iff_not]; omega
  refine ⟨0, 0, _, _, _, _, ?_, (bv_new (by decide) (by decide)).stopAt k [], (bv_new (by decide) (by decide)).stopAt k []⟩
  rw [h0]
  exact (ctl_new 6 8 8 _).stopAt k []
theorem stp_dead (h : StpI s k d nx ops) : s.dead = decide (d = k) := by obtain ⟨_, _, _, _, _, _, hc, _⟩ := h; exact hc.dd
theorem stp_ops (h : StpI s k d nx ops) : s.ops = ((ops : Nat) : Int) := by obtain ⟨_, _, _, _, _, _, hc, _⟩ := h; exact hc.op
theorem stp_after (h : StpI s k d nx ops) (e : d = k) : (∀ g, s.askR g = 8 ∧ s.ask g = s) ∧ (∀ d b p l, s.progR d b p l = 8 ∧ s.prog d b p l = s) ∧ (∀ d b, s.eraseR d b = 8 ∧ s.erase d b = s) := by
  subst e
  obtain ⟨_, _, _, _, _, _, hc, _⟩ := h
  rw [show decide (d = d) = true from decide_eq_true rfl] at hc
  exact ⟨fun g => ⟨by rw [askR_eq hc]; rfl, NS.ask_dead hc.dd⟩, fun d b p l => prog_dead hc d b p l, fun d b => erase_dead hc d b⟩
theorem stp_prog {l : List UInt8} (h : StpI s k d nx ops) (hd : d < k) (hk : k ≤ 12) (hn : nx < 8) (ho : ops < 1000) (hl : l.length = 60) : s.progR ((0 : Nat) : Int) ((0 : Nat) : Int) (nx : Int) l = (if d + 1 = k then 8 else 0) ∧ StpI (s.prog ((0 : Nat) : Int) ((0 : Nat) : Int) (nx : Int) l) k (d + 1) (nx + 1) (ops + 1) := by
  obtain ⟨wr, er, f, z, f', z', hc, hv, hw⟩ := h
  rw [show decide (d = k) = false by rw [decide_eq_false_iff_not]; omega] at hc
  obtain ⟨h1, h2, h3, h4⟩ := prog_done hc hv hn hl rfl
  rw [up1_in (by omega), show k - d - 1 = k - (d + 1) by omega, show decide (k - d = 1) = decide (d + 1 = k) by rw [decide_eq_decide]; omega] at h2
  refine ⟨?_, wr, er, _, _, _, _, h2, h3, h4 (by decide) hw⟩
  rw [h1]
  by_cases e : d + 1 = k
  · rw [if_pos e, if_pos (by omega)]
  · rw [if_neg e, if_neg (by omega)]
theorem stp_erase (h : StpI s k d nx ops) (hd : d < k) (hk : k ≤ 12) (ho : ops < 1000) : s.eraseR ((3 : Nat) : Int) ((3 : Nat) : Int) = (if d + 1 = k then 8 else 0) ∧ StpI (s.erase ((3 : Nat) : Int) ((3 : Nat) : Int)) k (d + 1) nx (ops + 1) := by
  obtain ⟨wr, er, f, z, f', z', hc, hv, hw⟩ := h
  rw [show decide (d = k) = false by rw [decide_eq_false_iff_not]; omega] at hc
  obtain ⟨h1, h2, h3, h4⟩ := erase_done hc hw
  rw [up1_in (by omega), show k - d - 1 = k - (d + 1) by omega, show decide (k - d = 1) = decide (d + 1 = k) by rw [decide_eq_decide]; omega] at h2
  refine ⟨?_, wr, _, _, _, _, _, h2, h4 (by decide) hv, h3.to (by split <;> rfl) (fun _ _ => rfl) (fun _ _ => rfl)⟩
  rw [h1]
  by_cases e : d + 1 = k
  · rw [if_pos e, if_pos (by omega)]
  · rw [if_neg e, if_neg (by omega)]
theorem stp_read (h : StpI s k d nx ops) (hd : d < k) (ho : ops < 1000) : s.askR (s.readOk ((0 : Nat) : Int) ((0 : Nat) : Int) ((7 : Nat) : Int)) = 0 ∧ StpI (s.ask (s.readOk ((0 : Nat) : Int) ((0 : Nat) : Int) ((7 : Nat) : Int))) k d nx (ops + 1) := by
  obtain ⟨wr, er, f, z, f', z', hc, hv, hw⟩ := h
  have e0 : decide (d = k) = false := by rw [decide_eq_false_iff_not]; omega
  rw [e0] at hc
  have h2 := read_ctl hc hv (p := 7) (by decide)
  rw [up1_in (by omega)] at h2
  exact ⟨(readL_eq hc hv (p := 7) (by decide)).2, wr, er, f, z, f', z', by rw [e0]; exact h2, hv.ask _, hw.ask _⟩
theorem stp_wrong (h : StpI s k d nx ops) (hd : d < k) : s.eraseR ((9 : Nat) : Int) ((9 : Nat) : Int) = 1 ∧ StpI (s.erase ((9 : Nat) : Int) ((9 : Nat) : Int)) k d nx ops := by
  obtain ⟨wr, er, f, z, f', z', hc, hv, hw⟩ := h
  have e0 : decide (d = k) = false := by rw [decide_eq_false_iff_not]; omega
  rw [e0] at hc
  have hok : s.eraseOk ((9 : Nat) : Int) ((9 : Nat) : Int) = false := by
    unfold NS.eraseOk NS.there
    rw [hc.gD, hc.gB]
    rfl
  obtain ⟨h1, h2, h3⟩ := erase_refused hc hok
  exact ⟨h1, _, er, f, z, f', z', by rw [e0]; exact h2, h3 hv, h3 hw⟩
end

/-- The state of flash with one bad block, while it is asked in vain. -/
structure BadI (s : NS) (D B Q d b w : Nat) : Prop where
  c : Ctl s D B Q 0 [] false 0 (w : Int)
  v : ∀ d' b', d' < D → b' < B → Bv s d' b' 0 0 (decide (d' = d ∧ b' = b)) (fun _ => onesW) (fun _ => [])
section
variable {s : NS} {D B Q d b w : Nat}
theorem bad_new (h : NewI s D B Q [(d, b), (d, b)]) : BadI s D B Q d b 0 := ⟨h.c, fun d' b' h1 h2 => by
  have := h.v d' b' h1 h2
  have e : decide ((d', b') ∈ [(d, b), (d, b)]) = decide (d' = d ∧ b' = b) := by rw [decide_eq_decide]; simp
  rw [← e]; exact this⟩
theorem bad_own (h : BadI s D B Q d b w) (hd : d < D) (hb : b < B) : Bv s d b 0 0 true (fun _ => onesW) (fun _ => []) := by
  have := h.v d b hd hb
  rwa [show decide (d = d ∧ b = b) = true by simp] at this
theorem bad_ask (h : BadI s D B Q d b w) (hw : w < 1000) : BadI (s.ask false) D B Q d b (w + 1) := ⟨by
  have h2 := h.c.ask false
  simp only [Bool.false_eq_true, if_false] at h2
  rwa [up1_in (by omega)] at h2, fun d' b' h1 h2 => (h.v d' b' h1 h2).ask _⟩
theorem bad_read (h : BadI s D B Q d b w) (hd : d < D) (hb : b < B) (hw : w < 1000) (p : Nat) : s.askR (s.readOk (d : Int) (b : Int) (p : Int)) = 1 ∧ BadI (s.ask (s.readOk (d : Int) (b : Int) (p : Int))) D B Q d b (w + 1) := by
  have e : s.readOk (d : Int) (b : Int) (p : Int) = false := by rw [bv_readOk (bad_own h hd hb)]; simp
  rw [e]
  exact ⟨by rw [askR_eq h.c]; rfl, bad_ask h hw⟩
theorem bad_prog (h : BadI s D B Q d b w) (hd : d < D) (hb : b < B) (hw : w < 1000) (p : Nat) (l : List UInt8) : s.progR (d : Int) (b : Int) (p : Int) l = 1 ∧ BadI (s.prog (d : Int) (b : Int) (p : Int) l) D B Q d b (w + 1) := by
  have e : s.progOk (d : Int) (b : Int) (p : Int) l = false := by rw [bv_progOk (bad_own h hd hb)]; simp
  obtain ⟨h1, h2, h3⟩ := prog_refused h.c e
  rw [up1_in (by omega)] at h2
  exact ⟨h1, h2, fun d' b' h4 h5 => h3 (h.v d' b' h4 h5)⟩
theorem bad_erase (h : BadI s D B Q d b w) (hd : d < D) (hb : b < B) (hw : w < 1000) : s.eraseR (d : Int) (b : Int) = 1 ∧ BadI (s.erase (d : Int) (b : Int)) D B Q d b (w + 1) := by
  have e : s.eraseOk (d : Int) (b : Int) = false := by rw [bv_eraseOk (bad_own h hd hb)]; rfl
  obtain ⟨h1, h2, h3⟩ := erase_refused h.c e
  rw [up1_in (by omega)] at h2
  exact ⟨h1, h2, fun d' b' h4 h5 => h3 (h.v d' b' h4 h5)⟩
theorem bad_is (h : BadI s D B Q d b w) {d' b' : Nat} (hd : d' < D) (hb : b' < B) : s.isBad (d' : Int) (b' : Int) = decide (d' = d ∧ b' = b) := bv_bad (h.v d' b' hd hb)
theorem bad_out (h : BadI s D B Q d b w) {x y : Int} (ho : ¬ (0 ≤ x ∧ x < (D : Int) ∧ 0 ≤ y ∧ y < (B : Int))) : s.isBad x y = false := by
  unfold NS.isBad NS.there
  rw [h.c.gD, h.c.gB, decide_eq_false ho]
  rfl
theorem bad_other (h : BadI s D B Q d b w) {d' b' : Nat} (hd : d' < D) (hb : b' < B) (hn : ¬ (d' = d ∧ b' = b)) (hQ : 0 < Q) {l : List UInt8} (hl : l.length = 60) : s.progR (d' : Int) (b' : Int) ((0 : Nat) : Int) l = 0 := by
  have hv := h.v d' b' hd hb
  rw [decide_eq_false hn] at hv
  exact (prog_done h.c hv (p := 0) hQ hl rfl).1
theorem mod_ne {b B : Nat} (hb : b < B) (h2 : 2 ≤ B) : (b + 1) % B < B ∧ (b + 1) % B ≠ b := by
  refine ⟨Nat.mod_lt _ (by omega), ?_⟩
  by_cases h : b + 1 < B
  · rw [Nat.mod_eq_of_lt h]; omega
  · have : b + 1 = B := by omega
    rw [this, Nat.mod_self]; omega
end

end Go.Proofs.YtpamdlnobekihaaF
