/-
  Flash's ghost state, looked at: what steers it (Ctl), one block of it (Bv); how each operation changes them.
-/
import Derived.Test.YtpamdlnobekihaaNc
set_option linter.unusedVariables false
set_option linter.unusedSimpArgs false
namespace Go.Proofs.YtpamdlnobekihaaF
open Go Go.Shelf Go.Proofs.YtpamdlnobekihaaS Ram

def up1 (x : Int) : Int := IntKind.i64.wrap (x + 1)
structure Ctl (s : NS) (D B Q k : Nat) (m : List UInt8) (x : Bool) (o w : Int) : Prop where
  gD : s.gD = D
  gB : s.gB = B
  gP : s.gP = Q
  st : s.stop = k
  mk_ : s.mask = m
  dd : s.dead = x
  op : s.ops = o
  wr : s.wrong = w
structure Bv (s : NS) (d b nx : Nat) (er : Int) (bad : Bool) (f : Nat → List UInt8) (z : Nat → List Int) : Prop where
  dd : d < s.gD
  bb : b < s.gB
  nx : (s.bl d b).nx = nx
  er : (s.bl d b).er = er
  bad : (s.bl d b).bad = bad
  f : ∀ p, p < s.gP → s.dl (s.ix d b p) = f p
  z : ∀ p, p < s.gP → s.nl (s.ix d b p) = z p
section
variable {s : NS} {D B Q k d b nx p : Nat} {m : List UInt8} {x bad : Bool} {o w er : Int} {f : Nat → List UInt8} {z : Nat → List Int} {l : List UInt8} {d' b' nx' : Nat} {er' : Int} {bad' : Bool} {f' : Nat → List UInt8} {z' : Nat → List Int}
theorem ix_inj {p' : Nat} (hb : b < s.gB) (hb' : b' < s.gB) (hp : p < s.gP) (hp' : p' < s.gP) (h : s.ix d b p = s.ix d' b' p') : d = d' ∧ b = b' ∧ p = p' := by
  unfold NS.ix at h
  have md : ∀ a r m : Nat, r < m → (a * m + r) % m = r := fun a r m h => by rw [Nat.add_comm, Nat.add_mul_mod_self_right, Nat.mod_eq_of_lt h]
  have h1 : p = p' := by
    have := congrArg (· % s.gP) h
    simp only [md _ _ _ hp, md _ _ _ hp'] at this
    exact this
  subst h1
  have h2 : d * s.gB + b = d' * s.gB + b' := Nat.eq_of_mul_eq_mul_right (by omega : 0 < s.gP) (by omega)
  have h3 : b = b' := by
    have := congrArg (· % s.gB) h2
    simp only [md _ _ _ hb, md _ _ _ hb'] at this
    exact this
  subst h3
  exact ⟨Nat.eq_of_mul_eq_mul_right (by omega : 0 < s.gB) (by omega), rfl, rfl⟩
theorem ctl_new (D B Q : Nat) (g : Nat → Nat → Bool) : Ctl (NS.new D B Q g) D B Q 0 [] false 0 0 := ⟨rfl, rfl, rfl, rfl, rfl, rfl, rfl, rfl⟩
theorem bv_new {g : Nat → Nat → Bool} (hd : d < D) (hb : b < B) : Bv (NS.new D B Q g) d b 0 0 (g d b) (fun _ => onesW) (fun _ => []) := ⟨hd, hb, rfl, rfl, rfl, fun _ _ => rfl, fun _ _ => rfl⟩
theorem Ctl.ask (h : Ctl s D B Q k m x o w) (g : Bool) : Ctl (s.ask g) D B Q k m x (if x then o else if g then up1 o else o) (if x then w else if g then w else up1 w) := by
  obtain ⟨h1, h2, h3, h4, h5, h6, h7, h8⟩ := h
  exact ⟨h1, h2, h3, h4, h5, h6, by unfold NS.ask up1; simp only [h6, h7], by unfold NS.ask up1; simp only [h6, h8]⟩
theorem Bv.ask (h : Bv s d b nx er bad f z) (g : Bool) : Bv (s.ask g) d b nx er bad f z := ⟨h.dd, h.bb, h.nx, h.er, h.bad, h.f, h.z⟩
theorem askR_eq (h : Ctl s D B Q k m x o w) (g : Bool) : s.askR g = if x then 8 else if g then 0 else 1 := by unfold NS.askR; rw [h.dd]
theorem there_eq (d b : Nat) (hd : d < s.gD) (hb : b < s.gB) : s.there d b = true := by unfold NS.there; simp; omega
theorem bv_there (h : Bv s d b nx er bad f z) : s.there d b = true := there_eq d b h.dd h.bb
theorem bv_bad (h : Bv s d b nx er bad f z) : s.isBad d b = bad := by unfold NS.isBad; rw [bv_there h, Int.toNat_natCast, Int.toNat_natCast, h.bad]; rfl
theorem bv_page (h : Bv s d b nx er bad f z) (p : Nat) : s.pageIn d b p = decide (p < s.gP) := by unfold NS.pageIn; rw [bv_there h, Bool.true_and, decide_eq_decide]; omega
theorem bv_erases (h : Bv s d b nx er bad f z) : s.erases d b = er := by unfold NS.erases; rw [bv_there h, if_pos rfl, Int.toNat_natCast, Int.toNat_natCast]; exact h.er
theorem bv_readOk (h : Bv s d b nx er bad f z) (p : Nat) : s.readOk d b p = (decide (p < s.gP) && !bad) := by unfold NS.readOk; rw [bv_page h, bv_bad h]
theorem bv_eraseOk (h : Bv s d b nx er bad f z) : s.eraseOk d b = !bad := by unfold NS.eraseOk; rw [bv_there h, bv_bad h]; rfl
theorem bv_progOk (h : Bv s d b nx er bad f z) (p : Nat) (l : List UInt8) : s.progOk d b p l = (decide (p < s.gP) && !bad && decide (l.length = 60) && decide (nx = p)) := by
  unfold NS.progOk; rw [bv_page h, bv_bad h, Int.toNat_natCast, Int.toNat_natCast, h.nx]
  congr 1
  rw [decide_eq_decide]; omega
theorem readL_eq (hc : Ctl s D B Q k m false o w) (h : Bv s d b nx er false f z) (hp : p < Q) : s.readL d b p = flipI (f p) (z p) ∧ s.askR (s.readOk d b p) = 0 := by
  have hp' : p < s.gP := by rw [hc.gP]; exact hp
  have h0 : s.askR (s.readOk d b p) = 0 := by rw [askR_eq hc, bv_readOk h]; simp [hp']
  refine ⟨?_, h0⟩
  unfold NS.readL
  rw [if_pos h0, Int.toNat_natCast, Int.toNat_natCast, Int.toNat_natCast, h.f p hp', h.z p hp']
theorem read_ctl (hc : Ctl s D B Q k m false o w) (h : Bv s d b nx er false f z) (hp : p < Q) : Ctl (s.ask (s.readOk d b p)) D B Q k m false (up1 o) w := by
  have hp' : p < s.gP := by rw [hc.gP]; exact hp
  have := hc.ask (s.readOk d b p)
  rw [bv_readOk h] at this ⊢
  simpa [hp'] using this

/-! ### Programming -/
theorem prog_dead (hc : Ctl s D B Q k m true o w) (d b p : Int) (l : List UInt8) : s.progR d b p l = 8 ∧ s.prog d b p l = s := by
  have h0 : s.askR (s.progOk d b p l) = 8 := by rw [askR_eq hc]; rfl
  have h1 : ¬ s.askR (s.progOk d b p l) = 0 := by rw [h0]; decide
  obtain ⟨e1, e2⟩ := NS.prog_no h1
  exact ⟨e2.trans h0, e1.trans (NS.ask_dead hc.dd)⟩
theorem prog_refused {d b p : Int} (hc : Ctl s D B Q k m false o w) (h : s.progOk d b p l = false) : s.progR d b p l = 1 ∧ Ctl (s.prog d b p l) D B Q k m false o (up1 w) ∧ ∀ {d' b' nx er bad f z}, Bv s d' b' nx er bad f z → Bv (s.prog d b p l) d' b' nx er bad f z := by
  have h0 : s.askR (s.progOk d b p l) = 1 := by rw [askR_eq hc, h]; rfl
  have h1 : ¬ s.askR (s.progOk d b p l) = 0 := by rw [h0]; decide
  obtain ⟨e1, e2⟩ := NS.prog_no h1
  refine ⟨e2.trans h0, ?_, fun hv => ?_⟩
  · rw [e1, h]; simpa using hc.ask false
  · rw [e1]; exact hv.ask _
theorem prog_done (hc : Ctl s D B Q k m false o w) (hv : Bv s d b nx er false f z) (hp : p < Q) (hl : l.length = 60) (hnx : nx = p) :
    s.progR d b p l = (if k = 1 then 8 else 0) ∧ Ctl (s.prog d b p l) D B Q (k - 1) m (decide (k = 1)) (up1 o) w ∧ Bv (s.prog d b p l) d b (nx + 1) er false (fun q => if q = p then (if k = 1 then mixR onesW l m else l) else f q) z ∧
    (∀ {d' b' nx er bad f z}, (d' ≠ d ∨ b' ≠ b) → Bv s d' b' nx er bad f z → Bv (s.prog d b p l) d' b' nx er bad f z) := by
  have hp' : p < s.gP := by rw [hc.gP]; exact hp
  have hok : s.progOk d b p l = true := by rw [bv_progOk hv]; simp [hp', hl, hnx]
  have h0 : s.askR (s.progOk d b p l) = 0 := by rw [askR_eq hc, hok]; rfl
  have hg : s.goesR = decide (k = 1) := by
    unfold NS.goesR; rw [hc.st]
    by_cases h : k < 1
    · rw [if_pos h]; simp; omega
    · rw [if_neg h, decide_eq_decide]; omega
  have hpr : s.prog d b p l = (s.progA d b p l).setD (s.ix d b p) (if k = 1 then mixR onesW l m else l) := by
    unfold NS.prog
    rw [if_pos h0, Int.toNat_natCast, Int.toNat_natCast, Int.toNat_natCast, hg, hc.mk_]
    by_cases h : k = 1
    · rw [if_pos h, if_pos (by simp [h])]
    · rw [if_neg h, if_neg (by simp [h])]
  have hA : s.progA d b p l = ((s.ask true).prog2 d b).goes := by unfold NS.progA; rw [hok, Int.toNat_natCast, Int.toNat_natCast]
  refine ⟨?_, ?_, ?_, ?_⟩
  · unfold NS.progR; rw [if_pos h0, hg]
    by_cases h : k = 1
    · rw [if_pos h, if_pos (by simp [h])]
    · rw [if_neg h, if_neg (by simp [h])]
  · rw [hpr, hA]
    have ha := hc.ask true
    refine ⟨hc.gD, hc.gB, hc.gP, ?_, hc.mk_, ?_, ?_, ?_⟩
    · show (if s.stop < 1 then s.stop else s.stop - 1) = k - 1
      rw [hc.st]; split <;> omega
    · show (if s.stop < 1 then s.dead else decide (s.stop - 1 = 0)) = decide (k = 1)
      rw [hc.st, hc.dd]
      split
      · simp; omega
      · rw [decide_eq_decide]; omega
    · exact ha.op
    · exact ha.wr
  · rw [hpr, hA]
    have hb : ((((s.ask true).prog2 d b).goes).setD (s.ix d b p) (if k = 1 then mixR onesW l m else l)).bl d b = { s.bl d b with nx := (s.bl d b).nx + 1 } := by
      show (if d = d then (fun b' => if b' = b then _ else _) else _) b = _
      rw [if_pos rfl]
      show (if b = b then _ else _) = _
      rw [if_pos rfl]
      rfl
    refine ⟨hv.dd, hv.bb, by rw [hb]; show (s.bl d b).nx + 1 = _; rw [hv.nx], by rw [hb]; exact hv.er, by rw [hb]; exact hv.bad, fun q hq => ?_, hv.z⟩
    show (if s.ix d b q = s.ix d b p then _ else s.dl (s.ix d b q)) = _
    by_cases h : q = p
    · subst h; rw [if_pos rfl, if_pos rfl]
    · rw [if_neg h, if_neg (fun e => h (ix_inj hv.bb hv.bb hq hp' e).2.2)]
      exact hv.f q hq
  · intro d' b' nx er bad f z hne hw
    rw [hpr, hA]
    have hb : ((((s.ask true).prog2 d b).goes).setD (s.ix d b p) (if k = 1 then mixR onesW l m else l)).bl d' b' = s.bl d' b' := by
      show (if d' = d then (fun b' => if b' = b then _ else s.bl d b') else s.bl d') b' = _
      by_cases h : d' = d
      · rw [if_pos h]
        show (if b' = b then _ else s.bl d b') = _
        rw [if_neg (by rcases hne with h1 | h1; exact absurd h h1; exact h1), h]
      · rw [if_neg h]
    refine ⟨hw.dd, hw.bb, by rw [hb]; exact hw.nx, by rw [hb]; exact hw.er, by rw [hb]; exact hw.bad, fun q hq => ?_, hw.z⟩
    show (if s.ix d' b' q = s.ix d b p then _ else s.dl (s.ix d' b' q)) = _
    rw [if_neg (fun e => by have := ix_inj hw.bb hv.bb hq hp' e; omega)]
    exact hw.f q hq

/-! ### Erasing -/
theorem erase_dead (hc : Ctl s D B Q k m true o w) (d b : Int) : s.eraseR d b = 8 ∧ s.erase d b = s := by
  have h0 : s.askR (s.eraseOk d b) = 8 := by rw [askR_eq hc]; rfl
  have h1 : ¬ s.askR (s.eraseOk d b) = 0 := by rw [h0]; decide
  obtain ⟨e1, e2⟩ := NS.erase_no h1
  exact ⟨e2.trans h0, e1.trans (NS.ask_dead hc.dd)⟩
theorem erase_refused {d b : Int} (hc : Ctl s D B Q k m false o w) (h : s.eraseOk d b = false) : s.eraseR d b = 1 ∧ Ctl (s.erase d b) D B Q k m false o (up1 w) ∧ ∀ {d' b' nx er bad f z}, Bv s d' b' nx er bad f z → Bv (s.erase d b) d' b' nx er bad f z := by
  have h0 : s.askR (s.eraseOk d b) = 1 := by rw [askR_eq hc, h]; rfl
  have h1 : ¬ s.askR (s.eraseOk d b) = 0 := by rw [h0]; decide
  obtain ⟨e1, e2⟩ := NS.erase_no h1
  refine ⟨e2.trans h0, ?_, fun hv => ?_⟩
  · rw [e1, h]; simpa using hc.ask false
  · rw [e1]; exact hv.ask _
theorem erase_done (hc : Ctl s D B Q k m false o w) (hv : Bv s d b nx er false f z) :
    s.eraseR d b = (if k = 1 then 8 else 0) ∧ Ctl (s.erase d b) D B Q (k - 1) m (decide (k = 1)) (up1 o) w ∧ Bv (s.erase d b) d b (if k = 1 then nx else 0) (up1 er) false (fun q => if k = 1 then mixR (f q) onesW m else onesW) z ∧
    (∀ {d' b' nx er bad f z}, (d' ≠ d ∨ b' ≠ b) → Bv s d' b' nx er bad f z → Bv (s.erase d b) d' b' nx er bad f z) := by
  have hok : s.eraseOk d b = true := by rw [bv_eraseOk hv]; rfl
  have h0 : s.askR (s.eraseOk d b) = 0 := by rw [askR_eq hc, hok]; rfl
  have hg : s.goesR = decide (k = 1) := by
    unfold NS.goesR; rw [hc.st]
    by_cases h : k < 1
    · rw [if_pos h]; simp; omega
    · rw [if_neg h, decide_eq_decide]; omega
  have hA : s.eraseA d b = ((s.ask true).erase2 d b).goes := by unfold NS.eraseA; rw [hok, Int.toNat_natCast, Int.toNat_natCast]
  have ha := hc.ask true
  have hct : Ctl (((s.ask true).erase2 d b).goes) D B Q (k - 1) m (decide (k = 1)) (up1 o) w := by
    refine ⟨hc.gD, hc.gB, hc.gP, ?_, hc.mk_, ?_, ha.op, ha.wr⟩
    · show (if s.stop < 1 then s.stop else s.stop - 1) = k - 1
      rw [hc.st]; split <;> omega
    · show (if s.stop < 1 then s.dead else decide (s.stop - 1 = 0)) = decide (k = 1)
      rw [hc.st, hc.dd]
      split
      · simp; omega
      · rw [decide_eq_decide]; omega
  have hb : (((s.ask true).erase2 d b).goes).bl d b = { s.bl d b with er := up1 (s.bl d b).er } := by
    show (if d = d then (fun b' => if b' = b then _ else _) else _) b = _
    rw [if_pos rfl]
    show (if b = b then _ else _) = _
    rw [if_pos rfl]
    rfl
  have hb2 : ∀ d' b', (d' ≠ d ∨ b' ≠ b) → (((s.ask true).erase2 d b).goes).bl d' b' = s.bl d' b' := by
    intro d' b' hne
    show (if d' = d then (fun b' => if b' = b then _ else s.bl d b') else s.bl d') b' = _
    by_cases h : d' = d
    · rw [if_pos h]
      show (if b' = b then _ else s.bl d b') = _
      rw [if_neg (by rcases hne with h1 | h1; exact absurd h h1; exact h1), h]
    · rw [if_neg h]
  have hto : ∀ T q, q < s.gP → ((((s.ask true).erase2 d b).goes).eraseTo T d b s.gP).dl (s.ix d b q) = if T then mixR (f q) onesW m else onesW := by
    intro T q hq
    show (if s.ix d b 0 ≤ s.ix d b q ∧ s.ix d b q < s.ix d b 0 + s.gP then (if T then mixR (s.dl (s.ix d b q)) onesW s.mask else onesW) else _) = _
    have := NS.ix_add (s := s) d b q
    rw [if_pos (by omega), hv.f q hq, hc.mk_]
  have hto2 : ∀ T d' b' q, (d' ≠ d ∨ b' ≠ b) → b' < s.gB → q < s.gP → ((((s.ask true).erase2 d b).goes).eraseTo T d b s.gP).dl (s.ix d' b' q) = s.dl (s.ix d' b' q) := by
    intro T d' b' q hne hb' hq
    show (if s.ix d b 0 ≤ s.ix d' b' q ∧ s.ix d' b' q < s.ix d b 0 + s.gP then _ else s.dl (s.ix d' b' q)) = _
    refine if_neg (fun hh => ?_)
    have he : s.ix d' b' q = s.ix d b (s.ix d' b' q - s.ix d b 0) := by have := NS.ix_add (s := s) d b (s.ix d' b' q - s.ix d b 0); omega
    have := ix_inj hb' hv.bb hq (by omega) he
    omega
  by_cases hk : k = 1
  · have hg' : s.goesR = true := by rw [hg]; simp [hk]
    obtain ⟨e1, e2⟩ := NS.erase_torn h0 hg'
    rw [hA, Int.toNat_natCast, Int.toNat_natCast, hg'] at e1
    refine ⟨by rw [if_pos hk]; exact e2, by rw [e1]; exact ⟨hct.gD, hct.gB, hct.gP, hct.st, hct.mk_, hct.dd, hct.op, hct.wr⟩, ?_, ?_⟩
    · rw [e1, if_pos hk]
      refine ⟨hv.dd, hv.bb, ?_, ?_, ?_, fun q hq => by rw [if_pos hk]; exact hto true q hq, hv.z⟩
      · show ((((s.ask true).erase2 d b).goes).bl d b).nx = nx
        rw [hb]; exact hv.nx
      · show ((((s.ask true).erase2 d b).goes).bl d b).er = _
        rw [hb]; show up1 (s.bl d b).er = _; rw [hv.er]
      · show ((((s.ask true).erase2 d b).goes).bl d b).bad = _
        rw [hb]; exact hv.bad
    · intro d' b' nx er bad f z hne hw
      rw [e1]
      refine ⟨hw.dd, hw.bb, ?_, ?_, ?_, fun q hq => (hto2 true d' b' q hne hw.bb hq).trans (hw.f q hq), hw.z⟩
      · show ((((s.ask true).erase2 d b).goes).bl d' b').nx = _
        rw [hb2 d' b' hne]; exact hw.nx
      · show ((((s.ask true).erase2 d b).goes).bl d' b').er = _
        rw [hb2 d' b' hne]; exact hw.er
      · show ((((s.ask true).erase2 d b).goes).bl d' b').bad = _
        rw [hb2 d' b' hne]; exact hw.bad
  · have hg' : s.goesR = false := by rw [hg]; simp [hk]
    obtain ⟨e1, e2⟩ := NS.erase_yes h0 hg'
    rw [hA, Int.toNat_natCast, Int.toNat_natCast, hg'] at e1
    have hbb : (((((s.ask true).erase2 d b).goes).eraseTo false d b s.gP).erase3 d b).bl d b = { s.bl d b with er := up1 (s.bl d b).er, nx := 0 } := by
      show (if d = d then (fun b' => if b' = b then _ else _) else _) b = _
      rw [if_pos rfl]
      show (if b = b then { (((s.ask true).erase2 d b).goes).bl d b with nx := 0 } else _) = _
      rw [if_pos rfl, hb]
    have hbb2 : ∀ d' b', (d' ≠ d ∨ b' ≠ b) → (((((s.ask true).erase2 d b).goes).eraseTo false d b s.gP).erase3 d b).bl d' b' = s.bl d' b' := by
      intro d' b' hne
      show (if d' = d then (fun b' => if b' = b then _ else (((s.ask true).erase2 d b).goes).bl d b') else (((s.ask true).erase2 d b).goes).bl d') b' = _
      by_cases h : d' = d
      · rw [if_pos h]
        have hb3 : ¬ b' = b := by rcases hne with h1 | h1; exact absurd h h1; exact h1
        show (if b' = b then _ else (((s.ask true).erase2 d b).goes).bl d b') = _
        rw [if_neg hb3]
        have h4 := hb2 d' b' hne
        rw [h] at h4 ⊢
        exact h4
      · rw [if_neg h]; exact hb2 d' b' hne
    refine ⟨by rw [if_neg hk]; exact e2, by rw [e1]; exact ⟨hct.gD, hct.gB, hct.gP, hct.st, hct.mk_, hct.dd, hct.op, hct.wr⟩, ?_, ?_⟩
    · rw [e1, if_neg hk]
      refine ⟨hv.dd, hv.bb, by rw [hbb], by rw [hbb]; show up1 (s.bl d b).er = _; rw [hv.er], by rw [hbb]; exact hv.bad, fun q hq => by rw [if_neg hk]; exact hto false q hq, hv.z⟩
    · intro d' b' nx er bad f z hne hw
      rw [e1]
      refine ⟨hw.dd, hw.bb, by rw [hbb2 d' b' hne]; exact hw.nx, by rw [hbb2 d' b' hne]; exact hw.er, by rw [hbb2 d' b' hne]; exact hw.bad, fun q hq => (hto2 false d' b' q hne hw.bb hq).trans (hw.f q hq), hw.z⟩

/-! ### Noise, the power -/
theorem noise_no {d b p : Int} {ll : List Int} (h : s.pageIn d b p = false) : s.noiseR d b p = 1 ∧ s.noise d b p ll = s := by
  have h' : ¬ s.pageIn d b p = true := by rw [h]; decide
  exact ⟨if_neg h', if_neg h'⟩
theorem noise_yes {ll : List Int} (hc : Ctl s D B Q k m x o w) (hv : Bv s d b nx er bad f z) (hp : p < Q) : s.noiseR d b p = 0 ∧ Ctl (s.noise d b p ll) D B Q k m x o w ∧ Bv (s.noise d b p ll) d b nx er bad f (fun q => if q = p then ll else z q) := by
  have hp' : p < s.gP := by rw [hc.gP]; exact hp
  have h' : s.pageIn d b p = true := by rw [bv_page hv]; simp [hp']
  have e : s.noise d b p ll = s.setZ (s.ix d b p) ll := by unfold NS.noise; rw [if_pos h', Int.toNat_natCast, Int.toNat_natCast, Int.toNat_natCast]
  rw [e]
  refine ⟨if_pos h', ⟨hc.gD, hc.gB, hc.gP, hc.st, hc.mk_, hc.dd, hc.op, hc.wr⟩, hv.dd, hv.bb, hv.nx, hv.er, hv.bad, hv.f, fun q hq => ?_⟩
  show (if s.ix d b q = s.ix d b p then ll else s.nl (s.ix d b q)) = _
  by_cases h : q = p
  · subst h; rw [if_pos rfl, if_pos rfl]
  · rw [if_neg h, if_neg (fun e => h (ix_inj hv.bb hv.bb hq hp' e).2.2)]
    exact hv.z q hq
theorem Ctl.stopAt (h : Ctl s D B Q k m x o w) (k' : Nat) (m' : List UInt8) : Ctl (s.stopAt k' m') D B Q k' m' x o w := ⟨h.gD, h.gB, h.gP, Nat.max_eq_left (Nat.zero_le k'), rfl, h.dd, h.op, h.wr⟩
theorem Bv.stopAt (h : Bv s d b nx er bad f z) (k' : Nat) (m' : List UInt8) : Bv (s.stopAt k' m') d b nx er bad f z := ⟨h.dd, h.bb, h.nx, h.er, h.bad, h.f, h.z⟩
theorem Ctl.power (h : Ctl s D B Q k m x o w) : Ctl s.power D B Q 0 [] false o w := ⟨h.gD, h.gB, h.gP, rfl, rfl, rfl, h.op, h.wr⟩
theorem Bv.power (h : Bv s d b nx er bad f z) : Bv s.power d b nx er bad f z := ⟨h.dd, h.bb, h.nx, h.er, h.bad, h.f, h.z⟩
theorem Bv.to (h : Bv s d b nx er bad f z) (h1 : nx = nx') (h2 : ∀ p, p < s.gP → f p = f' p) (h3 : ∀ p, p < s.gP → z p = z' p) : Bv s d b nx' er bad f' z' := ⟨h.dd, h.bb, h.nx.trans h1, h.er, h.bad, fun p hp => (h.f p hp).trans (h2 p hp), fun p hp => (h.z p hp).trans (h3 p hp)⟩
end
/-! ### Blocks that are bad -/
structure NewI (s : NS) (D B Q : Nat) (l : List (Nat × Nat)) : Prop where
  c : Ctl s D B Q 0 [] false 0 0
  v : ∀ d b, d < D → b < B → Bv s d b 0 0 (decide ((d, b) ∈ l)) (fun _ => onesW) (fun _ => [])
section
variable {s : NS} {D B Q : Nat} {l : List (Nat × Nat)}
theorem newI_nil (D B Q : Nat) : NewI (NS.new D B Q fun _ _ => false) D B Q [] := ⟨ctl_new D B Q _, fun d b hd hb => by
  have := bv_new (Q := Q) (g := fun _ _ => false) hd hb
  simpa using this⟩
theorem newI_step {i : Nat} (h : NewI s D B Q (l.take i)) (hi : i < l.length) (h1 : (l.getD i (0, 0)).1 < D) (h2 : (l.getD i (0, 0)).2 < B) :
    NewI (s.setB (l.getD i (0, 0)).1 (l.getD i (0, 0)).2 { s.bl (l.getD i (0, 0)).1 (l.getD i (0, 0)).2 with bad := true }) D B Q (l.take (i + 1)) := by
  have ht : l.take (i + 1) = l.take i ++ [l.getD i (0, 0)] := by
    rw [List.getD_eq_getElem?_getD, List.getElem?_eq_getElem hi, List.take_add_one, List.getElem?_eq_getElem hi]
    rfl
  generalize l.getD i (0, 0) = x at *
  refine ⟨⟨h.c.gD, h.c.gB, h.c.gP, h.c.st, h.c.mk_, h.c.dd, h.c.op, h.c.wr⟩, fun d b hd hb => ?_⟩
  obtain ⟨a1, a2, a3, a4, a5, a6, a7⟩ := h.v d b hd hb
  by_cases e : d = x.1 ∧ b = x.2
  · have hbl : (s.setB x.1 x.2 { s.bl x.1 x.2 with bad := true }).bl d b = { s.bl d b with bad := true } := by
      show (if d = x.1 then (fun b' => if b' = x.2 then _ else _) else _) b = _
      rw [if_pos e.1]
      show (if b = x.2 then _ else _) = _
      rw [if_pos e.2, ← e.1, ← e.2]
    have hm : (d, b) ∈ l.take (i + 1) := by rw [ht, e.1, e.2]; exact List.mem_append_right _ (List.mem_singleton.2 rfl)
    exact ⟨a1, a2, by rw [hbl]; exact a3, by rw [hbl]; exact a4, by rw [hbl]; simp [hm], a6, a7⟩
  · have hbl : (s.setB x.1 x.2 { s.bl x.1 x.2 with bad := true }).bl d b = s.bl d b := by
      show (if d = x.1 then (fun b' => if b' = x.2 then _ else s.bl x.1 b') else s.bl d) b = _
      by_cases e1 : d = x.1
      · rw [if_pos e1]
        show (if b = x.2 then _ else s.bl x.1 b) = _
        rw [if_neg (fun e2 => e ⟨e1, e2⟩), e1]
      · rw [if_neg e1]
    have hm : decide ((d, b) ∈ l.take (i + 1)) = decide ((d, b) ∈ l.take i) := by
      rw [decide_eq_decide, ht, List.mem_append, List.mem_singleton]
      constructor
      · rintro (h | h)
        · exact h
        · exact absurd ⟨congrArg Prod.fst h, congrArg Prod.snd h⟩ e
      · exact .inl
    exact ⟨a1, a2, by rw [hbl]; exact a3, by rw [hbl]; exact a4, by rw [hbl, hm]; exact a5, a6, a7⟩
theorem newI_there {d b : Nat} (h : NewI s D B Q l) (h1 : d < D) (h2 : b < B) : s.there (d : Int) (b : Int) = true := there_eq d b (by rw [h.c.gD]; exact h1) (by rw [h.c.gB]; exact h2)
end
end Go.Proofs.YtpamdlnobekihaaF
