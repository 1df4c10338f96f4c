/- Part of the proof of the law RowioOrder, for all its inputs. -/
import Derived.Test.YtgalehapmdabeaaKRowioOrder5
set_option linter.unusedVariables false
set_option linter.unusedSimpArgs false
namespace Go.Proofs.YtgalehapmdabeaaF
open Go Shelf YtgalehapmdabeaaS Ram
structure RowV (s : NS) (D B Q k : Nat) (m : List UInt8) (x : Bool) (o w : Int) (c nx : Nat → Nat) (f : Nat → Nat → List UInt8) (z : Nat → Nat → List Int) : Prop where
 ct : Ctl s D B Q k m x o w
 v : ∀ d, d < D → ∃ er, Bv s d (c d) (nx d) er false (f d) (z d)
def upn : Nat → Int → Int
 | 0, o => o
 | i + 1, o => up1 (upn i o)
section
variable {s : NS} {D B Q k d p : Nat} {m : List UInt8} {x : Bool} {o w : Int} {c nx nx' : Nat → Nat} {f f' : Nat → Nat → List UInt8} {z z' : Nat → Nat → List Int} {l : List UInt8}
theorem RowV.to (h : RowV s D B Q k m x o w c nx f z) (h1 : ∀ d, d < D → nx d = nx' d) (h2 : ∀ d q, d < D → q < Q → f d q = f' d q) (h3 : ∀ d q, d < D → q < Q → z d q = z' d q) : RowV s D B Q k m x o w c nx' f' z' := ⟨h.ct, fun d hd => by
 obtain ⟨er, hv⟩ := h.v d hd
 exact ⟨er, hv.to (h1 d hd) (fun q hq => h2 d q hd (by rw [h.ct.gP] at hq; exact hq)) (fun q hq => h3 d q hd (by rw [h.ct.gP] at hq; exact hq))⟩⟩
theorem rv_to {s' : NS} (h : RowV s D B Q k m x o w c nx f z) (e : s = s') : RowV s' D B Q k m x o w c nx f z := e ▸ h
theorem rv_new {g : Nat → Nat → Bool} (hg : g = fun _ _ => false) (hc : ∀ d, d < D → c d < B) : RowV (NS.new D B Q g) D B Q 0 [] false 0 0 c (fun _ => 0) (fun _ _ => onesW) (fun _ _ => []) := by
 subst hg
 exact ⟨ctl_new D B Q _, fun d hd => ⟨0, bv_new hd (hc d hd)⟩⟩
theorem rv_prog (h : RowV s D B Q k m false o w c nx f z) (hd : d < D) (hp : p < Q) (hl : l.length = 60) (e : nx d = p) : s.progR d (c d) p l = (if k = 1 then 8 else 0) ∧
  RowV (s.prog d (c d) p l) D B Q (k - 1) m (decide (k = 1)) (up1 o) w c (fun j => if j = d then p + 1 else nx j) (fun j q => if j = d ∧ q = p then (if k = 1 then mixR onesW l m else l) else f j q) z := by
 obtain ⟨er, hv⟩ := h.v d hd
 obtain ⟨h1, h2, h3, h4⟩ := prog_done h.ct hv hp hl e
 refine ⟨h1, h2, fun j hj => ?_⟩
 by_cases ej : j = d
 ·subst ej
  refine ⟨er, Bv.to (nx' := if j = j then p + 1 else nx j) (f' := fun q => if j = j ∧ q = p then (if k = 1 then mixR onesW l m else l) else f j q) h3 (by rw [if_pos rfl, e]) (fun q _ => ?_) (fun _ _ => rfl)⟩
  by_cases eq : q = p
  ·rw [if_pos eq]
   exact (if_pos (show j = j ∧ q = p from ⟨rfl, eq⟩)).symm
  ·rw [if_neg eq, if_neg (fun h => eq h.2)]
 ·obtain ⟨er2, hv2⟩ := h.v j hj
  exact ⟨er2, Bv.to (nx' := if j = d then p + 1 else nx j) (f' := fun q => if j = d ∧ q = p then (if k = 1 then mixR onesW l m else l) else f j q) (h4 (.inl ej) hv2) (if_neg ej).symm (fun q _ => (if_neg (fun h => ej h.1)).symm) (fun _ _ => rfl)⟩
theorem rv_prog_no (h : RowV s D B Q k m false o w c nx f z) (hd : d < D) (hn : ¬ (nx d = p ∧ p < Q)) (l : List UInt8) : s.progR d (c d) p l = 1 ∧ RowV (s.prog d (c d) p l) D B Q k m false o (up1 w) c nx f z := by
 obtain ⟨er, hv⟩ := h.v d hd
 have hok : s.progOk d (c d) p l = false := by
  rw [bv_progOk hv, h.ct.gP]
  by_cases h1 : p < Q
  ·have : ¬ nx d = p := fun e => hn ⟨e, h1⟩
   simp [this]
  ·simp [h1]
 obtain ⟨h1, h2, h3⟩ := prog_refused h.ct hok
 exact ⟨h1, h2, fun j hj => by obtain ⟨er2, hv2⟩ := h.v j hj; exact ⟨er2, h3 hv2⟩⟩
theorem rv_read (h : RowV s D B Q k m false o w c nx f z) (hd : d < D) (hp : p < Q) : s.askR (s.readOk d (c d) p) = 0 ∧ s.readL d (c d) p = flipI (f d p) (z d p) ∧ RowV (s.ask (s.readOk d (c d) p)) D B Q k m false (up1 o) w c nx f z := by
 obtain ⟨er, hv⟩ := h.v d hd
 obtain ⟨h1, h2⟩ := readL_eq h.ct hv hp
 exact ⟨h2, h1, read_ctl h.ct hv hp, fun j hj => by obtain ⟨er2, hv2⟩ := h.v j hj; exact ⟨er2, hv2.ask _⟩⟩
theorem rv_erase (h : RowV s D B Q 0 m false o w c nx f z) (hd : d < D) : s.eraseR d (c d) = 0 ∧ RowV (s.erase d (c d)) D B Q 0 m false (up1 o) w c (fun j => if j = d then 0 else nx j) (fun j q => if j = d then onesW else f j q) z := by
 obtain ⟨er, hv⟩ := h.v d hd
 obtain ⟨h1, h2, h3, h4⟩ := erase_done h.ct hv
 refine ⟨h1, h2, fun j hj => ?_⟩
 by_cases ej : j = d
 ·subst ej
  exact ⟨_, Bv.to (nx' := if j = j then 0 else nx j) (f' := fun q => if j = j then onesW else f j q) h3 (by rw [if_pos rfl, if_neg (by decide)]) (fun q _ => by rw [if_pos rfl, if_neg (by decide)]) (fun _ _ => rfl)⟩
 ·obtain ⟨er2, hv2⟩ := h.v j hj
  exact ⟨er2, Bv.to (nx' := if j = d then 0 else nx j) (f' := fun q => if j = d then onesW else f j q) (h4 (.inl ej) hv2) (if_neg ej).symm (fun q _ => (if_neg ej).symm) (fun _ _ => rfl)⟩
end
section
variable {s : NS} {D B Q p i : Nat} {m : List UInt8} {o w : Int} {c nx : Nat → Nat} {f : Nat → Nat → List UInt8} {z : Nat → Nat → List Int} {bl : List Int} {pl : Nat → List UInt8}
theorem rowP_ok (h : RowV s D B Q 0 m false o w c nx f z) (hbl : ∀ d, d < D → bl.getD d 0 = ((c d : Nat) : Int)) (hp : p < Q) (hpl : ∀ d, d < D → (pl d).length = 48) (hnx : ∀ d, d < D → nx d = p) : ∀ i, i ≤ D →
  RowV (rowP bl p pl s i) D B Q 0 m false (upn i o) w c (fun j => if j < i then p + 1 else nx j) (fun j q => if j < i ∧ q = p then pgE (pl j) else f j q) z ∧ ∀ j, j < i → rowPC bl p pl s j = 0
 | 0, _ => ⟨h.to (fun d _ => (if_neg (Nat.not_lt_zero d)).symm) (fun d q _ _ => (if_neg (fun h => Nat.not_lt_zero d h.1)).symm) (fun _ _ _ _ => rfl), fun j hj => absurd hj (Nat.not_lt_zero j)⟩
 | i + 1, hi => by
  obtain ⟨h1, h2⟩ := rowP_ok h hbl hp hpl hnx i (by omega)
  have e : (if i < i then p + 1 else nx i) = p := by rw [if_neg (by omega)]; exact hnx i (by omega)
  obtain ⟨h3, h4⟩ := rv_prog h1 (show i < D by omega) hp (pgE_length (hpl i (by omega))) e
  have hb := hbl i (by omega)
  refine ⟨?_, fun j hj => ?_⟩
  ·show RowV ((rowP bl p pl s i).prog (i : Nat) (bl.getD i 0) p (pgE (pl i))) _ _ _ _ _ _ _ _ _ _ _ _
   rw [hb]
   refine h4.to (fun d _ => ?_) (fun d q _ _ => ?_) (fun _ _ _ _ => rfl)
   ·by_cases e1 : d = i
    ·rw [if_pos e1, if_pos (by omega)]
    ·rw [if_neg e1]
     by_cases e2 : d < i
     ·rw [if_pos e2, if_pos (by omega)]
     ·rw [if_neg e2, if_neg (by omega)]
   ·by_cases e1 : d = i ∧ q = p
    ·rw [if_pos e1, if_neg (by decide), if_pos (by omega), e1.1]
    ·rw [if_neg e1]
     by_cases e2 : d < i ∧ q = p
     ·rw [if_pos e2, if_pos (by omega)]
     ·rw [if_neg e2, if_neg (by omega)]
  ·rcases Nat.lt_succ_iff_lt_or_eq.1 hj with hj | hj
   ·exact h2 j hj
   ·subst hj
    show (rowP bl p pl s j).progR (j : Nat) (bl.getD j 0) p (pgE (pl j)) = 0
    rw [hb]
    exact h3
theorem rowP_no (h : RowV s D B Q 0 m false o w c nx f z) (hbl : ∀ d, d < D → bl.getD d 0 = ((c d : Nat) : Int)) (hD : 0 < D) (hn : ¬ (nx 0 = p ∧ p < Q)) : rowPC bl p pl s 0 = 1 ∧ RowV (rowP bl p pl s 1) D B Q 0 m false o (up1 w) c nx f z := by
 have hb := hbl 0 hD
 have h1 := rv_prog_no h hD hn (pgE (pl 0))
 show s.progR ((0 : Nat) : Int) (bl.getD 0 0) p (pgE (pl 0)) = 1 ∧ RowV (s.prog ((0 : Nat) : Int) (bl.getD 0 0) p (pgE (pl 0))) _ _ _ _ _ _ _ _ _ _ _ _
 rw [hb]
 exact h1
theorem rowR_ok (h : RowV s D B Q 0 m false o w c nx f z) (hbl : ∀ d, d < D → bl.getD d 0 = ((c d : Nat) : Int)) (hp : p < Q) : ∀ i, i ≤ D →
  RowV (rowR bl p s i) D B Q 0 m false (upn i o) w c nx f z ∧ ∀ j, j < i → rowRC bl p s j = 0 ∧ rowRL bl p s j = flipI (f j p) (z j p)
 | 0, _ => ⟨h, fun j hj => absurd hj (Nat.not_lt_zero j)⟩
 | i + 1, hi => by
  obtain ⟨h1, h2⟩ := rowR_ok h hbl hp i (by omega)
  obtain ⟨h3, h4, h5⟩ := rv_read h1 (show i < D by omega) hp
  have hb := hbl i (by omega)
  refine ⟨?_, fun j hj => ?_⟩
  ·show RowV ((rowR bl p s i).ask ((rowR bl p s i).readOk (i : Nat) (bl.getD i 0) p)) _ _ _ _ _ _ _ _ _ _ _ _
   rw [hb]
   exact h5
  ·rcases Nat.lt_succ_iff_lt_or_eq.1 hj with hj | hj
   ·exact h2 j hj
   ·subst hj
    show (rowR bl p s j).askR ((rowR bl p s j).readOk (j : Nat) (bl.getD j 0) p) = 0 ∧ (rowR bl p s j).readL (j : Nat) (bl.getD j 0) p = _
    rw [hb]
    exact ⟨h3, h4⟩
theorem rowE_ok (h : RowV s D B Q 0 m false o w c nx f z) (hbl : ∀ d, d < D → bl.getD d 0 = ((c d : Nat) : Int)) : ∀ i, i ≤ D →
  RowV (rowE bl s i) D B Q 0 m false (upn i o) w c (fun j => if j < i then 0 else nx j) (fun j q => if j < i then onesW else f j q) z ∧ ∀ j, j < i → rowEC bl s j = 0
 | 0, _ => ⟨h.to (fun d _ => (if_neg (Nat.not_lt_zero d)).symm) (fun d q _ _ => (if_neg (Nat.not_lt_zero d)).symm) (fun _ _ _ _ => rfl), fun j hj => absurd hj (Nat.not_lt_zero j)⟩
 | i + 1, hi => by
  obtain ⟨h1, h2⟩ := rowE_ok h hbl i (by omega)
  obtain ⟨h3, h4⟩ := rv_erase h1 (show i < D by omega)
  have hb := hbl i (by omega)
  refine ⟨?_, fun j hj => ?_⟩
  ·show RowV ((rowE bl s i).erase (i : Nat) (bl.getD i 0)) _ _ _ _ _ _ _ _ _ _ _ _
   rw [hb]
   refine h4.to (fun d _ => ?_) (fun d q _ _ => ?_) (fun _ _ _ _ => rfl)
   ·by_cases e1 : d = i
    ·rw [if_pos e1, if_pos (by omega)]
    ·rw [if_neg e1]
     by_cases e2 : d < i
     ·rw [if_pos e2, if_pos (by omega)]
     ·rw [if_neg e2, if_neg (by omega)]
   ·by_cases e1 : d = i
    ·rw [if_pos e1, if_pos (by omega)]
    ·rw [if_neg e1]
     by_cases e2 : d < i
     ·rw [if_pos e2, if_pos (by omega)]
     ·rw [if_neg e2, if_neg (by omega)]
  ·rcases Nat.lt_succ_iff_lt_or_eq.1 hj with hj | hj
   ·exact h2 j hj
   ·subst hj
    show (rowE bl s j).eraseR (j : Nat) (bl.getD j 0) = 0
    rw [hb]
    exact h3
theorem write_ok (h : RowV s D B Q 0 m false o w c nx f z) (hn : bl.length = D) (hbl : ∀ d, d < D → bl.getD d 0 = ((c d : Nat) : Int)) (hp : p < Q) (hpl : ∀ d, d < D → (pl d).length = 48) (hnx : ∀ d, d < D → nx d = p) :
  rowWC s bl p pl D = 0 ∧ RowV (rowWS s bl p pl D) D B Q 0 m false (upn D o) w c (fun _ => p + 1) (fun j q => if q = p then pgE (pl j) else f j q) z := by
 obtain ⟨h1, h2⟩ := rowP_ok h hbl hp hpl hnx D (Nat.le_refl _)
 obtain ⟨e1, e2⟩ := do_all (g := s.gD) (n := bl.length) (T := rowP bl p pl s) (C := rowPC bl p pl s) (by rw [hn, h.ct.gD]) (by rw [hn]; exact h2)
 unfold rowWC rowWS
 rw [if_pos hn.symm, if_pos hn.symm, ← e1, ← e2, hn]
 exact ⟨rfl, h1.to (fun d hd => if_pos hd) (fun d q hd _ => by
  by_cases e : q = p
  ·rw [if_pos ⟨hd, e⟩, if_pos e]
  ·rw [if_neg (fun h => e h.2), if_neg e]) (fun _ _ _ _ => rfl)⟩
theorem write_shape {n : Nat} (h : ¬ (n = bl.length ∧ bl.length = s.gD)) (p : Int) (pl : Nat → List UInt8) : rowWC s bl p pl n = 1 ∧ rowWS s bl p pl n = s := by
 unfold rowWC rowWS
 by_cases e : n = bl.length
 ·have hD : ¬ bl.length = s.gD := fun e2 => h ⟨e, e2⟩
  obtain ⟨e1, e2⟩ := do_no (T := rowP bl p pl s) (C := rowPC bl p pl s) hD
  rw [if_pos e, if_pos e, ← e1, ← e2]
  exact ⟨rfl, rfl⟩
 ·rw [if_neg e, if_neg e]
  exact ⟨rfl, rfl⟩
theorem write_no (h : RowV s D B Q 0 m false o w c nx f z) (hn : bl.length = D) (hbl : ∀ d, d < D → bl.getD d 0 = ((c d : Nat) : Int)) (hD : 0 < D) (hx : ¬ (nx 0 = p ∧ p < Q)) : rowWC s bl p pl D = 1 ∧ RowV (rowWS s bl p pl D) D B Q 0 m false o (up1 w) c nx f z := by
 obtain ⟨h1, h2⟩ := rowP_no (pl := pl) h hbl hD hx
 obtain ⟨e1, e2⟩ := do_one (g := s.gD) (n := bl.length) (k := 0) (T := rowP bl p pl s) (C := rowPC bl p pl s) (by rw [hn, h.ct.gD]) (fun j hj => absurd hj (Nat.not_lt_zero j)) (by rw [h1]; decide) (by omega)
 unfold rowWC rowWS
 rw [if_pos hn.symm, if_pos hn.symm, ← e1, ← e2]
 exact ⟨h1, h2⟩
theorem reads_ok (h : RowV s D B Q 0 m false o w c nx f z) (hn : bl.length = D) (hbl : ∀ d, d < D → bl.getD d 0 = ((c d : Nat) : Int)) (hp : p < Q) :
  rowDoC s.gD bl.length (rowRC bl p s) = 0 ∧ RowV (rowDo s.gD bl.length (rowR bl p s) (rowRC bl p s)) D B Q 0 m false (upn D o) w c nx f z ∧ ∀ j, j < D → rowRL bl p s j = flipI (f j p) (z j p) := by
 obtain ⟨h1, h2⟩ := rowR_ok h hbl hp D (Nat.le_refl _)
 obtain ⟨e1, e2⟩ := do_all (g := s.gD) (n := bl.length) (T := rowR bl p s) (C := rowRC bl p s) (by rw [hn, h.ct.gD]) (by rw [hn]; exact fun j hj => (h2 j hj).1)
 rw [← e1, ← e2, hn]
 exact ⟨rfl, h1, fun j hj => (h2 j hj).2⟩
theorem erases_ok (h : RowV s D B Q 0 m false o w c nx f z) (hn : bl.length = D) (hbl : ∀ d, d < D → bl.getD d 0 = ((c d : Nat) : Int)) :
  rowDoC s.gD bl.length (rowEC bl s) = 0 ∧ RowV (rowDo s.gD bl.length (rowE bl s) (rowEC bl s)) D B Q 0 m false (upn D o) w c (fun _ => 0) (fun _ _ => onesW) z := by
 obtain ⟨h1, h2⟩ := rowE_ok h hbl D (Nat.le_refl _)
 obtain ⟨e1, e2⟩ := do_all (g := s.gD) (n := bl.length) (T := rowE bl s) (C := rowEC bl s) (by rw [hn, h.ct.gD]) (by rw [hn]; exact h2)
 rw [← e1, ← e2, hn]
 exact ⟨rfl, h1.to (fun d hd => if_pos hd) (fun d q hd _ => if_pos hd) (fun _ _ _ _ => rfl)⟩
end
def plD (la : List UInt8) (n i : Nat) : List UInt8 := ((dataL la (48 * n)).drop (48 * i)).take 48
theorem plD_len (la : List UInt8) {n i : Nat} (h : i < n) : (plD la n i).length = 48 := by
 unfold plD
 rw [List.length_take, List.length_drop, dataL_length]
 omega
theorem plD_le (la : List UInt8) (n i : Nat) : (plD la n i).length ≤ 1048576 := by
 unfold plD
 rw [List.length_take]
 omega
theorem rep_at {n i : Nat} : (List.replicate n (0 : Int)).getD i 0 = 0 := by
 rw [List.getD_eq_getElem?_getD, List.getElem?_replicate]
 split <;> rfl
theorem pgD_ones : pgD onesW = (0, []) := pgD_blank (by decide) (by decide)
theorem pgD_pgE {d : List UInt8} (hd : d.length = 48) : pgD (pgE d) = (2, d) := by
 have h := pg_mark hd (m := (pgE d).take 4) (by rw [pgE_mark hd]; rfl)
 rw [List.take_append_drop, pgE_mark hd] at h
 rw [h, if_neg (by decide)]
theorem flipI_none (l : List UInt8) : flipI l [] = l := rfl
theorem wpL.cut {r : Option Nat} {P : Program} {ops : Array Oper} {Q : Exit → Act → World → Prop} {os : List Oper} {l : List Value} {ds : List Deferred} {w : World} {b : Bool} {shape : Bool → (Nat → Value) → List Value}
  (h : ∀ Q' : Exit → Act → World → Prop, (∀ l', l' = shape b (nth l') → Q' .normal (fr l' ds) w) → wpL r P ops Q' os l ds w) (hk : ∀ z, Q .normal (fr (shape b z) ds) w) : wpL r P ops Q os l ds w :=
 h Q fun l' hl => by rw [hl]; exact hk _
section
variable {P : Program} {d : Option Tmp} {tt : TypeId} {s : String} {af : Array Edge} {g : Option (Nat × Bool)} {ρ : Operand → Value} {w : World} {t : TypeId} {fs : Array Field} {f : Nat} {fd : Field} {bytes : Nat} {z u : Value} {x : Operand} {v : Nat × Value} {X : Nat → Prop}
theorem d_fieldG (n : Nat) (ht : P.underlying t = some (.struct fs)) (hf : fs[f]? = some fd) (hz : TI P fd.type 1 bytes z) (ho : fd.offset = n) (hx : ρ x = u) (hA : Ps X (At (kA 2 eG) v u) w) (c : Value) (hv : (eG v)[n]? = some c) :
  Does P ⟨d, .fieldAddr t x f, tt, s, af, g⟩ ρ w fun u' w' => Ps X (At (kS id) c u') w ∧ w = w' := by
 obtain ⟨p, hu, _, hc⟩ := hA.now
 refine Does.of_value (v := .pointer (some (p.add n))) (w' := w) (by simp) ?_ ⟨?_, rfl⟩
 ·subst hu; subst ho
  simp [execOp, Instr.fieldAt, Instr.sureAddr, fieldPlace, run_underlying ht, hf, hx, hz.size, go_sem]
 ·refine hA.imp (fun w2 h2 => ?_)
  obtain ⟨p', hu', _, hc'⟩ := h2
  rw [hu] at hu'
  injection hu' with hu'
  injection hu' with hu'
  subst hu'
  exact ⟨_, rfl, hc' _ _ hv⟩
theorem d_fieldG0 (ht : P.underlying t = some (.struct fs)) (hf : fs[f]? = some fd) (hz : TI P fd.type 1 bytes z) (ho : fd.offset = 0) (hx : ρ x = u) (hA : Ps X (At (kA 2 eG) v u) w) : Does P ⟨d, .fieldAddr t x f, tt, s, af, g⟩ ρ w fun u' w' => Ps X (At kN v.1 u') w ∧ w = w' :=
 d_fieldG 0 ht hf hz ho hx hA (eN v.1) rfl
theorem d_fieldG1 (ht : P.underlying t = some (.struct fs)) (hf : fs[f]? = some fd) (hz : TI P fd.type 1 bytes z) (ho : fd.offset = 1) (hx : ρ x = u) (hA : Ps X (At (kA 2 eG) v u) w) : Does P ⟨d, .fieldAddr t x f, tt, s, af, g⟩ ρ w fun u' w' => Ps X (At (kS eV) v.2 u') w ∧ w = w' :=
 d_fieldG 1 ht hf hz ho hx hA v.2 rfl
end
def RF.isv (O : Nat → Prop) (g : (Nat → Value) → Value) : RF O := ⟨fun v u _ _ _ => u = g v, fun h _ => h⟩
def RF.pl (O X : Nat → Prop) (n : Nat) (f : Nat → List UInt8) (hOX : ∀ k, O k → X k) : RF O :=
 ⟨fun _ u _ _ w => ∃ vs, vs.length = n ∧ Ps X (Seq (kS eV) vs u) w ∧ Ps X (Fam kB n f vs) w, fun hp ho => by obtain ⟨vs, h1, h2, h3⟩ := hp; exact ⟨vs, h1, h2.step ho hOX, h3.step ho hOX⟩⟩
def bl6 : List Int := [0, 1, 2, 3, 4, 5]
theorem bl6_at : ∀ d, d < 6 → ([0, 1, 2, 3, 4, 5] : List Int).getD d 0 = (d : Int) := by decide
def OrdR (s : NS) (nx wr : Nat) (lb : List UInt8) : Prop := ∃ o, RowV s 6 8 4 0 [] false o (wr : Int) (fun d => d) (fun _ => nx) (fun j q => if q < nx then pgE (plD lb 6 j) else onesW) (fun _ _ => [])
section
variable {s : NS} {nx wr p : Nat} {lb : List UInt8}
theorem ordR_to {s' : NS} (h : OrdR s nx wr lb) (e : s = s') : OrdR s' nx wr lb := e ▸ h
theorem ordR_new (lb : List UInt8) : OrdR (NS.new 6 8 4 fun _ _ => false) 0 0 lb := ⟨0, (rv_new (g := fun _ _ => false) rfl (c := fun d => d) (fun d hd => by omega)).to (fun _ _ => rfl) (fun d q _ _ => (if_neg (Nat.not_lt_zero q)).symm) (fun _ _ _ _ => rfl)⟩
theorem ordR_erase (h : OrdR s nx wr lb) : rowDoC s.gD [(0 : Int), 1, 2, 3, 4, 5].length (rowEC [0, 1, 2, 3, 4, 5] s) = 0 ∧ OrdR (rowDo s.gD [(0 : Int), 1, 2, 3, 4, 5].length (rowE [0, 1, 2, 3, 4, 5] s) (rowEC [0, 1, 2, 3, 4, 5] s)) 0 wr lb := by
 obtain ⟨o, h⟩ := h
 obtain ⟨h1, h2⟩ := erases_ok h rfl bl6_at
 exact ⟨h1, _, h2.to (fun _ _ => rfl) (fun d q _ _ => (if_neg (Nat.not_lt_zero q)).symm) (fun _ _ _ _ => rfl)⟩
theorem ordR_yes (h : OrdR s nx wr lb) (e : p = nx) (h4 : p < 4) : rowWC s [0, 1, 2, 3, 4, 5] (p : Int) (plD lb 6) 6 = 0 ∧ OrdR (rowWS s [0, 1, 2, 3, 4, 5] (p : Int) (plD lb 6) 6) (nx + 1) wr lb := by
 obtain ⟨o, h⟩ := h
 obtain ⟨h1, h2⟩ := write_ok (bl := [0, 1, 2, 3, 4, 5]) (pl := plD lb 6) h rfl bl6_at h4 (fun d hd => plD_len lb hd) (fun _ _ => e.symm)
 refine ⟨h1, _, h2.to (fun _ _ => by rw [e]) (fun d q _ _ => ?_) (fun _ _ _ _ => rfl)⟩
 show (if q = p then pgE (plD lb 6 d) else if q < nx then pgE (plD lb 6 d) else onesW) = if q < nx + 1 then pgE (plD lb 6 d) else onesW
 by_cases hq : q = p
 ·rw [if_pos hq, if_pos (by omega)]
 ·rw [if_neg hq]
  by_cases h5 : q < nx
  ·rw [if_pos h5, if_pos (by omega)]
  ·rw [if_neg h5, if_neg (by omega)]
theorem ordR_no (h : OrdR s nx wr lb) (hn : ¬ (p = nx ∧ p < 4)) (hw : wr < 1000) : rowWC s [0, 1, 2, 3, 4, 5] (p : Int) (plD lb 6) 6 = 1 ∧ OrdR (rowWS s [0, 1, 2, 3, 4, 5] (p : Int) (plD lb 6) 6) nx (wr + 1) lb := by
 obtain ⟨o, h⟩ := h
 obtain ⟨h1, h2⟩ := write_no (bl := [0, 1, 2, 3, 4, 5]) (pl := plD lb 6) h rfl bl6_at (by decide) (p := p) (fun h3 => hn ⟨h3.1.symm, h3.2⟩)
 refine ⟨h1, o, ?_⟩
 have e : up1 (wr : Int) = ((wr + 1 : Nat) : Int) := by
  unfold up1
  rw [IntWalk.i64_in _ (by omega)]
  omega
 rw [e] at h2
 exact h2
theorem ordR_read (h : OrdR s nx wr lb) (h4 : p < 4) : rowDoC s.gD [(0 : Int), 1, 2, 3, 4, 5].length (rowRC [0, 1, 2, 3, 4, 5] (p : Int) s) = 0 ∧ OrdR (rowDo s.gD [(0 : Int), 1, 2, 3, 4, 5].length (rowR [0, 1, 2, 3, 4, 5] (p : Int) s) (rowRC [0, 1, 2, 3, 4, 5] (p : Int) s)) nx wr lb ∧
  ∀ j, j < 6 → pgD (rowRL [0, 1, 2, 3, 4, 5] (p : Int) s j) = if p < nx then (2, plD lb 6 j) else (0, []) := by
 obtain ⟨o, h⟩ := h
 obtain ⟨h1, h2, h3⟩ := reads_ok (bl := [0, 1, 2, 3, 4, 5]) h rfl bl6_at h4
 refine ⟨h1, ⟨_, h2⟩, fun j hj => ?_⟩
 rw [h3 j hj, flipI_none]
 show pgD (if p < nx then pgE (plD lb 6 j) else onesW) = _
 by_cases e : p < nx
 ·rw [if_pos e, if_pos e, pgD_pgE (plD_len lb hj)]
 ·rw [if_neg e, if_neg e, pgD_ones]
theorem ordR_wrong (h : OrdR s nx wr lb) : s.wrong = (wr : Int) := by obtain ⟨o, h⟩ := h; exact h.ct.wr
end
end Go.Proofs.YtgalehapmdabeaaF
namespace Go.Proofs.YtgalehapmdabeaaF
open Go Shelf YtgalehapmdabeaaS
def Nodef (p : World → Prop) : Prop := ∀ w w', (∀ k, k < w.heap.size → w'.heap[k]? = w.heap[k]? ∨ ∃ q, w.heap[k]? = some (.deferred q)) → p w → p w'
end Go.Proofs.YtgalehapmdabeaaF
set_option maxRecDepth 20000
set_option maxHeartbeats 4000000
namespace Go.Proofs.YtgalehapmdabeaaF
open Go Shelf YtgalehapmdabeaaS Ram
theorem placed_ok (bl : List Int) (ub : Value) (W : World) (hb : Ps No (Seq kI bl ub) W) :
    CW Try.prog 85 #[ub] W (Rt (fun u w => ∃ x, u = .func (.func 106) #[] #[ptr x 0] ∧ W.heap.size ≤ x ∧ Arr 23 x [ub] w ∧ Only No W w)) := by
 have oW : Only No W W := Only.refl _ _
 refine enter (al := [ub]) (k := 3) (l := [ub, undef, undef, undef]) Try.func85 rfl Try.ntmps85 rfl rfl ?_
 refine wQ (pL ?_)
 refine wO (d_box rfl (Seq.cells hb)) ?_
 rintro _ w11 ⟨x, rfl, g12, a13, o14⟩
 have g_oW_x : W.heap.size ≤ x := Nat.le_trans oW.size g12
 replace hb := hb.new o14 g12
 replace oW := oW.tail0 o14
 refine wI (d_assign rfl) ?_
 refine wD (tN (wQ (pL ?_)))
 refine wI (d_funcL (yl := [.tmp 1]) (ys := [(ptr x 0)]) rfl) ?_
 refine wI (d_assign rfl) ?_
 refine wD (tN ?_)
 refine wpIn_ret ?_
 refine leave0 (v := (Value.func (.func 106) #[] #[(ptr x 0)])) (res1 Try.results85 rfl) ?_
 exact ⟨x, rfl, g_oW_x, a13, oW⟩
theorem placed1_ok {O X : Nat → Prop} {w0 : World} (bl : List Int) (ub : Value) (xb l : Nat) (J Jx : List (Nat × Int) → World → Prop) (W : World) (hxb : Arr 23 xb [ub] W) (kxb : Kp O w0.heap.size xb) (hbl : Ps (OrN X w0.heap.size) (Seq kI bl ub) W) (hX : ∀ k, O k → X k) (gb : bl.length ≤ 1000) (SJ : ∀ pre W W', J pre W → Only No W W' → J pre W') (hyy : ∀ pre k, pre ++ [k] <+: plL bl → ∀ W1, J pre W1 → YieldAt Fence.wide 0 Try.prog l #[eN k.1, eI k.2] W1 fun e W' => ∃ u, e = .returned u ∧ YR J Jx (Kp O w0.heap.size) (pre ++ [k]) W1 u W') (hJ : J [] W) :
    CW Try.prog 106 #[(Value.func (.yield l) #[] #[]), (ptr xb 0)] W (Rt (fun _ W' => J (plL bl) W' ∨ ∃ pre, pre <+: plL bl ∧ Jx pre W')) := by
 refine enter (al := [(Value.func (.yield l) #[] #[]), (ptr xb 0)]) (k := 16) (l := ([(Value.func (.yield l) #[] #[]), (ptr xb 0)] ++ (us 16))) Try.func106 rfl Try.ntmps106 rfl rfl ?_
 refine wQ (pL ?_)
 refine wI (d_load (v := ub) ⟨_, Try.underlying23, rfl⟩ rfl hxb rfl) ?_
 refine wI (d_lenS rfl Try.underlying23 rfl hbl) ?_
 refine wI (d_move rfl) ?_
 refine wD (tN (wB ?_))
 refine loop2 (fun (i : (Nat)) => fun (z : Nat → Value) => (([(Value.func (.yield l) #[] #[]), (ptr xb 0), undef, (z 3), (z 4), ub, (eN bl.length), (eN i)] ++ (zs z 8 10)) : List Value)) (fun (i : (Nat)) => fun (w_ : World) => (i ≤ bl.length) ∧ (J (plTo bl i) w_) ∧ Arr 23 xb [ub] w_ ∧ Ps (OrN X w0.heap.size) (Seq kI bl ub) w_) (fun (i : (Nat)) => bl.length - i) 0 kr ?_ ?_
 ·
  refine ⟨?_, ?_, ?_, ?_⟩
  ·
   exact Nat.zero_le _
  ·
   exact hJ
  ·
   exact hxb
  ·
   exact hbl
 rintro i z w12 ⟨hi, hJ, hxb, hbl⟩
 (try dsimp only)
 refine wQ (pL ?_)
 refine wI (n_lss (a := i) (b := bl.length) rfl rfl rfl) ?_
 refine wD (tN (wQ ?_))
 refine cond_if rfl (fun c1_ => ?_) (fun c1_ => ?_)
 ·
  refine wK (tN (wQ (wB (wQ (pL ?_)))))
  refine wI (d_move rfl) ?_
  refine wI (d_ix (i := i) (xs := bl) Try.underlying23 s_ti3 rfl hbl (show _ = Value.int _ (i : Int) from rfl) fo) ?_
  refine wI (d_ldx (i := i) (xs := bl) (enc := eI) (v := (bl.getD i 0)) ⟨_, Try.underlying3, rfl⟩ rfl hbl (g_at fo)) ?_
  refine wI (d_assign rfl) ?_
  refine wI (d_assign rfl) ?_
  refine wD (tN (wQ (pL ?_)))
  refine wI (d_move rfl) ?_
  refine wF ([(Value.func (.yield l) #[] #[]), (ptr xb 0), undef, (eN i), (eI (bl.getD i 0)), ub, (eN bl.length), (eN i), (Value.bool (decide (i < bl.length))), (eN i), (ixp ub i), (eI (bl.getD i 0)), (Value.func (.yield l) #[] #[])] ++ (zs z 13 5)) ?_
  refine wI (d_move rfl) ?_
  refine wI (d_move rfl) ?_
  refine wO (d_yield (xl := [.tmp 13, .tmp 14]) (al := [(eN i), (eI (bl.getD i 0))]) rfl rfl (hyy _ _ (pl_pre c1_) _ hJ)) ?_
  rintro _ w13 ⟨t, rfl, hT, hF⟩
  refine wI (d_not rfl rfl) ?_
  refine wD (tN ?_)
  refine cond_b rfl (fun c0_ => ?_) (fun c0_ => ?_)
  ·
   refine wpIn_ret ?_
   refine inb_r (then_r (then_r (inb_r ?_)))
   refine leave0 (v := (Value.tuple #[])) (res0 Try.results106) ?_
   exact .inr ⟨_, pl_pre c1_, hF (by simpa using c0_)⟩
  obtain ⟨hJ3, oY⟩ := hT (by simpa using c0_)
  rw [plTo_next] at hJ3
  replace hxb := hxb.step oY (fun h => h kxb)
  replace hbl := hbl.yield hX oY
  refine wK ?_
  refine inb_n (tN ?_)
  refine pL ?_
  refine wI (n_add (a := i) (b := 1) rfl rfl oo) ?_
  refine wI (d_move rfl) ?_
  refine wD (tN ?_)
  refine ⟨_, (i + 1), rfl, kr, ⟨?_, ?_, ?_, ?_⟩, ?_⟩
  ·
   (try dsimp only)
   all_goals (omega)
  ·
   exact hJ3
  ·
   exact hxb
  ·
   exact hbl
  ·
   (try dsimp only)
   all_goals (omega)
 refine wpIn_exit ?_
 refine then_x (then_x (inb_e ?_))
 refine to_ret ?_
 refine leave0 (v := (Value.tuple #[])) (res0 Try.results106) ?_
 exact .inl (by unfold plL; rw [show i = bl.length by omega] at hJ; exact hJ)
theorem iter_placed {O X : Nat → Prop} {w0 : World} (bl : List Int) (ub : Value) (xb : Nat) (hxb : Arr 23 xb [ub] w0) (ox : ¬ O xb) (hbl : Ps X (Seq kI bl ub) w0) (hX : ∀ k, O k → X k) (gb : bl.length ≤ 1000) : Iter Try.prog 106 [ptr xb 0].toArray (fun k => [eN k.1, eI k.2].toArray) No (Kp O w0.heap.size) (plL bl) w0 :=
  iter_of (encs := fun k => [eN k.1, eI k.2]) fun l J Jx W hO SJ SJx hyy hJ => placed1_ok bl ub xb l J Jx W (hxb.step hO (fun h => h ⟨hxb.lt, ox⟩)) ⟨hxb.lt, ox⟩ (hbl.kp hX hO) hX gb SJ hyy hJ
theorem write1_ok (L : NL) (s : NS) {X : Nat → Prop} (W : World) (hN : Nd L s X W) (hX : ∀ k, X k → k < W.heap.size) (d n : Nat) (b : Int) (p : Int) (vs : List Value) (pl : Nat → List UInt8) (ul : Value) (ca cb cc : Nat) (hca : Arr 88 ca [(Value.func (.func 53) #[(ptr L.bN 0)] #[])] W) (hX_ca : X ca) (hcb : Arr 3 cb [(eI p)] W) (hX_cb : X cb) (hcc : Arr 29 cc [ul] W) (hX_cc : X cc) (n_ca_cb : ca ≠ cb) (n_ca_cc : ca ≠ cc) (n_cb_cc : cb ≠ cc) (hul : Ps (Ors L.S No) (Seq (kS eV) vs ul) W) (hfa : Ps (Ors L.S No) (Fam kB n pl vs) W) (hvs : vs.length = n) (gpl : ∀ j, (pl j).length ≤ 1048576) (hd : d < n) :
    CW Try.prog 55 #[(eN d), (eI b), (ptr ca 0), (ptr cb 0), (ptr cc 0)] W (Rt (fun u w => u = eN (s.progR (d : Int) b p (pgE (pl d))) ∧ Nd L (s.prog (d : Int) b p (pgE (pl d))) X w ∧ Only L.S W w)) := by
 have oW : Only L.S W W := Only.refl _ _
 refine enter (al := [(eN d), (eI b), (ptr ca 0), (ptr cb 0), (ptr cc 0)]) (k := 13) (l := ([(eN d), (eI b), (ptr ca 0), (ptr cb 0), (ptr cc 0)] ++ (us 13))) Try.func55 rfl Try.ntmps55 rfl rfl ?_
 refine wQ (pL ?_)
 refine wI (d_assign rfl) ?_
 refine wD (tN (wQ ?_))
 have hrw_ := fam_at hfa hd
 have gpd_ := gpl d
 refine wp_eq (l' := ([(eN d), (eI b), (ptr ca 0), (ptr cb 0), (ptr cc 0), undef, undef, (eN 0)] ++ (us 10))) rfl ?_
 refine drawnT (O := (Ors L.S No)) (n := 11) 9 [0, 0, 0, 0, 0, 0, 48, 112, 240, 511, 1023] [(0, 8), (1, 9), (2, 10), (3, 11), (4, 12), (5, 13), (6, 14), (7, 15), (8, 16), (9, 17), (10, 7)] [(0, 8), (1, 9), (2, 10), (3, 11), (4, 12), (5, 13), (6, 14), (7, 15), (8, 16)] [0, 1, 2, 3, 4, 5, 6, 7, 8] [] (fun i_ => ([RF.is (Ors L.S No) (Value.func (.func 53) #[(ptr L.bN 0)] #[]), RF.is (Ors L.S No) (eN d), RF.is (Ors L.S No) (eI b), RF.is (Ors L.S No) (eI p), RF.is (Ors L.S No) ul, RF.is (Ors L.S No) (eN d), RF.is (Ors L.S No) (ixp ul d), RF.is (Ors L.S No) (vs.getD d undef), RF.ps (Ors L.S No) (Ors L.S (Old W.heap.size)) (Seq kB (pgE (pl d))) (ors_mono no_any)] : List (RF (Ors L.S No))).getD i_ (RF.any (Ors L.S No))) (fun _ w_ => Arr 88 ca [(Value.func (.func 53) #[(ptr L.bN 0)] #[])] w_ ∧ Arr 3 cb [(eI p)] w_ ∧ Arr 29 cc [ul] w_ ∧ Nd L s X w_) (fun v11 => [(eN d), (eI b), (ptr ca 0), (ptr cb 0), (ptr cc 0), undef, undef, (v11 10), (v11 0), (v11 1), (v11 2), (v11 3), (v11 4), (v11 5), (v11 6), (v11 7), (v11 8), (v11 9)]) (fun v11 => [(eN d), (eI b), (ptr ca 0), (ptr cb 0), (ptr cc 0), undef, undef, (eN 0), (v11 0), (v11 1), (v11 2), (v11 3), (v11 4), (v11 5), (v11 6), (v11 7), (v11 8), undef]) s_mx kr rfl (by decide) (by rfl) kr kr kr (by rfl) (fun v_ => by kernel_rfl) (fun v_ => by kernel_rfl) (fun _ => fun w_ w2_ h ho => by obtain ⟨r_hca, r_hcb, r_hcc, r_hN⟩ := h; exact ⟨r_hca.step0 ho, r_hcb.step0 ho, r_hcc.step0 ho, r_hN.step0 ho⟩) ⟨hca, hcb, hcc, hN⟩ ?_ ?_ ?_
 ·
  refine ls_cons ?_ ?_
  ·
   intro v11 lo hi w_ k_ hO hd _ _ hk_ _ hR hold
   obtain ⟨r_hca, r_hcb, r_hcc, r_hN⟩ := hR
   clear hd hold
   refine ⟨_, rfl, gd rfl ?_⟩
   exact Does.is (d_load (v := (Value.func (.func 53) #[(ptr L.bN 0)] #[])) ⟨_, Try.underlying88, rfl⟩ rfl r_hca rfl)
  refine ls_cons ?_ ?_
  ·
   intro v11 lo hi w_ k_ hO hd _ _ hk_ _ hR hold
   obtain ⟨r_hca, r_hcb, r_hcc, r_hN⟩ := hR
   clear hd hold
   refine ⟨_, rfl, gd rfl ?_⟩
   exact Does.is (d_move rfl)
  refine ls_cons ?_ ?_
  ·
   intro v11 lo hi w_ k_ hO hd _ _ hk_ _ hR hold
   obtain ⟨r_hca, r_hcb, r_hcc, r_hN⟩ := hR
   clear hd hold
   refine ⟨_, rfl, gd rfl ?_⟩
   exact Does.is (d_move rfl)
  refine ls_cons ?_ ?_
  ·
   intro v11 lo hi w_ k_ hO hd _ _ hk_ _ hR hold
   obtain ⟨r_hca, r_hcb, r_hcc, r_hN⟩ := hR
   clear hd hold
   refine ⟨_, rfl, gd rfl ?_⟩
   exact Does.is (d_load (v := (eI p)) ⟨_, Try.underlying3, rfl⟩ rfl r_hcb rfl)
  refine ls_cons ?_ ?_
  ·
   intro v11 lo hi w_ k_ hO hd _ _ hk_ _ hR hold
   obtain ⟨r_hca, r_hcb, r_hcc, r_hN⟩ := hR
   clear hd hold
   refine ⟨_, rfl, gd rfl ?_⟩
   exact Does.is (d_load (v := ul) ⟨_, Try.underlying29, rfl⟩ rfl r_hcc rfl)
  refine ls_cons ?_ ?_
  ·
   intro v11 lo hi w_ k_ hO hd _ _ hk_ _ hR hold
   obtain ⟨r_hca, r_hcb, r_hcc, r_hN⟩ := hR
   clear hd hold
   refine ⟨_, rfl, gd rfl ?_⟩
   exact Does.is (d_move rfl)
  refine ls_cons ?_ ?_
  ·
   intro v11 lo hi w_ k_ hO hd _ _ hk_ _ hR hold
   obtain ⟨r_hca, r_hcb, r_hcc, r_hN⟩ := hR
   have e4 : v11 4 = ul := hd 4 kr
   have e5 : v11 5 = (eN d) := hd 5 kr
   clear hd hold
   refine ⟨_, rfl, gd rfl ?_⟩
   exact Does.is (d_ix (i := d) (xs := vs) Try.underlying29 s_ti22 e4 (hul.step hO (ors_mono no_any)) (show _ = Value.int _ (d : Int) from e5) fo)
  refine ls_cons ?_ ?_
  ·
   intro v11 lo hi w_ k_ hO hd _ _ hk_ _ hR hold
   obtain ⟨r_hca, r_hcb, r_hcc, r_hN⟩ := hR
   have e6 : v11 6 = (ixp ul d) := hd 6 kr
   clear hd hold
   refine ⟨_, rfl, gd rfl ?_⟩
   exact Does.is (d_ldx (i := d) (xs := vs) (enc := eV) (v := (vs.getD d undef)) ⟨_, Try.underlying22, rfl⟩ e6 (hul.step hO (ors_mono no_any)) (g_at fo))
  refine ls_cons ?_ ?_
  ·
   intro v11 lo hi w_ k_ hO hd _ _ hk_ _ hR hold
   obtain ⟨r_hca, r_hcb, r_hcc, r_hN⟩ := hR
   have e7 : v11 7 = (vs.getD d undef) := hd 7 kr
   clear hd hold
   refine ⟨_, rfl, gd rfl ?_⟩
   refine Does.mono (R := ROw 5 eB (pgE (pl d)) w_) ?_ (fun u w' h => ⟨(h.ps).1.less (ors_old r_hN.lt (old_old (Nat.le_trans oW.size hO.size))), (h.ps).2⟩)
   exact d_call (xl := [.tmp 15]) (al := [(vs.getD d undef)]) Try.func16 kr rfl (show ([(v11 7)] : List Value) = [(vs.getD d undef)] from by rw [e7]) rfl (pageEncode_ok (pl d) (vs.getD d undef) _ (Ps.no (hrw_.step hO (ors_mono no_any))) fo)
  exact ls_nil
 ·
  exact ms_nil
 intro v11 lo_ hi_ w12 o13 hd iv_ hR
 have e0 : v11 0 = (Value.func (.func 53) #[(ptr L.bN 0)] #[]) := hd 0 (by decide)
 have e1 : v11 1 = (eN d) := hd 1 (by decide)
 have e2 : v11 2 = (eI b) := hd 2 (by decide)
 have e3 : v11 3 = (eI p) := hd 3 (by decide)
 have e4 : v11 4 = ul := hd 4 (by decide)
 have e5 : v11 5 = (eN d) := hd 5 (by decide)
 have e6 : v11 6 = (ixp ul d) := hd 6 (by decide)
 have e7 : v11 7 = (vs.getD d undef) := hd 7 (by decide)
 have f_v11_8 : Ps (Ors L.S (Old W.heap.size)) (Seq kB (pgE (pl d)) (v11 8)) w12 := hd 8 (by decide)
 clear hd iv_ lo_ hi_
 refine wpL.flat [(eN d), (eI b), (ptr ca 0), (ptr cb 0), (ptr cc 0), undef, undef, (eN 0), (Value.func (.func 53) #[(ptr L.bN 0)] #[]), (eN d), (eI b), (eI p), ul, (eN d), (ixp ul d), (vs.getD d undef), (v11 8), undef] (by rw [e0, e1, e2, e3, e4, e5, e6, e7] <;> rfl) ?_
 clear e0 e1 e2 e3 e4 e5 e6 e7
 replace hul := hul.step o13 (ors_mono no_any)
 replace hfa := hfa.step o13 (ors_mono no_any)
 replace hrw_ := hrw_.step o13 (ors_mono no_any)
 obtain ⟨xr_hca, xr_hcb, xr_hcc, xr_hN⟩ := hR
 replace hca : Arr 88 ca [(Value.func (.func 53) #[(ptr L.bN 0)] #[])] w12 := xr_hca
 replace hcb : Arr 3 cb [(eI p)] w12 := xr_hcb
 replace hcc : Arr 29 cc [ul] w12 := xr_hcc
 replace hN := xr_hN
 clear xr_hca xr_hcb xr_hcc xr_hN
 replace oW := oW.tail o13 (tl_sin (fun k h => h) tl_no)
 refine wO (d_callB (xl := [.tmp 9, .tmp 10, .tmp 11, .tmp 16]) (al := [(eN d), (eI b), (eI p), (v11 8)]) rfl Try.func53 kr rfl rfl rfl (prog_ok L s _ hN (d : Int) b p (pgE (pl d)) (v11 8) (fun k t => Nat.lt_of_lt_of_le (hX k t) oW.size) (f_v11_8.less (os_of sub1)) (by have := pgE_len (pl d); first | omega | (simp; done) | (simp; omega)))) ?_
 rintro _ w14 ⟨rfl, a16, o15⟩
 replace hca := hca.step o15 (hN.dis _ hX_ca)
 replace hcb := hcb.step o15 (hN.dis _ hX_cb)
 replace hcc := hcc.step o15 (hN.dis _ hX_cc)
 replace hul := hul.step o15 sub1
 replace hfa := hfa.step o15 sub1
 replace hrw_ := hrw_.step o15 sub1
 replace f_v11_8 := f_v11_8.step o15 sub1
 replace oW := oW.tail o15 (fun k _ e => (fun k h => h) k e)
 replace hN := a16
 refine wI (d_assign rfl) ?_
 refine wF [(eN d), (eI b), (ptr ca 0), (ptr cb 0), (ptr cc 0), undef, undef, (eN (s.progR (d : Int) b p (pgE (pl d)))), (Value.func (.func 53) #[(ptr L.bN 0)] #[]), (eN d), (eI b), (eI p), ul, (eN d), (ixp ul d), (vs.getD d undef), (v11 8), (eN (s.progR (d : Int) b p (pgE (pl d))))] ?_
 refine wD (tN ?_)
 refine wpIn_ret ?_
 refine leave0 (v := (eN (s.progR (d : Int) b p (pgE (pl d))))) (res1 Try.results55 rfl) ?_
 exact ⟨rfl, hN, oW⟩
theorem eachW_ok (L : NL) (s : NS) {X : Nat → Prop} (W : World) (hN : Nd L s X W) (hX : ∀ k, X k → k < W.heap.size) (bl : List Int) (ub : Value) (hb : Ps (Ors L.S No) (Seq kI bl ub) W) (gb : bl.length ≤ 1000) (n : Nat) (hn : bl.length ≤ n) (p : Int) (vs : List Value) (pl : Nat → List UInt8) (ul : Value) (ca cb cc : Nat) (hca : Arr 88 ca [(Value.func (.func 53) #[(ptr L.bN 0)] #[])] W) (hX_ca : X ca) (hcb : Arr 3 cb [(eI p)] W) (hX_cb : X cb) (hcc : Arr 29 cc [ul] W) (hX_cc : X cc) (n_ca_cb : ca ≠ cb) (n_ca_cc : ca ≠ cc) (n_cb_cc : cb ≠ cc) (hul : Ps (Ors L.S No) (Seq (kS eV) vs ul) W) (hfa : Ps (Ors L.S No) (Fam kB n pl vs) W) (hvs : vs.length = n) (gpl : ∀ j, (pl j).length ≤ 1048576) :
    CW Try.prog 54 #[(ptr L.bN 0), ub, (Value.func (.func 55) #[] #[(ptr ca 0), (ptr cb 0), (ptr cc 0)])] W (Rt (fun u w => u = eN (rowDoC s.gD bl.length (rowPC bl p pl s)) ∧ Nd L (rowDo s.gD bl.length (rowP bl p pl s) (rowPC bl p pl s)) X w ∧ Only L.S W w)) := by
 have oW : Only L.S W W := Only.refl _ _
 refine enter (al := [(ptr L.bN 0), ub, (Value.func (.func 55) #[] #[(ptr ca 0), (ptr cb 0), (ptr cc 0)])]) (k := 24) (l := ([(ptr L.bN 0), ub, (Value.func (.func 55) #[] #[(ptr ca 0), (ptr cb 0), (ptr cc 0)])] ++ (us 24))) Try.func54 rfl Try.ntmps54 rfl rfl ?_
 refine wQ (pL ?_)
 refine wO (d_box rfl rfl) ?_
 rintro _ w11 ⟨e5, rfl, g12, a13, o14⟩
 have n_ca_e5 : ca ≠ e5 := hca.ne g12
 have n_cb_e5 : cb ≠ e5 := hcb.ne g12
 have n_cc_e5 : cc ≠ e5 := hcc.ne g12
 have g_oW_e5 : W.heap.size ≤ e5 := Nat.le_trans oW.size g12
 replace hN := hN.new o14 g12
 replace hul := hul.new o14 g12
 replace hfa := hfa.new o14 g12
 replace hb := hb.new o14 g12
 replace hca := hca.step0 o14
 replace hcb := hcb.step0 o14
 replace hcc := hcc.step0 o14
 replace oW := oW.tail0 o14
 refine wO (d_alloc s_ti45 rfl) ?_
 rintro _ w15 ⟨e6, rfl, g16, a17, o18⟩
 have n_ca_e6 : ca ≠ e6 := hca.ne g16
 have n_cb_e6 : cb ≠ e6 := hcb.ne g16
 have n_cc_e6 : cc ≠ e6 := hcc.ne g16
 have n_e5_e6 : e5 ≠ e6 := a13.ne g16
 have g_oW_e6 : W.heap.size ≤ e6 := Nat.le_trans oW.size g16
 replace hN := hN.new o18 g16
 replace hul := hul.new o18 g16
 replace hfa := hfa.new o18 g16
 replace hb := hb.new o18 g16
 replace hca := hca.step0 o18
 replace hcb := hcb.step0 o18
 replace hcc := hcc.step0 o18
 replace a13 := a13.step0 o18
 replace oW := oW.tail0 o18
 refine wD (tN (wQ (wQ ?_)))
 by_cases k0 : bl.length = s.gD
 ·
  refine pL ?_
  refine wI (d_move rfl) ?_
  refine wI (d_lenS rfl Try.underlying23 rfl hb) ?_
  refine wI (d_move rfl) ?_
  refine wO (d_call (xl := [.tmp 12]) (al := [(ptr L.bN 0)]) Try.func84 kr rfl rfl rfl (geometry_ok L s _ hN)) ?_
  rintro _ w19 ⟨rfl, o20⟩
  replace hN := hN.step0 o20
  replace hul := hul.step0 o20
  replace hfa := hfa.step0 o20
  replace hb := hb.step0 o20
  replace hca := hca.step0 o20
  replace hcb := hcb.step0 o20
  replace hcc := hcc.step0 o20
  replace a13 := a13.step0 o20
  replace a17 := a17.step0 o20
  replace oW := oW.tail0 o20
  refine wI (d_field (v := (eN s.gD)) Try.underlying49 rfl ⟨_, Try.underlying3, rfl⟩ rfl rfl) ?_
  refine wF ([(ptr L.bN 0), ub, (Value.func (.func 55) #[] #[(ptr ca 0), (ptr cb 0), (ptr cc 0)]), undef, undef, (ptr e5 0), (ptr e6 0), undef, undef, undef, ub, (eN bl.length), (ptr L.bN 0), (Value.agg #[(eN s.gD), (eN s.gB), (eN s.gP)]), (eN s.gD)] ++ (us 12)) ?_
  refine wI (n_neq (a := bl.length) (b := s.gD) rfl rfl (by rw [decide_eq_true k0] <;> rfl)) ?_
  refine wD (tN ?_)
  refine cond_f rfl ?_
  refine wK (tN (wQ (wQ (pL ?_))))
  refine wI (d_move rfl) ?_
  refine wO (d_call (xl := [.tmp 16]) (al := [ub]) Try.func85 kr rfl rfl rfl (placed_ok bl ub _ (Ps.no hb))) ?_
  rintro _ w21 ⟨b23, rfl, g24, a25, o22⟩
  have n_ca_b23 : ca ≠ b23 := hca.ne g24
  have n_cb_b23 : cb ≠ b23 := hcb.ne g24
  have n_cc_b23 : cc ≠ b23 := hcc.ne g24
  have n_e5_b23 : e5 ≠ b23 := a13.ne g24
  have n_e6_b23 : e6 ≠ b23 := a17.ne g24
  have g_oW_b23 : W.heap.size ≤ b23 := Nat.le_trans oW.size g24
  replace hN := hN.new o22 g24
  replace hul := hul.new o22 g24
  replace hfa := hfa.new o22 g24
  replace hb := hb.new o22 g24
  replace hca := hca.step0 o22
  replace hcb := hcb.step0 o22
  replace hcc := hcc.step0 o22
  replace a13 := a13.step0 o22
  replace a17 := a17.step0 o22
  replace oW := oW.tail0 o22
  refine wD (tN (wB ?_))
  refine wp_eq (l' := ([(ptr L.bN 0), ub, (Value.func (.func 55) #[] #[(ptr ca 0), (ptr cb 0), (ptr cc 0)]), undef, undef, (ptr e5 0), (ptr e6 0), undef, undef, undef, ub, (eN bl.length), (ptr L.bN 0), (Value.agg #[(eN s.gD), (eN s.gB), (eN s.gP)]), (eN s.gD), vF, ub, (Value.func (.func 106) #[] #[(ptr b23 0)])] ++ (us 9))) rfl ?_
  have h_lt_ca := hca.lt
  have h_lt_cb := hcb.lt
  have h_lt_cc := hcc.lt
  have h_lt_e5 := a13.lt
  have h_lt_e6 := a17.lt
  have h_lt_b23 := a25.lt
  have tq_oW := oW.size
  have nO_b23 : ¬ (Or1 e6 (Or1 e5 (Ors L.S No))) b23 := (not_or1 (Ne.symm n_e6_b23) (not_or1 (Ne.symm n_e5_b23) (not_ors (hN.dis _ in1) not_no)))
  obtain ⟨D_, hD_⟩ : ∃ D_, w21.heap.size = D_ := ⟨_, rfl⟩
  obtain ⟨L_, hL_⟩ : ∃ L_, w21.heap.size + 1 = L_ := ⟨_, rfl⟩
  refine range_ (encs := (fun k => [eN k.1, eI k.2])) (Pv := No) (O := (Or1 e6 (Or1 e5 (Ors L.S No)))) (xs := (plL bl)) (D := D_) (L := L_) (rs := []) hD_ hL_ rfl Try.func106 kr rfl (iter_placed bl ub b23 a25 nO_b23 hb (or1_skip (or1_mono (or1_mono (ors_mono no_any)))) fo) (fun k t => t.elim) (fun _ => rfl) (lt_or1 h_lt_e6 (lt_or1 h_lt_e5 (lt_ors hN.lt lt_no))) (fun (pre : List (Nat × Int)) (w_ : World) => (∀ j, j < pre.length → rowPC bl p pl s j = 0) ∧ Only (Or1 e6 (Or1 e5 (Ors L.S No))) w21 w_ ∧ Arr 88 ca [(Value.func (.func 53) #[(ptr L.bN 0)] #[])] w_ ∧ Arr 3 cb [(eI p)] w_ ∧ Arr 29 cc [ul] w_ ∧ Arr 90 e5 [(Value.func (.func 55) #[] #[(ptr ca 0), (ptr cb 0), (ptr cc 0)])] w_ ∧ Arr 45 e6 [(eN 0)] w_ ∧ Arr 23 b23 [ub] w_ ∧ Nd L (rowP bl p pl s pre.length) (Or1 L_ (Or1 D_ (Or1 b23 (Or1 e6 (Or1 e5 X))))) w_) (fun c_ (pre : List (Nat × Int)) (w_ : World) => c_ = Code.ret ∧ ((∀ j, j < pre.length - 1 → rowPC bl p pl s j = 0) ∧ (¬ rowPC bl p pl s (pre.length - 1) = 0) ∧ (0 < pre.length) ∧ Only (Or1 e6 (Or1 e5 (Ors L.S No))) w21 w_ ∧ Arr 88 ca [(Value.func (.func 53) #[(ptr L.bN 0)] #[])] w_ ∧ Arr 3 cb [(eI p)] w_ ∧ Arr 29 cc [ul] w_ ∧ Arr 90 e5 [(Value.func (.func 55) #[] #[(ptr ca 0), (ptr cb 0), (ptr cc 0)])] w_ ∧ Arr 45 e6 [(eN (rowPC bl p pl s (pre.length - 1)))] w_ ∧ Arr 23 b23 [ub] w_ ∧ Nd L (rowP bl p pl s pre.length) (Or1 L_ (Or1 D_ (Or1 b23 (Or1 e6 (Or1 e5 X))))) w_)) ?_ ?_ ?_ ?_ ?_ ?_
  ·
   rintro pre w_ w2_ ⟨hC, o26, hca, hcb, hcc, a13, a17, a25, hN⟩ ho_
   exact ⟨hC, o26.tail ho_ (stab_tl hD_ hL_ (fun k t => t.elim)), hca.step ho_ (stab_b hD_ hL_ h_lt_ca (fun t => t.elim)), hcb.step ho_ (stab_b hD_ hL_ h_lt_cb (fun t => t.elim)), hcc.step ho_ (stab_b hD_ hL_ h_lt_cc (fun t => t.elim)), a13.step ho_ (stab_b hD_ hL_ h_lt_e5 (fun t => t.elim)), a17.step ho_ (stab_b hD_ hL_ h_lt_e6 (fun t => t.elim)), a25.step ho_ (stab_b hD_ hL_ h_lt_b23 (fun t => t.elim)), hN.step ho_ (stab_p (fun k t => t.elim))⟩
  ·
   rintro c_ pre w_ w2_ ⟨hc_, ⟨hC2, hc2, hp2, o26, hca, hcb, hcc, a13, a17, a25, hN⟩⟩ ho_
   exact ⟨hc_, ⟨hC2, hc2, hp2, o26.tail ho_ (stab_tl hD_ hL_ (fun k t => t.elim)), hca.step ho_ (stab_b hD_ hL_ h_lt_ca (fun t => t.elim)), hcb.step ho_ (stab_b hD_ hL_ h_lt_cb (fun t => t.elim)), hcc.step ho_ (stab_b hD_ hL_ h_lt_cc (fun t => t.elim)), a13.step ho_ (stab_b hD_ hL_ h_lt_e5 (fun t => t.elim)), a17.step ho_ (stab_b hD_ hL_ h_lt_e6 (fun t => t.elim)), a25.step ho_ (stab_b hD_ hL_ h_lt_b23 (fun t => t.elim)), hN.step ho_ (stab_p (fun k t => t.elim))⟩⟩
  ·
   refine ⟨?_, ?_, ?_, ?_, ?_, ?_, ?_, ?_, ?_⟩
   ·
    exact fun j hj => absurd hj (Nat.not_lt_zero j)
   ·
    exact Only.refl _ _
   ·
    exact hca
   ·
    exact hcb
   ·
    exact hcc
   ·
    exact a13
   ·
    exact a17
   ·
    exact a25
   ·
    exact Nd.less (hN : Nd L (rowP bl p pl s 0) _ _) (xx_new oo (xx_new (Nat.le_of_eq hD_) xx_id))
  ·
   intro pre k w1_ hpx_ hI_ hL1_
   obtain ⟨hC, o26, hca, hcb, hcc, a13, a17, a25, hN⟩ := hI_
   replace hul := Ps.re (X' := (Or1 L_ (Or1 D_ (Or1 b23 (Or1 e6 (Or1 e5 (Ors L.S No))))))) hul o26 (or1_skip (or1_mono (or1_mono (ors_mono no_any)))) (xx_new oo (xx_new (Nat.le_of_eq hD_) (xx_or1 (xx_or1 (xx_or1 (xx_ors xx_id))))))
   replace hfa := Ps.re (X' := (Or1 L_ (Or1 D_ (Or1 b23 (Or1 e6 (Or1 e5 (Ors L.S No))))))) hfa o26 (or1_skip (or1_mono (or1_mono (ors_mono no_any)))) (xx_new oo (xx_new (Nat.le_of_eq hD_) (xx_or1 (xx_or1 (xx_or1 (xx_ors xx_id))))))
   replace hb := Ps.re (X' := (Or1 L_ (Or1 D_ (Or1 b23 (Or1 e6 (Or1 e5 (Ors L.S No))))))) hb o26 (or1_skip (or1_mono (or1_mono (ors_mono no_any)))) (xx_new oo (xx_new (Nat.le_of_eq hD_) (xx_or1 (xx_or1 (xx_or1 (xx_ors xx_id))))))
   replace oW := oW.tail o26 (tl_new g_oW_e6 (tl_new g_oW_e5 (tl_sin (fun k h => h) tl_no)))
   have n_ca_D_ : ca ≠ D_ := by omega
   have n_cb_D_ : cb ≠ D_ := by omega
   have n_cc_D_ : cc ≠ D_ := by omega
   have n_e5_D_ : e5 ≠ D_ := by omega
   have n_e6_D_ : e6 ≠ D_ := by omega
   have n_b23_D_ : b23 ≠ D_ := by omega
   have g_oW_D_ : W.heap.size ≤ D_ := by omega
   have g_o26_D_ : w21.heap.size ≤ D_ := by omega
   have n_ca_L_ : ca ≠ L_ := by omega
   have n_cb_L_ : cb ≠ L_ := by omega
   have n_cc_L_ : cc ≠ L_ := by omega
   have n_e5_L_ : e5 ≠ L_ := by omega
   have n_e6_L_ : e6 ≠ L_ := by omega
   have n_b23_L_ : b23 ≠ L_ := by omega
   have g_oW_L_ : W.heap.size ≤ L_ := by omega
   have g_o26_L_ : w21.heap.size ≤ L_ := by omega
   have n_D__L_ : D_ ≠ L_ := by omega
   have aL_ : Dead L_ w1_ := hL1_
   have aD_ : Dead D_ w1_ := by unfold Dead; omega
   refine wp_eq (l' := ([(ptr L.bN 0), ub, (Value.func (.func 55) #[] #[(ptr ca 0), (ptr cb 0), (ptr cc 0)]), undef, undef, (ptr e5 0), (ptr e6 0), undef, undef, undef, ub, (eN bl.length), (ptr L.bN 0), (Value.agg #[(eN s.gD), (eN s.gB), (eN s.gP)]), (eN s.gD), vF, ub, (Value.func (.func 106) #[] #[(ptr b23 0)]), (eN k.1), (eI k.2)] ++ (us 7))) kr ?_
   refine wQ (pL ?_)
   refine wI (d_assign rfl) ?_
   refine wD (tN (pL ?_))
   refine wI (d_assign rfl) ?_
   refine wD (tN ?_)
   refine ⟨Only.refl _ _, fun w2_ oL_ _ => ?_⟩
   replace hN := hN.stepb oL_ in1
   replace hul := hul.stepb oL_ in1
   replace hfa := hfa.stepb oL_ in1
   replace hb := hb.stepb oL_ in1
   replace hca := hca.step oL_ (fun e => absurd e n_ca_L_)
   replace hcb := hcb.step oL_ (fun e => absurd e n_cb_L_)
   replace hcc := hcc.step oL_ (fun e => absurd e n_cc_L_)
   replace a13 := a13.step oL_ (fun e => absurd e n_e5_L_)
   replace a17 := a17.step oL_ (fun e => absurd e n_e6_L_)
   replace a25 := a25.step oL_ (fun e => absurd e n_b23_L_)
   replace aD_ := aD_.step oL_ (fun e => absurd e n_D__L_)
   replace oW := oW.tailb oL_ g_oW_L_
   replace o26 := o26.tailb oL_ g_o26_L_
   replace aL_ : Dead L_ w2_ := Nat.lt_of_lt_of_le aL_ oL_.size
   have oR_ : Only (fun k => (Or1 e6 (Or1 e5 (Ors L.S No))) k ∨ L_ < k) w2_ w2_ := Only.refl _ _
   obtain ⟨k1_, k2_⟩ := k
   obtain ⟨hk1_, hk2_⟩ := pre_pl hpx_
   injection hk2_ with hk3_ hk4_
   subst hk3_ hk4_
   refine wp_eq (l' := ([(ptr L.bN 0), ub, (Value.func (.func 55) #[] #[(ptr ca 0), (ptr cb 0), (ptr cc 0)]), undef, undef, (ptr e5 0), (ptr e6 0), (eN pre.length), (eI (bl.getD pre.length 0)), undef, ub, (eN bl.length), (ptr L.bN 0), (Value.agg #[(eN s.gD), (eN s.gB), (eN s.gP)]), (eN s.gD), vF, ub, (Value.func (.func 106) #[] #[(ptr b23 0)]), (eN pre.length), (eI (bl.getD pre.length 0))] ++ (us 7))) rfl ?_
   refine wB (wQ ?_)
   refine wp_eq (l' := ([(ptr L.bN 0), ub, (Value.func (.func 55) #[] #[(ptr ca 0), (ptr cb 0), (ptr cc 0)]), undef, undef, (ptr e5 0), (ptr e6 0), (eN pre.length), (eI (bl.getD pre.length 0)), undef, ub, (eN bl.length), (ptr L.bN 0), (Value.agg #[(eN s.gD), (eN s.gB), (eN s.gP)]), (eN s.gD), vF, ub, (Value.func (.func 106) #[] #[(ptr b23 0)]), (eN pre.length), (eI (bl.getD pre.length 0))] ++ (us 7))) rfl ?_
   refine pL ?_
   refine wI (d_load (v := (Value.func (.func 55) #[] #[(ptr ca 0), (ptr cb 0), (ptr cc 0)])) ⟨_, Try.underlying90, rfl⟩ rfl a13 rfl) ?_
   refine wI (d_move rfl) ?_
   refine wI (d_move rfl) ?_
   refine wO (d_callv (xl := [.tmp 21, .tmp 22]) (al := [(eN pre.length), (eI (bl.getD pre.length 0))]) rfl Try.func55 kr rfl rfl rfl (write1_ok L (rowP bl p pl s pre.length) _ hN (lt_or1 aL_.lt (lt_or1 aD_.lt (lt_or1 a25.lt (lt_or1 a17.lt (lt_or1 a13.lt (fun k t => Nat.lt_of_lt_of_le (hX k t) oW.size)))))) pre.length n (bl.getD pre.length 0) p vs pl ul ca cb cc hca (in2 (in2 (in2 (in2 (in2 hX_ca))))) hcb (in2 (in2 (in2 (in2 (in2 hX_cb))))) hcc (in2 (in2 (in2 (in2 (in2 hX_cc))))) n_ca_cb n_ca_cc n_cb_cc (hul.less (os_of (sub2 (sub2 (sub2 (sub2 (sub2 sub1))))))) (hfa.less (os_of (sub2 (sub2 (sub2 (sub2 (sub2 sub1))))))) hvs gpl oo)) ?_
   rintro _ w27 ⟨rfl, a29, o28⟩
   replace hca := hca.step o28 (hN.dis _ (in2 (in2 (in2 (in2 (in2 hX_ca))))))
   replace hcb := hcb.step o28 (hN.dis _ (in2 (in2 (in2 (in2 (in2 hX_cb))))))
   replace hcc := hcc.step o28 (hN.dis _ (in2 (in2 (in2 (in2 (in2 hX_cc))))))
   replace a13 := a13.step o28 (hN.dis _ (in2 (in2 (in2 (in2 in1)))))
   replace a17 := a17.step o28 (hN.dis _ (in2 (in2 (in2 in1))))
   replace a25 := a25.step o28 (hN.dis _ (in2 (in2 in1)))
   replace aD_ := aD_.step o28 (hN.dis _ (in2 in1))
   replace aL_ := aL_.step o28 (hN.dis _ in1)
   replace hul := hul.step o28 (sub2 (sub2 (sub2 (sub2 (sub2 sub1)))))
   replace hfa := hfa.step o28 (sub2 (sub2 (sub2 (sub2 (sub2 sub1)))))
   replace hb := hb.step o28 (sub2 (sub2 (sub2 (sub2 (sub2 sub1)))))
   replace oW := oW.tail o28 (fun k _ e => (fun k h => h) k e)
   replace o26 := o26.tail o28 (fun k _ e => (sub2 (sub2 sub1)) k e)
   replace oR_ := oR_.tail o28 (fun k _ e => (fun k h => Or.inl ((sub2 (sub2 sub1)) k h)) k e)
   replace hN := a29
   refine wI (d_assign rfl) ?_
   refine wF [(ptr L.bN 0), ub, (Value.func (.func 55) #[] #[(ptr ca 0), (ptr cb 0), (ptr cc 0)]), undef, undef, (ptr e5 0), (ptr e6 0), (eN pre.length), (eI (bl.getD pre.length 0)), (eN ((rowP bl p pl s pre.length).progR (pre.length : Int) (bl.getD pre.length 0) p (pgE (pl pre.length)))), ub, (eN bl.length), (ptr L.bN 0), (Value.agg #[(eN s.gD), (eN s.gB), (eN s.gP)]), (eN s.gD), vF, ub, (Value.func (.func 106) #[] #[(ptr b23 0)]), (eN pre.length), (eI (bl.getD pre.length 0)), (Value.func (.func 55) #[] #[(ptr ca 0), (ptr cb 0), (ptr cc 0)]), (eN pre.length), (eI (bl.getD pre.length 0)), (eN ((rowP bl p pl s pre.length).progR (pre.length : Int) (bl.getD pre.length 0) p (pgE (pl pre.length)))), undef, undef, undef] ?_
   refine wD (tN (wQ (pL ?_)))
   refine wI (d_move rfl) ?_
   refine wI (n_neq (a := ((rowP bl p pl s pre.length).progR (pre.length : Int) (bl.getD pre.length 0) p (pgE (pl pre.length)))) (b := 0) rfl rfl rfl) ?_
   refine wF [(ptr L.bN 0), ub, (Value.func (.func 55) #[] #[(ptr ca 0), (ptr cb 0), (ptr cc 0)]), undef, undef, (ptr e5 0), (ptr e6 0), (eN pre.length), (eI (bl.getD pre.length 0)), (eN ((rowP bl p pl s pre.length).progR (pre.length : Int) (bl.getD pre.length 0) p (pgE (pl pre.length)))), ub, (eN bl.length), (ptr L.bN 0), (Value.agg #[(eN s.gD), (eN s.gB), (eN s.gP)]), (eN s.gD), vF, ub, (Value.func (.func 106) #[] #[(ptr b23 0)]), (eN pre.length), (eI (bl.getD pre.length 0)), (Value.func (.func 55) #[] #[(ptr ca 0), (ptr cb 0), (ptr cc 0)]), (eN pre.length), (eI (bl.getD pre.length 0)), (eN ((rowP bl p pl s pre.length).progR (pre.length : Int) (bl.getD pre.length 0) p (pgE (pl pre.length)))), (eN ((rowP bl p pl s pre.length).progR (pre.length : Int) (bl.getD pre.length 0) p (pgE (pl pre.length)))), (Value.bool (!decide (((rowP bl p pl s pre.length).progR (pre.length : Int) (bl.getD pre.length 0) p (pgE (pl pre.length))) = 0))), undef] ?_
   refine wD (tN ?_)
   refine cond_un rfl (fun ce_ => ?_) (fun ce_ => ?_)
   ·
    refine wQ (pL ?_)
    refine wI (d_move rfl) ?_
    refine wO (d_store s_ti45 rfl rfl rfl a17 (nb rfl) rfl) ?_
    rintro _ w30 ⟨a31, o32⟩
    replace hN := hN.stepb o32 (in2 (in2 (in2 in1)))
    replace hul := hul.stepb o32 (in2 (in2 (in2 in1)))
    replace hfa := hfa.stepb o32 (in2 (in2 (in2 in1)))
    replace hb := hb.stepb o32 (in2 (in2 (in2 in1)))
    replace hca := hca.step o32 (fun e => absurd e n_ca_e6)
    replace hcb := hcb.step o32 (fun e => absurd e n_cb_e6)
    replace hcc := hcc.step o32 (fun e => absurd e n_cc_e6)
    replace a13 := a13.step o32 (fun e => absurd e n_e5_e6)
    replace a25 := a25.step o32 (fun e => absurd e (Ne.symm n_e6_b23))
    replace aD_ := aD_.step o32 (fun e => absurd e (Ne.symm n_e6_D_))
    replace aL_ := aL_.step o32 (fun e => absurd e (Ne.symm n_e6_L_))
    replace oW := oW.tailb o32 g_oW_e6
    replace o26 := o26.tail o32 (fun k _ e => by have : k = e6 := e; rw [this]; exact in1)
    replace oR_ := oR_.tail o32 (fun k _ e => by have : k = e6 := e; rw [this]; exact (Or.inl in1))
    refine wF [(ptr L.bN 0), ub, (Value.func (.func 55) #[] #[(ptr ca 0), (ptr cb 0), (ptr cc 0)]), undef, undef, (ptr e5 0), (ptr e6 0), (eN pre.length), (eI (bl.getD pre.length 0)), (eN ((rowP bl p pl s pre.length).progR (pre.length : Int) (bl.getD pre.length 0) p (pgE (pl pre.length)))), ub, (eN bl.length), (ptr L.bN 0), (Value.agg #[(eN s.gD), (eN s.gB), (eN s.gP)]), (eN s.gD), vF, ub, (Value.func (.func 106) #[] #[(ptr b23 0)]), (eN pre.length), (eI (bl.getD pre.length 0)), (Value.func (.func 55) #[] #[(ptr ca 0), (ptr cb 0), (ptr cc 0)]), (eN pre.length), (eI (bl.getD pre.length 0)), (eN ((rowP bl p pl s pre.length).progR (pre.length : Int) (bl.getD pre.length 0) p (pgE (pl pre.length)))), (eN ((rowP bl p pl s pre.length).progR (pre.length : Int) (bl.getD pre.length 0) p (pgE (pl pre.length)))), (Value.bool (!decide (((rowP bl p pl s pre.length).progR (pre.length : Int) (bl.getD pre.length 0) p (pgE (pl pre.length))) = 0))), (eN ((rowP bl p pl s pre.length).progR (pre.length : Int) (bl.getD pre.length 0) p (pgE (pl pre.length))))] ?_
    refine wD (tN ?_)
    refine wpIn_ret ?_
    refine inb_r ?_
    refine ⟨oR_, rfl, ?_, ?_, ?_, ?_, ?_, ?_, ?_, ?_, ?_, ?_, ?_⟩
    ·
     (try dsimp only)
     all_goals (rw [List.length_append, List.length_singleton, Nat.add_sub_cancel]; exact hC)
    ·
     (try dsimp only)
     all_goals (rw [List.length_append, List.length_singleton, Nat.add_sub_cancel]; exact ce_)
    ·
     (try dsimp only)
     all_goals (rw [List.length_append, List.length_singleton]; omega)
    ·
     exact o26
    ·
     exact hca
    ·
     exact hcb
    ·
     exact hcc
    ·
     exact a13
    ·
     (try dsimp only)
     all_goals (rw [List.length_append, List.length_singleton, Nat.add_sub_cancel]; exact a31)
    ·
     exact a25
    ·
     (try dsimp only)
     all_goals (exact (by rw [List.length_append, List.length_singleton]; exact hN.less (xx_or1 (xx_or1 (xx_or1 (xx_or1 (xx_or1 xx_id)))))))
   refine wK ?_
   refine inb_n ?_
   refine ⟨oR_, ?_, ?_, ?_, ?_, ?_, ?_, ?_, ?_, ?_⟩
   ·
    (try dsimp only)
    all_goals (exact fun j hj => by rw [List.length_append, List.length_singleton] at hj; exact (Nat.lt_succ_iff_lt_or_eq.1 hj).elim (hC j) (fun e => by rw [e]; exact ce_))
   ·
    exact o26
   ·
    exact hca
   ·
    exact hcb
   ·
    exact hcc
   ·
    exact a13
   ·
    exact a17
   ·
    exact a25
   ·
    (try dsimp only)
    all_goals (exact (by rw [List.length_append, List.length_singleton]; exact hN.less (xx_or1 (xx_or1 (xx_or1 (xx_or1 (xx_or1 xx_id)))))))
  ·
   intro w1_ hI_ aD_
   obtain ⟨hC, o26, hca, hcb, hcc, a13, a17, a25, hN⟩ := hI_
   replace hN := hN.less (Y := (Or1 D_ (Or1 b23 (Or1 e6 (Or1 e5 X))))) (xx_skip xx_id)
   replace hul := Ps.re (X' := (Or1 D_ (Or1 b23 (Or1 e6 (Or1 e5 (Ors L.S No)))))) hul o26 (or1_skip (or1_mono (or1_mono (ors_mono no_any)))) (xx_new (Nat.le_of_eq hD_) (xx_or1 (xx_or1 (xx_or1 (xx_ors xx_id)))))
   replace hfa := Ps.re (X' := (Or1 D_ (Or1 b23 (Or1 e6 (Or1 e5 (Ors L.S No)))))) hfa o26 (or1_skip (or1_mono (or1_mono (ors_mono no_any)))) (xx_new (Nat.le_of_eq hD_) (xx_or1 (xx_or1 (xx_or1 (xx_ors xx_id)))))
   replace hb := Ps.re (X' := (Or1 D_ (Or1 b23 (Or1 e6 (Or1 e5 (Ors L.S No)))))) hb o26 (or1_skip (or1_mono (or1_mono (ors_mono no_any)))) (xx_new (Nat.le_of_eq hD_) (xx_or1 (xx_or1 (xx_or1 (xx_ors xx_id)))))
   replace oW := oW.tail o26 (tl_new g_oW_e6 (tl_new g_oW_e5 (tl_sin (fun k h => h) tl_no)))
   have n_ca_D_ : ca ≠ D_ := by omega
   have n_cb_D_ : cb ≠ D_ := by omega
   have n_cc_D_ : cc ≠ D_ := by omega
   have n_e5_D_ : e5 ≠ D_ := by omega
   have n_e6_D_ : e6 ≠ D_ := by omega
   have n_b23_D_ : b23 ≠ D_ := by omega
   have g_oW_D_ : W.heap.size ≤ D_ := by omega
   have g_o26_D_ : w21.heap.size ≤ D_ := by omega
   rw [plL_len] at hC
   replace hN := nd_to hN (show _ = (rowP bl p pl s bl.length) from by rw [plL_len])
   refine inb_n (tN ?_)
   refine wQ (pL ?_)
   refine wO (d_store s_ti45 rfl rfl rfl a17 (nb rfl) rfl) ?_
   rintro _ w33 ⟨a34, o35⟩
   replace hN := hN.stepb o35 (in2 (in2 in1))
   replace hul := hul.stepb o35 (in2 (in2 in1))
   replace hfa := hfa.stepb o35 (in2 (in2 in1))
   replace hb := hb.stepb o35 (in2 (in2 in1))
   replace hca := hca.step o35 (fun e => absurd e n_ca_e6)
   replace hcb := hcb.step o35 (fun e => absurd e n_cb_e6)
   replace hcc := hcc.step o35 (fun e => absurd e n_cc_e6)
   replace a13 := a13.step o35 (fun e => absurd e n_e5_e6)
   replace a25 := a25.step o35 (fun e => absurd e (Ne.symm n_e6_b23))
   replace aD_ := aD_.step o35 (fun e => absurd e (Ne.symm n_e6_D_))
   replace oW := oW.tailb o35 g_oW_e6
   replace o26 := o26.tail o35 (fun k _ e => by have : k = e6 := e; rw [this]; exact in1)
   refine wD (tN ?_)
   refine wpIn_ret ?_
   refine leave (v := (eN 0)) (marks_ok aD_) (fun w36 o37 => ⟨resS Try.results54 ⟨_, Try.underlying45, rfl⟩ rfl (a34.step (only_mem o37) (fun e => absurd e n_e6_D_)), ?_⟩)
   replace o37 := only_mem o37
   replace hN := hN.stepb o37 in1
   replace hul := hul.stepb o37 in1
   replace hfa := hfa.stepb o37 in1
   replace hb := hb.stepb o37 in1
   replace hca := hca.step o37 (fun e => absurd e n_ca_D_)
   replace hcb := hcb.step o37 (fun e => absurd e n_cb_D_)
   replace hcc := hcc.step o37 (fun e => absurd e n_cc_D_)
   replace a13 := a13.step o37 (fun e => absurd e n_e5_D_)
   replace a34 := a34.step o37 (fun e => absurd e n_e6_D_)
   replace a25 := a25.step o37 (fun e => absurd e n_b23_D_)
   replace oW := oW.tailb o37 g_oW_D_
   replace o26 := o26.tailb o37 g_o26_D_
   obtain ⟨e1_, e2_⟩ := do_all (T := rowP bl p pl s) (C := rowPC bl p pl s) k0 hC; exact ⟨congrArg eN e2_, e1_ ▸ (hN.less (xx_skip (xx_skip (xx_skip (xx_skip xx_id))))), oW⟩
  ·
   rintro c_ pre w1_ hpx_ ⟨rfl, ⟨hC2, hc2, hp2, o26, hca, hcb, hcc, a13, a17, a25, hN⟩⟩ aD_
   replace hN := hN.less (Y := (Or1 D_ (Or1 b23 (Or1 e6 (Or1 e5 X))))) (xx_skip xx_id)
   replace hul := Ps.re (X' := (Or1 D_ (Or1 b23 (Or1 e6 (Or1 e5 (Ors L.S No)))))) hul o26 (or1_skip (or1_mono (or1_mono (ors_mono no_any)))) (xx_new (Nat.le_of_eq hD_) (xx_or1 (xx_or1 (xx_or1 (xx_ors xx_id)))))
   replace hfa := Ps.re (X' := (Or1 D_ (Or1 b23 (Or1 e6 (Or1 e5 (Ors L.S No)))))) hfa o26 (or1_skip (or1_mono (or1_mono (ors_mono no_any)))) (xx_new (Nat.le_of_eq hD_) (xx_or1 (xx_or1 (xx_or1 (xx_ors xx_id)))))
   replace hb := Ps.re (X' := (Or1 D_ (Or1 b23 (Or1 e6 (Or1 e5 (Ors L.S No)))))) hb o26 (or1_skip (or1_mono (or1_mono (ors_mono no_any)))) (xx_new (Nat.le_of_eq hD_) (xx_or1 (xx_or1 (xx_or1 (xx_ors xx_id)))))
   replace oW := oW.tail o26 (tl_new g_oW_e6 (tl_new g_oW_e5 (tl_sin (fun k h => h) tl_no)))
   have n_ca_D_ : ca ≠ D_ := by omega
   have n_cb_D_ : cb ≠ D_ := by omega
   have n_cc_D_ : cc ≠ D_ := by omega
   have n_e5_D_ : e5 ≠ D_ := by omega
   have n_e6_D_ : e6 ≠ D_ := by omega
   have n_b23_D_ : b23 ≠ D_ := by omega
   have g_oW_D_ : W.heap.size ≤ D_ := by omega
   have g_o26_D_ : w21.heap.size ≤ D_ := by omega
   refine wpIn_ret ?_
   refine inb_r (then_r ?_)
   refine leave (v := (eN (rowPC bl p pl s (pre.length - 1)))) (marks_ok aD_) (fun w38 o39 => ⟨resS Try.results54 ⟨_, Try.underlying45, rfl⟩ rfl (a17.step (only_mem o39) (fun e => absurd e n_e6_D_)), ?_⟩)
   replace o39 := only_mem o39
   replace hN := hN.stepb o39 in1
   replace hul := hul.stepb o39 in1
   replace hfa := hfa.stepb o39 in1
   replace hb := hb.stepb o39 in1
   replace hca := hca.step o39 (fun e => absurd e n_ca_D_)
   replace hcb := hcb.step o39 (fun e => absurd e n_cb_D_)
   replace hcc := hcc.step o39 (fun e => absurd e n_cc_D_)
   replace a13 := a13.step o39 (fun e => absurd e n_e5_D_)
   replace a17 := a17.step o39 (fun e => absurd e n_e6_D_)
   replace a25 := a25.step o39 (fun e => absurd e n_b23_D_)
   replace oW := oW.tailb o39 g_oW_D_
   replace o26 := o26.tailb o39 g_o26_D_
   have e3_ : pre.length - 1 + 1 = pre.length := by omega
   have hpl_ := pl_len hpx_
   obtain ⟨e1_, e2_⟩ := do_one (T := rowP bl p pl s) (C := rowPC bl p pl s) k0 hC2 hc2 oo; rw [e3_] at e1_; exact ⟨congrArg eN e2_, e1_ ▸ (hN.less (xx_skip (xx_skip (xx_skip (xx_skip xx_id))))), oW⟩
 refine pL ?_
 refine wI (d_move rfl) ?_
 refine wI (d_lenS rfl Try.underlying23 rfl hb) ?_
 refine wI (d_move rfl) ?_
 refine wO (d_call (xl := [.tmp 12]) (al := [(ptr L.bN 0)]) Try.func84 kr rfl rfl rfl (geometry_ok L s _ hN)) ?_
 rintro _ w40 ⟨rfl, o41⟩
 replace hN := hN.step0 o41
 replace hul := hul.step0 o41
 replace hfa := hfa.step0 o41
 replace hb := hb.step0 o41
 replace hca := hca.step0 o41
 replace hcb := hcb.step0 o41
 replace hcc := hcc.step0 o41
 replace a13 := a13.step0 o41
 replace a17 := a17.step0 o41
 replace oW := oW.tail0 o41
 refine wI (d_field (v := (eN s.gD)) Try.underlying49 rfl ⟨_, Try.underlying3, rfl⟩ rfl rfl) ?_
 refine wF ([(ptr L.bN 0), ub, (Value.func (.func 55) #[] #[(ptr ca 0), (ptr cb 0), (ptr cc 0)]), undef, undef, (ptr e5 0), (ptr e6 0), undef, undef, undef, ub, (eN bl.length), (ptr L.bN 0), (Value.agg #[(eN s.gD), (eN s.gB), (eN s.gP)]), (eN s.gD)] ++ (us 12)) ?_
 refine wI (n_neq (a := bl.length) (b := s.gD) rfl rfl (by rw [decide_eq_false k0] <;> rfl)) ?_
 refine wD (tN ?_)
 refine cond_t rfl ?_
 refine wQ (pL ?_)
 refine wO (d_store s_ti45 rfl rfl rfl a17 (nb rfl) rfl) ?_
 rintro _ w42 ⟨a43, o44⟩
 replace hN := hN.stepb o44 in1
 replace hul := hul.stepb o44 in1
 replace hfa := hfa.stepb o44 in1
 replace hb := hb.stepb o44 in1
 replace hca := hca.step o44 (fun e => absurd e n_ca_e6)
 replace hcb := hcb.step o44 (fun e => absurd e n_cb_e6)
 replace hcc := hcc.step o44 (fun e => absurd e n_cc_e6)
 replace a13 := a13.step o44 (fun e => absurd e n_e5_e6)
 replace oW := oW.tailb o44 g_oW_e6
 refine wD (tN ?_)
 refine wpIn_ret ?_
 refine then_r ?_
 refine leave0 (v := (eN 1)) (resS Try.results54 ⟨_, Try.underlying45, rfl⟩ rfl a43) ?_
 obtain ⟨e1_, e2_⟩ := do_no (T := rowP bl p pl s) (C := rowPC bl p pl s) k0; exact ⟨congrArg eN e2_, e1_ ▸ (hN.less (xx_skip (xx_skip xx_id))), oW⟩
theorem eachE_ok (L : NL) (s : NS) {X : Nat → Prop} (W : World) (hN : Nd L s X W) (hX : ∀ k, X k → k < W.heap.size) (bl : List Int) (ub : Value) (hb : Ps (Ors L.S No) (Seq kI bl ub) W) (gb : bl.length ≤ 1000)  :
    CW Try.prog 54 #[(ptr L.bN 0), ub, (Value.func (.func 61) #[(ptr L.bN 0)] #[])] W (Rt (fun u w => u = eN (rowDoC s.gD bl.length (rowEC bl s)) ∧ Nd L (rowDo s.gD bl.length (rowE bl s) (rowEC bl s)) X w ∧ Only L.S W w)) := by
 have oW : Only L.S W W := Only.refl _ _
 refine enter (al := [(ptr L.bN 0), ub, (Value.func (.func 61) #[(ptr L.bN 0)] #[])]) (k := 24) (l := ([(ptr L.bN 0), ub, (Value.func (.func 61) #[(ptr L.bN 0)] #[])] ++ (us 24))) Try.func54 rfl Try.ntmps54 rfl rfl ?_
 refine wQ (pL ?_)
 refine wO (d_box rfl rfl) ?_
 rintro _ w11 ⟨e5, rfl, g12, a13, o14⟩
 have g_oW_e5 : W.heap.size ≤ e5 := Nat.le_trans oW.size g12
 replace hN := hN.new o14 g12
 replace hb := hb.new o14 g12
 replace oW := oW.tail0 o14
 refine wO (d_alloc s_ti45 rfl) ?_
 rintro _ w15 ⟨e6, rfl, g16, a17, o18⟩
 have n_e5_e6 : e5 ≠ e6 := a13.ne g16
 have g_oW_e6 : W.heap.size ≤ e6 := Nat.le_trans oW.size g16
 replace hN := hN.new o18 g16
 replace hb := hb.new o18 g16
 replace a13 := a13.step0 o18
 replace oW := oW.tail0 o18
 refine wD (tN (wQ (wQ ?_)))
 by_cases k0 : bl.length = s.gD
 ·
  refine pL ?_
  refine wI (d_move rfl) ?_
  refine wI (d_lenS rfl Try.underlying23 rfl hb) ?_
  refine wI (d_move rfl) ?_
  refine wO (d_call (xl := [.tmp 12]) (al := [(ptr L.bN 0)]) Try.func84 kr rfl rfl rfl (geometry_ok L s _ hN)) ?_
  rintro _ w19 ⟨rfl, o20⟩
  replace hN := hN.step0 o20
  replace hb := hb.step0 o20
  replace a13 := a13.step0 o20
  replace a17 := a17.step0 o20
  replace oW := oW.tail0 o20
  refine wI (d_field (v := (eN s.gD)) Try.underlying49 rfl ⟨_, Try.underlying3, rfl⟩ rfl rfl) ?_
  refine wF ([(ptr L.bN 0), ub, (Value.func (.func 61) #[(ptr L.bN 0)] #[]), undef, undef, (ptr e5 0), (ptr e6 0), undef, undef, undef, ub, (eN bl.length), (ptr L.bN 0), (Value.agg #[(eN s.gD), (eN s.gB), (eN s.gP)]), (eN s.gD)] ++ (us 12)) ?_
  refine wI (n_neq (a := bl.length) (b := s.gD) rfl rfl (by rw [decide_eq_true k0] <;> rfl)) ?_
  refine wD (tN ?_)
  refine cond_f rfl ?_
  refine wK (tN (wQ (wQ (pL ?_))))
  refine wI (d_move rfl) ?_
  refine wO (d_call (xl := [.tmp 16]) (al := [ub]) Try.func85 kr rfl rfl rfl (placed_ok bl ub _ (Ps.no hb))) ?_
  rintro _ w21 ⟨b23, rfl, g24, a25, o22⟩
  have n_e5_b23 : e5 ≠ b23 := a13.ne g24
  have n_e6_b23 : e6 ≠ b23 := a17.ne g24
  have g_oW_b23 : W.heap.size ≤ b23 := Nat.le_trans oW.size g24
  replace hN := hN.new o22 g24
  replace hb := hb.new o22 g24
  replace a13 := a13.step0 o22
  replace a17 := a17.step0 o22
  replace oW := oW.tail0 o22
  refine wD (tN (wB ?_))
  refine wp_eq (l' := ([(ptr L.bN 0), ub, (Value.func (.func 61) #[(ptr L.bN 0)] #[]), undef, undef, (ptr e5 0), (ptr e6 0), undef, undef, undef, ub, (eN bl.length), (ptr L.bN 0), (Value.agg #[(eN s.gD), (eN s.gB), (eN s.gP)]), (eN s.gD), vF, ub, (Value.func (.func 106) #[] #[(ptr b23 0)])] ++ (us 9))) rfl ?_
  have h_lt_e5 := a13.lt
  have h_lt_e6 := a17.lt
  have h_lt_b23 := a25.lt
  have tq_oW := oW.size
  have nO_b23 : ¬ (Or1 e6 (Or1 e5 (Ors L.S No))) b23 := (not_or1 (Ne.symm n_e6_b23) (not_or1 (Ne.symm n_e5_b23) (not_ors (hN.dis _ in1) not_no)))
  obtain ⟨D_, hD_⟩ : ∃ D_, w21.heap.size = D_ := ⟨_, rfl⟩
  obtain ⟨L_, hL_⟩ : ∃ L_, w21.heap.size + 1 = L_ := ⟨_, rfl⟩
  refine range_ (encs := (fun k => [eN k.1, eI k.2])) (Pv := No) (O := (Or1 e6 (Or1 e5 (Ors L.S No)))) (xs := (plL bl)) (D := D_) (L := L_) (rs := []) hD_ hL_ rfl Try.func106 kr rfl (iter_placed bl ub b23 a25 nO_b23 hb (or1_skip (or1_mono (or1_mono (ors_mono no_any)))) fo) (fun k t => t.elim) (fun _ => rfl) (lt_or1 h_lt_e6 (lt_or1 h_lt_e5 (lt_ors hN.lt lt_no))) (fun (pre : List (Nat × Int)) (w_ : World) => (∀ j, j < pre.length → rowEC bl s j = 0) ∧ Only (Or1 e6 (Or1 e5 (Ors L.S No))) w21 w_ ∧ Arr 90 e5 [(Value.func (.func 61) #[(ptr L.bN 0)] #[])] w_ ∧ Arr 45 e6 [(eN 0)] w_ ∧ Arr 23 b23 [ub] w_ ∧ Nd L (rowE bl s pre.length) (Or1 L_ (Or1 D_ (Or1 b23 (Or1 e6 (Or1 e5 X))))) w_) (fun c_ (pre : List (Nat × Int)) (w_ : World) => c_ = Code.ret ∧ ((∀ j, j < pre.length - 1 → rowEC bl s j = 0) ∧ (¬ rowEC bl s (pre.length - 1) = 0) ∧ (0 < pre.length) ∧ Only (Or1 e6 (Or1 e5 (Ors L.S No))) w21 w_ ∧ Arr 90 e5 [(Value.func (.func 61) #[(ptr L.bN 0)] #[])] w_ ∧ Arr 45 e6 [(eN (rowEC bl s (pre.length - 1)))] w_ ∧ Arr 23 b23 [ub] w_ ∧ Nd L (rowE bl s pre.length) (Or1 L_ (Or1 D_ (Or1 b23 (Or1 e6 (Or1 e5 X))))) w_)) ?_ ?_ ?_ ?_ ?_ ?_
  ·
   rintro pre w_ w2_ ⟨hC, o26, a13, a17, a25, hN⟩ ho_
   exact ⟨hC, o26.tail ho_ (stab_tl hD_ hL_ (fun k t => t.elim)), a13.step ho_ (stab_b hD_ hL_ h_lt_e5 (fun t => t.elim)), a17.step ho_ (stab_b hD_ hL_ h_lt_e6 (fun t => t.elim)), a25.step ho_ (stab_b hD_ hL_ h_lt_b23 (fun t => t.elim)), hN.step ho_ (stab_p (fun k t => t.elim))⟩
  ·
   rintro c_ pre w_ w2_ ⟨hc_, ⟨hC2, hc2, hp2, o26, a13, a17, a25, hN⟩⟩ ho_
   exact ⟨hc_, ⟨hC2, hc2, hp2, o26.tail ho_ (stab_tl hD_ hL_ (fun k t => t.elim)), a13.step ho_ (stab_b hD_ hL_ h_lt_e5 (fun t => t.elim)), a17.step ho_ (stab_b hD_ hL_ h_lt_e6 (fun t => t.elim)), a25.step ho_ (stab_b hD_ hL_ h_lt_b23 (fun t => t.elim)), hN.step ho_ (stab_p (fun k t => t.elim))⟩⟩
  ·
   refine ⟨?_, ?_, ?_, ?_, ?_, ?_⟩
   ·
    exact fun j hj => absurd hj (Nat.not_lt_zero j)
   ·
    exact Only.refl _ _
   ·
    exact a13
   ·
    exact a17
   ·
    exact a25
   ·
    exact Nd.less (hN : Nd L (rowE bl s 0) _ _) (xx_new oo (xx_new (Nat.le_of_eq hD_) xx_id))
  ·
   intro pre k w1_ hpx_ hI_ hL1_
   obtain ⟨hC, o26, a13, a17, a25, hN⟩ := hI_
   replace hb := Ps.re (X' := (Or1 L_ (Or1 D_ (Or1 b23 (Or1 e6 (Or1 e5 (Ors L.S No))))))) hb o26 (or1_skip (or1_mono (or1_mono (ors_mono no_any)))) (xx_new oo (xx_new (Nat.le_of_eq hD_) (xx_or1 (xx_or1 (xx_or1 (xx_ors xx_id))))))
   replace oW := oW.tail o26 (tl_new g_oW_e6 (tl_new g_oW_e5 (tl_sin (fun k h => h) tl_no)))
   have n_e5_D_ : e5 ≠ D_ := by omega
   have n_e6_D_ : e6 ≠ D_ := by omega
   have n_b23_D_ : b23 ≠ D_ := by omega
   have g_oW_D_ : W.heap.size ≤ D_ := by omega
   have g_o26_D_ : w21.heap.size ≤ D_ := by omega
   have n_e5_L_ : e5 ≠ L_ := by omega
   have n_e6_L_ : e6 ≠ L_ := by omega
   have n_b23_L_ : b23 ≠ L_ := by omega
   have g_oW_L_ : W.heap.size ≤ L_ := by omega
   have g_o26_L_ : w21.heap.size ≤ L_ := by omega
   have n_D__L_ : D_ ≠ L_ := by omega
   have aL_ : Dead L_ w1_ := hL1_
   have aD_ : Dead D_ w1_ := by unfold Dead; omega
   refine wp_eq (l' := ([(ptr L.bN 0), ub, (Value.func (.func 61) #[(ptr L.bN 0)] #[]), undef, undef, (ptr e5 0), (ptr e6 0), undef, undef, undef, ub, (eN bl.length), (ptr L.bN 0), (Value.agg #[(eN s.gD), (eN s.gB), (eN s.gP)]), (eN s.gD), vF, ub, (Value.func (.func 106) #[] #[(ptr b23 0)]), (eN k.1), (eI k.2)] ++ (us 7))) kr ?_
   refine wQ (pL ?_)
   refine wI (d_assign rfl) ?_
   refine wD (tN (pL ?_))
   refine wI (d_assign rfl) ?_
   refine wD (tN ?_)
   refine ⟨Only.refl _ _, fun w2_ oL_ _ => ?_⟩
   replace hN := hN.stepb oL_ in1
   replace hb := hb.stepb oL_ in1
   replace a13 := a13.step oL_ (fun e => absurd e n_e5_L_)
   replace a17 := a17.step oL_ (fun e => absurd e n_e6_L_)
   replace a25 := a25.step oL_ (fun e => absurd e n_b23_L_)
   replace aD_ := aD_.step oL_ (fun e => absurd e n_D__L_)
   replace oW := oW.tailb oL_ g_oW_L_
   replace o26 := o26.tailb oL_ g_o26_L_
   replace aL_ : Dead L_ w2_ := Nat.lt_of_lt_of_le aL_ oL_.size
   have oR_ : Only (fun k => (Or1 e6 (Or1 e5 (Ors L.S No))) k ∨ L_ < k) w2_ w2_ := Only.refl _ _
   obtain ⟨k1_, k2_⟩ := k
   obtain ⟨hk1_, hk2_⟩ := pre_pl hpx_
   injection hk2_ with hk3_ hk4_
   subst hk3_ hk4_
   refine wp_eq (l' := ([(ptr L.bN 0), ub, (Value.func (.func 61) #[(ptr L.bN 0)] #[]), undef, undef, (ptr e5 0), (ptr e6 0), (eN pre.length), (eI (bl.getD pre.length 0)), undef, ub, (eN bl.length), (ptr L.bN 0), (Value.agg #[(eN s.gD), (eN s.gB), (eN s.gP)]), (eN s.gD), vF, ub, (Value.func (.func 106) #[] #[(ptr b23 0)]), (eN pre.length), (eI (bl.getD pre.length 0))] ++ (us 7))) rfl ?_
   refine wB (wQ ?_)
   refine wp_eq (l' := ([(ptr L.bN 0), ub, (Value.func (.func 61) #[(ptr L.bN 0)] #[]), undef, undef, (ptr e5 0), (ptr e6 0), (eN pre.length), (eI (bl.getD pre.length 0)), undef, ub, (eN bl.length), (ptr L.bN 0), (Value.agg #[(eN s.gD), (eN s.gB), (eN s.gP)]), (eN s.gD), vF, ub, (Value.func (.func 106) #[] #[(ptr b23 0)]), (eN pre.length), (eI (bl.getD pre.length 0))] ++ (us 7))) rfl ?_
   refine pL ?_
   refine wI (d_load (v := (Value.func (.func 61) #[(ptr L.bN 0)] #[])) ⟨_, Try.underlying90, rfl⟩ rfl a13 rfl) ?_
   refine wI (d_move rfl) ?_
   refine wI (d_move rfl) ?_
   refine wO (d_callB (xl := [.tmp 21, .tmp 22]) (al := [(eN pre.length), (eI (bl.getD pre.length 0))]) rfl Try.func61 kr rfl rfl rfl (erase_ok L (rowE bl s pre.length) _ hN (pre.length : Int) (bl.getD pre.length 0) (lt_or1 aL_.lt (lt_or1 aD_.lt (lt_or1 a25.lt (lt_or1 a17.lt (lt_or1 a13.lt (fun k t => Nat.lt_of_lt_of_le (hX k t) oW.size)))))))) ?_
   rintro _ w27 ⟨rfl, a29, o28⟩
   replace a13 := a13.step o28 (hN.dis _ (in2 (in2 (in2 (in2 in1)))))
   replace a17 := a17.step o28 (hN.dis _ (in2 (in2 (in2 in1))))
   replace a25 := a25.step o28 (hN.dis _ (in2 (in2 in1)))
   replace aD_ := aD_.step o28 (hN.dis _ (in2 in1))
   replace aL_ := aL_.step o28 (hN.dis _ in1)
   replace hb := hb.step o28 (sub2 (sub2 (sub2 (sub2 (sub2 sub1)))))
   replace oW := oW.tail o28 (fun k _ e => (fun k h => h) k e)
   replace o26 := o26.tail o28 (fun k _ e => (sub2 (sub2 sub1)) k e)
   replace oR_ := oR_.tail o28 (fun k _ e => (fun k h => Or.inl ((sub2 (sub2 sub1)) k h)) k e)
   replace hN := a29
   refine wI (d_assign rfl) ?_
   refine wF [(ptr L.bN 0), ub, (Value.func (.func 61) #[(ptr L.bN 0)] #[]), undef, undef, (ptr e5 0), (ptr e6 0), (eN pre.length), (eI (bl.getD pre.length 0)), (eN ((rowE bl s pre.length).eraseR (pre.length : Int) (bl.getD pre.length 0))), ub, (eN bl.length), (ptr L.bN 0), (Value.agg #[(eN s.gD), (eN s.gB), (eN s.gP)]), (eN s.gD), vF, ub, (Value.func (.func 106) #[] #[(ptr b23 0)]), (eN pre.length), (eI (bl.getD pre.length 0)), (Value.func (.func 61) #[(ptr L.bN 0)] #[]), (eN pre.length), (eI (bl.getD pre.length 0)), (eN ((rowE bl s pre.length).eraseR (pre.length : Int) (bl.getD pre.length 0))), undef, undef, undef] ?_
   refine wD (tN (wQ (pL ?_)))
   refine wI (d_move rfl) ?_
   refine wI (n_neq (a := ((rowE bl s pre.length).eraseR (pre.length : Int) (bl.getD pre.length 0))) (b := 0) rfl rfl rfl) ?_
   refine wF [(ptr L.bN 0), ub, (Value.func (.func 61) #[(ptr L.bN 0)] #[]), undef, undef, (ptr e5 0), (ptr e6 0), (eN pre.length), (eI (bl.getD pre.length 0)), (eN ((rowE bl s pre.length).eraseR (pre.length : Int) (bl.getD pre.length 0))), ub, (eN bl.length), (ptr L.bN 0), (Value.agg #[(eN s.gD), (eN s.gB), (eN s.gP)]), (eN s.gD), vF, ub, (Value.func (.func 106) #[] #[(ptr b23 0)]), (eN pre.length), (eI (bl.getD pre.length 0)), (Value.func (.func 61) #[(ptr L.bN 0)] #[]), (eN pre.length), (eI (bl.getD pre.length 0)), (eN ((rowE bl s pre.length).eraseR (pre.length : Int) (bl.getD pre.length 0))), (eN ((rowE bl s pre.length).eraseR (pre.length : Int) (bl.getD pre.length 0))), (Value.bool (!decide (((rowE bl s pre.length).eraseR (pre.length : Int) (bl.getD pre.length 0)) = 0))), undef] ?_
   refine wD (tN ?_)
   refine cond_un rfl (fun ce_ => ?_) (fun ce_ => ?_)
   ·
    refine wQ (pL ?_)
    refine wI (d_move rfl) ?_
    refine wO (d_store s_ti45 rfl rfl rfl a17 (nb rfl) rfl) ?_
    rintro _ w30 ⟨a31, o32⟩
    replace hN := hN.stepb o32 (in2 (in2 (in2 in1)))
    replace hb := hb.stepb o32 (in2 (in2 (in2 in1)))
    replace a13 := a13.step o32 (fun e => absurd e n_e5_e6)
    replace a25 := a25.step o32 (fun e => absurd e (Ne.symm n_e6_b23))
    replace aD_ := aD_.step o32 (fun e => absurd e (Ne.symm n_e6_D_))
    replace aL_ := aL_.step o32 (fun e => absurd e (Ne.symm n_e6_L_))
    replace oW := oW.tailb o32 g_oW_e6
    replace o26 := o26.tail o32 (fun k _ e => by have : k = e6 := e; rw [this]; exact in1)
    replace oR_ := oR_.tail o32 (fun k _ e => by have : k = e6 := e; rw [this]; exact (Or.inl in1))
    refine wF [(ptr L.bN 0), ub, (Value.func (.func 61) #[(ptr L.bN 0)] #[]), undef, undef, (ptr e5 0), (ptr e6 0), (eN pre.length), (eI (bl.getD pre.length 0)), (eN ((rowE bl s pre.length).eraseR (pre.length : Int) (bl.getD pre.length 0))), ub, (eN bl.length), (ptr L.bN 0), (Value.agg #[(eN s.gD), (eN s.gB), (eN s.gP)]), (eN s.gD), vF, ub, (Value.func (.func 106) #[] #[(ptr b23 0)]), (eN pre.length), (eI (bl.getD pre.length 0)), (Value.func (.func 61) #[(ptr L.bN 0)] #[]), (eN pre.length), (eI (bl.getD pre.length 0)), (eN ((rowE bl s pre.length).eraseR (pre.length : Int) (bl.getD pre.length 0))), (eN ((rowE bl s pre.length).eraseR (pre.length : Int) (bl.getD pre.length 0))), (Value.bool (!decide (((rowE bl s pre.length).eraseR (pre.length : Int) (bl.getD pre.length 0)) = 0))), (eN ((rowE bl s pre.length).eraseR (pre.length : Int) (bl.getD pre.length 0)))] ?_
    refine wD (tN ?_)
    refine wpIn_ret ?_
    refine inb_r ?_
    refine ⟨oR_, rfl, ?_, ?_, ?_, ?_, ?_, ?_, ?_, ?_⟩
    ·
     (try dsimp only)
     all_goals (rw [List.length_append, List.length_singleton, Nat.add_sub_cancel]; exact hC)
    ·
     (try dsimp only)
     all_goals (rw [List.length_append, List.length_singleton, Nat.add_sub_cancel]; exact ce_)
    ·
     (try dsimp only)
     all_goals (rw [List.length_append, List.length_singleton]; omega)
    ·
     exact o26
    ·
     exact a13
    ·
     (try dsimp only)
     all_goals (rw [List.length_append, List.length_singleton, Nat.add_sub_cancel]; exact a31)
    ·
     exact a25
    ·
     (try dsimp only)
     all_goals (exact (by rw [List.length_append, List.length_singleton]; exact hN.less (xx_or1 (xx_or1 (xx_or1 (xx_or1 (xx_or1 xx_id)))))))
   refine wK ?_
   refine inb_n ?_
   refine ⟨oR_, ?_, ?_, ?_, ?_, ?_, ?_⟩
   ·
    (try dsimp only)
    all_goals (exact fun j hj => by rw [List.length_append, List.length_singleton] at hj; exact (Nat.lt_succ_iff_lt_or_eq.1 hj).elim (hC j) (fun e => by rw [e]; exact ce_))
   ·
    exact o26
   ·
    exact a13
   ·
    exact a17
   ·
    exact a25
   ·
    (try dsimp only)
    all_goals (exact (by rw [List.length_append, List.length_singleton]; exact hN.less (xx_or1 (xx_or1 (xx_or1 (xx_or1 (xx_or1 xx_id)))))))
  ·
   intro w1_ hI_ aD_
   obtain ⟨hC, o26, a13, a17, a25, hN⟩ := hI_
   replace hN := hN.less (Y := (Or1 D_ (Or1 b23 (Or1 e6 (Or1 e5 X))))) (xx_skip xx_id)
   replace hb := Ps.re (X' := (Or1 D_ (Or1 b23 (Or1 e6 (Or1 e5 (Ors L.S No)))))) hb o26 (or1_skip (or1_mono (or1_mono (ors_mono no_any)))) (xx_new (Nat.le_of_eq hD_) (xx_or1 (xx_or1 (xx_or1 (xx_ors xx_id)))))
   replace oW := oW.tail o26 (tl_new g_oW_e6 (tl_new g_oW_e5 (tl_sin (fun k h => h) tl_no)))
   have n_e5_D_ : e5 ≠ D_ := by omega
   have n_e6_D_ : e6 ≠ D_ := by omega
   have n_b23_D_ : b23 ≠ D_ := by omega
   have g_oW_D_ : W.heap.size ≤ D_ := by omega
   have g_o26_D_ : w21.heap.size ≤ D_ := by omega
   rw [plL_len] at hC
   replace hN := nd_to hN (show _ = (rowE bl s bl.length) from by rw [plL_len])
   refine inb_n (tN ?_)
   refine wQ (pL ?_)
   refine wO (d_store s_ti45 rfl rfl rfl a17 (nb rfl) rfl) ?_
   rintro _ w33 ⟨a34, o35⟩
   replace hN := hN.stepb o35 (in2 (in2 in1))
   replace hb := hb.stepb o35 (in2 (in2 in1))
   replace a13 := a13.step o35 (fun e => absurd e n_e5_e6)
   replace a25 := a25.step o35 (fun e => absurd e (Ne.symm n_e6_b23))
   replace aD_ := aD_.step o35 (fun e => absurd e (Ne.symm n_e6_D_))
   replace oW := oW.tailb o35 g_oW_e6
   replace o26 := o26.tail o35 (fun k _ e => by have : k = e6 := e; rw [this]; exact in1)
   refine wD (tN ?_)
   refine wpIn_ret ?_
   refine leave (v := (eN 0)) (marks_ok aD_) (fun w36 o37 => ⟨resS Try.results54 ⟨_, Try.underlying45, rfl⟩ rfl (a34.step (only_mem o37) (fun e => absurd e n_e6_D_)), ?_⟩)
   replace o37 := only_mem o37
   replace hN := hN.stepb o37 in1
   replace hb := hb.stepb o37 in1
   replace a13 := a13.step o37 (fun e => absurd e n_e5_D_)
   replace a34 := a34.step o37 (fun e => absurd e n_e6_D_)
   replace a25 := a25.step o37 (fun e => absurd e n_b23_D_)
   replace oW := oW.tailb o37 g_oW_D_
   replace o26 := o26.tailb o37 g_o26_D_
   obtain ⟨e1_, e2_⟩ := do_all (T := rowE bl s) (C := rowEC bl s) k0 hC; exact ⟨congrArg eN e2_, e1_ ▸ (hN.less (xx_skip (xx_skip (xx_skip (xx_skip xx_id))))), oW⟩
  ·
   rintro c_ pre w1_ hpx_ ⟨rfl, ⟨hC2, hc2, hp2, o26, a13, a17, a25, hN⟩⟩ aD_
   replace hN := hN.less (Y := (Or1 D_ (Or1 b23 (Or1 e6 (Or1 e5 X))))) (xx_skip xx_id)
   replace hb := Ps.re (X' := (Or1 D_ (Or1 b23 (Or1 e6 (Or1 e5 (Ors L.S No)))))) hb o26 (or1_skip (or1_mono (or1_mono (ors_mono no_any)))) (xx_new (Nat.le_of_eq hD_) (xx_or1 (xx_or1 (xx_or1 (xx_ors xx_id)))))
   replace oW := oW.tail o26 (tl_new g_oW_e6 (tl_new g_oW_e5 (tl_sin (fun k h => h) tl_no)))
   have n_e5_D_ : e5 ≠ D_ := by omega
   have n_e6_D_ : e6 ≠ D_ := by omega
   have n_b23_D_ : b23 ≠ D_ := by omega
   have g_oW_D_ : W.heap.size ≤ D_ := by omega
   have g_o26_D_ : w21.heap.size ≤ D_ := by omega
   refine wpIn_ret ?_
   refine inb_r (then_r ?_)
   refine leave (v := (eN (rowEC bl s (pre.length - 1)))) (marks_ok aD_) (fun w38 o39 => ⟨resS Try.results54 ⟨_, Try.underlying45, rfl⟩ rfl (a17.step (only_mem o39) (fun e => absurd e n_e6_D_)), ?_⟩)
   replace o39 := only_mem o39
   replace hN := hN.stepb o39 in1
   replace hb := hb.stepb o39 in1
   replace a13 := a13.step o39 (fun e => absurd e n_e5_D_)
   replace a17 := a17.step o39 (fun e => absurd e n_e6_D_)
   replace a25 := a25.step o39 (fun e => absurd e n_b23_D_)
   replace oW := oW.tailb o39 g_oW_D_
   replace o26 := o26.tailb o39 g_o26_D_
   have e3_ : pre.length - 1 + 1 = pre.length := by omega
   have hpl_ := pl_len hpx_
   obtain ⟨e1_, e2_⟩ := do_one (T := rowE bl s) (C := rowEC bl s) k0 hC2 hc2 oo; rw [e3_] at e1_; exact ⟨congrArg eN e2_, e1_ ▸ (hN.less (xx_skip (xx_skip (xx_skip (xx_skip xx_id))))), oW⟩
 refine pL ?_
 refine wI (d_move rfl) ?_
 refine wI (d_lenS rfl Try.underlying23 rfl hb) ?_
 refine wI (d_move rfl) ?_
 refine wO (d_call (xl := [.tmp 12]) (al := [(ptr L.bN 0)]) Try.func84 kr rfl rfl rfl (geometry_ok L s _ hN)) ?_
 rintro _ w40 ⟨rfl, o41⟩
 replace hN := hN.step0 o41
 replace hb := hb.step0 o41
 replace a13 := a13.step0 o41
 replace a17 := a17.step0 o41
 replace oW := oW.tail0 o41
 refine wI (d_field (v := (eN s.gD)) Try.underlying49 rfl ⟨_, Try.underlying3, rfl⟩ rfl rfl) ?_
 refine wF ([(ptr L.bN 0), ub, (Value.func (.func 61) #[(ptr L.bN 0)] #[]), undef, undef, (ptr e5 0), (ptr e6 0), undef, undef, undef, ub, (eN bl.length), (ptr L.bN 0), (Value.agg #[(eN s.gD), (eN s.gB), (eN s.gP)]), (eN s.gD)] ++ (us 12)) ?_
 refine wI (n_neq (a := bl.length) (b := s.gD) rfl rfl (by rw [decide_eq_false k0] <;> rfl)) ?_
 refine wD (tN ?_)
 refine cond_t rfl ?_
 refine wQ (pL ?_)
 refine wO (d_store s_ti45 rfl rfl rfl a17 (nb rfl) rfl) ?_
 rintro _ w42 ⟨a43, o44⟩
 replace hN := hN.stepb o44 in1
 replace hb := hb.stepb o44 in1
 replace a13 := a13.step o44 (fun e => absurd e n_e5_e6)
 replace oW := oW.tailb o44 g_oW_e6
 refine wD (tN ?_)
 refine wpIn_ret ?_
 refine then_r ?_
 refine leave0 (v := (eN 1)) (resS Try.results54 ⟨_, Try.underlying45, rfl⟩ rfl a43) ?_
 obtain ⟨e1_, e2_⟩ := do_no (T := rowE bl s) (C := rowEC bl s) k0; exact ⟨congrArg eN e2_, e1_ ▸ (hN.less (xx_skip (xx_skip xx_id))), oW⟩
theorem rowWrite_ok (L : NL) (s : NS) {X : Nat → Prop} (W : World) (hN : Nd L s X W) (hX : ∀ k, X k → k < W.heap.size) (bl : List Int) (ub : Value) (hb : Ps (Ors L.S No) (Seq kI bl ub) W) (gb : bl.length ≤ 1000) (n : Nat) (p : Int) (vs : List Value) (pl : Nat → List UInt8) (ul : Value) (hul : Ps (Ors L.S No) (Seq (kS eV) vs ul) W) (hfa : Ps (Ors L.S No) (Fam kB n pl vs) W) (hvs : vs.length = n) (gpl : ∀ j, (pl j).length ≤ 1048576) :
    CW Try.prog 32 #[(ptr L.bN 0), ub, (eI p), ul] W (Rt (fun u w => u = eN (rowWC s bl p pl n) ∧ Nd L (rowWS s bl p pl n) X w ∧ Only L.S W w)) := by
 have oW : Only L.S W W := Only.refl _ _
 refine enter (al := [(ptr L.bN 0), ub, (eI p), ul]) (k := 17) (l := ([(ptr L.bN 0), ub, (eI p), ul] ++ (us 17))) Try.func32 rfl Try.ntmps32 rfl rfl ?_
 refine wQ (pL ?_)
 refine wO (d_box rfl rfl) ?_
 rintro _ w11 ⟨cb, rfl, g12, a13, o14⟩
 have g_oW_cb : W.heap.size ≤ cb := Nat.le_trans oW.size g12
 replace hN := hN.new o14 g12
 replace hb := hb.new o14 g12
 replace hul := hul.new o14 g12
 replace hfa := hfa.new o14 g12
 replace oW := oW.tail0 o14
 refine wO (d_box rfl (Seq.cells hul)) ?_
 rintro _ w15 ⟨cc, rfl, g16, a17, o18⟩
 have n_cb_cc : cb ≠ cc := a13.ne g16
 have g_oW_cc : W.heap.size ≤ cc := Nat.le_trans oW.size g16
 replace hN := hN.new o18 g16
 replace hb := hb.new o18 g16
 replace hul := hul.new o18 g16
 replace hfa := hfa.new o18 g16
 replace a13 := a13.step0 o18
 replace oW := oW.tail0 o18
 refine wI (d_assign rfl) ?_
 refine wD (tN (wQ (wQ ?_)))
 by_cases k0 : vs.length = bl.length
 ·
  refine pL ?_
  refine wI (d_load (v := ul) ⟨_, Try.underlying29, rfl⟩ rfl a17 rfl) ?_
  refine wI (d_lenS rfl Try.underlying29 rfl hul) ?_
  refine wI (d_move rfl) ?_
  refine wI (d_lenS rfl Try.underlying23 rfl hb) ?_
  refine wF ([(ptr L.bN 0), ub, (eI p), ul, undef, undef, (ptr cb 0), (ptr cc 0), (eN 0), undef, ul, (eN vs.length), ub, (eN bl.length)] ++ (us 7)) ?_
  refine wI (n_neq (a := vs.length) (b := bl.length) rfl rfl (by rw [decide_eq_true k0] <;> rfl)) ?_
  refine wD (tN ?_)
  refine cond_f rfl ?_
  refine wK (tN ?_)
  refine forget (fun zf19 => ([(ptr L.bN 0), ub, (zf19 2), (zf19 3), (zf19 4), (zf19 5), (ptr cb 0), (ptr cc 0)] ++ (zs zf19 8 13))) kr (fun zf19 => ?_)
  refine wQ (pL ?_)
  refine wI (d_move rfl) ?_
  refine wI (d_funcB (yl := [.tmp 15]) (ys := [(ptr L.bN 0)]) rfl) ?_
  refine wO (d_alloc s_ti88 rfl) ?_
  rintro _ w20 ⟨ca, rfl, g21, a22, o23⟩
  have n_cb_ca : cb ≠ ca := a13.ne g21
  have n_cc_ca : cc ≠ ca := a17.ne g21
  have g_oW_ca : W.heap.size ≤ ca := Nat.le_trans oW.size g21
  replace hN := hN.new o23 g21
  replace hb := hb.new o23 g21
  replace hul := hul.new o23 g21
  replace hfa := hfa.new o23 g21
  replace a13 := a13.step0 o23
  replace a17 := a17.step0 o23
  replace oW := oW.tail0 o23
  refine wO (d_store s_ti88 rfl rfl rfl a22 (nb rfl) rfl) ?_
  rintro _ w24 ⟨a25, o26⟩
  replace hN := hN.stepb o26 in1
  replace hb := hb.stepb o26 in1
  replace hul := hul.stepb o26 in1
  replace hfa := hfa.stepb o26 in1
  replace a13 := a13.step o26 (fun e => absurd e n_cb_ca)
  replace a17 := a17.step o26 (fun e => absurd e n_cc_ca)
  replace oW := oW.tailb o26 g_oW_ca
  refine wD (tN (wQ (pL ?_)))
  refine wI (d_move rfl) ?_
  refine wI (d_move rfl) ?_
  refine wI (d_funcL (yl := [.tmp 9, .tmp 6, .tmp 7]) (ys := [(ptr ca 0), (ptr cb 0), (ptr cc 0)]) rfl) ?_
  refine wF ([(ptr L.bN 0), ub, (zf19 2), (zf19 3), (zf19 4), (zf19 5), (ptr cb 0), (ptr cc 0), (zf19 8), (ptr ca 0)] ++ (zs zf19 10 5 ++ [(ptr L.bN 0), (Value.func (.func 53) #[(ptr L.bN 0)] #[]), (ptr L.bN 0), ub, (Value.func (.func 55) #[] #[(ptr ca 0), (ptr cb 0), (ptr cc 0)]), (zf19 20)])) ?_
  refine wO (d_call (xl := [.tmp 17, .tmp 18, .tmp 19]) (al := [(ptr L.bN 0), ub, (Value.func (.func 55) #[] #[(ptr ca 0), (ptr cb 0), (ptr cc 0)])]) Try.func54 kr rfl rfl rfl (eachW_ok L s _ hN (lt_or1 a25.lt (lt_or1 a17.lt (lt_or1 a13.lt (fun k t => Nat.lt_of_lt_of_le (hX k t) oW.size)))) bl ub (hb.less (os_of (sub2 (sub2 (sub2 sub1))))) fo n oo p vs pl ul ca cb cc a25 in1 a13 (in2 (in2 in1)) a17 (in2 in1) (Ne.symm n_cb_ca) (Ne.symm n_cc_ca) n_cb_cc (hul.less (os_of (sub2 (sub2 (sub2 sub1))))) (hfa.less (os_of (sub2 (sub2 (sub2 sub1))))) hvs gpl)) ?_
  rintro _ w27 ⟨rfl, a29, o28⟩
  replace a13 := a13.step o28 (hN.dis _ (in2 (in2 in1)))
  replace a17 := a17.step o28 (hN.dis _ (in2 in1))
  replace a25 := a25.step o28 (hN.dis _ in1)
  replace hb := hb.step o28 (sub2 (sub2 (sub2 sub1)))
  replace hul := hul.step o28 (sub2 (sub2 (sub2 sub1)))
  replace hfa := hfa.step o28 (sub2 (sub2 (sub2 sub1)))
  replace oW := oW.tail o28 (fun k _ e => (fun k h => h) k e)
  replace hN := a29
  refine wI (d_assign rfl) ?_
  refine wD (tN ?_)
  refine forget (fun zf30 => (zs zf30 0 8 ++ [(eN (rowDoC s.gD bl.length (rowPC bl p pl s)))] ++ (zs zf30 9 12))) kr (fun zf30 => ?_)
  refine wpIn_ret ?_
  refine leave0 (v := (eN (rowDoC s.gD bl.length (rowPC bl p pl s)))) (res1 Try.results32 rfl) ?_
  rw [hvs] at k0
  exact ⟨congrArg eN (by unfold rowWC; rw [if_pos k0]), by unfold rowWS; rw [if_pos k0]; exact (hN.less (xx_skip (xx_skip (xx_skip xx_id)))), oW⟩
 refine pL ?_
 refine wI (d_load (v := ul) ⟨_, Try.underlying29, rfl⟩ rfl a17 rfl) ?_
 refine wI (d_lenS rfl Try.underlying29 rfl hul) ?_
 refine wI (d_move rfl) ?_
 refine wI (d_lenS rfl Try.underlying23 rfl hb) ?_
 refine wF ([(ptr L.bN 0), ub, (eI p), ul, undef, undef, (ptr cb 0), (ptr cc 0), (eN 0), undef, ul, (eN vs.length), ub, (eN bl.length)] ++ (us 7)) ?_
 refine wI (n_neq (a := vs.length) (b := bl.length) rfl rfl (by rw [decide_eq_false k0] <;> rfl)) ?_
 refine wD (tN ?_)
 refine cond_t rfl ?_
 refine wQ (pL ?_)
 refine wI (d_assign rfl) ?_
 refine wD (tN ?_)
 refine forget (fun zf31 => (zs zf31 0 8 ++ [(eN 1)] ++ (zs zf31 9 12))) kr (fun zf31 => ?_)
 refine wpIn_ret ?_
 refine then_r ?_
 refine leave0 (v := (eN 1)) (res1 Try.results32 rfl) ?_
 rw [hvs] at k0
 exact ⟨congrArg eN (by unfold rowWC; rw [if_neg k0]), by unfold rowWS; rw [if_neg k0]; exact (hN.less (xx_skip (xx_skip xx_id))), oW⟩
theorem rowErase_ok (L : NL) (s : NS) {X : Nat → Prop} (W : World) (hN : Nd L s X W) (hX : ∀ k, X k → k < W.heap.size) (bl : List Int) (ub : Value) (hb : Ps (Ors L.S No) (Seq kI bl ub) W) (gb : bl.length ≤ 1000) :
    CW Try.prog 37 #[(ptr L.bN 0), ub] W (Rt (fun u w => u = eN (rowDoC s.gD bl.length (rowEC bl s)) ∧ Nd L (rowDo s.gD bl.length (rowE bl s) (rowEC bl s)) X w ∧ Only L.S W w)) := by
 have oW : Only L.S W W := Only.refl _ _
 refine enter (al := [(ptr L.bN 0), ub]) (k := 8) (l := ([(ptr L.bN 0), ub] ++ (us 8))) Try.func37 rfl Try.ntmps37 rfl rfl ?_
 refine wQ (pL ?_)
 refine wI (d_assign rfl) ?_
 refine wD (tN (wQ (pL ?_)))
 refine wI (d_move rfl) ?_
 refine wI (d_move rfl) ?_
 refine wI (d_move rfl) ?_
 refine wI (d_funcB (yl := [.tmp 7]) (ys := [(ptr L.bN 0)]) rfl) ?_
 refine wO (d_call (xl := [.tmp 5, .tmp 6, .tmp 8]) (al := [(ptr L.bN 0), ub, (Value.func (.func 61) #[(ptr L.bN 0)] #[])]) Try.func54 kr rfl rfl rfl (eachE_ok L s _ hN (fun k t => Nat.lt_of_lt_of_le (hX k t) oW.size) bl ub (hb.less (os_of sub1)) fo)) ?_
 rintro _ w11 ⟨rfl, a13, o12⟩
 replace hb := hb.step o12 sub1
 replace oW := oW.tail o12 (fun k _ e => (fun k h => h) k e)
 replace hN := a13
 refine wI (d_assign rfl) ?_
 refine wF [(ptr L.bN 0), ub, undef, undef, (eN (rowDoC s.gD bl.length (rowEC bl s))), (ptr L.bN 0), ub, (ptr L.bN 0), (Value.func (.func 61) #[(ptr L.bN 0)] #[]), (eN (rowDoC s.gD bl.length (rowEC bl s)))] ?_
 refine wD (tN ?_)
 refine wpIn_ret ?_
 refine leave0 (v := (eN (rowDoC s.gD bl.length (rowEC bl s)))) (res1 Try.results37 rfl) ?_
 exact ⟨rfl, hN, oW⟩
theorem read1_ok (L : NL) (s : NS) {X : Nat → Prop} (W : World) (hN : Nd L s X W) (hX : ∀ k, X k → k < W.heap.size) (d : Nat) (b p : Int) (bo : Option Nat) (uo : Value) (xs : List (Nat × Value)) (cn cp : Nat) (hcn : Arr 44 cn [(ptr L.bN 0)] W) (hX_cn : X cn) (hcp : Arr 3 cp [(eI p)] W) (hX_cp : X cp) (n_cn_cp : cn ≠ cp) (oc : Nat) (hoc : Arr 53 oc [uo] W) (hX_oc : X oc) (hro : Ow 32 2 bo uo (xs).length ((xs).flatMap eG) W) (hXq : ∀ k, bo = some k → X k) (n_cn_oc : cn ≠ oc) (n_cp_oc : cp ≠ oc) (nq_out_cn : ∀ x, bo = some x → ¬ x = cn) (nq_out_cp : ∀ x, bo = some x → ¬ x = cp) (nq_out_oc : ∀ x, bo = some x → ¬ x = oc) (gx : xs.length ≤ 1000) :
    CW Try.prog 56 #[(eN d), (eI b), (ptr cn 0), (ptr cp 0), (ptr oc 0)] W (Rt (fun u w => ∃ bo' u' v, u = eN (s.askR (s.readOk (d : Int) b p)) ∧ Nd L (s.ask (s.readOk (d : Int) b p)) (Orq bo' X) w ∧ Arr 53 oc [u'] w ∧ Ow 32 2 bo' u' (xs ++ [((pgD (s.readL (d : Int) b p)).1, v)]).length ((xs ++ [((pgD (s.readL (d : Int) b p)).1, v)]).flatMap eG) w ∧ Ps (Orq bo' (Old W.heap.size)) (Seq kB (pgD (s.readL (d : Int) b p)).2 v) w ∧ Fr bo' bo W.heap.size ∧ Only (Or1 oc (Orq bo L.S)) W w)) := by
 have oW : Only (Or1 oc (Orq bo L.S)) W W := Only.refl _ _
 refine enter (al := [(eN d), (eI b), (ptr cn 0), (ptr cp 0), (ptr oc 0)]) (k := 19) (l := ([(eN d), (eI b), (ptr cn 0), (ptr cp 0), (ptr oc 0)] ++ (us 19))) Try.func56 rfl Try.ntmps56 rfl rfl ?_
 replace hN : Nd L s (Orq bo (Or1 oc X)) W := Nd.less hN (fun k _ t => t.elim (hXq k) (fun t => t.elim (fun e => e ▸ hX_oc) id))
 have q_oW_out : Fr bo bo W.heap.size := Fr.same
 refine wQ (pL ?_)
 refine wI (d_assign rfl) ?_
 refine wD (tN (wQ ?_))
 have rl_ := readL_le hN.ok (d : Int) b p
 refine pL ?_
 refine wI (d_load (v := (ptr L.bN 0)) ⟨_, Try.underlying44, rfl⟩ rfl hcn rfl) ?_
 refine wI (d_move rfl) ?_
 refine wI (d_move rfl) ?_
 refine wI (d_load (v := (eI p)) ⟨_, Try.underlying3, rfl⟩ rfl hcp rfl) ?_
 refine wO (d_call (xl := [.tmp 11, .tmp 12, .tmp 13, .tmp 14]) (al := [(ptr L.bN 0), (eN d), (eI b), (eI p)]) Try.func57 kr rfl rfl rfl (read_ok L s _ hN (d : Int) b p (lt_orq hro.lts (lt_or1 hoc.lt (fun k t => Nat.lt_of_lt_of_le (hX k t) oW.size))))) ?_
 rintro _ w11 ⟨u13, rfl, f14, a15, o12⟩
 replace f14 := f14.less (Y := (Ors L.S (Orq bo (Or1 oc (Old W.heap.size))))) (ors_old hN.lt (orq_old hro.lts (or1_old hoc.lt (old_old oW.size))))
 replace hcn := hcn.step o12 (hN.dis _ (inq (in2 hX_cn)))
 replace hcp := hcp.step o12 (hN.dis _ (inq (in2 hX_cp)))
 replace hoc := hoc.step o12 (hN.dis _ (inq in1))
 replace hro := hro.step o12 (fun x hx => hN.dis x ((fun k e => (.inl e)) x hx))
 replace oW := oW.tail o12 (fun k _ e => (show ∀ k, L.S k → Or1 oc (Orq bo L.S) k from fun k h => .inr (.inr h)) k e)
 replace hN := a15
 refine wI (d_move rfl) ?_
 refine wF ([(eN d), (eI b), (ptr cn 0), (ptr cp 0), (ptr oc 0), undef, undef, (eN 0), undef, undef, (Value.tuple #[u13, (eN (s.askR (s.readOk (d : Int) b p)))]), (ptr L.bN 0), (eN d), (eI b), (eI p), (Value.tuple #[u13, (eN (s.askR (s.readOk (d : Int) b p)))])] ++ (us 8)) ?_
 refine wI (d_extract (v := u13) rfl rfl) ?_
 refine wI (d_extract (v := (eN (s.askR (s.readOk (d : Int) b p)))) rfl rfl) ?_
 refine wI (d_assign rfl) ?_
 refine wI (d_assign rfl) ?_
 refine wD (tN ?_)
 refine forget (fun zf16 => ([(zf16 0), (zf16 1), (zf16 2), (zf16 3), (ptr oc 0), (zf16 5), (zf16 6), (zf16 7), u13, (eN (s.askR (s.readOk (d : Int) b p)))] ++ (zs zf16 10 8 ++ (us 5 ++ [(zf16 23)])))) kr (fun zf16 => ?_)
 refine wQ ?_
 refine drawnG (O := (Ors L.S (Orq bo (Or1 oc No)))) (n := 6) 0 [0, 0, 2, 6, 15, 31] [(0, 18), (1, 19), (2, 20), (3, 21), (4, 22)] [] [] [] (fun i_ => ([] : List (RF (Ors L.S (Orq bo (Or1 oc No))))).getD i_ (RF.any (Ors L.S (Orq bo (Or1 oc No))))) (fun _ w_ => Arr 44 cn [(ptr L.bN 0)] w_ ∧ Arr 3 cp [(eI p)] w_ ∧ Arr 53 oc [uo] w_ ∧ Ow 32 2 bo uo (xs).length ((xs).flatMap eG) w_ ∧ Nd L (s.ask (s.readOk (d : Int) b p)) (Orq bo (Or1 oc X)) w_) (fun v17 => ([(zf16 0), (zf16 1), (zf16 2), (zf16 3), (ptr oc 0), (zf16 5), (zf16 6), (zf16 7), u13, (eN (s.askR (s.readOk (d : Int) b p)))] ++ (zs zf16 10 8 ++ [(v17 0), (v17 1), (v17 2), (v17 3), (v17 4), (zf16 23)]))) (fun v17 => ([(zf16 0), (zf16 1), (zf16 2), (zf16 3), (ptr oc 0), (zf16 5), (zf16 6), (zf16 7), u13, (eN (s.askR (s.readOk (d : Int) b p)))] ++ (zs zf16 10 8 ++ (us 5 ++ [(zf16 23)])))) s_mx kr rfl (by decide) (by rfl) kr kr kr (by rfl) (fun v_ => by kernel_rfl) (fun v_ => by kernel_rfl) (fun _ => fun w_ w2_ h ho => by obtain ⟨r_hcn, r_hcp, r_hoc, r_hro, r_hN⟩ := h; exact ⟨r_hcn.step0 ho, r_hcp.step0 ho, r_hoc.step0 ho, r_hro.step0 ho, r_hN.step0 ho⟩) ⟨hcn, hcp, hoc, hro, hN⟩ ?_ ?_ ?_
 ·
  exact ls_nil
 ·
  exact ms_nil
 intro v17 lo_ hi_ w18 o19 hd hR
 clear hd lo_ hi_
 replace f14 := f14.step o19 (ors_mono (orq_mono (or1_mono no_any)))
 obtain ⟨xr_hcn, xr_hcp, xr_hoc, xr_hro, xr_hN⟩ := hR
 replace hcn : Arr 44 cn [(ptr L.bN 0)] w18 := xr_hcn
 replace hcp : Arr 3 cp [(eI p)] w18 := xr_hcp
 replace hoc : Arr 53 oc [uo] w18 := xr_hoc
 replace hro : Ow 32 2 bo uo (xs).length ((xs).flatMap eG) w18 := xr_hro
 replace hN := xr_hN
 clear xr_hcn xr_hcp xr_hoc xr_hro xr_hN
 replace oW := oW.tail o19 (tl_sin (show ∀ k, L.S k → Or1 oc (Orq bo L.S) k from fun k h => .inr (.inr h)) (tl_q q_oW_out (fun k e => .inr (.inl e)) (tl_in (.inl rfl) tl_no)))
 refine rest_seg (n := 6) (p := 0) (q := 5) [0, 1] [2, 3, 4] [(0, 18), (1, 19)] [(0, 18), (1, 19), (2, 20), (3, 21), (4, 22)] [0, 0, 2, 6, 15, 31] (fun i_ => nth [uo, u13] i_) ([(zf16 0), (zf16 1), (zf16 2), (zf16 3), (ptr oc 0), (zf16 5), (zf16 6), (zf16 7), u13, (eN (s.askR (s.readOk (d : Int) b p)))] ++ (zs zf16 10 8 ++ [uo, u13, undef, undef, undef, (zf16 23)])) (fun w_ => Ps (Ors L.S (Or1 oc (Old W.heap.size))) (Seq kB (s.readL (d : Int) b p) u13) w_ ∧ Arr 44 cn [(ptr L.bN 0)] w_ ∧ Arr 3 cp [(eI p)] w_ ∧ Arr 53 oc [uo] w_ ∧ True) kr rfl (by decide) kr kr (by rfl) kr kr kr kr kr (by decide) ?_ ?_
 ·
  rintro w_ ⟨f14, hcn, hcp, hoc, _⟩
  refine fl_cons ⟨_, rfl, gd rfl (d_load (v := uo) ⟨_, Try.underlying53, rfl⟩ rfl hoc rfl)⟩ ?_
  refine fl_cons ⟨_, rfl, gd rfl (d_move rfl)⟩ ?_
  exact fl_nil
 refine wJ.op ⟨f14.less (xx_ors (xx_skip (xx_or1 xx_id))), hcn, hcp, hoc, trivial⟩ rfl rfl (d_call (xl := [.tmp 19]) (al := [u13]) Try.func21 kr rfl rfl rfl (pageDecode_ok (s.readL (d : Int) b p) u13 _ (Ps.no f14) fo)) ?_
 rintro _ w20 ⟨u22, rfl, f23, o21⟩
 replace f23 := f23.less (Y := (Ors L.S (Orq bo (Or1 oc (Old W.heap.size))))) (ors_old hN.lt (orq_old hro.lts (or1_old hoc.lt (old_old oW.size))))
 replace hN := hN.step0 o21
 replace f14 := f14.step0 o21
 replace hcn := hcn.step0 o21
 replace hcp := hcp.step0 o21
 replace hoc := hoc.step0 o21
 replace hro := hro.step0 o21
 replace oW := oW.tail0 o21
 refine wJ.flat ([(zf16 0), (zf16 1), (zf16 2), (zf16 3), (ptr oc 0), (zf16 5), (zf16 6), (zf16 7), u13, (eN (s.askR (s.readOk (d : Int) b p)))] ++ (zs zf16 10 8 ++ [uo, u13, (Value.agg #[(eN ((pgD (s.readL (d : Int) b p)).1)), u22]), undef, undef, (zf16 23)])) kr ?_
 refine wJ.op ⟨f14.less (xx_ors (xx_skip (xx_or1 xx_id))), hcn, hcp, hoc, trivial⟩ rfl rfl (d_buildL2 (zs := [(eN 0), (Value.slice none 0 0)]) (cs := [(eN ((pgD (s.readL (d : Int) b p)).1)), u22]) Try.underlying53 s_ti32 made_pg (nb rfl) (parts_cons (vs := [(eN ((pgD (s.readL (d : Int) b p)).1)), u22]) (cells_of (v := (Value.agg #[(eN ((pgD (s.readL (d : Int) b p)).1)), u22])) rfl rfl) parts_nil) rfl) ?_
 rintro _ w24 ⟨pb, rfl, g25, a26, o27⟩
 have n_cn_pb : cn ≠ pb := hcn.ne g25
 have n_cp_pb : cp ≠ pb := hcp.ne g25
 have n_oc_pb : oc ≠ pb := hoc.ne g25
 have nq_out_pb : ∀ x, bo = some x → ¬ x = pb := fun x hx e => by have := hro.lts x hx; omega
 have g_oW_pb : W.heap.size ≤ pb := Nat.le_trans oW.size g25
 replace hN := hN.new o27 g25
 replace f14 := f14.new o27 g25
 replace f23 := f23.new o27 g25
 replace hcn := hcn.step0 o27
 replace hcp := hcp.step0 o27
 replace hoc := hoc.step0 o27
 replace hro := hro.step0 o27
 replace oW := oW.tail0 o27
 refine wJ.flat ([(zf16 0), (zf16 1), (zf16 2), (zf16 3), (ptr oc 0), (zf16 5), (zf16 6), (zf16 7), u13, (eN (s.askR (s.readOk (d : Int) b p)))] ++ (zs zf16 10 8 ++ [uo, u13, (Value.agg #[(eN ((pgD (s.readL (d : Int) b p)).1)), u22]), (sli pb 0 1 1), undef, (zf16 23)])) kr ?_
 refine wJ.op ⟨f14.less (xx_skip (xx_ors (xx_skip (xx_or1 xx_id)))), hcn, hcp, hoc, trivial⟩ rfl rfl (d_append Try.underlying53 Try.underlying53 s_ti32 rfl rfl rfl hro (SrcV.of_arr (n := 1) (sz := 2) a26 rfl (one_eG (Seq.one f23))) oo oo rfl) ?_
 rintro u28 w29 ⟨bo30, a31, o32, q33⟩
 replace a31 : Ow 32 2 bo30 u28 (xs ++ [((pgD (s.readL (d : Int) b p)).1, u22)]).length ((xs ++ [((pgD (s.readL (d : Int) b p)).1, u22)]).flatMap eG) w29 := ow_appG (xs := xs) a31 rfl rfl
 replace hN := hN.gr o32 (fun k e => (.inr (.inl e))) (xx_or1 (xx_re (Fr.of_or q33) (xx_or1 xx_id)))
 replace f14 := f14.gr o32 (fun k e => (.inr (.inr (.inl e)))) (xx_or1 (xx_ors (xx_re (Fr.of_or q33) (xx_or1 xx_id))))
 replace f23 := f23.gr o32 (fun k e => (.inr (.inr (.inl e)))) (xx_or1 (xx_ors (xx_re (Fr.of_or q33) (xx_or1 xx_id))))
 have nq2 := nqs nq_out_cn (Fr.of_or q33) hcn.lt
 replace hcn := hcn.step o32 (fun e => nq_out_cn _ e rfl)
 replace nq_out_cn := nq2
 clear nq2
 have nq2 := nqs nq_out_cp (Fr.of_or q33) hcp.lt
 replace hcp := hcp.step o32 (fun e => nq_out_cp _ e rfl)
 replace nq_out_cp := nq2
 clear nq2
 have nq2 := nqs nq_out_oc (Fr.of_or q33) hoc.lt
 replace hoc := hoc.step o32 (fun e => nq_out_oc _ e rfl)
 replace nq_out_oc := nq2
 clear nq2
 have nq2 := nqs nq_out_pb (Fr.of_or q33) a26.lt
 replace a26 := a26.step o32 (fun e => nq_out_pb _ e rfl)
 replace nq_out_pb := nq2
 clear nq2
 have tq := oW.size
 replace oW := oW.tailr o32 q_oW_out (fun k e => .inr (.inl e))
 replace q_oW_out := qtr (Fr.of_or q33) q_oW_out tq
 clear tq
 refine wJ.flat ([(zf16 0), (zf16 1), (zf16 2), (zf16 3), (ptr oc 0), (zf16 5), (zf16 6), (zf16 7), u13, (eN (s.askR (s.readOk (d : Int) b p)))] ++ (zs zf16 10 8 ++ [uo, u13, (Value.agg #[(eN ((pgD (s.readL (d : Int) b p)).1)), u22]), (sli pb 0 1 1), u28, (zf16 23)])) kr ?_
 refine wJ.done ⟨f14.less (xx_skip (xx_ors (xx_skip (xx_or1 xx_id)))), hcn, hcp, hoc, trivial⟩ ?_
 refine rest_seg (n := 6) (p := 5) (q := 6) [] [5] [] [(0, 18), (1, 19), (2, 20), (3, 21), (4, 22)] [0, 0, 2, 6, 15, 31] (fun i_ => nth [] i_) ([(zf16 0), (zf16 1), (zf16 2), (zf16 3), (ptr oc 0), (zf16 5), (zf16 6), (zf16 7), u13, (eN (s.askR (s.readOk (d : Int) b p)))] ++ (zs zf16 10 8 ++ [uo, u13, (Value.agg #[(eN ((pgD (s.readL (d : Int) b p)).1)), u22]), (sli pb 0 1 1), u28, (zf16 23)])) (fun w_ => Ps (Or1 pb (Ors L.S (Or1 oc (Old W.heap.size)))) (Seq kB (s.readL (d : Int) b p) u13) w_ ∧ Ps (Or1 pb (Ors L.S (Or1 oc (Old W.heap.size)))) (Seq kB ((pgD (s.readL (d : Int) b p)).2) u22) w_ ∧ True) kr rfl (by decide) kr kr (by rfl) kr kr kr kr kr (by decide) ?_ ?_
 ·
  rintro w_ ⟨f14, f23, _⟩
  exact fl_nil
 refine wJ.op ⟨f14.less (xx_or1 (xx_ors (xx_skip (xx_or1 xx_id)))), f23.less (xx_or1 (xx_ors (xx_skip (xx_or1 xx_id)))), trivial⟩ rfl rfl (d_store s_ti53 rfl rfl (Ow.one a31) hoc (nb rfl) rfl) ?_
 rintro _ w34 ⟨a35, o36⟩
 replace hN := hN.stepb o36 (in2 (inq in1))
 replace f14 := f14.stepb o36 (in2 (inS (inq in1)))
 replace f23 := f23.stepb o36 (in2 (inS (inq in1)))
 replace hcn := hcn.step o36 (fun e => absurd e n_cn_oc)
 replace hcp := hcp.step o36 (fun e => absurd e n_cp_oc)
 replace a26 := a26.step o36 (fun e => absurd e (Ne.symm n_oc_pb))
 replace a31 := a31.step o36 (fun x hx e => nq_out_oc x hx e)
 replace oW := oW.tail o36 (fun k _ e => by have : k = oc := e; rw [this]; exact (.inl rfl))
 refine wJ.flat ([(zf16 0), (zf16 1), (zf16 2), (zf16 3), (ptr oc 0), (zf16 5), (zf16 6), (zf16 7), u13, (eN (s.askR (s.readOk (d : Int) b p)))] ++ (zs zf16 10 8 ++ [uo, u13, (Value.agg #[(eN ((pgD (s.readL (d : Int) b p)).1)), u22]), (sli pb 0 1 1), u28, (zf16 23)])) kr ?_
 refine wJ.done ⟨f14.less (xx_or1 (xx_ors (xx_skip (xx_or1 xx_id)))), f23.less (xx_or1 (xx_ors (xx_skip (xx_or1 xx_id)))), trivial⟩ ?_
 refine rest_done rfl ?_
 refine tN (wQ (pL ?_))
 refine wI (d_move rfl) ?_
 refine wI (d_assign rfl) ?_
 refine wD (tN ?_)
 refine forget (fun zf37 => (zs zf37 0 7 ++ [(eN (s.askR (s.readOk (d : Int) b p)))] ++ (zs zf37 8 16))) kr (fun zf37 => ?_)
 refine wpIn_ret ?_
 refine leave0 (v := (eN (s.askR (s.readOk (d : Int) b p)))) (res1 Try.results56 rfl) ?_
 exact ⟨_, _, u22, rfl, (hN.less (xx_skip (xx_orq (xx_skip xx_id)))), a35, a31, (f23.less (xx_skip (xx_skip (xx_orq (xx_skip xx_id))))), q_oW_out, oW⟩
theorem eachR_ok (L : NL) (s : NS) {X : Nat → Prop} (W : World) (hN : Nd L s X W) (hX : ∀ k, X k → k < W.heap.size) (bl : List Int) (ub : Value) (hb : Ps (Ors L.S No) (Seq kI bl ub) W) (gb : bl.length ≤ 1000) (p : Int) (bo : Option Nat) (uo : Value) (cn cp : Nat) (hcn : Arr 44 cn [(ptr L.bN 0)] W) (hX_cn : X cn) (hcp : Arr 3 cp [(eI p)] W) (hX_cp : X cp) (n_cn_cp : cn ≠ cp) (oc : Nat) (hoc : Arr 53 oc [uo] W) (hX_oc : X oc) (hro : Ow 32 2 bo uo (([] : List (Nat × Value))).length ((([] : List (Nat × Value))).flatMap eG) W) (hXq : ∀ k, bo = some k → X k) (n_cn_oc : cn ≠ oc) (n_cp_oc : cp ≠ oc) (nq_out_cn : ∀ x, bo = some x → ¬ x = cn) (nq_out_cp : ∀ x, bo = some x → ¬ x = cp) (nq_out_oc : ∀ x, bo = some x → ¬ x = oc) (hb2 : Ps (Ors L.S (Orq bo (Or1 oc No))) (Seq kI bl ub) W) :
    CW Try.prog 54 #[(ptr L.bN 0), ub, (Value.func (.func 56) #[] #[(ptr cn 0), (ptr cp 0), (ptr oc 0)])] W (Rt (fun u w => ∃ bo' u' vs, u = eN (rowDoC s.gD bl.length (rowRC bl p s)) ∧ Nd L (rowDo s.gD bl.length (rowR bl p s) (rowRC bl p s)) (Orq bo' X) w ∧ Arr 53 oc [u'] w ∧ Ow 32 2 bo' u' (pgRow (fun k_ => (pgD (rowRL bl p s k_)).1) vs).length ((pgRow (fun k_ => (pgD (rowRL bl p s k_)).1) vs).flatMap eG) w ∧ Ps (Orq bo' (Old W.heap.size)) (Fam kB vs.length (fun k_ => (pgD (rowRL bl p s k_)).2) vs) w ∧ (rowDoC s.gD bl.length (rowRC bl p s) = 0 → vs.length = bl.length) ∧ Fr bo' bo W.heap.size ∧ Only (Or1 oc (Orq bo L.S)) W w)) := by
 have oW : Only (Or1 oc (Orq bo L.S)) W W := Only.refl _ _
 refine enter (al := [(ptr L.bN 0), ub, (Value.func (.func 56) #[] #[(ptr cn 0), (ptr cp 0), (ptr oc 0)])]) (k := 24) (l := ([(ptr L.bN 0), ub, (Value.func (.func 56) #[] #[(ptr cn 0), (ptr cp 0), (ptr oc 0)])] ++ (us 24))) Try.func54 rfl Try.ntmps54 rfl rfl ?_
 replace hN : Nd L s (Orq bo (Or1 oc X)) W := Nd.less hN (fun k _ t => t.elim (hXq k) (fun t => t.elim (fun e => e ▸ hX_oc) id))
 have q_oW_out : Fr bo bo W.heap.size := Fr.same
 replace hb : Ps (Ors L.S (Orq bo (Or1 oc No))) (Seq kI bl ub) W := hb2
 refine wQ (pL ?_)
 refine wO (d_box rfl rfl) ?_
 rintro _ w11 ⟨e5, rfl, g12, a13, o14⟩
 have n_cn_e5 : cn ≠ e5 := hcn.ne g12
 have n_cp_e5 : cp ≠ e5 := hcp.ne g12
 have n_oc_e5 : oc ≠ e5 := hoc.ne g12
 have nq_out_e5 : ∀ x, bo = some x → ¬ x = e5 := fun x hx e => by have := hro.lts x hx; omega
 have g_oW_e5 : W.heap.size ≤ e5 := Nat.le_trans oW.size g12
 replace hN := hN.new o14 g12
 replace hb := hb.new o14 g12
 replace hcn := hcn.step0 o14
 replace hcp := hcp.step0 o14
 replace hoc := hoc.step0 o14
 replace hro := hro.step0 o14
 replace oW := oW.tail0 o14
 refine wO (d_alloc s_ti45 rfl) ?_
 rintro _ w15 ⟨e6, rfl, g16, a17, o18⟩
 have n_cn_e6 : cn ≠ e6 := hcn.ne g16
 have n_cp_e6 : cp ≠ e6 := hcp.ne g16
 have n_oc_e6 : oc ≠ e6 := hoc.ne g16
 have n_e5_e6 : e5 ≠ e6 := a13.ne g16
 have nq_out_e6 : ∀ x, bo = some x → ¬ x = e6 := fun x hx e => by have := hro.lts x hx; omega
 have g_oW_e6 : W.heap.size ≤ e6 := Nat.le_trans oW.size g16
 replace hN := hN.new o18 g16
 replace hb := hb.new o18 g16
 replace hcn := hcn.step0 o18
 replace hcp := hcp.step0 o18
 replace hoc := hoc.step0 o18
 replace a13 := a13.step0 o18
 replace hro := hro.step0 o18
 replace oW := oW.tail0 o18
 refine wD (tN (wQ (wQ ?_)))
 by_cases k0 : bl.length = s.gD
 ·
  refine pL ?_
  refine wI (d_move rfl) ?_
  refine wI (d_lenS rfl Try.underlying23 rfl hb) ?_
  refine wI (d_move rfl) ?_
  refine wO (d_call (xl := [.tmp 12]) (al := [(ptr L.bN 0)]) Try.func84 kr rfl rfl rfl (geometry_ok L s _ hN)) ?_
  rintro _ w19 ⟨rfl, o20⟩
  replace hN := hN.step0 o20
  replace hb := hb.step0 o20
  replace hcn := hcn.step0 o20
  replace hcp := hcp.step0 o20
  replace hoc := hoc.step0 o20
  replace a13 := a13.step0 o20
  replace a17 := a17.step0 o20
  replace hro := hro.step0 o20
  replace oW := oW.tail0 o20
  refine wI (d_field (v := (eN s.gD)) Try.underlying49 rfl ⟨_, Try.underlying3, rfl⟩ rfl rfl) ?_
  refine wF ([(ptr L.bN 0), ub, (Value.func (.func 56) #[] #[(ptr cn 0), (ptr cp 0), (ptr oc 0)]), undef, undef, (ptr e5 0), (ptr e6 0), undef, undef, undef, ub, (eN bl.length), (ptr L.bN 0), (Value.agg #[(eN s.gD), (eN s.gB), (eN s.gP)]), (eN s.gD)] ++ (us 12)) ?_
  refine wI (n_neq (a := bl.length) (b := s.gD) rfl rfl (by rw [decide_eq_true k0] <;> rfl)) ?_
  refine wD (tN ?_)
  refine cond_f rfl ?_
  refine wK (tN (wQ (wQ (pL ?_))))
  refine wI (d_move rfl) ?_
  refine wO (d_call (xl := [.tmp 16]) (al := [ub]) Try.func85 kr rfl rfl rfl (placed_ok bl ub _ (Ps.no hb))) ?_
  rintro _ w21 ⟨b23, rfl, g24, a25, o22⟩
  have n_cn_b23 : cn ≠ b23 := hcn.ne g24
  have n_cp_b23 : cp ≠ b23 := hcp.ne g24
  have n_oc_b23 : oc ≠ b23 := hoc.ne g24
  have n_e5_b23 : e5 ≠ b23 := a13.ne g24
  have n_e6_b23 : e6 ≠ b23 := a17.ne g24
  have nq_out_b23 : ∀ x, bo = some x → ¬ x = b23 := fun x hx e => by have := hro.lts x hx; omega
  have g_oW_b23 : W.heap.size ≤ b23 := Nat.le_trans oW.size g24
  replace hN := hN.new o22 g24
  replace hb := hb.new o22 g24
  replace hcn := hcn.step0 o22
  replace hcp := hcp.step0 o22
  replace hoc := hoc.step0 o22
  replace a13 := a13.step0 o22
  replace a17 := a17.step0 o22
  replace hro := hro.step0 o22
  replace oW := oW.tail0 o22
  refine wD (tN (wB ?_))
  refine wp_eq (l' := ([(ptr L.bN 0), ub, (Value.func (.func 56) #[] #[(ptr cn 0), (ptr cp 0), (ptr oc 0)]), undef, undef, (ptr e5 0), (ptr e6 0), undef, undef, undef, ub, (eN bl.length), (ptr L.bN 0), (Value.agg #[(eN s.gD), (eN s.gB), (eN s.gP)]), (eN s.gD), vF, ub, (Value.func (.func 106) #[] #[(ptr b23 0)])] ++ (us 9))) rfl ?_
  have h_lt_cn := hcn.lt
  have h_lt_cp := hcp.lt
  have h_lt_oc := hoc.lt
  have h_lt_e5 := a13.lt
  have h_lt_e6 := a17.lt
  have h_lt_b23 := a25.lt
  have h_lts_out := hro.lts
  have tq_oW := oW.size
  have nO_b23 : ¬ (Or1 e6 (Or1 e5 (Ors L.S (Orq bo (Or1 oc No))))) b23 := (not_or1 (Ne.symm n_e6_b23) (not_or1 (Ne.symm n_e5_b23) (not_ors (hN.dis _ in1) (not_orq (fun x hx e => nq_out_b23 x hx e) (not_or1 (Ne.symm n_oc_b23) not_no)))))
  obtain ⟨D_, hD_⟩ : ∃ D_, w21.heap.size = D_ := ⟨_, rfl⟩
  obtain ⟨L_, hL_⟩ : ∃ L_, w21.heap.size + 1 = L_ := ⟨_, rfl⟩
  refine range_ (encs := (fun k => [eN k.1, eI k.2])) (Pv := No) (O := (Or1 e6 (Or1 e5 (Ors L.S (Orq bo (Or1 oc No)))))) (xs := (plL bl)) (D := D_) (L := L_) (rs := []) hD_ hL_ rfl Try.func106 kr rfl (iter_placed bl ub b23 a25 nO_b23 hb (or1_skip (or1_mono (or1_mono (ors_mono (orq_mono (or1_mono no_any)))))) fo) (fun k t => t.elim) (fun _ => rfl) (lt_or1 h_lt_e6 (lt_or1 h_lt_e5 (lt_ors hN.lt (lt_orq h_lts_out (lt_or1 h_lt_oc lt_no))))) (fun (pre : List (Nat × Int)) (w_ : World) => ∃ (vs : List Value) (bo_out : Option Nat) (u_out : Value), (∀ j, j < pre.length → rowRC bl p s j = 0) ∧ (vs.length = pre.length) ∧ Only (Or1 e6 (Or1 e5 (Ors L.S (Orq bo (Or1 oc No))))) w21 w_ ∧ Arr 44 cn [(ptr L.bN 0)] w_ ∧ Arr 3 cp [(eI p)] w_ ∧ Arr 53 oc [u_out] w_ ∧ Arr 90 e5 [(Value.func (.func 56) #[] #[(ptr cn 0), (ptr cp 0), (ptr oc 0)])] w_ ∧ Arr 45 e6 [(eN 0)] w_ ∧ Arr 23 b23 [ub] w_ ∧ Ow 32 2 bo_out u_out (pgRow (fun k_ => (pgD (rowRL bl p s k_)).1) vs).length ((pgRow (fun k_ => (pgD (rowRL bl p s k_)).1) vs).flatMap eG) w_ ∧ Fr bo_out bo w21.heap.size ∧ (∀ x, bo_out = some x → ¬ x = D_) ∧ (∀ x, bo_out = some x → ¬ x = L_) ∧ Nd L (rowR bl p s pre.length) (Or1 L_ (Or1 D_ (Or1 b23 (Or1 e6 (Or1 e5 (Orq bo_out (Or1 oc X))))))) w_ ∧ Ps (Or1 L_ (Or1 D_ (Or1 b23 (Or1 e6 (Or1 e5 (Ors L.S (Orq bo_out (Or1 oc (Old W.heap.size))))))))) (Fam kB pre.length (fun k_ => (pgD (rowRL bl p s k_)).2) vs) w_) (fun c_ (pre : List (Nat × Int)) (w_ : World) => c_ = Code.ret ∧ (∃ (vs : List Value) (bo_out : Option Nat) (u_out : Value), (∀ j, j < pre.length - 1 → rowRC bl p s j = 0) ∧ (¬ rowRC bl p s (pre.length - 1) = 0) ∧ (0 < pre.length) ∧ (vs.length = pre.length) ∧ Only (Or1 e6 (Or1 e5 (Ors L.S (Orq bo (Or1 oc No))))) w21 w_ ∧ Arr 44 cn [(ptr L.bN 0)] w_ ∧ Arr 3 cp [(eI p)] w_ ∧ Arr 53 oc [u_out] w_ ∧ Arr 90 e5 [(Value.func (.func 56) #[] #[(ptr cn 0), (ptr cp 0), (ptr oc 0)])] w_ ∧ Arr 45 e6 [(eN (rowRC bl p s (pre.length - 1)))] w_ ∧ Arr 23 b23 [ub] w_ ∧ Ow 32 2 bo_out u_out (pgRow (fun k_ => (pgD (rowRL bl p s k_)).1) vs).length ((pgRow (fun k_ => (pgD (rowRL bl p s k_)).1) vs).flatMap eG) w_ ∧ Fr bo_out bo w21.heap.size ∧ (∀ x, bo_out = some x → ¬ x = D_) ∧ (∀ x, bo_out = some x → ¬ x = L_) ∧ Nd L (rowR bl p s pre.length) (Or1 L_ (Or1 D_ (Or1 b23 (Or1 e6 (Or1 e5 (Orq bo_out (Or1 oc X))))))) w_ ∧ Ps (Or1 L_ (Or1 D_ (Or1 b23 (Or1 e6 (Or1 e5 (Ors L.S (Orq bo_out (Or1 oc (Old W.heap.size))))))))) (Fam kB pre.length (fun k_ => (pgD (rowRL bl p s k_)).2) vs) w_)) ?_ ?_ ?_ ?_ ?_ ?_
  ·
   rintro pre w_ w2_ ⟨vs, bo_out, u_out, hC, hvl, o26, hcn, hcp, hoc, a13, a17, a25, hro, qq_out, nq_out_D_, nq_out_L_, hN, hFam⟩ ho_
   exact ⟨vs, bo_out, u_out, hC, hvl, o26.tail ho_ (stab_tl hD_ hL_ (fun k t => t.elim)), hcn.step ho_ (stab_b hD_ hL_ h_lt_cn (fun t => t.elim)), hcp.step ho_ (stab_b hD_ hL_ h_lt_cp (fun t => t.elim)), hoc.step ho_ (stab_b hD_ hL_ h_lt_oc (fun t => t.elim)), a13.step ho_ (stab_b hD_ hL_ h_lt_e5 (fun t => t.elim)), a17.step ho_ (stab_b hD_ hL_ h_lt_e6 (fun t => t.elim)), a25.step ho_ (stab_b hD_ hL_ h_lt_b23 (fun t => t.elim)), hro.step ho_ (stab_q nq_out_D_ nq_out_L_ (fun b hb t => t.elim)), qq_out, nq_out_D_, nq_out_L_, hN.step ho_ (stab_p (fun k t => t.elim)), hFam.step ho_ (stab_p (fun k t => t.elim))⟩
  ·
   rintro c_ pre w_ w2_ ⟨hc_, ⟨vs, bo_out, u_out, hC2, hc2, hp2, hvl, o26, hcn, hcp, hoc, a13, a17, a25, hro, qq_out, nq_out_D_, nq_out_L_, hN, hFam⟩⟩ ho_
   exact ⟨hc_, ⟨vs, bo_out, u_out, hC2, hc2, hp2, hvl, o26.tail ho_ (stab_tl hD_ hL_ (fun k t => t.elim)), hcn.step ho_ (stab_b hD_ hL_ h_lt_cn (fun t => t.elim)), hcp.step ho_ (stab_b hD_ hL_ h_lt_cp (fun t => t.elim)), hoc.step ho_ (stab_b hD_ hL_ h_lt_oc (fun t => t.elim)), a13.step ho_ (stab_b hD_ hL_ h_lt_e5 (fun t => t.elim)), a17.step ho_ (stab_b hD_ hL_ h_lt_e6 (fun t => t.elim)), a25.step ho_ (stab_b hD_ hL_ h_lt_b23 (fun t => t.elim)), hro.step ho_ (stab_q nq_out_D_ nq_out_L_ (fun b hb t => t.elim)), qq_out, nq_out_D_, nq_out_L_, hN.step ho_ (stab_p (fun k t => t.elim)), hFam.step ho_ (stab_p (fun k t => t.elim))⟩⟩
  ·
   refine ⟨[], bo, uo, ?_, ?_, ?_, ?_, ?_, ?_, ?_, ?_, ?_, ?_, ?_, ?_, ?_, ?_, ?_⟩
   ·
    exact fun j hj => absurd hj (Nat.not_lt_zero j)
   ·
    exact rfl
   ·
    exact Only.refl _ _
   ·
    exact hcn
   ·
    exact hcp
   ·
    exact hoc
   ·
    exact a13
   ·
    exact a17
   ·
    exact a25
   ·
    exact hro
   ·
    exact Fr.same
   ·
    (try dsimp only)
    all_goals (exact fun x hx e => by have := h_lts_out x hx; omega)
   ·
    (try dsimp only)
    all_goals (exact fun x hx e => by have := h_lts_out x hx; omega)
   ·
    exact Nd.less (hN : Nd L (rowR bl p s 0) _ _) (xx_new oo (xx_new (Nat.le_of_eq hD_) xx_id))
   ·
    exact fam_zero
  ·
   intro pre k w1_ hpx_ hI_ hL1_
   obtain ⟨vs, bo_out, u_out, hC, hvl, o26, hcn, hcp, hoc, a13, a17, a25, hro, qq_out, nq_out_D_, nq_out_L_, hN, hFam⟩ := hI_
   replace hb := Ps.re (X' := (Or1 L_ (Or1 D_ (Or1 b23 (Or1 e6 (Or1 e5 (Ors L.S (Orq bo_out (Or1 oc No))))))))) hb o26 (or1_skip (or1_mono (or1_mono (ors_mono (orq_mono (or1_mono no_any)))))) (xx_new oo (xx_new (Nat.le_of_eq hD_) (xx_or1 (xx_or1 (xx_or1 (xx_ors (xx_re qq_out (xx_or1 xx_id))))))))
   replace oW := oW.tail o26 (tl_new g_oW_e6 (tl_new g_oW_e5 (tl_sin (show ∀ k, L.S k → Or1 oc (Orq bo L.S) k from fun k h => .inr (.inr h)) (tl_q q_oW_out (fun k e => .inr (.inl e)) (tl_in (.inl rfl) tl_no)))))
   replace q_oW_out := qtr qq_out q_oW_out tq_oW
   replace nq_out_cn := nqs nq_out_cn qq_out h_lt_cn
   replace nq_out_cp := nqs nq_out_cp qq_out h_lt_cp
   replace nq_out_oc := nqs nq_out_oc qq_out h_lt_oc
   replace nq_out_e5 := nqs nq_out_e5 qq_out h_lt_e5
   replace nq_out_e6 := nqs nq_out_e6 qq_out h_lt_e6
   replace nq_out_b23 := nqs nq_out_b23 qq_out h_lt_b23
   have q_o26_out : Fr bo_out bo w21.heap.size := qq_out
   have n_cn_D_ : cn ≠ D_ := by omega
   have n_cp_D_ : cp ≠ D_ := by omega
   have n_oc_D_ : oc ≠ D_ := by omega
   have n_e5_D_ : e5 ≠ D_ := by omega
   have n_e6_D_ : e6 ≠ D_ := by omega
   have n_b23_D_ : b23 ≠ D_ := by omega
   have g_oW_D_ : W.heap.size ≤ D_ := by omega
   have g_o26_D_ : w21.heap.size ≤ D_ := by omega
   have n_cn_L_ : cn ≠ L_ := by omega
   have n_cp_L_ : cp ≠ L_ := by omega
   have n_oc_L_ : oc ≠ L_ := by omega
   have n_e5_L_ : e5 ≠ L_ := by omega
   have n_e6_L_ : e6 ≠ L_ := by omega
   have n_b23_L_ : b23 ≠ L_ := by omega
   have g_oW_L_ : W.heap.size ≤ L_ := by omega
   have g_o26_L_ : w21.heap.size ≤ L_ := by omega
   have n_D__L_ : D_ ≠ L_ := by omega
   have aL_ : Dead L_ w1_ := hL1_
   have aD_ : Dead D_ w1_ := by unfold Dead; omega
   refine wp_eq (l' := ([(ptr L.bN 0), ub, (Value.func (.func 56) #[] #[(ptr cn 0), (ptr cp 0), (ptr oc 0)]), undef, undef, (ptr e5 0), (ptr e6 0), undef, undef, undef, ub, (eN bl.length), (ptr L.bN 0), (Value.agg #[(eN s.gD), (eN s.gB), (eN s.gP)]), (eN s.gD), vF, ub, (Value.func (.func 106) #[] #[(ptr b23 0)]), (eN k.1), (eI k.2)] ++ (us 7))) kr ?_
   refine wQ (pL ?_)
   refine wI (d_assign rfl) ?_
   refine wD (tN (pL ?_))
   refine wI (d_assign rfl) ?_
   refine wD (tN ?_)
   refine ⟨Only.refl _ _, fun w2_ oL_ _ => ?_⟩
   replace hN := hN.stepb oL_ in1
   replace hb := hb.stepb oL_ in1
   replace hFam := hFam.stepb oL_ in1
   replace hcn := hcn.step oL_ (fun e => absurd e n_cn_L_)
   replace hcp := hcp.step oL_ (fun e => absurd e n_cp_L_)
   replace hoc := hoc.step oL_ (fun e => absurd e n_oc_L_)
   replace a13 := a13.step oL_ (fun e => absurd e n_e5_L_)
   replace a17 := a17.step oL_ (fun e => absurd e n_e6_L_)
   replace a25 := a25.step oL_ (fun e => absurd e n_b23_L_)
   replace aD_ := aD_.step oL_ (fun e => absurd e n_D__L_)
   replace hro := hro.step oL_ (fun x hx e => nq_out_L_ x hx e)
   replace oW := oW.tailb oL_ g_oW_L_
   replace o26 := o26.tailb oL_ g_o26_L_
   replace aL_ : Dead L_ w2_ := Nat.lt_of_lt_of_le aL_ oL_.size
   have oR_ : Only (fun k => (Or1 e6 (Or1 e5 (Ors L.S (Orq bo (Or1 oc No))))) k ∨ L_ < k) w2_ w2_ := Only.refl _ _
   have nqD0_out := nq_out_D_
   have nqL0_out := nq_out_L_
   have q_oR__out : Fr bo_out bo_out w2_.heap.size := Fr.same
   obtain ⟨k1_, k2_⟩ := k
   obtain ⟨hk1_, hk2_⟩ := pre_pl hpx_
   injection hk2_ with hk3_ hk4_
   subst hk3_ hk4_
   refine wp_eq (l' := ([(ptr L.bN 0), ub, (Value.func (.func 56) #[] #[(ptr cn 0), (ptr cp 0), (ptr oc 0)]), undef, undef, (ptr e5 0), (ptr e6 0), (eN pre.length), (eI (bl.getD pre.length 0)), undef, ub, (eN bl.length), (ptr L.bN 0), (Value.agg #[(eN s.gD), (eN s.gB), (eN s.gP)]), (eN s.gD), vF, ub, (Value.func (.func 106) #[] #[(ptr b23 0)]), (eN pre.length), (eI (bl.getD pre.length 0))] ++ (us 7))) rfl ?_
   refine wB (wQ ?_)
   refine wp_eq (l' := ([(ptr L.bN 0), ub, (Value.func (.func 56) #[] #[(ptr cn 0), (ptr cp 0), (ptr oc 0)]), undef, undef, (ptr e5 0), (ptr e6 0), (eN pre.length), (eI (bl.getD pre.length 0)), undef, ub, (eN bl.length), (ptr L.bN 0), (Value.agg #[(eN s.gD), (eN s.gB), (eN s.gP)]), (eN s.gD), vF, ub, (Value.func (.func 106) #[] #[(ptr b23 0)]), (eN pre.length), (eI (bl.getD pre.length 0))] ++ (us 7))) rfl ?_
   refine pL ?_
   refine wI (d_load (v := (Value.func (.func 56) #[] #[(ptr cn 0), (ptr cp 0), (ptr oc 0)])) ⟨_, Try.underlying90, rfl⟩ rfl a13 rfl) ?_
   refine wI (d_move rfl) ?_
   refine wI (d_move rfl) ?_
   refine wO (d_callv (xl := [.tmp 21, .tmp 22]) (al := [(eN pre.length), (eI (bl.getD pre.length 0))]) rfl Try.func56 kr rfl rfl rfl (read1_ok L (rowR bl p s pre.length) _ hN (lt_or1 aL_.lt (lt_or1 aD_.lt (lt_or1 a25.lt (lt_or1 a17.lt (lt_or1 a13.lt (lt_orq hro.lts (lt_or1 hoc.lt (fun k t => Nat.lt_of_lt_of_le (hX k t) oW.size)))))))) pre.length (bl.getD pre.length 0) p bo_out u_out (pgRow (fun k_ => (pgD (rowRL bl p s k_)).1) vs) cn cp hcn (in2 (in2 (in2 (in2 (in2 (inq (in2 hX_cn))))))) hcp (in2 (in2 (in2 (in2 (in2 (inq (in2 hX_cp))))))) n_cn_cp oc hoc (in2 (in2 (in2 (in2 (in2 (inq in1)))))) hro (fun k e => (.inr (.inr (.inr (.inr (.inr (.inl e))))))) n_cn_oc n_cp_oc nq_out_cn nq_out_cp nq_out_oc (by have := pgRow_len (fun k_ => (pgD (rowRL bl p s k_)).1) vs; omega))) ?_
   rintro _ w27 ⟨bo29, u30, v31, rfl, a32, a33, a34, f35, q36, o37⟩
   replace f35 := f35.less (Y := (Or1 L_ (Or1 D_ (Or1 b23 (Or1 e6 (Or1 e5 (Ors L.S (Orq bo29 (Or1 oc (Old W.heap.size)))))))))) (yz_or1 aL_.lt (yz_or1 aD_.lt (yz_or1 a25.lt (yz_or1 a17.lt (yz_or1 a13.lt (yz_ors hN.lt (yz_q (yz_or1 hoc.lt (fun k _ t => Or.inr (Nat.lt_of_lt_of_le t oW.size))))))))))
   replace a32 := a32.less (Y := (Or1 L_ (Or1 D_ (Or1 b23 (Or1 e6 (Or1 e5 (Orq bo29 (Or1 oc X)))))))) (yy_or1 (yy_or1 (yy_or1 (yy_or1 (yy_or1 (yy_q (yy_or1 yy_id)))))))
   replace hb := Ps.re (X' := (Or1 L_ (Or1 D_ (Or1 b23 (Or1 e6 (Or1 e5 (Ors L.S (Orq bo29 (Or1 oc No))))))))) hb o37 (fun k t_ => t_.elim (fun e_ => by rw [e_]; exact (in2 (in2 (in2 (in2 (in2 (inS (inq in1)))))))) (fun t_ => t_.elim ((fun k e => (.inr (.inr (.inr (.inr (.inr (.inr (.inl e)))))))) k) ((sub2 (sub2 (sub2 (sub2 (sub2 sub1))))) k))) (xx_or1 (xx_or1 (xx_or1 (xx_or1 (xx_or1 (xx_ors (xx_re q36 (xx_or1 xx_id))))))))
   replace hFam := Ps.re (X' := (Or1 L_ (Or1 D_ (Or1 b23 (Or1 e6 (Or1 e5 (Ors L.S (Orq bo29 (Or1 oc (Old W.heap.size)))))))))) hFam o37 (fun k t_ => t_.elim (fun e_ => by rw [e_]; exact (in2 (in2 (in2 (in2 (in2 (inS (inq in1)))))))) (fun t_ => t_.elim ((fun k e => (.inr (.inr (.inr (.inr (.inr (.inr (.inl e)))))))) k) ((sub2 (sub2 (sub2 (sub2 (sub2 sub1))))) k))) (xx_or1 (xx_or1 (xx_or1 (xx_or1 (xx_or1 (xx_ors (xx_re q36 (xx_or1 xx_id))))))))
   have nq2 := nqs nq_out_cn q36 hcn.lt
   replace hcn := hcn.step o37 (fun t_ => t_.elim (fun e_ => absurd e_ n_cn_oc) (fun t_ => t_.elim (fun e_ => nq_out_cn _ e_ rfl) (hN.dis _ (in2 (in2 (in2 (in2 (in2 (inq (in2 hX_cn))))))))))
   replace nq_out_cn := nq2
   clear nq2
   have nq2 := nqs nq_out_cp q36 hcp.lt
   replace hcp := hcp.step o37 (fun t_ => t_.elim (fun e_ => absurd e_ n_cp_oc) (fun t_ => t_.elim (fun e_ => nq_out_cp _ e_ rfl) (hN.dis _ (in2 (in2 (in2 (in2 (in2 (inq (in2 hX_cp))))))))))
   replace nq_out_cp := nq2
   clear nq2
   have nq2 := nqs nq_out_oc q36 hoc.lt
   replace hoc := a33
   replace nq_out_oc := nq2
   clear nq2
   have nq2 := nqs nq_out_e5 q36 a13.lt
   replace a13 := a13.step o37 (fun t_ => t_.elim (fun e_ => absurd e_ (Ne.symm n_oc_e5)) (fun t_ => t_.elim (fun e_ => nq_out_e5 _ e_ rfl) (hN.dis _ (in2 (in2 (in2 (in2 in1)))))))
   replace nq_out_e5 := nq2
   clear nq2
   have nq2 := nqs nq_out_e6 q36 a17.lt
   replace a17 := a17.step o37 (fun t_ => t_.elim (fun e_ => absurd e_ (Ne.symm n_oc_e6)) (fun t_ => t_.elim (fun e_ => nq_out_e6 _ e_ rfl) (hN.dis _ (in2 (in2 (in2 in1))))))
   replace nq_out_e6 := nq2
   clear nq2
   have nq2 := nqs nq_out_b23 q36 a25.lt
   replace a25 := a25.step o37 (fun t_ => t_.elim (fun e_ => absurd e_ (Ne.symm n_oc_b23)) (fun t_ => t_.elim (fun e_ => nq_out_b23 _ e_ rfl) (hN.dis _ (in2 (in2 in1)))))
   replace nq_out_b23 := nq2
   clear nq2
   have nq2 := nqs nq_out_D_ q36 aD_.lt
   replace aD_ := aD_.step o37 (fun t_ => t_.elim (fun e_ => absurd e_ (Ne.symm n_oc_D_)) (fun t_ => t_.elim (fun e_ => nq_out_D_ _ e_ rfl) (hN.dis _ (in2 in1))))
   replace nq_out_D_ := nq2
   clear nq2
   have nq2 := nqs nq_out_L_ q36 aL_.lt
   replace aL_ := aL_.step o37 (fun t_ => t_.elim (fun e_ => absurd e_ (Ne.symm n_oc_L_)) (fun t_ => t_.elim (fun e_ => nq_out_L_ _ e_ rfl) (hN.dis _ in1)))
   replace nq_out_L_ := nq2
   clear nq2
   have tq := oW.size
   replace oW := oW.tail o37 (tl_in (.inl rfl) (tl_q q_oW_out (fun k e => .inr (.inl e)) (fun k _ e => (show ∀ k, L.S k → Or1 oc (Orq bo L.S) k from fun k h => .inr (.inr h)) k e)))
   replace q_oW_out := qtr q36 q_oW_out tq
   clear tq
   have tq := o26.size
   replace o26 := o26.tail o37 (tl_in (in2 (in2 (inS (inq in1)))) (tl_q q_o26_out (fun k e => (.inr (.inr (.inr (.inl e))))) (fun k _ e => (sub2 (sub2 sub1)) k e)))
   replace q_o26_out := qtr q36 q_o26_out tq
   clear tq
   have tq := oR_.size
   replace oR_ := oR_.tail o37 (tl_in (Or.inl (in2 (in2 (inS (inq in1))))) (tl_q q_oR__out (q_T qq_out (fun k e => (.inr (.inr (.inr (.inl e))))) nqD0_out nqL0_out hD_ hL_) (fun k _ e => (fun k h => Or.inl ((sub2 (sub2 sub1)) k h)) k e)))
   replace q_oR__out := qtr q36 q_oR__out tq
   clear tq
   replace hN := a32
   refine wI (d_assign rfl) ?_
   refine wF [(ptr L.bN 0), ub, (Value.func (.func 56) #[] #[(ptr cn 0), (ptr cp 0), (ptr oc 0)]), undef, undef, (ptr e5 0), (ptr e6 0), (eN pre.length), (eI (bl.getD pre.length 0)), (eN ((rowR bl p s pre.length).askR ((rowR bl p s pre.length).readOk (pre.length : Int) (bl.getD pre.length 0) p))), ub, (eN bl.length), (ptr L.bN 0), (Value.agg #[(eN s.gD), (eN s.gB), (eN s.gP)]), (eN s.gD), vF, ub, (Value.func (.func 106) #[] #[(ptr b23 0)]), (eN pre.length), (eI (bl.getD pre.length 0)), (Value.func (.func 56) #[] #[(ptr cn 0), (ptr cp 0), (ptr oc 0)]), (eN pre.length), (eI (bl.getD pre.length 0)), (eN ((rowR bl p s pre.length).askR ((rowR bl p s pre.length).readOk (pre.length : Int) (bl.getD pre.length 0) p))), undef, undef, undef] ?_
   refine wD (tN (wQ (pL ?_)))
   refine wI (d_move rfl) ?_
   refine wI (n_neq (a := ((rowR bl p s pre.length).askR ((rowR bl p s pre.length).readOk (pre.length : Int) (bl.getD pre.length 0) p))) (b := 0) rfl rfl rfl) ?_
   refine wF [(ptr L.bN 0), ub, (Value.func (.func 56) #[] #[(ptr cn 0), (ptr cp 0), (ptr oc 0)]), undef, undef, (ptr e5 0), (ptr e6 0), (eN pre.length), (eI (bl.getD pre.length 0)), (eN ((rowR bl p s pre.length).askR ((rowR bl p s pre.length).readOk (pre.length : Int) (bl.getD pre.length 0) p))), ub, (eN bl.length), (ptr L.bN 0), (Value.agg #[(eN s.gD), (eN s.gB), (eN s.gP)]), (eN s.gD), vF, ub, (Value.func (.func 106) #[] #[(ptr b23 0)]), (eN pre.length), (eI (bl.getD pre.length 0)), (Value.func (.func 56) #[] #[(ptr cn 0), (ptr cp 0), (ptr oc 0)]), (eN pre.length), (eI (bl.getD pre.length 0)), (eN ((rowR bl p s pre.length).askR ((rowR bl p s pre.length).readOk (pre.length : Int) (bl.getD pre.length 0) p))), (eN ((rowR bl p s pre.length).askR ((rowR bl p s pre.length).readOk (pre.length : Int) (bl.getD pre.length 0) p))), (Value.bool (!decide (((rowR bl p s pre.length).askR ((rowR bl p s pre.length).readOk (pre.length : Int) (bl.getD pre.length 0) p)) = 0))), undef] ?_
   refine wD (tN ?_)
   refine cond_un rfl (fun ce_ => ?_) (fun ce_ => ?_)
   ·
    refine wQ (pL ?_)
    refine wI (d_move rfl) ?_
    refine wO (d_store s_ti45 rfl rfl rfl a17 (nb rfl) rfl) ?_
    rintro _ w38 ⟨a39, o40⟩
    replace hN := hN.stepb o40 (in2 (in2 (in2 in1)))
    replace hb := hb.stepb o40 (in2 (in2 (in2 in1)))
    replace hFam := hFam.stepb o40 (in2 (in2 (in2 in1)))
    replace f35 := f35.stepb o40 (in2 (in2 (in2 in1)))
    replace hcn := hcn.step o40 (fun e => absurd e n_cn_e6)
    replace hcp := hcp.step o40 (fun e => absurd e n_cp_e6)
    replace hoc := hoc.step o40 (fun e => absurd e n_oc_e6)
    replace a13 := a13.step o40 (fun e => absurd e n_e5_e6)
    replace a25 := a25.step o40 (fun e => absurd e (Ne.symm n_e6_b23))
    replace aD_ := aD_.step o40 (fun e => absurd e (Ne.symm n_e6_D_))
    replace aL_ := aL_.step o40 (fun e => absurd e (Ne.symm n_e6_L_))
    replace a34 := a34.step o40 (fun x hx e => nq_out_e6 x hx e)
    replace oW := oW.tailb o40 g_oW_e6
    replace o26 := o26.tail o40 (fun k _ e => by have : k = e6 := e; rw [this]; exact in1)
    replace oR_ := oR_.tail o40 (fun k _ e => by have : k = e6 := e; rw [this]; exact (Or.inl in1))
    refine wF [(ptr L.bN 0), ub, (Value.func (.func 56) #[] #[(ptr cn 0), (ptr cp 0), (ptr oc 0)]), undef, undef, (ptr e5 0), (ptr e6 0), (eN pre.length), (eI (bl.getD pre.length 0)), (eN ((rowR bl p s pre.length).askR ((rowR bl p s pre.length).readOk (pre.length : Int) (bl.getD pre.length 0) p))), ub, (eN bl.length), (ptr L.bN 0), (Value.agg #[(eN s.gD), (eN s.gB), (eN s.gP)]), (eN s.gD), vF, ub, (Value.func (.func 106) #[] #[(ptr b23 0)]), (eN pre.length), (eI (bl.getD pre.length 0)), (Value.func (.func 56) #[] #[(ptr cn 0), (ptr cp 0), (ptr oc 0)]), (eN pre.length), (eI (bl.getD pre.length 0)), (eN ((rowR bl p s pre.length).askR ((rowR bl p s pre.length).readOk (pre.length : Int) (bl.getD pre.length 0) p))), (eN ((rowR bl p s pre.length).askR ((rowR bl p s pre.length).readOk (pre.length : Int) (bl.getD pre.length 0) p))), (Value.bool (!decide (((rowR bl p s pre.length).askR ((rowR bl p s pre.length).readOk (pre.length : Int) (bl.getD pre.length 0) p)) = 0))), (eN ((rowR bl p s pre.length).askR ((rowR bl p s pre.length).readOk (pre.length : Int) (bl.getD pre.length 0) p)))] ?_
    refine wD (tN ?_)
    refine wpIn_ret ?_
    refine inb_r ?_
    refine ⟨oR_, rfl, vs ++ [v31], bo29, u30, ?_, ?_, ?_, ?_, ?_, ?_, ?_, ?_, ?_, ?_, ?_, ?_, ?_, ?_, ?_, ?_, ?_⟩
    ·
     (try dsimp only)
     all_goals (rw [List.length_append, List.length_singleton, Nat.add_sub_cancel]; exact hC)
    ·
     (try dsimp only)
     all_goals (rw [List.length_append, List.length_singleton, Nat.add_sub_cancel]; exact ce_)
    ·
     (try dsimp only)
     all_goals (rw [List.length_append, List.length_singleton]; omega)
    ·
     (try dsimp only)
     all_goals (rw [List.length_append, List.length_append, hvl, List.length_singleton, List.length_singleton])
    ·
     exact o26
    ·
     exact hcn
    ·
     exact hcp
    ·
     exact hoc
    ·
     exact a13
    ·
     (try dsimp only)
     all_goals (rw [List.length_append, List.length_singleton, Nat.add_sub_cancel]; exact a39)
    ·
     exact a25
    ·
     (try dsimp only)
     all_goals (rw [← pgRow_snoc hvl]; exact a34)
    ·
     exact q_o26_out
    ·
     exact nq_out_D_
    ·
     exact nq_out_L_
    ·
     (try dsimp only)
     all_goals (exact (by rw [List.length_append, List.length_singleton]; exact hN.less (xx_or1 (xx_or1 (xx_or1 (xx_or1 (xx_or1 (xx_orq (xx_or1 xx_id)))))))))
    ·
     (try dsimp only)
     all_goals (rw [List.length_append, List.length_singleton]; exact fam_snoc (hFam.less (xx_or1 (xx_or1 (xx_or1 (xx_or1 (xx_or1 (xx_ors (xx_orq (xx_or1 xx_id))))))))) (f35.less (xx_or1 (xx_or1 (xx_or1 (xx_or1 (xx_or1 (xx_ors (xx_orq (xx_or1 xx_id))))))))) rfl hvl)
   refine wK ?_
   refine inb_n ?_
   refine ⟨oR_, vs ++ [v31], bo29, u30, ?_, ?_, ?_, ?_, ?_, ?_, ?_, ?_, ?_, ?_, ?_, ?_, ?_, ?_, ?_⟩
   ·
    (try dsimp only)
    all_goals (exact fun j hj => by rw [List.length_append, List.length_singleton] at hj; exact (Nat.lt_succ_iff_lt_or_eq.1 hj).elim (hC j) (fun e => by rw [e]; exact ce_))
   ·
    (try dsimp only)
    all_goals (rw [List.length_append, List.length_append, hvl, List.length_singleton, List.length_singleton])
   ·
    exact o26
   ·
    exact hcn
   ·
    exact hcp
   ·
    exact hoc
   ·
    exact a13
   ·
    exact a17
   ·
    exact a25
   ·
    (try dsimp only)
    all_goals (rw [← pgRow_snoc hvl]; exact a34)
   ·
    exact q_o26_out
   ·
    exact nq_out_D_
   ·
    exact nq_out_L_
   ·
    (try dsimp only)
    all_goals (exact (by rw [List.length_append, List.length_singleton]; exact hN.less (xx_or1 (xx_or1 (xx_or1 (xx_or1 (xx_or1 (xx_orq (xx_or1 xx_id)))))))))
   ·
    (try dsimp only)
    all_goals (rw [List.length_append, List.length_singleton]; exact fam_snoc (hFam.less (xx_or1 (xx_or1 (xx_or1 (xx_or1 (xx_or1 (xx_ors (xx_orq (xx_or1 xx_id))))))))) (f35.less (xx_or1 (xx_or1 (xx_or1 (xx_or1 (xx_or1 (xx_ors (xx_orq (xx_or1 xx_id))))))))) rfl hvl)
  ·
   intro w1_ hI_ aD_
   obtain ⟨vs, bo_out, u_out, hC, hvl, o26, hcn, hcp, hoc, a13, a17, a25, hro, qq_out, nq_out_D_, nq_out_L_, hN, hFam⟩ := hI_
   replace hN := hN.less (Y := (Or1 D_ (Or1 b23 (Or1 e6 (Or1 e5 (Orq bo_out (Or1 oc X))))))) (xx_skip xx_id)
   replace hb := Ps.re (X' := (Or1 D_ (Or1 b23 (Or1 e6 (Or1 e5 (Ors L.S (Orq bo_out (Or1 oc No)))))))) hb o26 (or1_skip (or1_mono (or1_mono (ors_mono (orq_mono (or1_mono no_any)))))) (xx_new (Nat.le_of_eq hD_) (xx_or1 (xx_or1 (xx_or1 (xx_ors (xx_re qq_out (xx_or1 xx_id)))))))
   replace oW := oW.tail o26 (tl_new g_oW_e6 (tl_new g_oW_e5 (tl_sin (show ∀ k, L.S k → Or1 oc (Orq bo L.S) k from fun k h => .inr (.inr h)) (tl_q q_oW_out (fun k e => .inr (.inl e)) (tl_in (.inl rfl) tl_no)))))
   replace q_oW_out := qtr qq_out q_oW_out tq_oW
   replace nq_out_cn := nqs nq_out_cn qq_out h_lt_cn
   replace nq_out_cp := nqs nq_out_cp qq_out h_lt_cp
   replace nq_out_oc := nqs nq_out_oc qq_out h_lt_oc
   replace nq_out_e5 := nqs nq_out_e5 qq_out h_lt_e5
   replace nq_out_e6 := nqs nq_out_e6 qq_out h_lt_e6
   replace nq_out_b23 := nqs nq_out_b23 qq_out h_lt_b23
   have q_o26_out : Fr bo_out bo w21.heap.size := qq_out
   have n_cn_D_ : cn ≠ D_ := by omega
   have n_cp_D_ : cp ≠ D_ := by omega
   have n_oc_D_ : oc ≠ D_ := by omega
   have n_e5_D_ : e5 ≠ D_ := by omega
   have n_e6_D_ : e6 ≠ D_ := by omega
   have n_b23_D_ : b23 ≠ D_ := by omega
   have g_oW_D_ : W.heap.size ≤ D_ := by omega
   have g_o26_D_ : w21.heap.size ≤ D_ := by omega
   replace hFam := hFam.less (Y := (Or1 D_ (Or1 b23 (Or1 e6 (Or1 e5 (Ors L.S (Orq bo_out (Or1 oc (Old W.heap.size))))))))) (xx_skip xx_id)
   rw [plL_len] at hC
   replace hN := nd_to hN (show _ = (rowR bl p s bl.length) from by rw [plL_len])
   refine inb_n (tN ?_)
   refine wQ (pL ?_)
   refine wO (d_store s_ti45 rfl rfl rfl a17 (nb rfl) rfl) ?_
   rintro _ w41 ⟨a42, o43⟩
   replace hN := hN.stepb o43 (in2 (in2 in1))
   replace hb := hb.stepb o43 (in2 (in2 in1))
   replace hFam := hFam.stepb o43 (in2 (in2 in1))
   replace hcn := hcn.step o43 (fun e => absurd e n_cn_e6)
   replace hcp := hcp.step o43 (fun e => absurd e n_cp_e6)
   replace hoc := hoc.step o43 (fun e => absurd e n_oc_e6)
   replace a13 := a13.step o43 (fun e => absurd e n_e5_e6)
   replace a25 := a25.step o43 (fun e => absurd e (Ne.symm n_e6_b23))
   replace aD_ := aD_.step o43 (fun e => absurd e (Ne.symm n_e6_D_))
   replace hro := hro.step o43 (fun x hx e => nq_out_e6 x hx e)
   replace oW := oW.tailb o43 g_oW_e6
   replace o26 := o26.tail o43 (fun k _ e => by have : k = e6 := e; rw [this]; exact in1)
   refine wD (tN ?_)
   refine wpIn_ret ?_
   refine leave (v := (eN 0)) (marks_ok aD_) (fun w44 o45 => ⟨resS Try.results54 ⟨_, Try.underlying45, rfl⟩ rfl (a42.step (only_mem o45) (fun e => absurd e n_e6_D_)), ?_⟩)
   replace o45 := only_mem o45
   replace hN := hN.stepb o45 in1
   replace hb := hb.stepb o45 in1
   replace hFam := hFam.stepb o45 in1
   replace hcn := hcn.step o45 (fun e => absurd e n_cn_D_)
   replace hcp := hcp.step o45 (fun e => absurd e n_cp_D_)
   replace hoc := hoc.step o45 (fun e => absurd e n_oc_D_)
   replace a13 := a13.step o45 (fun e => absurd e n_e5_D_)
   replace a42 := a42.step o45 (fun e => absurd e n_e6_D_)
   replace a25 := a25.step o45 (fun e => absurd e n_b23_D_)
   replace hro := hro.step o45 (fun x hx e => nq_out_D_ x hx e)
   replace oW := oW.tailb o45 g_oW_D_
   replace o26 := o26.tailb o45 g_o26_D_
   obtain ⟨e1_, e2_⟩ := do_all (T := rowR bl p s) (C := rowRC bl p s) k0 hC; exact ⟨_, _, vs, congrArg eN e2_, e1_ ▸ (hN.less (xx_skip (xx_skip (xx_skip (xx_skip (xx_orq (xx_skip xx_id))))))), hoc, hro, by rw [hvl]; exact (hFam.less (xx_skip (xx_skip (xx_skip (xx_skip (xx_skip (xx_orq (xx_skip xx_id)))))))), fun _ => (by rw [hvl, plL_len]), q_oW_out, oW⟩
  ·
   rintro c_ pre w1_ hpx_ ⟨rfl, ⟨vs, bo_out, u_out, hC2, hc2, hp2, hvl, o26, hcn, hcp, hoc, a13, a17, a25, hro, qq_out, nq_out_D_, nq_out_L_, hN, hFam⟩⟩ aD_
   replace hN := hN.less (Y := (Or1 D_ (Or1 b23 (Or1 e6 (Or1 e5 (Orq bo_out (Or1 oc X))))))) (xx_skip xx_id)
   replace hb := Ps.re (X' := (Or1 D_ (Or1 b23 (Or1 e6 (Or1 e5 (Ors L.S (Orq bo_out (Or1 oc No)))))))) hb o26 (or1_skip (or1_mono (or1_mono (ors_mono (orq_mono (or1_mono no_any)))))) (xx_new (Nat.le_of_eq hD_) (xx_or1 (xx_or1 (xx_or1 (xx_ors (xx_re qq_out (xx_or1 xx_id)))))))
   replace oW := oW.tail o26 (tl_new g_oW_e6 (tl_new g_oW_e5 (tl_sin (show ∀ k, L.S k → Or1 oc (Orq bo L.S) k from fun k h => .inr (.inr h)) (tl_q q_oW_out (fun k e => .inr (.inl e)) (tl_in (.inl rfl) tl_no)))))
   replace q_oW_out := qtr qq_out q_oW_out tq_oW
   replace nq_out_cn := nqs nq_out_cn qq_out h_lt_cn
   replace nq_out_cp := nqs nq_out_cp qq_out h_lt_cp
   replace nq_out_oc := nqs nq_out_oc qq_out h_lt_oc
   replace nq_out_e5 := nqs nq_out_e5 qq_out h_lt_e5
   replace nq_out_e6 := nqs nq_out_e6 qq_out h_lt_e6
   replace nq_out_b23 := nqs nq_out_b23 qq_out h_lt_b23
   have q_o26_out : Fr bo_out bo w21.heap.size := qq_out
   have n_cn_D_ : cn ≠ D_ := by omega
   have n_cp_D_ : cp ≠ D_ := by omega
   have n_oc_D_ : oc ≠ D_ := by omega
   have n_e5_D_ : e5 ≠ D_ := by omega
   have n_e6_D_ : e6 ≠ D_ := by omega
   have n_b23_D_ : b23 ≠ D_ := by omega
   have g_oW_D_ : W.heap.size ≤ D_ := by omega
   have g_o26_D_ : w21.heap.size ≤ D_ := by omega
   replace hFam := hFam.less (Y := (Or1 D_ (Or1 b23 (Or1 e6 (Or1 e5 (Ors L.S (Orq bo_out (Or1 oc (Old W.heap.size))))))))) (xx_skip xx_id)
   refine wpIn_ret ?_
   refine inb_r (then_r ?_)
   refine leave (v := (eN (rowRC bl p s (pre.length - 1)))) (marks_ok aD_) (fun w46 o47 => ⟨resS Try.results54 ⟨_, Try.underlying45, rfl⟩ rfl (a17.step (only_mem o47) (fun e => absurd e n_e6_D_)), ?_⟩)
   replace o47 := only_mem o47
   replace hN := hN.stepb o47 in1
   replace hb := hb.stepb o47 in1
   replace hFam := hFam.stepb o47 in1
   replace hcn := hcn.step o47 (fun e => absurd e n_cn_D_)
   replace hcp := hcp.step o47 (fun e => absurd e n_cp_D_)
   replace hoc := hoc.step o47 (fun e => absurd e n_oc_D_)
   replace a13 := a13.step o47 (fun e => absurd e n_e5_D_)
   replace a17 := a17.step o47 (fun e => absurd e n_e6_D_)
   replace a25 := a25.step o47 (fun e => absurd e n_b23_D_)
   replace hro := hro.step o47 (fun x hx e => nq_out_D_ x hx e)
   replace oW := oW.tailb o47 g_oW_D_
   replace o26 := o26.tailb o47 g_o26_D_
   have e3_ : pre.length - 1 + 1 = pre.length := by omega
   have hpl_ := pl_len hpx_
   obtain ⟨e1_, e2_⟩ := do_one (T := rowR bl p s) (C := rowRC bl p s) k0 hC2 hc2 oo; rw [e3_] at e1_; exact ⟨_, _, vs, congrArg eN e2_, e1_ ▸ (hN.less (xx_skip (xx_skip (xx_skip (xx_skip (xx_orq (xx_skip xx_id))))))), hoc, hro, by rw [hvl]; exact (hFam.less (xx_skip (xx_skip (xx_skip (xx_skip (xx_skip (xx_orq (xx_skip xx_id)))))))), fun h_ => (by rw [← e2_] at h_; exact absurd h_ hc2), q_oW_out, oW⟩
 refine pL ?_
 refine wI (d_move rfl) ?_
 refine wI (d_lenS rfl Try.underlying23 rfl hb) ?_
 refine wI (d_move rfl) ?_
 refine wO (d_call (xl := [.tmp 12]) (al := [(ptr L.bN 0)]) Try.func84 kr rfl rfl rfl (geometry_ok L s _ hN)) ?_
 rintro _ w48 ⟨rfl, o49⟩
 replace hN := hN.step0 o49
 replace hb := hb.step0 o49
 replace hcn := hcn.step0 o49
 replace hcp := hcp.step0 o49
 replace hoc := hoc.step0 o49
 replace a13 := a13.step0 o49
 replace a17 := a17.step0 o49
 replace hro := hro.step0 o49
 replace oW := oW.tail0 o49
 refine wI (d_field (v := (eN s.gD)) Try.underlying49 rfl ⟨_, Try.underlying3, rfl⟩ rfl rfl) ?_
 refine wF ([(ptr L.bN 0), ub, (Value.func (.func 56) #[] #[(ptr cn 0), (ptr cp 0), (ptr oc 0)]), undef, undef, (ptr e5 0), (ptr e6 0), undef, undef, undef, ub, (eN bl.length), (ptr L.bN 0), (Value.agg #[(eN s.gD), (eN s.gB), (eN s.gP)]), (eN s.gD)] ++ (us 12)) ?_
 refine wI (n_neq (a := bl.length) (b := s.gD) rfl rfl (by rw [decide_eq_false k0] <;> rfl)) ?_
 refine wD (tN ?_)
 refine cond_t rfl ?_
 refine wQ (pL ?_)
 refine wO (d_store s_ti45 rfl rfl rfl a17 (nb rfl) rfl) ?_
 rintro _ w50 ⟨a51, o52⟩
 replace hN := hN.stepb o52 in1
 replace hb := hb.stepb o52 in1
 replace hcn := hcn.step o52 (fun e => absurd e n_cn_e6)
 replace hcp := hcp.step o52 (fun e => absurd e n_cp_e6)
 replace hoc := hoc.step o52 (fun e => absurd e n_oc_e6)
 replace a13 := a13.step o52 (fun e => absurd e n_e5_e6)
 replace hro := hro.step o52 (fun x hx e => nq_out_e6 x hx e)
 replace oW := oW.tailb o52 g_oW_e6
 refine wD (tN ?_)
 refine wpIn_ret ?_
 refine then_r ?_
 refine leave0 (v := (eN 1)) (resS Try.results54 ⟨_, Try.underlying45, rfl⟩ rfl a51) ?_
 obtain ⟨e1_, e2_⟩ := do_no (T := rowR bl p s) (C := rowRC bl p s) k0; exact ⟨_, _, [], congrArg eN e2_, e1_ ▸ (hN.less (xx_skip (xx_skip (xx_orq (xx_skip xx_id))))), hoc, hro, fam_zero, fun h_ => (by rw [← e2_] at h_; cases h_), q_oW_out, oW⟩
theorem rowRead_ok (L : NL) (s : NS) {X : Nat → Prop} (W : World) (hN : Nd L s X W) (hX : ∀ k, X k → k < W.heap.size) (bl : List Int) (ub : Value) (hb : Ps (Ors L.S No) (Seq kI bl ub) W) (gb : bl.length ≤ 1000) (p : Int) :
    CW Try.prog 34 #[(ptr L.bN 0), ub, (eI p)] W (Rt (fun u w => ∃ v vs, u = .tuple #[v, eN (rowDoC s.gD bl.length (rowRC bl p s))] ∧ ((rowDoC s.gD bl.length (rowRC bl p s)) = 0 → vs.length = bl.length ∧ Ps (Old W.heap.size) (Seq (kA 2 eG) (pgRow (fun k_ => (pgD (rowRL bl p s k_)).1) vs) v) w ∧ Ps (Old W.heap.size) (Fam kB vs.length (fun k_ => (pgD (rowRL bl p s k_)).2) vs) w) ∧ (¬ (rowDoC s.gD bl.length (rowRC bl p s)) = 0 → v = .slice none 0 0) ∧ Nd L (rowDo s.gD bl.length (rowR bl p s) (rowRC bl p s)) X w ∧ Only L.S W w)) := by
 have oW : Only L.S W W := Only.refl _ _
 refine enter (al := [(ptr L.bN 0), ub, (eI p)]) (k := 16) (l := ([(ptr L.bN 0), ub, (eI p)] ++ (us 16))) Try.func34 rfl Try.ntmps34 rfl rfl ?_
 refine wQ (pL ?_)
 refine wO (d_box rfl rfl) ?_
 rintro _ w11 ⟨cn, rfl, g12, a13, o14⟩
 have g_oW_cn : W.heap.size ≤ cn := Nat.le_trans oW.size g12
 replace hN := hN.new o14 g12
 replace hb := hb.new o14 g12
 replace oW := oW.tail0 o14
 refine wO (d_box rfl rfl) ?_
 rintro _ w15 ⟨cp, rfl, g16, a17, o18⟩
 have n_cn_cp : cn ≠ cp := a13.ne g16
 have g_oW_cp : W.heap.size ≤ cp := Nat.le_trans oW.size g16
 replace hN := hN.new o18 g16
 replace hb := hb.new o18 g16
 replace a13 := a13.step0 o18
 replace oW := oW.tail0 o18
 refine wI (d_assign rfl) ?_
 refine wI (d_assign rfl) ?_
 refine wD (tN (wQ ?_))
 refine wp_eq (l' := ([(ptr L.bN 0), ub, (eI p), (ptr cn 0), undef, (ptr cp 0), (Value.slice none 0 0), (eN 0)] ++ (us 11))) rfl ?_
 refine pL ?_
 refine wO (d_alloc s_ti53 rfl) ?_
 rintro _ w19 ⟨oc, rfl, g20, a21, o22⟩
 have n_cn_oc : cn ≠ oc := a13.ne g20
 have n_cp_oc : cp ≠ oc := a17.ne g20
 have g_oW_oc : W.heap.size ≤ oc := Nat.le_trans oW.size g20
 replace hN := hN.new o22 g20
 replace hb := hb.new o22 g20
 replace a13 := a13.step0 o22
 replace a17 := a17.step0 o22
 replace oW := oW.tail0 o22
 refine wF ([(ptr L.bN 0), ub, (eI p), (ptr cn 0), undef, (ptr cp 0), (Value.slice none 0 0), (eN 0), (ptr oc 0)] ++ (us 10)) ?_
 refine wD ?_
 have a23 : Ow 32 2 none (Value.slice none 0 0) ([] : List ((Nat × Value))).length (([] : List ((Nat × Value))).flatMap eG) w19 := Ow.nil _ _ _
 have nq_out_cn : ∀ x, (none : Option Nat) = some x → ¬ x = cn := fun x e => by cases e
 have nq_out_cp : ∀ x, (none : Option Nat) = some x → ¬ x = cp := fun x e => by cases e
 have nq_out_oc : ∀ x, (none : Option Nat) = some x → ¬ x = oc := fun x e => by cases e
 have q_oW_out : Fr none none W.heap.size := Fr.none
 replace hN := hN.qnone
 replace hb := hb.qnone
 refine tN (wQ (pL ?_))
 refine wI (d_load (v := (ptr L.bN 0)) ⟨_, Try.underlying44, rfl⟩ rfl a13 rfl) ?_
 refine wI (d_move rfl) ?_
 refine wI (d_funcL (yl := [.tmp 3, .tmp 5, .tmp 8]) (ys := [(ptr cn 0), (ptr cp 0), (ptr oc 0)]) rfl) ?_
 refine wO (d_call (xl := [.tmp 10, .tmp 11, .tmp 12]) (al := [(ptr L.bN 0), ub, (Value.func (.func 56) #[] #[(ptr cn 0), (ptr cp 0), (ptr oc 0)])]) Try.func54 kr rfl rfl rfl (eachR_ok L s _ hN (lt_orq a23.lts (lt_or1 a21.lt (lt_or1 a17.lt (lt_or1 a13.lt (fun k t => Nat.lt_of_lt_of_le (hX k t) oW.size))))) bl ub (hb.less (os_of (subq (sub2 (sub2 (sub2 sub1)))))) fo p none (Value.slice none 0 0) cn cp a13 (inq (in2 (in2 in1))) a17 (inq (in2 in1)) n_cn_cp oc a21 (inq in1) a23 (fun k e => (.inl e)) n_cn_oc n_cp_oc nq_out_cn nq_out_cp nq_out_oc (hb.less (fun k _ t_ => t_.elim ((subq (sub2 (sub2 (sub2 sub1)))) k) (fun t_ => t_.elim ((fun k e => (.inl e)) k) (fun t_ => t_.elim (fun e_ => by rw [e_]; exact (inq in1)) (fun t_ => t_.elim))))))) ?_
 rintro _ w24 ⟨bo26, u27, vs28, rfl, a29, a30, a31, f32, l33, q34, o35⟩
 replace f32 := f32.less (Y := (Orq bo26 (Or1 oc (Or1 cp (Or1 cn (Ors L.S (Old W.heap.size))))))) (yz_q (yz_or1 a21.lt (yz_or1 a17.lt (yz_or1 a13.lt (yz_ors hN.lt (fun k _ t => Or.inr (Nat.lt_of_lt_of_le t oW.size)))))))
 replace a29 := a29.less (Y := (Orq bo26 (Or1 oc (Or1 cp (Or1 cn X))))) (yy_q (yy_or1 (yy_or1 (yy_or1 yy_id))))
 replace hb := Ps.re (X' := (Orq bo26 (Or1 oc (Or1 cp (Or1 cn (Ors L.S No)))))) hb o35 (fun k t_ => t_.elim (fun e_ => by rw [e_]; exact (inq in1)) (fun t_ => t_.elim ((fun k e => (.inl e)) k) ((subq (sub2 (sub2 (sub2 sub1)))) k))) (xx_re q34 (xx_or1 (xx_or1 (xx_or1 (xx_ors xx_id)))))
 have nq2 := nqs nq_out_cn q34 a13.lt
 replace a13 := a13.step o35 (fun t_ => t_.elim (fun e_ => absurd e_ n_cn_oc) (fun t_ => t_.elim (fun e_ => nq_out_cn _ e_ rfl) (hN.dis _ (inq (in2 (in2 in1))))))
 replace nq_out_cn := nq2
 clear nq2
 have nq2 := nqs nq_out_cp q34 a17.lt
 replace a17 := a17.step o35 (fun t_ => t_.elim (fun e_ => absurd e_ n_cp_oc) (fun t_ => t_.elim (fun e_ => nq_out_cp _ e_ rfl) (hN.dis _ (inq (in2 in1)))))
 replace nq_out_cp := nq2
 clear nq2
 have nq2 := nqs nq_out_oc q34 a21.lt
 replace a21 := a30
 replace nq_out_oc := nq2
 clear nq2
 have tq := oW.size
 replace oW := oW.tail o35 (tl_new g_oW_oc (tl_q q_oW_out (fun _ e => by cases e) (fun k _ e => (fun k h => h) k e)))
 replace q_oW_out := qtr q34 q_oW_out tq
 clear tq
 replace hN := a29
 refine wI (d_assign rfl) ?_
 refine wD (tN (wQ (wQ (pL ?_))))
 refine wI (d_move rfl) ?_
 refine wI (n_neq (a := (rowDoC s.gD bl.length (rowRC bl p s))) (b := 0) rfl rfl rfl) ?_
 refine wF [(ptr L.bN 0), ub, (eI p), (ptr cn 0), undef, (ptr cp 0), (Value.slice none 0 0), (eN 0), (ptr oc 0), (eN (rowDoC s.gD bl.length (rowRC bl p s))), (ptr L.bN 0), ub, (Value.func (.func 56) #[] #[(ptr cn 0), (ptr cp 0), (ptr oc 0)]), (eN (rowDoC s.gD bl.length (rowRC bl p s))), (eN (rowDoC s.gD bl.length (rowRC bl p s))), (Value.bool (!decide ((rowDoC s.gD bl.length (rowRC bl p s)) = 0))), undef, undef, undef] ?_
 refine wD (tN ?_)
 refine cond_un rfl (fun cr => ?_) (fun cr => ?_)
 ·
  refine wQ (pL ?_)
  refine wI (d_move rfl) ?_
  refine wI (d_assign rfl) ?_
  refine wI (d_assign rfl) ?_
  refine wD (tN ?_)
  refine wpIn_ret ?_
  refine then_r ?_
  refine leave0 (v := (Value.tuple #[(Value.slice none 0 0), (eN (rowDoC s.gD bl.length (rowRC bl p s)))])) (res2 Try.results34 rfl rfl) ?_
  exact ⟨_, vs28, rfl, fun h_ => absurd h_ cr, fun _ => rfl, (hN.less (xx_skip (xx_skip (xx_skip (xx_skip xx_id))))), oW⟩
 refine wK (tN (wQ (pL ?_)))
 refine wI (d_load (v := u27) ⟨_, Try.underlying53, rfl⟩ rfl a21 rfl) ?_
 refine wO (d_append Try.underlying53 Try.underlying53 s_ti32 rfl rfl rfl (Ow.nil 32 2 _) (Ow.srcG a31 (pgRow_one f32 rfl)) (by have := pgRow_len (fun k_ => (pgD (rowRL bl p s k_)).1) vs28; have := l33 cr; omega) (by have := pgRow_len (fun k_ => (pgD (rowRL bl p s k_)).1) vs28; have := l33 cr; omega) rfl) ?_
 rintro u36 w37 ⟨bo38, a39, o40, q41⟩
 replace hN := hN.qnone
 replace hb := hb.qnone
 replace f32 := f32.qnone
 have nq_row42_cn : ∀ x, (none : Option Nat) = some x → ¬ x = cn := fun x e => by cases e
 have nq_row42_cp : ∀ x, (none : Option Nat) = some x → ¬ x = cp := fun x e => by cases e
 have nq_row42_oc : ∀ x, (none : Option Nat) = some x → ¬ x = oc := fun x e => by cases e
 have q_oW_row42 : Fr none none W.heap.size := Fr.none
 replace a39 : Ow 32 2 bo38 u36 (pgRow (fun k_ => (pgD (rowRL bl p s k_)).1) vs28).length ((pgRow (fun k_ => (pgD (rowRL bl p s k_)).1) vs28).flatMap eG) w37 := ow_appG (xs := ([] : List (Nat × Value))) a39 rfl rfl
 have nqq_out_row42 : ∀ x, bo26 = some x → (none : Option Nat) = some x → False := fun _ _ e => by cases e
 replace hN := hN.gr o40 (fun k e => (.inl e)) (xx_re (Fr.of_or q41) (xx_orq (xx_or1 (xx_or1 (xx_or1 xx_id)))))
 replace hb := hb.gr o40 (fun k e => (.inl e)) (xx_re (Fr.of_or q41) (xx_orq (xx_or1 (xx_or1 (xx_or1 (xx_ors xx_id))))))
 replace f32 := f32.gr o40 (fun k e => (.inl e)) (xx_re (Fr.of_or q41) (xx_orq (xx_or1 (xx_or1 (xx_or1 (xx_ors xx_id))))))
 have nq2 := nqs nq_row42_cn (Fr.of_or q41) a13.lt
 replace a13 := a13.step o40 (fun e => nq_row42_cn _ e rfl)
 replace nq_row42_cn := nq2
 clear nq2
 have nq2 := nqs nq_row42_cp (Fr.of_or q41) a17.lt
 replace a17 := a17.step o40 (fun e => nq_row42_cp _ e rfl)
 replace nq_row42_cp := nq2
 clear nq2
 have nq2 := nqs nq_row42_oc (Fr.of_or q41) a21.lt
 replace a21 := a21.step o40 (fun e => nq_row42_oc _ e rfl)
 replace nq_row42_oc := nq2
 clear nq2
 have lt2 := a31.lts
 replace a31 := a31.step o40 (fun x hx e => nqq_out_row42 x hx e)
 replace nqq_out_row42 := nqq_step nqq_out_row42 (Fr.of_or q41) lt2
 clear lt2
 have tq := oW.size
 replace oW := oW.tailr o40 q_oW_row42 (fun _ e => by cases e)
 replace q_oW_row42 := qtr (Fr.of_or q41) q_oW_row42 tq
 clear tq
 refine wI (d_assign rfl) ?_
 refine wI (d_assign rfl) ?_
 refine wD (tN ?_)
 refine wpIn_ret ?_
 refine leave0 (v := (Value.tuple #[u36, (eN 0)])) (res2 Try.results34 rfl rfl) ?_
 exact ⟨_, vs28, congrArg (fun x_ => Value.tuple #[_, eN x_]) cr.symm, fun _ => ⟨l33 cr, (Ow.seqG a39 (old_q q_oW_row42)), f32.less (xx_skip (xx_skip (xx_skip (xx_skip (xx_skip (xx_skip xx_id))))))⟩, fun h_ => absurd cr h_, (hN.less (xx_skip (xx_skip (xx_skip (xx_skip (xx_skip xx_id)))))), oW⟩
theorem law12Within_ok (a : Int) (m : Nat) (W : World) (hm : 0 < m) (hm2 : m ≤ 1000000) :
    CW Try.prog 29 #[(eI a), (eN m)] W (Rt (RIs (eN (a % (m : Int)).toNat) W)) := by
 have oW : Only No W W := Only.refl _ _
 refine enter (al := [(eI a), (eN m)]) (k := 13) (l := ([(eI a), (eN m)] ++ (us 13))) Try.func29 rfl Try.ntmps29 rfl rfl ?_
 refine wQ (pL ?_)
 refine wI (d_assign rfl) ?_
 refine wD (tN (wQ (pL ?_)))
 refine wI (d_move rfl) ?_
 refine wI (d_move rfl) ?_
 refine wI (d_rem (k := .i64) (m := a) (n := (m : Int)) rfl rfl oo (r := Int.tmod a (m : Int)) rfl) ?_
 refine wI (d_assign rfl) ?_
 refine wD (tN (wQ (wQ (pL ?_))))
 refine wI (d_move rfl) ?_
 refine wI (d_lss (k := .i64) (m := Int.tmod a (m : Int)) (n := 0) rfl rfl rfl) ?_
 refine wF [(eI a), (eN m), undef, undef, (eN 0), (eI (Int.tmod a (m : Int))), (eI a), (eN m), (eI (Int.tmod a (m : Int))), (eI (Int.tmod a (m : Int))), (Value.bool (decide (Int.tmod a (m : Int) < 0))), undef, undef, undef, undef] ?_
 refine wD (tN ?_)
 refine cond_if rfl (fun k1 => ?_) (fun k1 => ?_)
 ·
  refine pL ?_
  refine wI (d_move rfl) ?_
  refine wI (d_move rfl) ?_
  refine wI (d_add (k := .i64) (m := Int.tmod a (m : Int)) (n := (m : Int)) rfl rfl (r := (((a % (m : Int)).toNat : Nat) : Int)) (tmm_neg hm hm2 k1)) ?_
  refine wI (d_assign rfl) ?_
  refine wD (tN (wQ (pL ?_)))
  refine wI (d_move rfl) ?_
  refine wI (d_assign rfl) ?_
  refine wD (tN ?_)
  refine wpIn_ret ?_
  refine leave0 (v := (eN ((a % (m : Int)).toNat))) (res1 Try.results29 rfl) ?_
  exact ⟨rfl, oW⟩
 refine wp_eq (l' := [(eI a), (eN m), undef, undef, (eN 0), (eN ((a % (m : Int)).toNat)), (eI a), (eN m), (eN ((a % (m : Int)).toNat)), (eN ((a % (m : Int)).toNat)), (Value.bool (decide (Int.tmod a (m : Int) < 0))), undef, undef, undef, undef]) (Eq.trans (Eq.trans (show ([(eI a), (eN m), undef, undef, (eN 0), (eI (Int.tmod a (m : Int))), (eI a), (eN m), (eI (Int.tmod a (m : Int))), (eI (Int.tmod a (m : Int))), (Value.bool (decide (Int.tmod a (m : Int) < 0))), undef, undef, undef, undef] : List Value) = [(eI a), (eN m), undef, undef, (eN 0), (eN ((a % (m : Int)).toNat)), (eI a), (eN m), (eI (Int.tmod a (m : Int))), (eI (Int.tmod a (m : Int))), (Value.bool (decide (Int.tmod a (m : Int) < 0))), undef, undef, undef, undef] from reslot [(eI a), (eN m), undef, undef, (eN 0), (eI (Int.tmod a (m : Int))), (eI a), (eN m), (eI (Int.tmod a (m : Int))), (eI (Int.tmod a (m : Int))), (Value.bool (decide (Int.tmod a (m : Int) < 0))), undef, undef, undef, undef] 5 (tmm_pos hm k1)) (show ([(eI a), (eN m), undef, undef, (eN 0), (eN ((a % (m : Int)).toNat)), (eI a), (eN m), (eI (Int.tmod a (m : Int))), (eI (Int.tmod a (m : Int))), (Value.bool (decide (Int.tmod a (m : Int) < 0))), undef, undef, undef, undef] : List Value) = [(eI a), (eN m), undef, undef, (eN 0), (eN ((a % (m : Int)).toNat)), (eI a), (eN m), (eN ((a % (m : Int)).toNat)), (eI (Int.tmod a (m : Int))), (Value.bool (decide (Int.tmod a (m : Int) < 0))), undef, undef, undef, undef] from reslot [(eI a), (eN m), undef, undef, (eN 0), (eN ((a % (m : Int)).toNat)), (eI a), (eN m), (eI (Int.tmod a (m : Int))), (eI (Int.tmod a (m : Int))), (Value.bool (decide (Int.tmod a (m : Int) < 0))), undef, undef, undef, undef] 8 (tmm_pos hm k1))) (show ([(eI a), (eN m), undef, undef, (eN 0), (eN ((a % (m : Int)).toNat)), (eI a), (eN m), (eN ((a % (m : Int)).toNat)), (eI (Int.tmod a (m : Int))), (Value.bool (decide (Int.tmod a (m : Int) < 0))), undef, undef, undef, undef] : List Value) = [(eI a), (eN m), undef, undef, (eN 0), (eN ((a % (m : Int)).toNat)), (eI a), (eN m), (eN ((a % (m : Int)).toNat)), (eN ((a % (m : Int)).toNat)), (Value.bool (decide (Int.tmod a (m : Int) < 0))), undef, undef, undef, undef] from reslot [(eI a), (eN m), undef, undef, (eN 0), (eN ((a % (m : Int)).toNat)), (eI a), (eN m), (eN ((a % (m : Int)).toNat)), (eI (Int.tmod a (m : Int))), (Value.bool (decide (Int.tmod a (m : Int) < 0))), undef, undef, undef, undef] 9 (tmm_pos hm k1))) ?_
 refine wK (tN (wQ (pL ?_)))
 refine wI (d_move rfl) ?_
 refine wI (d_assign rfl) ?_
 refine wD (tN ?_)
 refine wpIn_ret ?_
 refine leave0 (v := (eN ((a % (m : Int)).toNat))) (res1 Try.results29 rfl) ?_
 exact ⟨rfl, oW⟩
theorem payloads_ok (la : List UInt8) (n : Nat) (u1 : Value) (W : World) (h1 : Ps No (Seq kB la u1) W) (gn : n ≤ 100) :
    CW Try.prog 31 #[u1, (eN n)] W (Rt (fun u w => ∃ vs, vs.length = n ∧ Ps (Old W.heap.size) (Seq (kS eV) vs u) w ∧ Ps (Old W.heap.size) (Fam kB n (plD la n) vs) w ∧ Only No W w)) := by
 have oW : Only No W W := Only.refl _ _
 refine enter (al := [u1, (eN n)]) (k := 26) (l := ([u1, (eN n)] ++ (us 26))) Try.func31 rfl Try.ntmps31 rfl rfl ?_
 refine wQ (pL ?_)
 refine wI (d_assign rfl) ?_
 refine wD (tN (wQ ?_))
 refine wp_eq (l' := ([u1, (eN n), undef, undef, (Value.slice none 0 0)] ++ (us 23))) rfl ?_
 refine pL ?_
 refine wI (d_assign rfl) ?_
 refine wF ([u1, (eN n), undef, undef, (Value.slice none 0 0), (Value.slice none 0 0)] ++ (us 22)) ?_
 refine wD ?_
 have a11 : Ow 22 1 none (Value.slice none 0 0) ([] : List (Value)).length (([] : List (Value)).map eV) W := Ow.nil _ _ _
 have q_oW_l : Fr none none W.heap.size := Fr.none
 replace h1 := h1.qnone
 refine tN (wQ (pL ?_))
 refine wI (d_move rfl) ?_
 refine wI (d_move rfl) ?_
 refine wI (n_mul (a := 48) (b := n) rfl rfl oo) ?_
 refine wO (d_call (xl := [.tmp 8, .tmp 10]) (al := [u1, (eN (48 * n))]) Try.func15 kr rfl rfl rfl (l4Data_ok la (48 * n) u1 _ (Ps.no h1) oo)) ?_
 rintro u14 w12 f15
 obtain ⟨bo16, f15, g17, o13⟩ := f15
 have nqq_l_d := nqq_new g17 a11.lts
 have q_oW_d := qnew g17 oW.size
 replace h1 := h1.newq o13 g17
 replace a11 := a11.step0 o13
 replace oW := oW.tail0 o13
 refine wI (d_assign rfl) ?_
 refine wD (tN (wQ (wQ ?_)))
 have f18 : Ps (Orq none (Old W.heap.size)) (Seq kB (dataL la (48 * n)) u14) w12 := Ow.seq f15 (fun b_ hb_ => (not_orq (fun x_ hx_ e_ => nqq_l_d x_ hx_ (e_ ▸ hb_)) (old_q q_oW_d b_ hb_)))
 replace h1 := Ps.less (Y := (Orq none No)) h1 (xx_skip (xx_orq xx_id))
 refine pL ?_
 refine wI (d_assign rfl) ?_
 refine wD (tN (wB ?_))
 have h_lts_l := a11.lts
 refine loop2 (fun (s_ : (Nat) × (List Value) × (Option Nat) × (Value)) => match s_ with | ⟨i, vs, bo_l, u_l⟩ => fun (z : Nat → Value) => (([u1, (eN n), undef, undef, (Value.slice none 0 0), u_l, u14, (eN i), u1, (eN n), (eN (48 * n)), u14] ++ (zs z 12 15 ++ [undef])) : List Value)) (fun (s_ : (Nat) × (List Value) × (Option Nat) × (Value)) => match s_ with | ⟨i, vs, bo_l, u_l⟩ => fun (w_ : World) => (i ≤ n) ∧ (vs.length = i) ∧ (Ps (Orq bo_l (Old W.heap.size)) (Fam kB i (plD la n) vs) w_) ∧ Only (Orq none No) w12 w_ ∧ Ow 22 1 bo_l u_l (vs).length ((vs).map eV) w_ ∧ Fr bo_l none w12.heap.size) (fun (s_ : (Nat) × (List Value) × (Option Nat) × (Value)) => match s_ with | ⟨i, vs, bo_l, u_l⟩ => n - i) ⟨0, [], none, (Value.slice none 0 0)⟩ kr ?_ ?_
 ·
  refine ⟨?_, ?_, ?_, ?_, ?_, ?_⟩
  ·
   exact Nat.zero_le _
  ·
   exact rfl
  ·
   exact fam_zero
  ·
   exact Only.refl _ _
  ·
   exact a11
  ·
   exact Fr.same
 rintro ⟨i, vs, bo_l, u_l⟩ z w20 ⟨hi, hv, hF, o19, a11, qq_l⟩
 (try dsimp only)
 replace h1 := h1.re o19 (orq_mono no_any) (xx_re qq_l xx_id)
 replace f18 := f18.re o19 (orq_mono no_any) (xx_re qq_l xx_id)
 have tq_oW := oW.size
 replace oW := oW.tail o19 (tl_q q_oW_l (fun _ e => by cases e) tl_no)
 replace q_oW_l := qtr qq_l q_oW_l tq_oW
 have q_o19_l := qq_l
 refine wQ (wQ (pL ?_))
 refine wI (d_move rfl) ?_
 refine wI (d_move rfl) ?_
 refine wI (n_lss (a := i) (b := n) rfl rfl rfl) ?_
 refine wD (tN ?_)
 refine cond_if rfl (fun c21 => ?_) (fun c21 => ?_)
 ·
  refine wK (tN (wQ (wB (pL ?_))))
  refine wI (d_move rfl) ?_
  refine wI (d_move rfl) ?_
  refine wI (d_move rfl) ?_
  refine wI (n_mul (a := 48) (b := i) rfl rfl oo) ?_
  refine wF ([u1, (eN n), undef, undef, (Value.slice none 0 0), u_l, u14, (eN i), u1, (eN n), (eN (48 * n)), u14, (eN i), (eN n), (Value.bool (decide (i < n))), (z 15), (z 16), u_l, u14, (eN i), (eN (48 * i))] ++ (zs z 21 6 ++ [undef])) ?_
  refine wI (d_move rfl) ?_
  refine wI (n_mul (a := 48) (b := i) rfl rfl oo) ?_
  refine wI (n_add (a := (48 * i)) (b := 48) rfl rfl oo) ?_
  refine wO (d_sliceS (xs := (dataL la (48 * n))) (ys := (plD la n i)) (l := (48 * i)) (h := (48 * i + 48)) Try.underlying22 s_ti5 rfl f18 (Bd.some (l := (48 * i)) (k := .i64) rfl) (Bd.some (l := (48 * i + 48)) (k := .i64) rfl) oo (by rw [dataL_length]; omega) (by unfold plD; rw [List.drop_take]; simp)) ?_
  rintro u22 _ ⟨f23, rfl⟩
  refine wO (d_buildL (cs := [u22]) Try.underlying29 s_ti22 rfl (nb rfl) (parts_cons (vs := [u22]) (cells_of (v := u22) rfl (Seq.cells f23)) parts_nil) rfl) ?_
  rintro _ w24 ⟨pb, rfl, g25, a26, o27⟩
  replace a26 : Arr 22 pb (([u22] : List Value).map eV) w24 := a26
  have l_pb : ([u22] : List Value).length = 1 := rfl
  have nq_l_pb : ∀ x, bo_l = some x → ¬ x = pb := fun x hx e => by have := a11.lts x hx; omega
  have g_oW_pb : W.heap.size ≤ pb := Nat.le_trans oW.size g25
  have g_o19_pb : w12.heap.size ≤ pb := Nat.le_trans o19.size g25
  replace h1 := h1.new o27 g25
  replace f18 := f18.new o27 g25
  replace hF := hF.new o27 g25
  replace f23 := f23.new o27 g25
  replace a11 := a11.step0 o27
  replace oW := oW.tail0 o27
  replace o19 := o19.tail0 o27
  refine wO (d_append Try.underlying29 Try.underlying29 s_ti22 rfl rfl rfl a11 (SrcV.of_arr (n := 1) (sz := 1) a26 rfl (fun v_ hv_ => by rw [List.mem_singleton.1 (show v_ ∈ [u22] from hv_)]; exact (Seq.one f23))) (by first | omega | (simp; omega)) (by first | omega | (simp; omega)) rfl) ?_
  rintro u28 w29 ⟨bo30, a31, o32, q33⟩
  replace a31 : Ow 22 1 bo30 u28 (vs ++ ([u22] : List Value)).length ((vs ++ ([u22] : List Value)).map eV) w29 := by rw [List.length_append, List.map_append]; exact a31
  replace h1 := h1.gr o32 (fun k e => (.inr (.inl e))) (xx_or1 (xx_re (Fr.of_or q33) xx_id))
  replace f18 := f18.gr o32 (fun k e => (.inr (.inl e))) (xx_or1 (xx_re (Fr.of_or q33) xx_id))
  replace hF := hF.gr o32 (fun k e => (.inr (.inl e))) (xx_or1 (xx_re (Fr.of_or q33) xx_id))
  replace f23 := f23.gr o32 (fun k e => (.inr (.inl e))) (xx_or1 (xx_re (Fr.of_or q33) xx_id))
  have nq2 := nqs nq_l_pb (Fr.of_or q33) a26.lt
  replace a26 := a26.step o32 (fun e => nq_l_pb _ e rfl)
  replace nq_l_pb := nq2
  clear nq2
  have tq := oW.size
  replace oW := oW.tailr o32 q_oW_l (fun _ e => by cases e)
  replace q_oW_l := qtr (Fr.of_or q33) q_oW_l tq
  clear tq
  have tq := o19.size
  replace o19 := o19.tailr o32 q_o19_l (fun k e => (.inl e))
  replace q_o19_l := qtr (Fr.of_or q33) q_o19_l tq
  clear tq
  refine wI (d_assign rfl) ?_
  refine wF [u1, (eN n), undef, undef, (Value.slice none 0 0), u28, u14, (eN i), u1, (eN n), (eN (48 * n)), u14, (eN i), (eN n), (Value.bool (decide (i < n))), (z 15), (z 16), u_l, u14, (eN i), (eN (48 * i)), (eN i), (eN (48 * i)), (eN (48 * i + 48)), u22, (sli pb 0 1 1), u28, undef] ?_
  refine wD ?_
  refine inb_n (tN ?_)
  refine pL ?_
  refine wI (d_move rfl) ?_
  refine wI (n_add (a := i) (b := 1) rfl rfl oo) ?_
  refine wI (d_assign rfl) ?_
  refine wD (tN ?_)
  refine ⟨_, ⟨i + 1, vs ++ [u22], bo30, u28⟩, rfl, kr, ⟨?_, ?_, ?_, ?_, ?_, ?_⟩, ?_⟩
  ·
   (try dsimp only)
   all_goals (omega)
  ·
   (try dsimp only)
   all_goals (rw [List.length_append, hv, List.length_singleton])
  ·
   exact fam_snoc (hF.less (xx_skip (xx_orq xx_id))) (f23.less (xx_skip (xx_orq xx_id))) rfl hv
  ·
   exact o19
  ·
   exact a31
  ·
   exact q_o19_l
  ·
   (try dsimp only)
   all_goals (omega)
 refine wpIn_exit ?_
 refine then_x (then_x (inb_e ?_))
 refine tN (wQ (pL ?_))
 refine wI (d_move rfl) ?_
 refine wI (d_assign rfl) ?_
 refine wD (tN ?_)
 refine wpIn_ret ?_
 refine leave0 (v := u_l) (res1 Try.results31 rfl) ?_
 have hin_ : i = n := by omega
 rw [hin_] at hF hv
 exact ⟨vs, hv, (Ow.seq a11 (old_q q_oW_l)), hF.less (xx_skip xx_id), oW⟩
theorem law12Known_ok (W : World) :
    CW Try.prog 27 #[] W (Rt (RIs (.bool true) W)) := by
 have oW : Only No W W := Only.refl _ _
 refine enter (al := []) (k := 34) (l := (us 34)) Try.func27 rfl Try.ntmps27 rfl rfl ?_
 refine wQ (pL ?_)
 refine wI (d_assign rfl) ?_
 refine wD (tN (wQ (pL ?_)))
 refine wI (d_buildS (pl := [(0, 1), (1, 1), (2, 1)]) (zs := [(eN 0), (eN 0), (eN 0)]) (cs := [(eN 6), (eN 8), (eN 4)]) Try.underlying49 s_ti49 ⟨_, _, _, _, rfl, s_ti3, ⟨_, _, _, _, rfl, s_ti3, ⟨_, _, _, _, rfl, s_ti3, rfl⟩⟩⟩ rfl (parts_cons (vs := [(eN 6)]) (cells_of (v := (eN 6)) rfl rfl) (parts_cons (vs := [(eN 8)]) (cells_of (v := (eN 8)) rfl rfl) (parts_cons (vs := [(eN 4)]) (cells_of (v := (eN 4)) rfl rfl) parts_nil))) rfl) ?_
 refine wO (d_call (xl := [.tmp 6, .const (.slice none 0 0)]) (al := [(Value.agg #[(eN 6), (eN 8), (eN 4)]), (Value.slice none 0 0)]) Try.func28 kr rfl rfl rfl (new0_ok 6 8 4 _ oo oo oo)) ?_
 rintro _ w11 ⟨L13, rfl, ⟨a14, g15⟩, o12⟩
 have g_oW_L13 : ∀ k, L13.S k → W.heap.size ≤ k := fun k hk => Nat.le_trans oW.size (g15 k hk)
 replace a14 := a14.less (Y := No) no_old
 replace oW := oW.tail0 o12
 refine wI (d_move rfl) ?_
 refine wI (d_extract (v := (ptr L13.bN 0)) rfl rfl) ?_
 refine wI (d_extract (v := (eN 0)) rfl rfl) ?_
 refine wI (d_assign rfl) ?_
 refine wF ([vF, (ptr L13.bN 0), undef, undef, undef, (Value.tuple #[(ptr L13.bN 0), (eN 0)]), (Value.agg #[(eN 6), (eN 8), (eN 4)]), (Value.tuple #[(ptr L13.bN 0), (eN 0)]), (ptr L13.bN 0), (eN 0)] ++ (us 24)) ?_
 refine wI (d_assign rfl) ?_
 refine wD (tN (wQ (wQ (pL ?_))))
 refine wI (d_move rfl) ?_
 refine wI (n_neq (a := 0) (b := 0) rfl rfl (by rw [decide_eq_true rfl] <;> rfl)) ?_
 refine wI (d_move rfl) ?_
 refine wG (d_move rfl) ?_
 refine wG (d_peql (b := L13.bN) (o := 0) Try.underlying44 rfl rfl) ?_
 refine wI (d_pick (b := false) (v := vF) rfl rfl) ?_
 refine wF ([vF, (ptr L13.bN 0), (eN 0), undef, undef, (Value.tuple #[(ptr L13.bN 0), (eN 0)]), (Value.agg #[(eN 6), (eN 8), (eN 4)]), (Value.tuple #[(ptr L13.bN 0), (eN 0)]), (ptr L13.bN 0), (eN 0), (eN 0), vF, vF, (ptr L13.bN 0), vF, vF] ++ (us 18)) ?_
 refine wD (tN ?_)
 refine forget (fun zf16 => ([(zf16 0), (ptr L13.bN 0)] ++ (zs zf16 2 13 ++ [vF] ++ (zs zf16 16 18)))) kr (fun zf16 => ?_)
 refine cond_f rfl ?_
 refine wK (tN (wQ (pL ?_)))
 refine wI (d_move rfl) ?_
 refine wO (d_make1 (n := 6) Try.underlying23 s_ti3 rfl rfl oo oo rfl) ?_
 rintro _ w17 ⟨sb, rfl, g18, a19, o20⟩
 replace a19 : Arr 3 sb ((List.replicate 6 (0 : Int)).map eI) w17 := by rw [List.map_replicate]; exact a19
 have l_sb : (List.replicate 6 (0 : Int) : List Int).length = 6 := by simp
 have g_oW_sb : W.heap.size ≤ sb := Nat.le_trans oW.size g18
 replace a14 := a14.new o20 g18
 replace oW := oW.tail0 o20
 refine wO (d_call (xl := [.tmp 17, .tmp 18, .const (.int .i64 0)]) (al := [(ptr L13.bN 0), (sli sb 0 6 6), (eN 0)]) Try.func34 kr rfl rfl rfl (rowRead_ok L13 (NS.new 6 8 4 (fun _ _ => false)) _ a14 (lt_or1 a19.lt lt_no) (List.replicate 6 (0 : Int)) (sli sb 0 6 6) (arr_keep a19 l_sb (Nat.le_refl _) (nx_ors (a14.dis _ in1) (fun _ _ t => t.elim))) (by have := rep_len 6 (0 : Int); first | omega | (simp; done) | (simp; omega)) 0)) ?_
 rintro _ w21 ⟨v23, vs24, rfl, h25, h26, a27, o28⟩
 obtain ⟨l29, f30, f31⟩ := h25 ((reads_ok (bl := List.replicate 6 0) (p := 0) (rv_new (g := fun _ _ => false) rfl (D := 6) (B := 8) (Q := 4) (c := fun _ => 0) (fun _ _ => by decide)) (by simp) (fun _ _ => rep_at) (by decide)).1)
 replace f30 := f30.less (Y := (Or1 sb (Ors L13.S (Old W.heap.size)))) (or1_old a19.lt (ors_old a14.lt (old_old oW.size)))
 replace f31 := f31.less (Y := (Or1 sb (Ors L13.S (Old W.heap.size)))) (or1_old a19.lt (ors_old a14.lt (old_old oW.size)))
 replace a19 := a19.step o28 (a14.dis _ in1)
 replace oW := oW.tail o28 (fun k hk e => by have := g_oW_L13 k e; omega)
 replace a14 := a27
 refine wI (d_move rfl) ?_
 refine wI (d_extract (v := v23) rfl rfl) ?_
 refine wI (d_extract (v := (eN (rowDoC (NS.new 6 8 4 (fun _ _ => false)).gD (List.replicate 6 (0 : Int)).length (rowRC (List.replicate 6 (0 : Int)) 0 (NS.new 6 8 4 (fun _ _ => false)))))) rfl rfl) ?_
 refine wI (d_assign rfl) ?_
 refine wF ([(zf16 0), (ptr L13.bN 0), (zf16 2), v23] ++ (zs zf16 4 11 ++ [vF, (Value.tuple #[v23, (eN (rowDoC (NS.new 6 8 4 (fun _ _ => false)).gD (List.replicate 6 (0 : Int)).length (rowRC (List.replicate 6 (0 : Int)) 0 (NS.new 6 8 4 (fun _ _ => false)))))]), (ptr L13.bN 0), (sli sb 0 6 6), (Value.tuple #[v23, (eN (rowDoC (NS.new 6 8 4 (fun _ _ => false)).gD (List.replicate 6 (0 : Int)).length (rowRC (List.replicate 6 (0 : Int)) 0 (NS.new 6 8 4 (fun _ _ => false)))))]), v23, (eN (rowDoC (NS.new 6 8 4 (fun _ _ => false)).gD (List.replicate 6 (0 : Int)).length (rowRC (List.replicate 6 (0 : Int)) 0 (NS.new 6 8 4 (fun _ _ => false)))))] ++ (zs zf16 22 12))) ?_
 refine wI (d_assign rfl) ?_
 refine wF ([(zf16 0), (ptr L13.bN 0), (zf16 2), v23, (eN (rowDoC (NS.new 6 8 4 (fun _ _ => false)).gD (List.replicate 6 (0 : Int)).length (rowRC (List.replicate 6 (0 : Int)) 0 (NS.new 6 8 4 (fun _ _ => false)))))] ++ (zs zf16 5 10 ++ [vF, (Value.tuple #[v23, (eN (rowDoC (NS.new 6 8 4 (fun _ _ => false)).gD (List.replicate 6 (0 : Int)).length (rowRC (List.replicate 6 (0 : Int)) 0 (NS.new 6 8 4 (fun _ _ => false)))))]), (ptr L13.bN 0), (sli sb 0 6 6), (Value.tuple #[v23, (eN (rowDoC (NS.new 6 8 4 (fun _ _ => false)).gD (List.replicate 6 (0 : Int)).length (rowRC (List.replicate 6 (0 : Int)) 0 (NS.new 6 8 4 (fun _ _ => false)))))]), v23, (eN (rowDoC (NS.new 6 8 4 (fun _ _ => false)).gD (List.replicate 6 (0 : Int)).length (rowRC (List.replicate 6 (0 : Int)) 0 (NS.new 6 8 4 (fun _ _ => false)))))] ++ (zs zf16 22 12))) ?_
 refine wD ?_
 have rv0 := rv_new (g := fun _ _ => false) rfl (D := 6) (B := 8) (Q := 4) (c := fun _ => 0) (fun _ _ => by decide)
 have rv_s1 := (reads_ok (bl := List.replicate 6 0) (p := 0) rv0 (by simp) (fun _ _ => rep_at) (by decide)).2.1
 obtain ⟨s1, e_s1⟩ : ∃ x_, rowDo (NS.new 6 8 4 (fun _ _ => false)).gD (List.replicate 6 (0 : Int)).length (rowR (List.replicate 6 (0 : Int)) 0 (NS.new 6 8 4 (fun _ _ => false))) (rowRC (List.replicate 6 (0 : Int)) 0 (NS.new 6 8 4 (fun _ _ => false))) = x_ := ⟨_, rfl⟩
 replace rv_s1 := rv_to rv_s1 e_s1
 replace a14 := nd_to a14 e_s1
 refine tN (wQ (pL ?_))
 refine wI (d_move rfl) ?_
 refine wI (n_eql (a := (rowDoC (NS.new 6 8 4 (fun _ _ => false)).gD (List.replicate 6 (0 : Int)).length (rowRC (List.replicate 6 (0 : Int)) 0 (NS.new 6 8 4 (fun _ _ => false))))) (b := 0) rfl rfl (decide_eq_true ((reads_ok (bl := List.replicate 6 0) (p := 0) rv0 (by simp) (fun _ _ => rep_at) (by decide)).1))) ?_
 refine wI (d_move rfl) ?_
 refine wG (d_move rfl) ?_
 refine wG (d_lenS rfl Try.underlying53 rfl f30) ?_
 refine wG (n_eql (a := ((pgRow (fun k_ => (pgD (rowRL (List.replicate 6 (0 : Int)) 0 (NS.new 6 8 4 (fun _ _ => false)) k_)).1) vs24).length)) (b := 6) rfl rfl (decide_eq_true (by rw [pgRow_len, l29]; rfl))) ?_
 refine wI (d_pick (b := true) (v := vT) rfl rfl) ?_
 refine wF ([(zf16 0), (ptr L13.bN 0), (zf16 2), v23, (eN (rowDoC (NS.new 6 8 4 (fun _ _ => false)).gD (List.replicate 6 (0 : Int)).length (rowRC (List.replicate 6 (0 : Int)) 0 (NS.new 6 8 4 (fun _ _ => false)))))] ++ (zs zf16 5 10 ++ [vF, (Value.tuple #[v23, (eN (rowDoC (NS.new 6 8 4 (fun _ _ => false)).gD (List.replicate 6 (0 : Int)).length (rowRC (List.replicate 6 (0 : Int)) 0 (NS.new 6 8 4 (fun _ _ => false)))))]), (ptr L13.bN 0), (sli sb 0 6 6), (Value.tuple #[v23, (eN (rowDoC (NS.new 6 8 4 (fun _ _ => false)).gD (List.replicate 6 (0 : Int)).length (rowRC (List.replicate 6 (0 : Int)) 0 (NS.new 6 8 4 (fun _ _ => false)))))]), v23, (eN (rowDoC (NS.new 6 8 4 (fun _ _ => false)).gD (List.replicate 6 (0 : Int)).length (rowRC (List.replicate 6 (0 : Int)) 0 (NS.new 6 8 4 (fun _ _ => false))))), (eN (rowDoC (NS.new 6 8 4 (fun _ _ => false)).gD (List.replicate 6 (0 : Int)).length (rowRC (List.replicate 6 (0 : Int)) 0 (NS.new 6 8 4 (fun _ _ => false))))), vT, vT, v23, (eN ((pgRow (fun k_ => (pgD (rowRL (List.replicate 6 (0 : Int)) 0 (NS.new 6 8 4 (fun _ _ => false)) k_)).1) vs24).length)), vT, vT] ++ (zs zf16 29 5))) ?_
 refine wI (d_move rfl) ?_
 refine wG (d_move rfl) ?_
 refine wpL.on rfl rfl rfl (nb rfl) rfl (d_call (xl := [.tmp 30, .const (.slice none 0 0), .const (.int .i64 0), .const (.slice none 0 0)]) (al := [(ptr L13.bN 0), (Value.slice none 0 0), (eN 0), (Value.slice none 0 0)]) Try.func32 kr rfl rfl rfl (rowWrite_ok L13 s1 _ a14 (lt_or1 a19.lt lt_no) ([] : List Int) (Value.slice none 0 0) seq_nil fo 0 0 [] (fun _ => []) (Value.slice none 0 0) seq_nil fam_zero rfl (fun _ => Nat.zero_le _))) ?_
 rintro _ w32 ⟨rfl, a34, o33⟩
 replace a19 := a19.step o33 (a14.dis _ in1)
 replace f30 := f30.step o33 (sub2 sub1)
 replace f31 := f31.step o33 (sub2 sub1)
 replace oW := oW.tail o33 (fun k hk e => by have := g_oW_L13 k e; omega)
 replace a14 := a34
 refine wG (n_eql (a := (rowWC s1 ([] : List Int) 0 (fun _ => []) 0)) (b := 1) rfl rfl (decide_eq_true ((write_shape (fun h_ => by have h2_ := h_.2; rw [rv_s1.ct.gD] at h2_; cases h2_) _ _).1))) ?_
 refine wI (d_pick (b := true) (v := vT) rfl rfl) ?_
 refine wI (d_assign rfl) ?_
 refine wD (tN ?_)
 refine forget (fun zf35 => ([vT] ++ (zs zf35 1 33))) kr (fun zf35 => ?_)
 refine wpIn_ret ?_
 refine leave0 (v := vT) (res1 Try.results27 rfl) ?_
 exact ⟨rfl, oW⟩
theorem rowioOrder_law (ll : List Int) (lb : List UInt8) (u1 u2 : Value) (W : World) (h1 : Ps No (Seq kI ll u1) W) (h2 : Ps No (Seq kB lb u2) W) :
    CW Try.prog 12 #[u1, u2] W (Rt (RIs (.bool true) W)) := by
 have oW : Only No W W := Only.refl _ _
 refine enter (al := [u1, u2]) (k := 135) (l := ([u1, u2] ++ (us 135))) Try.func12 rfl Try.ntmps12 rfl rfl ?_
 refine wQ (pL ?_)
 refine wI (d_assign rfl) ?_
 refine wD (tN (wQ (wQ (pL ?_))))
 refine wO (d_call (xl := []) (al := []) Try.func27 kr rfl rfl rfl (law12Known_ok _)) ?_
 rintro _ w11 ⟨rfl, o12⟩
 replace h1 := h1.step0 o12
 replace h2 := h2.step0 o12
 replace oW := oW.tail0 o12
 refine wI (d_not rfl rfl) ?_
 refine wD (tN ?_)
 refine cond_f rfl ?_
 refine wK (tN (wQ (pL ?_)))
 refine wI (d_buildS (pl := [(0, 1), (1, 1), (2, 1)]) (zs := [(eN 0), (eN 0), (eN 0)]) (cs := [(eN 6), (eN 8), (eN 4)]) Try.underlying49 s_ti49 ⟨_, _, _, _, rfl, s_ti3, ⟨_, _, _, _, rfl, s_ti3, ⟨_, _, _, _, rfl, s_ti3, rfl⟩⟩⟩ rfl (parts_cons (vs := [(eN 6)]) (cells_of (v := (eN 6)) rfl rfl) (parts_cons (vs := [(eN 8)]) (cells_of (v := (eN 8)) rfl rfl) (parts_cons (vs := [(eN 4)]) (cells_of (v := (eN 4)) rfl rfl) parts_nil))) rfl) ?_
 refine wO (d_call (xl := [.tmp 20, .const (.slice none 0 0)]) (al := [(Value.agg #[(eN 6), (eN 8), (eN 4)]), (Value.slice none 0 0)]) Try.func28 kr rfl rfl rfl (new0_ok 6 8 4 _ oo oo oo)) ?_
 rintro _ w13 ⟨L15, rfl, ⟨a16, g17⟩, o14⟩
 have g_oW_L15 : ∀ k, L15.S k → W.heap.size ≤ k := fun k hk => Nat.le_trans oW.size (g17 k hk)
 replace a16 := a16.less (Y := No) no_old
 replace h1 := h1.re (X' := Ors L15.S No) o14 (fun _ t => t.elim) (xx_news g17 xx_id)
 replace h2 := h2.re (X' := Ors L15.S No) o14 (fun _ t => t.elim) (xx_news g17 xx_id)
 replace oW := oW.tail0 o14
 refine wI (d_move rfl) ?_
 refine wI (d_extract (v := (ptr L15.bN 0)) rfl rfl) ?_
 refine wF ([u1, u2, undef, undef, vF] ++ (us 12 ++ [vT, vF, (Value.tuple #[(ptr L15.bN 0), (eN 0)]), (Value.agg #[(eN 6), (eN 8), (eN 4)]), (Value.tuple #[(ptr L15.bN 0), (eN 0)]), (ptr L15.bN 0)] ++ (us 114))) ?_
 refine wI (d_extract (v := (eN 0)) rfl rfl) ?_
 refine wI (d_assign rfl) ?_
 refine wI (d_assign rfl) ?_
 refine wD (tN ?_)
 refine forget (fun zf18 => ([u1, u2, (zf18 2), (zf18 3), (zf18 4), (ptr L15.bN 0), (eN 0), (zf18 7), undef, undef, undef, undef, (zf18 12), undef, undef, (zf18 15), undef] ++ (zs zf18 17 74 ++ (us 41 ++ (zs zf18 132 5))))) kr (fun zf18 => ?_)
 refine wQ (wQ (pL ?_))
 refine wI (d_move rfl) ?_
 refine wI (n_neq (a := 0) (b := 0) rfl rfl (by rw [decide_eq_true rfl] <;> rfl)) ?_
 refine wD (tN ?_)
 refine cond_f rfl ?_
 refine wK (tN (wQ (pL ?_)))
 refine wO (d_buildL (cs := [(eN 0), (eN 1), (eN 2), (eN 3), (eN 4), (eN 5)]) Try.underlying23 s_ti3 rfl (nb rfl) (parts_cons (vs := [(eN 0)]) (cells_of (v := (eN 0)) rfl rfl) (parts_cons (vs := [(eN 1)]) (cells_of (v := (eN 1)) rfl rfl) (parts_cons (vs := [(eN 2)]) (cells_of (v := (eN 2)) rfl rfl) (parts_cons (vs := [(eN 3)]) (cells_of (v := (eN 3)) rfl rfl) (parts_cons (vs := [(eN 4)]) (cells_of (v := (eN 4)) rfl rfl) (parts_cons (vs := [(eN 5)]) (cells_of (v := (eN 5)) rfl rfl) parts_nil)))))) rfl) ?_
 rintro _ w19 ⟨sb, rfl, g20, a21, o22⟩
 replace a21 : Arr 3 sb (([0, 1, 2, 3, 4, 5] : List Int).map eI) w19 := a21
 have l_sb : ([0, 1, 2, 3, 4, 5] : List Int).length = 6 := rfl
 have g_oW_sb : W.heap.size ≤ sb := Nat.le_trans oW.size g20
 replace h1 := h1.new o22 g20
 replace h2 := h2.new o22 g20
 replace a16 := a16.new o22 g20
 replace oW := oW.tail0 o22
 refine wI (d_assign rfl) ?_
 refine wD (tN (wQ (pL ?_)))
 refine wI (d_assign rfl) ?_
 refine wI (d_assign rfl) ?_
 refine wD (tN (wQ (wQ (pL ?_))))
 refine wI (d_assign rfl) ?_
 refine wF ([u1, u2, (zf18 2), (zf18 3), (zf18 4), (ptr L15.bN 0), (eN 0), (sli sb 0 6 6), (eN 0), (eN 0), (eN 0), undef, (zf18 12), undef, undef, (zf18 15), undef] ++ (zs zf18 17 7 ++ [(eN 0), vF, (sli sb 0 6 6)] ++ (zs zf18 27 64 ++ (us 41 ++ (zs zf18 132 5))))) ?_
 refine wD (tN (wB ?_))
 refine loop2 (fun (s_ : (Nat) × (Nat) × (Nat) × (NS)) => match s_ with | ⟨i, nx, wr, s⟩ => fun (z : Nat → Value) => (([u1, u2, (zf18 2), (zf18 3), (z 4), (ptr L15.bN 0), (eN 0), (sli sb 0 6 6), (eN nx), (eN wr), (eN i), (z 11), (z 12), undef, undef, (zf18 15), undef] ++ (zs zf18 17 7 ++ [(eN 0), vF, (sli sb 0 6 6)] ++ (zs z 27 42 ++ (zs zf18 69 22 ++ (us 41 ++ (zs zf18 132 5)))))) : List Value)) (fun (s_ : (Nat) × (Nat) × (Nat) × (NS)) => match s_ with | ⟨i, nx, wr, s⟩ => fun (w_ : World) => (i ≤ 20) ∧ (wr ≤ i) ∧ (nx ≤ 4) ∧ (OrdR s nx wr lb) ∧ Only (Or1 sb (Ors L15.S No)) w19 w_ ∧ Arr 3 sb (([0, 1, 2, 3, 4, 5] : List Int).map eI) w_ ∧ Nd L15 s (Or1 sb No) w_) (fun (s_ : (Nat) × (Nat) × (Nat) × (NS)) => match s_ with | ⟨i, nx, wr, s⟩ => 20 - i) ⟨0, 0, 0, (NS.new 6 8 4 (fun _ _ => false))⟩ rfl ?_ ?_
 ·
  refine ⟨?_, ?_, ?_, ?_, ?_, ?_, ?_⟩
  ·
   (try dsimp only)
   all_goals (omega)
  ·
   (try dsimp only)
   all_goals (omega)
  ·
   (try dsimp only)
   all_goals (omega)
  ·
   exact ordR_new lb
  ·
   exact Only.refl _ _
  ·
   exact a21
  ·
   exact a16
 rintro ⟨i, nx, wr, s⟩ z w24 ⟨hi, hw, hn, hI, o23, a21, a16⟩
 (try dsimp only)
 replace h1 := h1.step o23 (or1_mono (ors_mono no_any))
 replace h2 := h2.step o23 (or1_mono (ors_mono no_any))
 replace oW := oW.tail o23 (tl_new g_oW_sb (tl_snew g_oW_L15 tl_no))
 refine wQ (wQ ?_)
 refine pL (wpL.cut (b := decide (i < ll.length ∧ i < 20)) (shape := fun b_ z => ([u1, u2, (zf18 2), (zf18 3), (z 4), (ptr L15.bN 0), (eN 0), (sli sb 0 6 6), (eN nx), (eN wr), (eN i), (z 11), (z 12), undef, undef, (zf18 15), undef] ++ (zs zf18 17 7 ++ [(eN 0), vF, (sli sb 0 6 6)] ++ (zs z 27 7 ++ [(Value.bool b_)] ++ (zs z 35 34 ++ (zs zf18 69 22 ++ (us 41 ++ (zs zf18 132 5)))))))) ?_ ?_)
 ·
  intro Q' hQ_
  by_cases k0 : i < ll.length
  ·
   by_cases k00 : i < 20
   ·
    refine wI (d_move rfl) ?_
    refine wI (d_move rfl) ?_
    refine wI (d_lenS rfl Try.underlying23 rfl h1) ?_
    refine wI (n_lss (a := i) (b := ll.length) rfl rfl (decide_eq_true k0)) ?_
    refine wI (d_move rfl) ?_
    refine wG (d_move rfl) ?_
    refine wG (n_lss (a := i) (b := 20) rfl rfl (decide_eq_true k00)) ?_
    refine wF ([u1, u2, (zf18 2), (zf18 3), (z 4), (ptr L15.bN 0), (eN 0), (sli sb 0 6 6), (eN nx), (eN wr), (eN i), (z 11), (z 12), undef, undef, (zf18 15), undef] ++ (zs zf18 17 7 ++ [(eN 0), vF, (sli sb 0 6 6), (eN i), u1, (eN ll.length), vT, vT, (eN i), vT] ++ (zs z 34 35 ++ (zs zf18 69 22 ++ (us 41 ++ (zs zf18 132 5)))))) ?_
    refine wI (d_pick (b := true) (v := vT) rfl rfl) ?_
    refine wF ([u1, u2, (zf18 2), (zf18 3), (z 4), (ptr L15.bN 0), (eN 0), (sli sb 0 6 6), (eN nx), (eN wr), (eN i), (z 11), (z 12), undef, undef, (zf18 15), undef] ++ (zs zf18 17 7 ++ [(eN 0), vF, (sli sb 0 6 6), (eN i), u1, (eN ll.length), vT, vT, (eN i), vT, vT] ++ (zs z 35 34 ++ (zs zf18 69 22 ++ (us 41 ++ (zs zf18 132 5)))))) ?_
    refine wD ?_
    refine hQ_ _ ?_
    rw [show decide (i < ll.length ∧ i < 20) = true from decide_eq_true ⟨k0, k00⟩]
    kernel_rfl
   refine wI (d_move rfl) ?_
   refine wI (d_move rfl) ?_
   refine wI (d_lenS rfl Try.underlying23 rfl h1) ?_
   refine wI (n_lss (a := i) (b := ll.length) rfl rfl (decide_eq_true k0)) ?_
   refine wI (d_move rfl) ?_
   refine wG (d_move rfl) ?_
   refine wG (n_lss (a := i) (b := 20) rfl rfl (decide_eq_false k00)) ?_
   refine wF ([u1, u2, (zf18 2), (zf18 3), (z 4), (ptr L15.bN 0), (eN 0), (sli sb 0 6 6), (eN nx), (eN wr), (eN i), (z 11), (z 12), undef, undef, (zf18 15), undef] ++ (zs zf18 17 7 ++ [(eN 0), vF, (sli sb 0 6 6), (eN i), u1, (eN ll.length), vT, vT, (eN i), vF] ++ (zs z 34 35 ++ (zs zf18 69 22 ++ (us 41 ++ (zs zf18 132 5)))))) ?_
   refine wI (d_pick (b := true) (v := vF) rfl rfl) ?_
   refine wF ([u1, u2, (zf18 2), (zf18 3), (z 4), (ptr L15.bN 0), (eN 0), (sli sb 0 6 6), (eN nx), (eN wr), (eN i), (z 11), (z 12), undef, undef, (zf18 15), undef] ++ (zs zf18 17 7 ++ [(eN 0), vF, (sli sb 0 6 6), (eN i), u1, (eN ll.length), vT, vT, (eN i), vF, vF] ++ (zs z 35 34 ++ (zs zf18 69 22 ++ (us 41 ++ (zs zf18 132 5)))))) ?_
   refine wD ?_
   refine hQ_ _ ?_
   rw [show decide (i < ll.length ∧ i < 20) = false from decide_eq_false (fun h_ => k00 h_.2)]
   kernel_rfl
  refine wI (d_move rfl) ?_
  refine wI (d_move rfl) ?_
  refine wI (d_lenS rfl Try.underlying23 rfl h1) ?_
  refine wI (n_lss (a := i) (b := ll.length) rfl rfl (decide_eq_false k0)) ?_
  refine wI (d_move rfl) ?_
  refine wX ?_
  refine wF ([u1, u2, (zf18 2), (zf18 3), (z 4), (ptr L15.bN 0), (eN 0), (sli sb 0 6 6), (eN nx), (eN wr), (eN i), (z 11), (z 12), undef, undef, (zf18 15), undef] ++ (zs zf18 17 7 ++ [(eN 0), vF, (sli sb 0 6 6), (eN i), u1, (eN ll.length), vF, vF, undef] ++ (zs z 33 36 ++ (zs zf18 69 22 ++ (us 41 ++ (zs zf18 132 5)))))) ?_
  refine wX ?_
  refine wI (d_pick (b := false) (v := vF) rfl rfl) ?_
  refine wF ([u1, u2, (zf18 2), (zf18 3), (z 4), (ptr L15.bN 0), (eN 0), (sli sb 0 6 6), (eN nx), (eN wr), (eN i), (z 11), (z 12), undef, undef, (zf18 15), undef] ++ (zs zf18 17 7 ++ [(eN 0), vF, (sli sb 0 6 6), (eN i), u1, (eN ll.length), vF, vF, undef, undef, vF] ++ (zs z 35 34 ++ (zs zf18 69 22 ++ (us 41 ++ (zs zf18 132 5)))))) ?_
  refine wD ?_
  refine hQ_ _ ?_
  rw [show decide (i < ll.length ∧ i < 20) = false from decide_eq_false (fun h_ => k0 h_.1)]
  kernel_rfl
 intro z
 (try dsimp only)
 refine tN ?_
 refine cond_if rfl (fun kc => ?_) (fun kc => ?_)
 ·
  refine wK (tN (wQ (wB (wQ (pL ?_)))))
  refine wI (d_move rfl) ?_
  refine wI (d_move rfl) ?_
  refine wI (d_ix (i := i) (xs := ll) Try.underlying23 s_ti3 rfl h1 (show _ = Value.int _ (i : Int) from rfl) fo) ?_
  refine wI (d_ldx (i := i) (xs := ll) (enc := eI) (v := (ll.getD i 0)) ⟨_, Try.underlying3, rfl⟩ rfl h1 (g_at fo)) ?_
  refine wO (d_call (xl := [.tmp 40, .const (.int .i64 6)]) (al := [(eI (ll.getD i 0)), (eN 6)]) Try.func29 kr rfl rfl rfl (law12Within_ok (ll.getD i 0) 6 _ oo oo)) ?_
  rintro _ w25 ⟨rfl, o26⟩
  replace h1 := h1.step0 o26
  replace h2 := h2.step0 o26
  replace a16 := a16.step0 o26
  replace a21 := a21.step0 o26
  replace oW := oW.tail0 o26
  replace o23 := o23.tail0 o26
  refine wI (d_assign rfl) ?_
  refine wD (tN (wQ (wQ ?_)))
  obtain ⟨pp, hpp, epp⟩ : ∃ pp, pp < 6 ∧ ((ll.getD i 0) % ((6 : Nat) : Int)).toNat = pp := ⟨_, by omega, rfl⟩
  refine wp_eq (l' := ([u1, u2, (zf18 2), (zf18 3), (z 4), (ptr L15.bN 0), (eN 0), (sli sb 0 6 6), (eN nx), (eN wr), (eN i), (eN (((ll.getD i 0) % ((6 : Nat) : Int)).toNat)), (z 12), undef, undef, (zf18 15), undef] ++ (zs zf18 17 7 ++ [(eN 0), vF, (sli sb 0 6 6)] ++ (zs z 27 7 ++ [(Value.bool (decide (i < ll.length ∧ i < 20))), (z 35), (z 36), u1, (eN i), (ixp u1 i), (eI (ll.getD i 0)), (eN (((ll.getD i 0) % ((6 : Nat) : Int)).toNat))] ++ (zs z 42 27 ++ (zs zf18 69 22 ++ (us 41 ++ (zs zf18 132 5)))))))) rfl ?_
  refine wp_eq (l' := ([u1, u2, (zf18 2), (zf18 3), (z 4), (ptr L15.bN 0), (eN 0), (sli sb 0 6 6), (eN nx), (eN wr), (eN i), (eN pp), (z 12), undef, undef, (zf18 15), undef] ++ (zs zf18 17 7 ++ [(eN 0), vF, (sli sb 0 6 6)] ++ (zs z 27 7 ++ [(Value.bool (decide (i < ll.length ∧ i < 20))), (z 35), (z 36), u1, (eN i), (ixp u1 i), (eI (ll.getD i 0)), (eN (((ll.getD i 0) % ((6 : Nat) : Int)).toNat))] ++ (zs z 42 27 ++ (zs zf18 69 22 ++ (us 41 ++ (zs zf18 132 5)))))))) (show (([u1, u2, (zf18 2), (zf18 3), (z 4), (ptr L15.bN 0), (eN 0), (sli sb 0 6 6), (eN nx), (eN wr), (eN i), (eN (((ll.getD i 0) % ((6 : Nat) : Int)).toNat)), (z 12), undef, undef, (zf18 15), undef] ++ (zs zf18 17 7 ++ [(eN 0), vF, (sli sb 0 6 6)] ++ (zs z 27 7 ++ [(Value.bool (decide (i < ll.length ∧ i < 20))), (z 35), (z 36), u1, (eN i), (ixp u1 i), (eI (ll.getD i 0)), (eN (((ll.getD i 0) % ((6 : Nat) : Int)).toNat))] ++ (zs z 42 27 ++ (zs zf18 69 22 ++ (us 41 ++ (zs zf18 132 5))))))) : List Value) = ([u1, u2, (zf18 2), (zf18 3), (z 4), (ptr L15.bN 0), (eN 0), (sli sb 0 6 6), (eN nx), (eN wr), (eN i), (eN pp), (z 12), undef, undef, (zf18 15), undef] ++ (zs zf18 17 7 ++ [(eN 0), vF, (sli sb 0 6 6)] ++ (zs z 27 7 ++ [(Value.bool (decide (i < ll.length ∧ i < 20))), (z 35), (z 36), u1, (eN i), (ixp u1 i), (eI (ll.getD i 0)), (eN (((ll.getD i 0) % ((6 : Nat) : Int)).toNat))] ++ (zs z 42 27 ++ (zs zf18 69 22 ++ (us 41 ++ (zs zf18 132 5))))))) from reslot ([u1, u2, (zf18 2), (zf18 3), (z 4), (ptr L15.bN 0), (eN 0), (sli sb 0 6 6), (eN nx), (eN wr), (eN i), (eN (((ll.getD i 0) % ((6 : Nat) : Int)).toNat)), (z 12), undef, undef, (zf18 15), undef] ++ (zs zf18 17 7 ++ [(eN 0), vF, (sli sb 0 6 6)] ++ (zs z 27 7 ++ [(Value.bool (decide (i < ll.length ∧ i < 20))), (z 35), (z 36), u1, (eN i), (ixp u1 i), (eI (ll.getD i 0)), (eN (((ll.getD i 0) % ((6 : Nat) : Int)).toNat))] ++ (zs z 42 27 ++ (zs zf18 69 22 ++ (us 41 ++ (zs zf18 132 5))))))) 11 (congrArg eN epp)) ?_
  refine pL ?_
  refine wI (d_move rfl) ?_
  refine wI (n_eql (a := pp) (b := 5) rfl rfl rfl) ?_
  refine wD (tN ?_)
  refine cond_if rfl (fun c5 => ?_) (fun c5 => ?_)
  ·
   refine wQ (wQ ?_)
   refine wp_eq (l' := ([u1, u2, (zf18 2), (zf18 3), (z 4), (ptr L15.bN 0), (eN 0), (sli sb 0 6 6), (eN nx), (eN wr), (eN i), (eN pp), (z 12), undef, undef, (zf18 15), undef] ++ (zs zf18 17 7 ++ [(eN 0), vF, (sli sb 0 6 6)] ++ (zs z 27 7 ++ [(Value.bool (decide (i < ll.length ∧ i < 20))), (z 35), (z 36), u1, (eN i), (ixp u1 i), (eI (ll.getD i 0)), (eN (((ll.getD i 0) % ((6 : Nat) : Int)).toNat)), (eN pp), (Value.bool (decide (pp = 5)))] ++ (zs z 44 25 ++ (zs zf18 69 22 ++ (us 41 ++ (zs zf18 132 5)))))))) rfl ?_
   refine pL ?_
   refine wI (d_move rfl) ?_
   refine wI (d_move rfl) ?_
   refine wO (d_call (xl := [.tmp 44, .tmp 45]) (al := [(ptr L15.bN 0), (sli sb 0 6 6)]) Try.func37 kr rfl rfl rfl (rowErase_ok L15 s _ a16 (lt_or1 a21.lt lt_no) ([0, 1, 2, 3, 4, 5] : List Int) (sli sb 0 6 6) (arr_keep a21 l_sb (Nat.le_refl _) (nx_ors (a16.dis _ in1) (fun _ _ t => t.elim))) fo)) ?_
   rintro _ w27 ⟨rfl, a29, o28⟩
   replace a21 := a21.step o28 (a16.dis _ in1)
   replace h1 := h1.step o28 (sub2 sub1)
   replace h2 := h2.step o28 (sub2 sub1)
   replace oW := oW.tail o28 (fun k hk e => by have := g_oW_L15 k e; omega)
   replace o23 := o23.tail o28 (fun k _ e => (sub2 sub1) k e)
   replace a16 := a29
   refine wI (n_neq (a := (rowDoC s.gD ([0, 1, 2, 3, 4, 5] : List Int).length (rowEC ([0, 1, 2, 3, 4, 5] : List Int) s))) (b := 0) rfl rfl (by rw [decide_eq_true ((ordR_erase hI).1)] <;> rfl)) ?_
   refine wF ([u1, u2, (zf18 2), (zf18 3), (z 4), (ptr L15.bN 0), (eN 0), (sli sb 0 6 6), (eN nx), (eN wr), (eN i), (eN pp), (z 12), undef, undef, (zf18 15), undef] ++ (zs zf18 17 7 ++ [(eN 0), vF, (sli sb 0 6 6)] ++ (zs z 27 7 ++ [(Value.bool (decide (i < ll.length ∧ i < 20))), (z 35), (z 36), u1, (eN i), (ixp u1 i), (eI (ll.getD i 0)), (eN (((ll.getD i 0) % ((6 : Nat) : Int)).toNat)), (eN pp), (Value.bool (decide (pp = 5))), (ptr L15.bN 0), (sli sb 0 6 6), (eN (rowDoC s.gD ([0, 1, 2, 3, 4, 5] : List Int).length (rowEC ([0, 1, 2, 3, 4, 5] : List Int) s))), vF] ++ (zs z 48 21 ++ (zs zf18 69 22 ++ (us 41 ++ (zs zf18 132 5))))))) ?_
   refine wD ?_
   have hJ_s1 := (ordR_erase hI).2
   obtain ⟨s1, e_s1⟩ : ∃ x_, rowDo s.gD ([0, 1, 2, 3, 4, 5] : List Int).length (rowE ([0, 1, 2, 3, 4, 5] : List Int) s) (rowEC ([0, 1, 2, 3, 4, 5] : List Int) s) = x_ := ⟨_, rfl⟩
   replace hJ_s1 := ordR_to hJ_s1 e_s1
   replace a16 := nd_to a16 e_s1
   refine tN ?_
   refine forget (fun zf30 => ([u1, u2, (zf18 2), (zf18 3), (zf30 4), (ptr L15.bN 0), (eN 0), (sli sb 0 6 6), (eN nx), (eN wr), (eN i), (eN pp), (zf30 12), undef, undef, (zf18 15), undef] ++ (zs zf18 17 7 ++ [(eN 0), vF, (sli sb 0 6 6)] ++ (zs zf30 27 20 ++ [vF] ++ (zs zf30 48 21 ++ (zs zf18 69 22 ++ (us 41 ++ (zs zf18 132 5)))))))) kr (fun zf30 => ?_)
   refine cond_f rfl ?_
   refine wK (tN (wQ (pL ?_)))
   refine wI (d_assign rfl) ?_
   refine wD (tN (wpIn_exit ?_))
   refine then_x (inb_e ?_)
   refine tN (pL ?_)
   refine wI (d_move rfl) ?_
   refine wI (n_add (a := i) (b := 1) rfl rfl oo) ?_
   refine wI (d_assign rfl) ?_
   refine wD (tN ?_)
   refine ⟨_, ⟨i + 1, 0, wr, s1⟩, rfl, kr, ⟨?_, ?_, ?_, ?_, ?_, ?_, ?_⟩, ?_⟩
   ·
    (try dsimp only)
    all_goals (omega)
   ·
    (try dsimp only)
    all_goals (omega)
   ·
    (try dsimp only)
    all_goals (omega)
   ·
    exact hJ_s1
   ·
    exact o23
   ·
    exact a21
   ·
    exact a16
   ·
    (try dsimp only)
    all_goals (omega)
  refine wK (tN ?_)
  refine forget (fun zf31 => ([u1, u2, (zf18 2), (zf18 3), (zf31 4), (ptr L15.bN 0), (eN 0), (sli sb 0 6 6), (eN nx), (eN wr), (eN i), (eN pp), (zf31 12), undef, undef, (zf18 15), undef] ++ (zs zf18 17 7 ++ [(eN 0), vF, (sli sb 0 6 6)] ++ (zs zf31 27 42 ++ (zs zf18 69 22 ++ (us 41 ++ (zs zf18 132 5))))))) kr (fun zf31 => ?_)
  refine wQ ?_
  by_cases k1 : pp = nx
  ·
   by_cases k2 : pp < 4
   ·
    refine pL ?_
    refine wI (d_move rfl) ?_
    refine wI (d_move rfl) ?_
    refine wI (d_move rfl) ?_
    refine wI (d_move rfl) ?_
    refine wO (d_call (xl := [.tmp 51, .const (.int .i64 6)]) (al := [u2, (eN 6)]) Try.func31 kr rfl rfl rfl (payloads_ok lb 6 u2 _ (Ps.no h2) oo)) ?_
    rintro u34 w32 ⟨vs35, l36, f37, f38, o33⟩
    replace f37 := f37.less (Y := (Or1 sb (Ors L15.S (Old W.heap.size)))) (or1_old a21.lt (ors_old a16.lt (old_old oW.size)))
    replace f38 := f38.less (Y := (Or1 sb (Ors L15.S (Old W.heap.size)))) (or1_old a21.lt (ors_old a16.lt (old_old oW.size)))
    replace h1 := h1.step0 o33
    replace h2 := h2.step0 o33
    replace a16 := a16.step0 o33
    replace a21 := a21.step0 o33
    replace oW := oW.tail0 o33
    replace o23 := o23.tail0 o33
    refine wO (d_call (xl := [.tmp 48, .tmp 49, .tmp 50, .tmp 52]) (al := [(ptr L15.bN 0), (sli sb 0 6 6), (eN pp), u34]) Try.func32 kr rfl rfl rfl (rowWrite_ok L15 s _ a16 (lt_or1 a21.lt lt_no) ([0, 1, 2, 3, 4, 5] : List Int) (sli sb 0 6 6) (arr_keep a21 l_sb (Nat.le_refl _) (nx_ors (a16.dis _ in1) (fun _ _ t => t.elim))) fo 6 (pp : Int) vs35 (plD lb 6) u34 (f37.less (os_of (sub2 sub1))) (f38.less (os_of (sub2 sub1))) l36 (plD_le lb 6))) ?_
    rintro _ w39 ⟨rfl, a41, o40⟩
    replace a21 := a21.step o40 (a16.dis _ in1)
    replace h1 := h1.step o40 (sub2 sub1)
    replace h2 := h2.step o40 (sub2 sub1)
    replace f37 := f37.step o40 (sub2 sub1)
    replace f38 := f38.step o40 (sub2 sub1)
    replace oW := oW.tail o40 (fun k hk e => by have := g_oW_L15 k e; omega)
    replace o23 := o23.tail o40 (fun k _ e => (sub2 sub1) k e)
    replace a16 := a41
    refine wI (d_assign rfl) ?_
    refine wF ([u1, u2, (zf18 2), (zf18 3), (zf31 4), (ptr L15.bN 0), (eN 0), (sli sb 0 6 6), (eN nx), (eN wr), (eN i), (eN pp), (eN (rowWC s ([0, 1, 2, 3, 4, 5] : List Int) (pp : Int) (plD lb 6) 6)), undef, undef, (zf18 15), undef] ++ (zs zf18 17 7 ++ [(eN 0), vF, (sli sb 0 6 6)] ++ (zs zf31 27 21 ++ [(ptr L15.bN 0), (sli sb 0 6 6), (eN pp), u2, u34, (eN (rowWC s ([0, 1, 2, 3, 4, 5] : List Int) (pp : Int) (plD lb 6) 6))] ++ (zs zf31 54 15 ++ (zs zf18 69 22 ++ (us 41 ++ (zs zf18 132 5))))))) ?_
    refine wD ?_
    have hJ_s1 := (ordR_yes hI k1 k2).2
    obtain ⟨s1, e_s1⟩ : ∃ x_, rowWS s ([0, 1, 2, 3, 4, 5] : List Int) (pp : Int) (plD lb 6) 6 = x_ := ⟨_, rfl⟩
    replace hJ_s1 := ordR_to hJ_s1 e_s1
    replace a16 := nd_to a16 e_s1
    refine tN (wQ (pL ?_))
    refine wI (d_move rfl) ?_
    refine wI (d_move rfl) ?_
    refine wI (n_eql (a := pp) (b := nx) rfl rfl (decide_eq_true k1)) ?_
    refine wI (d_move rfl) ?_
    refine wG (d_move rfl) ?_
    refine wG (n_lss (a := pp) (b := 4) rfl rfl (decide_eq_true k2)) ?_
    refine wI (d_pick (b := true) (v := vT) rfl rfl) ?_
    refine wF ([u1, u2, (zf18 2), (zf18 3), (zf31 4), (ptr L15.bN 0), (eN 0), (sli sb 0 6 6), (eN nx), (eN wr), (eN i), (eN pp), (eN (rowWC s ([0, 1, 2, 3, 4, 5] : List Int) (pp : Int) (plD lb 6) 6)), undef, undef, (zf18 15), undef] ++ (zs zf18 17 7 ++ [(eN 0), vF, (sli sb 0 6 6)] ++ (zs zf31 27 21 ++ [(ptr L15.bN 0), (sli sb 0 6 6), (eN pp), u2, u34, (eN (rowWC s ([0, 1, 2, 3, 4, 5] : List Int) (pp : Int) (plD lb 6) 6)), (eN pp), (eN nx), vT, vT, (eN pp), vT, vT] ++ (zs zf31 61 8 ++ (zs zf18 69 22 ++ (us 41 ++ (zs zf18 132 5))))))) ?_
    refine wD (tN ?_)
    refine forget (fun zf42 => ([u1, u2, (zf18 2), (zf18 3), (zf42 4), (ptr L15.bN 0), (eN 0), (sli sb 0 6 6), (eN nx), (eN wr), (eN i), (eN pp), (eN (rowWC s ([0, 1, 2, 3, 4, 5] : List Int) (pp : Int) (plD lb 6) 6)), undef, undef, (zf18 15), undef] ++ (zs zf18 17 7 ++ [(eN 0), vF, (sli sb 0 6 6)] ++ (zs zf42 27 33 ++ [vT] ++ (zs zf42 61 8 ++ (zs zf18 69 22 ++ (us 41 ++ (zs zf18 132 5)))))))) kr (fun zf42 => ?_)
    refine cond_t rfl ?_
    refine wQ (pL ?_)
    refine wI (d_move rfl) ?_
    refine wI (n_add (a := nx) (b := 1) rfl rfl oo) ?_
    refine wI (d_assign rfl) ?_
    refine wD (tN (wQ (pL ?_)))
    refine wI (d_move rfl) ?_
    refine wI (n_neq (a := (rowWC s ([0, 1, 2, 3, 4, 5] : List Int) (pp : Int) (plD lb 6) 6)) (b := 0) rfl rfl (by rw [decide_eq_true ((ordR_yes hI k1 k2).1)] <;> rfl)) ?_
    refine wD (tN ?_)
    refine cond_f rfl ?_
    refine wK ?_
    refine inb_n (tN ?_)
    refine pL ?_
    refine wI (d_move rfl) ?_
    refine wI (n_add (a := i) (b := 1) rfl rfl oo) ?_
    refine wF ([u1, u2, (zf18 2), (zf18 3), (zf42 4), (ptr L15.bN 0), (eN 0), (sli sb 0 6 6), (eN (nx + 1)), (eN wr), (eN i), (eN pp), (eN (rowWC s ([0, 1, 2, 3, 4, 5] : List Int) (pp : Int) (plD lb 6) 6)), undef, undef, (zf18 15), undef] ++ (zs zf18 17 7 ++ [(eN 0), vF, (sli sb 0 6 6)] ++ (zs zf42 27 8 ++ [(eN i), (eN (i + 1))] ++ (zs zf42 37 23 ++ [vT, (eN nx), (eN (nx + 1)), (eN (rowWC s ([0, 1, 2, 3, 4, 5] : List Int) (pp : Int) (plD lb 6) 6)), vF, (zf42 65), (zf42 66), (zf42 67), (zf42 68)] ++ (zs zf18 69 22 ++ (us 41 ++ (zs zf18 132 5))))))) ?_
    refine wI (d_assign rfl) ?_
    refine wD (tN ?_)
    refine ⟨_, ⟨i + 1, nx + 1, wr, s1⟩, rfl, kr, ⟨?_, ?_, ?_, ?_, ?_, ?_, ?_⟩, ?_⟩
    ·
     (try dsimp only)
     all_goals (omega)
    ·
     (try dsimp only)
     all_goals (omega)
    ·
     (try dsimp only)
     all_goals (omega)
    ·
     exact hJ_s1
    ·
     exact o23
    ·
     exact a21
    ·
     exact a16
    ·
     (try dsimp only)
     all_goals (omega)
   refine pL ?_
   refine wI (d_move rfl) ?_
   refine wI (d_move rfl) ?_
   refine wI (d_move rfl) ?_
   refine wI (d_move rfl) ?_
   refine wO (d_call (xl := [.tmp 51, .const (.int .i64 6)]) (al := [u2, (eN 6)]) Try.func31 kr rfl rfl rfl (payloads_ok lb 6 u2 _ (Ps.no h2) oo)) ?_
   rintro u45 w43 ⟨vs46, l47, f48, f49, o44⟩
   replace f48 := f48.less (Y := (Or1 sb (Ors L15.S (Old W.heap.size)))) (or1_old a21.lt (ors_old a16.lt (old_old oW.size)))
   replace f49 := f49.less (Y := (Or1 sb (Ors L15.S (Old W.heap.size)))) (or1_old a21.lt (ors_old a16.lt (old_old oW.size)))
   replace h1 := h1.step0 o44
   replace h2 := h2.step0 o44
   replace a16 := a16.step0 o44
   replace a21 := a21.step0 o44
   replace oW := oW.tail0 o44
   replace o23 := o23.tail0 o44
   refine wO (d_call (xl := [.tmp 48, .tmp 49, .tmp 50, .tmp 52]) (al := [(ptr L15.bN 0), (sli sb 0 6 6), (eN pp), u45]) Try.func32 kr rfl rfl rfl (rowWrite_ok L15 s _ a16 (lt_or1 a21.lt lt_no) ([0, 1, 2, 3, 4, 5] : List Int) (sli sb 0 6 6) (arr_keep a21 l_sb (Nat.le_refl _) (nx_ors (a16.dis _ in1) (fun _ _ t => t.elim))) fo 6 (pp : Int) vs46 (plD lb 6) u45 (f48.less (os_of (sub2 sub1))) (f49.less (os_of (sub2 sub1))) l47 (plD_le lb 6))) ?_
   rintro _ w50 ⟨rfl, a52, o51⟩
   replace a21 := a21.step o51 (a16.dis _ in1)
   replace h1 := h1.step o51 (sub2 sub1)
   replace h2 := h2.step o51 (sub2 sub1)
   replace f48 := f48.step o51 (sub2 sub1)
   replace f49 := f49.step o51 (sub2 sub1)
   replace oW := oW.tail o51 (fun k hk e => by have := g_oW_L15 k e; omega)
   replace o23 := o23.tail o51 (fun k _ e => (sub2 sub1) k e)
   replace a16 := a52
   refine wI (d_assign rfl) ?_
   refine wF ([u1, u2, (zf18 2), (zf18 3), (zf31 4), (ptr L15.bN 0), (eN 0), (sli sb 0 6 6), (eN nx), (eN wr), (eN i), (eN pp), (eN (rowWC s ([0, 1, 2, 3, 4, 5] : List Int) (pp : Int) (plD lb 6) 6)), undef, undef, (zf18 15), undef] ++ (zs zf18 17 7 ++ [(eN 0), vF, (sli sb 0 6 6)] ++ (zs zf31 27 21 ++ [(ptr L15.bN 0), (sli sb 0 6 6), (eN pp), u2, u45, (eN (rowWC s ([0, 1, 2, 3, 4, 5] : List Int) (pp : Int) (plD lb 6) 6))] ++ (zs zf31 54 15 ++ (zs zf18 69 22 ++ (us 41 ++ (zs zf18 132 5))))))) ?_
   refine wD ?_
   have hJ_s1 := (ordR_no hI (fun h => k2 h.2) oo).2
   obtain ⟨s1, e_s1⟩ : ∃ x_, rowWS s ([0, 1, 2, 3, 4, 5] : List Int) (pp : Int) (plD lb 6) 6 = x_ := ⟨_, rfl⟩
   replace hJ_s1 := ordR_to hJ_s1 e_s1
   replace a16 := nd_to a16 e_s1
   refine tN (wQ (pL ?_))
   refine wI (d_move rfl) ?_
   refine wI (d_move rfl) ?_
   refine wI (n_eql (a := pp) (b := nx) rfl rfl (decide_eq_true k1)) ?_
   refine wI (d_move rfl) ?_
   refine wG (d_move rfl) ?_
   refine wG (n_lss (a := pp) (b := 4) rfl rfl (decide_eq_false k2)) ?_
   refine wI (d_pick (b := true) (v := vF) rfl rfl) ?_
   refine wF ([u1, u2, (zf18 2), (zf18 3), (zf31 4), (ptr L15.bN 0), (eN 0), (sli sb 0 6 6), (eN nx), (eN wr), (eN i), (eN pp), (eN (rowWC s ([0, 1, 2, 3, 4, 5] : List Int) (pp : Int) (plD lb 6) 6)), undef, undef, (zf18 15), undef] ++ (zs zf18 17 7 ++ [(eN 0), vF, (sli sb 0 6 6)] ++ (zs zf31 27 21 ++ [(ptr L15.bN 0), (sli sb 0 6 6), (eN pp), u2, u45, (eN (rowWC s ([0, 1, 2, 3, 4, 5] : List Int) (pp : Int) (plD lb 6) 6)), (eN pp), (eN nx), vT, vT, (eN pp), vF, vF] ++ (zs zf31 61 8 ++ (zs zf18 69 22 ++ (us 41 ++ (zs zf18 132 5))))))) ?_
   refine wD (tN ?_)
   refine forget (fun zf53 => ([u1, u2, (zf18 2), (zf18 3), (zf53 4), (ptr L15.bN 0), (eN 0), (sli sb 0 6 6), (eN nx), (eN wr), (eN i), (eN pp), (eN (rowWC s ([0, 1, 2, 3, 4, 5] : List Int) (pp : Int) (plD lb 6) 6)), undef, undef, (zf18 15), undef] ++ (zs zf18 17 7 ++ [(eN 0), vF, (sli sb 0 6 6)] ++ (zs zf53 27 33 ++ [vF] ++ (zs zf53 61 8 ++ (zs zf18 69 22 ++ (us 41 ++ (zs zf18 132 5)))))))) kr (fun zf53 => ?_)
   refine cond_f rfl ?_
   refine wQ (pL ?_)
   refine wI (d_move rfl) ?_
   refine wI (n_add (a := wr) (b := 1) rfl rfl oo) ?_
   refine wI (d_assign rfl) ?_
   refine wD (tN (wQ (pL ?_)))
   refine wI (d_move rfl) ?_
   refine wI (n_neq (a := (rowWC s ([0, 1, 2, 3, 4, 5] : List Int) (pp : Int) (plD lb 6) 6)) (b := 1) rfl rfl (by rw [decide_eq_true ((ordR_no hI (fun h => k2 h.2) oo).1)] <;> rfl)) ?_
   refine wD (tN ?_)
   refine cond_f rfl ?_
   refine wK ?_
   refine inb_n (tN ?_)
   refine pL ?_
   refine wI (d_move rfl) ?_
   refine wI (n_add (a := i) (b := 1) rfl rfl oo) ?_
   refine wF ([u1, u2, (zf18 2), (zf18 3), (zf53 4), (ptr L15.bN 0), (eN 0), (sli sb 0 6 6), (eN nx), (eN (wr + 1)), (eN i), (eN pp), (eN (rowWC s ([0, 1, 2, 3, 4, 5] : List Int) (pp : Int) (plD lb 6) 6)), undef, undef, (zf18 15), undef] ++ (zs zf18 17 7 ++ [(eN 0), vF, (sli sb 0 6 6)] ++ (zs zf53 27 8 ++ [(eN i), (eN (i + 1))] ++ (zs zf53 37 23 ++ [vF, (zf53 61), (zf53 62), (zf53 63), (zf53 64), (eN wr), (eN (wr + 1)), (eN (rowWC s ([0, 1, 2, 3, 4, 5] : List Int) (pp : Int) (plD lb 6) 6)), vF] ++ (zs zf18 69 22 ++ (us 41 ++ (zs zf18 132 5))))))) ?_
   refine wI (d_assign rfl) ?_
   refine wD (tN ?_)
   refine ⟨_, ⟨i + 1, nx, wr + 1, s1⟩, rfl, kr, ⟨?_, ?_, ?_, ?_, ?_, ?_, ?_⟩, ?_⟩
   ·
    (try dsimp only)
    all_goals (omega)
   ·
    (try dsimp only)
    all_goals (omega)
   ·
    (try dsimp only)
    all_goals (omega)
   ·
    exact hJ_s1
   ·
    exact o23
   ·
    exact a21
   ·
    exact a16
   ·
    (try dsimp only)
    all_goals (omega)
  refine pL ?_
  refine wI (d_move rfl) ?_
  refine wI (d_move rfl) ?_
  refine wI (d_move rfl) ?_
  refine wI (d_move rfl) ?_
  refine wO (d_call (xl := [.tmp 51, .const (.int .i64 6)]) (al := [u2, (eN 6)]) Try.func31 kr rfl rfl rfl (payloads_ok lb 6 u2 _ (Ps.no h2) oo)) ?_
  rintro u56 w54 ⟨vs57, l58, f59, f60, o55⟩
  replace f59 := f59.less (Y := (Or1 sb (Ors L15.S (Old W.heap.size)))) (or1_old a21.lt (ors_old a16.lt (old_old oW.size)))
  replace f60 := f60.less (Y := (Or1 sb (Ors L15.S (Old W.heap.size)))) (or1_old a21.lt (ors_old a16.lt (old_old oW.size)))
  replace h1 := h1.step0 o55
  replace h2 := h2.step0 o55
  replace a16 := a16.step0 o55
  replace a21 := a21.step0 o55
  replace oW := oW.tail0 o55
  replace o23 := o23.tail0 o55
  refine wO (d_call (xl := [.tmp 48, .tmp 49, .tmp 50, .tmp 52]) (al := [(ptr L15.bN 0), (sli sb 0 6 6), (eN pp), u56]) Try.func32 kr rfl rfl rfl (rowWrite_ok L15 s _ a16 (lt_or1 a21.lt lt_no) ([0, 1, 2, 3, 4, 5] : List Int) (sli sb 0 6 6) (arr_keep a21 l_sb (Nat.le_refl _) (nx_ors (a16.dis _ in1) (fun _ _ t => t.elim))) fo 6 (pp : Int) vs57 (plD lb 6) u56 (f59.less (os_of (sub2 sub1))) (f60.less (os_of (sub2 sub1))) l58 (plD_le lb 6))) ?_
  rintro _ w61 ⟨rfl, a63, o62⟩
  replace a21 := a21.step o62 (a16.dis _ in1)
  replace h1 := h1.step o62 (sub2 sub1)
  replace h2 := h2.step o62 (sub2 sub1)
  replace f59 := f59.step o62 (sub2 sub1)
  replace f60 := f60.step o62 (sub2 sub1)
  replace oW := oW.tail o62 (fun k hk e => by have := g_oW_L15 k e; omega)
  replace o23 := o23.tail o62 (fun k _ e => (sub2 sub1) k e)
  replace a16 := a63
  refine wI (d_assign rfl) ?_
  refine wF ([u1, u2, (zf18 2), (zf18 3), (zf31 4), (ptr L15.bN 0), (eN 0), (sli sb 0 6 6), (eN nx), (eN wr), (eN i), (eN pp), (eN (rowWC s ([0, 1, 2, 3, 4, 5] : List Int) (pp : Int) (plD lb 6) 6)), undef, undef, (zf18 15), undef] ++ (zs zf18 17 7 ++ [(eN 0), vF, (sli sb 0 6 6)] ++ (zs zf31 27 21 ++ [(ptr L15.bN 0), (sli sb 0 6 6), (eN pp), u2, u56, (eN (rowWC s ([0, 1, 2, 3, 4, 5] : List Int) (pp : Int) (plD lb 6) 6))] ++ (zs zf31 54 15 ++ (zs zf18 69 22 ++ (us 41 ++ (zs zf18 132 5))))))) ?_
  refine wD ?_
  have hJ_s1 := (ordR_no hI (fun h => k1 h.1) oo).2
  obtain ⟨s1, e_s1⟩ : ∃ x_, rowWS s ([0, 1, 2, 3, 4, 5] : List Int) (pp : Int) (plD lb 6) 6 = x_ := ⟨_, rfl⟩
  replace hJ_s1 := ordR_to hJ_s1 e_s1
  replace a16 := nd_to a16 e_s1
  refine tN (wQ (pL ?_))
  refine wI (d_move rfl) ?_
  refine wI (d_move rfl) ?_
  refine wI (n_eql (a := pp) (b := nx) rfl rfl (decide_eq_false k1)) ?_
  refine wI (d_move rfl) ?_
  refine wX ?_
  refine wX ?_
  refine wI (d_pick (b := false) (v := vF) rfl rfl) ?_
  refine wF ([u1, u2, (zf18 2), (zf18 3), (zf31 4), (ptr L15.bN 0), (eN 0), (sli sb 0 6 6), (eN nx), (eN wr), (eN i), (eN pp), (eN (rowWC s ([0, 1, 2, 3, 4, 5] : List Int) (pp : Int) (plD lb 6) 6)), undef, undef, (zf18 15), undef] ++ (zs zf18 17 7 ++ [(eN 0), vF, (sli sb 0 6 6)] ++ (zs zf31 27 21 ++ [(ptr L15.bN 0), (sli sb 0 6 6), (eN pp), u2, u56, (eN (rowWC s ([0, 1, 2, 3, 4, 5] : List Int) (pp : Int) (plD lb 6) 6)), (eN pp), (eN nx), vF, vF, undef, undef, vF] ++ (zs zf31 61 8 ++ (zs zf18 69 22 ++ (us 41 ++ (zs zf18 132 5))))))) ?_
  refine wD (tN ?_)
  refine forget (fun zf64 => ([u1, u2, (zf18 2), (zf18 3), (zf64 4), (ptr L15.bN 0), (eN 0), (sli sb 0 6 6), (eN nx), (eN wr), (eN i), (eN pp), (eN (rowWC s ([0, 1, 2, 3, 4, 5] : List Int) (pp : Int) (plD lb 6) 6)), undef, undef, (zf18 15), undef] ++ (zs zf18 17 7 ++ [(eN 0), vF, (sli sb 0 6 6)] ++ (zs zf64 27 33 ++ [vF] ++ (zs zf64 61 8 ++ (zs zf18 69 22 ++ (us 41 ++ (zs zf18 132 5)))))))) kr (fun zf64 => ?_)
  refine cond_f rfl ?_
  refine wQ (pL ?_)
  refine wI (d_move rfl) ?_
  refine wI (n_add (a := wr) (b := 1) rfl rfl oo) ?_
  refine wI (d_assign rfl) ?_
  refine wD (tN (wQ (pL ?_)))
  refine wI (d_move rfl) ?_
  refine wI (n_neq (a := (rowWC s ([0, 1, 2, 3, 4, 5] : List Int) (pp : Int) (plD lb 6) 6)) (b := 1) rfl rfl (by rw [decide_eq_true ((ordR_no hI (fun h => k1 h.1) oo).1)] <;> rfl)) ?_
  refine wD (tN ?_)
  refine cond_f rfl ?_
  refine wK ?_
  refine inb_n (tN ?_)
  refine pL ?_
  refine wI (d_move rfl) ?_
  refine wI (n_add (a := i) (b := 1) rfl rfl oo) ?_
  refine wF ([u1, u2, (zf18 2), (zf18 3), (zf64 4), (ptr L15.bN 0), (eN 0), (sli sb 0 6 6), (eN nx), (eN (wr + 1)), (eN i), (eN pp), (eN (rowWC s ([0, 1, 2, 3, 4, 5] : List Int) (pp : Int) (plD lb 6) 6)), undef, undef, (zf18 15), undef] ++ (zs zf18 17 7 ++ [(eN 0), vF, (sli sb 0 6 6)] ++ (zs zf64 27 8 ++ [(eN i), (eN (i + 1))] ++ (zs zf64 37 23 ++ [vF, (zf64 61), (zf64 62), (zf64 63), (zf64 64), (eN wr), (eN (wr + 1)), (eN (rowWC s ([0, 1, 2, 3, 4, 5] : List Int) (pp : Int) (plD lb 6) 6)), vF] ++ (zs zf18 69 22 ++ (us 41 ++ (zs zf18 132 5))))))) ?_
  refine wI (d_assign rfl) ?_
  refine wD (tN ?_)
  refine ⟨_, ⟨i + 1, nx, wr + 1, s1⟩, rfl, kr, ⟨?_, ?_, ?_, ?_, ?_, ?_, ?_⟩, ?_⟩
  ·
   (try dsimp only)
   all_goals (omega)
  ·
   (try dsimp only)
   all_goals (omega)
  ·
   (try dsimp only)
   all_goals (omega)
  ·
   exact hJ_s1
  ·
   exact o23
  ·
   exact a21
  ·
   exact a16
  ·
   (try dsimp only)
   all_goals (omega)
 refine wpIn_exit ?_
 refine then_x (then_x (inb_e ?_))
 refine tN (wQ (wQ (pL ?_)))
 refine wI (d_assign rfl) ?_
 refine wD (tN (wB ?_))
 refine loop2 (fun (s_ : (Nat) × (NS)) => match s_ with | ⟨q, s2⟩ => fun (z : Nat → Value) => (([u1, u2, (zf18 2), (zf18 3), (z 4), (ptr L15.bN 0), (eN 0), (sli sb 0 6 6), (eN nx), (eN wr), (eN i), (z 11), (z 12), (eN q), (z 14), (z 15), (z 16)] ++ (zs zf18 17 7 ++ [(eN 0), vF, (sli sb 0 6 6)] ++ (zs z 27 7 ++ [(Value.bool (decide (i < ll.length ∧ i < 20)))] ++ (zs z 35 98 ++ [(zf18 133), (zf18 134), (zf18 135), (zf18 136)])))) : List Value)) (fun (s_ : (Nat) × (NS)) => match s_ with | ⟨q, s2⟩ => fun (w_ : World) => (q ≤ 4) ∧ (OrdR s2 nx wr lb) ∧ Only (Or1 sb (Ors L15.S No)) w24 w_ ∧ Arr 3 sb (([0, 1, 2, 3, 4, 5] : List Int).map eI) w_ ∧ Nd L15 s2 (Or1 sb No) w_) (fun (s_ : (Nat) × (NS)) => match s_ with | ⟨q, s2⟩ => 4 - q) ⟨0, (s)⟩ kr ?_ ?_
 ·
  refine ⟨?_, ?_, ?_, ?_, ?_⟩
  ·
   (try dsimp only)
   all_goals (omega)
  ·
   exact hI
  ·
   exact Only.refl _ _
  ·
   exact a21
  ·
   exact a16
 rintro ⟨q, s2⟩ z w66 ⟨hq, hK, o65, a21, a16⟩
 (try dsimp only)
 replace h1 := h1.step o65 (or1_mono (ors_mono no_any))
 replace h2 := h2.step o65 (or1_mono (ors_mono no_any))
 replace oW := oW.tail o65 (tl_new g_oW_sb (tl_snew g_oW_L15 tl_no))
 replace o23 := o23.tail o65 (tl_in in1 (tl_sin (sub2 sub1) tl_no))
 refine wQ (wQ (pL ?_))
 refine wI (d_move rfl) ?_
 refine wI (n_lss (a := q) (b := 4) rfl rfl rfl) ?_
 refine wD (tN ?_)
 refine cond_if rfl (fun hq4 => ?_) (fun hq4 => ?_)
 ·
  refine wK (tN (wQ (wB (wQ ?_))))
  refine wp_eq (l' := ([u1, u2, (zf18 2), (zf18 3), (z 4), (ptr L15.bN 0), (eN 0), (sli sb 0 6 6), (eN nx), (eN wr), (eN i), (z 11), (z 12), (eN q), (z 14), (z 15), (z 16)] ++ (zs zf18 17 7 ++ [(eN 0), vF, (sli sb 0 6 6)] ++ (zs z 27 7 ++ [(Value.bool (decide (i < ll.length ∧ i < 20)))] ++ (zs z 35 34 ++ [(eN q), (Value.bool (decide (q < 4)))] ++ (zs z 71 62 ++ [(zf18 133), (zf18 134), (zf18 135), (zf18 136)])))))) rfl ?_
  refine pL ?_
  refine wI (d_move rfl) ?_
  refine wI (d_move rfl) ?_
  refine wI (d_move rfl) ?_
  refine wO (d_call (xl := [.tmp 74, .tmp 75, .tmp 76]) (al := [(ptr L15.bN 0), (sli sb 0 6 6), (eN q)]) Try.func34 kr rfl rfl rfl (rowRead_ok L15 s2 _ a16 (lt_or1 a21.lt lt_no) ([0, 1, 2, 3, 4, 5] : List Int) (sli sb 0 6 6) (arr_keep a21 l_sb (Nat.le_refl _) (nx_ors (a16.dis _ in1) (fun _ _ t => t.elim))) fo (q : Int))) ?_
  rintro _ w67 ⟨v69, vs70, rfl, h71, h72, a73, o74⟩
  obtain ⟨l75, f76, f77⟩ := h71 ((ordR_read hK hq4).1)
  replace f76 := f76.less (Y := (Or1 sb (Ors L15.S (Old W.heap.size)))) (or1_old a21.lt (ors_old a16.lt (old_old oW.size)))
  replace f77 := f77.less (Y := (Or1 sb (Ors L15.S (Old W.heap.size)))) (or1_old a21.lt (ors_old a16.lt (old_old oW.size)))
  replace a21 := a21.step o74 (a16.dis _ in1)
  replace h1 := h1.step o74 (sub2 sub1)
  replace h2 := h2.step o74 (sub2 sub1)
  replace oW := oW.tail o74 (fun k hk e => by have := g_oW_L15 k e; omega)
  replace o23 := o23.tail o74 (fun k _ e => (sub2 sub1) k e)
  replace o65 := o65.tail o74 (fun k _ e => (sub2 sub1) k e)
  replace a16 := a73
  refine wI (d_move rfl) ?_
  refine wI (d_extract (v := v69) rfl rfl) ?_
  refine wI (d_extract (v := (eN (rowDoC s2.gD ([0, 1, 2, 3, 4, 5] : List Int).length (rowRC ([0, 1, 2, 3, 4, 5] : List Int) (q : Int) s2)))) rfl rfl) ?_
  refine wF ([u1, u2, (zf18 2), (zf18 3), (z 4), (ptr L15.bN 0), (eN 0), (sli sb 0 6 6), (eN nx), (eN wr), (eN i), (z 11), (z 12), (eN q), (z 14), (z 15), (z 16)] ++ (zs zf18 17 7 ++ [(eN 0), vF, (sli sb 0 6 6)] ++ (zs z 27 7 ++ [(Value.bool (decide (i < ll.length ∧ i < 20)))] ++ (zs z 35 34 ++ [(eN q), (Value.bool (decide (q < 4))), (z 71), (z 72), (Value.tuple #[v69, (eN (rowDoC s2.gD ([0, 1, 2, 3, 4, 5] : List Int).length (rowRC ([0, 1, 2, 3, 4, 5] : List Int) (q : Int) s2)))]), (ptr L15.bN 0), (sli sb 0 6 6), (eN q), (Value.tuple #[v69, (eN (rowDoC s2.gD ([0, 1, 2, 3, 4, 5] : List Int).length (rowRC ([0, 1, 2, 3, 4, 5] : List Int) (q : Int) s2)))]), v69, (eN (rowDoC s2.gD ([0, 1, 2, 3, 4, 5] : List Int).length (rowRC ([0, 1, 2, 3, 4, 5] : List Int) (q : Int) s2)))] ++ (zs z 80 53 ++ [(zf18 133), (zf18 134), (zf18 135), (zf18 136)]))))) ?_
  refine wI (d_assign rfl) ?_
  refine wI (d_assign rfl) ?_
  refine wF ([u1, u2, (zf18 2), (zf18 3), (z 4), (ptr L15.bN 0), (eN 0), (sli sb 0 6 6), (eN nx), (eN wr), (eN i), (z 11), (z 12), (eN q), v69, (eN (rowDoC s2.gD ([0, 1, 2, 3, 4, 5] : List Int).length (rowRC ([0, 1, 2, 3, 4, 5] : List Int) (q : Int) s2))), (z 16)] ++ (zs zf18 17 7 ++ [(eN 0), vF, (sli sb 0 6 6)] ++ (zs z 27 7 ++ [(Value.bool (decide (i < ll.length ∧ i < 20)))] ++ (zs z 35 34 ++ [(eN q), (Value.bool (decide (q < 4))), (z 71), (z 72), (Value.tuple #[v69, (eN (rowDoC s2.gD ([0, 1, 2, 3, 4, 5] : List Int).length (rowRC ([0, 1, 2, 3, 4, 5] : List Int) (q : Int) s2)))]), (ptr L15.bN 0), (sli sb 0 6 6), (eN q), (Value.tuple #[v69, (eN (rowDoC s2.gD ([0, 1, 2, 3, 4, 5] : List Int).length (rowRC ([0, 1, 2, 3, 4, 5] : List Int) (q : Int) s2)))]), v69, (eN (rowDoC s2.gD ([0, 1, 2, 3, 4, 5] : List Int).length (rowRC ([0, 1, 2, 3, 4, 5] : List Int) (q : Int) s2)))] ++ (zs z 80 53 ++ [(zf18 133), (zf18 134), (zf18 135), (zf18 136)]))))) ?_
  refine wD ?_
  have hrd := (ordR_read hK hq4).2.2
  have hJ_s3 := (ordR_read hK hq4).2.1
  obtain ⟨s3, e_s3⟩ : ∃ x_, rowDo s2.gD ([0, 1, 2, 3, 4, 5] : List Int).length (rowR ([0, 1, 2, 3, 4, 5] : List Int) (q : Int) s2) (rowRC ([0, 1, 2, 3, 4, 5] : List Int) (q : Int) s2) = x_ := ⟨_, rfl⟩
  replace hJ_s3 := ordR_to hJ_s3 e_s3
  replace a16 := nd_to a16 e_s3
  refine tN ?_
  refine forget (fun zf78 => ([u1, u2, (zf18 2), (zf18 3), (zf78 4), (ptr L15.bN 0), (eN 0), (sli sb 0 6 6), (eN nx), (eN wr), (eN i), (z 11), (z 12), (eN q), v69, (eN (rowDoC s2.gD ([0, 1, 2, 3, 4, 5] : List Int).length (rowRC ([0, 1, 2, 3, 4, 5] : List Int) (q : Int) s2))), (z 16)] ++ (zs zf18 17 7 ++ [(eN 0), vF, (sli sb 0 6 6)] ++ (zs z 27 7 ++ [(Value.bool (decide (i < ll.length ∧ i < 20)))] ++ (zs z 35 34 ++ (zs zf78 69 22 ++ (zs z 91 41 ++ [(zf78 132), (zf18 133), (zf18 134), (zf18 135), (zf18 136)]))))))) kr (fun zf78 => ?_)
  refine wQ (wQ (pL ?_))
  refine wI (d_move rfl) ?_
  refine wI (n_neq (a := (rowDoC s2.gD ([0, 1, 2, 3, 4, 5] : List Int).length (rowRC ([0, 1, 2, 3, 4, 5] : List Int) (q : Int) s2))) (b := 0) rfl rfl (by rw [decide_eq_true ((ordR_read hK hq4).1)] <;> rfl)) ?_
  refine wI (d_move rfl) ?_
  refine wG (d_move rfl) ?_
  refine wG (d_lenS rfl Try.underlying53 rfl f76) ?_
  refine wG (n_neq (a := ((pgRow (fun k_ => (pgD (rowRL ([0, 1, 2, 3, 4, 5] : List Int) (q : Int) s2 k_)).1) vs70).length)) (b := 6) rfl rfl (by rw [decide_eq_true (by rw [pgRow_len, l75]; rfl)] <;> rfl)) ?_
  refine wI (d_pick (b := false) (v := vF) rfl rfl) ?_
  refine wF ([u1, u2, (zf18 2), (zf18 3), (zf78 4), (ptr L15.bN 0), (eN 0), (sli sb 0 6 6), (eN nx), (eN wr), (eN i), (z 11), (z 12), (eN q), v69, (eN (rowDoC s2.gD ([0, 1, 2, 3, 4, 5] : List Int).length (rowRC ([0, 1, 2, 3, 4, 5] : List Int) (q : Int) s2))), (z 16)] ++ (zs zf18 17 7 ++ [(eN 0), vF, (sli sb 0 6 6)] ++ (zs z 27 7 ++ [(Value.bool (decide (i < ll.length ∧ i < 20)))] ++ (zs z 35 34 ++ (zs zf78 69 11 ++ [(eN (rowDoC s2.gD ([0, 1, 2, 3, 4, 5] : List Int).length (rowRC ([0, 1, 2, 3, 4, 5] : List Int) (q : Int) s2))), vF, vF, v69, (eN ((pgRow (fun k_ => (pgD (rowRL ([0, 1, 2, 3, 4, 5] : List Int) (q : Int) s2 k_)).1) vs70).length)), vF, vF, (zf78 87), (zf78 88), (zf78 89), (zf78 90)] ++ (zs z 91 41 ++ [(zf78 132), (zf18 133), (zf18 134), (zf18 135), (zf18 136)])))))) ?_
  refine wD (tN ?_)
  refine cond_f rfl ?_
  refine wK (tN ?_)
  refine forget (fun zf79 => ([u1, u2, (zf18 2), (zf18 3), (zf79 4), (ptr L15.bN 0), (eN 0), (sli sb 0 6 6), (eN nx), (eN wr), (eN i), (z 11), (z 12), (eN q), v69, (zf79 15), (z 16)] ++ (zs zf18 17 7 ++ [(eN 0), vF, (sli sb 0 6 6)] ++ (zs z 27 7 ++ [(Value.bool (decide (i < ll.length ∧ i < 20)))] ++ (zs z 35 34 ++ (zs zf79 69 22 ++ (zs z 91 41 ++ [(zf79 132), (zf18 133), (zf18 134), (zf18 135), (zf18 136)]))))))) kr (fun zf79 => ?_)
  refine wQ (pL ?_)
  refine wI (d_assign rfl) ?_
  refine wD (tN (wB ?_))
  refine loop2 (fun (d : (Nat)) => fun (z : Nat → Value) => (([u1, u2, (zf18 2), (zf18 3), (z 4), (ptr L15.bN 0), (eN 0), (sli sb 0 6 6), (eN nx), (eN wr), (eN i), (z 11), (z 12), (eN q), v69, (zf79 15), (eN d)] ++ (zs zf18 17 7 ++ [(eN 0), vF, (sli sb 0 6 6)] ++ (zs z 27 7 ++ [(Value.bool (decide (i < ll.length ∧ i < 20)))] ++ (zs z 35 34 ++ (zs zf79 69 18 ++ (zs z 87 46 ++ [(zf18 133), (zf18 134), (zf18 135), (zf18 136)])))))) : List Value)) (fun (d : (Nat)) => fun (w_ : World) => (d ≤ 6) ∧ Only (Or1 sb (Ors L15.S No)) w67 w_ ∧ Arr 3 sb (([0, 1, 2, 3, 4, 5] : List Int).map eI) w_ ∧ Nd L15 s3 (Or1 sb No) w_) (fun (d : (Nat)) => 6 - d) 0 kr ?_ ?_
  ·
   refine ⟨?_, ?_, ?_, ?_⟩
   ·
    (try dsimp only)
    all_goals (omega)
   ·
    exact Only.refl _ _
   ·
    exact a21
   ·
    exact a16
  rintro d z w81 ⟨hd, o80, a21, a16⟩
  (try dsimp only)
  replace h1 := h1.step o80 (or1_mono (ors_mono no_any))
  replace h2 := h2.step o80 (or1_mono (ors_mono no_any))
  replace f76 := f76.step o80 (or1_mono (ors_mono no_any))
  replace f77 := f77.step o80 (or1_mono (ors_mono no_any))
  replace oW := oW.tail o80 (tl_new g_oW_sb (tl_snew g_oW_L15 tl_no))
  replace o23 := o23.tail o80 (tl_in in1 (tl_sin (sub2 sub1) tl_no))
  replace o65 := o65.tail o80 (tl_in in1 (tl_sin (sub2 sub1) tl_no))
  refine wQ (wQ (pL ?_))
  refine wI (d_move rfl) ?_
  refine wI (n_lss (a := d) (b := 6) rfl rfl rfl) ?_
  refine wD (tN ?_)
  refine cond_if rfl (fun hd_ => ?_) (fun hd_ => ?_)
  ·
   refine wK (tN (wQ (wB (wQ ?_))))
   by_cases k3 : q < nx
   ·
    have hd6 : d < vs70.length := by rw [l75]; exact hd_
    have hpa := pgRow_at (st := (fun k_ => (pgD (rowRL ([0, 1, 2, 3, 4, 5] : List Int) (q : Int) s2 k_)).1)) hd6
    have hfe := fam_at f77 hd6
    rw [show vs70.getD d undef = ((pgRow (fun k_ => (pgD (rowRL ([0, 1, 2, 3, 4, 5] : List Int) (q : Int) s2 k_)).1) vs70).getD d (0, undef)).2 from by rw [hpa]] at hfe
    have hpl := pgRow_len (fun k_ => (pgD (rowRL ([0, 1, 2, 3, 4, 5] : List Int) (q : Int) s2 k_)).1) vs70
    have hrd2 := hrd d hd_
    rw [if_pos k3] at hrd2
    have hp1 : ((pgRow (fun k_ => (pgD (rowRL ([0, 1, 2, 3, 4, 5] : List Int) (q : Int) s2 k_)).1) vs70).getD d (0, undef)).1 = 2 := by rw [hpa]; exact congrArg Prod.fst hrd2
    refine wp_eq (l' := ([u1, u2, (zf18 2), (zf18 3), (z 4), (ptr L15.bN 0), (eN 0), (sli sb 0 6 6), (eN nx), (eN wr), (eN i), (z 11), (z 12), (eN q), v69, (zf79 15), (eN d)] ++ (zs zf18 17 7 ++ [(eN 0), vF, (sli sb 0 6 6)] ++ (zs z 27 7 ++ [(Value.bool (decide (i < ll.length ∧ i < 20)))] ++ (zs z 35 34 ++ (zs zf79 69 18 ++ [(eN d), (Value.bool (decide (d < 6)))] ++ (zs z 89 44 ++ [(zf18 133), (zf18 134), (zf18 135), (zf18 136)]))))))) rfl ?_
    refine drawn' (O := (Or1 sb (Ors L15.S No))) (n := 42) [0, 0, 3, 7, 15, 31, 0, 0, 192, 511, 1023, 2047, 2047, 8191, 16383, 32767, 65535, 2047, 2047, 395263, 1048575, 2097151, 4194303, 8388607, 8388607, 33554431, 67108863, 134217727, 134217727, 536870911, 1073741823, 2147483647, 4294967295, 134217727, 8724152319, 134217727, 60263759871, 128983236607, 266422190079, 549755813887, 1099511627775, 2199023255551] [(0, 91), (1, 92), (2, 93), (3, 94), (4, 95), (5, 96), (6, 97), (7, 98), (8, 99), (9, 100), (10, 101), (11, 102), (12, 103), (13, 104), (14, 105), (15, 106), (16, 107), (17, 108), (18, 109), (19, 110), (20, 111), (21, 112), (22, 113), (23, 114), (24, 115), (25, 116), (26, 117), (27, 118), (28, 119), (29, 120), (30, 121), (31, 122), (32, 123), (33, 124), (34, 125), (35, 126), (36, 127), (37, 128), (38, 129), (39, 130), (40, 131), (41, 132)] [0, 1, 2, 3, 4, 5, 6, 7, 8, 9, 10, 11, 12, 13, 14, 15, 16, 17, 18, 19, 20, 21, 22, 23, 24, 25, 26, 27, 28, 29, 30, 31, 32, 33, 34, 35, 36, 37, 38, 39, 40, 41] [] (fun i_ => ([RF.is (Or1 sb (Ors L15.S No)) v69, RF.is (Or1 sb (Ors L15.S No)) (eN d), RF.ps (Or1 sb (Ors L15.S No)) (Or1 sb (Ors L15.S (Old W.heap.size))) (At (kA 2 eG) ((pgRow (fun k_ => (pgD (rowRL ([0, 1, 2, 3, 4, 5] : List Int) (q : Int) s2 k_)).1) vs70).getD d (0, undef))) (or1_mono (ors_mono no_any)), RF.ps (Or1 sb (Ors L15.S No)) (Or1 sb (Ors L15.S (Old W.heap.size))) (At kN (((pgRow (fun k_ => (pgD (rowRL ([0, 1, 2, 3, 4, 5] : List Int) (q : Int) s2 k_)).1) vs70).getD d (0, undef)).1)) (or1_mono (ors_mono no_any)), RF.is (Or1 sb (Ors L15.S No)) (eN (((pgRow (fun k_ => (pgD (rowRL ([0, 1, 2, 3, 4, 5] : List Int) (q : Int) s2 k_)).1) vs70).getD d (0, undef)).1)), RF.is (Or1 sb (Ors L15.S No)) vT, RF.is (Or1 sb (Ors L15.S No)) (eN q), RF.is (Or1 sb (Ors L15.S No)) (eN nx), RF.is (Or1 sb (Ors L15.S No)) vT, RF.is (Or1 sb (Ors L15.S No)) vF, RF.is (Or1 sb (Ors L15.S No)) vF, RF.is (Or1 sb (Ors L15.S No)) v69, RF.is (Or1 sb (Ors L15.S No)) (eN d), RF.ps (Or1 sb (Ors L15.S No)) (Or1 sb (Ors L15.S (Old W.heap.size))) (At (kA 2 eG) ((pgRow (fun k_ => (pgD (rowRL ([0, 1, 2, 3, 4, 5] : List Int) (q : Int) s2 k_)).1) vs70).getD d (0, undef))) (or1_mono (ors_mono no_any)), RF.ps (Or1 sb (Ors L15.S No)) (Or1 sb (Ors L15.S (Old W.heap.size))) (At kN (((pgRow (fun k_ => (pgD (rowRL ([0, 1, 2, 3, 4, 5] : List Int) (q : Int) s2 k_)).1) vs70).getD d (0, undef)).1)) (or1_mono (ors_mono no_any)), RF.is (Or1 sb (Ors L15.S No)) (eN (((pgRow (fun k_ => (pgD (rowRL ([0, 1, 2, 3, 4, 5] : List Int) (q : Int) s2 k_)).1) vs70).getD d (0, undef)).1)), RF.is (Or1 sb (Ors L15.S No)) vF, RF.is (Or1 sb (Ors L15.S No)) (eN q), RF.is (Or1 sb (Ors L15.S No)) (eN nx), RF.is (Or1 sb (Ors L15.S No)) vF, RF.is (Or1 sb (Ors L15.S No)) vF, RF.is (Or1 sb (Ors L15.S No)) vF, RF.is (Or1 sb (Ors L15.S No)) vF, RF.is (Or1 sb (Ors L15.S No)) (eN q), RF.is (Or1 sb (Ors L15.S No)) (eN nx), RF.is (Or1 sb (Ors L15.S No)) vT, RF.is (Or1 sb (Ors L15.S No)) vT, RF.is (Or1 sb (Ors L15.S No)) v69, RF.is (Or1 sb (Ors L15.S No)) (eN d), RF.ps (Or1 sb (Ors L15.S No)) (Or1 sb (Ors L15.S (Old W.heap.size))) (At (kA 2 eG) ((pgRow (fun k_ => (pgD (rowRL ([0, 1, 2, 3, 4, 5] : List Int) (q : Int) s2 k_)).1) vs70).getD d (0, undef))) (or1_mono (ors_mono no_any)), RF.ps (Or1 sb (Ors L15.S No)) (Or1 sb (Ors L15.S (Old W.heap.size))) (At (kS eV) (((pgRow (fun k_ => (pgD (rowRL ([0, 1, 2, 3, 4, 5] : List Int) (q : Int) s2 k_)).1) vs70).getD d (0, undef)).2)) (or1_mono (ors_mono no_any)), RF.is (Or1 sb (Ors L15.S No)) ((pgRow (fun k_ => (pgD (rowRL ([0, 1, 2, 3, 4, 5] : List Int) (q : Int) s2 k_)).1) vs70).getD d (0, undef)).2, RF.is (Or1 sb (Ors L15.S No)) (Value.string (strOf ((pgD (rowRL ([0, 1, 2, 3, 4, 5] : List Int) (q : Int) s2 d)).2))), RF.is (Or1 sb (Ors L15.S No)) u2, RF.pl (Or1 sb (Ors L15.S No)) (Or1 sb (Ors L15.S (Old W.heap.size))) 6 (plD lb 6) (or1_mono (ors_mono no_any)), RF.is (Or1 sb (Ors L15.S No)) (eN d), RF.isv (Or1 sb (Ors L15.S No)) (fun v82 => (ixp (v82 34) d)), RF.ps (Or1 sb (Ors L15.S No)) (Or1 sb (Ors L15.S (Old W.heap.size))) (Seq kB ((plD lb 6) d)) (or1_mono (ors_mono no_any)), RF.is (Or1 sb (Ors L15.S No)) (Value.string (strOf ((plD lb 6) d))), RF.is (Or1 sb (Ors L15.S No)) vF, RF.is (Or1 sb (Ors L15.S No)) vF, RF.is (Or1 sb (Ors L15.S No)) vF] : List (RF (Or1 sb (Ors L15.S No)))).getD i_ (RF.any (Or1 sb (Ors L15.S No)))) (fun _ w_ => Arr 3 sb (([0, 1, 2, 3, 4, 5] : List Int).map eI) w_ ∧ Nd L15 s3 (Or1 sb No) w_) (fun v82 => ([u1, u2, (zf18 2), (zf18 3), (z 4), (ptr L15.bN 0), (eN 0), (sli sb 0 6 6), (eN nx), (eN wr), (eN i), (z 11), (z 12), (eN q), v69, (zf79 15), (eN d)] ++ (zs zf18 17 7 ++ [(eN 0), vF, (sli sb 0 6 6)] ++ (zs z 27 7 ++ [(Value.bool (decide (i < ll.length ∧ i < 20)))] ++ (zs z 35 34 ++ (zs zf79 69 18 ++ [(eN d), (Value.bool (decide (d < 6))), (z 89), (z 90), (v82 0), (v82 1), (v82 2), (v82 3), (v82 4), (v82 5), (v82 6), (v82 7), (v82 8), (v82 9), (v82 10), (v82 11), (v82 12), (v82 13), (v82 14), (v82 15), (v82 16), (v82 17), (v82 18), (v82 19), (v82 20), (v82 21), (v82 22), (v82 23), (v82 24), (v82 25), (v82 26), (v82 27), (v82 28), (v82 29), (v82 30), (v82 31), (v82 32), (v82 33), (v82 34), (v82 35), (v82 36), (v82 37), (v82 38), (v82 39), (v82 40), (v82 41), (zf18 133), (zf18 134), (zf18 135), (zf18 136)])))))) s_mx kr rfl kr (by rfl) (fun v_ => by kernel_rfl) (fun _ => fun w_ w2_ h ho => by obtain ⟨r_a21, r_a16⟩ := h; exact ⟨r_a21.step0 ho, r_a16.step0 ho⟩) ⟨a21, a16⟩ ?_ ?_ ?_
    ·
     refine ls_cons ?_ ?_
     ·
      intro v82 lo hi w_ k_ hO hd _ _ hk_ _ hR hold
      obtain ⟨r_a21, r_a16⟩ := hR
      clear hd hold
      refine ⟨_, rfl, gd rfl ?_⟩
      exact Does.is (d_move rfl)
     refine ls_cons ?_ ?_
     ·
      intro v82 lo hi w_ k_ hO hd _ _ hk_ _ hR hold
      obtain ⟨r_a21, r_a16⟩ := hR
      clear hd hold
      refine ⟨_, rfl, gd rfl ?_⟩
      exact Does.is (d_move rfl)
     refine ls_cons ?_ ?_
     ·
      intro v82 lo hi w_ k_ hO hd _ _ hk_ _ hR hold
      obtain ⟨r_a21, r_a16⟩ := hR
      have e0 : v82 0 = v69 := hd 0 kr
      have e1 : v82 1 = (eN d) := hd 1 kr
      clear hd hold
      refine ⟨_, rfl, gd rfl ?_⟩
      refine Does.mono (d_indexS (q := (kA 2 eG)) (xs := (pgRow (fun k_ => (pgD (rowRL ([0, 1, 2, 3, 4, 5] : List Int) (q : Int) s2 k_)).1) vs70)) (v := ((pgRow (fun k_ => (pgD (rowRL ([0, 1, 2, 3, 4, 5] : List Int) (q : Int) s2 k_)).1) vs70).getD d (0, undef))) Try.underlying53 s_ti32 e0 (f76.step hO (or1_mono (ors_mono no_any))) (show _ = Value.int _ (d : Int) from e1) oo (g_at (by have := pgRow_len (fun k_ => (pgD (rowRL ([0, 1, 2, 3, 4, 5] : List Int) (q : Int) s2 k_)).1) vs70; first | omega | (simp; done) | (simp; omega)))) (fun u w' h => ⟨h.2 ▸ h.1, h.2 ▸ Only.refl _ _⟩)
     refine ls_cons ?_ ?_
     ·
      intro v82 lo hi w_ k_ hO hd _ _ hk_ _ hR hold
      obtain ⟨r_a21, r_a16⟩ := hR
      have d2 : Ps (Or1 sb (Ors L15.S (Old W.heap.size))) (At (kA 2 eG) ((pgRow (fun k_ => (pgD (rowRL ([0, 1, 2, 3, 4, 5] : List Int) (q : Int) s2 k_)).1) vs70).getD d (0, undef)) (v82 2)) w_ := hd 2 kr
      clear hd hold
      refine ⟨_, rfl, gd rfl ?_⟩
      refine Does.mono (d_fieldG0 (v := ((pgRow (fun k_ => (pgD (rowRL ([0, 1, 2, 3, 4, 5] : List Int) (q : Int) s2 k_)).1) vs70).getD d (0, undef))) Try.underlying32 rfl s_ti3 rfl rfl d2) (fun u w' h => ⟨h.2 ▸ h.1, h.2 ▸ Only.refl _ _⟩)
     refine ls_cons ?_ ?_
     ·
      intro v82 lo hi w_ k_ hO hd _ _ hk_ _ hR hold
      obtain ⟨r_a21, r_a16⟩ := hR
      have d3 : Ps (Or1 sb (Ors L15.S (Old W.heap.size))) (At kN (((pgRow (fun k_ => (pgD (rowRL ([0, 1, 2, 3, 4, 5] : List Int) (q : Int) s2 k_)).1) vs70).getD d (0, undef)).1) (v82 3)) w_ := hd 3 kr
      clear hd hold
      refine ⟨_, rfl, gd rfl ?_⟩
      exact Does.is (d_loadAt (enc := eN) (v := ((pgRow (fun k_ => (pgD (rowRL ([0, 1, 2, 3, 4, 5] : List Int) (q : Int) s2 k_)).1) vs70).getD d (0, undef)).1) ⟨_, Try.underlying3, rfl⟩ rfl d3)
     refine ls_cons ?_ ?_
     ·
      intro v82 lo hi w_ k_ hO hd _ _ hk_ _ hR hold
      obtain ⟨r_a21, r_a16⟩ := hR
      have e4 : v82 4 = (eN (((pgRow (fun k_ => (pgD (rowRL ([0, 1, 2, 3, 4, 5] : List Int) (q : Int) s2 k_)).1) vs70).getD d (0, undef)).1)) := hd 4 kr
      clear hd hold
      refine ⟨_, rfl, gd rfl ?_⟩
      exact Does.is (n_eql (a := (((pgRow (fun k_ => (pgD (rowRL ([0, 1, 2, 3, 4, 5] : List Int) (q : Int) s2 k_)).1) vs70).getD d (0, undef)).1)) (b := 2) e4 rfl (decide_eq_true hp1))
     refine ls_cons ?_ ?_
     ·
      intro v82 lo hi w_ k_ hO hd _ _ hk_ _ hR hold
      obtain ⟨r_a21, r_a16⟩ := hR
      clear hd hold
      refine ⟨_, rfl, gd rfl ?_⟩
      exact Does.is (d_move rfl)
     refine ls_cons ?_ ?_
     ·
      intro v82 lo hi w_ k_ hO hd _ _ hk_ _ hR hold
      obtain ⟨r_a21, r_a16⟩ := hR
      clear hd hold
      refine ⟨_, rfl, gd rfl ?_⟩
      exact Does.is (d_move rfl)
     refine ls_cons ?_ ?_
     ·
      intro v82 lo hi w_ k_ hO hd _ _ hk_ _ hR hold
      obtain ⟨r_a21, r_a16⟩ := hR
      have e6 : v82 6 = (eN q) := hd 6 kr
      have e7 : v82 7 = (eN nx) := hd 7 kr
      clear hd hold
      refine ⟨_, rfl, gd rfl ?_⟩
      exact Does.is (n_lss (a := q) (b := nx) e6 e7 (decide_eq_true k3))
     refine ls_cons ?_ ?_
     ·
      intro v82 lo hi w_ k_ hO hd _ _ hk_ _ hR hold
      obtain ⟨r_a21, r_a16⟩ := hR
      have e5 : v82 5 = vT := hd 5 kr
      have e8 : v82 8 = vT := hd 8 kr
      clear hd hold
      refine ⟨_, rfl, gd rfl ?_⟩
      exact Does.is (d_bneq Try.underlying4 e5 e8 rfl)
     refine ls_cons ?_ ?_
     ·
      intro v82 lo hi w_ k_ hO hd _ _ hk_ _ hR hold
      obtain ⟨r_a21, r_a16⟩ := hR
      have e9 : v82 9 = vF := hd 9 kr
      clear hd hold
      refine ⟨_, rfl, gd rfl ?_⟩
      exact Does.is (d_move (v := vF) e9)
     refine ls_cons ?_ ?_
     ·
      intro v82 lo hi w_ k_ hO hd _ _ hk_ _ hR hold
      obtain ⟨r_a21, r_a16⟩ := hR
      have e10 : v82 10 = vF := hd 10 kr
      clear hd hold
      refine ⟨_, rfl, gd_on rfl rfl rfl (nb rfl) e10 ?_⟩
      exact Does.is (d_move rfl)
     refine ls_cons ?_ ?_
     ·
      intro v82 lo hi w_ k_ hO hd _ _ hk_ _ hR hold
      obtain ⟨r_a21, r_a16⟩ := hR
      have e10 : v82 10 = vF := hd 10 kr
      clear hd hold
      refine ⟨_, rfl, gd_on rfl rfl rfl (nb rfl) e10 ?_⟩
      exact Does.is (d_move rfl)
     refine ls_cons ?_ ?_
     ·
      intro v82 lo hi w_ k_ hO hd _ _ hk_ _ hR hold
      obtain ⟨r_a21, r_a16⟩ := hR
      have e10 : v82 10 = vF := hd 10 kr
      have e11 : v82 11 = v69 := hd 11 kr
      have e12 : v82 12 = (eN d) := hd 12 kr
      clear hd hold
      refine ⟨_, rfl, gd_on rfl rfl rfl (nb rfl) e10 ?_⟩
      refine Does.mono (d_indexS (q := (kA 2 eG)) (xs := (pgRow (fun k_ => (pgD (rowRL ([0, 1, 2, 3, 4, 5] : List Int) (q : Int) s2 k_)).1) vs70)) (v := ((pgRow (fun k_ => (pgD (rowRL ([0, 1, 2, 3, 4, 5] : List Int) (q : Int) s2 k_)).1) vs70).getD d (0, undef))) Try.underlying53 s_ti32 e11 (f76.step hO (or1_mono (ors_mono no_any))) (show _ = Value.int _ (d : Int) from e12) oo (g_at (by have := pgRow_len (fun k_ => (pgD (rowRL ([0, 1, 2, 3, 4, 5] : List Int) (q : Int) s2 k_)).1) vs70; first | omega | (simp; done) | (simp; omega)))) (fun u w' h => ⟨h.2 ▸ h.1, h.2 ▸ Only.refl _ _⟩)
     refine ls_cons ?_ ?_
     ·
      intro v82 lo hi w_ k_ hO hd _ _ hk_ _ hR hold
      obtain ⟨r_a21, r_a16⟩ := hR
      have e10 : v82 10 = vF := hd 10 kr
      have d13 : Ps (Or1 sb (Ors L15.S (Old W.heap.size))) (At (kA 2 eG) ((pgRow (fun k_ => (pgD (rowRL ([0, 1, 2, 3, 4, 5] : List Int) (q : Int) s2 k_)).1) vs70).getD d (0, undef)) (v82 13)) w_ := hd 13 kr
      clear hd hold
      refine ⟨_, rfl, gd_on rfl rfl rfl (nb rfl) e10 ?_⟩
      refine Does.mono (d_fieldG0 (v := ((pgRow (fun k_ => (pgD (rowRL ([0, 1, 2, 3, 4, 5] : List Int) (q : Int) s2 k_)).1) vs70).getD d (0, undef))) Try.underlying32 rfl s_ti3 rfl rfl d13) (fun u w' h => ⟨h.2 ▸ h.1, h.2 ▸ Only.refl _ _⟩)
     refine ls_cons ?_ ?_
     ·
      intro v82 lo hi w_ k_ hO hd _ _ hk_ _ hR hold
      obtain ⟨r_a21, r_a16⟩ := hR
      have e10 : v82 10 = vF := hd 10 kr
      have d14 : Ps (Or1 sb (Ors L15.S (Old W.heap.size))) (At kN (((pgRow (fun k_ => (pgD (rowRL ([0, 1, 2, 3, 4, 5] : List Int) (q : Int) s2 k_)).1) vs70).getD d (0, undef)).1) (v82 14)) w_ := hd 14 kr
      clear hd hold
      refine ⟨_, rfl, gd_on rfl rfl rfl (nb rfl) e10 ?_⟩
      exact Does.is (d_loadAt (enc := eN) (v := ((pgRow (fun k_ => (pgD (rowRL ([0, 1, 2, 3, 4, 5] : List Int) (q : Int) s2 k_)).1) vs70).getD d (0, undef)).1) ⟨_, Try.underlying3, rfl⟩ rfl d14)
     refine ls_cons ?_ ?_
     ·
      intro v82 lo hi w_ k_ hO hd _ _ hk_ _ hR hold
      obtain ⟨r_a21, r_a16⟩ := hR
      have e10 : v82 10 = vF := hd 10 kr
      have e15 : v82 15 = (eN (((pgRow (fun k_ => (pgD (rowRL ([0, 1, 2, 3, 4, 5] : List Int) (q : Int) s2 k_)).1) vs70).getD d (0, undef)).1)) := hd 15 kr
      clear hd hold
      refine ⟨_, rfl, gd_on rfl rfl rfl (nb rfl) e10 ?_⟩
      exact Does.is (n_eql (a := (((pgRow (fun k_ => (pgD (rowRL ([0, 1, 2, 3, 4, 5] : List Int) (q : Int) s2 k_)).1) vs70).getD d (0, undef)).1)) (b := 0) e15 rfl (decide_eq_false (by rw [hp1]; decide)))
     refine ls_cons ?_ ?_
     ·
      intro v82 lo hi w_ k_ hO hd _ _ hk_ _ hR hold
      obtain ⟨r_a21, r_a16⟩ := hR
      have e10 : v82 10 = vF := hd 10 kr
      clear hd hold
      refine ⟨_, rfl, gd_on rfl rfl rfl (nb rfl) e10 ?_⟩
      exact Does.is (d_move rfl)
     refine ls_cons ?_ ?_
     ·
      intro v82 lo hi w_ k_ hO hd _ _ hk_ _ hR hold
      obtain ⟨r_a21, r_a16⟩ := hR
      have e10 : v82 10 = vF := hd 10 kr
      clear hd hold
      refine ⟨_, rfl, gd_on rfl rfl rfl (nb rfl) e10 ?_⟩
      exact Does.is (d_move rfl)
     refine ls_cons ?_ ?_
     ·
      intro v82 lo hi w_ k_ hO hd _ _ hk_ _ hR hold
      obtain ⟨r_a21, r_a16⟩ := hR
      have e10 : v82 10 = vF := hd 10 kr
      have e17 : v82 17 = (eN q) := hd 17 kr
      have e18 : v82 18 = (eN nx) := hd 18 kr
      clear hd hold
      refine ⟨_, rfl, gd_on rfl rfl rfl (nb rfl) e10 ?_⟩
      exact Does.is (n_geq (a := q) (b := nx) e17 e18 (decide_eq_false oo))
     refine ls_cons ?_ ?_
     ·
      intro v82 lo hi w_ k_ hO hd _ _ hk_ _ hR hold
      obtain ⟨r_a21, r_a16⟩ := hR
      have e10 : v82 10 = vF := hd 10 kr
      have e16 : v82 16 = vF := hd 16 kr
      have e19 : v82 19 = vF := hd 19 kr
      clear hd hold
      refine ⟨_, rfl, gd_on rfl rfl rfl (nb rfl) e10 ?_⟩
      exact Does.is (d_bneq Try.underlying4 e16 e19 rfl)
     refine ls_cons ?_ ?_
     ·
      intro v82 lo hi w_ k_ hO hd _ _ hk_ _ hR hold
      obtain ⟨r_a21, r_a16⟩ := hR
      have e10 : v82 10 = vF := hd 10 kr
      have e20 : v82 20 = vF := hd 20 kr
      clear hd hold
      refine ⟨_, rfl, gd rfl ?_⟩
      exact Does.is (d_pick (b := false) (v := vF) e10 e20)
     refine ls_cons ?_ ?_
     ·
      intro v82 lo hi w_ k_ hO hd _ _ hk_ _ hR hold
      obtain ⟨r_a21, r_a16⟩ := hR
      have e21 : v82 21 = vF := hd 21 kr
      clear hd hold
      refine ⟨_, rfl, gd rfl ?_⟩
      exact Does.is (d_move (v := vF) e21)
     refine ls_cons ?_ ?_
     ·
      intro v82 lo hi w_ k_ hO hd _ _ hk_ _ hR hold
      obtain ⟨r_a21, r_a16⟩ := hR
      have e22 : v82 22 = vF := hd 22 kr
      clear hd hold
      refine ⟨_, rfl, gd_on rfl rfl rfl (nb rfl) e22 ?_⟩
      exact Does.is (d_move rfl)
     refine ls_cons ?_ ?_
     ·
      intro v82 lo hi w_ k_ hO hd _ _ hk_ _ hR hold
      obtain ⟨r_a21, r_a16⟩ := hR
      have e22 : v82 22 = vF := hd 22 kr
      clear hd hold
      refine ⟨_, rfl, gd_on rfl rfl rfl (nb rfl) e22 ?_⟩
      exact Does.is (d_move rfl)
     refine ls_cons ?_ ?_
     ·
      intro v82 lo hi w_ k_ hO hd _ _ hk_ _ hR hold
      obtain ⟨r_a21, r_a16⟩ := hR
      have e22 : v82 22 = vF := hd 22 kr
      have e23 : v82 23 = (eN q) := hd 23 kr
      have e24 : v82 24 = (eN nx) := hd 24 kr
      clear hd hold
      refine ⟨_, rfl, gd_on rfl rfl rfl (nb rfl) e22 ?_⟩
      exact Does.is (n_lss (a := q) (b := nx) e23 e24 (decide_eq_true k3))
     refine ls_cons ?_ ?_
     ·
      intro v82 lo hi w_ k_ hO hd _ _ hk_ _ hR hold
      obtain ⟨r_a21, r_a16⟩ := hR
      have e22 : v82 22 = vF := hd 22 kr
      have e25 : v82 25 = vT := hd 25 kr
      clear hd hold
      refine ⟨_, rfl, gd_on rfl rfl rfl (nb rfl) e22 ?_⟩
      exact Does.is (d_move (v := vT) e25)
     refine ls_cons ?_ ?_
     ·
      intro v82 lo hi w_ k_ hO hd _ _ hk_ _ hR hold
      obtain ⟨r_a21, r_a16⟩ := hR
      have e26 : v82 26 = vT := hd 26 kr
      clear hd hold
      refine ⟨_, rfl, gd_on rfl rfl rfl (nb rfl) e26 ?_⟩
      exact Does.is (d_move rfl)
     refine ls_cons ?_ ?_
     ·
      intro v82 lo hi w_ k_ hO hd _ _ hk_ _ hR hold
      obtain ⟨r_a21, r_a16⟩ := hR
      have e26 : v82 26 = vT := hd 26 kr
      clear hd hold
      refine ⟨_, rfl, gd_on rfl rfl rfl (nb rfl) e26 ?_⟩
      exact Does.is (d_move rfl)
     refine ls_cons ?_ ?_
     ·
      intro v82 lo hi w_ k_ hO hd _ _ hk_ _ hR hold
      obtain ⟨r_a21, r_a16⟩ := hR
      have e26 : v82 26 = vT := hd 26 kr
      have e27 : v82 27 = v69 := hd 27 kr
      have e28 : v82 28 = (eN d) := hd 28 kr
      clear hd hold
      refine ⟨_, rfl, gd_on rfl rfl rfl (nb rfl) e26 ?_⟩
      refine Does.mono (d_indexS (q := (kA 2 eG)) (xs := (pgRow (fun k_ => (pgD (rowRL ([0, 1, 2, 3, 4, 5] : List Int) (q : Int) s2 k_)).1) vs70)) (v := ((pgRow (fun k_ => (pgD (rowRL ([0, 1, 2, 3, 4, 5] : List Int) (q : Int) s2 k_)).1) vs70).getD d (0, undef))) Try.underlying53 s_ti32 e27 (f76.step hO (or1_mono (ors_mono no_any))) (show _ = Value.int _ (d : Int) from e28) oo (g_at (by have := pgRow_len (fun k_ => (pgD (rowRL ([0, 1, 2, 3, 4, 5] : List Int) (q : Int) s2 k_)).1) vs70; first | omega | (simp; done) | (simp; omega)))) (fun u w' h => ⟨h.2 ▸ h.1, h.2 ▸ Only.refl _ _⟩)
     refine ls_cons ?_ ?_
     ·
      intro v82 lo hi w_ k_ hO hd _ _ hk_ _ hR hold
      obtain ⟨r_a21, r_a16⟩ := hR
      have e26 : v82 26 = vT := hd 26 kr
      have d29 : Ps (Or1 sb (Ors L15.S (Old W.heap.size))) (At (kA 2 eG) ((pgRow (fun k_ => (pgD (rowRL ([0, 1, 2, 3, 4, 5] : List Int) (q : Int) s2 k_)).1) vs70).getD d (0, undef)) (v82 29)) w_ := hd 29 kr
      clear hd hold
      refine ⟨_, rfl, gd_on rfl rfl rfl (nb rfl) e26 ?_⟩
      refine Does.mono (d_fieldG1 (v := ((pgRow (fun k_ => (pgD (rowRL ([0, 1, 2, 3, 4, 5] : List Int) (q : Int) s2 k_)).1) vs70).getD d (0, undef))) Try.underlying32 rfl s_ti22 rfl rfl d29) (fun u w' h => ⟨h.2 ▸ h.1, h.2 ▸ Only.refl _ _⟩)
     refine ls_cons ?_ ?_
     ·
      intro v82 lo hi w_ k_ hO hd _ _ hk_ _ hR hold
      obtain ⟨r_a21, r_a16⟩ := hR
      have e26 : v82 26 = vT := hd 26 kr
      have d30 : Ps (Or1 sb (Ors L15.S (Old W.heap.size))) (At (kS eV) (((pgRow (fun k_ => (pgD (rowRL ([0, 1, 2, 3, 4, 5] : List Int) (q : Int) s2 k_)).1) vs70).getD d (0, undef)).2) (v82 30)) w_ := hd 30 kr
      clear hd hold
      refine ⟨_, rfl, gd_on rfl rfl rfl (nb rfl) e26 ?_⟩
      exact Does.is (d_loadAt (enc := eV) (v := ((pgRow (fun k_ => (pgD (rowRL ([0, 1, 2, 3, 4, 5] : List Int) (q : Int) s2 k_)).1) vs70).getD d (0, undef)).2) ⟨_, Try.underlying22, rfl⟩ rfl d30)
     refine ls_cons ?_ ?_
     ·
      intro v82 lo hi w_ k_ hO hd _ _ hk_ _ hR hold
      obtain ⟨r_a21, r_a16⟩ := hR
      have e26 : v82 26 = vT := hd 26 kr
      have e31 : v82 31 = ((pgRow (fun k_ => (pgD (rowRL ([0, 1, 2, 3, 4, 5] : List Int) (q : Int) s2 k_)).1) vs70).getD d (0, undef)).2 := hd 31 kr
      clear hd hold
      refine ⟨_, rfl, gd_on rfl rfl rfl (nb rfl) e26 ?_⟩
      exact Does.is (d_str Try.underlying22 Try.underlying5 Try.underlying9 e31 (hfe.step hO (or1_mono (ors_mono no_any))))
     refine ls_cons ?_ ?_
     ·
      intro v82 lo hi w_ k_ hO hd _ _ hk_ _ hR hold
      obtain ⟨r_a21, r_a16⟩ := hR
      have e26 : v82 26 = vT := hd 26 kr
      clear hd hold
      refine ⟨_, rfl, gd_on rfl rfl rfl (nb rfl) e26 ?_⟩
      exact Does.is (d_move rfl)
     refine ls_cons ?_ ?_
     ·
      intro v82 lo hi w_ k_ hO hd _ _ hk_ _ hR hold
      obtain ⟨r_a21, r_a16⟩ := hR
      have e26 : v82 26 = vT := hd 26 kr
      have e33 : v82 33 = u2 := hd 33 kr
      clear hd hold
      refine ⟨_, rfl, gd_on rfl rfl rfl (nb rfl) e26 ?_⟩
      refine Does.mono (R := fun u w' => ∃ vs, vs.length = 6 ∧ Ps (Old w_.heap.size) (Seq (kS eV) vs u) w' ∧ Ps (Old w_.heap.size) (Fam kB 6 (plD lb 6) vs) w' ∧ Only No w_ w') ?_ (fun u w' h => by obtain ⟨vs, h1_, h2_, h3_, h4_⟩ := h; exact ⟨⟨vs, h1_, h2_.less (or1_old r_a21.lt (ors_old r_a16.lt (old_old (Nat.le_trans oW.size hO.size)))), h3_.less (or1_old r_a21.lt (ors_old r_a16.lt (old_old (Nat.le_trans oW.size hO.size))))⟩, No.any h4_⟩)
      exact d_call (xl := [.tmp 124, .const (.int .i64 6)]) (al := [u2, (eN 6)]) Try.func31 kr rfl (show ([(v82 33), (eN 6)] : List Value) = [u2, (eN 6)] from by rw [e33]) rfl (payloads_ok lb 6 u2 _ (Ps.no (h2.step hO (or1_mono (ors_mono no_any)))) oo)
     refine ls_cons ?_ ?_
     ·
      intro v82 lo hi w_ k_ hO hd _ _ hk_ _ hR hold
      obtain ⟨r_a21, r_a16⟩ := hR
      have e26 : v82 26 = vT := hd 26 kr
      clear hd hold
      refine ⟨_, rfl, gd_on rfl rfl rfl (nb rfl) e26 ?_⟩
      exact Does.is (d_move rfl)
     refine ls_cons ?_ ?_
     ·
      intro v82 lo hi w_ k_ hO hd _ _ hk_ _ hR hold
      obtain ⟨r_a21, r_a16⟩ := hR
      have e26 : v82 26 = vT := hd 26 kr
      obtain ⟨pv34, pn34, pd34, pm34⟩ := (show ∃ vs, vs.length = 6 ∧ Ps (Or1 sb (Ors L15.S (Old W.heap.size))) (Seq (kS eV) vs (v82 34)) w_ ∧ Ps (Or1 sb (Ors L15.S (Old W.heap.size))) (Fam kB 6 (plD lb 6) vs) w_ from hd 34 kr)
      have e35 : v82 35 = (eN d) := hd 35 kr
      clear hd hold
      refine ⟨_, rfl, gd_on rfl rfl rfl (nb rfl) e26 ?_⟩
      refine Does.mono (d_ix (i := d) (xs := pv34) Try.underlying29 s_ti22 rfl pd34 (show _ = Value.int _ (d : Int) from e35) (by rw [pn34]; omega)) (fun u w' h => by obtain ⟨rfl, rfl⟩ := h; exact ⟨rfl, Only.refl _ _⟩)
     refine ls_cons ?_ ?_
     ·
      intro v82 lo hi w_ k_ hO hd _ _ hk_ _ hR hold
      obtain ⟨r_a21, r_a16⟩ := hR
      have e26 : v82 26 = vT := hd 26 kr
      obtain ⟨pv34, pn34, pd34, pm34⟩ := (show ∃ vs, vs.length = 6 ∧ Ps (Or1 sb (Ors L15.S (Old W.heap.size))) (Seq (kS eV) vs (v82 34)) w_ ∧ Ps (Or1 sb (Ors L15.S (Old W.heap.size))) (Fam kB 6 (plD lb 6) vs) w_ from hd 34 kr)
      have e36 : v82 36 = (ixp (v82 34) d) := hd 36 kr
      clear hd hold
      refine ⟨_, rfl, gd_on rfl rfl rfl (nb rfl) e26 ?_⟩
      refine Does.mono (d_ldx (i := d) (xs := pv34) (enc := eV) (v := (pv34.getD d undef)) ⟨_, Try.underlying22, rfl⟩ e36 pd34 (g_at (by rw [pn34]; omega))) (fun u w' h => by obtain ⟨rfl, rfl⟩ := h; exact ⟨fam_at pm34 oo, Only.refl _ _⟩)
     refine ls_cons ?_ ?_
     ·
      intro v82 lo hi w_ k_ hO hd _ _ hk_ _ hR hold
      obtain ⟨r_a21, r_a16⟩ := hR
      have e26 : v82 26 = vT := hd 26 kr
      have d37 : Ps (Or1 sb (Ors L15.S (Old W.heap.size))) (Seq kB ((plD lb 6) d) (v82 37)) w_ := hd 37 kr
      clear hd hold
      refine ⟨_, rfl, gd_on rfl rfl rfl (nb rfl) e26 ?_⟩
      exact Does.is (d_str Try.underlying22 Try.underlying5 Try.underlying9 rfl d37)
     refine ls_cons ?_ ?_
     ·
      intro v82 lo hi w_ k_ hO hd _ _ hk_ _ hR hold
      obtain ⟨r_a21, r_a16⟩ := hR
      have e26 : v82 26 = vT := hd 26 kr
      have e32 : v82 32 = (Value.string (strOf ((pgD (rowRL ([0, 1, 2, 3, 4, 5] : List Int) (q : Int) s2 d)).2))) := hd 32 kr
      have e38 : v82 38 = (Value.string (strOf ((plD lb 6) d))) := hd 38 kr
      clear hd hold
      refine ⟨_, rfl, gd_on rfl rfl rfl (nb rfl) e26 ?_⟩
      exact Does.is (d_sneq (a := ((pgD (rowRL ([0, 1, 2, 3, 4, 5] : List Int) (q : Int) s2 d)).2)) (c := ((plD lb 6) d)) e32 e38 (by rw [decide_eq_true (congrArg Prod.snd hrd2)] <;> rfl))
     refine ls_cons ?_ ?_
     ·
      intro v82 lo hi w_ k_ hO hd _ _ hk_ _ hR hold
      obtain ⟨r_a21, r_a16⟩ := hR
      have e22 : v82 22 = vF := hd 22 kr
      have e26 : v82 26 = vT := hd 26 kr
      have e39 : v82 39 = vF := hd 39 kr
      clear hd hold
      refine ⟨_, rfl, gd_on rfl rfl rfl (nb rfl) e22 ?_⟩
      exact Does.is (d_pick (b := true) (v := vF) e26 e39)
     refine ls_cons ?_ ?_
     ·
      intro v82 lo hi w_ k_ hO hd _ _ hk_ _ hR hold
      obtain ⟨r_a21, r_a16⟩ := hR
      have e22 : v82 22 = vF := hd 22 kr
      have e40 : v82 40 = vF := hd 40 kr
      clear hd hold
      refine ⟨_, rfl, gd rfl ?_⟩
      exact Does.is (d_pick (b := false) (v := vF) e22 e40)
     exact ls_nil
    ·
     exact ms_nil
    intro v82 lo_ hi_ w83 o84 hd iv_ hR
    have e0 : v82 0 = v69 := hd 0 (by decide)
    have e1 : v82 1 = (eN d) := hd 1 (by decide)
    have e4 : v82 4 = (eN (((pgRow (fun k_ => (pgD (rowRL ([0, 1, 2, 3, 4, 5] : List Int) (q : Int) s2 k_)).1) vs70).getD d (0, undef)).1)) := hd 4 (by decide)
    have e5 : v82 5 = vT := hd 5 (by decide)
    have e6 : v82 6 = (eN q) := hd 6 (by decide)
    have e7 : v82 7 = (eN nx) := hd 7 (by decide)
    have e8 : v82 8 = vT := hd 8 (by decide)
    have e9 : v82 9 = vF := hd 9 (by decide)
    have e10 : v82 10 = vF := hd 10 (by decide)
    have e11 : v82 11 = v69 := hd 11 (by decide)
    have e12 : v82 12 = (eN d) := hd 12 (by decide)
    have e15 : v82 15 = (eN (((pgRow (fun k_ => (pgD (rowRL ([0, 1, 2, 3, 4, 5] : List Int) (q : Int) s2 k_)).1) vs70).getD d (0, undef)).1)) := hd 15 (by decide)
    have e16 : v82 16 = vF := hd 16 (by decide)
    have e17 : v82 17 = (eN q) := hd 17 (by decide)
    have e18 : v82 18 = (eN nx) := hd 18 (by decide)
    have e19 : v82 19 = vF := hd 19 (by decide)
    have e20 : v82 20 = vF := hd 20 (by decide)
    have e21 : v82 21 = vF := hd 21 (by decide)
    have e22 : v82 22 = vF := hd 22 (by decide)
    have e23 : v82 23 = (eN q) := hd 23 (by decide)
    have e24 : v82 24 = (eN nx) := hd 24 (by decide)
    have e25 : v82 25 = vT := hd 25 (by decide)
    have e26 : v82 26 = vT := hd 26 (by decide)
    have e27 : v82 27 = v69 := hd 27 (by decide)
    have e28 : v82 28 = (eN d) := hd 28 (by decide)
    have e31 : v82 31 = ((pgRow (fun k_ => (pgD (rowRL ([0, 1, 2, 3, 4, 5] : List Int) (q : Int) s2 k_)).1) vs70).getD d (0, undef)).2 := hd 31 (by decide)
    have e32 : v82 32 = (Value.string (strOf ((pgD (rowRL ([0, 1, 2, 3, 4, 5] : List Int) (q : Int) s2 d)).2))) := hd 32 (by decide)
    have e33 : v82 33 = u2 := hd 33 (by decide)
    have e35 : v82 35 = (eN d) := hd 35 (by decide)
    have e36 : v82 36 = (ixp (v82 34) d) := hd 36 (by decide)
    have e38 : v82 38 = (Value.string (strOf ((plD lb 6) d))) := hd 38 (by decide)
    have e39 : v82 39 = vF := hd 39 (by decide)
    have e40 : v82 40 = vF := hd 40 (by decide)
    have e41 : v82 41 = vF := hd 41 (by decide)
    have f_v82_2 : Ps (Or1 sb (Ors L15.S (Old W.heap.size))) (At (kA 2 eG) ((pgRow (fun k_ => (pgD (rowRL ([0, 1, 2, 3, 4, 5] : List Int) (q : Int) s2 k_)).1) vs70).getD d (0, undef)) (v82 2)) w83 := hd 2 (by decide)
    have f_v82_3 : Ps (Or1 sb (Ors L15.S (Old W.heap.size))) (At kN (((pgRow (fun k_ => (pgD (rowRL ([0, 1, 2, 3, 4, 5] : List Int) (q : Int) s2 k_)).1) vs70).getD d (0, undef)).1) (v82 3)) w83 := hd 3 (by decide)
    have f_v82_13 : Ps (Or1 sb (Ors L15.S (Old W.heap.size))) (At (kA 2 eG) ((pgRow (fun k_ => (pgD (rowRL ([0, 1, 2, 3, 4, 5] : List Int) (q : Int) s2 k_)).1) vs70).getD d (0, undef)) (v82 13)) w83 := hd 13 (by decide)
    have f_v82_14 : Ps (Or1 sb (Ors L15.S (Old W.heap.size))) (At kN (((pgRow (fun k_ => (pgD (rowRL ([0, 1, 2, 3, 4, 5] : List Int) (q : Int) s2 k_)).1) vs70).getD d (0, undef)).1) (v82 14)) w83 := hd 14 (by decide)
    have f_v82_29 : Ps (Or1 sb (Ors L15.S (Old W.heap.size))) (At (kA 2 eG) ((pgRow (fun k_ => (pgD (rowRL ([0, 1, 2, 3, 4, 5] : List Int) (q : Int) s2 k_)).1) vs70).getD d (0, undef)) (v82 29)) w83 := hd 29 (by decide)
    have f_v82_30 : Ps (Or1 sb (Ors L15.S (Old W.heap.size))) (At (kS eV) (((pgRow (fun k_ => (pgD (rowRL ([0, 1, 2, 3, 4, 5] : List Int) (q : Int) s2 k_)).1) vs70).getD d (0, undef)).2) (v82 30)) w83 := hd 30 (by decide)
    have f_v82_37 : Ps (Or1 sb (Ors L15.S (Old W.heap.size))) (Seq kB ((plD lb 6) d) (v82 37)) w83 := hd 37 (by decide)
    clear hd iv_ lo_ hi_
    refine fr_eq (l' := ([u1, u2, (zf18 2), (zf18 3), (z 4), (ptr L15.bN 0), (eN 0), (sli sb 0 6 6), (eN nx), (eN wr), (eN i), (z 11), (z 12), (eN q), v69, (zf79 15), (eN d)] ++ (zs zf18 17 7 ++ [(eN 0), vF, (sli sb 0 6 6)] ++ (zs z 27 7 ++ [(Value.bool (decide (i < ll.length ∧ i < 20)))] ++ (zs z 35 34 ++ (zs zf79 69 18 ++ [(eN d), (Value.bool (decide (d < 6))), (z 89), (z 90), v69, (eN d), (v82 2), (v82 3), (eN (((pgRow (fun k_ => (pgD (rowRL ([0, 1, 2, 3, 4, 5] : List Int) (q : Int) s2 k_)).1) vs70).getD d (0, undef)).1)), vT, (eN q), (eN nx), vT, vF, vF, v69, (eN d), (v82 13), (v82 14), (eN (((pgRow (fun k_ => (pgD (rowRL ([0, 1, 2, 3, 4, 5] : List Int) (q : Int) s2 k_)).1) vs70).getD d (0, undef)).1)), vF, (eN q), (eN nx), vF, vF, vF, vF, (eN q), (eN nx), vT, vT, v69, (eN d), (v82 29), (v82 30), ((pgRow (fun k_ => (pgD (rowRL ([0, 1, 2, 3, 4, 5] : List Int) (q : Int) s2 k_)).1) vs70).getD d (0, undef)).2, (Value.string (strOf ((pgD (rowRL ([0, 1, 2, 3, 4, 5] : List Int) (q : Int) s2 d)).2))), u2, (v82 34), (eN d), (ixp (v82 34) d), (v82 37), (Value.string (strOf ((plD lb 6) d))), vF, vF, vF, (zf18 133), (zf18 134), (zf18 135), (zf18 136)])))))) (by rw [e0, e1, e4, e5, e6, e7, e8, e9, e10, e11, e12, e15, e16, e17, e18, e19, e20, e21, e22, e23, e24, e25, e26, e27, e28, e31, e32, e33, e35, e36, e38, e39, e40, e41] <;> rfl) ?_
    clear e0 e1 e4 e5 e6 e7 e8 e9 e10 e11 e12 e15 e16 e17 e18 e19 e20 e21 e22 e23 e24 e25 e26 e27 e28 e31 e32 e33 e35 e36 e38 e39 e40 e41
    replace h1 := h1.step o84 (or1_mono (ors_mono no_any))
    replace h2 := h2.step o84 (or1_mono (ors_mono no_any))
    replace f76 := f76.step o84 (or1_mono (ors_mono no_any))
    replace f77 := f77.step o84 (or1_mono (ors_mono no_any))
    replace hfe := hfe.step o84 (or1_mono (ors_mono no_any))
    obtain ⟨xr_a21, xr_a16⟩ := hR
    replace a21 : Arr 3 sb (([0, 1, 2, 3, 4, 5] : List Int).map eI) w83 := xr_a21
    replace a16 := xr_a16
    clear xr_a21 xr_a16
    replace oW := oW.tail o84 (tl_new g_oW_sb (tl_snew g_oW_L15 tl_no))
    replace o23 := o23.tail o84 (tl_in in1 (tl_sin (sub2 sub1) tl_no))
    replace o65 := o65.tail o84 (tl_in in1 (tl_sin (sub2 sub1) tl_no))
    replace o80 := o80.tail o84 (tl_in in1 (tl_sin (sub2 sub1) tl_no))
    refine tN ?_
    refine cond_f rfl ?_
    refine wK ?_
    refine inb_n (tN ?_)
    refine pL ?_
    refine wI (d_move rfl) ?_
    refine wI (n_add (a := d) (b := 1) rfl rfl oo) ?_
    refine wI (d_assign rfl) ?_
    refine wD (tN ?_)
    refine ⟨_, (d + 1), rfl, kr, ⟨?_, ?_, ?_, ?_⟩, ?_⟩
    ·
     (try dsimp only)
     all_goals (omega)
    ·
     exact o80
    ·
     exact a21
    ·
     exact a16
    ·
     (try dsimp only)
     all_goals (omega)
   have hd6 : d < vs70.length := by rw [l75]; exact hd_
   have hpa := pgRow_at (st := (fun k_ => (pgD (rowRL ([0, 1, 2, 3, 4, 5] : List Int) (q : Int) s2 k_)).1)) hd6
   have hfe := fam_at f77 hd6
   rw [show vs70.getD d undef = ((pgRow (fun k_ => (pgD (rowRL ([0, 1, 2, 3, 4, 5] : List Int) (q : Int) s2 k_)).1) vs70).getD d (0, undef)).2 from by rw [hpa]] at hfe
   have hpl := pgRow_len (fun k_ => (pgD (rowRL ([0, 1, 2, 3, 4, 5] : List Int) (q : Int) s2 k_)).1) vs70
   have hrd2 := hrd d hd_
   rw [if_neg k3] at hrd2
   have hp1 : ((pgRow (fun k_ => (pgD (rowRL ([0, 1, 2, 3, 4, 5] : List Int) (q : Int) s2 k_)).1) vs70).getD d (0, undef)).1 = 0 := by rw [hpa]; exact congrArg Prod.fst hrd2
   refine wp_eq (l' := ([u1, u2, (zf18 2), (zf18 3), (z 4), (ptr L15.bN 0), (eN 0), (sli sb 0 6 6), (eN nx), (eN wr), (eN i), (z 11), (z 12), (eN q), v69, (zf79 15), (eN d)] ++ (zs zf18 17 7 ++ [(eN 0), vF, (sli sb 0 6 6)] ++ (zs z 27 7 ++ [(Value.bool (decide (i < ll.length ∧ i < 20)))] ++ (zs z 35 34 ++ (zs zf79 69 18 ++ [(eN d), (Value.bool (decide (d < 6)))] ++ (zs z 89 44 ++ [(zf18 133), (zf18 134), (zf18 135), (zf18 136)]))))))) rfl ?_
   refine drawn' (O := (Or1 sb (Ors L15.S No))) (n := 42) [0, 0, 3, 7, 15, 31, 0, 0, 192, 511, 1023, 2047, 2047, 8191, 16383, 32767, 65535, 2047, 2047, 395263, 1048575, 2097151, 4194303, 8388607, 8388607, 33554431, 67108863, 134217727, 134217727, 536870911, 1073741823, 2147483647, 4294967295, 134217727, 8724152319, 134217727, 60263759871, 128983236607, 266422190079, 549755813887, 1099511627775, 2199023255551] [(0, 91), (1, 92), (2, 93), (3, 94), (4, 95), (5, 96), (6, 97), (7, 98), (8, 99), (9, 100), (10, 101), (11, 102), (12, 103), (13, 104), (14, 105), (15, 106), (16, 107), (17, 108), (18, 109), (19, 110), (20, 111), (21, 112), (22, 113), (23, 114), (24, 115), (25, 116), (26, 117), (27, 118), (28, 119), (29, 120), (30, 121), (31, 122), (32, 123), (33, 124), (34, 125), (35, 126), (36, 127), (37, 128), (38, 129), (39, 130), (40, 131), (41, 132)] [0, 1, 2, 3, 4, 5, 6, 7, 8, 9, 10, 11, 12, 13, 14, 15, 16, 17, 18, 19, 20, 21, 22, 23, 24, 25, 26, 27, 28, 29, 30, 31, 32, 33, 34, 35, 36, 37, 38, 39, 40, 41] [] (fun i_ => ([RF.is (Or1 sb (Ors L15.S No)) v69, RF.is (Or1 sb (Ors L15.S No)) (eN d), RF.ps (Or1 sb (Ors L15.S No)) (Or1 sb (Ors L15.S (Old W.heap.size))) (At (kA 2 eG) ((pgRow (fun k_ => (pgD (rowRL ([0, 1, 2, 3, 4, 5] : List Int) (q : Int) s2 k_)).1) vs70).getD d (0, undef))) (or1_mono (ors_mono no_any)), RF.ps (Or1 sb (Ors L15.S No)) (Or1 sb (Ors L15.S (Old W.heap.size))) (At kN (((pgRow (fun k_ => (pgD (rowRL ([0, 1, 2, 3, 4, 5] : List Int) (q : Int) s2 k_)).1) vs70).getD d (0, undef)).1)) (or1_mono (ors_mono no_any)), RF.is (Or1 sb (Ors L15.S No)) (eN (((pgRow (fun k_ => (pgD (rowRL ([0, 1, 2, 3, 4, 5] : List Int) (q : Int) s2 k_)).1) vs70).getD d (0, undef)).1)), RF.is (Or1 sb (Ors L15.S No)) vF, RF.is (Or1 sb (Ors L15.S No)) (eN q), RF.is (Or1 sb (Ors L15.S No)) (eN nx), RF.is (Or1 sb (Ors L15.S No)) vF, RF.is (Or1 sb (Ors L15.S No)) vF, RF.is (Or1 sb (Ors L15.S No)) vF, RF.is (Or1 sb (Ors L15.S No)) v69, RF.is (Or1 sb (Ors L15.S No)) (eN d), RF.ps (Or1 sb (Ors L15.S No)) (Or1 sb (Ors L15.S (Old W.heap.size))) (At (kA 2 eG) ((pgRow (fun k_ => (pgD (rowRL ([0, 1, 2, 3, 4, 5] : List Int) (q : Int) s2 k_)).1) vs70).getD d (0, undef))) (or1_mono (ors_mono no_any)), RF.ps (Or1 sb (Ors L15.S No)) (Or1 sb (Ors L15.S (Old W.heap.size))) (At kN (((pgRow (fun k_ => (pgD (rowRL ([0, 1, 2, 3, 4, 5] : List Int) (q : Int) s2 k_)).1) vs70).getD d (0, undef)).1)) (or1_mono (ors_mono no_any)), RF.is (Or1 sb (Ors L15.S No)) (eN (((pgRow (fun k_ => (pgD (rowRL ([0, 1, 2, 3, 4, 5] : List Int) (q : Int) s2 k_)).1) vs70).getD d (0, undef)).1)), RF.is (Or1 sb (Ors L15.S No)) vT, RF.is (Or1 sb (Ors L15.S No)) (eN q), RF.is (Or1 sb (Ors L15.S No)) (eN nx), RF.is (Or1 sb (Ors L15.S No)) vT, RF.is (Or1 sb (Ors L15.S No)) vF, RF.is (Or1 sb (Ors L15.S No)) vF, RF.is (Or1 sb (Ors L15.S No)) vF, RF.is (Or1 sb (Ors L15.S No)) (eN q), RF.is (Or1 sb (Ors L15.S No)) (eN nx), RF.is (Or1 sb (Ors L15.S No)) vF, RF.is (Or1 sb (Ors L15.S No)) vF, RF.is (Or1 sb (Ors L15.S No)) undef, RF.is (Or1 sb (Ors L15.S No)) undef, RF.is (Or1 sb (Ors L15.S No)) undef, RF.is (Or1 sb (Ors L15.S No)) undef, RF.is (Or1 sb (Ors L15.S No)) undef, RF.is (Or1 sb (Ors L15.S No)) undef, RF.is (Or1 sb (Ors L15.S No)) undef, RF.is (Or1 sb (Ors L15.S No)) undef, RF.is (Or1 sb (Ors L15.S No)) undef, RF.is (Or1 sb (Ors L15.S No)) undef, RF.is (Or1 sb (Ors L15.S No)) undef, RF.is (Or1 sb (Ors L15.S No)) undef, RF.is (Or1 sb (Ors L15.S No)) undef, RF.is (Or1 sb (Ors L15.S No)) vF, RF.is (Or1 sb (Ors L15.S No)) vF] : List (RF (Or1 sb (Ors L15.S No)))).getD i_ (RF.any (Or1 sb (Ors L15.S No)))) (fun _ w_ => Arr 3 sb (([0, 1, 2, 3, 4, 5] : List Int).map eI) w_ ∧ Nd L15 s3 (Or1 sb No) w_) (fun v85 => ([u1, u2, (zf18 2), (zf18 3), (z 4), (ptr L15.bN 0), (eN 0), (sli sb 0 6 6), (eN nx), (eN wr), (eN i), (z 11), (z 12), (eN q), v69, (zf79 15), (eN d)] ++ (zs zf18 17 7 ++ [(eN 0), vF, (sli sb 0 6 6)] ++ (zs z 27 7 ++ [(Value.bool (decide (i < ll.length ∧ i < 20)))] ++ (zs z 35 34 ++ (zs zf79 69 18 ++ [(eN d), (Value.bool (decide (d < 6))), (z 89), (z 90), (v85 0), (v85 1), (v85 2), (v85 3), (v85 4), (v85 5), (v85 6), (v85 7), (v85 8), (v85 9), (v85 10), (v85 11), (v85 12), (v85 13), (v85 14), (v85 15), (v85 16), (v85 17), (v85 18), (v85 19), (v85 20), (v85 21), (v85 22), (v85 23), (v85 24), (v85 25), (v85 26), (v85 27), (v85 28), (v85 29), (v85 30), (v85 31), (v85 32), (v85 33), (v85 34), (v85 35), (v85 36), (v85 37), (v85 38), (v85 39), (v85 40), (v85 41), (zf18 133), (zf18 134), (zf18 135), (zf18 136)])))))) s_mx kr rfl kr (by rfl) (fun v_ => by kernel_rfl) (fun _ => fun w_ w2_ h ho => by obtain ⟨r_a21, r_a16⟩ := h; exact ⟨r_a21.step0 ho, r_a16.step0 ho⟩) ⟨a21, a16⟩ ?_ ?_ ?_
   ·
    refine ls_cons ?_ ?_
    ·
     intro v85 lo hi w_ k_ hO hd _ _ hk_ _ hR hold
     obtain ⟨r_a21, r_a16⟩ := hR
     clear hd hold
     refine ⟨_, rfl, gd rfl ?_⟩
     exact Does.is (d_move rfl)
    refine ls_cons ?_ ?_
    ·
     intro v85 lo hi w_ k_ hO hd _ _ hk_ _ hR hold
     obtain ⟨r_a21, r_a16⟩ := hR
     clear hd hold
     refine ⟨_, rfl, gd rfl ?_⟩
     exact Does.is (d_move rfl)
    refine ls_cons ?_ ?_
    ·
     intro v85 lo hi w_ k_ hO hd _ _ hk_ _ hR hold
     obtain ⟨r_a21, r_a16⟩ := hR
     have e0 : v85 0 = v69 := hd 0 kr
     have e1 : v85 1 = (eN d) := hd 1 kr
     clear hd hold
     refine ⟨_, rfl, gd rfl ?_⟩
     refine Does.mono (d_indexS (q := (kA 2 eG)) (xs := (pgRow (fun k_ => (pgD (rowRL ([0, 1, 2, 3, 4, 5] : List Int) (q : Int) s2 k_)).1) vs70)) (v := ((pgRow (fun k_ => (pgD (rowRL ([0, 1, 2, 3, 4, 5] : List Int) (q : Int) s2 k_)).1) vs70).getD d (0, undef))) Try.underlying53 s_ti32 e0 (f76.step hO (or1_mono (ors_mono no_any))) (show _ = Value.int _ (d : Int) from e1) oo (g_at (by have := pgRow_len (fun k_ => (pgD (rowRL ([0, 1, 2, 3, 4, 5] : List Int) (q : Int) s2 k_)).1) vs70; first | omega | (simp; done) | (simp; omega)))) (fun u w' h => ⟨h.2 ▸ h.1, h.2 ▸ Only.refl _ _⟩)
    refine ls_cons ?_ ?_
    ·
     intro v85 lo hi w_ k_ hO hd _ _ hk_ _ hR hold
     obtain ⟨r_a21, r_a16⟩ := hR
     have d2 : Ps (Or1 sb (Ors L15.S (Old W.heap.size))) (At (kA 2 eG) ((pgRow (fun k_ => (pgD (rowRL ([0, 1, 2, 3, 4, 5] : List Int) (q : Int) s2 k_)).1) vs70).getD d (0, undef)) (v85 2)) w_ := hd 2 kr
     clear hd hold
     refine ⟨_, rfl, gd rfl ?_⟩
     refine Does.mono (d_fieldG0 (v := ((pgRow (fun k_ => (pgD (rowRL ([0, 1, 2, 3, 4, 5] : List Int) (q : Int) s2 k_)).1) vs70).getD d (0, undef))) Try.underlying32 rfl s_ti3 rfl rfl d2) (fun u w' h => ⟨h.2 ▸ h.1, h.2 ▸ Only.refl _ _⟩)
    refine ls_cons ?_ ?_
    ·
     intro v85 lo hi w_ k_ hO hd _ _ hk_ _ hR hold
     obtain ⟨r_a21, r_a16⟩ := hR
     have d3 : Ps (Or1 sb (Ors L15.S (Old W.heap.size))) (At kN (((pgRow (fun k_ => (pgD (rowRL ([0, 1, 2, 3, 4, 5] : List Int) (q : Int) s2 k_)).1) vs70).getD d (0, undef)).1) (v85 3)) w_ := hd 3 kr
     clear hd hold
     refine ⟨_, rfl, gd rfl ?_⟩
     exact Does.is (d_loadAt (enc := eN) (v := ((pgRow (fun k_ => (pgD (rowRL ([0, 1, 2, 3, 4, 5] : List Int) (q : Int) s2 k_)).1) vs70).getD d (0, undef)).1) ⟨_, Try.underlying3, rfl⟩ rfl d3)
    refine ls_cons ?_ ?_
    ·
     intro v85 lo hi w_ k_ hO hd _ _ hk_ _ hR hold
     obtain ⟨r_a21, r_a16⟩ := hR
     have e4 : v85 4 = (eN (((pgRow (fun k_ => (pgD (rowRL ([0, 1, 2, 3, 4, 5] : List Int) (q : Int) s2 k_)).1) vs70).getD d (0, undef)).1)) := hd 4 kr
     clear hd hold
     refine ⟨_, rfl, gd rfl ?_⟩
     exact Does.is (n_eql (a := (((pgRow (fun k_ => (pgD (rowRL ([0, 1, 2, 3, 4, 5] : List Int) (q : Int) s2 k_)).1) vs70).getD d (0, undef)).1)) (b := 2) e4 rfl (decide_eq_false (by rw [hp1]; decide)))
    refine ls_cons ?_ ?_
    ·
     intro v85 lo hi w_ k_ hO hd _ _ hk_ _ hR hold
     obtain ⟨r_a21, r_a16⟩ := hR
     clear hd hold
     refine ⟨_, rfl, gd rfl ?_⟩
     exact Does.is (d_move rfl)
    refine ls_cons ?_ ?_
    ·
     intro v85 lo hi w_ k_ hO hd _ _ hk_ _ hR hold
     obtain ⟨r_a21, r_a16⟩ := hR
     clear hd hold
     refine ⟨_, rfl, gd rfl ?_⟩
     exact Does.is (d_move rfl)
    refine ls_cons ?_ ?_
    ·
     intro v85 lo hi w_ k_ hO hd _ _ hk_ _ hR hold
     obtain ⟨r_a21, r_a16⟩ := hR
     have e6 : v85 6 = (eN q) := hd 6 kr
     have e7 : v85 7 = (eN nx) := hd 7 kr
     clear hd hold
     refine ⟨_, rfl, gd rfl ?_⟩
     exact Does.is (n_lss (a := q) (b := nx) e6 e7 (decide_eq_false k3))
    refine ls_cons ?_ ?_
    ·
     intro v85 lo hi w_ k_ hO hd _ _ hk_ _ hR hold
     obtain ⟨r_a21, r_a16⟩ := hR
     have e5 : v85 5 = vF := hd 5 kr
     have e8 : v85 8 = vF := hd 8 kr
     clear hd hold
     refine ⟨_, rfl, gd rfl ?_⟩
     exact Does.is (d_bneq Try.underlying4 e5 e8 rfl)
    refine ls_cons ?_ ?_
    ·
     intro v85 lo hi w_ k_ hO hd _ _ hk_ _ hR hold
     obtain ⟨r_a21, r_a16⟩ := hR
     have e9 : v85 9 = vF := hd 9 kr
     clear hd hold
     refine ⟨_, rfl, gd rfl ?_⟩
     exact Does.is (d_move (v := vF) e9)
    refine ls_cons ?_ ?_
    ·
     intro v85 lo hi w_ k_ hO hd _ _ hk_ _ hR hold
     obtain ⟨r_a21, r_a16⟩ := hR
     have e10 : v85 10 = vF := hd 10 kr
     clear hd hold
     refine ⟨_, rfl, gd_on rfl rfl rfl (nb rfl) e10 ?_⟩
     exact Does.is (d_move rfl)
    refine ls_cons ?_ ?_
    ·
     intro v85 lo hi w_ k_ hO hd _ _ hk_ _ hR hold
     obtain ⟨r_a21, r_a16⟩ := hR
     have e10 : v85 10 = vF := hd 10 kr
     clear hd hold
     refine ⟨_, rfl, gd_on rfl rfl rfl (nb rfl) e10 ?_⟩
     exact Does.is (d_move rfl)
    refine ls_cons ?_ ?_
    ·
     intro v85 lo hi w_ k_ hO hd _ _ hk_ _ hR hold
     obtain ⟨r_a21, r_a16⟩ := hR
     have e10 : v85 10 = vF := hd 10 kr
     have e11 : v85 11 = v69 := hd 11 kr
     have e12 : v85 12 = (eN d) := hd 12 kr
     clear hd hold
     refine ⟨_, rfl, gd_on rfl rfl rfl (nb rfl) e10 ?_⟩
     refine Does.mono (d_indexS (q := (kA 2 eG)) (xs := (pgRow (fun k_ => (pgD (rowRL ([0, 1, 2, 3, 4, 5] : List Int) (q : Int) s2 k_)).1) vs70)) (v := ((pgRow (fun k_ => (pgD (rowRL ([0, 1, 2, 3, 4, 5] : List Int) (q : Int) s2 k_)).1) vs70).getD d (0, undef))) Try.underlying53 s_ti32 e11 (f76.step hO (or1_mono (ors_mono no_any))) (show _ = Value.int _ (d : Int) from e12) oo (g_at (by have := pgRow_len (fun k_ => (pgD (rowRL ([0, 1, 2, 3, 4, 5] : List Int) (q : Int) s2 k_)).1) vs70; first | omega | (simp; done) | (simp; omega)))) (fun u w' h => ⟨h.2 ▸ h.1, h.2 ▸ Only.refl _ _⟩)
    refine ls_cons ?_ ?_
    ·
     intro v85 lo hi w_ k_ hO hd _ _ hk_ _ hR hold
     obtain ⟨r_a21, r_a16⟩ := hR
     have e10 : v85 10 = vF := hd 10 kr
     have d13 : Ps (Or1 sb (Ors L15.S (Old W.heap.size))) (At (kA 2 eG) ((pgRow (fun k_ => (pgD (rowRL ([0, 1, 2, 3, 4, 5] : List Int) (q : Int) s2 k_)).1) vs70).getD d (0, undef)) (v85 13)) w_ := hd 13 kr
     clear hd hold
     refine ⟨_, rfl, gd_on rfl rfl rfl (nb rfl) e10 ?_⟩
     refine Does.mono (d_fieldG0 (v := ((pgRow (fun k_ => (pgD (rowRL ([0, 1, 2, 3, 4, 5] : List Int) (q : Int) s2 k_)).1) vs70).getD d (0, undef))) Try.underlying32 rfl s_ti3 rfl rfl d13) (fun u w' h => ⟨h.2 ▸ h.1, h.2 ▸ Only.refl _ _⟩)
    refine ls_cons ?_ ?_
    ·
     intro v85 lo hi w_ k_ hO hd _ _ hk_ _ hR hold
     obtain ⟨r_a21, r_a16⟩ := hR
     have e10 : v85 10 = vF := hd 10 kr
     have d14 : Ps (Or1 sb (Ors L15.S (Old W.heap.size))) (At kN (((pgRow (fun k_ => (pgD (rowRL ([0, 1, 2, 3, 4, 5] : List Int) (q : Int) s2 k_)).1) vs70).getD d (0, undef)).1) (v85 14)) w_ := hd 14 kr
     clear hd hold
     refine ⟨_, rfl, gd_on rfl rfl rfl (nb rfl) e10 ?_⟩
     exact Does.is (d_loadAt (enc := eN) (v := ((pgRow (fun k_ => (pgD (rowRL ([0, 1, 2, 3, 4, 5] : List Int) (q : Int) s2 k_)).1) vs70).getD d (0, undef)).1) ⟨_, Try.underlying3, rfl⟩ rfl d14)
    refine ls_cons ?_ ?_
    ·
     intro v85 lo hi w_ k_ hO hd _ _ hk_ _ hR hold
     obtain ⟨r_a21, r_a16⟩ := hR
     have e10 : v85 10 = vF := hd 10 kr
     have e15 : v85 15 = (eN (((pgRow (fun k_ => (pgD (rowRL ([0, 1, 2, 3, 4, 5] : List Int) (q : Int) s2 k_)).1) vs70).getD d (0, undef)).1)) := hd 15 kr
     clear hd hold
     refine ⟨_, rfl, gd_on rfl rfl rfl (nb rfl) e10 ?_⟩
     exact Does.is (n_eql (a := (((pgRow (fun k_ => (pgD (rowRL ([0, 1, 2, 3, 4, 5] : List Int) (q : Int) s2 k_)).1) vs70).getD d (0, undef)).1)) (b := 0) e15 rfl (decide_eq_true hp1))
    refine ls_cons ?_ ?_
    ·
     intro v85 lo hi w_ k_ hO hd _ _ hk_ _ hR hold
     obtain ⟨r_a21, r_a16⟩ := hR
     have e10 : v85 10 = vF := hd 10 kr
     clear hd hold
     refine ⟨_, rfl, gd_on rfl rfl rfl (nb rfl) e10 ?_⟩
     exact Does.is (d_move rfl)
    refine ls_cons ?_ ?_
    ·
     intro v85 lo hi w_ k_ hO hd _ _ hk_ _ hR hold
     obtain ⟨r_a21, r_a16⟩ := hR
     have e10 : v85 10 = vF := hd 10 kr
     clear hd hold
     refine ⟨_, rfl, gd_on rfl rfl rfl (nb rfl) e10 ?_⟩
     exact Does.is (d_move rfl)
    refine ls_cons ?_ ?_
    ·
     intro v85 lo hi w_ k_ hO hd _ _ hk_ _ hR hold
     obtain ⟨r_a21, r_a16⟩ := hR
     have e10 : v85 10 = vF := hd 10 kr
     have e17 : v85 17 = (eN q) := hd 17 kr
     have e18 : v85 18 = (eN nx) := hd 18 kr
     clear hd hold
     refine ⟨_, rfl, gd_on rfl rfl rfl (nb rfl) e10 ?_⟩
     exact Does.is (n_geq (a := q) (b := nx) e17 e18 (decide_eq_true oo))
    refine ls_cons ?_ ?_
    ·
     intro v85 lo hi w_ k_ hO hd _ _ hk_ _ hR hold
     obtain ⟨r_a21, r_a16⟩ := hR
     have e10 : v85 10 = vF := hd 10 kr
     have e16 : v85 16 = vT := hd 16 kr
     have e19 : v85 19 = vT := hd 19 kr
     clear hd hold
     refine ⟨_, rfl, gd_on rfl rfl rfl (nb rfl) e10 ?_⟩
     exact Does.is (d_bneq Try.underlying4 e16 e19 rfl)
    refine ls_cons ?_ ?_
    ·
     intro v85 lo hi w_ k_ hO hd _ _ hk_ _ hR hold
     obtain ⟨r_a21, r_a16⟩ := hR
     have e10 : v85 10 = vF := hd 10 kr
     have e20 : v85 20 = vF := hd 20 kr
     clear hd hold
     refine ⟨_, rfl, gd rfl ?_⟩
     exact Does.is (d_pick (b := false) (v := vF) e10 e20)
    refine ls_cons ?_ ?_
    ·
     intro v85 lo hi w_ k_ hO hd _ _ hk_ _ hR hold
     obtain ⟨r_a21, r_a16⟩ := hR
     have e21 : v85 21 = vF := hd 21 kr
     clear hd hold
     refine ⟨_, rfl, gd rfl ?_⟩
     exact Does.is (d_move (v := vF) e21)
    refine ls_cons ?_ ?_
    ·
     intro v85 lo hi w_ k_ hO hd _ _ hk_ _ hR hold
     obtain ⟨r_a21, r_a16⟩ := hR
     have e22 : v85 22 = vF := hd 22 kr
     clear hd hold
     refine ⟨_, rfl, gd_on rfl rfl rfl (nb rfl) e22 ?_⟩
     exact Does.is (d_move rfl)
    refine ls_cons ?_ ?_
    ·
     intro v85 lo hi w_ k_ hO hd _ _ hk_ _ hR hold
     obtain ⟨r_a21, r_a16⟩ := hR
     have e22 : v85 22 = vF := hd 22 kr
     clear hd hold
     refine ⟨_, rfl, gd_on rfl rfl rfl (nb rfl) e22 ?_⟩
     exact Does.is (d_move rfl)
    refine ls_cons ?_ ?_
    ·
     intro v85 lo hi w_ k_ hO hd _ _ hk_ _ hR hold
     obtain ⟨r_a21, r_a16⟩ := hR
     have e22 : v85 22 = vF := hd 22 kr
     have e23 : v85 23 = (eN q) := hd 23 kr
     have e24 : v85 24 = (eN nx) := hd 24 kr
     clear hd hold
     refine ⟨_, rfl, gd_on rfl rfl rfl (nb rfl) e22 ?_⟩
     exact Does.is (n_lss (a := q) (b := nx) e23 e24 (decide_eq_false k3))
    refine ls_cons ?_ ?_
    ·
     intro v85 lo hi w_ k_ hO hd _ _ hk_ _ hR hold
     obtain ⟨r_a21, r_a16⟩ := hR
     have e22 : v85 22 = vF := hd 22 kr
     have e25 : v85 25 = vF := hd 25 kr
     clear hd hold
     refine ⟨_, rfl, gd_on rfl rfl rfl (nb rfl) e22 ?_⟩
     exact Does.is (d_move (v := vF) e25)
    refine ls_cons ?_ ?_
    ·
     intro v85 lo hi w_ k_ hO hd _ _ hk_ _ hR hold
     obtain ⟨r_a21, r_a16⟩ := hR
     have e26 : v85 26 = vF := hd 26 kr
     clear hd hold
     refine ⟨_, rfl, gd_off rfl rfl rfl (nb rfl) e26 ?_⟩
     exact ⟨rfl, Only.refl _ _⟩
    refine ls_cons ?_ ?_
    ·
     intro v85 lo hi w_ k_ hO hd _ _ hk_ _ hR hold
     obtain ⟨r_a21, r_a16⟩ := hR
     have e26 : v85 26 = vF := hd 26 kr
     clear hd hold
     refine ⟨_, rfl, gd_off rfl rfl rfl (nb rfl) e26 ?_⟩
     exact ⟨rfl, Only.refl _ _⟩
    refine ls_cons ?_ ?_
    ·
     intro v85 lo hi w_ k_ hO hd _ _ hk_ _ hR hold
     obtain ⟨r_a21, r_a16⟩ := hR
     have e26 : v85 26 = vF := hd 26 kr
     clear hd hold
     refine ⟨_, rfl, gd_off rfl rfl rfl (nb rfl) e26 ?_⟩
     exact ⟨rfl, Only.refl _ _⟩
    refine ls_cons ?_ ?_
    ·
     intro v85 lo hi w_ k_ hO hd _ _ hk_ _ hR hold
     obtain ⟨r_a21, r_a16⟩ := hR
     have e26 : v85 26 = vF := hd 26 kr
     clear hd hold
     refine ⟨_, rfl, gd_off rfl rfl rfl (nb rfl) e26 ?_⟩
     exact ⟨rfl, Only.refl _ _⟩
    refine ls_cons ?_ ?_
    ·
     intro v85 lo hi w_ k_ hO hd _ _ hk_ _ hR hold
     obtain ⟨r_a21, r_a16⟩ := hR
     have e26 : v85 26 = vF := hd 26 kr
     clear hd hold
     refine ⟨_, rfl, gd_off rfl rfl rfl (nb rfl) e26 ?_⟩
     exact ⟨rfl, Only.refl _ _⟩
    refine ls_cons ?_ ?_
    ·
     intro v85 lo hi w_ k_ hO hd _ _ hk_ _ hR hold
     obtain ⟨r_a21, r_a16⟩ := hR
     have e26 : v85 26 = vF := hd 26 kr
     clear hd hold
     refine ⟨_, rfl, gd_off rfl rfl rfl (nb rfl) e26 ?_⟩
     exact ⟨rfl, Only.refl _ _⟩
    refine ls_cons ?_ ?_
    ·
     intro v85 lo hi w_ k_ hO hd _ _ hk_ _ hR hold
     obtain ⟨r_a21, r_a16⟩ := hR
     have e26 : v85 26 = vF := hd 26 kr
     clear hd hold
     refine ⟨_, rfl, gd_off rfl rfl rfl (nb rfl) e26 ?_⟩
     exact ⟨rfl, Only.refl _ _⟩
    refine ls_cons ?_ ?_
    ·
     intro v85 lo hi w_ k_ hO hd _ _ hk_ _ hR hold
     obtain ⟨r_a21, r_a16⟩ := hR
     have e26 : v85 26 = vF := hd 26 kr
     clear hd hold
     refine ⟨_, rfl, gd_off rfl rfl rfl (nb rfl) e26 ?_⟩
     exact ⟨rfl, Only.refl _ _⟩
    refine ls_cons ?_ ?_
    ·
     intro v85 lo hi w_ k_ hO hd _ _ hk_ _ hR hold
     obtain ⟨r_a21, r_a16⟩ := hR
     have e26 : v85 26 = vF := hd 26 kr
     clear hd hold
     refine ⟨_, rfl, gd_off rfl rfl rfl (nb rfl) e26 ?_⟩
     exact ⟨rfl, Only.refl _ _⟩
    refine ls_cons ?_ ?_
    ·
     intro v85 lo hi w_ k_ hO hd _ _ hk_ _ hR hold
     obtain ⟨r_a21, r_a16⟩ := hR
     have e26 : v85 26 = vF := hd 26 kr
     clear hd hold
     refine ⟨_, rfl, gd_off rfl rfl rfl (nb rfl) e26 ?_⟩
     exact ⟨rfl, Only.refl _ _⟩
    refine ls_cons ?_ ?_
    ·
     intro v85 lo hi w_ k_ hO hd _ _ hk_ _ hR hold
     obtain ⟨r_a21, r_a16⟩ := hR
     have e26 : v85 26 = vF := hd 26 kr
     clear hd hold
     refine ⟨_, rfl, gd_off rfl rfl rfl (nb rfl) e26 ?_⟩
     exact ⟨rfl, Only.refl _ _⟩
    refine ls_cons ?_ ?_
    ·
     intro v85 lo hi w_ k_ hO hd _ _ hk_ _ hR hold
     obtain ⟨r_a21, r_a16⟩ := hR
     have e26 : v85 26 = vF := hd 26 kr
     clear hd hold
     refine ⟨_, rfl, gd_off rfl rfl rfl (nb rfl) e26 ?_⟩
     exact ⟨rfl, Only.refl _ _⟩
    refine ls_cons ?_ ?_
    ·
     intro v85 lo hi w_ k_ hO hd _ _ hk_ _ hR hold
     obtain ⟨r_a21, r_a16⟩ := hR
     have e26 : v85 26 = vF := hd 26 kr
     clear hd hold
     refine ⟨_, rfl, gd_off rfl rfl rfl (nb rfl) e26 ?_⟩
     exact ⟨rfl, Only.refl _ _⟩
    refine ls_cons ?_ ?_
    ·
     intro v85 lo hi w_ k_ hO hd _ _ hk_ _ hR hold
     obtain ⟨r_a21, r_a16⟩ := hR
     have e22 : v85 22 = vF := hd 22 kr
     have e26 : v85 26 = vF := hd 26 kr
     clear hd hold
     refine ⟨_, rfl, gd_on rfl rfl rfl (nb rfl) e22 ?_⟩
     exact Does.is (d_pick (b := false) (v := vF) e26 rfl)
    refine ls_cons ?_ ?_
    ·
     intro v85 lo hi w_ k_ hO hd _ _ hk_ _ hR hold
     obtain ⟨r_a21, r_a16⟩ := hR
     have e22 : v85 22 = vF := hd 22 kr
     have e40 : v85 40 = vF := hd 40 kr
     clear hd hold
     refine ⟨_, rfl, gd rfl ?_⟩
     exact Does.is (d_pick (b := false) (v := vF) e22 e40)
    exact ls_nil
   ·
    exact ms_nil
   intro v85 lo_ hi_ w86 o87 hd iv_ hR
   have e0 : v85 0 = v69 := hd 0 (by decide)
   have e1 : v85 1 = (eN d) := hd 1 (by decide)
   have e4 : v85 4 = (eN (((pgRow (fun k_ => (pgD (rowRL ([0, 1, 2, 3, 4, 5] : List Int) (q : Int) s2 k_)).1) vs70).getD d (0, undef)).1)) := hd 4 (by decide)
   have e5 : v85 5 = vF := hd 5 (by decide)
   have e6 : v85 6 = (eN q) := hd 6 (by decide)
   have e7 : v85 7 = (eN nx) := hd 7 (by decide)
   have e8 : v85 8 = vF := hd 8 (by decide)
   have e9 : v85 9 = vF := hd 9 (by decide)
   have e10 : v85 10 = vF := hd 10 (by decide)
   have e11 : v85 11 = v69 := hd 11 (by decide)
   have e12 : v85 12 = (eN d) := hd 12 (by decide)
   have e15 : v85 15 = (eN (((pgRow (fun k_ => (pgD (rowRL ([0, 1, 2, 3, 4, 5] : List Int) (q : Int) s2 k_)).1) vs70).getD d (0, undef)).1)) := hd 15 (by decide)
   have e16 : v85 16 = vT := hd 16 (by decide)
   have e17 : v85 17 = (eN q) := hd 17 (by decide)
   have e18 : v85 18 = (eN nx) := hd 18 (by decide)
   have e19 : v85 19 = vT := hd 19 (by decide)
   have e20 : v85 20 = vF := hd 20 (by decide)
   have e21 : v85 21 = vF := hd 21 (by decide)
   have e22 : v85 22 = vF := hd 22 (by decide)
   have e23 : v85 23 = (eN q) := hd 23 (by decide)
   have e24 : v85 24 = (eN nx) := hd 24 (by decide)
   have e25 : v85 25 = vF := hd 25 (by decide)
   have e26 : v85 26 = vF := hd 26 (by decide)
   have e27 : v85 27 = undef := hd 27 (by decide)
   have e28 : v85 28 = undef := hd 28 (by decide)
   have e29 : v85 29 = undef := hd 29 (by decide)
   have e30 : v85 30 = undef := hd 30 (by decide)
   have e31 : v85 31 = undef := hd 31 (by decide)
   have e32 : v85 32 = undef := hd 32 (by decide)
   have e33 : v85 33 = undef := hd 33 (by decide)
   have e34 : v85 34 = undef := hd 34 (by decide)
   have e35 : v85 35 = undef := hd 35 (by decide)
   have e36 : v85 36 = undef := hd 36 (by decide)
   have e37 : v85 37 = undef := hd 37 (by decide)
   have e38 : v85 38 = undef := hd 38 (by decide)
   have e39 : v85 39 = undef := hd 39 (by decide)
   have e40 : v85 40 = vF := hd 40 (by decide)
   have e41 : v85 41 = vF := hd 41 (by decide)
   have f_v85_2 : Ps (Or1 sb (Ors L15.S (Old W.heap.size))) (At (kA 2 eG) ((pgRow (fun k_ => (pgD (rowRL ([0, 1, 2, 3, 4, 5] : List Int) (q : Int) s2 k_)).1) vs70).getD d (0, undef)) (v85 2)) w86 := hd 2 (by decide)
   have f_v85_3 : Ps (Or1 sb (Ors L15.S (Old W.heap.size))) (At kN (((pgRow (fun k_ => (pgD (rowRL ([0, 1, 2, 3, 4, 5] : List Int) (q : Int) s2 k_)).1) vs70).getD d (0, undef)).1) (v85 3)) w86 := hd 3 (by decide)
   have f_v85_13 : Ps (Or1 sb (Ors L15.S (Old W.heap.size))) (At (kA 2 eG) ((pgRow (fun k_ => (pgD (rowRL ([0, 1, 2, 3, 4, 5] : List Int) (q : Int) s2 k_)).1) vs70).getD d (0, undef)) (v85 13)) w86 := hd 13 (by decide)
   have f_v85_14 : Ps (Or1 sb (Ors L15.S (Old W.heap.size))) (At kN (((pgRow (fun k_ => (pgD (rowRL ([0, 1, 2, 3, 4, 5] : List Int) (q : Int) s2 k_)).1) vs70).getD d (0, undef)).1) (v85 14)) w86 := hd 14 (by decide)
   clear hd iv_ lo_ hi_
   refine fr_eq (l' := ([u1, u2, (zf18 2), (zf18 3), (z 4), (ptr L15.bN 0), (eN 0), (sli sb 0 6 6), (eN nx), (eN wr), (eN i), (z 11), (z 12), (eN q), v69, (zf79 15), (eN d)] ++ (zs zf18 17 7 ++ [(eN 0), vF, (sli sb 0 6 6)] ++ (zs z 27 7 ++ [(Value.bool (decide (i < ll.length ∧ i < 20)))] ++ (zs z 35 34 ++ (zs zf79 69 18 ++ [(eN d), (Value.bool (decide (d < 6))), (z 89), (z 90), v69, (eN d), (v85 2), (v85 3), (eN (((pgRow (fun k_ => (pgD (rowRL ([0, 1, 2, 3, 4, 5] : List Int) (q : Int) s2 k_)).1) vs70).getD d (0, undef)).1)), vF, (eN q), (eN nx), vF, vF, vF, v69, (eN d), (v85 13), (v85 14), (eN (((pgRow (fun k_ => (pgD (rowRL ([0, 1, 2, 3, 4, 5] : List Int) (q : Int) s2 k_)).1) vs70).getD d (0, undef)).1)), vT, (eN q), (eN nx), vT, vF, vF, vF, (eN q), (eN nx), vF, vF] ++ (us 13 ++ [vF, vF, (zf18 133), (zf18 134), (zf18 135), (zf18 136)]))))))) (by rw [e0, e1, e4, e5, e6, e7, e8, e9, e10, e11, e12, e15, e16, e17, e18, e19, e20, e21, e22, e23, e24, e25, e26, e27, e28, e29, e30, e31, e32, e33, e34, e35, e36, e37, e38, e39, e40, e41] <;> rfl) ?_
   clear e0 e1 e4 e5 e6 e7 e8 e9 e10 e11 e12 e15 e16 e17 e18 e19 e20 e21 e22 e23 e24 e25 e26 e27 e28 e29 e30 e31 e32 e33 e34 e35 e36 e37 e38 e39 e40 e41
   replace h1 := h1.step o87 (or1_mono (ors_mono no_any))
   replace h2 := h2.step o87 (or1_mono (ors_mono no_any))
   replace f76 := f76.step o87 (or1_mono (ors_mono no_any))
   replace f77 := f77.step o87 (or1_mono (ors_mono no_any))
   replace hfe := hfe.step o87 (or1_mono (ors_mono no_any))
   obtain ⟨xr_a21, xr_a16⟩ := hR
   replace a21 : Arr 3 sb (([0, 1, 2, 3, 4, 5] : List Int).map eI) w86 := xr_a21
   replace a16 := xr_a16
   clear xr_a21 xr_a16
   replace oW := oW.tail o87 (tl_new g_oW_sb (tl_snew g_oW_L15 tl_no))
   replace o23 := o23.tail o87 (tl_in in1 (tl_sin (sub2 sub1) tl_no))
   replace o65 := o65.tail o87 (tl_in in1 (tl_sin (sub2 sub1) tl_no))
   replace o80 := o80.tail o87 (tl_in in1 (tl_sin (sub2 sub1) tl_no))
   refine tN ?_
   refine cond_f rfl ?_
   refine wK ?_
   refine inb_n (tN ?_)
   refine pL ?_
   refine wI (d_move rfl) ?_
   refine wI (n_add (a := d) (b := 1) rfl rfl oo) ?_
   refine wI (d_assign rfl) ?_
   refine wD (tN ?_)
   refine ⟨_, (d + 1), rfl, kr, ⟨?_, ?_, ?_, ?_⟩, ?_⟩
   ·
    (try dsimp only)
    all_goals (omega)
   ·
    exact o80
   ·
    exact a21
   ·
    exact a16
   ·
    (try dsimp only)
    all_goals (omega)
  refine wpIn_exit ?_
  refine then_x (then_x (inb_e ?_))
  refine inb_n (tN ?_)
  refine pL ?_
  refine wI (d_move rfl) ?_
  refine wI (n_add (a := q) (b := 1) rfl rfl oo) ?_
  refine wI (d_assign rfl) ?_
  refine wD (tN ?_)
  refine ⟨_, ⟨q + 1, s3⟩, rfl, kr, ⟨?_, ?_, ?_, ?_, ?_⟩, ?_⟩
  ·
   (try dsimp only)
   all_goals (omega)
  ·
   exact hJ_s3
  ·
   exact o65
  ·
   exact a21
  ·
   exact a16
  ·
   (try dsimp only)
   all_goals (omega)
 refine wpIn_exit ?_
 refine then_x (then_x (inb_e ?_))
 refine tN ?_
 refine forget (fun zf88 => (zs zf88 0 5 ++ [(ptr L15.bN 0), (zf88 6), (zf88 7), (eN nx), (eN wr), (eN i), (z 11), (zf88 12), (eN q), (z 14), (zf88 15), (z 16)] ++ (zs zf88 17 120))) kr (fun zf88 => ?_)
 refine wQ (pL ?_)
 refine wI (d_move rfl) ?_
 refine wO (d_call (xl := [.tmp 133]) (al := [(ptr L15.bN 0)]) Try.func36 kr rfl rfl rfl (nandWrong_ok L15 s2 _ a16)) ?_
 rintro _ w89 ⟨rfl, o90⟩
 replace h1 := h1.step0 o90
 replace h2 := h2.step0 o90
 replace a16 := a16.step0 o90
 replace a21 := a21.step0 o90
 replace oW := oW.tail0 o90
 replace o23 := o23.tail0 o90
 replace o65 := o65.tail0 o90
 refine wI (d_move rfl) ?_
 refine wI (d_eql (k := .i64) (m := s2.wrong) (n := (wr : Int)) rfl rfl (decide_eq_true (ordR_wrong hK))) ?_
 refine wI (d_assign rfl) ?_
 refine wD (tN ?_)
 refine wpIn_ret ?_
 refine leave0 (v := vT) (res1 Try.results12 rfl) ?_
 exact ⟨rfl, oW⟩
end Go.Proofs.YtgalehapmdabeaaF
namespace Go.Proofs.YtgalehapmdabeaaF
open Go Shelf YtgalehapmdabeaaS Go.RowKit
def IsRow (k : IntKind) (w : World) (a : Option Addr) (len cap : Nat) (zs : List Int) : Prop :=
 (a = none ∧ len = 0 ∧ cap = 0 ∧ zs = []) ∨
 ∃ x, a = some x ∧ len ≤ cap ∧ zs.length = cap ∧ (∀ i, i < zs.length → w.cell? (x.add i) = some (.int k (zs.getD i 0))) ∧ ∀ n ∈ zs, (Lit.int k n).wf = true
theorem IsRow.seq {α : Type} {enc : α → Value} {dec : Int → α} {k : IntKind} {W : World} {a : Option Addr} {len cap : Nat} {zs : List Int} (h : IsRow k W a len cap zs)
  (hed : ∀ n, (Lit.int k n).wf = true → enc (dec n) = .int k n) : ∃ xs : List α, xs.length = len ∧ Ps No (Seq (kS enc) xs (.slice a len cap)) W := by
 rcases h with ⟨rfl, rfl, rfl, _⟩ | ⟨x, rfl, hl, hz, hc, hw⟩
 ·exact ⟨[], rfl, seq_nil⟩
 ·refine ⟨(zs.take len).map dec, by rw [List.length_map, List.length_take]; omega, fun W' hW => ⟨_, cap, by rw [List.length_map, List.length_take, Nat.min_eq_left (by omega)], by rw [List.length_map, List.length_take]; omega, fun i v hv => ⟨x, rfl, ?_⟩⟩⟩
  rw [List.getElem?_map, List.getElem?_take] at hv
  split at hv
  ·rename_i hi
   have hiz : i < zs.length := by omega
   rw [List.getElem?_eq_getElem hiz] at hv
   injection hv with hv
   subst hv
   have h1 := hc i hiz
   have h2 : zs.getD i 0 = zs[i] := by rw [List.getD_eq_getElem?_getD, List.getElem?_eq_getElem hiz]; rfl
   rw [h2] at h1
   show W'.cell? (x.add (i * 1)) = some (enc (dec zs[i]))
   rw [Nat.mul_one, hed _ (hw _ (List.getElem_mem hiz))]
   have hlt : (x.add i).block < W.heap.size := cells_of_cell h1 |>.elim fun _ hx => (Array.getElem?_eq_some_iff.1 hx.1).1
   rw [World.cell?_of_block (w := W) (hW _ hlt id)]
   exact h1
  ·cases hv
theorem dec_u8 (n : Int) (h : (Lit.int .u8 n).wf = true) : eB (UInt8.ofNat n.toNat) = .int .u8 n := by
 have hb : 0 ≤ n ∧ n < 256 := by
  simp [Lit.wf, IntKind.min, IntKind.max, IntKind.signed, IntKind.bits] at h
  omega
 show Value.int _ _ = _
 congr 1
 rw [UInt8.toNat_ofNat']
 omega
theorem dec_i64 (n : Int) (_ : (Lit.int .i64 n).wf = true) : eI n = .int .i64 n := rfl
theorem law_of {P : Program} {f : Nat} {args : Array Value} {W : World} (h : CW P f args W (Rt (RIs (.bool true) W))) : Calls P f args W fun e W' => e = .returned (.bool true) ∧ Below W.heap.size W W' :=
 callsIn_wide.1 (CallsIn.mono h fun e W' ⟨u, he, hu⟩ => by
  obtain ⟨h1, h2⟩ := hu
  exact ⟨by rw [he, h1], h2.below (Nat.le_refl _) fun _ x => x.elim⟩)
end Go.Proofs.YtgalehapmdabeaaF
