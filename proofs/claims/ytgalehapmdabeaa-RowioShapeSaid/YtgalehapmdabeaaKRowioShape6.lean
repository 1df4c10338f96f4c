/- Part of the proof of the law RowioShape: its frame, its mathematics, the walks through the functions it reaches, without what it does not use. No further conditions. -/
import Derived.Test.YtgalehapmdabeaaKRowioShape5
set_option linter.unusedVariables false
set_option linter.unusedSimpArgs false
namespace Go.Proofs.YtgalehapmdabeaaF
open Go Go.Shelf Go.Proofs.YtgalehapmdabeaaS Ram
structure RowV (s : NS) (D B Q k : Nat) (m : List UInt8) (x : Bool) (o w : Int) (c nx : Nat → Nat) (f : Nat → Nat → List UInt8) (z : Nat → Nat → List Int) : Prop where
 ct : Ctl s D B Q k m x o w
 v : ∀ d, d < D → ∃ er, Bv s d (c d) (nx d) er false (f d) (z d)
def upn : Nat → Int → Int
 | 0, o => o
 | i + 1, o => up1 (upn i o)
section
variable {s : NS} {D B Q k d p : Nat} {m : List UInt8} {x : Bool} {o w : Int} {c nx nx' : Nat → Nat} {f f' : Nat → Nat → List UInt8} {z z' : Nat → Nat → List Int} {l : List UInt8}
theorem RowV.to (h : RowV s D B Q k m x o w c nx f z) (h1 : ∀ d, d < D → nx d = nx' d) (h2 : ∀ d q, d < D → q < Q → f d q = f' d q) (h3 : ∀ d q, d < D → q < Q → z d q = z' d q) : RowV s D B Q k m x o w c nx' f' z' := ⟨h.ct, fun d hd => by
 obtain ⟨er, hv⟩ := h.v d hd
 exact ⟨er, hv.to (h1 d hd) (fun q hq => h2 d q hd (by rw [h.ct.gP] at hq; exact hq)) (fun q hq => h3 d q hd (by rw [h.ct.gP] at hq; exact hq))⟩⟩
theorem rv_to {s' : NS} (h : RowV s D B Q k m x o w c nx f z) (e : s = s') : RowV s' D B Q k m x o w c nx f z := e ▸ h
theorem rv_new {g : Nat → Nat → Bool} (hg : g = fun _ _ => false) (hc : ∀ d, d < D → c d < B) : RowV (NS.new D B Q g) D B Q 0 [] false 0 0 c (fun _ => 0) (fun _ _ => onesW) (fun _ _ => []) := by
 subst hg
 exact ⟨ctl_new D B Q _, fun d hd => ⟨0, bv_new hd (hc d hd)⟩⟩
theorem rv_prog (h : RowV s D B Q k m false o w c nx f z) (hd : d < D) (hp : p < Q) (hl : l.length = 60) (e : nx d = p) : s.progR d (c d) p l = (if k = 1 then 8 else 0) ∧
  RowV (s.prog d (c d) p l) D B Q (k - 1) m (decide (k = 1)) (up1 o) w c (fun j => if j = d then p + 1 else nx j) (fun j q => if j = d ∧ q = p then (if k = 1 then mixR onesW l m else l) else f j q) z := by
 obtain ⟨er, hv⟩ := h.v d hd
 obtain ⟨h1, h2, h3, h4⟩ := prog_done h.ct hv hp hl e
 refine ⟨h1, h2, fun j hj => ?_⟩
 by_cases ej : j = d
 ·subst ej
  refine ⟨er, Bv.to (nx' := if j = j then p + 1 else nx j) (f' := fun q => if j = j ∧ q = p then (if k = 1 then mixR onesW l m else l) else f j q) h3 (by rw [if_pos rfl, e]) (fun q _ => ?_) (fun _ _ => rfl)⟩
  by_cases eq : q = p
  ·rw [if_pos eq]
   exact (if_pos (show j = j ∧ q = p from ⟨rfl, eq⟩)).symm
  ·rw [if_neg eq, if_neg (fun h => eq h.2)]
 ·obtain ⟨er2, hv2⟩ := h.v j hj
  exact ⟨er2, Bv.to (nx' := if j = d then p + 1 else nx j) (f' := fun q => if j = d ∧ q = p then (if k = 1 then mixR onesW l m else l) else f j q) (h4 (.inl ej) hv2) (if_neg ej).symm (fun q _ => (if_neg (fun h => ej h.1)).symm) (fun _ _ => rfl)⟩
theorem rv_read (h : RowV s D B Q k m false o w c nx f z) (hd : d < D) (hp : p < Q) : s.askR (s.readOk d (c d) p) = 0 ∧ s.readL d (c d) p = flipI (f d p) (z d p) ∧ RowV (s.ask (s.readOk d (c d) p)) D B Q k m false (up1 o) w c nx f z := by
 obtain ⟨er, hv⟩ := h.v d hd
 obtain ⟨h1, h2⟩ := readL_eq h.ct hv hp
 exact ⟨h2, h1, read_ctl h.ct hv hp, fun j hj => by obtain ⟨er2, hv2⟩ := h.v j hj; exact ⟨er2, hv2.ask _⟩⟩
theorem rv_erase (h : RowV s D B Q 0 m false o w c nx f z) (hd : d < D) : s.eraseR d (c d) = 0 ∧ RowV (s.erase d (c d)) D B Q 0 m false (up1 o) w c (fun j => if j = d then 0 else nx j) (fun j q => if j = d then onesW else f j q) z := by
 obtain ⟨er, hv⟩ := h.v d hd
 obtain ⟨h1, h2, h3, h4⟩ := erase_done h.ct hv
 refine ⟨h1, h2, fun j hj => ?_⟩
 by_cases ej : j = d
 ·subst ej
  exact ⟨_, Bv.to (nx' := if j = j then 0 else nx j) (f' := fun q => if j = j then onesW else f j q) h3 (by rw [if_pos rfl, if_neg (by decide)]) (fun q _ => by rw [if_pos rfl, if_neg (by decide)]) (fun _ _ => rfl)⟩
 ·obtain ⟨er2, hv2⟩ := h.v j hj
  exact ⟨er2, Bv.to (nx' := if j = d then 0 else nx j) (f' := fun q => if j = d then onesW else f j q) (h4 (.inl ej) hv2) (if_neg ej).symm (fun q _ => (if_neg ej).symm) (fun _ _ => rfl)⟩
end
section
variable {s : NS} {D B Q p i : Nat} {m : List UInt8} {o w : Int} {c nx : Nat → Nat} {f : Nat → Nat → List UInt8} {z : Nat → Nat → List Int} {bl : List Int} {pl : Nat → List UInt8}
theorem rowP_ok (h : RowV s D B Q 0 m false o w c nx f z) (hbl : ∀ d, d < D → bl.getD d 0 = ((c d : Nat) : Int)) (hp : p < Q) (hpl : ∀ d, d < D → (pl d).length = 48) (hnx : ∀ d, d < D → nx d = p) : ∀ i, i ≤ D →
  RowV (rowP bl p pl s i) D B Q 0 m false (upn i o) w c (fun j => if j < i then p + 1 else nx j) (fun j q => if j < i ∧ q = p then pgE (pl j) else f j q) z ∧ ∀ j, j < i → rowPC bl p pl s j = 0
 | 0, _ => ⟨h.to (fun d _ => (if_neg (Nat.not_lt_zero d)).symm) (fun d q _ _ => (if_neg (fun h => Nat.not_lt_zero d h.1)).symm) (fun _ _ _ _ => rfl), fun j hj => absurd hj (Nat.not_lt_zero j)⟩
 | i + 1, hi => by
  obtain ⟨h1, h2⟩ := rowP_ok h hbl hp hpl hnx i (by omega)
  have e : (if i < i then p + 1 else nx i) = p := by rw [if_neg (by omega)]; exact hnx i (by omega)
  obtain ⟨h3, h4⟩ := rv_prog h1 (show i < D by omega) hp (pgE_length (hpl i (by omega))) e
  have hb := hbl i (by omega)
  refine ⟨?_, fun j hj => ?_⟩
  ·show RowV ((rowP bl p pl s i).prog (i : Nat) (bl.getD i 0) p (pgE (pl i))) _ _ _ _ _ _ _ _ _ _ _ _
   rw [hb]
   refine h4.to (fun d _ => ?_) (fun d q _ _ => ?_) (fun _ _ _ _ => rfl)
   ·by_cases e1 : d = i
    ·rw [if_pos e1, if_pos (by omega)]
    ·rw [if_neg e1]
     by_cases e2 : d < i
     ·rw [if_pos e2, if_pos (by omega)]
     ·rw [if_neg e2, if_neg (by omega)]
   ·by_cases e1 : d = i ∧ q = p
    ·rw [if_pos e1, if_neg (by decide), if_pos (by omega), e1.1]
    ·rw [if_neg e1]
     by_cases e2 : d < i ∧ q = p
     ·rw [if_pos e2, if_pos (by omega)]
     ·rw [if_neg e2, if_neg (by omega)]
  ·rcases Nat.lt_succ_iff_lt_or_eq.1 hj with hj | hj
   ·exact h2 j hj
   ·subst hj
    show (rowP bl p pl s j).progR (j : Nat) (bl.getD j 0) p (pgE (pl j)) = 0
    rw [hb]
    exact h3
theorem rowR_ok (h : RowV s D B Q 0 m false o w c nx f z) (hbl : ∀ d, d < D → bl.getD d 0 = ((c d : Nat) : Int)) (hp : p < Q) : ∀ i, i ≤ D →
  RowV (rowR bl p s i) D B Q 0 m false (upn i o) w c nx f z ∧ ∀ j, j < i → rowRC bl p s j = 0 ∧ rowRL bl p s j = flipI (f j p) (z j p)
 | 0, _ => ⟨h, fun j hj => absurd hj (Nat.not_lt_zero j)⟩
 | i + 1, hi => by
  obtain ⟨h1, h2⟩ := rowR_ok h hbl hp i (by omega)
  obtain ⟨h3, h4, h5⟩ := rv_read h1 (show i < D by omega) hp
  have hb := hbl i (by omega)
  refine ⟨?_, fun j hj => ?_⟩
  ·show RowV ((rowR bl p s i).ask ((rowR bl p s i).readOk (i : Nat) (bl.getD i 0) p)) _ _ _ _ _ _ _ _ _ _ _ _
   rw [hb]
   exact h5
  ·rcases Nat.lt_succ_iff_lt_or_eq.1 hj with hj | hj
   ·exact h2 j hj
   ·subst hj
    show (rowR bl p s j).askR ((rowR bl p s j).readOk (j : Nat) (bl.getD j 0) p) = 0 ∧ (rowR bl p s j).readL (j : Nat) (bl.getD j 0) p = _
    rw [hb]
    exact ⟨h3, h4⟩
theorem rowE_ok (h : RowV s D B Q 0 m false o w c nx f z) (hbl : ∀ d, d < D → bl.getD d 0 = ((c d : Nat) : Int)) : ∀ i, i ≤ D →
  RowV (rowE bl s i) D B Q 0 m false (upn i o) w c (fun j => if j < i then 0 else nx j) (fun j q => if j < i then onesW else f j q) z ∧ ∀ j, j < i → rowEC bl s j = 0
 | 0, _ => ⟨h.to (fun d _ => (if_neg (Nat.not_lt_zero d)).symm) (fun d q _ _ => (if_neg (Nat.not_lt_zero d)).symm) (fun _ _ _ _ => rfl), fun j hj => absurd hj (Nat.not_lt_zero j)⟩
 | i + 1, hi => by
  obtain ⟨h1, h2⟩ := rowE_ok h hbl i (by omega)
  obtain ⟨h3, h4⟩ := rv_erase h1 (show i < D by omega)
  have hb := hbl i (by omega)
  refine ⟨?_, fun j hj => ?_⟩
  ·show RowV ((rowE bl s i).erase (i : Nat) (bl.getD i 0)) _ _ _ _ _ _ _ _ _ _ _ _
   rw [hb]
   refine h4.to (fun d _ => ?_) (fun d q _ _ => ?_) (fun _ _ _ _ => rfl)
   ·by_cases e1 : d = i
    ·rw [if_pos e1, if_pos (by omega)]
    ·rw [if_neg e1]
     by_cases e2 : d < i
     ·rw [if_pos e2, if_pos (by omega)]
     ·rw [if_neg e2, if_neg (by omega)]
   ·by_cases e1 : d = i
    ·rw [if_pos e1, if_pos (by omega)]
    ·rw [if_neg e1]
     by_cases e2 : d < i
     ·rw [if_pos e2, if_pos (by omega)]
     ·rw [if_neg e2, if_neg (by omega)]
  ·rcases Nat.lt_succ_iff_lt_or_eq.1 hj with hj | hj
   ·exact h2 j hj
   ·subst hj
    show (rowE bl s j).eraseR (j : Nat) (bl.getD j 0) = 0
    rw [hb]
    exact h3
theorem write_ok (h : RowV s D B Q 0 m false o w c nx f z) (hn : bl.length = D) (hbl : ∀ d, d < D → bl.getD d 0 = ((c d : Nat) : Int)) (hp : p < Q) (hpl : ∀ d, d < D → (pl d).length = 48) (hnx : ∀ d, d < D → nx d = p) :
  rowWC s bl p pl D = 0 ∧ RowV (rowWS s bl p pl D) D B Q 0 m false (upn D o) w c (fun _ => p + 1) (fun j q => if q = p then pgE (pl j) else f j q) z := by
 obtain ⟨h1, h2⟩ := rowP_ok h hbl hp hpl hnx D (Nat.le_refl _)
 obtain ⟨e1, e2⟩ := do_all (g := s.gD) (n := bl.length) (T := rowP bl p pl s) (C := rowPC bl p pl s) (by rw [hn, h.ct.gD]) (by rw [hn]; exact h2)
 unfold rowWC rowWS
 rw [if_pos hn.symm, if_pos hn.symm, ← e1, ← e2, hn]
 exact ⟨rfl, h1.to (fun d hd => if_pos hd) (fun d q hd _ => by
  by_cases e : q = p
  ·rw [if_pos ⟨hd, e⟩, if_pos e]
  ·rw [if_neg (fun h => e h.2), if_neg e]) (fun _ _ _ _ => rfl)⟩
theorem write_shape {n : Nat} (h : ¬ (n = bl.length ∧ bl.length = s.gD)) (p : Int) (pl : Nat → List UInt8) : rowWC s bl p pl n = 1 ∧ rowWS s bl p pl n = s := by
 unfold rowWC rowWS
 by_cases e : n = bl.length
 ·have hD : ¬ bl.length = s.gD := fun e2 => h ⟨e, e2⟩
  obtain ⟨e1, e2⟩ := do_no (T := rowP bl p pl s) (C := rowPC bl p pl s) hD
  rw [if_pos e, if_pos e, ← e1, ← e2]
  exact ⟨rfl, rfl⟩
 ·rw [if_neg e, if_neg e]
  exact ⟨rfl, rfl⟩
theorem reads_ok (h : RowV s D B Q 0 m false o w c nx f z) (hn : bl.length = D) (hbl : ∀ d, d < D → bl.getD d 0 = ((c d : Nat) : Int)) (hp : p < Q) :
  rowDoC s.gD bl.length (rowRC bl p s) = 0 ∧ RowV (rowDo s.gD bl.length (rowR bl p s) (rowRC bl p s)) D B Q 0 m false (upn D o) w c nx f z ∧ ∀ j, j < D → rowRL bl p s j = flipI (f j p) (z j p) := by
 obtain ⟨h1, h2⟩ := rowR_ok h hbl hp D (Nat.le_refl _)
 obtain ⟨e1, e2⟩ := do_all (g := s.gD) (n := bl.length) (T := rowR bl p s) (C := rowRC bl p s) (by rw [hn, h.ct.gD]) (by rw [hn]; exact fun j hj => (h2 j hj).1)
 rw [← e1, ← e2, hn]
 exact ⟨rfl, h1, fun j hj => (h2 j hj).2⟩
theorem erases_ok (h : RowV s D B Q 0 m false o w c nx f z) (hn : bl.length = D) (hbl : ∀ d, d < D → bl.getD d 0 = ((c d : Nat) : Int)) :
  rowDoC s.gD bl.length (rowEC bl s) = 0 ∧ RowV (rowDo s.gD bl.length (rowE bl s) (rowEC bl s)) D B Q 0 m false (upn D o) w c (fun _ => 0) (fun _ _ => onesW) z := by
 obtain ⟨h1, h2⟩ := rowE_ok h hbl D (Nat.le_refl _)
 obtain ⟨e1, e2⟩ := do_all (g := s.gD) (n := bl.length) (T := rowE bl s) (C := rowEC bl s) (by rw [hn, h.ct.gD]) (by rw [hn]; exact h2)
 rw [← e1, ← e2, hn]
 exact ⟨rfl, h1.to (fun d hd => if_pos hd) (fun d q hd _ => if_pos hd) (fun _ _ _ _ => rfl)⟩
theorem shape_no {T : Nat → NS} {C : Nat → Nat} {g n : Nat} (h : ¬ n = g) : rowDoC g n C = 1 ∧ rowDo g n T C = T 0 := by
 obtain ⟨e1, e2⟩ := do_no (T := T) (C := C) h
 exact ⟨e2.symm, e1.symm⟩
end
def plD (la : List UInt8) (n i : Nat) : List UInt8 := ((dataL la (48 * n)).drop (48 * i)).take 48
theorem plD_len (la : List UInt8) {n i : Nat} (h : i < n) : (plD la n i).length = 48 := by
 unfold plD
 rw [List.length_take, List.length_drop, dataL_length]
 omega
theorem plD_le (la : List UInt8) (n i : Nat) : (plD la n i).length ≤ 1048576 := by
 unfold plD
 rw [List.length_take]
 omega
theorem rep_at {n i : Nat} : (List.replicate n (0 : Int)).getD i 0 = 0 := by
 rw [List.getD_eq_getElem?_getD, List.getElem?_replicate]
 split <;> rfl
end Go.Proofs.YtgalehapmdabeaaF
namespace Go.Proofs.YtgalehapmdabeaaF
open Go Go.Shelf Go.Proofs.YtgalehapmdabeaaS
def Nodef (p : World → Prop) : Prop := ∀ w w', (∀ k, k < w.heap.size → w'.heap[k]? = w.heap[k]? ∨ ∃ q, w.heap[k]? = some (.deferred q)) → p w → p w'
end Go.Proofs.YtgalehapmdabeaaF
namespace Go.Proofs.YtgalehapmdabeaaF
open Go Go.Shelf Go.Proofs.YtgalehapmdabeaaS Ram
set_option maxRecDepth 20000 in
set_option maxHeartbeats 1000000 in
theorem placed_ok (bl : List Int) (ub : Value) (W : World) (hb : Ps No (Seq kI bl ub) W) :
    CW Try.prog 85 #[ub] W (Rt (fun u w => ∃ x, u = .func (.func 106) #[] #[ptr x 0] ∧ W.heap.size ≤ x ∧ Arr 23 x [ub] w ∧ Only No W w)) := by
 have oW : Only No W W := Only.refl _ _
 refine enter (al := [ub]) (k := 3) (l := [ub, undef, undef, undef]) Try.func85 rfl Try.ntmps85 rfl rfl ?_
 refine wpIn_seq (plain ?_)
 refine wO (d_box rfl (Seq.cells hb)) ?_
 rintro _ w11 ⟨x, rfl, g12, a13, o14⟩
 have g_oW_x : W.heap.size ≤ x := Nat.le_trans oW.size g12
 replace hb := hb.new o14 g12
 replace oW := oW.tail0 o14
 refine wI (d_assign rfl) ?_
 refine wpL.done (then_n (wpIn_seq (plain ?_)))
 refine wI (d_funcL (yl := [.tmp 1]) (ys := [(ptr x 0)]) rfl) ?_
 refine wI (d_assign rfl) ?_
 refine wpL.done (then_n ?_)
 refine wpIn_ret ?_
 refine leave0 (v := (Value.func (.func 106) #[] #[(ptr x 0)])) (res1 Try.results85 rfl) ?_
 exact ⟨x, rfl, g_oW_x, a13, oW⟩
set_option maxRecDepth 20000 in
set_option maxHeartbeats 1000000 in
theorem placed1_ok {O X : Nat → Prop} {w0 : World} (bl : List Int) (ub : Value) (xb l : Nat) (J Jx : List (Nat × Int) → World → Prop) (W : World) (hxb : Arr 23 xb [ub] W) (kxb : Kp O w0.heap.size xb) (hbl : Ps (OrN X w0.heap.size) (Seq kI bl ub) W) (hX : ∀ k, O k → X k) (gb : bl.length ≤ 1000) (SJ : ∀ pre W W', J pre W → Only No W W' → J pre W') (hyy : ∀ pre k, pre ++ [k] <+: plL bl → ∀ W1, J pre W1 → YieldAt Fence.wide 0 Try.prog l #[eN k.1, eI k.2] W1 fun e W' => ∃ u, e = .returned u ∧ YR J Jx (Kp O w0.heap.size) (pre ++ [k]) W1 u W') (hJ : J [] W) :
    CW Try.prog 106 #[(Value.func (.yield l) #[] #[]), (ptr xb 0)] W (Rt (fun _ W' => J (plL bl) W' ∨ ∃ pre, pre <+: plL bl ∧ Jx pre W')) := by
 refine enter (al := [(Value.func (.yield l) #[] #[]), (ptr xb 0)]) (k := 16) (l := ([(Value.func (.yield l) #[] #[]), (ptr xb 0)] ++ (us 16))) Try.func106 rfl Try.ntmps106 rfl rfl ?_
 refine wpIn_seq (plain ?_)
 refine wI (d_load (v := ub) ⟨_, Try.underlying23, rfl⟩ rfl hxb rfl) ?_
 refine wI (d_lenS rfl Try.underlying23 rfl hbl) ?_
 refine wI (d_move rfl) ?_
 refine wpL.done (then_n (wpIn_block ?_))
 refine loop2 (fun (i : (Nat)) => fun (z : Nat → Value) => (([(Value.func (.yield l) #[] #[]), (ptr xb 0), undef, (z 3), (z 4), ub, (eN bl.length), (eN i)] ++ (zs z 8 10)) : List Value)) (fun (i : (Nat)) => fun (w_ : World) => (i ≤ bl.length) ∧ (J (plTo bl i) w_) ∧ Arr 23 xb [ub] w_ ∧ Ps (OrN X w0.heap.size) (Seq kI bl ub) w_) (fun (i : (Nat)) => bl.length - i) 0 (by kernel_rfl) ?_ ?_
 ·
  refine ⟨?_, ?_, ?_, ?_⟩
  ·
   exact Nat.zero_le _
  ·
   exact hJ
  ·
   exact hxb
  ·
   exact hbl
 rintro i z w12 ⟨hi, hJ, hxb, hbl⟩
 (try dsimp only)
 refine wpIn_seq (plain ?_)
 refine wI (n_lss (a := i) (b := bl.length) rfl rfl rfl) ?_
 refine wpL.done (then_n (wpIn_seq ?_))
 refine cond_if rfl (fun c1_ => ?_) (fun c1_ => ?_)
 ·
  refine wpIn_skip (then_n (wpIn_seq (wpIn_block (wpIn_seq (plain ?_)))))
  refine wI (d_move rfl) ?_
  refine wI (d_ix (i := i) (xs := bl) Try.underlying23 s_ti3 rfl hbl (show _ = Value.int _ (i : Int) from rfl) (by first | omega | (simp; done) | (simp; omega))) ?_
  refine wI (d_ldx (i := i) (xs := bl) (enc := eI) (v := (bl.getD i 0)) ⟨_, Try.underlying3, rfl⟩ rfl hbl (g_at (by first | omega | (simp; done) | (simp; omega)))) ?_
  refine wI (d_assign rfl) ?_
  refine wI (d_assign rfl) ?_
  refine wF ([(Value.func (.yield l) #[] #[]), (ptr xb 0), undef, (eN i), (eI (bl.getD i 0)), ub, (eN bl.length), (eN i), (Value.bool (decide (i < bl.length))), (eN i), (ixp ub i), (eI (bl.getD i 0))] ++ (zs z 12 6)) ?_
  refine wpL.done (then_n (wpIn_seq (plain ?_)))
  refine wI (d_move rfl) ?_
  refine wI (d_move rfl) ?_
  refine wI (d_move rfl) ?_
  refine wO (d_yield (xl := [.tmp 13, .tmp 14]) (al := [(eN i), (eI (bl.getD i 0))]) rfl rfl (hyy _ _ (pl_pre c1_) _ hJ)) ?_
  rintro _ w13 ⟨t, rfl, hT, hF⟩
  refine wI (d_not rfl rfl) ?_
  refine wpL.done (then_n ?_)
  refine cond_b rfl (fun c0_ => ?_) (fun c0_ => ?_)
  ·
   refine wpIn_ret ?_
   refine inb_r (then_r (then_r (inb_r ?_)))
   refine leave0 (v := (Value.tuple #[])) (res0 Try.results106) ?_
   exact .inr ⟨_, pl_pre c1_, hF (by simpa using c0_)⟩
  obtain ⟨hJ3, oY⟩ := hT (by simpa using c0_)
  rw [plTo_next] at hJ3
  replace hxb := hxb.step oY (fun h => h kxb)
  replace hbl := hbl.yield hX oY
  refine wpIn_skip ?_
  refine inb_n (then_n ?_)
  refine plain ?_
  refine wI (n_add (a := i) (b := 1) rfl rfl (by omega)) ?_
  refine wF [(Value.func (.yield l) #[] #[]), (ptr xb 0), undef, (eN i), (eI (bl.getD i 0)), ub, (eN bl.length), (eN i), (Value.bool (decide (i < bl.length))), (eN i), (ixp ub i), (eI (bl.getD i 0)), (Value.func (.yield l) #[] #[]), (eN i), (eI (bl.getD i 0)), (Value.bool t), (Value.bool (!t)), (eN (i + 1))] ?_
  refine wI (d_move rfl) ?_
  refine wpL.done (then_n ?_)
  refine ⟨_, (i + 1), rfl, (by kernel_rfl), ⟨?_, ?_, ?_, ?_⟩, ?_⟩
  ·
   (try dsimp only)
   all_goals (omega)
  ·
   exact hJ3
  ·
   exact hxb
  ·
   exact hbl
  ·
   (try dsimp only)
   all_goals (omega)
 refine wpIn_exit ?_
 refine then_x (then_x (inb_e ?_))
 refine to_ret ?_
 refine leave0 (v := (Value.tuple #[])) (res0 Try.results106) ?_
 exact .inl (by unfold plL; rw [show i = bl.length by omega] at hJ; exact hJ)
theorem iter_placed {O X : Nat → Prop} {w0 : World} (bl : List Int) (ub : Value) (xb : Nat) (hxb : Arr 23 xb [ub] w0) (ox : ¬ O xb) (hbl : Ps X (Seq kI bl ub) w0) (hX : ∀ k, O k → X k) (gb : bl.length ≤ 1000) : Iter Try.prog 106 [ptr xb 0].toArray (fun k => [eN k.1, eI k.2].toArray) No (Kp O w0.heap.size) (plL bl) w0 :=
  iter_of (encs := fun k => [eN k.1, eI k.2]) fun l J Jx W hO SJ SJx hyy hJ => placed1_ok bl ub xb l J Jx W (hxb.step hO (fun h => h ⟨hxb.lt, ox⟩)) ⟨hxb.lt, ox⟩ (hbl.kp hX hO) hX gb SJ hyy hJ
set_option maxRecDepth 20000 in
set_option maxHeartbeats 1000000 in
theorem write1_ok (L : NL) (s : NS) {X : Nat → Prop} (W : World) (hN : Nd L s X W) (hX : ∀ k, X k → k < W.heap.size) (d n : Nat) (b : Int) (p : Int) (vs : List Value) (pl : Nat → List UInt8) (ul : Value) (ca cb cc : Nat) (hca : Arr 88 ca [(Value.func (.func 53) #[(ptr L.bN 0)] #[])] W) (hX_ca : X ca) (hcb : Arr 3 cb [(eI p)] W) (hX_cb : X cb) (hcc : Arr 29 cc [ul] W) (hX_cc : X cc) (n_ca_cb : ca ≠ cb) (n_ca_cc : ca ≠ cc) (n_cb_cc : cb ≠ cc) (hul : Ps (Ors L.S No) (Seq (kS eV) vs ul) W) (hfa : Ps (Ors L.S No) (Fam kB n pl vs) W) (hvs : vs.length = n) (gpl : ∀ j, (pl j).length ≤ 1048576) (hd : d < n) :
    CW Try.prog 55 #[(eN d), (eI b), (ptr ca 0), (ptr cb 0), (ptr cc 0)] W (Rt (fun u w => u = eN (s.progR (d : Int) b p (pgE (pl d))) ∧ Nd L (s.prog (d : Int) b p (pgE (pl d))) X w ∧ Only L.S W w)) := by
 have oW : Only L.S W W := Only.refl _ _
 refine enter (al := [(eN d), (eI b), (ptr ca 0), (ptr cb 0), (ptr cc 0)]) (k := 13) (l := ([(eN d), (eI b), (ptr ca 0), (ptr cb 0), (ptr cc 0)] ++ (us 13))) Try.func55 rfl Try.ntmps55 rfl rfl ?_
 refine wpIn_seq (plain ?_)
 refine wI (d_assign rfl) ?_
 refine wpL.done (then_n (wpIn_seq ?_))
 have hrw_ := fam_at hfa hd
 have gpd_ := gpl d
 refine wp_eq (l' := ([(eN d), (eI b), (ptr ca 0), (ptr cb 0), (ptr cc 0), undef, undef, (eN 0)] ++ (us 10))) rfl ?_
 refine drawnT (O := (Ors L.S No)) (n := 11) 9 [0, 0, 0, 0, 0, 0, 48, 112, 240, 511, 1023] [(0, 8), (1, 9), (2, 10), (3, 11), (4, 12), (5, 13), (6, 14), (7, 15), (8, 16), (9, 17), (10, 7)] [(0, 8), (1, 9), (2, 10), (3, 11), (4, 12), (5, 13), (6, 14), (7, 15), (8, 16)] [0, 1, 2, 3, 4, 5, 6, 7, 8] [] (fun i_ => ([RF.is (Ors L.S No) (Value.func (.func 53) #[(ptr L.bN 0)] #[]), RF.is (Ors L.S No) (eN d), RF.is (Ors L.S No) (eI b), RF.is (Ors L.S No) (eI p), RF.is (Ors L.S No) ul, RF.is (Ors L.S No) (eN d), RF.is (Ors L.S No) (ixp ul d), RF.is (Ors L.S No) (vs.getD d undef), RF.ps (Ors L.S No) (Ors L.S (Old W.heap.size)) (Seq kB (pgE (pl d))) (ors_mono no_any)] : List (RF (Ors L.S No))).getD i_ (RF.any (Ors L.S No))) (fun _ w_ => Arr 88 ca [(Value.func (.func 53) #[(ptr L.bN 0)] #[])] w_ ∧ Arr 3 cb [(eI p)] w_ ∧ Arr 29 cc [ul] w_ ∧ Nd L s X w_) (fun v11 => [(eN d), (eI b), (ptr ca 0), (ptr cb 0), (ptr cc 0), undef, undef, (v11 10), (v11 0), (v11 1), (v11 2), (v11 3), (v11 4), (v11 5), (v11 6), (v11 7), (v11 8), (v11 9)]) (fun v11 => [(eN d), (eI b), (ptr ca 0), (ptr cb 0), (ptr cc 0), undef, undef, (eN 0), (v11 0), (v11 1), (v11 2), (v11 3), (v11 4), (v11 5), (v11 6), (v11 7), (v11 8), undef]) s_mx (by kernel_rfl) rfl (by decide) (by rfl) (by kernel_rfl) (by kernel_rfl) (by kernel_rfl) (by rfl) (fun v_ => by kernel_rfl) (fun v_ => by kernel_rfl) (fun _ => fun w_ w2_ h ho => by obtain ⟨r_hca, r_hcb, r_hcc, r_hN⟩ := h; exact ⟨r_hca.step0 ho, r_hcb.step0 ho, r_hcc.step0 ho, r_hN.step0 ho⟩) ⟨hca, hcb, hcc, hN⟩ ?_ ?_ ?_
 ·
  refine ls_cons ?_ ?_
  ·
   intro v11 lo hi w_ k_ hO hd _ _ hk_ _ hR hold
   obtain ⟨r_hca, r_hcb, r_hcc, r_hN⟩ := hR
   clear hd hold
   refine ⟨_, rfl, gd rfl ?_⟩
   exact Does.is (d_load (v := (Value.func (.func 53) #[(ptr L.bN 0)] #[])) ⟨_, Try.underlying88, rfl⟩ rfl r_hca rfl)
  refine ls_cons ?_ ?_
  ·
   intro v11 lo hi w_ k_ hO hd _ _ hk_ _ hR hold
   obtain ⟨r_hca, r_hcb, r_hcc, r_hN⟩ := hR
   clear hd hold
   refine ⟨_, rfl, gd rfl ?_⟩
   exact Does.is (d_move rfl)
  refine ls_cons ?_ ?_
  ·
   intro v11 lo hi w_ k_ hO hd _ _ hk_ _ hR hold
   obtain ⟨r_hca, r_hcb, r_hcc, r_hN⟩ := hR
   clear hd hold
   refine ⟨_, rfl, gd rfl ?_⟩
   exact Does.is (d_move rfl)
  refine ls_cons ?_ ?_
  ·
   intro v11 lo hi w_ k_ hO hd _ _ hk_ _ hR hold
   obtain ⟨r_hca, r_hcb, r_hcc, r_hN⟩ := hR
   clear hd hold
   refine ⟨_, rfl, gd rfl ?_⟩
   exact Does.is (d_load (v := (eI p)) ⟨_, Try.underlying3, rfl⟩ rfl r_hcb rfl)
  refine ls_cons ?_ ?_
  ·
   intro v11 lo hi w_ k_ hO hd _ _ hk_ _ hR hold
   obtain ⟨r_hca, r_hcb, r_hcc, r_hN⟩ := hR
   clear hd hold
   refine ⟨_, rfl, gd rfl ?_⟩
   exact Does.is (d_load (v := ul) ⟨_, Try.underlying29, rfl⟩ rfl r_hcc rfl)
  refine ls_cons ?_ ?_
  ·
   intro v11 lo hi w_ k_ hO hd _ _ hk_ _ hR hold
   obtain ⟨r_hca, r_hcb, r_hcc, r_hN⟩ := hR
   clear hd hold
   refine ⟨_, rfl, gd rfl ?_⟩
   exact Does.is (d_move rfl)
  refine ls_cons ?_ ?_
  ·
   intro v11 lo hi w_ k_ hO hd _ _ hk_ _ hR hold
   obtain ⟨r_hca, r_hcb, r_hcc, r_hN⟩ := hR
   have e4 : v11 4 = ul := hd 4 (by kernel_rfl)
   have e5 : v11 5 = (eN d) := hd 5 (by kernel_rfl)
   clear hd hold
   refine ⟨_, rfl, gd rfl ?_⟩
   exact Does.is (d_ix (i := d) (xs := vs) Try.underlying29 s_ti22 e4 (hul.step hO (ors_mono no_any)) (show _ = Value.int _ (d : Int) from e5) (by first | omega | (simp; done) | (simp; omega)))
  refine ls_cons ?_ ?_
  ·
   intro v11 lo hi w_ k_ hO hd _ _ hk_ _ hR hold
   obtain ⟨r_hca, r_hcb, r_hcc, r_hN⟩ := hR
   have e6 : v11 6 = (ixp ul d) := hd 6 (by kernel_rfl)
   clear hd hold
   refine ⟨_, rfl, gd rfl ?_⟩
   exact Does.is (d_ldx (i := d) (xs := vs) (enc := eV) (v := (vs.getD d undef)) ⟨_, Try.underlying22, rfl⟩ e6 (hul.step hO (ors_mono no_any)) (g_at (by first | omega | (simp; done) | (simp; omega))))
  refine ls_cons ?_ ?_
  ·
   intro v11 lo hi w_ k_ hO hd _ _ hk_ _ hR hold
   obtain ⟨r_hca, r_hcb, r_hcc, r_hN⟩ := hR
   have e7 : v11 7 = (vs.getD d undef) := hd 7 (by kernel_rfl)
   clear hd hold
   refine ⟨_, rfl, gd rfl ?_⟩
   refine Does.mono (R := ROw 5 eB (pgE (pl d)) w_) ?_ (fun u w' h => ⟨(h.ps).1.less (ors_old r_hN.lt (old_old (Nat.le_trans oW.size hO.size))), (h.ps).2⟩)
   exact d_call (xl := [.tmp 15]) (al := [(vs.getD d undef)]) Try.func16 (by kernel_rfl) rfl (show ([(v11 7)] : List Value) = [(vs.getD d undef)] from by rw [e7]) rfl (pageEncode_ok (pl d) (vs.getD d undef) _ (Ps.no (hrw_.step hO (ors_mono no_any))) (by first | omega | (simp; done) | (simp; omega)))
  exact ls_nil
 ·
  exact ms_nil
 intro v11 lo_ hi_ w12 o13 hd iv_ hR
 have e0 : v11 0 = (Value.func (.func 53) #[(ptr L.bN 0)] #[]) := hd 0 (by decide)
 have e1 : v11 1 = (eN d) := hd 1 (by decide)
 have e2 : v11 2 = (eI b) := hd 2 (by decide)
 have e3 : v11 3 = (eI p) := hd 3 (by decide)
 have e4 : v11 4 = ul := hd 4 (by decide)
 have e5 : v11 5 = (eN d) := hd 5 (by decide)
 have e6 : v11 6 = (ixp ul d) := hd 6 (by decide)
 have e7 : v11 7 = (vs.getD d undef) := hd 7 (by decide)
 have f_v11_8 : Ps (Ors L.S (Old W.heap.size)) (Seq kB (pgE (pl d)) (v11 8)) w12 := hd 8 (by decide)
 clear hd iv_ lo_ hi_
 refine wpL.flat [(eN d), (eI b), (ptr ca 0), (ptr cb 0), (ptr cc 0), undef, undef, (eN 0), (Value.func (.func 53) #[(ptr L.bN 0)] #[]), (eN d), (eI b), (eI p), ul, (eN d), (ixp ul d), (vs.getD d undef), (v11 8), undef] (by rw [e0, e1, e2, e3, e4, e5, e6, e7] <;> rfl) ?_
 clear e0 e1 e2 e3 e4 e5 e6 e7
 replace hul := hul.step o13 (ors_mono no_any)
 replace hfa := hfa.step o13 (ors_mono no_any)
 replace hrw_ := hrw_.step o13 (ors_mono no_any)
 obtain ⟨xr_hca, xr_hcb, xr_hcc, xr_hN⟩ := hR
 replace hca : Arr 88 ca [(Value.func (.func 53) #[(ptr L.bN 0)] #[])] w12 := xr_hca
 replace hcb : Arr 3 cb [(eI p)] w12 := xr_hcb
 replace hcc : Arr 29 cc [ul] w12 := xr_hcc
 replace hN := xr_hN
 clear xr_hca xr_hcb xr_hcc xr_hN
 replace oW := oW.tail o13 (tl_sin (fun k h => h) tl_no)
 refine wO (d_callB (xl := [.tmp 9, .tmp 10, .tmp 11, .tmp 16]) (al := [(eN d), (eI b), (eI p), (v11 8)]) rfl Try.func53 (by kernel_rfl) rfl rfl rfl (prog_ok L s _ hN (d : Int) b p (pgE (pl d)) (v11 8) (fun k t => Nat.lt_of_lt_of_le (hX k t) oW.size) (f_v11_8.less (os_of sub1)) (by have := pgE_len (pl d); first | omega | (simp; done) | (simp; omega)))) ?_
 rintro _ w14 ⟨rfl, a16, o15⟩
 replace hca := hca.step o15 (hN.dis _ hX_ca)
 replace hcb := hcb.step o15 (hN.dis _ hX_cb)
 replace hcc := hcc.step o15 (hN.dis _ hX_cc)
 replace hul := hul.step o15 sub1
 replace hfa := hfa.step o15 sub1
 replace hrw_ := hrw_.step o15 sub1
 replace f_v11_8 := f_v11_8.step o15 sub1
 replace oW := oW.tail o15 (fun k _ e => (fun k h => h) k e)
 replace hN := a16
 refine wI (d_assign rfl) ?_
 refine wF [(eN d), (eI b), (ptr ca 0), (ptr cb 0), (ptr cc 0), undef, undef, (eN (s.progR (d : Int) b p (pgE (pl d)))), (Value.func (.func 53) #[(ptr L.bN 0)] #[]), (eN d), (eI b), (eI p), ul, (eN d), (ixp ul d), (vs.getD d undef), (v11 8), (eN (s.progR (d : Int) b p (pgE (pl d))))] ?_
 refine wpL.done (then_n ?_)
 refine wpIn_ret ?_
 refine leave0 (v := (eN (s.progR (d : Int) b p (pgE (pl d))))) (res1 Try.results55 rfl) ?_
 exact ⟨rfl, hN, oW⟩
set_option maxRecDepth 20000 in
set_option maxHeartbeats 1000000 in
theorem eachW_ok (L : NL) (s : NS) {X : Nat → Prop} (W : World) (hN : Nd L s X W) (hX : ∀ k, X k → k < W.heap.size) (bl : List Int) (ub : Value) (hb : Ps (Ors L.S No) (Seq kI bl ub) W) (gb : bl.length ≤ 1000) (n : Nat) (hn : bl.length ≤ n) (p : Int) (vs : List Value) (pl : Nat → List UInt8) (ul : Value) (ca cb cc : Nat) (hca : Arr 88 ca [(Value.func (.func 53) #[(ptr L.bN 0)] #[])] W) (hX_ca : X ca) (hcb : Arr 3 cb [(eI p)] W) (hX_cb : X cb) (hcc : Arr 29 cc [ul] W) (hX_cc : X cc) (n_ca_cb : ca ≠ cb) (n_ca_cc : ca ≠ cc) (n_cb_cc : cb ≠ cc) (hul : Ps (Ors L.S No) (Seq (kS eV) vs ul) W) (hfa : Ps (Ors L.S No) (Fam kB n pl vs) W) (hvs : vs.length = n) (gpl : ∀ j, (pl j).length ≤ 1048576) :
    CW Try.prog 54 #[(ptr L.bN 0), ub, (Value.func (.func 55) #[] #[(ptr ca 0), (ptr cb 0), (ptr cc 0)])] W (Rt (fun u w => u = eN (rowDoC s.gD bl.length (rowPC bl p pl s)) ∧ Nd L (rowDo s.gD bl.length (rowP bl p pl s) (rowPC bl p pl s)) X w ∧ Only L.S W w)) := by
 have oW : Only L.S W W := Only.refl _ _
 refine enter (al := [(ptr L.bN 0), ub, (Value.func (.func 55) #[] #[(ptr ca 0), (ptr cb 0), (ptr cc 0)])]) (k := 24) (l := ([(ptr L.bN 0), ub, (Value.func (.func 55) #[] #[(ptr ca 0), (ptr cb 0), (ptr cc 0)])] ++ (us 24))) Try.func54 rfl Try.ntmps54 rfl rfl ?_
 refine wpIn_seq (plain ?_)
 refine wO (d_box rfl rfl) ?_
 rintro _ w11 ⟨e5, rfl, g12, a13, o14⟩
 have n_ca_e5 : ca ≠ e5 := hca.ne g12
 have n_cb_e5 : cb ≠ e5 := hcb.ne g12
 have n_cc_e5 : cc ≠ e5 := hcc.ne g12
 have g_oW_e5 : W.heap.size ≤ e5 := Nat.le_trans oW.size g12
 replace hN := hN.new o14 g12
 replace hul := hul.new o14 g12
 replace hfa := hfa.new o14 g12
 replace hb := hb.new o14 g12
 replace hca := hca.step0 o14
 replace hcb := hcb.step0 o14
 replace hcc := hcc.step0 o14
 replace oW := oW.tail0 o14
 refine wO (d_alloc s_ti45 rfl) ?_
 rintro _ w15 ⟨e6, rfl, g16, a17, o18⟩
 have n_ca_e6 : ca ≠ e6 := hca.ne g16
 have n_cb_e6 : cb ≠ e6 := hcb.ne g16
 have n_cc_e6 : cc ≠ e6 := hcc.ne g16
 have n_e5_e6 : e5 ≠ e6 := a13.ne g16
 have g_oW_e6 : W.heap.size ≤ e6 := Nat.le_trans oW.size g16
 replace hN := hN.new o18 g16
 replace hul := hul.new o18 g16
 replace hfa := hfa.new o18 g16
 replace hb := hb.new o18 g16
 replace hca := hca.step0 o18
 replace hcb := hcb.step0 o18
 replace hcc := hcc.step0 o18
 replace a13 := a13.step0 o18
 replace oW := oW.tail0 o18
 refine wpL.done (then_n (wpIn_seq (wpIn_seq ?_)))
 by_cases k0 : bl.length = s.gD
 ·
  refine plain ?_
  refine wI (d_move rfl) ?_
  refine wI (d_lenS rfl Try.underlying23 rfl hb) ?_
  refine wI (d_move rfl) ?_
  refine wO (d_call (xl := [.tmp 12]) (al := [(ptr L.bN 0)]) Try.func84 (by kernel_rfl) rfl rfl rfl (geometry_ok L s _ hN)) ?_
  rintro _ w19 ⟨rfl, o20⟩
  replace hN := hN.step0 o20
  replace hul := hul.step0 o20
  replace hfa := hfa.step0 o20
  replace hb := hb.step0 o20
  replace hca := hca.step0 o20
  replace hcb := hcb.step0 o20
  replace hcc := hcc.step0 o20
  replace a13 := a13.step0 o20
  replace a17 := a17.step0 o20
  replace oW := oW.tail0 o20
  refine wF ([(ptr L.bN 0), ub, (Value.func (.func 55) #[] #[(ptr ca 0), (ptr cb 0), (ptr cc 0)]), undef, undef, (ptr e5 0), (ptr e6 0), undef, undef, undef, ub, (eN bl.length), (ptr L.bN 0), (Value.agg #[(eN s.gD), (eN s.gB), (eN s.gP)])] ++ (us 13)) ?_
  refine wI (d_field (v := (eN s.gD)) Try.underlying49 rfl ⟨_, Try.underlying3, rfl⟩ rfl rfl) ?_
  refine wI (n_neq (a := bl.length) (b := s.gD) rfl rfl (by rw [decide_eq_true k0] <;> rfl)) ?_
  refine wpL.done (then_n ?_)
  refine cond_f rfl ?_
  refine wpIn_skip (then_n (wpIn_seq (wpIn_seq (plain ?_))))
  refine wI (d_move rfl) ?_
  refine wO (d_call (xl := [.tmp 16]) (al := [ub]) Try.func85 (by kernel_rfl) rfl rfl rfl (placed_ok bl ub _ (Ps.no hb))) ?_
  rintro _ w21 ⟨b23, rfl, g24, a25, o22⟩
  have n_ca_b23 : ca ≠ b23 := hca.ne g24
  have n_cb_b23 : cb ≠ b23 := hcb.ne g24
  have n_cc_b23 : cc ≠ b23 := hcc.ne g24
  have n_e5_b23 : e5 ≠ b23 := a13.ne g24
  have n_e6_b23 : e6 ≠ b23 := a17.ne g24
  have g_oW_b23 : W.heap.size ≤ b23 := Nat.le_trans oW.size g24
  replace hN := hN.new o22 g24
  replace hul := hul.new o22 g24
  replace hfa := hfa.new o22 g24
  replace hb := hb.new o22 g24
  replace hca := hca.step0 o22
  replace hcb := hcb.step0 o22
  replace hcc := hcc.step0 o22
  replace a13 := a13.step0 o22
  replace a17 := a17.step0 o22
  replace oW := oW.tail0 o22
  refine wpL.done (then_n (wpIn_block ?_))
  refine wp_eq (l' := ([(ptr L.bN 0), ub, (Value.func (.func 55) #[] #[(ptr ca 0), (ptr cb 0), (ptr cc 0)]), undef, undef, (ptr e5 0), (ptr e6 0), undef, undef, undef, ub, (eN bl.length), (ptr L.bN 0), (Value.agg #[(eN s.gD), (eN s.gB), (eN s.gP)]), (eN s.gD), (Value.bool false), ub, (Value.func (.func 106) #[] #[(ptr b23 0)])] ++ (us 9))) rfl ?_
  have h_lt_ca := hca.lt
  have h_lt_cb := hcb.lt
  have h_lt_cc := hcc.lt
  have h_lt_e5 := a13.lt
  have h_lt_e6 := a17.lt
  have h_lt_b23 := a25.lt
  have tq_oW := oW.size
  have nO_b23 : ¬ (Or1 e6 (Or1 e5 (Ors L.S No))) b23 := (not_or1 (Ne.symm n_e6_b23) (not_or1 (Ne.symm n_e5_b23) (not_ors (hN.dis _ in1) not_no)))
  obtain ⟨D_, hD_⟩ : ∃ D_, w21.heap.size = D_ := ⟨_, rfl⟩
  obtain ⟨L_, hL_⟩ : ∃ L_, w21.heap.size + 1 = L_ := ⟨_, rfl⟩
  refine range_ (encs := (fun k => [eN k.1, eI k.2])) (Pv := No) (O := (Or1 e6 (Or1 e5 (Ors L.S No)))) (xs := (plL bl)) (D := D_) (L := L_) (rs := []) hD_ hL_ rfl Try.func106 (by kernel_rfl) rfl (iter_placed bl ub b23 a25 nO_b23 hb (or1_skip (or1_mono (or1_mono (ors_mono no_any)))) (by first | omega | (simp; done) | (simp; omega))) (fun k t => t.elim) (fun _ => rfl) (lt_or1 h_lt_e6 (lt_or1 h_lt_e5 (lt_ors hN.lt lt_no))) (fun (pre : List (Nat × Int)) (w_ : World) => (∀ j, j < pre.length → rowPC bl p pl s j = 0) ∧ Only (Or1 e6 (Or1 e5 (Ors L.S No))) w21 w_ ∧ Arr 88 ca [(Value.func (.func 53) #[(ptr L.bN 0)] #[])] w_ ∧ Arr 3 cb [(eI p)] w_ ∧ Arr 29 cc [ul] w_ ∧ Arr 90 e5 [(Value.func (.func 55) #[] #[(ptr ca 0), (ptr cb 0), (ptr cc 0)])] w_ ∧ Arr 45 e6 [(eN 0)] w_ ∧ Arr 23 b23 [ub] w_ ∧ Nd L (rowP bl p pl s pre.length) (Or1 L_ (Or1 D_ (Or1 b23 (Or1 e6 (Or1 e5 X))))) w_) (fun c_ (pre : List (Nat × Int)) (w_ : World) => c_ = Code.ret ∧ ((∀ j, j < pre.length - 1 → rowPC bl p pl s j = 0) ∧ (¬ rowPC bl p pl s (pre.length - 1) = 0) ∧ (0 < pre.length) ∧ Only (Or1 e6 (Or1 e5 (Ors L.S No))) w21 w_ ∧ Arr 88 ca [(Value.func (.func 53) #[(ptr L.bN 0)] #[])] w_ ∧ Arr 3 cb [(eI p)] w_ ∧ Arr 29 cc [ul] w_ ∧ Arr 90 e5 [(Value.func (.func 55) #[] #[(ptr ca 0), (ptr cb 0), (ptr cc 0)])] w_ ∧ Arr 45 e6 [(eN (rowPC bl p pl s (pre.length - 1)))] w_ ∧ Arr 23 b23 [ub] w_ ∧ Nd L (rowP bl p pl s pre.length) (Or1 L_ (Or1 D_ (Or1 b23 (Or1 e6 (Or1 e5 X))))) w_)) ?_ ?_ ?_ ?_ ?_ ?_
  ·
   rintro pre w_ w2_ ⟨hC, o26, hca, hcb, hcc, a13, a17, a25, hN⟩ ho_
   exact ⟨hC, o26.tail ho_ (stab_tl hD_ hL_ (fun k t => t.elim)), hca.step ho_ (stab_b hD_ hL_ h_lt_ca (fun t => t.elim)), hcb.step ho_ (stab_b hD_ hL_ h_lt_cb (fun t => t.elim)), hcc.step ho_ (stab_b hD_ hL_ h_lt_cc (fun t => t.elim)), a13.step ho_ (stab_b hD_ hL_ h_lt_e5 (fun t => t.elim)), a17.step ho_ (stab_b hD_ hL_ h_lt_e6 (fun t => t.elim)), a25.step ho_ (stab_b hD_ hL_ h_lt_b23 (fun t => t.elim)), hN.step ho_ (stab_p (fun k t => t.elim))⟩
  ·
   rintro c_ pre w_ w2_ ⟨hc_, ⟨hC2, hc2, hp2, o26, hca, hcb, hcc, a13, a17, a25, hN⟩⟩ ho_
   exact ⟨hc_, ⟨hC2, hc2, hp2, o26.tail ho_ (stab_tl hD_ hL_ (fun k t => t.elim)), hca.step ho_ (stab_b hD_ hL_ h_lt_ca (fun t => t.elim)), hcb.step ho_ (stab_b hD_ hL_ h_lt_cb (fun t => t.elim)), hcc.step ho_ (stab_b hD_ hL_ h_lt_cc (fun t => t.elim)), a13.step ho_ (stab_b hD_ hL_ h_lt_e5 (fun t => t.elim)), a17.step ho_ (stab_b hD_ hL_ h_lt_e6 (fun t => t.elim)), a25.step ho_ (stab_b hD_ hL_ h_lt_b23 (fun t => t.elim)), hN.step ho_ (stab_p (fun k t => t.elim))⟩⟩
  ·
   refine ⟨?_, ?_, ?_, ?_, ?_, ?_, ?_, ?_, ?_⟩
   ·
    exact fun j hj => absurd hj (Nat.not_lt_zero j)
   ·
    exact Only.refl _ _
   ·
    exact hca
   ·
    exact hcb
   ·
    exact hcc
   ·
    exact a13
   ·
    exact a17
   ·
    exact a25
   ·
    exact Nd.less (hN : Nd L (rowP bl p pl s 0) _ _) (xx_new (by omega) (xx_new (Nat.le_of_eq hD_) xx_id))
  ·
   intro pre k w1_ hpx_ hI_ hL1_
   obtain ⟨hC, o26, hca, hcb, hcc, a13, a17, a25, hN⟩ := hI_
   replace hul := Ps.re (X' := (Or1 L_ (Or1 D_ (Or1 b23 (Or1 e6 (Or1 e5 (Ors L.S No))))))) hul o26 (or1_skip (or1_mono (or1_mono (ors_mono no_any)))) (xx_new (by omega) (xx_new (Nat.le_of_eq hD_) (xx_or1 (xx_or1 (xx_or1 (xx_ors xx_id))))))
   replace hfa := Ps.re (X' := (Or1 L_ (Or1 D_ (Or1 b23 (Or1 e6 (Or1 e5 (Ors L.S No))))))) hfa o26 (or1_skip (or1_mono (or1_mono (ors_mono no_any)))) (xx_new (by omega) (xx_new (Nat.le_of_eq hD_) (xx_or1 (xx_or1 (xx_or1 (xx_ors xx_id))))))
   replace hb := Ps.re (X' := (Or1 L_ (Or1 D_ (Or1 b23 (Or1 e6 (Or1 e5 (Ors L.S No))))))) hb o26 (or1_skip (or1_mono (or1_mono (ors_mono no_any)))) (xx_new (by omega) (xx_new (Nat.le_of_eq hD_) (xx_or1 (xx_or1 (xx_or1 (xx_ors xx_id))))))
   replace oW := oW.tail o26 (tl_new g_oW_e6 (tl_new g_oW_e5 (tl_sin (fun k h => h) tl_no)))
   have n_ca_D_ : ca ≠ D_ := by omega
   have n_cb_D_ : cb ≠ D_ := by omega
   have n_cc_D_ : cc ≠ D_ := by omega
   have n_e5_D_ : e5 ≠ D_ := by omega
   have n_e6_D_ : e6 ≠ D_ := by omega
   have n_b23_D_ : b23 ≠ D_ := by omega
   have g_oW_D_ : W.heap.size ≤ D_ := by omega
   have g_o26_D_ : w21.heap.size ≤ D_ := by omega
   have n_ca_L_ : ca ≠ L_ := by omega
   have n_cb_L_ : cb ≠ L_ := by omega
   have n_cc_L_ : cc ≠ L_ := by omega
   have n_e5_L_ : e5 ≠ L_ := by omega
   have n_e6_L_ : e6 ≠ L_ := by omega
   have n_b23_L_ : b23 ≠ L_ := by omega
   have g_oW_L_ : W.heap.size ≤ L_ := by omega
   have g_o26_L_ : w21.heap.size ≤ L_ := by omega
   have n_D__L_ : D_ ≠ L_ := by omega
   have aL_ : Dead L_ w1_ := hL1_
   have aD_ : Dead D_ w1_ := by unfold Dead; omega
   refine wp_eq (l' := ([(ptr L.bN 0), ub, (Value.func (.func 55) #[] #[(ptr ca 0), (ptr cb 0), (ptr cc 0)]), undef, undef, (ptr e5 0), (ptr e6 0), undef, undef, undef, ub, (eN bl.length), (ptr L.bN 0), (Value.agg #[(eN s.gD), (eN s.gB), (eN s.gP)]), (eN s.gD), (Value.bool false), ub, (Value.func (.func 106) #[] #[(ptr b23 0)]), (eN k.1), (eI k.2)] ++ (us 7))) (by kernel_rfl) ?_
   refine wpIn_seq (plain ?_)
   refine wI (d_assign rfl) ?_
   refine wpL.done (then_n (plain ?_))
   refine wI (d_assign rfl) ?_
   refine wpL.done (then_n ?_)
   refine ⟨Only.refl _ _, fun w2_ oL_ _ => ?_⟩
   replace hN := hN.stepb oL_ in1
   replace hul := hul.stepb oL_ in1
   replace hfa := hfa.stepb oL_ in1
   replace hb := hb.stepb oL_ in1
   replace hca := hca.step oL_ (fun e => absurd e n_ca_L_)
   replace hcb := hcb.step oL_ (fun e => absurd e n_cb_L_)
   replace hcc := hcc.step oL_ (fun e => absurd e n_cc_L_)
   replace a13 := a13.step oL_ (fun e => absurd e n_e5_L_)
   replace a17 := a17.step oL_ (fun e => absurd e n_e6_L_)
   replace a25 := a25.step oL_ (fun e => absurd e n_b23_L_)
   replace aD_ := aD_.step oL_ (fun e => absurd e n_D__L_)
   replace oW := oW.tailb oL_ g_oW_L_
   replace o26 := o26.tailb oL_ g_o26_L_
   replace aL_ : Dead L_ w2_ := Nat.lt_of_lt_of_le aL_ oL_.size
   have oR_ : Only (fun k => (Or1 e6 (Or1 e5 (Ors L.S No))) k ∨ L_ < k) w2_ w2_ := Only.refl _ _
   obtain ⟨k1_, k2_⟩ := k
   obtain ⟨hk1_, hk2_⟩ := pre_pl hpx_
   injection hk2_ with hk3_ hk4_
   subst hk3_ hk4_
   refine wp_eq (l' := ([(ptr L.bN 0), ub, (Value.func (.func 55) #[] #[(ptr ca 0), (ptr cb 0), (ptr cc 0)]), undef, undef, (ptr e5 0), (ptr e6 0), (eN pre.length), (eI (bl.getD pre.length 0)), undef, ub, (eN bl.length), (ptr L.bN 0), (Value.agg #[(eN s.gD), (eN s.gB), (eN s.gP)]), (eN s.gD), (Value.bool false), ub, (Value.func (.func 106) #[] #[(ptr b23 0)]), (eN pre.length), (eI (bl.getD pre.length 0))] ++ (us 7))) rfl ?_
   refine wpIn_block (wpIn_seq ?_)
   refine wp_eq (l' := ([(ptr L.bN 0), ub, (Value.func (.func 55) #[] #[(ptr ca 0), (ptr cb 0), (ptr cc 0)]), undef, undef, (ptr e5 0), (ptr e6 0), (eN pre.length), (eI (bl.getD pre.length 0)), undef, ub, (eN bl.length), (ptr L.bN 0), (Value.agg #[(eN s.gD), (eN s.gB), (eN s.gP)]), (eN s.gD), (Value.bool false), ub, (Value.func (.func 106) #[] #[(ptr b23 0)]), (eN pre.length), (eI (bl.getD pre.length 0))] ++ (us 7))) rfl ?_
   refine plain ?_
   refine wI (d_load (v := (Value.func (.func 55) #[] #[(ptr ca 0), (ptr cb 0), (ptr cc 0)])) ⟨_, Try.underlying90, rfl⟩ rfl a13 rfl) ?_
   refine wI (d_move rfl) ?_
   refine wI (d_move rfl) ?_
   refine wO (d_callv (xl := [.tmp 21, .tmp 22]) (al := [(eN pre.length), (eI (bl.getD pre.length 0))]) rfl Try.func55 (by kernel_rfl) rfl rfl rfl (write1_ok L (rowP bl p pl s pre.length) _ hN (lt_or1 aL_.lt (lt_or1 aD_.lt (lt_or1 a25.lt (lt_or1 a17.lt (lt_or1 a13.lt (fun k t => Nat.lt_of_lt_of_le (hX k t) oW.size)))))) pre.length n (bl.getD pre.length 0) p vs pl ul ca cb cc hca (in2 (in2 (in2 (in2 (in2 hX_ca))))) hcb (in2 (in2 (in2 (in2 (in2 hX_cb))))) hcc (in2 (in2 (in2 (in2 (in2 hX_cc))))) n_ca_cb n_ca_cc n_cb_cc (hul.less (os_of (sub2 (sub2 (sub2 (sub2 (sub2 sub1))))))) (hfa.less (os_of (sub2 (sub2 (sub2 (sub2 (sub2 sub1))))))) hvs gpl (by omega))) ?_
   rintro _ w27 ⟨rfl, a29, o28⟩
   replace hca := hca.step o28 (hN.dis _ (in2 (in2 (in2 (in2 (in2 hX_ca))))))
   replace hcb := hcb.step o28 (hN.dis _ (in2 (in2 (in2 (in2 (in2 hX_cb))))))
   replace hcc := hcc.step o28 (hN.dis _ (in2 (in2 (in2 (in2 (in2 hX_cc))))))
   replace a13 := a13.step o28 (hN.dis _ (in2 (in2 (in2 (in2 in1)))))
   replace a17 := a17.step o28 (hN.dis _ (in2 (in2 (in2 in1))))
   replace a25 := a25.step o28 (hN.dis _ (in2 (in2 in1)))
   replace aD_ := aD_.step o28 (hN.dis _ (in2 in1))
   replace aL_ := aL_.step o28 (hN.dis _ in1)
   replace hul := hul.step o28 (sub2 (sub2 (sub2 (sub2 (sub2 sub1)))))
   replace hfa := hfa.step o28 (sub2 (sub2 (sub2 (sub2 (sub2 sub1)))))
   replace hb := hb.step o28 (sub2 (sub2 (sub2 (sub2 (sub2 sub1)))))
   replace oW := oW.tail o28 (fun k _ e => (fun k h => h) k e)
   replace o26 := o26.tail o28 (fun k _ e => (sub2 (sub2 sub1)) k e)
   replace oR_ := oR_.tail o28 (fun k _ e => (fun k h => Or.inl ((sub2 (sub2 sub1)) k h)) k e)
   replace hN := a29
   refine wI (d_assign rfl) ?_
   refine wF [(ptr L.bN 0), ub, (Value.func (.func 55) #[] #[(ptr ca 0), (ptr cb 0), (ptr cc 0)]), undef, undef, (ptr e5 0), (ptr e6 0), (eN pre.length), (eI (bl.getD pre.length 0)), (eN ((rowP bl p pl s pre.length).progR (pre.length : Int) (bl.getD pre.length 0) p (pgE (pl pre.length)))), ub, (eN bl.length), (ptr L.bN 0), (Value.agg #[(eN s.gD), (eN s.gB), (eN s.gP)]), (eN s.gD), (Value.bool false), ub, (Value.func (.func 106) #[] #[(ptr b23 0)]), (eN pre.length), (eI (bl.getD pre.length 0)), (Value.func (.func 55) #[] #[(ptr ca 0), (ptr cb 0), (ptr cc 0)]), (eN pre.length), (eI (bl.getD pre.length 0)), (eN ((rowP bl p pl s pre.length).progR (pre.length : Int) (bl.getD pre.length 0) p (pgE (pl pre.length)))), undef, undef, undef] ?_
   refine wpL.done (then_n (wpIn_seq (plain ?_)))
   refine wI (d_move rfl) ?_
   refine wI (n_neq (a := ((rowP bl p pl s pre.length).progR (pre.length : Int) (bl.getD pre.length 0) p (pgE (pl pre.length)))) (b := 0) rfl rfl rfl) ?_
   refine wF [(ptr L.bN 0), ub, (Value.func (.func 55) #[] #[(ptr ca 0), (ptr cb 0), (ptr cc 0)]), undef, undef, (ptr e5 0), (ptr e6 0), (eN pre.length), (eI (bl.getD pre.length 0)), (eN ((rowP bl p pl s pre.length).progR (pre.length : Int) (bl.getD pre.length 0) p (pgE (pl pre.length)))), ub, (eN bl.length), (ptr L.bN 0), (Value.agg #[(eN s.gD), (eN s.gB), (eN s.gP)]), (eN s.gD), (Value.bool false), ub, (Value.func (.func 106) #[] #[(ptr b23 0)]), (eN pre.length), (eI (bl.getD pre.length 0)), (Value.func (.func 55) #[] #[(ptr ca 0), (ptr cb 0), (ptr cc 0)]), (eN pre.length), (eI (bl.getD pre.length 0)), (eN ((rowP bl p pl s pre.length).progR (pre.length : Int) (bl.getD pre.length 0) p (pgE (pl pre.length)))), (eN ((rowP bl p pl s pre.length).progR (pre.length : Int) (bl.getD pre.length 0) p (pgE (pl pre.length)))), (Value.bool (!decide (((rowP bl p pl s pre.length).progR (pre.length : Int) (bl.getD pre.length 0) p (pgE (pl pre.length))) = 0))), undef] ?_
   refine wpL.done (then_n ?_)
   refine cond_un rfl (fun ce_ => ?_) (fun ce_ => ?_)
   ·
    refine wpIn_seq (plain ?_)
    refine wI (d_move rfl) ?_
    refine wO (d_store s_ti45 rfl rfl rfl a17 (nb rfl) rfl) ?_
    rintro _ w30 ⟨a31, o32⟩
    replace hN := hN.stepb o32 (in2 (in2 (in2 in1)))
    replace hul := hul.stepb o32 (in2 (in2 (in2 in1)))
    replace hfa := hfa.stepb o32 (in2 (in2 (in2 in1)))
    replace hb := hb.stepb o32 (in2 (in2 (in2 in1)))
    replace hca := hca.step o32 (fun e => absurd e n_ca_e6)
    replace hcb := hcb.step o32 (fun e => absurd e n_cb_e6)
    replace hcc := hcc.step o32 (fun e => absurd e n_cc_e6)
    replace a13 := a13.step o32 (fun e => absurd e n_e5_e6)
    replace a25 := a25.step o32 (fun e => absurd e (Ne.symm n_e6_b23))
    replace aD_ := aD_.step o32 (fun e => absurd e (Ne.symm n_e6_D_))
    replace aL_ := aL_.step o32 (fun e => absurd e (Ne.symm n_e6_L_))
    replace oW := oW.tailb o32 g_oW_e6
    replace o26 := o26.tail o32 (fun k _ e => by have : k = e6 := e; rw [this]; exact in1)
    replace oR_ := oR_.tail o32 (fun k _ e => by have : k = e6 := e; rw [this]; exact (Or.inl in1))
    refine wF [(ptr L.bN 0), ub, (Value.func (.func 55) #[] #[(ptr ca 0), (ptr cb 0), (ptr cc 0)]), undef, undef, (ptr e5 0), (ptr e6 0), (eN pre.length), (eI (bl.getD pre.length 0)), (eN ((rowP bl p pl s pre.length).progR (pre.length : Int) (bl.getD pre.length 0) p (pgE (pl pre.length)))), ub, (eN bl.length), (ptr L.bN 0), (Value.agg #[(eN s.gD), (eN s.gB), (eN s.gP)]), (eN s.gD), (Value.bool false), ub, (Value.func (.func 106) #[] #[(ptr b23 0)]), (eN pre.length), (eI (bl.getD pre.length 0)), (Value.func (.func 55) #[] #[(ptr ca 0), (ptr cb 0), (ptr cc 0)]), (eN pre.length), (eI (bl.getD pre.length 0)), (eN ((rowP bl p pl s pre.length).progR (pre.length : Int) (bl.getD pre.length 0) p (pgE (pl pre.length)))), (eN ((rowP bl p pl s pre.length).progR (pre.length : Int) (bl.getD pre.length 0) p (pgE (pl pre.length)))), (Value.bool (!decide (((rowP bl p pl s pre.length).progR (pre.length : Int) (bl.getD pre.length 0) p (pgE (pl pre.length))) = 0))), (eN ((rowP bl p pl s pre.length).progR (pre.length : Int) (bl.getD pre.length 0) p (pgE (pl pre.length))))] ?_
    refine wpL.done (then_n ?_)
    refine wpIn_ret ?_
    refine inb_r ?_
    refine ⟨oR_, rfl, ?_, ?_, ?_, ?_, ?_, ?_, ?_, ?_, ?_, ?_, ?_⟩
    ·
     (try dsimp only)
     all_goals (rw [List.length_append, List.length_singleton, Nat.add_sub_cancel]; exact hC)
    ·
     (try dsimp only)
     all_goals (rw [List.length_append, List.length_singleton, Nat.add_sub_cancel]; exact ce_)
    ·
     (try dsimp only)
     all_goals (rw [List.length_append, List.length_singleton]; omega)
    ·
     exact o26
    ·
     exact hca
    ·
     exact hcb
    ·
     exact hcc
    ·
     exact a13
    ·
     (try dsimp only)
     all_goals (rw [List.length_append, List.length_singleton, Nat.add_sub_cancel]; exact a31)
    ·
     exact a25
    ·
     (try dsimp only)
     all_goals (exact (by rw [List.length_append, List.length_singleton]; exact hN.less (xx_or1 (xx_or1 (xx_or1 (xx_or1 (xx_or1 xx_id)))))))
   refine wpIn_skip ?_
   refine inb_n ?_
   refine ⟨oR_, ?_, ?_, ?_, ?_, ?_, ?_, ?_, ?_, ?_⟩
   ·
    (try dsimp only)
    all_goals (exact fun j hj => by rw [List.length_append, List.length_singleton] at hj; exact (Nat.lt_succ_iff_lt_or_eq.1 hj).elim (hC j) (fun e => by rw [e]; exact ce_))
   ·
    exact o26
   ·
    exact hca
   ·
    exact hcb
   ·
    exact hcc
   ·
    exact a13
   ·
    exact a17
   ·
    exact a25
   ·
    (try dsimp only)
    all_goals (exact (by rw [List.length_append, List.length_singleton]; exact hN.less (xx_or1 (xx_or1 (xx_or1 (xx_or1 (xx_or1 xx_id)))))))
  ·
   intro w1_ hI_ aD_
   obtain ⟨hC, o26, hca, hcb, hcc, a13, a17, a25, hN⟩ := hI_
   replace hN := hN.less (Y := (Or1 D_ (Or1 b23 (Or1 e6 (Or1 e5 X))))) (xx_skip xx_id)
   replace hul := Ps.re (X' := (Or1 D_ (Or1 b23 (Or1 e6 (Or1 e5 (Ors L.S No)))))) hul o26 (or1_skip (or1_mono (or1_mono (ors_mono no_any)))) (xx_new (Nat.le_of_eq hD_) (xx_or1 (xx_or1 (xx_or1 (xx_ors xx_id)))))
   replace hfa := Ps.re (X' := (Or1 D_ (Or1 b23 (Or1 e6 (Or1 e5 (Ors L.S No)))))) hfa o26 (or1_skip (or1_mono (or1_mono (ors_mono no_any)))) (xx_new (Nat.le_of_eq hD_) (xx_or1 (xx_or1 (xx_or1 (xx_ors xx_id)))))
   replace hb := Ps.re (X' := (Or1 D_ (Or1 b23 (Or1 e6 (Or1 e5 (Ors L.S No)))))) hb o26 (or1_skip (or1_mono (or1_mono (ors_mono no_any)))) (xx_new (Nat.le_of_eq hD_) (xx_or1 (xx_or1 (xx_or1 (xx_ors xx_id)))))
   replace oW := oW.tail o26 (tl_new g_oW_e6 (tl_new g_oW_e5 (tl_sin (fun k h => h) tl_no)))
   have n_ca_D_ : ca ≠ D_ := by omega
   have n_cb_D_ : cb ≠ D_ := by omega
   have n_cc_D_ : cc ≠ D_ := by omega
   have n_e5_D_ : e5 ≠ D_ := by omega
   have n_e6_D_ : e6 ≠ D_ := by omega
   have n_b23_D_ : b23 ≠ D_ := by omega
   have g_oW_D_ : W.heap.size ≤ D_ := by omega
   have g_o26_D_ : w21.heap.size ≤ D_ := by omega
   rw [plL_len] at hC
   replace hN := nd_to hN (show _ = (rowP bl p pl s bl.length) from by rw [plL_len])
   refine inb_n (then_n ?_)
   refine wpIn_seq (plain ?_)
   refine wO (d_store s_ti45 rfl rfl rfl a17 (nb rfl) rfl) ?_
   rintro _ w33 ⟨a34, o35⟩
   replace hN := hN.stepb o35 (in2 (in2 in1))
   replace hul := hul.stepb o35 (in2 (in2 in1))
   replace hfa := hfa.stepb o35 (in2 (in2 in1))
   replace hb := hb.stepb o35 (in2 (in2 in1))
   replace hca := hca.step o35 (fun e => absurd e n_ca_e6)
   replace hcb := hcb.step o35 (fun e => absurd e n_cb_e6)
   replace hcc := hcc.step o35 (fun e => absurd e n_cc_e6)
   replace a13 := a13.step o35 (fun e => absurd e n_e5_e6)
   replace a25 := a25.step o35 (fun e => absurd e (Ne.symm n_e6_b23))
   replace aD_ := aD_.step o35 (fun e => absurd e (Ne.symm n_e6_D_))
   replace oW := oW.tailb o35 g_oW_e6
   replace o26 := o26.tail o35 (fun k _ e => by have : k = e6 := e; rw [this]; exact in1)
   refine wpL.done (then_n ?_)
   refine wpIn_ret ?_
   refine leave (v := (eN 0)) (marks_ok aD_) (fun w36 o37 => ⟨resS Try.results54 ⟨_, Try.underlying45, rfl⟩ rfl (a34.step (only_mem o37) (fun e => absurd e n_e6_D_)), ?_⟩)
   replace o37 := only_mem o37
   replace hN := hN.stepb o37 in1
   replace hul := hul.stepb o37 in1
   replace hfa := hfa.stepb o37 in1
   replace hb := hb.stepb o37 in1
   replace hca := hca.step o37 (fun e => absurd e n_ca_D_)
   replace hcb := hcb.step o37 (fun e => absurd e n_cb_D_)
   replace hcc := hcc.step o37 (fun e => absurd e n_cc_D_)
   replace a13 := a13.step o37 (fun e => absurd e n_e5_D_)
   replace a34 := a34.step o37 (fun e => absurd e n_e6_D_)
   replace a25 := a25.step o37 (fun e => absurd e n_b23_D_)
   replace oW := oW.tailb o37 g_oW_D_
   replace o26 := o26.tailb o37 g_o26_D_
   obtain ⟨e1_, e2_⟩ := do_all (T := rowP bl p pl s) (C := rowPC bl p pl s) k0 hC; exact ⟨congrArg eN e2_, e1_ ▸ (hN.less (xx_skip (xx_skip (xx_skip (xx_skip xx_id))))), oW⟩
  ·
   rintro c_ pre w1_ hpx_ ⟨rfl, ⟨hC2, hc2, hp2, o26, hca, hcb, hcc, a13, a17, a25, hN⟩⟩ aD_
   replace hN := hN.less (Y := (Or1 D_ (Or1 b23 (Or1 e6 (Or1 e5 X))))) (xx_skip xx_id)
   replace hul := Ps.re (X' := (Or1 D_ (Or1 b23 (Or1 e6 (Or1 e5 (Ors L.S No)))))) hul o26 (or1_skip (or1_mono (or1_mono (ors_mono no_any)))) (xx_new (Nat.le_of_eq hD_) (xx_or1 (xx_or1 (xx_or1 (xx_ors xx_id)))))
   replace hfa := Ps.re (X' := (Or1 D_ (Or1 b23 (Or1 e6 (Or1 e5 (Ors L.S No)))))) hfa o26 (or1_skip (or1_mono (or1_mono (ors_mono no_any)))) (xx_new (Nat.le_of_eq hD_) (xx_or1 (xx_or1 (xx_or1 (xx_ors xx_id)))))
   replace hb := Ps.re (X' := (Or1 D_ (Or1 b23 (Or1 e6 (Or1 e5 (Ors L.S No)))))) hb o26 (or1_skip (or1_mono (or1_mono (ors_mono no_any)))) (xx_new (Nat.le_of_eq hD_) (xx_or1 (xx_or1 (xx_or1 (xx_ors xx_id)))))
   replace oW := oW.tail o26 (tl_new g_oW_e6 (tl_new g_oW_e5 (tl_sin (fun k h => h) tl_no)))
   have n_ca_D_ : ca ≠ D_ := by omega
   have n_cb_D_ : cb ≠ D_ := by omega
   have n_cc_D_ : cc ≠ D_ := by omega
   have n_e5_D_ : e5 ≠ D_ := by omega
   have n_e6_D_ : e6 ≠ D_ := by omega
   have n_b23_D_ : b23 ≠ D_ := by omega
   have g_oW_D_ : W.heap.size ≤ D_ := by omega
   have g_o26_D_ : w21.heap.size ≤ D_ := by omega
   refine wpIn_ret ?_
   refine inb_r (then_r ?_)
   refine leave (v := (eN (rowPC bl p pl s (pre.length - 1)))) (marks_ok aD_) (fun w38 o39 => ⟨resS Try.results54 ⟨_, Try.underlying45, rfl⟩ rfl (a17.step (only_mem o39) (fun e => absurd e n_e6_D_)), ?_⟩)
   replace o39 := only_mem o39
   replace hN := hN.stepb o39 in1
   replace hul := hul.stepb o39 in1
   replace hfa := hfa.stepb o39 in1
   replace hb := hb.stepb o39 in1
   replace hca := hca.step o39 (fun e => absurd e n_ca_D_)
   replace hcb := hcb.step o39 (fun e => absurd e n_cb_D_)
   replace hcc := hcc.step o39 (fun e => absurd e n_cc_D_)
   replace a13 := a13.step o39 (fun e => absurd e n_e5_D_)
   replace a17 := a17.step o39 (fun e => absurd e n_e6_D_)
   replace a25 := a25.step o39 (fun e => absurd e n_b23_D_)
   replace oW := oW.tailb o39 g_oW_D_
   replace o26 := o26.tailb o39 g_o26_D_
   have e3_ : pre.length - 1 + 1 = pre.length := by omega
   have hpl_ := pl_len hpx_
   obtain ⟨e1_, e2_⟩ := do_one (T := rowP bl p pl s) (C := rowPC bl p pl s) k0 hC2 hc2 (by omega); rw [e3_] at e1_; exact ⟨congrArg eN e2_, e1_ ▸ (hN.less (xx_skip (xx_skip (xx_skip (xx_skip xx_id))))), oW⟩
 refine plain ?_
 refine wI (d_move rfl) ?_
 refine wI (d_lenS rfl Try.underlying23 rfl hb) ?_
 refine wI (d_move rfl) ?_
 refine wO (d_call (xl := [.tmp 12]) (al := [(ptr L.bN 0)]) Try.func84 (by kernel_rfl) rfl rfl rfl (geometry_ok L s _ hN)) ?_
 rintro _ w40 ⟨rfl, o41⟩
 replace hN := hN.step0 o41
 replace hul := hul.step0 o41
 replace hfa := hfa.step0 o41
 replace hb := hb.step0 o41
 replace hca := hca.step0 o41
 replace hcb := hcb.step0 o41
 replace hcc := hcc.step0 o41
 replace a13 := a13.step0 o41
 replace a17 := a17.step0 o41
 replace oW := oW.tail0 o41
 refine wF ([(ptr L.bN 0), ub, (Value.func (.func 55) #[] #[(ptr ca 0), (ptr cb 0), (ptr cc 0)]), undef, undef, (ptr e5 0), (ptr e6 0), undef, undef, undef, ub, (eN bl.length), (ptr L.bN 0), (Value.agg #[(eN s.gD), (eN s.gB), (eN s.gP)])] ++ (us 13)) ?_
 refine wI (d_field (v := (eN s.gD)) Try.underlying49 rfl ⟨_, Try.underlying3, rfl⟩ rfl rfl) ?_
 refine wI (n_neq (a := bl.length) (b := s.gD) rfl rfl (by rw [decide_eq_false k0] <;> rfl)) ?_
 refine wpL.done (then_n ?_)
 refine cond_t rfl ?_
 refine wpIn_seq (plain ?_)
 refine wO (d_store s_ti45 rfl rfl rfl a17 (nb rfl) rfl) ?_
 rintro _ w42 ⟨a43, o44⟩
 replace hN := hN.stepb o44 in1
 replace hul := hul.stepb o44 in1
 replace hfa := hfa.stepb o44 in1
 replace hb := hb.stepb o44 in1
 replace hca := hca.step o44 (fun e => absurd e n_ca_e6)
 replace hcb := hcb.step o44 (fun e => absurd e n_cb_e6)
 replace hcc := hcc.step o44 (fun e => absurd e n_cc_e6)
 replace a13 := a13.step o44 (fun e => absurd e n_e5_e6)
 replace oW := oW.tailb o44 g_oW_e6
 refine wpL.done (then_n ?_)
 refine wpIn_ret ?_
 refine then_r ?_
 refine leave0 (v := (eN 1)) (resS Try.results54 ⟨_, Try.underlying45, rfl⟩ rfl a43) ?_
 obtain ⟨e1_, e2_⟩ := do_no (T := rowP bl p pl s) (C := rowPC bl p pl s) k0; exact ⟨congrArg eN e2_, e1_ ▸ (hN.less (xx_skip (xx_skip xx_id))), oW⟩
set_option maxRecDepth 20000 in
set_option maxHeartbeats 1000000 in
theorem eachE_ok (L : NL) (s : NS) {X : Nat → Prop} (W : World) (hN : Nd L s X W) (hX : ∀ k, X k → k < W.heap.size) (bl : List Int) (ub : Value) (hb : Ps (Ors L.S No) (Seq kI bl ub) W) (gb : bl.length ≤ 1000)  :
    CW Try.prog 54 #[(ptr L.bN 0), ub, (Value.func (.func 61) #[(ptr L.bN 0)] #[])] W (Rt (fun u w => u = eN (rowDoC s.gD bl.length (rowEC bl s)) ∧ Nd L (rowDo s.gD bl.length (rowE bl s) (rowEC bl s)) X w ∧ Only L.S W w)) := by
 have oW : Only L.S W W := Only.refl _ _
 refine enter (al := [(ptr L.bN 0), ub, (Value.func (.func 61) #[(ptr L.bN 0)] #[])]) (k := 24) (l := ([(ptr L.bN 0), ub, (Value.func (.func 61) #[(ptr L.bN 0)] #[])] ++ (us 24))) Try.func54 rfl Try.ntmps54 rfl rfl ?_
 refine wpIn_seq (plain ?_)
 refine wO (d_box rfl rfl) ?_
 rintro _ w11 ⟨e5, rfl, g12, a13, o14⟩
 have g_oW_e5 : W.heap.size ≤ e5 := Nat.le_trans oW.size g12
 replace hN := hN.new o14 g12
 replace hb := hb.new o14 g12
 replace oW := oW.tail0 o14
 refine wO (d_alloc s_ti45 rfl) ?_
 rintro _ w15 ⟨e6, rfl, g16, a17, o18⟩
 have n_e5_e6 : e5 ≠ e6 := a13.ne g16
 have g_oW_e6 : W.heap.size ≤ e6 := Nat.le_trans oW.size g16
 replace hN := hN.new o18 g16
 replace hb := hb.new o18 g16
 replace a13 := a13.step0 o18
 replace oW := oW.tail0 o18
 refine wpL.done (then_n (wpIn_seq (wpIn_seq ?_)))
 by_cases k0 : bl.length = s.gD
 ·
  refine plain ?_
  refine wI (d_move rfl) ?_
  refine wI (d_lenS rfl Try.underlying23 rfl hb) ?_
  refine wI (d_move rfl) ?_
  refine wO (d_call (xl := [.tmp 12]) (al := [(ptr L.bN 0)]) Try.func84 (by kernel_rfl) rfl rfl rfl (geometry_ok L s _ hN)) ?_
  rintro _ w19 ⟨rfl, o20⟩
  replace hN := hN.step0 o20
  replace hb := hb.step0 o20
  replace a13 := a13.step0 o20
  replace a17 := a17.step0 o20
  replace oW := oW.tail0 o20
  refine wF ([(ptr L.bN 0), ub, (Value.func (.func 61) #[(ptr L.bN 0)] #[]), undef, undef, (ptr e5 0), (ptr e6 0), undef, undef, undef, ub, (eN bl.length), (ptr L.bN 0), (Value.agg #[(eN s.gD), (eN s.gB), (eN s.gP)])] ++ (us 13)) ?_
  refine wI (d_field (v := (eN s.gD)) Try.underlying49 rfl ⟨_, Try.underlying3, rfl⟩ rfl rfl) ?_
  refine wI (n_neq (a := bl.length) (b := s.gD) rfl rfl (by rw [decide_eq_true k0] <;> rfl)) ?_
  refine wpL.done (then_n ?_)
  refine cond_f rfl ?_
  refine wpIn_skip (then_n (wpIn_seq (wpIn_seq (plain ?_))))
  refine wI (d_move rfl) ?_
  refine wO (d_call (xl := [.tmp 16]) (al := [ub]) Try.func85 (by kernel_rfl) rfl rfl rfl (placed_ok bl ub _ (Ps.no hb))) ?_
  rintro _ w21 ⟨b23, rfl, g24, a25, o22⟩
  have n_e5_b23 : e5 ≠ b23 := a13.ne g24
  have n_e6_b23 : e6 ≠ b23 := a17.ne g24
  have g_oW_b23 : W.heap.size ≤ b23 := Nat.le_trans oW.size g24
  replace hN := hN.new o22 g24
  replace hb := hb.new o22 g24
  replace a13 := a13.step0 o22
  replace a17 := a17.step0 o22
  replace oW := oW.tail0 o22
  refine wpL.done (then_n (wpIn_block ?_))
  refine wp_eq (l' := ([(ptr L.bN 0), ub, (Value.func (.func 61) #[(ptr L.bN 0)] #[]), undef, undef, (ptr e5 0), (ptr e6 0), undef, undef, undef, ub, (eN bl.length), (ptr L.bN 0), (Value.agg #[(eN s.gD), (eN s.gB), (eN s.gP)]), (eN s.gD), (Value.bool false), ub, (Value.func (.func 106) #[] #[(ptr b23 0)])] ++ (us 9))) rfl ?_
  have h_lt_e5 := a13.lt
  have h_lt_e6 := a17.lt
  have h_lt_b23 := a25.lt
  have tq_oW := oW.size
  have nO_b23 : ¬ (Or1 e6 (Or1 e5 (Ors L.S No))) b23 := (not_or1 (Ne.symm n_e6_b23) (not_or1 (Ne.symm n_e5_b23) (not_ors (hN.dis _ in1) not_no)))
  obtain ⟨D_, hD_⟩ : ∃ D_, w21.heap.size = D_ := ⟨_, rfl⟩
  obtain ⟨L_, hL_⟩ : ∃ L_, w21.heap.size + 1 = L_ := ⟨_, rfl⟩
  refine range_ (encs := (fun k => [eN k.1, eI k.2])) (Pv := No) (O := (Or1 e6 (Or1 e5 (Ors L.S No)))) (xs := (plL bl)) (D := D_) (L := L_) (rs := []) hD_ hL_ rfl Try.func106 (by kernel_rfl) rfl (iter_placed bl ub b23 a25 nO_b23 hb (or1_skip (or1_mono (or1_mono (ors_mono no_any)))) (by first | omega | (simp; done) | (simp; omega))) (fun k t => t.elim) (fun _ => rfl) (lt_or1 h_lt_e6 (lt_or1 h_lt_e5 (lt_ors hN.lt lt_no))) (fun (pre : List (Nat × Int)) (w_ : World) => (∀ j, j < pre.length → rowEC bl s j = 0) ∧ Only (Or1 e6 (Or1 e5 (Ors L.S No))) w21 w_ ∧ Arr 90 e5 [(Value.func (.func 61) #[(ptr L.bN 0)] #[])] w_ ∧ Arr 45 e6 [(eN 0)] w_ ∧ Arr 23 b23 [ub] w_ ∧ Nd L (rowE bl s pre.length) (Or1 L_ (Or1 D_ (Or1 b23 (Or1 e6 (Or1 e5 X))))) w_) (fun c_ (pre : List (Nat × Int)) (w_ : World) => c_ = Code.ret ∧ ((∀ j, j < pre.length - 1 → rowEC bl s j = 0) ∧ (¬ rowEC bl s (pre.length - 1) = 0) ∧ (0 < pre.length) ∧ Only (Or1 e6 (Or1 e5 (Ors L.S No))) w21 w_ ∧ Arr 90 e5 [(Value.func (.func 61) #[(ptr L.bN 0)] #[])] w_ ∧ Arr 45 e6 [(eN (rowEC bl s (pre.length - 1)))] w_ ∧ Arr 23 b23 [ub] w_ ∧ Nd L (rowE bl s pre.length) (Or1 L_ (Or1 D_ (Or1 b23 (Or1 e6 (Or1 e5 X))))) w_)) ?_ ?_ ?_ ?_ ?_ ?_
  ·
   rintro pre w_ w2_ ⟨hC, o26, a13, a17, a25, hN⟩ ho_
   exact ⟨hC, o26.tail ho_ (stab_tl hD_ hL_ (fun k t => t.elim)), a13.step ho_ (stab_b hD_ hL_ h_lt_e5 (fun t => t.elim)), a17.step ho_ (stab_b hD_ hL_ h_lt_e6 (fun t => t.elim)), a25.step ho_ (stab_b hD_ hL_ h_lt_b23 (fun t => t.elim)), hN.step ho_ (stab_p (fun k t => t.elim))⟩
  ·
   rintro c_ pre w_ w2_ ⟨hc_, ⟨hC2, hc2, hp2, o26, a13, a17, a25, hN⟩⟩ ho_
   exact ⟨hc_, ⟨hC2, hc2, hp2, o26.tail ho_ (stab_tl hD_ hL_ (fun k t => t.elim)), a13.step ho_ (stab_b hD_ hL_ h_lt_e5 (fun t => t.elim)), a17.step ho_ (stab_b hD_ hL_ h_lt_e6 (fun t => t.elim)), a25.step ho_ (stab_b hD_ hL_ h_lt_b23 (fun t => t.elim)), hN.step ho_ (stab_p (fun k t => t.elim))⟩⟩
  ·
   refine ⟨?_, ?_, ?_, ?_, ?_, ?_⟩
   ·
    exact fun j hj => absurd hj (Nat.not_lt_zero j)
   ·
    exact Only.refl _ _
   ·
    exact a13
   ·
    exact a17
   ·
    exact a25
   ·
    exact Nd.less (hN : Nd L (rowE bl s 0) _ _) (xx_new (by omega) (xx_new (Nat.le_of_eq hD_) xx_id))
  ·
   intro pre k w1_ hpx_ hI_ hL1_
   obtain ⟨hC, o26, a13, a17, a25, hN⟩ := hI_
   replace hb := Ps.re (X' := (Or1 L_ (Or1 D_ (Or1 b23 (Or1 e6 (Or1 e5 (Ors L.S No))))))) hb o26 (or1_skip (or1_mono (or1_mono (ors_mono no_any)))) (xx_new (by omega) (xx_new (Nat.le_of_eq hD_) (xx_or1 (xx_or1 (xx_or1 (xx_ors xx_id))))))
   replace oW := oW.tail o26 (tl_new g_oW_e6 (tl_new g_oW_e5 (tl_sin (fun k h => h) tl_no)))
   have n_e5_D_ : e5 ≠ D_ := by omega
   have n_e6_D_ : e6 ≠ D_ := by omega
   have n_b23_D_ : b23 ≠ D_ := by omega
   have g_oW_D_ : W.heap.size ≤ D_ := by omega
   have g_o26_D_ : w21.heap.size ≤ D_ := by omega
   have n_e5_L_ : e5 ≠ L_ := by omega
   have n_e6_L_ : e6 ≠ L_ := by omega
   have n_b23_L_ : b23 ≠ L_ := by omega
   have g_oW_L_ : W.heap.size ≤ L_ := by omega
   have g_o26_L_ : w21.heap.size ≤ L_ := by omega
   have n_D__L_ : D_ ≠ L_ := by omega
   have aL_ : Dead L_ w1_ := hL1_
   have aD_ : Dead D_ w1_ := by unfold Dead; omega
   refine wp_eq (l' := ([(ptr L.bN 0), ub, (Value.func (.func 61) #[(ptr L.bN 0)] #[]), undef, undef, (ptr e5 0), (ptr e6 0), undef, undef, undef, ub, (eN bl.length), (ptr L.bN 0), (Value.agg #[(eN s.gD), (eN s.gB), (eN s.gP)]), (eN s.gD), (Value.bool false), ub, (Value.func (.func 106) #[] #[(ptr b23 0)]), (eN k.1), (eI k.2)] ++ (us 7))) (by kernel_rfl) ?_
   refine wpIn_seq (plain ?_)
   refine wI (d_assign rfl) ?_
   refine wpL.done (then_n (plain ?_))
   refine wI (d_assign rfl) ?_
   refine wpL.done (then_n ?_)
   refine ⟨Only.refl _ _, fun w2_ oL_ _ => ?_⟩
   replace hN := hN.stepb oL_ in1
   replace hb := hb.stepb oL_ in1
   replace a13 := a13.step oL_ (fun e => absurd e n_e5_L_)
   replace a17 := a17.step oL_ (fun e => absurd e n_e6_L_)
   replace a25 := a25.step oL_ (fun e => absurd e n_b23_L_)
   replace aD_ := aD_.step oL_ (fun e => absurd e n_D__L_)
   replace oW := oW.tailb oL_ g_oW_L_
   replace o26 := o26.tailb oL_ g_o26_L_
   replace aL_ : Dead L_ w2_ := Nat.lt_of_lt_of_le aL_ oL_.size
   have oR_ : Only (fun k => (Or1 e6 (Or1 e5 (Ors L.S No))) k ∨ L_ < k) w2_ w2_ := Only.refl _ _
   obtain ⟨k1_, k2_⟩ := k
   obtain ⟨hk1_, hk2_⟩ := pre_pl hpx_
   injection hk2_ with hk3_ hk4_
   subst hk3_ hk4_
   refine wp_eq (l' := ([(ptr L.bN 0), ub, (Value.func (.func 61) #[(ptr L.bN 0)] #[]), undef, undef, (ptr e5 0), (ptr e6 0), (eN pre.length), (eI (bl.getD pre.length 0)), undef, ub, (eN bl.length), (ptr L.bN 0), (Value.agg #[(eN s.gD), (eN s.gB), (eN s.gP)]), (eN s.gD), (Value.bool false), ub, (Value.func (.func 106) #[] #[(ptr b23 0)]), (eN pre.length), (eI (bl.getD pre.length 0))] ++ (us 7))) rfl ?_
   refine wpIn_block (wpIn_seq ?_)
   refine wp_eq (l' := ([(ptr L.bN 0), ub, (Value.func (.func 61) #[(ptr L.bN 0)] #[]), undef, undef, (ptr e5 0), (ptr e6 0), (eN pre.length), (eI (bl.getD pre.length 0)), undef, ub, (eN bl.length), (ptr L.bN 0), (Value.agg #[(eN s.gD), (eN s.gB), (eN s.gP)]), (eN s.gD), (Value.bool false), ub, (Value.func (.func 106) #[] #[(ptr b23 0)]), (eN pre.length), (eI (bl.getD pre.length 0))] ++ (us 7))) rfl ?_
   refine plain ?_
   refine wI (d_load (v := (Value.func (.func 61) #[(ptr L.bN 0)] #[])) ⟨_, Try.underlying90, rfl⟩ rfl a13 rfl) ?_
   refine wI (d_move rfl) ?_
   refine wI (d_move rfl) ?_
   refine wO (d_callB (xl := [.tmp 21, .tmp 22]) (al := [(eN pre.length), (eI (bl.getD pre.length 0))]) rfl Try.func61 (by kernel_rfl) rfl rfl rfl (erase_ok L (rowE bl s pre.length) _ hN (pre.length : Int) (bl.getD pre.length 0) (lt_or1 aL_.lt (lt_or1 aD_.lt (lt_or1 a25.lt (lt_or1 a17.lt (lt_or1 a13.lt (fun k t => Nat.lt_of_lt_of_le (hX k t) oW.size)))))))) ?_
   rintro _ w27 ⟨rfl, a29, o28⟩
   replace a13 := a13.step o28 (hN.dis _ (in2 (in2 (in2 (in2 in1)))))
   replace a17 := a17.step o28 (hN.dis _ (in2 (in2 (in2 in1))))
   replace a25 := a25.step o28 (hN.dis _ (in2 (in2 in1)))
   replace aD_ := aD_.step o28 (hN.dis _ (in2 in1))
   replace aL_ := aL_.step o28 (hN.dis _ in1)
   replace hb := hb.step o28 (sub2 (sub2 (sub2 (sub2 (sub2 sub1)))))
   replace oW := oW.tail o28 (fun k _ e => (fun k h => h) k e)
   replace o26 := o26.tail o28 (fun k _ e => (sub2 (sub2 sub1)) k e)
   replace oR_ := oR_.tail o28 (fun k _ e => (fun k h => Or.inl ((sub2 (sub2 sub1)) k h)) k e)
   replace hN := a29
   refine wI (d_assign rfl) ?_
   refine wF [(ptr L.bN 0), ub, (Value.func (.func 61) #[(ptr L.bN 0)] #[]), undef, undef, (ptr e5 0), (ptr e6 0), (eN pre.length), (eI (bl.getD pre.length 0)), (eN ((rowE bl s pre.length).eraseR (pre.length : Int) (bl.getD pre.length 0))), ub, (eN bl.length), (ptr L.bN 0), (Value.agg #[(eN s.gD), (eN s.gB), (eN s.gP)]), (eN s.gD), (Value.bool false), ub, (Value.func (.func 106) #[] #[(ptr b23 0)]), (eN pre.length), (eI (bl.getD pre.length 0)), (Value.func (.func 61) #[(ptr L.bN 0)] #[]), (eN pre.length), (eI (bl.getD pre.length 0)), (eN ((rowE bl s pre.length).eraseR (pre.length : Int) (bl.getD pre.length 0))), undef, undef, undef] ?_
   refine wpL.done (then_n (wpIn_seq (plain ?_)))
   refine wI (d_move rfl) ?_
   refine wI (n_neq (a := ((rowE bl s pre.length).eraseR (pre.length : Int) (bl.getD pre.length 0))) (b := 0) rfl rfl rfl) ?_
   refine wF [(ptr L.bN 0), ub, (Value.func (.func 61) #[(ptr L.bN 0)] #[]), undef, undef, (ptr e5 0), (ptr e6 0), (eN pre.length), (eI (bl.getD pre.length 0)), (eN ((rowE bl s pre.length).eraseR (pre.length : Int) (bl.getD pre.length 0))), ub, (eN bl.length), (ptr L.bN 0), (Value.agg #[(eN s.gD), (eN s.gB), (eN s.gP)]), (eN s.gD), (Value.bool false), ub, (Value.func (.func 106) #[] #[(ptr b23 0)]), (eN pre.length), (eI (bl.getD pre.length 0)), (Value.func (.func 61) #[(ptr L.bN 0)] #[]), (eN pre.length), (eI (bl.getD pre.length 0)), (eN ((rowE bl s pre.length).eraseR (pre.length : Int) (bl.getD pre.length 0))), (eN ((rowE bl s pre.length).eraseR (pre.length : Int) (bl.getD pre.length 0))), (Value.bool (!decide (((rowE bl s pre.length).eraseR (pre.length : Int) (bl.getD pre.length 0)) = 0))), undef] ?_
   refine wpL.done (then_n ?_)
   refine cond_un rfl (fun ce_ => ?_) (fun ce_ => ?_)
   ·
    refine wpIn_seq (plain ?_)
    refine wI (d_move rfl) ?_
    refine wO (d_store s_ti45 rfl rfl rfl a17 (nb rfl) rfl) ?_
    rintro _ w30 ⟨a31, o32⟩
    replace hN := hN.stepb o32 (in2 (in2 (in2 in1)))
    replace hb := hb.stepb o32 (in2 (in2 (in2 in1)))
    replace a13 := a13.step o32 (fun e => absurd e n_e5_e6)
    replace a25 := a25.step o32 (fun e => absurd e (Ne.symm n_e6_b23))
    replace aD_ := aD_.step o32 (fun e => absurd e (Ne.symm n_e6_D_))
    replace aL_ := aL_.step o32 (fun e => absurd e (Ne.symm n_e6_L_))
    replace oW := oW.tailb o32 g_oW_e6
    replace o26 := o26.tail o32 (fun k _ e => by have : k = e6 := e; rw [this]; exact in1)
    replace oR_ := oR_.tail o32 (fun k _ e => by have : k = e6 := e; rw [this]; exact (Or.inl in1))
    refine wF [(ptr L.bN 0), ub, (Value.func (.func 61) #[(ptr L.bN 0)] #[]), undef, undef, (ptr e5 0), (ptr e6 0), (eN pre.length), (eI (bl.getD pre.length 0)), (eN ((rowE bl s pre.length).eraseR (pre.length : Int) (bl.getD pre.length 0))), ub, (eN bl.length), (ptr L.bN 0), (Value.agg #[(eN s.gD), (eN s.gB), (eN s.gP)]), (eN s.gD), (Value.bool false), ub, (Value.func (.func 106) #[] #[(ptr b23 0)]), (eN pre.length), (eI (bl.getD pre.length 0)), (Value.func (.func 61) #[(ptr L.bN 0)] #[]), (eN pre.length), (eI (bl.getD pre.length 0)), (eN ((rowE bl s pre.length).eraseR (pre.length : Int) (bl.getD pre.length 0))), (eN ((rowE bl s pre.length).eraseR (pre.length : Int) (bl.getD pre.length 0))), (Value.bool (!decide (((rowE bl s pre.length).eraseR (pre.length : Int) (bl.getD pre.length 0)) = 0))), (eN ((rowE bl s pre.length).eraseR (pre.length : Int) (bl.getD pre.length 0)))] ?_
    refine wpL.done (then_n ?_)
    refine wpIn_ret ?_
    refine inb_r ?_
    refine ⟨oR_, rfl, ?_, ?_, ?_, ?_, ?_, ?_, ?_, ?_⟩
    ·
     (try dsimp only)
     all_goals (rw [List.length_append, List.length_singleton, Nat.add_sub_cancel]; exact hC)
    ·
     (try dsimp only)
     all_goals (rw [List.length_append, List.length_singleton, Nat.add_sub_cancel]; exact ce_)
    ·
     (try dsimp only)
     all_goals (rw [List.length_append, List.length_singleton]; omega)
    ·
     exact o26
    ·
     exact a13
    ·
     (try dsimp only)
     all_goals (rw [List.length_append, List.length_singleton, Nat.add_sub_cancel]; exact a31)
    ·
     exact a25
    ·
     (try dsimp only)
     all_goals (exact (by rw [List.length_append, List.length_singleton]; exact hN.less (xx_or1 (xx_or1 (xx_or1 (xx_or1 (xx_or1 xx_id)))))))
   refine wpIn_skip ?_
   refine inb_n ?_
   refine ⟨oR_, ?_, ?_, ?_, ?_, ?_, ?_⟩
   ·
    (try dsimp only)
    all_goals (exact fun j hj => by rw [List.length_append, List.length_singleton] at hj; exact (Nat.lt_succ_iff_lt_or_eq.1 hj).elim (hC j) (fun e => by rw [e]; exact ce_))
   ·
    exact o26
   ·
    exact a13
   ·
    exact a17
   ·
    exact a25
   ·
    (try dsimp only)
    all_goals (exact (by rw [List.length_append, List.length_singleton]; exact hN.less (xx_or1 (xx_or1 (xx_or1 (xx_or1 (xx_or1 xx_id)))))))
  ·
   intro w1_ hI_ aD_
   obtain ⟨hC, o26, a13, a17, a25, hN⟩ := hI_
   replace hN := hN.less (Y := (Or1 D_ (Or1 b23 (Or1 e6 (Or1 e5 X))))) (xx_skip xx_id)
   replace hb := Ps.re (X' := (Or1 D_ (Or1 b23 (Or1 e6 (Or1 e5 (Ors L.S No)))))) hb o26 (or1_skip (or1_mono (or1_mono (ors_mono no_any)))) (xx_new (Nat.le_of_eq hD_) (xx_or1 (xx_or1 (xx_or1 (xx_ors xx_id)))))
   replace oW := oW.tail o26 (tl_new g_oW_e6 (tl_new g_oW_e5 (tl_sin (fun k h => h) tl_no)))
   have n_e5_D_ : e5 ≠ D_ := by omega
   have n_e6_D_ : e6 ≠ D_ := by omega
   have n_b23_D_ : b23 ≠ D_ := by omega
   have g_oW_D_ : W.heap.size ≤ D_ := by omega
   have g_o26_D_ : w21.heap.size ≤ D_ := by omega
   rw [plL_len] at hC
   replace hN := nd_to hN (show _ = (rowE bl s bl.length) from by rw [plL_len])
   refine inb_n (then_n ?_)
   refine wpIn_seq (plain ?_)
   refine wO (d_store s_ti45 rfl rfl rfl a17 (nb rfl) rfl) ?_
   rintro _ w33 ⟨a34, o35⟩
   replace hN := hN.stepb o35 (in2 (in2 in1))
   replace hb := hb.stepb o35 (in2 (in2 in1))
   replace a13 := a13.step o35 (fun e => absurd e n_e5_e6)
   replace a25 := a25.step o35 (fun e => absurd e (Ne.symm n_e6_b23))
   replace aD_ := aD_.step o35 (fun e => absurd e (Ne.symm n_e6_D_))
   replace oW := oW.tailb o35 g_oW_e6
   replace o26 := o26.tail o35 (fun k _ e => by have : k = e6 := e; rw [this]; exact in1)
   refine wpL.done (then_n ?_)
   refine wpIn_ret ?_
   refine leave (v := (eN 0)) (marks_ok aD_) (fun w36 o37 => ⟨resS Try.results54 ⟨_, Try.underlying45, rfl⟩ rfl (a34.step (only_mem o37) (fun e => absurd e n_e6_D_)), ?_⟩)
   replace o37 := only_mem o37
   replace hN := hN.stepb o37 in1
   replace hb := hb.stepb o37 in1
   replace a13 := a13.step o37 (fun e => absurd e n_e5_D_)
   replace a34 := a34.step o37 (fun e => absurd e n_e6_D_)
   replace a25 := a25.step o37 (fun e => absurd e n_b23_D_)
   replace oW := oW.tailb o37 g_oW_D_
   replace o26 := o26.tailb o37 g_o26_D_
   obtain ⟨e1_, e2_⟩ := do_all (T := rowE bl s) (C := rowEC bl s) k0 hC; exact ⟨congrArg eN e2_, e1_ ▸ (hN.less (xx_skip (xx_skip (xx_skip (xx_skip xx_id))))), oW⟩
  ·
   rintro c_ pre w1_ hpx_ ⟨rfl, ⟨hC2, hc2, hp2, o26, a13, a17, a25, hN⟩⟩ aD_
   replace hN := hN.less (Y := (Or1 D_ (Or1 b23 (Or1 e6 (Or1 e5 X))))) (xx_skip xx_id)
   replace hb := Ps.re (X' := (Or1 D_ (Or1 b23 (Or1 e6 (Or1 e5 (Ors L.S No)))))) hb o26 (or1_skip (or1_mono (or1_mono (ors_mono no_any)))) (xx_new (Nat.le_of_eq hD_) (xx_or1 (xx_or1 (xx_or1 (xx_ors xx_id)))))
   replace oW := oW.tail o26 (tl_new g_oW_e6 (tl_new g_oW_e5 (tl_sin (fun k h => h) tl_no)))
   have n_e5_D_ : e5 ≠ D_ := by omega
   have n_e6_D_ : e6 ≠ D_ := by omega
   have n_b23_D_ : b23 ≠ D_ := by omega
   have g_oW_D_ : W.heap.size ≤ D_ := by omega
   have g_o26_D_ : w21.heap.size ≤ D_ := by omega
   refine wpIn_ret ?_
   refine inb_r (then_r ?_)
   refine leave (v := (eN (rowEC bl s (pre.length - 1)))) (marks_ok aD_) (fun w38 o39 => ⟨resS Try.results54 ⟨_, Try.underlying45, rfl⟩ rfl (a17.step (only_mem o39) (fun e => absurd e n_e6_D_)), ?_⟩)
   replace o39 := only_mem o39
   replace hN := hN.stepb o39 in1
   replace hb := hb.stepb o39 in1
   replace a13 := a13.step o39 (fun e => absurd e n_e5_D_)
   replace a17 := a17.step o39 (fun e => absurd e n_e6_D_)
   replace a25 := a25.step o39 (fun e => absurd e n_b23_D_)
   replace oW := oW.tailb o39 g_oW_D_
   replace o26 := o26.tailb o39 g_o26_D_
   have e3_ : pre.length - 1 + 1 = pre.length := by omega
   have hpl_ := pl_len hpx_
   obtain ⟨e1_, e2_⟩ := do_one (T := rowE bl s) (C := rowEC bl s) k0 hC2 hc2 (by omega); rw [e3_] at e1_; exact ⟨congrArg eN e2_, e1_ ▸ (hN.less (xx_skip (xx_skip (xx_skip (xx_skip xx_id))))), oW⟩
 refine plain ?_
 refine wI (d_move rfl) ?_
 refine wI (d_lenS rfl Try.underlying23 rfl hb) ?_
 refine wI (d_move rfl) ?_
 refine wO (d_call (xl := [.tmp 12]) (al := [(ptr L.bN 0)]) Try.func84 (by kernel_rfl) rfl rfl rfl (geometry_ok L s _ hN)) ?_
 rintro _ w40 ⟨rfl, o41⟩
 replace hN := hN.step0 o41
 replace hb := hb.step0 o41
 replace a13 := a13.step0 o41
 replace a17 := a17.step0 o41
 replace oW := oW.tail0 o41
 refine wF ([(ptr L.bN 0), ub, (Value.func (.func 61) #[(ptr L.bN 0)] #[]), undef, undef, (ptr e5 0), (ptr e6 0), undef, undef, undef, ub, (eN bl.length), (ptr L.bN 0), (Value.agg #[(eN s.gD), (eN s.gB), (eN s.gP)])] ++ (us 13)) ?_
 refine wI (d_field (v := (eN s.gD)) Try.underlying49 rfl ⟨_, Try.underlying3, rfl⟩ rfl rfl) ?_
 refine wI (n_neq (a := bl.length) (b := s.gD) rfl rfl (by rw [decide_eq_false k0] <;> rfl)) ?_
 refine wpL.done (then_n ?_)
 refine cond_t rfl ?_
 refine wpIn_seq (plain ?_)
 refine wO (d_store s_ti45 rfl rfl rfl a17 (nb rfl) rfl) ?_
 rintro _ w42 ⟨a43, o44⟩
 replace hN := hN.stepb o44 in1
 replace hb := hb.stepb o44 in1
 replace a13 := a13.step o44 (fun e => absurd e n_e5_e6)
 replace oW := oW.tailb o44 g_oW_e6
 refine wpL.done (then_n ?_)
 refine wpIn_ret ?_
 refine then_r ?_
 refine leave0 (v := (eN 1)) (resS Try.results54 ⟨_, Try.underlying45, rfl⟩ rfl a43) ?_
 obtain ⟨e1_, e2_⟩ := do_no (T := rowE bl s) (C := rowEC bl s) k0; exact ⟨congrArg eN e2_, e1_ ▸ (hN.less (xx_skip (xx_skip xx_id))), oW⟩
set_option maxRecDepth 20000 in
set_option maxHeartbeats 1000000 in
theorem rowWrite_ok (L : NL) (s : NS) {X : Nat → Prop} (W : World) (hN : Nd L s X W) (hX : ∀ k, X k → k < W.heap.size) (bl : List Int) (ub : Value) (hb : Ps (Ors L.S No) (Seq kI bl ub) W) (gb : bl.length ≤ 1000) (n : Nat) (p : Int) (vs : List Value) (pl : Nat → List UInt8) (ul : Value) (hul : Ps (Ors L.S No) (Seq (kS eV) vs ul) W) (hfa : Ps (Ors L.S No) (Fam kB n pl vs) W) (hvs : vs.length = n) (gpl : ∀ j, (pl j).length ≤ 1048576) :
    CW Try.prog 32 #[(ptr L.bN 0), ub, (eI p), ul] W (Rt (fun u w => u = eN (rowWC s bl p pl n) ∧ Nd L (rowWS s bl p pl n) X w ∧ Only L.S W w)) := by
 have oW : Only L.S W W := Only.refl _ _
 refine enter (al := [(ptr L.bN 0), ub, (eI p), ul]) (k := 17) (l := ([(ptr L.bN 0), ub, (eI p), ul] ++ (us 17))) Try.func32 rfl Try.ntmps32 rfl rfl ?_
 refine wpIn_seq (plain ?_)
 refine wO (d_box rfl rfl) ?_
 rintro _ w11 ⟨cb, rfl, g12, a13, o14⟩
 have g_oW_cb : W.heap.size ≤ cb := Nat.le_trans oW.size g12
 replace hN := hN.new o14 g12
 replace hb := hb.new o14 g12
 replace hul := hul.new o14 g12
 replace hfa := hfa.new o14 g12
 replace oW := oW.tail0 o14
 refine wO (d_box rfl (Seq.cells hul)) ?_
 rintro _ w15 ⟨cc, rfl, g16, a17, o18⟩
 have n_cb_cc : cb ≠ cc := a13.ne g16
 have g_oW_cc : W.heap.size ≤ cc := Nat.le_trans oW.size g16
 replace hN := hN.new o18 g16
 replace hb := hb.new o18 g16
 replace hul := hul.new o18 g16
 replace hfa := hfa.new o18 g16
 replace a13 := a13.step0 o18
 replace oW := oW.tail0 o18
 refine wI (d_assign rfl) ?_
 refine wpL.done (then_n (wpIn_seq (wpIn_seq ?_)))
 by_cases k0 : vs.length = bl.length
 ·
  refine plain ?_
  refine wI (d_load (v := ul) ⟨_, Try.underlying29, rfl⟩ rfl a17 rfl) ?_
  refine wI (d_lenS rfl Try.underlying29 rfl hul) ?_
  refine wI (d_move rfl) ?_
  refine wF ([(ptr L.bN 0), ub, (eI p), ul, undef, undef, (ptr cb 0), (ptr cc 0), (eN 0), undef, ul, (eN vs.length), ub] ++ (us 8)) ?_
  refine wI (d_lenS rfl Try.underlying23 rfl hb) ?_
  refine wI (n_neq (a := vs.length) (b := bl.length) rfl rfl (by rw [decide_eq_true k0] <;> rfl)) ?_
  refine wpL.done (then_n ?_)
  refine cond_f rfl ?_
  refine wpIn_skip (then_n ?_)
  refine forget (fun zf19 => ([(ptr L.bN 0), ub, (zf19 2), (zf19 3), (zf19 4), (zf19 5), (ptr cb 0), (ptr cc 0)] ++ (zs zf19 8 13))) (by kernel_rfl) (fun zf19 => ?_)
  refine wpIn_seq (plain ?_)
  refine wI (d_move rfl) ?_
  refine wI (d_funcB (yl := [.tmp 15]) (ys := [(ptr L.bN 0)]) rfl) ?_
  refine wO (d_alloc s_ti88 rfl) ?_
  rintro _ w20 ⟨ca, rfl, g21, a22, o23⟩
  have n_cb_ca : cb ≠ ca := a13.ne g21
  have n_cc_ca : cc ≠ ca := a17.ne g21
  have g_oW_ca : W.heap.size ≤ ca := Nat.le_trans oW.size g21
  replace hN := hN.new o23 g21
  replace hb := hb.new o23 g21
  replace hul := hul.new o23 g21
  replace hfa := hfa.new o23 g21
  replace a13 := a13.step0 o23
  replace a17 := a17.step0 o23
  replace oW := oW.tail0 o23
  refine wO (d_store s_ti88 rfl rfl rfl a22 (nb rfl) rfl) ?_
  rintro _ w24 ⟨a25, o26⟩
  replace hN := hN.stepb o26 in1
  replace hb := hb.stepb o26 in1
  replace hul := hul.stepb o26 in1
  replace hfa := hfa.stepb o26 in1
  replace a13 := a13.step o26 (fun e => absurd e n_cb_ca)
  replace a17 := a17.step o26 (fun e => absurd e n_cc_ca)
  replace oW := oW.tailb o26 g_oW_ca
  refine wpL.done (then_n (wpIn_seq (plain ?_)))
  refine wI (d_move rfl) ?_
  refine wI (d_move rfl) ?_
  refine wF ([(ptr L.bN 0), ub, (zf19 2), (zf19 3), (zf19 4), (zf19 5), (ptr cb 0), (ptr cc 0), (zf19 8), (ptr ca 0)] ++ (zs zf19 10 5 ++ [(ptr L.bN 0), (Value.func (.func 53) #[(ptr L.bN 0)] #[]), (ptr L.bN 0), ub, (zf19 19), (zf19 20)])) ?_
  refine wI (d_funcL (yl := [.tmp 9, .tmp 6, .tmp 7]) (ys := [(ptr ca 0), (ptr cb 0), (ptr cc 0)]) rfl) ?_
  refine wO (d_call (xl := [.tmp 17, .tmp 18, .tmp 19]) (al := [(ptr L.bN 0), ub, (Value.func (.func 55) #[] #[(ptr ca 0), (ptr cb 0), (ptr cc 0)])]) Try.func54 (by kernel_rfl) rfl rfl rfl (eachW_ok L s _ hN (lt_or1 a25.lt (lt_or1 a17.lt (lt_or1 a13.lt (fun k t => Nat.lt_of_lt_of_le (hX k t) oW.size)))) bl ub (hb.less (os_of (sub2 (sub2 (sub2 sub1))))) (by first | omega | (simp; done) | (simp; omega)) n (by omega) p vs pl ul ca cb cc a25 in1 a13 (in2 (in2 in1)) a17 (in2 in1) (Ne.symm n_cb_ca) (Ne.symm n_cc_ca) n_cb_cc (hul.less (os_of (sub2 (sub2 (sub2 sub1))))) (hfa.less (os_of (sub2 (sub2 (sub2 sub1))))) hvs gpl)) ?_
  rintro _ w27 ⟨rfl, a29, o28⟩
  replace a13 := a13.step o28 (hN.dis _ (in2 (in2 in1)))
  replace a17 := a17.step o28 (hN.dis _ (in2 in1))
  replace a25 := a25.step o28 (hN.dis _ in1)
  replace hb := hb.step o28 (sub2 (sub2 (sub2 sub1)))
  replace hul := hul.step o28 (sub2 (sub2 (sub2 sub1)))
  replace hfa := hfa.step o28 (sub2 (sub2 (sub2 sub1)))
  replace oW := oW.tail o28 (fun k _ e => (fun k h => h) k e)
  replace hN := a29
  refine wI (d_assign rfl) ?_
  refine wpL.done (then_n ?_)
  refine forget (fun zf30 => (zs zf30 0 8 ++ [(eN (rowDoC s.gD bl.length (rowPC bl p pl s)))] ++ (zs zf30 9 12))) (by kernel_rfl) (fun zf30 => ?_)
  refine wpIn_ret ?_
  refine leave0 (v := (eN (rowDoC s.gD bl.length (rowPC bl p pl s)))) (res1 Try.results32 rfl) ?_
  rw [hvs] at k0
  exact ⟨congrArg eN (by unfold rowWC; rw [if_pos k0]), by unfold rowWS; rw [if_pos k0]; exact (hN.less (xx_skip (xx_skip (xx_skip xx_id)))), oW⟩
 refine plain ?_
 refine wI (d_load (v := ul) ⟨_, Try.underlying29, rfl⟩ rfl a17 rfl) ?_
 refine wI (d_lenS rfl Try.underlying29 rfl hul) ?_
 refine wI (d_move rfl) ?_
 refine wF ([(ptr L.bN 0), ub, (eI p), ul, undef, undef, (ptr cb 0), (ptr cc 0), (eN 0), undef, ul, (eN vs.length), ub] ++ (us 8)) ?_
 refine wI (d_lenS rfl Try.underlying23 rfl hb) ?_
 refine wI (n_neq (a := vs.length) (b := bl.length) rfl rfl (by rw [decide_eq_false k0] <;> rfl)) ?_
 refine wpL.done (then_n ?_)
 refine cond_t rfl ?_
 refine wpIn_seq (plain ?_)
 refine wI (d_assign rfl) ?_
 refine wpL.done (then_n ?_)
 refine forget (fun zf31 => (zs zf31 0 8 ++ [(eN 1)] ++ (zs zf31 9 12))) (by kernel_rfl) (fun zf31 => ?_)
 refine wpIn_ret ?_
 refine then_r ?_
 refine leave0 (v := (eN 1)) (res1 Try.results32 rfl) ?_
 rw [hvs] at k0
 exact ⟨congrArg eN (by unfold rowWC; rw [if_neg k0]), by unfold rowWS; rw [if_neg k0]; exact (hN.less (xx_skip (xx_skip xx_id))), oW⟩
set_option maxRecDepth 20000 in
set_option maxHeartbeats 1000000 in
theorem rowErase_ok (L : NL) (s : NS) {X : Nat → Prop} (W : World) (hN : Nd L s X W) (hX : ∀ k, X k → k < W.heap.size) (bl : List Int) (ub : Value) (hb : Ps (Ors L.S No) (Seq kI bl ub) W) (gb : bl.length ≤ 1000) :
    CW Try.prog 37 #[(ptr L.bN 0), ub] W (Rt (fun u w => u = eN (rowDoC s.gD bl.length (rowEC bl s)) ∧ Nd L (rowDo s.gD bl.length (rowE bl s) (rowEC bl s)) X w ∧ Only L.S W w)) := by
 have oW : Only L.S W W := Only.refl _ _
 refine enter (al := [(ptr L.bN 0), ub]) (k := 8) (l := ([(ptr L.bN 0), ub] ++ (us 8))) Try.func37 rfl Try.ntmps37 rfl rfl ?_
 refine wpIn_seq (plain ?_)
 refine wI (d_assign rfl) ?_
 refine wpL.done (then_n (wpIn_seq (plain ?_)))
 refine wI (d_move rfl) ?_
 refine wI (d_move rfl) ?_
 refine wI (d_move rfl) ?_
 refine wI (d_funcB (yl := [.tmp 7]) (ys := [(ptr L.bN 0)]) rfl) ?_
 refine wO (d_call (xl := [.tmp 5, .tmp 6, .tmp 8]) (al := [(ptr L.bN 0), ub, (Value.func (.func 61) #[(ptr L.bN 0)] #[])]) Try.func54 (by kernel_rfl) rfl rfl rfl (eachE_ok L s _ hN (fun k t => Nat.lt_of_lt_of_le (hX k t) oW.size) bl ub (hb.less (os_of sub1)) (by first | omega | (simp; done) | (simp; omega)))) ?_
 rintro _ w11 ⟨rfl, a13, o12⟩
 replace hb := hb.step o12 sub1
 replace oW := oW.tail o12 (fun k _ e => (fun k h => h) k e)
 replace hN := a13
 refine wF [(ptr L.bN 0), ub, undef, undef, (eN 0), (ptr L.bN 0), ub, (ptr L.bN 0), (Value.func (.func 61) #[(ptr L.bN 0)] #[]), (eN (rowDoC s.gD bl.length (rowEC bl s)))] ?_
 refine wI (d_assign rfl) ?_
 refine wpL.done (then_n ?_)
 refine wpIn_ret ?_
 refine leave0 (v := (eN (rowDoC s.gD bl.length (rowEC bl s)))) (res1 Try.results37 rfl) ?_
 exact ⟨rfl, hN, oW⟩
set_option maxRecDepth 20000 in
set_option maxHeartbeats 1000000 in
theorem read1_ok (L : NL) (s : NS) {X : Nat → Prop} (W : World) (hN : Nd L s X W) (hX : ∀ k, X k → k < W.heap.size) (d : Nat) (b p : Int) (bo : Option Nat) (uo : Value) (xs : List (Nat × Value)) (cn cp : Nat) (hcn : Arr 44 cn [(ptr L.bN 0)] W) (hX_cn : X cn) (hcp : Arr 3 cp [(eI p)] W) (hX_cp : X cp) (n_cn_cp : cn ≠ cp) (oc : Nat) (hoc : Arr 53 oc [uo] W) (hX_oc : X oc) (hro : Ow 32 2 bo uo (xs).length ((xs).flatMap eG) W) (hXq : ∀ k, bo = some k → X k) (n_cn_oc : cn ≠ oc) (n_cp_oc : cp ≠ oc) (nq_out_cn : ∀ x, bo = some x → ¬ x = cn) (nq_out_cp : ∀ x, bo = some x → ¬ x = cp) (nq_out_oc : ∀ x, bo = some x → ¬ x = oc) (gx : xs.length ≤ 1000) :
    CW Try.prog 56 #[(eN d), (eI b), (ptr cn 0), (ptr cp 0), (ptr oc 0)] W (Rt (fun u w => ∃ bo' u' v, u = eN (s.askR (s.readOk (d : Int) b p)) ∧ Nd L (s.ask (s.readOk (d : Int) b p)) (Orq bo' X) w ∧ Arr 53 oc [u'] w ∧ Ow 32 2 bo' u' (xs ++ [((pgD (s.readL (d : Int) b p)).1, v)]).length ((xs ++ [((pgD (s.readL (d : Int) b p)).1, v)]).flatMap eG) w ∧ Ps (Orq bo' (Old W.heap.size)) (Seq kB (pgD (s.readL (d : Int) b p)).2 v) w ∧ Fr bo' bo W.heap.size ∧ Only (Or1 oc (Orq bo L.S)) W w)) := by
 have oW : Only (Or1 oc (Orq bo L.S)) W W := Only.refl _ _
 refine enter (al := [(eN d), (eI b), (ptr cn 0), (ptr cp 0), (ptr oc 0)]) (k := 19) (l := ([(eN d), (eI b), (ptr cn 0), (ptr cp 0), (ptr oc 0)] ++ (us 19))) Try.func56 rfl Try.ntmps56 rfl rfl ?_
 replace hN : Nd L s (Orq bo (Or1 oc X)) W := Nd.less hN (fun k _ t => t.elim (hXq k) (fun t => t.elim (fun e => e ▸ hX_oc) id))
 have q_oW_out : Fr bo bo W.heap.size := Fr.same
 refine wpIn_seq (plain ?_)
 refine wI (d_assign rfl) ?_
 refine wpL.done (then_n (wpIn_seq ?_))
 have rl_ := readL_le hN.ok (d : Int) b p
 refine plain ?_
 refine wI (d_load (v := (ptr L.bN 0)) ⟨_, Try.underlying44, rfl⟩ rfl hcn rfl) ?_
 refine wI (d_move rfl) ?_
 refine wI (d_move rfl) ?_
 refine wI (d_load (v := (eI p)) ⟨_, Try.underlying3, rfl⟩ rfl hcp rfl) ?_
 refine wO (d_call (xl := [.tmp 11, .tmp 12, .tmp 13, .tmp 14]) (al := [(ptr L.bN 0), (eN d), (eI b), (eI p)]) Try.func57 (by kernel_rfl) rfl rfl rfl (read_ok L s _ hN (d : Int) b p (lt_orq hro.lts (lt_or1 hoc.lt (fun k t => Nat.lt_of_lt_of_le (hX k t) oW.size))))) ?_
 rintro _ w11 ⟨u13, rfl, f14, a15, o12⟩
 replace f14 := f14.less (Y := (Ors L.S (Orq bo (Or1 oc (Old W.heap.size))))) (ors_old hN.lt (orq_old hro.lts (or1_old hoc.lt (old_old oW.size))))
 replace hcn := hcn.step o12 (hN.dis _ (inq (in2 hX_cn)))
 replace hcp := hcp.step o12 (hN.dis _ (inq (in2 hX_cp)))
 replace hoc := hoc.step o12 (hN.dis _ (inq in1))
 replace hro := hro.step o12 (fun x hx => hN.dis x ((fun k e => (.inl e)) x hx))
 replace oW := oW.tail o12 (fun k _ e => (show ∀ k, L.S k → Or1 oc (Orq bo L.S) k from fun k h => .inr (.inr h)) k e)
 replace hN := a15
 refine wF ([(eN d), (eI b), (ptr cn 0), (ptr cp 0), (ptr oc 0), undef, undef, (eN 0), undef, undef, undef, (ptr L.bN 0), (eN d), (eI b), (eI p), (Value.tuple #[u13, (eN (s.askR (s.readOk (d : Int) b p)))])] ++ (us 8)) ?_
 refine wI (d_move rfl) ?_
 refine wI (d_extract (v := u13) rfl rfl) ?_
 refine wI (d_extract (v := (eN (s.askR (s.readOk (d : Int) b p)))) rfl rfl) ?_
 refine wI (d_assign rfl) ?_
 refine wI (d_assign rfl) ?_
 refine wpL.done (then_n ?_)
 refine forget (fun zf16 => ([(zf16 0), (zf16 1), (zf16 2), (zf16 3), (ptr oc 0), (zf16 5), (zf16 6), (zf16 7), u13, (eN (s.askR (s.readOk (d : Int) b p)))] ++ (zs zf16 10 8 ++ (us 5 ++ [(zf16 23)])))) (by kernel_rfl) (fun zf16 => ?_)
 refine wpIn_seq ?_
 refine drawnG (O := (Ors L.S (Orq bo (Or1 oc No)))) (n := 6) 0 [0, 0, 2, 6, 15, 31] [(0, 18), (1, 19), (2, 20), (3, 21), (4, 22)] [] [] [] (fun i_ => ([] : List (RF (Ors L.S (Orq bo (Or1 oc No))))).getD i_ (RF.any (Ors L.S (Orq bo (Or1 oc No))))) (fun _ w_ => Arr 44 cn [(ptr L.bN 0)] w_ ∧ Arr 3 cp [(eI p)] w_ ∧ Arr 53 oc [uo] w_ ∧ Ow 32 2 bo uo (xs).length ((xs).flatMap eG) w_ ∧ Nd L (s.ask (s.readOk (d : Int) b p)) (Orq bo (Or1 oc X)) w_) (fun v17 => ([(zf16 0), (zf16 1), (zf16 2), (zf16 3), (ptr oc 0), (zf16 5), (zf16 6), (zf16 7), u13, (eN (s.askR (s.readOk (d : Int) b p)))] ++ (zs zf16 10 8 ++ [(v17 0), (v17 1), (v17 2), (v17 3), (v17 4), (zf16 23)]))) (fun v17 => ([(zf16 0), (zf16 1), (zf16 2), (zf16 3), (ptr oc 0), (zf16 5), (zf16 6), (zf16 7), u13, (eN (s.askR (s.readOk (d : Int) b p)))] ++ (zs zf16 10 8 ++ (us 5 ++ [(zf16 23)])))) s_mx (by kernel_rfl) rfl (by decide) (by rfl) (by kernel_rfl) (by kernel_rfl) (by kernel_rfl) (by rfl) (fun v_ => by kernel_rfl) (fun v_ => by kernel_rfl) (fun _ => fun w_ w2_ h ho => by obtain ⟨r_hcn, r_hcp, r_hoc, r_hro, r_hN⟩ := h; exact ⟨r_hcn.step0 ho, r_hcp.step0 ho, r_hoc.step0 ho, r_hro.step0 ho, r_hN.step0 ho⟩) ⟨hcn, hcp, hoc, hro, hN⟩ ?_ ?_ ?_
 ·
  exact ls_nil
 ·
  exact ms_nil
 intro v17 lo_ hi_ w18 o19 hd hR
 clear hd lo_ hi_
 replace f14 := f14.step o19 (ors_mono (orq_mono (or1_mono no_any)))
 obtain ⟨xr_hcn, xr_hcp, xr_hoc, xr_hro, xr_hN⟩ := hR
 replace hcn : Arr 44 cn [(ptr L.bN 0)] w18 := xr_hcn
 replace hcp : Arr 3 cp [(eI p)] w18 := xr_hcp
 replace hoc : Arr 53 oc [uo] w18 := xr_hoc
 replace hro : Ow 32 2 bo uo (xs).length ((xs).flatMap eG) w18 := xr_hro
 replace hN := xr_hN
 clear xr_hcn xr_hcp xr_hoc xr_hro xr_hN
 replace oW := oW.tail o19 (tl_sin (show ∀ k, L.S k → Or1 oc (Orq bo L.S) k from fun k h => .inr (.inr h)) (tl_q q_oW_out (fun k e => .inr (.inl e)) (tl_in (.inl rfl) tl_no)))
 refine rest_seg (n := 6) (p := 0) (q := 5) [0, 1] [2, 3, 4] [(0, 18), (1, 19)] [(0, 18), (1, 19), (2, 20), (3, 21), (4, 22)] [0, 0, 2, 6, 15, 31] (fun i_ => nth [uo, u13] i_) ([(zf16 0), (zf16 1), (zf16 2), (zf16 3), (ptr oc 0), (zf16 5), (zf16 6), (zf16 7), u13, (eN (s.askR (s.readOk (d : Int) b p)))] ++ (zs zf16 10 8 ++ [uo, u13, undef, undef, undef, (zf16 23)])) (fun w_ => Ps (Ors L.S (Or1 oc (Old W.heap.size))) (Seq kB (s.readL (d : Int) b p) u13) w_ ∧ Arr 44 cn [(ptr L.bN 0)] w_ ∧ Arr 3 cp [(eI p)] w_ ∧ Arr 53 oc [uo] w_ ∧ True) (by kernel_rfl) rfl (by decide) (by kernel_rfl) (by kernel_rfl) (by rfl) (by kernel_rfl) (by kernel_rfl) (by kernel_rfl) (by kernel_rfl) (by kernel_rfl) (by decide) ?_ ?_
 ·
  rintro w_ ⟨f14, hcn, hcp, hoc, _⟩
  refine fl_cons ⟨_, rfl, gd rfl (d_load (v := uo) ⟨_, Try.underlying53, rfl⟩ rfl hoc rfl)⟩ ?_
  refine fl_cons ⟨_, rfl, gd rfl (d_move rfl)⟩ ?_
  exact fl_nil
 refine wJ.op ⟨f14.less (xx_ors (xx_skip (xx_or1 xx_id))), hcn, hcp, hoc, trivial⟩ rfl rfl (d_call (xl := [.tmp 19]) (al := [u13]) Try.func21 (by kernel_rfl) rfl rfl rfl (pageDecode_ok (s.readL (d : Int) b p) u13 _ (Ps.no f14) (by first | omega | (simp; done) | (simp; omega)))) ?_
 rintro _ w20 ⟨u22, rfl, f23, o21⟩
 replace f23 := f23.less (Y := (Ors L.S (Orq bo (Or1 oc (Old W.heap.size))))) (ors_old hN.lt (orq_old hro.lts (or1_old hoc.lt (old_old oW.size))))
 replace hN := hN.step0 o21
 replace f14 := f14.step0 o21
 replace hcn := hcn.step0 o21
 replace hcp := hcp.step0 o21
 replace hoc := hoc.step0 o21
 replace hro := hro.step0 o21
 replace oW := oW.tail0 o21
 refine wJ.flat ([(zf16 0), (zf16 1), (zf16 2), (zf16 3), (ptr oc 0), (zf16 5), (zf16 6), (zf16 7), u13, (eN (s.askR (s.readOk (d : Int) b p)))] ++ (zs zf16 10 8 ++ [uo, u13, (Value.agg #[(eN ((pgD (s.readL (d : Int) b p)).1)), u22]), undef, undef, (zf16 23)])) (by kernel_rfl) ?_
 refine wJ.op ⟨f14.less (xx_ors (xx_skip (xx_or1 xx_id))), hcn, hcp, hoc, trivial⟩ rfl rfl (d_buildL2 (zs := [(eN 0), (Value.slice none 0 0)]) (cs := [(eN ((pgD (s.readL (d : Int) b p)).1)), u22]) Try.underlying53 s_ti32 made_pg (nb rfl) (parts_cons (vs := [(eN ((pgD (s.readL (d : Int) b p)).1)), u22]) (cells_of (v := (Value.agg #[(eN ((pgD (s.readL (d : Int) b p)).1)), u22])) rfl rfl) parts_nil) rfl) ?_
 rintro _ w24 ⟨pb, rfl, g25, a26, o27⟩
 have n_cn_pb : cn ≠ pb := hcn.ne g25
 have n_cp_pb : cp ≠ pb := hcp.ne g25
 have n_oc_pb : oc ≠ pb := hoc.ne g25
 have nq_out_pb : ∀ x, bo = some x → ¬ x = pb := fun x hx e => by have := hro.lts x hx; omega
 have g_oW_pb : W.heap.size ≤ pb := Nat.le_trans oW.size g25
 replace hN := hN.new o27 g25
 replace f14 := f14.new o27 g25
 replace f23 := f23.new o27 g25
 replace hcn := hcn.step0 o27
 replace hcp := hcp.step0 o27
 replace hoc := hoc.step0 o27
 replace hro := hro.step0 o27
 replace oW := oW.tail0 o27
 refine wJ.flat ([(zf16 0), (zf16 1), (zf16 2), (zf16 3), (ptr oc 0), (zf16 5), (zf16 6), (zf16 7), u13, (eN (s.askR (s.readOk (d : Int) b p)))] ++ (zs zf16 10 8 ++ [uo, u13, (Value.agg #[(eN ((pgD (s.readL (d : Int) b p)).1)), u22]), (sli pb 0 1 1), undef, (zf16 23)])) (by kernel_rfl) ?_
 refine wJ.op ⟨f14.less (xx_skip (xx_ors (xx_skip (xx_or1 xx_id)))), hcn, hcp, hoc, trivial⟩ rfl rfl (d_append Try.underlying53 Try.underlying53 s_ti32 rfl rfl rfl hro (SrcV.of_arr (n := 1) (sz := 2) a26 rfl (one_eG (Seq.one f23))) (by omega) (by omega) rfl) ?_
 rintro u28 w29 ⟨bo30, a31, o32, q33⟩
 replace a31 : Ow 32 2 bo30 u28 (xs ++ [((pgD (s.readL (d : Int) b p)).1, u22)]).length ((xs ++ [((pgD (s.readL (d : Int) b p)).1, u22)]).flatMap eG) w29 := ow_appG (xs := xs) a31 rfl rfl
 replace hN := hN.gr o32 (fun k e => (.inr (.inl e))) (xx_or1 (xx_re (Fr.of_or q33) (xx_or1 xx_id)))
 replace f14 := f14.gr o32 (fun k e => (.inr (.inr (.inl e)))) (xx_or1 (xx_ors (xx_re (Fr.of_or q33) (xx_or1 xx_id))))
 replace f23 := f23.gr o32 (fun k e => (.inr (.inr (.inl e)))) (xx_or1 (xx_ors (xx_re (Fr.of_or q33) (xx_or1 xx_id))))
 have nq2 := nqs nq_out_cn (Fr.of_or q33) hcn.lt
 replace hcn := hcn.step o32 (fun e => nq_out_cn _ e rfl)
 replace nq_out_cn := nq2
 clear nq2
 have nq2 := nqs nq_out_cp (Fr.of_or q33) hcp.lt
 replace hcp := hcp.step o32 (fun e => nq_out_cp _ e rfl)
 replace nq_out_cp := nq2
 clear nq2
 have nq2 := nqs nq_out_oc (Fr.of_or q33) hoc.lt
 replace hoc := hoc.step o32 (fun e => nq_out_oc _ e rfl)
 replace nq_out_oc := nq2
 clear nq2
 have nq2 := nqs nq_out_pb (Fr.of_or q33) a26.lt
 replace a26 := a26.step o32 (fun e => nq_out_pb _ e rfl)
 replace nq_out_pb := nq2
 clear nq2
 have tq := oW.size
 replace oW := oW.tailr o32 q_oW_out (fun k e => .inr (.inl e))
 replace q_oW_out := qtr (Fr.of_or q33) q_oW_out tq
 clear tq
 refine wJ.flat ([(zf16 0), (zf16 1), (zf16 2), (zf16 3), (ptr oc 0), (zf16 5), (zf16 6), (zf16 7), u13, (eN (s.askR (s.readOk (d : Int) b p)))] ++ (zs zf16 10 8 ++ [uo, u13, (Value.agg #[(eN ((pgD (s.readL (d : Int) b p)).1)), u22]), (sli pb 0 1 1), u28, (zf16 23)])) (by kernel_rfl) ?_
 refine wJ.done ⟨f14.less (xx_skip (xx_ors (xx_skip (xx_or1 xx_id)))), hcn, hcp, hoc, trivial⟩ ?_
 refine rest_seg (n := 6) (p := 5) (q := 6) [] [5] [] [(0, 18), (1, 19), (2, 20), (3, 21), (4, 22)] [0, 0, 2, 6, 15, 31] (fun i_ => nth [] i_) ([(zf16 0), (zf16 1), (zf16 2), (zf16 3), (ptr oc 0), (zf16 5), (zf16 6), (zf16 7), u13, (eN (s.askR (s.readOk (d : Int) b p)))] ++ (zs zf16 10 8 ++ [uo, u13, (Value.agg #[(eN ((pgD (s.readL (d : Int) b p)).1)), u22]), (sli pb 0 1 1), u28, (zf16 23)])) (fun w_ => Ps (Or1 pb (Ors L.S (Or1 oc (Old W.heap.size)))) (Seq kB (s.readL (d : Int) b p) u13) w_ ∧ Ps (Or1 pb (Ors L.S (Or1 oc (Old W.heap.size)))) (Seq kB ((pgD (s.readL (d : Int) b p)).2) u22) w_ ∧ True) (by kernel_rfl) rfl (by decide) (by kernel_rfl) (by kernel_rfl) (by rfl) (by kernel_rfl) (by kernel_rfl) (by kernel_rfl) (by kernel_rfl) (by kernel_rfl) (by decide) ?_ ?_
 ·
  rintro w_ ⟨f14, f23, _⟩
  exact fl_nil
 refine wJ.op ⟨f14.less (xx_or1 (xx_ors (xx_skip (xx_or1 xx_id)))), f23.less (xx_or1 (xx_ors (xx_skip (xx_or1 xx_id)))), trivial⟩ rfl rfl (d_store s_ti53 rfl rfl (Ow.one a31) hoc (nb rfl) rfl) ?_
 rintro _ w34 ⟨a35, o36⟩
 replace hN := hN.stepb o36 (in2 (inq in1))
 replace f14 := f14.stepb o36 (in2 (inS (inq in1)))
 replace f23 := f23.stepb o36 (in2 (inS (inq in1)))
 replace hcn := hcn.step o36 (fun e => absurd e n_cn_oc)
 replace hcp := hcp.step o36 (fun e => absurd e n_cp_oc)
 replace a26 := a26.step o36 (fun e => absurd e (Ne.symm n_oc_pb))
 replace a31 := a31.step o36 (fun x hx e => nq_out_oc x hx e)
 replace oW := oW.tail o36 (fun k _ e => by have : k = oc := e; rw [this]; exact (.inl rfl))
 refine wJ.flat ([(zf16 0), (zf16 1), (zf16 2), (zf16 3), (ptr oc 0), (zf16 5), (zf16 6), (zf16 7), u13, (eN (s.askR (s.readOk (d : Int) b p)))] ++ (zs zf16 10 8 ++ [uo, u13, (Value.agg #[(eN ((pgD (s.readL (d : Int) b p)).1)), u22]), (sli pb 0 1 1), u28, (zf16 23)])) (by kernel_rfl) ?_
 refine wJ.done ⟨f14.less (xx_or1 (xx_ors (xx_skip (xx_or1 xx_id)))), f23.less (xx_or1 (xx_ors (xx_skip (xx_or1 xx_id)))), trivial⟩ ?_
 refine rest_done rfl ?_
 refine then_n (wpIn_seq (plain ?_))
 refine wI (d_move rfl) ?_
 refine wI (d_assign rfl) ?_
 refine wpL.done (then_n ?_)
 refine forget (fun zf37 => (zs zf37 0 7 ++ [(eN (s.askR (s.readOk (d : Int) b p)))] ++ (zs zf37 8 16))) (by kernel_rfl) (fun zf37 => ?_)
 refine wpIn_ret ?_
 refine leave0 (v := (eN (s.askR (s.readOk (d : Int) b p)))) (res1 Try.results56 rfl) ?_
 exact ⟨_, _, u22, rfl, (hN.less (xx_skip (xx_orq (xx_skip xx_id)))), a35, a31, (f23.less (xx_skip (xx_skip (xx_orq (xx_skip xx_id))))), q_oW_out, oW⟩
set_option maxRecDepth 20000 in
set_option maxHeartbeats 1000000 in
theorem eachR_ok (L : NL) (s : NS) {X : Nat → Prop} (W : World) (hN : Nd L s X W) (hX : ∀ k, X k → k < W.heap.size) (bl : List Int) (ub : Value) (hb : Ps (Ors L.S No) (Seq kI bl ub) W) (gb : bl.length ≤ 1000) (p : Int) (bo : Option Nat) (uo : Value) (cn cp : Nat) (hcn : Arr 44 cn [(ptr L.bN 0)] W) (hX_cn : X cn) (hcp : Arr 3 cp [(eI p)] W) (hX_cp : X cp) (n_cn_cp : cn ≠ cp) (oc : Nat) (hoc : Arr 53 oc [uo] W) (hX_oc : X oc) (hro : Ow 32 2 bo uo (([] : List (Nat × Value))).length ((([] : List (Nat × Value))).flatMap eG) W) (hXq : ∀ k, bo = some k → X k) (n_cn_oc : cn ≠ oc) (n_cp_oc : cp ≠ oc) (nq_out_cn : ∀ x, bo = some x → ¬ x = cn) (nq_out_cp : ∀ x, bo = some x → ¬ x = cp) (nq_out_oc : ∀ x, bo = some x → ¬ x = oc) (hb2 : Ps (Ors L.S (Orq bo (Or1 oc No))) (Seq kI bl ub) W) :
    CW Try.prog 54 #[(ptr L.bN 0), ub, (Value.func (.func 56) #[] #[(ptr cn 0), (ptr cp 0), (ptr oc 0)])] W (Rt (fun u w => ∃ bo' u' vs, u = eN (rowDoC s.gD bl.length (rowRC bl p s)) ∧ Nd L (rowDo s.gD bl.length (rowR bl p s) (rowRC bl p s)) (Orq bo' X) w ∧ Arr 53 oc [u'] w ∧ Ow 32 2 bo' u' (pgRow (fun k_ => (pgD (rowRL bl p s k_)).1) vs).length ((pgRow (fun k_ => (pgD (rowRL bl p s k_)).1) vs).flatMap eG) w ∧ Ps (Orq bo' (Old W.heap.size)) (Fam kB vs.length (fun k_ => (pgD (rowRL bl p s k_)).2) vs) w ∧ (rowDoC s.gD bl.length (rowRC bl p s) = 0 → vs.length = bl.length) ∧ Fr bo' bo W.heap.size ∧ Only (Or1 oc (Orq bo L.S)) W w)) := by
 have oW : Only (Or1 oc (Orq bo L.S)) W W := Only.refl _ _
 refine enter (al := [(ptr L.bN 0), ub, (Value.func (.func 56) #[] #[(ptr cn 0), (ptr cp 0), (ptr oc 0)])]) (k := 24) (l := ([(ptr L.bN 0), ub, (Value.func (.func 56) #[] #[(ptr cn 0), (ptr cp 0), (ptr oc 0)])] ++ (us 24))) Try.func54 rfl Try.ntmps54 rfl rfl ?_
 replace hN : Nd L s (Orq bo (Or1 oc X)) W := Nd.less hN (fun k _ t => t.elim (hXq k) (fun t => t.elim (fun e => e ▸ hX_oc) id))
 have q_oW_out : Fr bo bo W.heap.size := Fr.same
 replace hb : Ps (Ors L.S (Orq bo (Or1 oc No))) (Seq kI bl ub) W := hb2
 refine wpIn_seq (plain ?_)
 refine wO (d_box rfl rfl) ?_
 rintro _ w11 ⟨e5, rfl, g12, a13, o14⟩
 have n_cn_e5 : cn ≠ e5 := hcn.ne g12
 have n_cp_e5 : cp ≠ e5 := hcp.ne g12
 have n_oc_e5 : oc ≠ e5 := hoc.ne g12
 have nq_out_e5 : ∀ x, bo = some x → ¬ x = e5 := fun x hx e => by have := hro.lts x hx; omega
 have g_oW_e5 : W.heap.size ≤ e5 := Nat.le_trans oW.size g12
 replace hN := hN.new o14 g12
 replace hb := hb.new o14 g12
 replace hcn := hcn.step0 o14
 replace hcp := hcp.step0 o14
 replace hoc := hoc.step0 o14
 replace hro := hro.step0 o14
 replace oW := oW.tail0 o14
 refine wO (d_alloc s_ti45 rfl) ?_
 rintro _ w15 ⟨e6, rfl, g16, a17, o18⟩
 have n_cn_e6 : cn ≠ e6 := hcn.ne g16
 have n_cp_e6 : cp ≠ e6 := hcp.ne g16
 have n_oc_e6 : oc ≠ e6 := hoc.ne g16
 have n_e5_e6 : e5 ≠ e6 := a13.ne g16
 have nq_out_e6 : ∀ x, bo = some x → ¬ x = e6 := fun x hx e => by have := hro.lts x hx; omega
 have g_oW_e6 : W.heap.size ≤ e6 := Nat.le_trans oW.size g16
 replace hN := hN.new o18 g16
 replace hb := hb.new o18 g16
 replace hcn := hcn.step0 o18
 replace hcp := hcp.step0 o18
 replace hoc := hoc.step0 o18
 replace a13 := a13.step0 o18
 replace hro := hro.step0 o18
 replace oW := oW.tail0 o18
 refine wpL.done (then_n (wpIn_seq (wpIn_seq ?_)))
 by_cases k0 : bl.length = s.gD
 ·
  refine plain ?_
  refine wI (d_move rfl) ?_
  refine wI (d_lenS rfl Try.underlying23 rfl hb) ?_
  refine wI (d_move rfl) ?_
  refine wO (d_call (xl := [.tmp 12]) (al := [(ptr L.bN 0)]) Try.func84 (by kernel_rfl) rfl rfl rfl (geometry_ok L s _ hN)) ?_
  rintro _ w19 ⟨rfl, o20⟩
  replace hN := hN.step0 o20
  replace hb := hb.step0 o20
  replace hcn := hcn.step0 o20
  replace hcp := hcp.step0 o20
  replace hoc := hoc.step0 o20
  replace a13 := a13.step0 o20
  replace a17 := a17.step0 o20
  replace hro := hro.step0 o20
  replace oW := oW.tail0 o20
  refine wF ([(ptr L.bN 0), ub, (Value.func (.func 56) #[] #[(ptr cn 0), (ptr cp 0), (ptr oc 0)]), undef, undef, (ptr e5 0), (ptr e6 0), undef, undef, undef, ub, (eN bl.length), (ptr L.bN 0), (Value.agg #[(eN s.gD), (eN s.gB), (eN s.gP)])] ++ (us 13)) ?_
  refine wI (d_field (v := (eN s.gD)) Try.underlying49 rfl ⟨_, Try.underlying3, rfl⟩ rfl rfl) ?_
  refine wI (n_neq (a := bl.length) (b := s.gD) rfl rfl (by rw [decide_eq_true k0] <;> rfl)) ?_
  refine wpL.done (then_n ?_)
  refine cond_f rfl ?_
  refine wpIn_skip (then_n (wpIn_seq (wpIn_seq (plain ?_))))
  refine wI (d_move rfl) ?_
  refine wO (d_call (xl := [.tmp 16]) (al := [ub]) Try.func85 (by kernel_rfl) rfl rfl rfl (placed_ok bl ub _ (Ps.no hb))) ?_
  rintro _ w21 ⟨b23, rfl, g24, a25, o22⟩
  have n_cn_b23 : cn ≠ b23 := hcn.ne g24
  have n_cp_b23 : cp ≠ b23 := hcp.ne g24
  have n_oc_b23 : oc ≠ b23 := hoc.ne g24
  have n_e5_b23 : e5 ≠ b23 := a13.ne g24
  have n_e6_b23 : e6 ≠ b23 := a17.ne g24
  have nq_out_b23 : ∀ x, bo = some x → ¬ x = b23 := fun x hx e => by have := hro.lts x hx; omega
  have g_oW_b23 : W.heap.size ≤ b23 := Nat.le_trans oW.size g24
  replace hN := hN.new o22 g24
  replace hb := hb.new o22 g24
  replace hcn := hcn.step0 o22
  replace hcp := hcp.step0 o22
  replace hoc := hoc.step0 o22
  replace a13 := a13.step0 o22
  replace a17 := a17.step0 o22
  replace hro := hro.step0 o22
  replace oW := oW.tail0 o22
  refine wpL.done (then_n (wpIn_block ?_))
  refine wp_eq (l' := ([(ptr L.bN 0), ub, (Value.func (.func 56) #[] #[(ptr cn 0), (ptr cp 0), (ptr oc 0)]), undef, undef, (ptr e5 0), (ptr e6 0), undef, undef, undef, ub, (eN bl.length), (ptr L.bN 0), (Value.agg #[(eN s.gD), (eN s.gB), (eN s.gP)]), (eN s.gD), (Value.bool false), ub, (Value.func (.func 106) #[] #[(ptr b23 0)])] ++ (us 9))) rfl ?_
  have h_lt_cn := hcn.lt
  have h_lt_cp := hcp.lt
  have h_lt_oc := hoc.lt
  have h_lt_e5 := a13.lt
  have h_lt_e6 := a17.lt
  have h_lt_b23 := a25.lt
  have h_lts_out := hro.lts
  have tq_oW := oW.size
  have nO_b23 : ¬ (Or1 e6 (Or1 e5 (Ors L.S (Orq bo (Or1 oc No))))) b23 := (not_or1 (Ne.symm n_e6_b23) (not_or1 (Ne.symm n_e5_b23) (not_ors (hN.dis _ in1) (not_orq (fun x hx e => nq_out_b23 x hx e) (not_or1 (Ne.symm n_oc_b23) not_no)))))
  obtain ⟨D_, hD_⟩ : ∃ D_, w21.heap.size = D_ := ⟨_, rfl⟩
  obtain ⟨L_, hL_⟩ : ∃ L_, w21.heap.size + 1 = L_ := ⟨_, rfl⟩
  refine range_ (encs := (fun k => [eN k.1, eI k.2])) (Pv := No) (O := (Or1 e6 (Or1 e5 (Ors L.S (Orq bo (Or1 oc No)))))) (xs := (plL bl)) (D := D_) (L := L_) (rs := []) hD_ hL_ rfl Try.func106 (by kernel_rfl) rfl (iter_placed bl ub b23 a25 nO_b23 hb (or1_skip (or1_mono (or1_mono (ors_mono (orq_mono (or1_mono no_any)))))) (by first | omega | (simp; done) | (simp; omega))) (fun k t => t.elim) (fun _ => rfl) (lt_or1 h_lt_e6 (lt_or1 h_lt_e5 (lt_ors hN.lt (lt_orq h_lts_out (lt_or1 h_lt_oc lt_no))))) (fun (pre : List (Nat × Int)) (w_ : World) => ∃ (vs : List Value) (bo_out : Option Nat) (u_out : Value), (∀ j, j < pre.length → rowRC bl p s j = 0) ∧ (vs.length = pre.length) ∧ Only (Or1 e6 (Or1 e5 (Ors L.S (Orq bo (Or1 oc No))))) w21 w_ ∧ Arr 44 cn [(ptr L.bN 0)] w_ ∧ Arr 3 cp [(eI p)] w_ ∧ Arr 53 oc [u_out] w_ ∧ Arr 90 e5 [(Value.func (.func 56) #[] #[(ptr cn 0), (ptr cp 0), (ptr oc 0)])] w_ ∧ Arr 45 e6 [(eN 0)] w_ ∧ Arr 23 b23 [ub] w_ ∧ Ow 32 2 bo_out u_out (pgRow (fun k_ => (pgD (rowRL bl p s k_)).1) vs).length ((pgRow (fun k_ => (pgD (rowRL bl p s k_)).1) vs).flatMap eG) w_ ∧ Fr bo_out bo w21.heap.size ∧ (∀ x, bo_out = some x → ¬ x = D_) ∧ (∀ x, bo_out = some x → ¬ x = L_) ∧ Nd L (rowR bl p s pre.length) (Or1 L_ (Or1 D_ (Or1 b23 (Or1 e6 (Or1 e5 (Orq bo_out (Or1 oc X))))))) w_ ∧ Ps (Or1 L_ (Or1 D_ (Or1 b23 (Or1 e6 (Or1 e5 (Ors L.S (Orq bo_out (Or1 oc (Old W.heap.size))))))))) (Fam kB pre.length (fun k_ => (pgD (rowRL bl p s k_)).2) vs) w_) (fun c_ (pre : List (Nat × Int)) (w_ : World) => c_ = Code.ret ∧ (∃ (vs : List Value) (bo_out : Option Nat) (u_out : Value), (∀ j, j < pre.length - 1 → rowRC bl p s j = 0) ∧ (¬ rowRC bl p s (pre.length - 1) = 0) ∧ (0 < pre.length) ∧ (vs.length = pre.length) ∧ Only (Or1 e6 (Or1 e5 (Ors L.S (Orq bo (Or1 oc No))))) w21 w_ ∧ Arr 44 cn [(ptr L.bN 0)] w_ ∧ Arr 3 cp [(eI p)] w_ ∧ Arr 53 oc [u_out] w_ ∧ Arr 90 e5 [(Value.func (.func 56) #[] #[(ptr cn 0), (ptr cp 0), (ptr oc 0)])] w_ ∧ Arr 45 e6 [(eN (rowRC bl p s (pre.length - 1)))] w_ ∧ Arr 23 b23 [ub] w_ ∧ Ow 32 2 bo_out u_out (pgRow (fun k_ => (pgD (rowRL bl p s k_)).1) vs).length ((pgRow (fun k_ => (pgD (rowRL bl p s k_)).1) vs).flatMap eG) w_ ∧ Fr bo_out bo w21.heap.size ∧ (∀ x, bo_out = some x → ¬ x = D_) ∧ (∀ x, bo_out = some x → ¬ x = L_) ∧ Nd L (rowR bl p s pre.length) (Or1 L_ (Or1 D_ (Or1 b23 (Or1 e6 (Or1 e5 (Orq bo_out (Or1 oc X))))))) w_ ∧ Ps (Or1 L_ (Or1 D_ (Or1 b23 (Or1 e6 (Or1 e5 (Ors L.S (Orq bo_out (Or1 oc (Old W.heap.size))))))))) (Fam kB pre.length (fun k_ => (pgD (rowRL bl p s k_)).2) vs) w_)) ?_ ?_ ?_ ?_ ?_ ?_
  ·
   rintro pre w_ w2_ ⟨vs, bo_out, u_out, hC, hvl, o26, hcn, hcp, hoc, a13, a17, a25, hro, qq_out, nq_out_D_, nq_out_L_, hN, hFam⟩ ho_
   exact ⟨vs, bo_out, u_out, hC, hvl, o26.tail ho_ (stab_tl hD_ hL_ (fun k t => t.elim)), hcn.step ho_ (stab_b hD_ hL_ h_lt_cn (fun t => t.elim)), hcp.step ho_ (stab_b hD_ hL_ h_lt_cp (fun t => t.elim)), hoc.step ho_ (stab_b hD_ hL_ h_lt_oc (fun t => t.elim)), a13.step ho_ (stab_b hD_ hL_ h_lt_e5 (fun t => t.elim)), a17.step ho_ (stab_b hD_ hL_ h_lt_e6 (fun t => t.elim)), a25.step ho_ (stab_b hD_ hL_ h_lt_b23 (fun t => t.elim)), hro.step ho_ (stab_q nq_out_D_ nq_out_L_ (fun b hb t => t.elim)), qq_out, nq_out_D_, nq_out_L_, hN.step ho_ (stab_p (fun k t => t.elim)), hFam.step ho_ (stab_p (fun k t => t.elim))⟩
  ·
   rintro c_ pre w_ w2_ ⟨hc_, ⟨vs, bo_out, u_out, hC2, hc2, hp2, hvl, o26, hcn, hcp, hoc, a13, a17, a25, hro, qq_out, nq_out_D_, nq_out_L_, hN, hFam⟩⟩ ho_
   exact ⟨hc_, ⟨vs, bo_out, u_out, hC2, hc2, hp2, hvl, o26.tail ho_ (stab_tl hD_ hL_ (fun k t => t.elim)), hcn.step ho_ (stab_b hD_ hL_ h_lt_cn (fun t => t.elim)), hcp.step ho_ (stab_b hD_ hL_ h_lt_cp (fun t => t.elim)), hoc.step ho_ (stab_b hD_ hL_ h_lt_oc (fun t => t.elim)), a13.step ho_ (stab_b hD_ hL_ h_lt_e5 (fun t => t.elim)), a17.step ho_ (stab_b hD_ hL_ h_lt_e6 (fun t => t.elim)), a25.step ho_ (stab_b hD_ hL_ h_lt_b23 (fun t => t.elim)), hro.step ho_ (stab_q nq_out_D_ nq_out_L_ (fun b hb t => t.elim)), qq_out, nq_out_D_, nq_out_L_, hN.step ho_ (stab_p (fun k t => t.elim)), hFam.step ho_ (stab_p (fun k t => t.elim))⟩⟩
  ·
   refine ⟨[], bo, uo, ?_, ?_, ?_, ?_, ?_, ?_, ?_, ?_, ?_, ?_, ?_, ?_, ?_, ?_, ?_⟩
   ·
    exact fun j hj => absurd hj (Nat.not_lt_zero j)
   ·
    exact rfl
   ·
    exact Only.refl _ _
   ·
    exact hcn
   ·
    exact hcp
   ·
    exact hoc
   ·
    exact a13
   ·
    exact a17
   ·
    exact a25
   ·
    exact hro
   ·
    exact Fr.same
   ·
    (try dsimp only)
    all_goals (exact fun x hx e => by have := h_lts_out x hx; omega)
   ·
    (try dsimp only)
    all_goals (exact fun x hx e => by have := h_lts_out x hx; omega)
   ·
    exact Nd.less (hN : Nd L (rowR bl p s 0) _ _) (xx_new (by omega) (xx_new (Nat.le_of_eq hD_) xx_id))
   ·
    exact fam_zero
  ·
   intro pre k w1_ hpx_ hI_ hL1_
   obtain ⟨vs, bo_out, u_out, hC, hvl, o26, hcn, hcp, hoc, a13, a17, a25, hro, qq_out, nq_out_D_, nq_out_L_, hN, hFam⟩ := hI_
   replace hb := Ps.re (X' := (Or1 L_ (Or1 D_ (Or1 b23 (Or1 e6 (Or1 e5 (Ors L.S (Orq bo_out (Or1 oc No))))))))) hb o26 (or1_skip (or1_mono (or1_mono (ors_mono (orq_mono (or1_mono no_any)))))) (xx_new (by omega) (xx_new (Nat.le_of_eq hD_) (xx_or1 (xx_or1 (xx_or1 (xx_ors (xx_re qq_out (xx_or1 xx_id))))))))
   replace oW := oW.tail o26 (tl_new g_oW_e6 (tl_new g_oW_e5 (tl_sin (show ∀ k, L.S k → Or1 oc (Orq bo L.S) k from fun k h => .inr (.inr h)) (tl_q q_oW_out (fun k e => .inr (.inl e)) (tl_in (.inl rfl) tl_no)))))
   replace q_oW_out := qtr qq_out q_oW_out tq_oW
   replace nq_out_cn := nqs nq_out_cn qq_out h_lt_cn
   replace nq_out_cp := nqs nq_out_cp qq_out h_lt_cp
   replace nq_out_oc := nqs nq_out_oc qq_out h_lt_oc
   replace nq_out_e5 := nqs nq_out_e5 qq_out h_lt_e5
   replace nq_out_e6 := nqs nq_out_e6 qq_out h_lt_e6
   replace nq_out_b23 := nqs nq_out_b23 qq_out h_lt_b23
   have q_o26_out : Fr bo_out bo w21.heap.size := qq_out
   have n_cn_D_ : cn ≠ D_ := by omega
   have n_cp_D_ : cp ≠ D_ := by omega
   have n_oc_D_ : oc ≠ D_ := by omega
   have n_e5_D_ : e5 ≠ D_ := by omega
   have n_e6_D_ : e6 ≠ D_ := by omega
   have n_b23_D_ : b23 ≠ D_ := by omega
   have g_oW_D_ : W.heap.size ≤ D_ := by omega
   have g_o26_D_ : w21.heap.size ≤ D_ := by omega
   have n_cn_L_ : cn ≠ L_ := by omega
   have n_cp_L_ : cp ≠ L_ := by omega
   have n_oc_L_ : oc ≠ L_ := by omega
   have n_e5_L_ : e5 ≠ L_ := by omega
   have n_e6_L_ : e6 ≠ L_ := by omega
   have n_b23_L_ : b23 ≠ L_ := by omega
   have g_oW_L_ : W.heap.size ≤ L_ := by omega
   have g_o26_L_ : w21.heap.size ≤ L_ := by omega
   have n_D__L_ : D_ ≠ L_ := by omega
   have aL_ : Dead L_ w1_ := hL1_
   have aD_ : Dead D_ w1_ := by unfold Dead; omega
   refine wp_eq (l' := ([(ptr L.bN 0), ub, (Value.func (.func 56) #[] #[(ptr cn 0), (ptr cp 0), (ptr oc 0)]), undef, undef, (ptr e5 0), (ptr e6 0), undef, undef, undef, ub, (eN bl.length), (ptr L.bN 0), (Value.agg #[(eN s.gD), (eN s.gB), (eN s.gP)]), (eN s.gD), (Value.bool false), ub, (Value.func (.func 106) #[] #[(ptr b23 0)]), (eN k.1), (eI k.2)] ++ (us 7))) (by kernel_rfl) ?_
   refine wpIn_seq (plain ?_)
   refine wI (d_assign rfl) ?_
   refine wpL.done (then_n (plain ?_))
   refine wI (d_assign rfl) ?_
   refine wpL.done (then_n ?_)
   refine ⟨Only.refl _ _, fun w2_ oL_ _ => ?_⟩
   replace hN := hN.stepb oL_ in1
   replace hb := hb.stepb oL_ in1
   replace hFam := hFam.stepb oL_ in1
   replace hcn := hcn.step oL_ (fun e => absurd e n_cn_L_)
   replace hcp := hcp.step oL_ (fun e => absurd e n_cp_L_)
   replace hoc := hoc.step oL_ (fun e => absurd e n_oc_L_)
   replace a13 := a13.step oL_ (fun e => absurd e n_e5_L_)
   replace a17 := a17.step oL_ (fun e => absurd e n_e6_L_)
   replace a25 := a25.step oL_ (fun e => absurd e n_b23_L_)
   replace aD_ := aD_.step oL_ (fun e => absurd e n_D__L_)
   replace hro := hro.step oL_ (fun x hx e => nq_out_L_ x hx e)
   replace oW := oW.tailb oL_ g_oW_L_
   replace o26 := o26.tailb oL_ g_o26_L_
   replace aL_ : Dead L_ w2_ := Nat.lt_of_lt_of_le aL_ oL_.size
   have oR_ : Only (fun k => (Or1 e6 (Or1 e5 (Ors L.S (Orq bo (Or1 oc No))))) k ∨ L_ < k) w2_ w2_ := Only.refl _ _
   have nqD0_out := nq_out_D_
   have nqL0_out := nq_out_L_
   have q_oR__out : Fr bo_out bo_out w2_.heap.size := Fr.same
   obtain ⟨k1_, k2_⟩ := k
   obtain ⟨hk1_, hk2_⟩ := pre_pl hpx_
   injection hk2_ with hk3_ hk4_
   subst hk3_ hk4_
   refine wp_eq (l' := ([(ptr L.bN 0), ub, (Value.func (.func 56) #[] #[(ptr cn 0), (ptr cp 0), (ptr oc 0)]), undef, undef, (ptr e5 0), (ptr e6 0), (eN pre.length), (eI (bl.getD pre.length 0)), undef, ub, (eN bl.length), (ptr L.bN 0), (Value.agg #[(eN s.gD), (eN s.gB), (eN s.gP)]), (eN s.gD), (Value.bool false), ub, (Value.func (.func 106) #[] #[(ptr b23 0)]), (eN pre.length), (eI (bl.getD pre.length 0))] ++ (us 7))) rfl ?_
   refine wpIn_block (wpIn_seq ?_)
   refine wp_eq (l' := ([(ptr L.bN 0), ub, (Value.func (.func 56) #[] #[(ptr cn 0), (ptr cp 0), (ptr oc 0)]), undef, undef, (ptr e5 0), (ptr e6 0), (eN pre.length), (eI (bl.getD pre.length 0)), undef, ub, (eN bl.length), (ptr L.bN 0), (Value.agg #[(eN s.gD), (eN s.gB), (eN s.gP)]), (eN s.gD), (Value.bool false), ub, (Value.func (.func 106) #[] #[(ptr b23 0)]), (eN pre.length), (eI (bl.getD pre.length 0))] ++ (us 7))) rfl ?_
   refine plain ?_
   refine wI (d_load (v := (Value.func (.func 56) #[] #[(ptr cn 0), (ptr cp 0), (ptr oc 0)])) ⟨_, Try.underlying90, rfl⟩ rfl a13 rfl) ?_
   refine wI (d_move rfl) ?_
   refine wI (d_move rfl) ?_
   refine wO (d_callv (xl := [.tmp 21, .tmp 22]) (al := [(eN pre.length), (eI (bl.getD pre.length 0))]) rfl Try.func56 (by kernel_rfl) rfl rfl rfl (read1_ok L (rowR bl p s pre.length) _ hN (lt_or1 aL_.lt (lt_or1 aD_.lt (lt_or1 a25.lt (lt_or1 a17.lt (lt_or1 a13.lt (lt_orq hro.lts (lt_or1 hoc.lt (fun k t => Nat.lt_of_lt_of_le (hX k t) oW.size)))))))) pre.length (bl.getD pre.length 0) p bo_out u_out (pgRow (fun k_ => (pgD (rowRL bl p s k_)).1) vs) cn cp hcn (in2 (in2 (in2 (in2 (in2 (inq (in2 hX_cn))))))) hcp (in2 (in2 (in2 (in2 (in2 (inq (in2 hX_cp))))))) n_cn_cp oc hoc (in2 (in2 (in2 (in2 (in2 (inq in1)))))) hro (fun k e => (.inr (.inr (.inr (.inr (.inr (.inl e))))))) n_cn_oc n_cp_oc nq_out_cn nq_out_cp nq_out_oc (by have := pgRow_len (fun k_ => (pgD (rowRL bl p s k_)).1) vs; omega))) ?_
   rintro _ w27 ⟨bo29, u30, v31, rfl, a32, a33, a34, f35, q36, o37⟩
   replace f35 := f35.less (Y := (Or1 L_ (Or1 D_ (Or1 b23 (Or1 e6 (Or1 e5 (Ors L.S (Orq bo29 (Or1 oc (Old W.heap.size)))))))))) (yz_or1 aL_.lt (yz_or1 aD_.lt (yz_or1 a25.lt (yz_or1 a17.lt (yz_or1 a13.lt (yz_ors hN.lt (yz_q (yz_or1 hoc.lt (fun k _ t => Or.inr (Nat.lt_of_lt_of_le t oW.size))))))))))
   replace a32 := a32.less (Y := (Or1 L_ (Or1 D_ (Or1 b23 (Or1 e6 (Or1 e5 (Orq bo29 (Or1 oc X)))))))) (yy_or1 (yy_or1 (yy_or1 (yy_or1 (yy_or1 (yy_q (yy_or1 yy_id)))))))
   replace hb := Ps.re (X' := (Or1 L_ (Or1 D_ (Or1 b23 (Or1 e6 (Or1 e5 (Ors L.S (Orq bo29 (Or1 oc No))))))))) hb o37 (fun k t_ => t_.elim (fun e_ => by rw [e_]; exact (in2 (in2 (in2 (in2 (in2 (inS (inq in1)))))))) (fun t_ => t_.elim ((fun k e => (.inr (.inr (.inr (.inr (.inr (.inr (.inl e)))))))) k) ((sub2 (sub2 (sub2 (sub2 (sub2 sub1))))) k))) (xx_or1 (xx_or1 (xx_or1 (xx_or1 (xx_or1 (xx_ors (xx_re q36 (xx_or1 xx_id))))))))
   replace hFam := Ps.re (X' := (Or1 L_ (Or1 D_ (Or1 b23 (Or1 e6 (Or1 e5 (Ors L.S (Orq bo29 (Or1 oc (Old W.heap.size)))))))))) hFam o37 (fun k t_ => t_.elim (fun e_ => by rw [e_]; exact (in2 (in2 (in2 (in2 (in2 (inS (inq in1)))))))) (fun t_ => t_.elim ((fun k e => (.inr (.inr (.inr (.inr (.inr (.inr (.inl e)))))))) k) ((sub2 (sub2 (sub2 (sub2 (sub2 sub1))))) k))) (xx_or1 (xx_or1 (xx_or1 (xx_or1 (xx_or1 (xx_ors (xx_re q36 (xx_or1 xx_id))))))))
   have nq2 := nqs nq_out_cn q36 hcn.lt
   replace hcn := hcn.step o37 (fun t_ => t_.elim (fun e_ => absurd e_ n_cn_oc) (fun t_ => t_.elim (fun e_ => nq_out_cn _ e_ rfl) (hN.dis _ (in2 (in2 (in2 (in2 (in2 (inq (in2 hX_cn))))))))))
   replace nq_out_cn := nq2
   clear nq2
   have nq2 := nqs nq_out_cp q36 hcp.lt
   replace hcp := hcp.step o37 (fun t_ => t_.elim (fun e_ => absurd e_ n_cp_oc) (fun t_ => t_.elim (fun e_ => nq_out_cp _ e_ rfl) (hN.dis _ (in2 (in2 (in2 (in2 (in2 (inq (in2 hX_cp))))))))))
   replace nq_out_cp := nq2
   clear nq2
   have nq2 := nqs nq_out_oc q36 hoc.lt
   replace hoc := a33
   replace nq_out_oc := nq2
   clear nq2
   have nq2 := nqs nq_out_e5 q36 a13.lt
   replace a13 := a13.step o37 (fun t_ => t_.elim (fun e_ => absurd e_ (Ne.symm n_oc_e5)) (fun t_ => t_.elim (fun e_ => nq_out_e5 _ e_ rfl) (hN.dis _ (in2 (in2 (in2 (in2 in1)))))))
   replace nq_out_e5 := nq2
   clear nq2
   have nq2 := nqs nq_out_e6 q36 a17.lt
   replace a17 := a17.step o37 (fun t_ => t_.elim (fun e_ => absurd e_ (Ne.symm n_oc_e6)) (fun t_ => t_.elim (fun e_ => nq_out_e6 _ e_ rfl) (hN.dis _ (in2 (in2 (in2 in1))))))
   replace nq_out_e6 := nq2
   clear nq2
   have nq2 := nqs nq_out_b23 q36 a25.lt
   replace a25 := a25.step o37 (fun t_ => t_.elim (fun e_ => absurd e_ (Ne.symm n_oc_b23)) (fun t_ => t_.elim (fun e_ => nq_out_b23 _ e_ rfl) (hN.dis _ (in2 (in2 in1)))))
   replace nq_out_b23 := nq2
   clear nq2
   have nq2 := nqs nq_out_D_ q36 aD_.lt
   replace aD_ := aD_.step o37 (fun t_ => t_.elim (fun e_ => absurd e_ (Ne.symm n_oc_D_)) (fun t_ => t_.elim (fun e_ => nq_out_D_ _ e_ rfl) (hN.dis _ (in2 in1))))
   replace nq_out_D_ := nq2
   clear nq2
   have nq2 := nqs nq_out_L_ q36 aL_.lt
   replace aL_ := aL_.step o37 (fun t_ => t_.elim (fun e_ => absurd e_ (Ne.symm n_oc_L_)) (fun t_ => t_.elim (fun e_ => nq_out_L_ _ e_ rfl) (hN.dis _ in1)))
   replace nq_out_L_ := nq2
   clear nq2
   have tq := oW.size
   replace oW := oW.tail o37 (tl_in (.inl rfl) (tl_q q_oW_out (fun k e => .inr (.inl e)) (fun k _ e => (show ∀ k, L.S k → Or1 oc (Orq bo L.S) k from fun k h => .inr (.inr h)) k e)))
   replace q_oW_out := qtr q36 q_oW_out tq
   clear tq
   have tq := o26.size
   replace o26 := o26.tail o37 (tl_in (in2 (in2 (inS (inq in1)))) (tl_q q_o26_out (fun k e => (.inr (.inr (.inr (.inl e))))) (fun k _ e => (sub2 (sub2 sub1)) k e)))
   replace q_o26_out := qtr q36 q_o26_out tq
   clear tq
   have tq := oR_.size
   replace oR_ := oR_.tail o37 (tl_in (Or.inl (in2 (in2 (inS (inq in1))))) (tl_q q_oR__out (q_T qq_out (fun k e => (.inr (.inr (.inr (.inl e))))) nqD0_out nqL0_out hD_ hL_) (fun k _ e => (fun k h => Or.inl ((sub2 (sub2 sub1)) k h)) k e)))
   replace q_oR__out := qtr q36 q_oR__out tq
   clear tq
   replace hN := a32
   refine wI (d_assign rfl) ?_
   refine wF [(ptr L.bN 0), ub, (Value.func (.func 56) #[] #[(ptr cn 0), (ptr cp 0), (ptr oc 0)]), undef, undef, (ptr e5 0), (ptr e6 0), (eN pre.length), (eI (bl.getD pre.length 0)), (eN ((rowR bl p s pre.length).askR ((rowR bl p s pre.length).readOk (pre.length : Int) (bl.getD pre.length 0) p))), ub, (eN bl.length), (ptr L.bN 0), (Value.agg #[(eN s.gD), (eN s.gB), (eN s.gP)]), (eN s.gD), (Value.bool false), ub, (Value.func (.func 106) #[] #[(ptr b23 0)]), (eN pre.length), (eI (bl.getD pre.length 0)), (Value.func (.func 56) #[] #[(ptr cn 0), (ptr cp 0), (ptr oc 0)]), (eN pre.length), (eI (bl.getD pre.length 0)), (eN ((rowR bl p s pre.length).askR ((rowR bl p s pre.length).readOk (pre.length : Int) (bl.getD pre.length 0) p))), undef, undef, undef] ?_
   refine wpL.done (then_n (wpIn_seq (plain ?_)))
   refine wI (d_move rfl) ?_
   refine wI (n_neq (a := ((rowR bl p s pre.length).askR ((rowR bl p s pre.length).readOk (pre.length : Int) (bl.getD pre.length 0) p))) (b := 0) rfl rfl rfl) ?_
   refine wF [(ptr L.bN 0), ub, (Value.func (.func 56) #[] #[(ptr cn 0), (ptr cp 0), (ptr oc 0)]), undef, undef, (ptr e5 0), (ptr e6 0), (eN pre.length), (eI (bl.getD pre.length 0)), (eN ((rowR bl p s pre.length).askR ((rowR bl p s pre.length).readOk (pre.length : Int) (bl.getD pre.length 0) p))), ub, (eN bl.length), (ptr L.bN 0), (Value.agg #[(eN s.gD), (eN s.gB), (eN s.gP)]), (eN s.gD), (Value.bool false), ub, (Value.func (.func 106) #[] #[(ptr b23 0)]), (eN pre.length), (eI (bl.getD pre.length 0)), (Value.func (.func 56) #[] #[(ptr cn 0), (ptr cp 0), (ptr oc 0)]), (eN pre.length), (eI (bl.getD pre.length 0)), (eN ((rowR bl p s pre.length).askR ((rowR bl p s pre.length).readOk (pre.length : Int) (bl.getD pre.length 0) p))), (eN ((rowR bl p s pre.length).askR ((rowR bl p s pre.length).readOk (pre.length : Int) (bl.getD pre.length 0) p))), (Value.bool (!decide (((rowR bl p s pre.length).askR ((rowR bl p s pre.length).readOk (pre.length : Int) (bl.getD pre.length 0) p)) = 0))), undef] ?_
   refine wpL.done (then_n ?_)
   refine cond_un rfl (fun ce_ => ?_) (fun ce_ => ?_)
   ·
    refine wpIn_seq (plain ?_)
    refine wI (d_move rfl) ?_
    refine wO (d_store s_ti45 rfl rfl rfl a17 (nb rfl) rfl) ?_
    rintro _ w38 ⟨a39, o40⟩
    replace hN := hN.stepb o40 (in2 (in2 (in2 in1)))
    replace hb := hb.stepb o40 (in2 (in2 (in2 in1)))
    replace hFam := hFam.stepb o40 (in2 (in2 (in2 in1)))
    replace f35 := f35.stepb o40 (in2 (in2 (in2 in1)))
    replace hcn := hcn.step o40 (fun e => absurd e n_cn_e6)
    replace hcp := hcp.step o40 (fun e => absurd e n_cp_e6)
    replace hoc := hoc.step o40 (fun e => absurd e n_oc_e6)
    replace a13 := a13.step o40 (fun e => absurd e n_e5_e6)
    replace a25 := a25.step o40 (fun e => absurd e (Ne.symm n_e6_b23))
    replace aD_ := aD_.step o40 (fun e => absurd e (Ne.symm n_e6_D_))
    replace aL_ := aL_.step o40 (fun e => absurd e (Ne.symm n_e6_L_))
    replace a34 := a34.step o40 (fun x hx e => nq_out_e6 x hx e)
    replace oW := oW.tailb o40 g_oW_e6
    replace o26 := o26.tail o40 (fun k _ e => by have : k = e6 := e; rw [this]; exact in1)
    replace oR_ := oR_.tail o40 (fun k _ e => by have : k = e6 := e; rw [this]; exact (Or.inl in1))
    refine wF [(ptr L.bN 0), ub, (Value.func (.func 56) #[] #[(ptr cn 0), (ptr cp 0), (ptr oc 0)]), undef, undef, (ptr e5 0), (ptr e6 0), (eN pre.length), (eI (bl.getD pre.length 0)), (eN ((rowR bl p s pre.length).askR ((rowR bl p s pre.length).readOk (pre.length : Int) (bl.getD pre.length 0) p))), ub, (eN bl.length), (ptr L.bN 0), (Value.agg #[(eN s.gD), (eN s.gB), (eN s.gP)]), (eN s.gD), (Value.bool false), ub, (Value.func (.func 106) #[] #[(ptr b23 0)]), (eN pre.length), (eI (bl.getD pre.length 0)), (Value.func (.func 56) #[] #[(ptr cn 0), (ptr cp 0), (ptr oc 0)]), (eN pre.length), (eI (bl.getD pre.length 0)), (eN ((rowR bl p s pre.length).askR ((rowR bl p s pre.length).readOk (pre.length : Int) (bl.getD pre.length 0) p))), (eN ((rowR bl p s pre.length).askR ((rowR bl p s pre.length).readOk (pre.length : Int) (bl.getD pre.length 0) p))), (Value.bool (!decide (((rowR bl p s pre.length).askR ((rowR bl p s pre.length).readOk (pre.length : Int) (bl.getD pre.length 0) p)) = 0))), (eN ((rowR bl p s pre.length).askR ((rowR bl p s pre.length).readOk (pre.length : Int) (bl.getD pre.length 0) p)))] ?_
    refine wpL.done (then_n ?_)
    refine wpIn_ret ?_
    refine inb_r ?_
    refine ⟨oR_, rfl, vs ++ [v31], bo29, u30, ?_, ?_, ?_, ?_, ?_, ?_, ?_, ?_, ?_, ?_, ?_, ?_, ?_, ?_, ?_, ?_, ?_⟩
    ·
     (try dsimp only)
     all_goals (rw [List.length_append, List.length_singleton, Nat.add_sub_cancel]; exact hC)
    ·
     (try dsimp only)
     all_goals (rw [List.length_append, List.length_singleton, Nat.add_sub_cancel]; exact ce_)
    ·
     (try dsimp only)
     all_goals (rw [List.length_append, List.length_singleton]; omega)
    ·
     (try dsimp only)
     all_goals (rw [List.length_append, List.length_append, hvl, List.length_singleton, List.length_singleton])
    ·
     exact o26
    ·
     exact hcn
    ·
     exact hcp
    ·
     exact hoc
    ·
     exact a13
    ·
     (try dsimp only)
     all_goals (rw [List.length_append, List.length_singleton, Nat.add_sub_cancel]; exact a39)
    ·
     exact a25
    ·
     (try dsimp only)
     all_goals (rw [← pgRow_snoc hvl]; exact a34)
    ·
     exact q_o26_out
    ·
     exact nq_out_D_
    ·
     exact nq_out_L_
    ·
     (try dsimp only)
     all_goals (exact (by rw [List.length_append, List.length_singleton]; exact hN.less (xx_or1 (xx_or1 (xx_or1 (xx_or1 (xx_or1 (xx_orq (xx_or1 xx_id)))))))))
    ·
     (try dsimp only)
     all_goals (rw [List.length_append, List.length_singleton]; exact fam_snoc (hFam.less (xx_or1 (xx_or1 (xx_or1 (xx_or1 (xx_or1 (xx_ors (xx_orq (xx_or1 xx_id))))))))) (f35.less (xx_or1 (xx_or1 (xx_or1 (xx_or1 (xx_or1 (xx_ors (xx_orq (xx_or1 xx_id))))))))) rfl hvl)
   refine wpIn_skip ?_
   refine inb_n ?_
   refine ⟨oR_, vs ++ [v31], bo29, u30, ?_, ?_, ?_, ?_, ?_, ?_, ?_, ?_, ?_, ?_, ?_, ?_, ?_, ?_, ?_⟩
   ·
    (try dsimp only)
    all_goals (exact fun j hj => by rw [List.length_append, List.length_singleton] at hj; exact (Nat.lt_succ_iff_lt_or_eq.1 hj).elim (hC j) (fun e => by rw [e]; exact ce_))
   ·
    (try dsimp only)
    all_goals (rw [List.length_append, List.length_append, hvl, List.length_singleton, List.length_singleton])
   ·
    exact o26
   ·
    exact hcn
   ·
    exact hcp
   ·
    exact hoc
   ·
    exact a13
   ·
    exact a17
   ·
    exact a25
   ·
    (try dsimp only)
    all_goals (rw [← pgRow_snoc hvl]; exact a34)
   ·
    exact q_o26_out
   ·
    exact nq_out_D_
   ·
    exact nq_out_L_
   ·
    (try dsimp only)
    all_goals (exact (by rw [List.length_append, List.length_singleton]; exact hN.less (xx_or1 (xx_or1 (xx_or1 (xx_or1 (xx_or1 (xx_orq (xx_or1 xx_id)))))))))
   ·
    (try dsimp only)
    all_goals (rw [List.length_append, List.length_singleton]; exact fam_snoc (hFam.less (xx_or1 (xx_or1 (xx_or1 (xx_or1 (xx_or1 (xx_ors (xx_orq (xx_or1 xx_id))))))))) (f35.less (xx_or1 (xx_or1 (xx_or1 (xx_or1 (xx_or1 (xx_ors (xx_orq (xx_or1 xx_id))))))))) rfl hvl)
  ·
   intro w1_ hI_ aD_
   obtain ⟨vs, bo_out, u_out, hC, hvl, o26, hcn, hcp, hoc, a13, a17, a25, hro, qq_out, nq_out_D_, nq_out_L_, hN, hFam⟩ := hI_
   replace hN := hN.less (Y := (Or1 D_ (Or1 b23 (Or1 e6 (Or1 e5 (Orq bo_out (Or1 oc X))))))) (xx_skip xx_id)
   replace hb := Ps.re (X' := (Or1 D_ (Or1 b23 (Or1 e6 (Or1 e5 (Ors L.S (Orq bo_out (Or1 oc No)))))))) hb o26 (or1_skip (or1_mono (or1_mono (ors_mono (orq_mono (or1_mono no_any)))))) (xx_new (Nat.le_of_eq hD_) (xx_or1 (xx_or1 (xx_or1 (xx_ors (xx_re qq_out (xx_or1 xx_id)))))))
   replace oW := oW.tail o26 (tl_new g_oW_e6 (tl_new g_oW_e5 (tl_sin (show ∀ k, L.S k → Or1 oc (Orq bo L.S) k from fun k h => .inr (.inr h)) (tl_q q_oW_out (fun k e => .inr (.inl e)) (tl_in (.inl rfl) tl_no)))))
   replace q_oW_out := qtr qq_out q_oW_out tq_oW
   replace nq_out_cn := nqs nq_out_cn qq_out h_lt_cn
   replace nq_out_cp := nqs nq_out_cp qq_out h_lt_cp
   replace nq_out_oc := nqs nq_out_oc qq_out h_lt_oc
   replace nq_out_e5 := nqs nq_out_e5 qq_out h_lt_e5
   replace nq_out_e6 := nqs nq_out_e6 qq_out h_lt_e6
   replace nq_out_b23 := nqs nq_out_b23 qq_out h_lt_b23
   have q_o26_out : Fr bo_out bo w21.heap.size := qq_out
   have n_cn_D_ : cn ≠ D_ := by omega
   have n_cp_D_ : cp ≠ D_ := by omega
   have n_oc_D_ : oc ≠ D_ := by omega
   have n_e5_D_ : e5 ≠ D_ := by omega
   have n_e6_D_ : e6 ≠ D_ := by omega
   have n_b23_D_ : b23 ≠ D_ := by omega
   have g_oW_D_ : W.heap.size ≤ D_ := by omega
   have g_o26_D_ : w21.heap.size ≤ D_ := by omega
   replace hFam := hFam.less (Y := (Or1 D_ (Or1 b23 (Or1 e6 (Or1 e5 (Ors L.S (Orq bo_out (Or1 oc (Old W.heap.size))))))))) (xx_skip xx_id)
   rw [plL_len] at hC
   replace hN := nd_to hN (show _ = (rowR bl p s bl.length) from by rw [plL_len])
   refine inb_n (then_n ?_)
   refine wpIn_seq (plain ?_)
   refine wO (d_store s_ti45 rfl rfl rfl a17 (nb rfl) rfl) ?_
   rintro _ w41 ⟨a42, o43⟩
   replace hN := hN.stepb o43 (in2 (in2 in1))
   replace hb := hb.stepb o43 (in2 (in2 in1))
   replace hFam := hFam.stepb o43 (in2 (in2 in1))
   replace hcn := hcn.step o43 (fun e => absurd e n_cn_e6)
   replace hcp := hcp.step o43 (fun e => absurd e n_cp_e6)
   replace hoc := hoc.step o43 (fun e => absurd e n_oc_e6)
   replace a13 := a13.step o43 (fun e => absurd e n_e5_e6)
   replace a25 := a25.step o43 (fun e => absurd e (Ne.symm n_e6_b23))
   replace aD_ := aD_.step o43 (fun e => absurd e (Ne.symm n_e6_D_))
   replace hro := hro.step o43 (fun x hx e => nq_out_e6 x hx e)
   replace oW := oW.tailb o43 g_oW_e6
   replace o26 := o26.tail o43 (fun k _ e => by have : k = e6 := e; rw [this]; exact in1)
   refine wpL.done (then_n ?_)
   refine wpIn_ret ?_
   refine leave (v := (eN 0)) (marks_ok aD_) (fun w44 o45 => ⟨resS Try.results54 ⟨_, Try.underlying45, rfl⟩ rfl (a42.step (only_mem o45) (fun e => absurd e n_e6_D_)), ?_⟩)
   replace o45 := only_mem o45
   replace hN := hN.stepb o45 in1
   replace hb := hb.stepb o45 in1
   replace hFam := hFam.stepb o45 in1
   replace hcn := hcn.step o45 (fun e => absurd e n_cn_D_)
   replace hcp := hcp.step o45 (fun e => absurd e n_cp_D_)
   replace hoc := hoc.step o45 (fun e => absurd e n_oc_D_)
   replace a13 := a13.step o45 (fun e => absurd e n_e5_D_)
   replace a42 := a42.step o45 (fun e => absurd e n_e6_D_)
   replace a25 := a25.step o45 (fun e => absurd e n_b23_D_)
   replace hro := hro.step o45 (fun x hx e => nq_out_D_ x hx e)
   replace oW := oW.tailb o45 g_oW_D_
   replace o26 := o26.tailb o45 g_o26_D_
   obtain ⟨e1_, e2_⟩ := do_all (T := rowR bl p s) (C := rowRC bl p s) k0 hC; exact ⟨_, _, vs, congrArg eN e2_, e1_ ▸ (hN.less (xx_skip (xx_skip (xx_skip (xx_skip (xx_orq (xx_skip xx_id))))))), hoc, hro, by rw [hvl]; exact (hFam.less (xx_skip (xx_skip (xx_skip (xx_skip (xx_skip (xx_orq (xx_skip xx_id)))))))), fun _ => (by rw [hvl, plL_len]), q_oW_out, oW⟩
  ·
   rintro c_ pre w1_ hpx_ ⟨rfl, ⟨vs, bo_out, u_out, hC2, hc2, hp2, hvl, o26, hcn, hcp, hoc, a13, a17, a25, hro, qq_out, nq_out_D_, nq_out_L_, hN, hFam⟩⟩ aD_
   replace hN := hN.less (Y := (Or1 D_ (Or1 b23 (Or1 e6 (Or1 e5 (Orq bo_out (Or1 oc X))))))) (xx_skip xx_id)
   replace hb := Ps.re (X' := (Or1 D_ (Or1 b23 (Or1 e6 (Or1 e5 (Ors L.S (Orq bo_out (Or1 oc No)))))))) hb o26 (or1_skip (or1_mono (or1_mono (ors_mono (orq_mono (or1_mono no_any)))))) (xx_new (Nat.le_of_eq hD_) (xx_or1 (xx_or1 (xx_or1 (xx_ors (xx_re qq_out (xx_or1 xx_id)))))))
   replace oW := oW.tail o26 (tl_new g_oW_e6 (tl_new g_oW_e5 (tl_sin (show ∀ k, L.S k → Or1 oc (Orq bo L.S) k from fun k h => .inr (.inr h)) (tl_q q_oW_out (fun k e => .inr (.inl e)) (tl_in (.inl rfl) tl_no)))))
   replace q_oW_out := qtr qq_out q_oW_out tq_oW
   replace nq_out_cn := nqs nq_out_cn qq_out h_lt_cn
   replace nq_out_cp := nqs nq_out_cp qq_out h_lt_cp
   replace nq_out_oc := nqs nq_out_oc qq_out h_lt_oc
   replace nq_out_e5 := nqs nq_out_e5 qq_out h_lt_e5
   replace nq_out_e6 := nqs nq_out_e6 qq_out h_lt_e6
   replace nq_out_b23 := nqs nq_out_b23 qq_out h_lt_b23
   have q_o26_out : Fr bo_out bo w21.heap.size := qq_out
   have n_cn_D_ : cn ≠ D_ := by omega
   have n_cp_D_ : cp ≠ D_ := by omega
   have n_oc_D_ : oc ≠ D_ := by omega
   have n_e5_D_ : e5 ≠ D_ := by omega
   have n_e6_D_ : e6 ≠ D_ := by omega
   have n_b23_D_ : b23 ≠ D_ := by omega
   have g_oW_D_ : W.heap.size ≤ D_ := by omega
   have g_o26_D_ : w21.heap.size ≤ D_ := by omega
   replace hFam := hFam.less (Y := (Or1 D_ (Or1 b23 (Or1 e6 (Or1 e5 (Ors L.S (Orq bo_out (Or1 oc (Old W.heap.size))))))))) (xx_skip xx_id)
   refine wpIn_ret ?_
   refine inb_r (then_r ?_)
   refine leave (v := (eN (rowRC bl p s (pre.length - 1)))) (marks_ok aD_) (fun w46 o47 => ⟨resS Try.results54 ⟨_, Try.underlying45, rfl⟩ rfl (a17.step (only_mem o47) (fun e => absurd e n_e6_D_)), ?_⟩)
   replace o47 := only_mem o47
   replace hN := hN.stepb o47 in1
   replace hb := hb.stepb o47 in1
   replace hFam := hFam.stepb o47 in1
   replace hcn := hcn.step o47 (fun e => absurd e n_cn_D_)
   replace hcp := hcp.step o47 (fun e => absurd e n_cp_D_)
   replace hoc := hoc.step o47 (fun e => absurd e n_oc_D_)
   replace a13 := a13.step o47 (fun e => absurd e n_e5_D_)
   replace a17 := a17.step o47 (fun e => absurd e n_e6_D_)
   replace a25 := a25.step o47 (fun e => absurd e n_b23_D_)
   replace hro := hro.step o47 (fun x hx e => nq_out_D_ x hx e)
   replace oW := oW.tailb o47 g_oW_D_
   replace o26 := o26.tailb o47 g_o26_D_
   have e3_ : pre.length - 1 + 1 = pre.length := by omega
   have hpl_ := pl_len hpx_
   obtain ⟨e1_, e2_⟩ := do_one (T := rowR bl p s) (C := rowRC bl p s) k0 hC2 hc2 (by omega); rw [e3_] at e1_; exact ⟨_, _, vs, congrArg eN e2_, e1_ ▸ (hN.less (xx_skip (xx_skip (xx_skip (xx_skip (xx_orq (xx_skip xx_id))))))), hoc, hro, by rw [hvl]; exact (hFam.less (xx_skip (xx_skip (xx_skip (xx_skip (xx_skip (xx_orq (xx_skip xx_id)))))))), fun h_ => (by rw [← e2_] at h_; exact absurd h_ hc2), q_oW_out, oW⟩
 refine plain ?_
 refine wI (d_move rfl) ?_
 refine wI (d_lenS rfl Try.underlying23 rfl hb) ?_
 refine wI (d_move rfl) ?_
 refine wO (d_call (xl := [.tmp 12]) (al := [(ptr L.bN 0)]) Try.func84 (by kernel_rfl) rfl rfl rfl (geometry_ok L s _ hN)) ?_
 rintro _ w48 ⟨rfl, o49⟩
 replace hN := hN.step0 o49
 replace hb := hb.step0 o49
 replace hcn := hcn.step0 o49
 replace hcp := hcp.step0 o49
 replace hoc := hoc.step0 o49
 replace a13 := a13.step0 o49
 replace a17 := a17.step0 o49
 replace hro := hro.step0 o49
 replace oW := oW.tail0 o49
 refine wF ([(ptr L.bN 0), ub, (Value.func (.func 56) #[] #[(ptr cn 0), (ptr cp 0), (ptr oc 0)]), undef, undef, (ptr e5 0), (ptr e6 0), undef, undef, undef, ub, (eN bl.length), (ptr L.bN 0), (Value.agg #[(eN s.gD), (eN s.gB), (eN s.gP)])] ++ (us 13)) ?_
 refine wI (d_field (v := (eN s.gD)) Try.underlying49 rfl ⟨_, Try.underlying3, rfl⟩ rfl rfl) ?_
 refine wI (n_neq (a := bl.length) (b := s.gD) rfl rfl (by rw [decide_eq_false k0] <;> rfl)) ?_
 refine wpL.done (then_n ?_)
 refine cond_t rfl ?_
 refine wpIn_seq (plain ?_)
 refine wO (d_store s_ti45 rfl rfl rfl a17 (nb rfl) rfl) ?_
 rintro _ w50 ⟨a51, o52⟩
 replace hN := hN.stepb o52 in1
 replace hb := hb.stepb o52 in1
 replace hcn := hcn.step o52 (fun e => absurd e n_cn_e6)
 replace hcp := hcp.step o52 (fun e => absurd e n_cp_e6)
 replace hoc := hoc.step o52 (fun e => absurd e n_oc_e6)
 replace a13 := a13.step o52 (fun e => absurd e n_e5_e6)
 replace hro := hro.step o52 (fun x hx e => nq_out_e6 x hx e)
 replace oW := oW.tailb o52 g_oW_e6
 refine wpL.done (then_n ?_)
 refine wpIn_ret ?_
 refine then_r ?_
 refine leave0 (v := (eN 1)) (resS Try.results54 ⟨_, Try.underlying45, rfl⟩ rfl a51) ?_
 obtain ⟨e1_, e2_⟩ := do_no (T := rowR bl p s) (C := rowRC bl p s) k0; exact ⟨_, _, [], congrArg eN e2_, e1_ ▸ (hN.less (xx_skip (xx_skip (xx_orq (xx_skip xx_id))))), hoc, hro, fam_zero, fun h_ => (by rw [← e2_] at h_; cases h_), q_oW_out, oW⟩
set_option maxRecDepth 20000 in
set_option maxHeartbeats 1000000 in
theorem rowRead_ok (L : NL) (s : NS) {X : Nat → Prop} (W : World) (hN : Nd L s X W) (hX : ∀ k, X k → k < W.heap.size) (bl : List Int) (ub : Value) (hb : Ps (Ors L.S No) (Seq kI bl ub) W) (gb : bl.length ≤ 1000) (p : Int) :
    CW Try.prog 34 #[(ptr L.bN 0), ub, (eI p)] W (Rt (fun u w => ∃ v vs, u = .tuple #[v, eN (rowDoC s.gD bl.length (rowRC bl p s))] ∧ ((rowDoC s.gD bl.length (rowRC bl p s)) = 0 → vs.length = bl.length ∧ Ps (Old W.heap.size) (Seq (kA 2 eG) (pgRow (fun k_ => (pgD (rowRL bl p s k_)).1) vs) v) w ∧ Ps (Old W.heap.size) (Fam kB vs.length (fun k_ => (pgD (rowRL bl p s k_)).2) vs) w) ∧ (¬ (rowDoC s.gD bl.length (rowRC bl p s)) = 0 → v = .slice none 0 0) ∧ Nd L (rowDo s.gD bl.length (rowR bl p s) (rowRC bl p s)) X w ∧ Only L.S W w)) := by
 have oW : Only L.S W W := Only.refl _ _
 refine enter (al := [(ptr L.bN 0), ub, (eI p)]) (k := 16) (l := ([(ptr L.bN 0), ub, (eI p)] ++ (us 16))) Try.func34 rfl Try.ntmps34 rfl rfl ?_
 refine wpIn_seq (plain ?_)
 refine wO (d_box rfl rfl) ?_
 rintro _ w11 ⟨cn, rfl, g12, a13, o14⟩
 have g_oW_cn : W.heap.size ≤ cn := Nat.le_trans oW.size g12
 replace hN := hN.new o14 g12
 replace hb := hb.new o14 g12
 replace oW := oW.tail0 o14
 refine wO (d_box rfl rfl) ?_
 rintro _ w15 ⟨cp, rfl, g16, a17, o18⟩
 have n_cn_cp : cn ≠ cp := a13.ne g16
 have g_oW_cp : W.heap.size ≤ cp := Nat.le_trans oW.size g16
 replace hN := hN.new o18 g16
 replace hb := hb.new o18 g16
 replace a13 := a13.step0 o18
 replace oW := oW.tail0 o18
 refine wI (d_assign rfl) ?_
 refine wI (d_assign rfl) ?_
 refine wpL.done (then_n (wpIn_seq ?_))
 refine wp_eq (l' := ([(ptr L.bN 0), ub, (eI p), (ptr cn 0), undef, (ptr cp 0), (Value.slice none 0 0), (eN 0)] ++ (us 11))) rfl ?_
 refine plain ?_
 refine wO (d_alloc s_ti53 rfl) ?_
 rintro _ w19 ⟨oc, rfl, g20, a21, o22⟩
 have n_cn_oc : cn ≠ oc := a13.ne g20
 have n_cp_oc : cp ≠ oc := a17.ne g20
 have g_oW_oc : W.heap.size ≤ oc := Nat.le_trans oW.size g20
 replace hN := hN.new o22 g20
 replace hb := hb.new o22 g20
 replace a13 := a13.step0 o22
 replace a17 := a17.step0 o22
 replace oW := oW.tail0 o22
 refine wF ([(ptr L.bN 0), ub, (eI p), (ptr cn 0), undef, (ptr cp 0), (Value.slice none 0 0), (eN 0), (ptr oc 0)] ++ (us 10)) ?_
 refine wpL.done ?_
 have a23 : Ow 32 2 none (Value.slice none 0 0) ([] : List ((Nat × Value))).length (([] : List ((Nat × Value))).flatMap eG) w19 := Ow.nil _ _ _
 have nq_out_cn : ∀ x, (none : Option Nat) = some x → ¬ x = cn := fun x e => by cases e
 have nq_out_cp : ∀ x, (none : Option Nat) = some x → ¬ x = cp := fun x e => by cases e
 have nq_out_oc : ∀ x, (none : Option Nat) = some x → ¬ x = oc := fun x e => by cases e
 have q_oW_out : Fr none none W.heap.size := Fr.none
 replace hN := hN.qnone
 replace hb := hb.qnone
 refine then_n (wpIn_seq (plain ?_))
 refine wI (d_load (v := (ptr L.bN 0)) ⟨_, Try.underlying44, rfl⟩ rfl a13 rfl) ?_
 refine wI (d_move rfl) ?_
 refine wI (d_funcL (yl := [.tmp 3, .tmp 5, .tmp 8]) (ys := [(ptr cn 0), (ptr cp 0), (ptr oc 0)]) rfl) ?_
 refine wO (d_call (xl := [.tmp 10, .tmp 11, .tmp 12]) (al := [(ptr L.bN 0), ub, (Value.func (.func 56) #[] #[(ptr cn 0), (ptr cp 0), (ptr oc 0)])]) Try.func54 (by kernel_rfl) rfl rfl rfl (eachR_ok L s _ hN (lt_orq a23.lts (lt_or1 a21.lt (lt_or1 a17.lt (lt_or1 a13.lt (fun k t => Nat.lt_of_lt_of_le (hX k t) oW.size))))) bl ub (hb.less (os_of (subq (sub2 (sub2 (sub2 sub1)))))) (by first | omega | (simp; done) | (simp; omega)) p none (Value.slice none 0 0) cn cp a13 (inq (in2 (in2 in1))) a17 (inq (in2 in1)) n_cn_cp oc a21 (inq in1) a23 (fun k e => (.inl e)) n_cn_oc n_cp_oc nq_out_cn nq_out_cp nq_out_oc (hb.less (fun k _ t_ => t_.elim ((subq (sub2 (sub2 (sub2 sub1)))) k) (fun t_ => t_.elim ((fun k e => (.inl e)) k) (fun t_ => t_.elim (fun e_ => by rw [e_]; exact (inq in1)) (fun t_ => t_.elim))))))) ?_
 rintro _ w24 ⟨bo26, u27, vs28, rfl, a29, a30, a31, f32, l33, q34, o35⟩
 replace f32 := f32.less (Y := (Orq bo26 (Or1 oc (Or1 cp (Or1 cn (Ors L.S (Old W.heap.size))))))) (yz_q (yz_or1 a21.lt (yz_or1 a17.lt (yz_or1 a13.lt (yz_ors hN.lt (fun k _ t => Or.inr (Nat.lt_of_lt_of_le t oW.size)))))))
 replace a29 := a29.less (Y := (Orq bo26 (Or1 oc (Or1 cp (Or1 cn X))))) (yy_q (yy_or1 (yy_or1 (yy_or1 yy_id))))
 replace hb := Ps.re (X' := (Orq bo26 (Or1 oc (Or1 cp (Or1 cn (Ors L.S No)))))) hb o35 (fun k t_ => t_.elim (fun e_ => by rw [e_]; exact (inq in1)) (fun t_ => t_.elim ((fun k e => (.inl e)) k) ((subq (sub2 (sub2 (sub2 sub1)))) k))) (xx_re q34 (xx_or1 (xx_or1 (xx_or1 (xx_ors xx_id)))))
 have nq2 := nqs nq_out_cn q34 a13.lt
 replace a13 := a13.step o35 (fun t_ => t_.elim (fun e_ => absurd e_ n_cn_oc) (fun t_ => t_.elim (fun e_ => nq_out_cn _ e_ rfl) (hN.dis _ (inq (in2 (in2 in1))))))
 replace nq_out_cn := nq2
 clear nq2
 have nq2 := nqs nq_out_cp q34 a17.lt
 replace a17 := a17.step o35 (fun t_ => t_.elim (fun e_ => absurd e_ n_cp_oc) (fun t_ => t_.elim (fun e_ => nq_out_cp _ e_ rfl) (hN.dis _ (inq (in2 in1)))))
 replace nq_out_cp := nq2
 clear nq2
 have nq2 := nqs nq_out_oc q34 a21.lt
 replace a21 := a30
 replace nq_out_oc := nq2
 clear nq2
 have tq := oW.size
 replace oW := oW.tail o35 (tl_new g_oW_oc (tl_q q_oW_out (fun _ e => by cases e) (fun k _ e => (fun k h => h) k e)))
 replace q_oW_out := qtr q34 q_oW_out tq
 clear tq
 replace hN := a29
 refine wI (d_assign rfl) ?_
 refine wpL.done (then_n (wpIn_seq (wpIn_seq (plain ?_))))
 refine wI (d_move rfl) ?_
 refine wF [(ptr L.bN 0), ub, (eI p), (ptr cn 0), undef, (ptr cp 0), (Value.slice none 0 0), (eN 0), (ptr oc 0), (eN (rowDoC s.gD bl.length (rowRC bl p s))), (ptr L.bN 0), ub, (Value.func (.func 56) #[] #[(ptr cn 0), (ptr cp 0), (ptr oc 0)]), (eN (rowDoC s.gD bl.length (rowRC bl p s))), (eN (rowDoC s.gD bl.length (rowRC bl p s))), undef, undef, undef, undef] ?_
 refine wI (n_neq (a := (rowDoC s.gD bl.length (rowRC bl p s))) (b := 0) rfl rfl rfl) ?_
 refine wpL.done (then_n ?_)
 refine cond_un rfl (fun cr => ?_) (fun cr => ?_)
 ·
  refine wpIn_seq (plain ?_)
  refine wI (d_move rfl) ?_
  refine wI (d_assign rfl) ?_
  refine wI (d_assign rfl) ?_
  refine wpL.done (then_n ?_)
  refine wpIn_ret ?_
  refine then_r ?_
  refine leave0 (v := (Value.tuple #[(Value.slice none 0 0), (eN (rowDoC s.gD bl.length (rowRC bl p s)))])) (res2 Try.results34 rfl rfl) ?_
  exact ⟨_, vs28, rfl, fun h_ => absurd h_ cr, fun _ => rfl, (hN.less (xx_skip (xx_skip (xx_skip (xx_skip xx_id))))), oW⟩
 refine wpIn_skip (then_n (wpIn_seq (plain ?_)))
 refine wI (d_load (v := u27) ⟨_, Try.underlying53, rfl⟩ rfl a21 rfl) ?_
 refine wO (d_append Try.underlying53 Try.underlying53 s_ti32 rfl rfl rfl (Ow.nil 32 2 _) (Ow.srcG a31 (pgRow_one f32 rfl)) (by have := pgRow_len (fun k_ => (pgD (rowRL bl p s k_)).1) vs28; have := l33 cr; omega) (by have := pgRow_len (fun k_ => (pgD (rowRL bl p s k_)).1) vs28; have := l33 cr; omega) rfl) ?_
 rintro u36 w37 ⟨bo38, a39, o40, q41⟩
 replace hN := hN.qnone
 replace hb := hb.qnone
 replace f32 := f32.qnone
 have nq_row42_cn : ∀ x, (none : Option Nat) = some x → ¬ x = cn := fun x e => by cases e
 have nq_row42_cp : ∀ x, (none : Option Nat) = some x → ¬ x = cp := fun x e => by cases e
 have nq_row42_oc : ∀ x, (none : Option Nat) = some x → ¬ x = oc := fun x e => by cases e
 have q_oW_row42 : Fr none none W.heap.size := Fr.none
 replace a39 : Ow 32 2 bo38 u36 (pgRow (fun k_ => (pgD (rowRL bl p s k_)).1) vs28).length ((pgRow (fun k_ => (pgD (rowRL bl p s k_)).1) vs28).flatMap eG) w37 := ow_appG (xs := ([] : List (Nat × Value))) a39 rfl rfl
 have nqq_out_row42 : ∀ x, bo26 = some x → (none : Option Nat) = some x → False := fun _ _ e => by cases e
 replace hN := hN.gr o40 (fun k e => (.inl e)) (xx_re (Fr.of_or q41) (xx_orq (xx_or1 (xx_or1 (xx_or1 xx_id)))))
 replace hb := hb.gr o40 (fun k e => (.inl e)) (xx_re (Fr.of_or q41) (xx_orq (xx_or1 (xx_or1 (xx_or1 (xx_ors xx_id))))))
 replace f32 := f32.gr o40 (fun k e => (.inl e)) (xx_re (Fr.of_or q41) (xx_orq (xx_or1 (xx_or1 (xx_or1 (xx_ors xx_id))))))
 have nq2 := nqs nq_row42_cn (Fr.of_or q41) a13.lt
 replace a13 := a13.step o40 (fun e => nq_row42_cn _ e rfl)
 replace nq_row42_cn := nq2
 clear nq2
 have nq2 := nqs nq_row42_cp (Fr.of_or q41) a17.lt
 replace a17 := a17.step o40 (fun e => nq_row42_cp _ e rfl)
 replace nq_row42_cp := nq2
 clear nq2
 have nq2 := nqs nq_row42_oc (Fr.of_or q41) a21.lt
 replace a21 := a21.step o40 (fun e => nq_row42_oc _ e rfl)
 replace nq_row42_oc := nq2
 clear nq2
 have lt2 := a31.lts
 replace a31 := a31.step o40 (fun x hx e => nqq_out_row42 x hx e)
 replace nqq_out_row42 := nqq_step nqq_out_row42 (Fr.of_or q41) lt2
 clear lt2
 have tq := oW.size
 replace oW := oW.tailr o40 q_oW_row42 (fun _ e => by cases e)
 replace q_oW_row42 := qtr (Fr.of_or q41) q_oW_row42 tq
 clear tq
 refine wI (d_assign rfl) ?_
 refine wI (d_assign rfl) ?_
 refine wpL.done (then_n ?_)
 refine wpIn_ret ?_
 refine leave0 (v := (Value.tuple #[u36, (eN 0)])) (res2 Try.results34 rfl rfl) ?_
 exact ⟨_, vs28, congrArg (fun x_ => Value.tuple #[_, eN x_]) cr.symm, fun _ => ⟨l33 cr, (Ow.seqG a39 (old_q q_oW_row42)), f32.less (xx_skip (xx_skip (xx_skip (xx_skip (xx_skip (xx_skip xx_id))))))⟩, fun h_ => absurd cr h_, (hN.less (xx_skip (xx_skip (xx_skip (xx_skip (xx_skip xx_id)))))), oW⟩
set_option maxRecDepth 20000 in
set_option maxHeartbeats 1000000 in
theorem law12Within_ok (a : Int) (m : Nat) (W : World) (hm : 0 < m) (hm2 : m ≤ 1000000) :
    CW Try.prog 29 #[(eI a), (eN m)] W (Rt (RIs (eN (a % (m : Int)).toNat) W)) := by
 have oW : Only No W W := Only.refl _ _
 refine enter (al := [(eI a), (eN m)]) (k := 13) (l := ([(eI a), (eN m)] ++ (us 13))) Try.func29 rfl Try.ntmps29 rfl rfl ?_
 refine wpIn_seq (plain ?_)
 refine wI (d_assign rfl) ?_
 refine wpL.done (then_n (wpIn_seq (plain ?_)))
 refine wI (d_move rfl) ?_
 refine wI (d_move rfl) ?_
 refine wI (d_rem (k := .i64) (m := a) (n := (m : Int)) rfl rfl (by omega) (r := Int.tmod a (m : Int)) rfl) ?_
 refine wI (d_assign rfl) ?_
 refine wpL.done (then_n (wpIn_seq (wpIn_seq (plain ?_))))
 refine wI (d_move rfl) ?_
 refine wF ([(eI a), (eN m), undef, undef, (eN 0), (eI (Int.tmod a (m : Int))), (eI a), (eN m), (eI (Int.tmod a (m : Int))), (eI (Int.tmod a (m : Int)))] ++ (us 5)) ?_
 refine wI (d_lss (k := .i64) (m := Int.tmod a (m : Int)) (n := 0) rfl rfl rfl) ?_
 refine wpL.done (then_n ?_)
 refine cond_if rfl (fun k1 => ?_) (fun k1 => ?_)
 ·
  refine plain ?_
  refine wI (d_move rfl) ?_
  refine wI (d_move rfl) ?_
  refine wI (d_add (k := .i64) (m := Int.tmod a (m : Int)) (n := (m : Int)) rfl rfl (r := (((a % (m : Int)).toNat : Nat) : Int)) (tmm_neg hm hm2 k1)) ?_
  refine wI (d_assign rfl) ?_
  refine wpL.done (then_n (wpIn_seq (plain ?_)))
  refine wI (d_move rfl) ?_
  refine wF [(eI a), (eN m), undef, undef, (eN 0), (eN ((a % (m : Int)).toNat)), (eI a), (eN m), (eI (Int.tmod a (m : Int))), (eI (Int.tmod a (m : Int))), (Value.bool (decide (Int.tmod a (m : Int) < 0))), (eI (Int.tmod a (m : Int))), (eN m), (eN ((a % (m : Int)).toNat)), (eN ((a % (m : Int)).toNat))] ?_
  refine wI (d_assign rfl) ?_
  refine wpL.done (then_n ?_)
  refine wpIn_ret ?_
  refine leave0 (v := (eN ((a % (m : Int)).toNat))) (res1 Try.results29 rfl) ?_
  exact ⟨rfl, oW⟩
 refine wp_eq (l' := [(eI a), (eN m), undef, undef, (eN 0), (eI (Int.tmod a (m : Int))), (eI a), (eN m), (eI (Int.tmod a (m : Int))), (eI (Int.tmod a (m : Int))), (Value.bool (decide (Int.tmod a (m : Int) < 0))), undef, undef, undef, undef]) rfl ?_
 refine wp_eq (l' := [(eI a), (eN m), undef, undef, (eN 0), (eN ((a % (m : Int)).toNat)), (eI a), (eN m), (eN ((a % (m : Int)).toNat)), (eN ((a % (m : Int)).toNat)), (Value.bool (decide (Int.tmod a (m : Int) < 0))), undef, undef, undef, undef]) (Eq.trans (Eq.trans (show ([(eI a), (eN m), undef, undef, (eN 0), (eI (Int.tmod a (m : Int))), (eI a), (eN m), (eI (Int.tmod a (m : Int))), (eI (Int.tmod a (m : Int))), (Value.bool (decide (Int.tmod a (m : Int) < 0))), undef, undef, undef, undef] : List Value) = [(eI a), (eN m), undef, undef, (eN 0), (eN ((a % (m : Int)).toNat)), (eI a), (eN m), (eI (Int.tmod a (m : Int))), (eI (Int.tmod a (m : Int))), (Value.bool (decide (Int.tmod a (m : Int) < 0))), undef, undef, undef, undef] from reslot [(eI a), (eN m), undef, undef, (eN 0), (eI (Int.tmod a (m : Int))), (eI a), (eN m), (eI (Int.tmod a (m : Int))), (eI (Int.tmod a (m : Int))), (Value.bool (decide (Int.tmod a (m : Int) < 0))), undef, undef, undef, undef] 5 (tmm_pos hm k1)) (show ([(eI a), (eN m), undef, undef, (eN 0), (eN ((a % (m : Int)).toNat)), (eI a), (eN m), (eI (Int.tmod a (m : Int))), (eI (Int.tmod a (m : Int))), (Value.bool (decide (Int.tmod a (m : Int) < 0))), undef, undef, undef, undef] : List Value) = [(eI a), (eN m), undef, undef, (eN 0), (eN ((a % (m : Int)).toNat)), (eI a), (eN m), (eN ((a % (m : Int)).toNat)), (eI (Int.tmod a (m : Int))), (Value.bool (decide (Int.tmod a (m : Int) < 0))), undef, undef, undef, undef] from reslot [(eI a), (eN m), undef, undef, (eN 0), (eN ((a % (m : Int)).toNat)), (eI a), (eN m), (eI (Int.tmod a (m : Int))), (eI (Int.tmod a (m : Int))), (Value.bool (decide (Int.tmod a (m : Int) < 0))), undef, undef, undef, undef] 8 (tmm_pos hm k1))) (show ([(eI a), (eN m), undef, undef, (eN 0), (eN ((a % (m : Int)).toNat)), (eI a), (eN m), (eN ((a % (m : Int)).toNat)), (eI (Int.tmod a (m : Int))), (Value.bool (decide (Int.tmod a (m : Int) < 0))), undef, undef, undef, undef] : List Value) = [(eI a), (eN m), undef, undef, (eN 0), (eN ((a % (m : Int)).toNat)), (eI a), (eN m), (eN ((a % (m : Int)).toNat)), (eN ((a % (m : Int)).toNat)), (Value.bool (decide (Int.tmod a (m : Int) < 0))), undef, undef, undef, undef] from reslot [(eI a), (eN m), undef, undef, (eN 0), (eN ((a % (m : Int)).toNat)), (eI a), (eN m), (eN ((a % (m : Int)).toNat)), (eI (Int.tmod a (m : Int))), (Value.bool (decide (Int.tmod a (m : Int) < 0))), undef, undef, undef, undef] 9 (tmm_pos hm k1))) ?_
 refine wpIn_skip (then_n (wpIn_seq (plain ?_)))
 refine wI (d_move rfl) ?_
 refine wI (d_assign rfl) ?_
 refine wpL.done (then_n ?_)
 refine wpIn_ret ?_
 refine leave0 (v := (eN ((a % (m : Int)).toNat))) (res1 Try.results29 rfl) ?_
 exact ⟨rfl, oW⟩
set_option maxRecDepth 20000 in
set_option maxHeartbeats 1000000 in
theorem payloads_ok (la : List UInt8) (n : Nat) (u1 : Value) (W : World) (h1 : Ps No (Seq kB la u1) W) (gn : n ≤ 100) :
    CW Try.prog 31 #[u1, (eN n)] W (Rt (fun u w => ∃ vs, vs.length = n ∧ Ps (Old W.heap.size) (Seq (kS eV) vs u) w ∧ Ps (Old W.heap.size) (Fam kB n (plD la n) vs) w ∧ Only No W w)) := by
 have oW : Only No W W := Only.refl _ _
 refine enter (al := [u1, (eN n)]) (k := 26) (l := ([u1, (eN n)] ++ (us 26))) Try.func31 rfl Try.ntmps31 rfl rfl ?_
 refine wpIn_seq (plain ?_)
 refine wI (d_assign rfl) ?_
 refine wpL.done (then_n (wpIn_seq ?_))
 refine wp_eq (l' := ([u1, (eN n), undef, undef, (Value.slice none 0 0)] ++ (us 23))) rfl ?_
 refine plain ?_
 refine wI (d_assign rfl) ?_
 refine wF ([u1, (eN n), undef, undef, (Value.slice none 0 0), (Value.slice none 0 0)] ++ (us 22)) ?_
 refine wpL.done ?_
 have a11 : Ow 22 1 none (Value.slice none 0 0) ([] : List (Value)).length (([] : List (Value)).map eV) W := Ow.nil _ _ _
 have q_oW_l : Fr none none W.heap.size := Fr.none
 replace h1 := h1.qnone
 refine then_n (wpIn_seq (plain ?_))
 refine wI (d_move rfl) ?_
 refine wI (d_move rfl) ?_
 refine wI (n_mul (a := 48) (b := n) rfl rfl (by omega)) ?_
 refine wO (d_call (xl := [.tmp 8, .tmp 10]) (al := [u1, (eN (48 * n))]) Try.func15 (by kernel_rfl) rfl rfl rfl (l4Data_ok la (48 * n) u1 _ (Ps.no h1) (by omega))) ?_
 rintro u14 w12 f15
 obtain ⟨bo16, f15, g17, o13⟩ := f15
 have nqq_l_d := nqq_new g17 a11.lts
 have q_oW_d := qnew g17 oW.size
 replace h1 := h1.newq o13 g17
 replace a11 := a11.step0 o13
 replace oW := oW.tail0 o13
 refine wI (d_assign rfl) ?_
 refine wpL.done (then_n (wpIn_seq (wpIn_seq ?_)))
 have f18 : Ps (Orq none (Old W.heap.size)) (Seq kB (dataL la (48 * n)) u14) w12 := Ow.seq f15 (fun b_ hb_ => (not_orq (fun x_ hx_ e_ => nqq_l_d x_ hx_ (e_ ▸ hb_)) (old_q q_oW_d b_ hb_)))
 replace h1 := Ps.less (Y := (Orq none No)) h1 (xx_skip (xx_orq xx_id))
 refine plain ?_
 refine wI (d_assign rfl) ?_
 refine wF ([u1, (eN n), undef, undef, (Value.slice none 0 0), (Value.slice none 0 0), u14, (eN 0), u1, (eN n), (eN (48 * n)), u14] ++ (us 16)) ?_
 refine wpL.done (then_n (wpIn_block ?_))
 have h_lts_l := a11.lts
 refine loop2 (fun (s_ : (Nat) × (List Value) × (Option Nat) × (Value)) => match s_ with | ⟨i, vs, bo_l, u_l⟩ => fun (z : Nat → Value) => (([u1, (eN n), undef, undef, (Value.slice none 0 0), u_l, u14, (eN i), u1, (eN n), (eN (48 * n)), u14] ++ (zs z 12 15 ++ [undef])) : List Value)) (fun (s_ : (Nat) × (List Value) × (Option Nat) × (Value)) => match s_ with | ⟨i, vs, bo_l, u_l⟩ => fun (w_ : World) => (i ≤ n) ∧ (vs.length = i) ∧ (Ps (Orq bo_l (Old W.heap.size)) (Fam kB i (plD la n) vs) w_) ∧ Only (Orq none No) w12 w_ ∧ Ow 22 1 bo_l u_l (vs).length ((vs).map eV) w_ ∧ Fr bo_l none w12.heap.size) (fun (s_ : (Nat) × (List Value) × (Option Nat) × (Value)) => match s_ with | ⟨i, vs, bo_l, u_l⟩ => n - i) ⟨0, [], none, (Value.slice none 0 0)⟩ rfl ?_ ?_
 ·
  refine ⟨?_, ?_, ?_, ?_, ?_, ?_⟩
  ·
   exact Nat.zero_le _
  ·
   exact rfl
  ·
   exact fam_zero
  ·
   exact Only.refl _ _
  ·
   exact a11
  ·
   exact Fr.same
 rintro ⟨i, vs, bo_l, u_l⟩ z w20 ⟨hi, hv, hF, o19, a11, qq_l⟩
 (try dsimp only)
 replace h1 := h1.re o19 (orq_mono no_any) (xx_re qq_l xx_id)
 replace f18 := f18.re o19 (orq_mono no_any) (xx_re qq_l xx_id)
 have tq_oW := oW.size
 replace oW := oW.tail o19 (tl_q q_oW_l (fun _ e => by cases e) tl_no)
 replace q_oW_l := qtr qq_l q_oW_l tq_oW
 have q_o19_l := qq_l
 refine wpIn_seq (wpIn_seq (plain ?_))
 refine wI (d_move rfl) ?_
 refine wI (d_move rfl) ?_
 refine wI (n_lss (a := i) (b := n) rfl rfl rfl) ?_
 refine wpL.done (then_n ?_)
 refine cond_if rfl (fun c21 => ?_) (fun c21 => ?_)
 ·
  refine wpIn_skip (then_n (wpIn_seq (wpIn_block (plain ?_))))
  refine wI (d_move rfl) ?_
  refine wI (d_move rfl) ?_
  refine wI (d_move rfl) ?_
  refine wF ([u1, (eN n), undef, undef, (Value.slice none 0 0), u_l, u14, (eN i), u1, (eN n), (eN (48 * n)), u14, (eN i), (eN n), (Value.bool (decide (i < n))), (z 15), (z 16), u_l, u14, (eN i)] ++ (zs z 20 7 ++ [undef])) ?_
  refine wI (n_mul (a := 48) (b := i) rfl rfl (by omega)) ?_
  refine wI (d_move rfl) ?_
  refine wI (n_mul (a := 48) (b := i) rfl rfl (by omega)) ?_
  refine wI (n_add (a := (48 * i)) (b := 48) rfl rfl (by omega)) ?_
  refine wO (d_sliceS (xs := (dataL la (48 * n))) (ys := (plD la n i)) (l := (48 * i)) (h := (48 * i + 48)) Try.underlying22 s_ti5 rfl f18 (Bd.some (l := (48 * i)) (k := .i64) rfl) (Bd.some (l := (48 * i + 48)) (k := .i64) rfl) (by omega) (by rw [dataL_length]; omega) (by unfold plD; rw [List.drop_take]; simp)) ?_
  rintro u22 _ ⟨f23, rfl⟩
  refine wO (d_buildL (cs := [u22]) Try.underlying29 s_ti22 rfl (nb rfl) (parts_cons (vs := [u22]) (cells_of (v := u22) rfl (Seq.cells f23)) parts_nil) rfl) ?_
  rintro _ w24 ⟨pb, rfl, g25, a26, o27⟩
  replace a26 : Arr 22 pb (([u22] : List Value).map eV) w24 := a26
  have l_pb : ([u22] : List Value).length = 1 := rfl
  have nq_l_pb : ∀ x, bo_l = some x → ¬ x = pb := fun x hx e => by have := a11.lts x hx; omega
  have g_oW_pb : W.heap.size ≤ pb := Nat.le_trans oW.size g25
  have g_o19_pb : w12.heap.size ≤ pb := Nat.le_trans o19.size g25
  replace h1 := h1.new o27 g25
  replace f18 := f18.new o27 g25
  replace hF := hF.new o27 g25
  replace f23 := f23.new o27 g25
  replace a11 := a11.step0 o27
  replace oW := oW.tail0 o27
  replace o19 := o19.tail0 o27
  refine wF [u1, (eN n), undef, undef, (Value.slice none 0 0), u_l, u14, (eN i), u1, (eN n), (eN (48 * n)), u14, (eN i), (eN n), (Value.bool (decide (i < n))), (z 15), (z 16), u_l, u14, (eN i), (eN (48 * i)), (eN i), (eN (48 * i)), (eN (48 * i + 48)), u22, (sli pb 0 1 1), (z 26), undef] ?_
  refine wO (d_append Try.underlying29 Try.underlying29 s_ti22 rfl rfl rfl a11 (SrcV.of_arr (n := 1) (sz := 1) a26 rfl (fun v_ hv_ => by rw [List.mem_singleton.1 (show v_ ∈ [u22] from hv_)]; exact (Seq.one f23))) (by first | omega | (simp; omega)) (by first | omega | (simp; omega)) rfl) ?_
  rintro u28 w29 ⟨bo30, a31, o32, q33⟩
  replace a31 : Ow 22 1 bo30 u28 (vs ++ ([u22] : List Value)).length ((vs ++ ([u22] : List Value)).map eV) w29 := by rw [List.length_append, List.map_append]; exact a31
  replace h1 := h1.gr o32 (fun k e => (.inr (.inl e))) (xx_or1 (xx_re (Fr.of_or q33) xx_id))
  replace f18 := f18.gr o32 (fun k e => (.inr (.inl e))) (xx_or1 (xx_re (Fr.of_or q33) xx_id))
  replace hF := hF.gr o32 (fun k e => (.inr (.inl e))) (xx_or1 (xx_re (Fr.of_or q33) xx_id))
  replace f23 := f23.gr o32 (fun k e => (.inr (.inl e))) (xx_or1 (xx_re (Fr.of_or q33) xx_id))
  have nq2 := nqs nq_l_pb (Fr.of_or q33) a26.lt
  replace a26 := a26.step o32 (fun e => nq_l_pb _ e rfl)
  replace nq_l_pb := nq2
  clear nq2
  have tq := oW.size
  replace oW := oW.tailr o32 q_oW_l (fun _ e => by cases e)
  replace q_oW_l := qtr (Fr.of_or q33) q_oW_l tq
  clear tq
  have tq := o19.size
  replace o19 := o19.tailr o32 q_o19_l (fun k e => (.inl e))
  replace q_o19_l := qtr (Fr.of_or q33) q_o19_l tq
  clear tq
  refine wI (d_assign rfl) ?_
  refine wpL.done ?_
  refine inb_n (then_n ?_)
  refine plain ?_
  refine wI (d_move rfl) ?_
  refine wI (n_add (a := i) (b := 1) rfl rfl (by omega)) ?_
  refine wI (d_assign rfl) ?_
  refine wpL.done (then_n ?_)
  refine ⟨_, ⟨i + 1, vs ++ [u22], bo30, u28⟩, rfl, (by kernel_rfl), ⟨?_, ?_, ?_, ?_, ?_, ?_⟩, ?_⟩
  ·
   (try dsimp only)
   all_goals (omega)
  ·
   (try dsimp only)
   all_goals (rw [List.length_append, hv, List.length_singleton])
  ·
   exact fam_snoc (hF.less (xx_skip (xx_orq xx_id))) (f23.less (xx_skip (xx_orq xx_id))) rfl hv
  ·
   exact o19
  ·
   exact a31
  ·
   exact q_o19_l
  ·
   (try dsimp only)
   all_goals (omega)
 refine wpIn_exit ?_
 refine then_x (then_x (inb_e ?_))
 refine then_n (wpIn_seq (plain ?_))
 refine wI (d_move rfl) ?_
 refine wI (d_assign rfl) ?_
 refine wpL.done (then_n ?_)
 refine wpIn_ret ?_
 refine leave0 (v := u_l) (res1 Try.results31 rfl) ?_
 have hin_ : i = n := by omega
 rw [hin_] at hF hv
 exact ⟨vs, hv, (Ow.seq a11 (old_q q_oW_l)), hF.less (xx_skip xx_id), oW⟩
set_option maxRecDepth 20000 in
set_option maxHeartbeats 1000000 in
theorem law12Known_ok (W : World) :
    CW Try.prog 27 #[] W (Rt (RIs (.bool true) W)) := by
 have oW : Only No W W := Only.refl _ _
 refine enter (al := []) (k := 34) (l := (us 34)) Try.func27 rfl Try.ntmps27 rfl rfl ?_
 refine wpIn_seq (plain ?_)
 refine wI (d_assign rfl) ?_
 refine wpL.done (then_n (wpIn_seq (plain ?_)))
 refine wI (d_buildS (pl := [(0, 1), (1, 1), (2, 1)]) (zs := [(eN 0), (eN 0), (eN 0)]) (cs := [(eN 6), (eN 8), (eN 4)]) Try.underlying49 s_ti49 ⟨_, _, _, _, rfl, s_ti3, ⟨_, _, _, _, rfl, s_ti3, ⟨_, _, _, _, rfl, s_ti3, rfl⟩⟩⟩ rfl (parts_cons (vs := [(eN 6)]) (cells_of (v := (eN 6)) rfl rfl) (parts_cons (vs := [(eN 8)]) (cells_of (v := (eN 8)) rfl rfl) (parts_cons (vs := [(eN 4)]) (cells_of (v := (eN 4)) rfl rfl) parts_nil))) rfl) ?_
 refine wO (d_call (xl := [.tmp 6, .const (.slice none 0 0)]) (al := [(Value.agg #[(eN 6), (eN 8), (eN 4)]), (Value.slice none 0 0)]) Try.func28 (by kernel_rfl) rfl rfl rfl (new0_ok 6 8 4 _ (by omega) (by omega) (by omega))) ?_
 rintro _ w11 ⟨L13, rfl, ⟨a14, g15⟩, o12⟩
 have g_oW_L13 : ∀ k, L13.S k → W.heap.size ≤ k := fun k hk => Nat.le_trans oW.size (g15 k hk)
 replace a14 := a14.less (Y := No) no_old
 replace oW := oW.tail0 o12
 refine wI (d_move rfl) ?_
 refine wI (d_extract (v := (ptr L13.bN 0)) rfl rfl) ?_
 refine wI (d_extract (v := (eN 0)) rfl rfl) ?_
 refine wF ([(Value.bool false), undef, undef, undef, undef, (Value.tuple #[(ptr L13.bN 0), (eN 0)]), (Value.agg #[(eN 6), (eN 8), (eN 4)]), (Value.tuple #[(ptr L13.bN 0), (eN 0)]), (ptr L13.bN 0), (eN 0)] ++ (us 24)) ?_
 refine wI (d_assign rfl) ?_
 refine wI (d_assign rfl) ?_
 refine wpL.done (then_n (wpIn_seq (wpIn_seq (plain ?_))))
 refine wI (d_move rfl) ?_
 refine wI (n_neq (a := 0) (b := 0) rfl rfl (by rw [decide_eq_true rfl] <;> rfl)) ?_
 refine wI (d_move rfl) ?_
 refine wpL.onis rfl rfl rfl (nb rfl) rfl (d_move rfl) ?_
 refine wF ([(Value.bool false), (ptr L13.bN 0), (eN 0), undef, undef, (Value.tuple #[(ptr L13.bN 0), (eN 0)]), (Value.agg #[(eN 6), (eN 8), (eN 4)]), (Value.tuple #[(ptr L13.bN 0), (eN 0)]), (ptr L13.bN 0), (eN 0), (eN 0), (Value.bool false), (Value.bool false), (ptr L13.bN 0)] ++ (us 20)) ?_
 refine wpL.onis rfl rfl rfl (nb rfl) rfl (d_peql (b := L13.bN) (o := 0) Try.underlying44 rfl rfl) ?_
 refine wI (d_pick (b := false) (v := (Value.bool false)) rfl rfl) ?_
 refine wpL.done (then_n ?_)
 refine forget (fun zf16 => ([(zf16 0), (ptr L13.bN 0)] ++ (zs zf16 2 13 ++ [(Value.bool false)] ++ (zs zf16 16 18)))) (by kernel_rfl) (fun zf16 => ?_)
 refine cond_f rfl ?_
 refine wpIn_skip (then_n (wpIn_seq (plain ?_)))
 refine wI (d_move rfl) ?_
 refine wO (d_make1 (n := 6) Try.underlying23 s_ti3 rfl rfl (by omega) (by omega) rfl) ?_
 rintro _ w17 ⟨sb, rfl, g18, a19, o20⟩
 replace a19 : Arr 3 sb ((List.replicate 6 (0 : Int)).map eI) w17 := by rw [List.map_replicate]; exact a19
 have l_sb : (List.replicate 6 (0 : Int) : List Int).length = 6 := by simp
 have g_oW_sb : W.heap.size ≤ sb := Nat.le_trans oW.size g18
 replace a14 := a14.new o20 g18
 replace oW := oW.tail0 o20
 refine wO (d_call (xl := [.tmp 17, .tmp 18, .const (.int .i64 0)]) (al := [(ptr L13.bN 0), (sli sb 0 6 6), (eN 0)]) Try.func34 (by kernel_rfl) rfl rfl rfl (rowRead_ok L13 (NS.new 6 8 4 (fun _ _ => false)) _ a14 (lt_or1 a19.lt lt_no) (List.replicate 6 (0 : Int)) (sli sb 0 6 6) (arr_keep a19 l_sb (Nat.le_refl _) (nx_ors (a14.dis _ in1) (fun _ _ t => t.elim))) (by have := rep_len 6 (0 : Int); first | omega | (simp; done) | (simp; omega)) 0)) ?_
 rintro _ w21 ⟨v23, vs24, rfl, h25, h26, a27, o28⟩
 obtain ⟨l29, f30, f31⟩ := h25 ((reads_ok (bl := List.replicate 6 0) (p := 0) (rv_new (g := fun _ _ => false) rfl (D := 6) (B := 8) (Q := 4) (c := fun _ => 0) (fun _ _ => by decide)) (by simp) (fun _ _ => rep_at) (by decide)).1)
 replace f30 := f30.less (Y := (Or1 sb (Ors L13.S (Old W.heap.size)))) (or1_old a19.lt (ors_old a14.lt (old_old oW.size)))
 replace f31 := f31.less (Y := (Or1 sb (Ors L13.S (Old W.heap.size)))) (or1_old a19.lt (ors_old a14.lt (old_old oW.size)))
 replace a19 := a19.step o28 (a14.dis _ in1)
 replace oW := oW.tail o28 (fun k hk e => by have := g_oW_L13 k e; omega)
 replace a14 := a27
 refine wI (d_move rfl) ?_
 refine wI (d_extract (v := v23) rfl rfl) ?_
 refine wI (d_extract (v := (eN (rowDoC (NS.new 6 8 4 (fun _ _ => false)).gD (List.replicate 6 (0 : Int)).length (rowRC (List.replicate 6 (0 : Int)) 0 (NS.new 6 8 4 (fun _ _ => false)))))) rfl rfl) ?_
 refine wF ([(zf16 0), (ptr L13.bN 0)] ++ (zs zf16 2 13 ++ [(Value.bool false), (Value.tuple #[v23, (eN (rowDoC (NS.new 6 8 4 (fun _ _ => false)).gD (List.replicate 6 (0 : Int)).length (rowRC (List.replicate 6 (0 : Int)) 0 (NS.new 6 8 4 (fun _ _ => false)))))]), (ptr L13.bN 0), (sli sb 0 6 6), (Value.tuple #[v23, (eN (rowDoC (NS.new 6 8 4 (fun _ _ => false)).gD (List.replicate 6 (0 : Int)).length (rowRC (List.replicate 6 (0 : Int)) 0 (NS.new 6 8 4 (fun _ _ => false)))))]), v23, (eN (rowDoC (NS.new 6 8 4 (fun _ _ => false)).gD (List.replicate 6 (0 : Int)).length (rowRC (List.replicate 6 (0 : Int)) 0 (NS.new 6 8 4 (fun _ _ => false)))))] ++ (zs zf16 22 12))) ?_
 refine wI (d_assign rfl) ?_
 refine wI (d_assign rfl) ?_
 refine wF ([(zf16 0), (ptr L13.bN 0), (zf16 2), v23, (eN (rowDoC (NS.new 6 8 4 (fun _ _ => false)).gD (List.replicate 6 (0 : Int)).length (rowRC (List.replicate 6 (0 : Int)) 0 (NS.new 6 8 4 (fun _ _ => false)))))] ++ (zs zf16 5 10 ++ [(Value.bool false), (Value.tuple #[v23, (eN (rowDoC (NS.new 6 8 4 (fun _ _ => false)).gD (List.replicate 6 (0 : Int)).length (rowRC (List.replicate 6 (0 : Int)) 0 (NS.new 6 8 4 (fun _ _ => false)))))]), (ptr L13.bN 0), (sli sb 0 6 6), (Value.tuple #[v23, (eN (rowDoC (NS.new 6 8 4 (fun _ _ => false)).gD (List.replicate 6 (0 : Int)).length (rowRC (List.replicate 6 (0 : Int)) 0 (NS.new 6 8 4 (fun _ _ => false)))))]), v23, (eN (rowDoC (NS.new 6 8 4 (fun _ _ => false)).gD (List.replicate 6 (0 : Int)).length (rowRC (List.replicate 6 (0 : Int)) 0 (NS.new 6 8 4 (fun _ _ => false)))))] ++ (zs zf16 22 12))) ?_
 refine wpL.done ?_
 have rv0 := rv_new (g := fun _ _ => false) rfl (D := 6) (B := 8) (Q := 4) (c := fun _ => 0) (fun _ _ => by decide)
 have rv_s1 := (reads_ok (bl := List.replicate 6 0) (p := 0) rv0 (by simp) (fun _ _ => rep_at) (by decide)).2.1
 obtain ⟨s1, e_s1⟩ : ∃ x_, rowDo (NS.new 6 8 4 (fun _ _ => false)).gD (List.replicate 6 (0 : Int)).length (rowR (List.replicate 6 (0 : Int)) 0 (NS.new 6 8 4 (fun _ _ => false))) (rowRC (List.replicate 6 (0 : Int)) 0 (NS.new 6 8 4 (fun _ _ => false))) = x_ := ⟨_, rfl⟩
 replace rv_s1 := rv_to rv_s1 e_s1
 replace a14 := nd_to a14 e_s1
 refine then_n (wpIn_seq (plain ?_))
 refine wI (d_move rfl) ?_
 refine wI (n_eql (a := (rowDoC (NS.new 6 8 4 (fun _ _ => false)).gD (List.replicate 6 (0 : Int)).length (rowRC (List.replicate 6 (0 : Int)) 0 (NS.new 6 8 4 (fun _ _ => false))))) (b := 0) rfl rfl (decide_eq_true ((reads_ok (bl := List.replicate 6 0) (p := 0) rv0 (by simp) (fun _ _ => rep_at) (by decide)).1))) ?_
 refine wI (d_move rfl) ?_
 refine wpL.onis rfl rfl rfl (nb rfl) rfl (d_move rfl) ?_
 refine wpL.onis rfl rfl rfl (nb rfl) rfl (d_lenS rfl Try.underlying53 rfl f30) ?_
 refine wpL.onis rfl rfl rfl (nb rfl) rfl (n_eql (a := ((pgRow (fun k_ => (pgD (rowRL (List.replicate 6 (0 : Int)) 0 (NS.new 6 8 4 (fun _ _ => false)) k_)).1) vs24).length)) (b := 6) rfl rfl (decide_eq_true (by rw [pgRow_len, l29]; rfl))) ?_
 refine wF ([(zf16 0), (ptr L13.bN 0), (zf16 2), v23, (eN (rowDoC (NS.new 6 8 4 (fun _ _ => false)).gD (List.replicate 6 (0 : Int)).length (rowRC (List.replicate 6 (0 : Int)) 0 (NS.new 6 8 4 (fun _ _ => false)))))] ++ (zs zf16 5 10 ++ [(Value.bool false), (Value.tuple #[v23, (eN (rowDoC (NS.new 6 8 4 (fun _ _ => false)).gD (List.replicate 6 (0 : Int)).length (rowRC (List.replicate 6 (0 : Int)) 0 (NS.new 6 8 4 (fun _ _ => false)))))]), (ptr L13.bN 0), (sli sb 0 6 6), (Value.tuple #[v23, (eN (rowDoC (NS.new 6 8 4 (fun _ _ => false)).gD (List.replicate 6 (0 : Int)).length (rowRC (List.replicate 6 (0 : Int)) 0 (NS.new 6 8 4 (fun _ _ => false)))))]), v23, (eN (rowDoC (NS.new 6 8 4 (fun _ _ => false)).gD (List.replicate 6 (0 : Int)).length (rowRC (List.replicate 6 (0 : Int)) 0 (NS.new 6 8 4 (fun _ _ => false))))), (eN (rowDoC (NS.new 6 8 4 (fun _ _ => false)).gD (List.replicate 6 (0 : Int)).length (rowRC (List.replicate 6 (0 : Int)) 0 (NS.new 6 8 4 (fun _ _ => false))))), (Value.bool true), (Value.bool true), v23, (eN ((pgRow (fun k_ => (pgD (rowRL (List.replicate 6 (0 : Int)) 0 (NS.new 6 8 4 (fun _ _ => false)) k_)).1) vs24).length)), (Value.bool true)] ++ (zs zf16 28 6))) ?_
 refine wI (d_pick (b := true) (v := (Value.bool true)) rfl rfl) ?_
 refine wI (d_move rfl) ?_
 refine wpL.onis rfl rfl rfl (nb rfl) rfl (d_move rfl) ?_
 refine wpL.on rfl rfl rfl (nb rfl) rfl (d_call (xl := [.tmp 30, .const (.slice none 0 0), .const (.int .i64 0), .const (.slice none 0 0)]) (al := [(ptr L13.bN 0), (Value.slice none 0 0), (eN 0), (Value.slice none 0 0)]) Try.func32 (by kernel_rfl) rfl rfl rfl (rowWrite_ok L13 s1 _ a14 (lt_or1 a19.lt lt_no) ([] : List Int) (Value.slice none 0 0) seq_nil (by first | omega | (simp; done) | (simp; omega)) 0 0 [] (fun _ => []) (Value.slice none 0 0) seq_nil fam_zero rfl (fun _ => Nat.zero_le _))) ?_
 rintro _ w32 ⟨rfl, a34, o33⟩
 replace a19 := a19.step o33 (a14.dis _ in1)
 replace f30 := f30.step o33 (sub2 sub1)
 replace f31 := f31.step o33 (sub2 sub1)
 replace oW := oW.tail o33 (fun k hk e => by have := g_oW_L13 k e; omega)
 replace a14 := a34
 refine wpL.onis rfl rfl rfl (nb rfl) rfl (n_eql (a := (rowWC s1 ([] : List Int) 0 (fun _ => []) 0)) (b := 1) rfl rfl (decide_eq_true ((write_shape (fun h_ => by have h2_ := h_.2; rw [rv_s1.ct.gD] at h2_; cases h2_) _ _).1))) ?_
 refine wI (d_pick (b := true) (v := (Value.bool true)) rfl rfl) ?_
 refine wF ([(zf16 0), (ptr L13.bN 0), (zf16 2), v23, (eN (rowDoC (NS.new 6 8 4 (fun _ _ => false)).gD (List.replicate 6 (0 : Int)).length (rowRC (List.replicate 6 (0 : Int)) 0 (NS.new 6 8 4 (fun _ _ => false)))))] ++ (zs zf16 5 10 ++ [(Value.bool false), (Value.tuple #[v23, (eN (rowDoC (NS.new 6 8 4 (fun _ _ => false)).gD (List.replicate 6 (0 : Int)).length (rowRC (List.replicate 6 (0 : Int)) 0 (NS.new 6 8 4 (fun _ _ => false)))))]), (ptr L13.bN 0), (sli sb 0 6 6), (Value.tuple #[v23, (eN (rowDoC (NS.new 6 8 4 (fun _ _ => false)).gD (List.replicate 6 (0 : Int)).length (rowRC (List.replicate 6 (0 : Int)) 0 (NS.new 6 8 4 (fun _ _ => false)))))]), v23, (eN (rowDoC (NS.new 6 8 4 (fun _ _ => false)).gD (List.replicate 6 (0 : Int)).length (rowRC (List.replicate 6 (0 : Int)) 0 (NS.new 6 8 4 (fun _ _ => false))))), (eN (rowDoC (NS.new 6 8 4 (fun _ _ => false)).gD (List.replicate 6 (0 : Int)).length (rowRC (List.replicate 6 (0 : Int)) 0 (NS.new 6 8 4 (fun _ _ => false))))), (Value.bool true), (Value.bool true), v23, (eN ((pgRow (fun k_ => (pgD (rowRL (List.replicate 6 (0 : Int)) 0 (NS.new 6 8 4 (fun _ _ => false)) k_)).1) vs24).length)), (Value.bool true), (Value.bool true), (Value.bool true), (ptr L13.bN 0), (eN (rowWC s1 ([] : List Int) 0 (fun _ => []) 0)), (Value.bool true), (Value.bool true)])) ?_
 refine wI (d_assign rfl) ?_
 refine wpL.done (then_n ?_)
 refine forget (fun zf35 => ([(Value.bool true)] ++ (zs zf35 1 33))) (by kernel_rfl) (fun zf35 => ?_)
 refine wpIn_ret ?_
 refine leave0 (v := (Value.bool true)) (res1 Try.results27 rfl) ?_
 exact ⟨rfl, oW⟩
end Go.Proofs.YtgalehapmdabeaaF
namespace Go.Proofs.YtgalehapmdabeaaF
open Go Go.Shelf Go.Proofs.YtgalehapmdabeaaS Ram
set_option maxRecDepth 20000 in
set_option maxHeartbeats 4000000 in
theorem rowioShape_law (a b_ : Int) (la : List UInt8) (u1 : Value) (W : World) (h1 : Ps No (Seq kB la u1) W) :
    CW Try.prog 13 #[(eI a), (eI b_), u1] W (Rt (RIs (.bool true) W)) := by
 have oW : Only No W W := Only.refl _ _
 refine enter (al := [(eI a), (eI b_), u1]) (k := 100) (l := ([(eI a), (eI b_), u1] ++ (us 100))) Try.func13 rfl Try.ntmps13 rfl rfl ?_
 refine wpIn_seq (plain ?_)
 refine wI (d_assign rfl) ?_
 refine wpL.done (then_n (wpIn_seq (wpIn_seq (plain ?_))))
 refine wO (d_call (xl := []) (al := []) Try.func27 (by kernel_rfl) rfl rfl rfl (law12Known_ok _)) ?_
 rintro _ w11 ⟨rfl, o12⟩
 replace h1 := h1.step0 o12
 replace oW := oW.tail0 o12
 refine wI (d_not rfl rfl) ?_
 refine wpL.done (then_n ?_)
 refine cond_f rfl ?_
 refine wpIn_skip (then_n (wpIn_seq (plain ?_)))
 refine wI (d_move rfl) ?_
 refine wO (d_call (xl := [.tmp 16, .const (.int .i64 10)]) (al := [(eI a), (eN 10)]) Try.func29 (by kernel_rfl) rfl rfl rfl (law12Within_ok a 10 _ (by omega) (by omega))) ?_
 rintro _ w13 ⟨rfl, o14⟩
 replace h1 := h1.step0 o14
 replace oW := oW.tail0 o14
 refine wI (d_move rfl) ?_
 refine wF ([(eI a), (eI b_), u1, undef, undef, undef, (Value.bool false)] ++ (us 7 ++ [(Value.bool true), (Value.bool false), (eI a), (eN ((a % ((10 : Nat) : Int)).toNat)), (eI b_)] ++ (us 84))) ?_
 refine wO (d_call (xl := [.tmp 18, .const (.int .i64 10)]) (al := [(eI b_), (eN 10)]) Try.func29 (by kernel_rfl) rfl rfl rfl (law12Within_ok b_ 10 _ (by omega) (by omega))) ?_
 rintro _ w15 ⟨rfl, o16⟩
 replace h1 := h1.step0 o16
 replace oW := oW.tail0 o16
 refine wI (d_assign rfl) ?_
 refine wI (d_assign rfl) ?_
 refine wpL.done (then_n (wpIn_seq ?_))
 obtain ⟨nn, hnn, enn⟩ : ∃ nn, nn < 10 ∧ (a % ((10 : Nat) : Int)).toNat = nn := ⟨_, by omega, rfl⟩
 refine wp_eq (l' := ([(eN ((a % ((10 : Nat) : Int)).toNat)), (eN ((b_ % ((10 : Nat) : Int)).toNat)), u1, undef, undef, undef, (Value.bool false)] ++ (us 7 ++ [(Value.bool true), (Value.bool false), (eI a), (eN ((a % ((10 : Nat) : Int)).toNat)), (eI b_), (eN ((b_ % ((10 : Nat) : Int)).toNat))] ++ (us 83)))) rfl ?_
 refine wp_eq (l' := ([(eN nn), (eN ((b_ % ((10 : Nat) : Int)).toNat)), u1, undef, undef, undef, (Value.bool false)] ++ (us 7 ++ [(Value.bool true), (Value.bool false), (eI a), (eN ((a % ((10 : Nat) : Int)).toNat)), (eI b_), (eN ((b_ % ((10 : Nat) : Int)).toNat))] ++ (us 83)))) (show (([(eN ((a % ((10 : Nat) : Int)).toNat)), (eN ((b_ % ((10 : Nat) : Int)).toNat)), u1, undef, undef, undef, (Value.bool false)] ++ (us 7 ++ [(Value.bool true), (Value.bool false), (eI a), (eN ((a % ((10 : Nat) : Int)).toNat)), (eI b_), (eN ((b_ % ((10 : Nat) : Int)).toNat))] ++ (us 83))) : List Value) = ([(eN nn), (eN ((b_ % ((10 : Nat) : Int)).toNat)), u1, undef, undef, undef, (Value.bool false)] ++ (us 7 ++ [(Value.bool true), (Value.bool false), (eI a), (eN ((a % ((10 : Nat) : Int)).toNat)), (eI b_), (eN ((b_ % ((10 : Nat) : Int)).toNat))] ++ (us 83))) from reslot ([(eN ((a % ((10 : Nat) : Int)).toNat)), (eN ((b_ % ((10 : Nat) : Int)).toNat)), u1, undef, undef, undef, (Value.bool false)] ++ (us 7 ++ [(Value.bool true), (Value.bool false), (eI a), (eN ((a % ((10 : Nat) : Int)).toNat)), (eI b_), (eN ((b_ % ((10 : Nat) : Int)).toNat))] ++ (us 83))) 0 (congrArg eN enn)) ?_
 obtain ⟨mm, hmm, emm⟩ : ∃ mm, mm < 10 ∧ (b_ % ((10 : Nat) : Int)).toNat = mm := ⟨_, by omega, rfl⟩
 refine wp_eq (l' := ([(eN nn), (eN mm), u1, undef, undef, undef, (Value.bool false)] ++ (us 7 ++ [(Value.bool true), (Value.bool false), (eI a), (eN ((a % ((10 : Nat) : Int)).toNat)), (eI b_), (eN ((b_ % ((10 : Nat) : Int)).toNat))] ++ (us 83)))) (show (([(eN nn), (eN ((b_ % ((10 : Nat) : Int)).toNat)), u1, undef, undef, undef, (Value.bool false)] ++ (us 7 ++ [(Value.bool true), (Value.bool false), (eI a), (eN ((a % ((10 : Nat) : Int)).toNat)), (eI b_), (eN ((b_ % ((10 : Nat) : Int)).toNat))] ++ (us 83))) : List Value) = ([(eN nn), (eN mm), u1, undef, undef, undef, (Value.bool false)] ++ (us 7 ++ [(Value.bool true), (Value.bool false), (eI a), (eN ((a % ((10 : Nat) : Int)).toNat)), (eI b_), (eN ((b_ % ((10 : Nat) : Int)).toNat))] ++ (us 83))) from reslot ([(eN nn), (eN ((b_ % ((10 : Nat) : Int)).toNat)), u1, undef, undef, undef, (Value.bool false)] ++ (us 7 ++ [(Value.bool true), (Value.bool false), (eI a), (eN ((a % ((10 : Nat) : Int)).toNat)), (eI b_), (eN ((b_ % ((10 : Nat) : Int)).toNat))] ++ (us 83))) 1 (congrArg eN emm)) ?_
 refine plain ?_
 refine wI (d_buildS (pl := [(0, 1), (1, 1), (2, 1)]) (zs := [(eN 0), (eN 0), (eN 0)]) (cs := [(eN 7), (eN 8), (eN 4)]) Try.underlying49 s_ti49 ⟨_, _, _, _, rfl, s_ti3, ⟨_, _, _, _, rfl, s_ti3, ⟨_, _, _, _, rfl, s_ti3, rfl⟩⟩⟩ rfl (parts_cons (vs := [(eN 7)]) (cells_of (v := (eN 7)) rfl rfl) (parts_cons (vs := [(eN 8)]) (cells_of (v := (eN 8)) rfl rfl) (parts_cons (vs := [(eN 4)]) (cells_of (v := (eN 4)) rfl rfl) parts_nil))) rfl) ?_
 refine wO (d_call (xl := [.tmp 21, .const (.slice none 0 0)]) (al := [(Value.agg #[(eN 7), (eN 8), (eN 4)]), (Value.slice none 0 0)]) Try.func28 (by kernel_rfl) rfl rfl rfl (new0_ok 7 8 4 _ (by omega) (by omega) (by omega))) ?_
 rintro _ w17 ⟨L19, rfl, ⟨a20, g21⟩, o18⟩
 have g_oW_L19 : ∀ k, L19.S k → W.heap.size ≤ k := fun k hk => Nat.le_trans oW.size (g21 k hk)
 replace a20 := a20.less (Y := No) no_old
 replace h1 := h1.re (X' := Ors L19.S No) o18 (fun _ t => t.elim) (xx_news g21 xx_id)
 replace oW := oW.tail0 o18
 refine wI (d_move rfl) ?_
 refine wI (d_extract (v := (ptr L19.bN 0)) rfl rfl) ?_
 refine wI (d_extract (v := (eN 0)) rfl rfl) ?_
 refine wI (d_assign rfl) ?_
 refine wF ([(eN nn), (eN mm), u1, undef, undef, undef, (Value.bool false), (ptr L19.bN 0)] ++ (us 6 ++ [(Value.bool true), (Value.bool false), (eI a), (eN ((a % ((10 : Nat) : Int)).toNat)), (eI b_), (eN ((b_ % ((10 : Nat) : Int)).toNat)), (Value.tuple #[(ptr L19.bN 0), (eN 0)]), (Value.agg #[(eN 7), (eN 8), (eN 4)]), (Value.tuple #[(ptr L19.bN 0), (eN 0)]), (ptr L19.bN 0), (eN 0)] ++ (us 78))) ?_
 refine wI (d_assign rfl) ?_
 refine wpL.done (then_n ?_)
 refine forget (fun zf22 => ([(eN nn), (eN mm), u1, (zf22 3), (zf22 4), (zf22 5), (zf22 6), (ptr L19.bN 0), (eN 0)] ++ (zs zf22 9 94))) (by kernel_rfl) (fun zf22 => ?_)
 refine wpIn_seq (wpIn_seq (plain ?_))
 refine wI (d_move rfl) ?_
 refine wI (n_neq (a := 0) (b := 0) rfl rfl (by rw [decide_eq_true rfl] <;> rfl)) ?_
 refine wpL.done (then_n ?_)
 refine cond_f rfl ?_
 refine wpIn_skip (then_n (wpIn_seq (plain ?_)))
 refine wI (d_move rfl) ?_
 refine wO (d_make1 (n := nn) Try.underlying23 s_ti3 rfl rfl (by omega) (by omega) rfl) ?_
 rintro _ w23 ⟨sb, rfl, g24, a25, o26⟩
 replace a25 : Arr 3 sb ((List.replicate nn (0 : Int)).map eI) w23 := by rw [List.map_replicate]; exact a25
 have l_sb : (List.replicate nn (0 : Int) : List Int).length = nn := by simp
 have g_oW_sb : W.heap.size ≤ sb := Nat.le_trans oW.size g24
 replace h1 := h1.new o26 g24
 replace a20 := a20.new o26 g24
 replace oW := oW.tail0 o26
 refine wI (d_assign rfl) ?_
 refine wpL.done (then_n (wpIn_seq ?_))
 by_cases kn : nn = 7
 ·
  by_cases km : mm = 7
  ·
   have rv0 := rv_new (g := fun _ _ => false) rfl (D := 7) (B := 8) (Q := 4) (c := fun _ => 0) (fun _ _ => by decide)
   subst kn
   refine wp_eq (l' := ([(eN 7), (eN mm), u1, (zf22 3), (zf22 4), (zf22 5), (zf22 6), (ptr L19.bN 0), (eN 0), (sli sb 0 7 7)] ++ (zs zf22 10 15 ++ [(eN 0), (Value.bool false), (eN 7), (sli sb 0 7 7)] ++ (zs zf22 29 74)))) rfl ?_
   subst km
   refine wp_eq (l' := ([(eN 7), (eN 7), u1, (zf22 3), (zf22 4), (zf22 5), (zf22 6), (ptr L19.bN 0), (eN 0), (sli sb 0 7 7)] ++ (zs zf22 10 15 ++ [(eN 0), (Value.bool false), (eN 7), (sli sb 0 7 7)] ++ (zs zf22 29 74)))) rfl ?_
   refine plain ?_
   refine wI (d_move rfl) ?_
   refine wI (d_move rfl) ?_
   refine wI (d_move rfl) ?_
   refine wI (d_move rfl) ?_
   refine wO (d_call (xl := [.tmp 31, .tmp 32]) (al := [u1, (eN 7)]) Try.func31 (by kernel_rfl) rfl rfl rfl (payloads_ok la 7 u1 _ (Ps.no h1) (by omega))) ?_
   rintro u29 w27 ⟨vs30, l31, f32, f33, o28⟩
   replace f32 := f32.less (Y := (Or1 sb (Ors L19.S (Old W.heap.size)))) (or1_old a25.lt (ors_old a20.lt (old_old oW.size)))
   replace f33 := f33.less (Y := (Or1 sb (Ors L19.S (Old W.heap.size)))) (or1_old a25.lt (ors_old a20.lt (old_old oW.size)))
   replace h1 := h1.step0 o28
   replace a20 := a20.step0 o28
   replace a25 := a25.step0 o28
   replace oW := oW.tail0 o28
   refine wO (d_call (xl := [.tmp 29, .tmp 30, .const (.int .i64 0), .tmp 33]) (al := [(ptr L19.bN 0), (sli sb 0 7 7), (eN 0), u29]) Try.func32 (by kernel_rfl) rfl rfl rfl (rowWrite_ok L19 (NS.new 7 8 4 (fun _ _ => false)) _ a20 (lt_or1 a25.lt lt_no) (List.replicate 7 (0 : Int)) (sli sb 0 7 7) (arr_keep a25 l_sb (Nat.le_refl _) (nx_ors (a20.dis _ in1) (fun _ _ t => t.elim))) (by have := rep_len 7 (0 : Int); first | omega | (simp; done) | (simp; omega)) 7 0 vs30 (plD la 7) u29 (f32.less (os_of (sub2 sub1))) (f33.less (os_of (sub2 sub1))) l31 (plD_le la 7))) ?_
   rintro _ w34 ⟨rfl, a36, o35⟩
   replace a25 := a25.step o35 (a20.dis _ in1)
   replace h1 := h1.step o35 (sub2 sub1)
   replace f32 := f32.step o35 (sub2 sub1)
   replace f33 := f33.step o35 (sub2 sub1)
   replace oW := oW.tail o35 (fun k hk e => by have := g_oW_L19 k e; omega)
   replace a20 := a36
   refine wF ([(eN 7), (eN 7), u1, (zf22 3), (zf22 4), (zf22 5), (zf22 6), (ptr L19.bN 0), (eN 0), (sli sb 0 7 7)] ++ (zs zf22 10 15 ++ [(eN 0), (Value.bool false), (eN 7), (sli sb 0 7 7), (ptr L19.bN 0), (sli sb 0 7 7), u1, (eN 7), u29, (eN (rowWC (NS.new 7 8 4 (fun _ _ => false)) (List.replicate 7 (0 : Int)) 0 (plD la 7) 7))] ++ (zs zf22 35 68))) ?_
   refine wI (d_assign rfl) ?_
   refine wF ([(eN 7), (eN 7), u1, (zf22 3), (zf22 4), (zf22 5), (zf22 6), (ptr L19.bN 0), (eN 0), (sli sb 0 7 7), (eN (rowWC (NS.new 7 8 4 (fun _ _ => false)) (List.replicate 7 (0 : Int)) 0 (plD la 7) 7))] ++ (zs zf22 11 14 ++ [(eN 0), (Value.bool false), (eN 7), (sli sb 0 7 7), (ptr L19.bN 0), (sli sb 0 7 7), u1, (eN 7), u29, (eN (rowWC (NS.new 7 8 4 (fun _ _ => false)) (List.replicate 7 (0 : Int)) 0 (plD la 7) 7))] ++ (zs zf22 35 68))) ?_
   refine wpL.done ?_
   have rv_s1 := (write_ok (bl := List.replicate 7 0) (p := 0) (pl := plD la 7) rv0 (by simp) (fun _ _ => rep_at) (by decide) (fun d hd => plD_len la hd) (fun _ _ => rfl)).2
   obtain ⟨s1, e_s1⟩ : ∃ x_, rowWS (NS.new 7 8 4 (fun _ _ => false)) (List.replicate 7 (0 : Int)) 0 (plD la 7) 7 = x_ := ⟨_, rfl⟩
   replace rv_s1 := rv_to rv_s1 e_s1
   replace a20 := nd_to a20 e_s1
   refine then_n ?_
   refine forget (fun zf37 => ([(eN 7), (eN 7)] ++ (zs zf37 2 5 ++ [(ptr L19.bN 0), (zf37 8), (sli sb 0 7 7), (eN (rowWC (NS.new 7 8 4 (fun _ _ => false)) (List.replicate 7 (0 : Int)) 0 (plD la 7) 7))] ++ (zs zf37 11 92)))) (by kernel_rfl) (fun zf37 => ?_)
   refine wpIn_seq (wpIn_seq (plain ?_))
   refine wI (d_move rfl) ?_
   refine wI (n_eql (a := 7) (b := 7) rfl rfl (decide_eq_true rfl)) ?_
   refine wI (d_move rfl) ?_
   refine wpL.onis rfl rfl rfl (nb rfl) rfl (d_move rfl) ?_
   refine wpL.onis rfl rfl rfl (nb rfl) rfl (n_eql (a := 7) (b := 7) rfl rfl (decide_eq_true rfl)) ?_
   refine wI (d_pick (b := true) (v := (Value.bool true)) rfl rfl) ?_
   refine wF ([(eN 7), (eN 7)] ++ (zs zf37 2 5 ++ [(ptr L19.bN 0), (zf37 8), (sli sb 0 7 7), (eN (rowWC (NS.new 7 8 4 (fun _ _ => false)) (List.replicate 7 (0 : Int)) 0 (plD la 7) 7))] ++ (zs zf37 11 24 ++ [(eN 7), (Value.bool true), (Value.bool true), (eN 7), (Value.bool true), (Value.bool true)] ++ (zs zf37 41 62)))) ?_
   refine wpL.done (then_n ?_)
   refine cond_t rfl ?_
   refine wpIn_seq (plain ?_)
   refine wI (d_move rfl) ?_
   refine wI (n_eql (a := (rowWC (NS.new 7 8 4 (fun _ _ => false)) (List.replicate 7 (0 : Int)) 0 (plD la 7) 7)) (b := 0) rfl rfl (decide_eq_true ((write_ok (bl := List.replicate 7 0) (p := 0) (pl := plD la 7) rv0 (by simp) (fun _ _ => rep_at) (by decide) (fun d hd => plD_len la hd) (fun _ _ => rfl)).1))) ?_
   refine wI (d_move rfl) ?_
   refine wpL.onis rfl rfl rfl (nb rfl) rfl (d_move rfl) ?_
   refine wpL.on rfl rfl rfl (nb rfl) rfl (d_call (xl := [.tmp 44]) (al := [(ptr L19.bN 0)]) Try.func38 (by kernel_rfl) rfl rfl rfl (nandOps_ok L19 s1 _ a20)) ?_
   rintro _ w38 ⟨rfl, o39⟩
   replace h1 := h1.step0 o39
   replace a20 := a20.step0 o39
   replace f32 := f32.step0 o39
   replace f33 := f33.step0 o39
   replace a25 := a25.step0 o39
   replace oW := oW.tail0 o39
   refine wpL.onis rfl rfl rfl (nb rfl) rfl (d_eql (k := .i64) (m := s1.ops) (n := 7) rfl rfl (decide_eq_true (by rw [rv_s1.ct.op]; rfl))) ?_
   refine wF ([(eN 7), (eN 7)] ++ (zs zf37 2 5 ++ [(ptr L19.bN 0), (zf37 8), (sli sb 0 7 7), (eN (rowWC (NS.new 7 8 4 (fun _ _ => false)) (List.replicate 7 (0 : Int)) 0 (plD la 7) 7))] ++ (zs zf37 11 24 ++ [(eN 7), (Value.bool true), (Value.bool true), (eN 7), (Value.bool true), (Value.bool true), (eN (rowWC (NS.new 7 8 4 (fun _ _ => false)) (List.replicate 7 (0 : Int)) 0 (plD la 7) 7)), (Value.bool true), (Value.bool true), (ptr L19.bN 0), (eI s1.ops), (Value.bool true)] ++ (zs zf37 47 56)))) ?_
   refine wI (d_pick (b := true) (v := (Value.bool true)) rfl rfl) ?_
   refine wI (d_assign rfl) ?_
   refine wpL.done (then_n ?_)
   refine forget (fun zf40 => (zs zf40 0 6 ++ [(Value.bool true)] ++ (zs zf40 7 96))) (by kernel_rfl) (fun zf40 => ?_)
   refine wpIn_ret ?_
   refine then_r ?_
   refine leave0 (v := (Value.bool true)) (res1 Try.results13 rfl) ?_
   exact ⟨rfl, oW⟩
  have rv0 := rv_new (g := fun _ _ => false) rfl (D := 7) (B := 8) (Q := 4) (c := fun _ => 0) (fun _ _ => by decide)
  subst kn
  refine wp_eq (l' := ([(eN 7), (eN mm), u1, (zf22 3), (zf22 4), (zf22 5), (zf22 6), (ptr L19.bN 0), (eN 0), (sli sb 0 7 7)] ++ (zs zf22 10 15 ++ [(eN 0), (Value.bool false), (eN 7), (sli sb 0 7 7)] ++ (zs zf22 29 74)))) rfl ?_
  refine plain ?_
  refine wI (d_move rfl) ?_
  refine wI (d_move rfl) ?_
  refine wI (d_move rfl) ?_
  refine wI (d_move rfl) ?_
  refine wO (d_call (xl := [.tmp 31, .tmp 32]) (al := [u1, (eN mm)]) Try.func31 (by kernel_rfl) rfl rfl rfl (payloads_ok la mm u1 _ (Ps.no h1) (by omega))) ?_
  rintro u43 w41 ⟨vs44, l45, f46, f47, o42⟩
  replace f46 := f46.less (Y := (Or1 sb (Ors L19.S (Old W.heap.size)))) (or1_old a25.lt (ors_old a20.lt (old_old oW.size)))
  replace f47 := f47.less (Y := (Or1 sb (Ors L19.S (Old W.heap.size)))) (or1_old a25.lt (ors_old a20.lt (old_old oW.size)))
  replace h1 := h1.step0 o42
  replace a20 := a20.step0 o42
  replace a25 := a25.step0 o42
  replace oW := oW.tail0 o42
  refine wO (d_call (xl := [.tmp 29, .tmp 30, .const (.int .i64 0), .tmp 33]) (al := [(ptr L19.bN 0), (sli sb 0 7 7), (eN 0), u43]) Try.func32 (by kernel_rfl) rfl rfl rfl (rowWrite_ok L19 (NS.new 7 8 4 (fun _ _ => false)) _ a20 (lt_or1 a25.lt lt_no) (List.replicate 7 (0 : Int)) (sli sb 0 7 7) (arr_keep a25 l_sb (Nat.le_refl _) (nx_ors (a20.dis _ in1) (fun _ _ t => t.elim))) (by have := rep_len 7 (0 : Int); first | omega | (simp; done) | (simp; omega)) mm 0 vs44 (plD la mm) u43 (f46.less (os_of (sub2 sub1))) (f47.less (os_of (sub2 sub1))) l45 (plD_le la mm))) ?_
  rintro _ w48 ⟨rfl, a50, o49⟩
  replace a25 := a25.step o49 (a20.dis _ in1)
  replace h1 := h1.step o49 (sub2 sub1)
  replace f46 := f46.step o49 (sub2 sub1)
  replace f47 := f47.step o49 (sub2 sub1)
  replace oW := oW.tail o49 (fun k hk e => by have := g_oW_L19 k e; omega)
  replace a20 := a50
  refine wF ([(eN 7), (eN mm), u1, (zf22 3), (zf22 4), (zf22 5), (zf22 6), (ptr L19.bN 0), (eN 0), (sli sb 0 7 7)] ++ (zs zf22 10 15 ++ [(eN 0), (Value.bool false), (eN 7), (sli sb 0 7 7), (ptr L19.bN 0), (sli sb 0 7 7), u1, (eN mm), u43, (eN (rowWC (NS.new 7 8 4 (fun _ _ => false)) (List.replicate 7 (0 : Int)) 0 (plD la mm) mm))] ++ (zs zf22 35 68))) ?_
  refine wI (d_assign rfl) ?_
  refine wF ([(eN 7), (eN mm), u1, (zf22 3), (zf22 4), (zf22 5), (zf22 6), (ptr L19.bN 0), (eN 0), (sli sb 0 7 7), (eN (rowWC (NS.new 7 8 4 (fun _ _ => false)) (List.replicate 7 (0 : Int)) 0 (plD la mm) mm))] ++ (zs zf22 11 14 ++ [(eN 0), (Value.bool false), (eN 7), (sli sb 0 7 7), (ptr L19.bN 0), (sli sb 0 7 7), u1, (eN mm), u43, (eN (rowWC (NS.new 7 8 4 (fun _ _ => false)) (List.replicate 7 (0 : Int)) 0 (plD la mm) mm))] ++ (zs zf22 35 68))) ?_
  refine wpL.done ?_
  have rv_s1 := rv_to rv0 (write_shape (s := NS.new 7 8 4 fun _ _ => false) (bl := (List.replicate 7 (0 : Int))) (n := mm) (fun h_ => by have h1_ := h_.1; have h2_ := h_.2; rw [List.length_replicate] at h1_ h2_; have h3_ : 7 = 7 := h2_; omega) 0 (plD la mm)).2.symm
  obtain ⟨s1, e_s1⟩ : ∃ x_, rowWS (NS.new 7 8 4 (fun _ _ => false)) (List.replicate 7 (0 : Int)) 0 (plD la mm) mm = x_ := ⟨_, rfl⟩
  replace rv_s1 := rv_to rv_s1 e_s1
  replace a20 := nd_to a20 e_s1
  refine then_n ?_
  refine forget (fun zf51 => ([(eN 7), (eN mm)] ++ (zs zf51 2 5 ++ [(ptr L19.bN 0), (zf51 8), (sli sb 0 7 7), (eN (rowWC (NS.new 7 8 4 (fun _ _ => false)) (List.replicate 7 (0 : Int)) 0 (plD la mm) mm))] ++ (zs zf51 11 92)))) (by kernel_rfl) (fun zf51 => ?_)
  refine wpIn_seq (wpIn_seq (plain ?_))
  refine wI (d_move rfl) ?_
  refine wI (n_eql (a := 7) (b := 7) rfl rfl (decide_eq_true rfl)) ?_
  refine wI (d_move rfl) ?_
  refine wpL.onis rfl rfl rfl (nb rfl) rfl (d_move rfl) ?_
  refine wpL.onis rfl rfl rfl (nb rfl) rfl (n_eql (a := mm) (b := 7) rfl rfl (decide_eq_false km)) ?_
  refine wI (d_pick (b := true) (v := (Value.bool false)) rfl rfl) ?_
  refine wF ([(eN 7), (eN mm)] ++ (zs zf51 2 5 ++ [(ptr L19.bN 0), (zf51 8), (sli sb 0 7 7), (eN (rowWC (NS.new 7 8 4 (fun _ _ => false)) (List.replicate 7 (0 : Int)) 0 (plD la mm) mm))] ++ (zs zf51 11 24 ++ [(eN 7), (Value.bool true), (Value.bool true), (eN mm), (Value.bool false), (Value.bool false)] ++ (zs zf51 41 62)))) ?_
  refine wpL.done (then_n ?_)
  refine cond_f rfl ?_
  refine wpIn_skip (then_n (wpIn_seq (wpIn_seq (plain ?_))))
  refine wI (d_move rfl) ?_
  refine wI (n_neq (a := (rowWC (NS.new 7 8 4 (fun _ _ => false)) (List.replicate 7 (0 : Int)) 0 (plD la mm) mm)) (b := 1) rfl rfl (by rw [decide_eq_true ((write_shape (s := NS.new 7 8 4 fun _ _ => false) (bl := (List.replicate 7 (0 : Int))) (n := mm) (fun h_ => by have h1_ := h_.1; have h2_ := h_.2; rw [List.length_replicate] at h1_ h2_; have h3_ : 7 = 7 := h2_; omega) 0 (plD la mm)).1)] <;> rfl)) ?_
  refine wI (d_move rfl) ?_
  refine wpL.onis rfl rfl rfl (nb rfl) rfl (d_move rfl) ?_
  refine wpL.on rfl rfl rfl (nb rfl) rfl (d_call (xl := [.tmp 51]) (al := [(ptr L19.bN 0)]) Try.func38 (by kernel_rfl) rfl rfl rfl (nandOps_ok L19 s1 _ a20)) ?_
  rintro _ w52 ⟨rfl, o53⟩
  replace h1 := h1.step0 o53
  replace a20 := a20.step0 o53
  replace f46 := f46.step0 o53
  replace f47 := f47.step0 o53
  replace a25 := a25.step0 o53
  replace oW := oW.tail0 o53
  refine wpL.onis rfl rfl rfl (nb rfl) rfl (d_neq (k := .i64) (m := s1.ops) (n := 0) rfl rfl (by rw [decide_eq_true rv_s1.ct.op] <;> rfl)) ?_
  refine wF ([(eN 7), (eN mm)] ++ (zs zf51 2 5 ++ [(ptr L19.bN 0), (zf51 8), (sli sb 0 7 7), (eN (rowWC (NS.new 7 8 4 (fun _ _ => false)) (List.replicate 7 (0 : Int)) 0 (plD la mm) mm))] ++ (zs zf51 11 24 ++ [(eN 7), (Value.bool true), (Value.bool true), (eN mm), (Value.bool false), (Value.bool false)] ++ (zs zf51 41 7 ++ [(eN (rowWC (NS.new 7 8 4 (fun _ _ => false)) (List.replicate 7 (0 : Int)) 0 (plD la mm) mm)), (Value.bool false), (Value.bool false), (ptr L19.bN 0), (eI s1.ops), (Value.bool false)] ++ (zs zf51 54 49))))) ?_
  refine wI (d_pick (b := false) (v := (Value.bool false)) rfl rfl) ?_
  refine wI (d_move rfl) ?_
  refine wpL.onis rfl rfl rfl (nb rfl) rfl (d_move rfl) ?_
  refine wpL.on rfl rfl rfl (nb rfl) rfl (d_call (xl := [.tmp 56]) (al := [(ptr L19.bN 0)]) Try.func36 (by kernel_rfl) rfl rfl rfl (nandWrong_ok L19 s1 _ a20)) ?_
  rintro _ w54 ⟨rfl, o55⟩
  replace h1 := h1.step0 o55
  replace a20 := a20.step0 o55
  replace f46 := f46.step0 o55
  replace f47 := f47.step0 o55
  replace a25 := a25.step0 o55
  replace oW := oW.tail0 o55
  refine wpL.onis rfl rfl rfl (nb rfl) rfl (d_neq (k := .i64) (m := s1.wrong) (n := 0) rfl rfl (by rw [decide_eq_true rv_s1.ct.wr] <;> rfl)) ?_
  refine wI (d_pick (b := false) (v := (Value.bool false)) rfl rfl) ?_
  refine wF ([(eN 7), (eN mm)] ++ (zs zf51 2 5 ++ [(ptr L19.bN 0), (zf51 8), (sli sb 0 7 7), (eN (rowWC (NS.new 7 8 4 (fun _ _ => false)) (List.replicate 7 (0 : Int)) 0 (plD la mm) mm))] ++ (zs zf51 11 24 ++ [(eN 7), (Value.bool true), (Value.bool true), (eN mm), (Value.bool false), (Value.bool false)] ++ (zs zf51 41 7 ++ [(eN (rowWC (NS.new 7 8 4 (fun _ _ => false)) (List.replicate 7 (0 : Int)) 0 (plD la mm) mm)), (Value.bool false), (Value.bool false), (ptr L19.bN 0), (eI s1.ops), (Value.bool false), (Value.bool false), (Value.bool false), (ptr L19.bN 0), (eI s1.wrong), (Value.bool false), (Value.bool false)] ++ (zs zf51 60 43))))) ?_
  refine wpL.done (then_n ?_)
  refine forget (fun zf56 => ([(eN 7)] ++ (zs zf56 1 6 ++ [(ptr L19.bN 0), (zf56 8), (sli sb 0 7 7)] ++ (zs zf56 10 49 ++ [(Value.bool false)] ++ (zs zf56 60 43))))) (by kernel_rfl) (fun zf56 => ?_)
  refine cond_f rfl ?_
  refine wpIn_skip (then_n (wpIn_seq (plain ?_)))
  refine wI (d_move rfl) ?_
  refine wI (d_move rfl) ?_
  refine wO (d_call (xl := [.tmp 61, .tmp 62, .const (.int .i64 0)]) (al := [(ptr L19.bN 0), (sli sb 0 7 7), (eN 0)]) Try.func34 (by kernel_rfl) rfl rfl rfl (rowRead_ok L19 s1 _ a20 (lt_or1 a25.lt lt_no) (List.replicate 7 (0 : Int)) (sli sb 0 7 7) (arr_keep a25 l_sb (Nat.le_refl _) (nx_ors (a20.dis _ in1) (fun _ _ t => t.elim))) (by have := rep_len 7 (0 : Int); first | omega | (simp; done) | (simp; omega)) 0)) ?_
  rintro _ w57 ⟨v59, vs60, rfl, h61, h62, a63, o64⟩
  obtain ⟨l65, f66, f67⟩ := h61 ((reads_ok (bl := List.replicate 7 0) (p := 0) rv_s1 (by simp) (fun _ _ => rep_at) (by decide)).1)
  replace f66 := f66.less (Y := (Or1 sb (Ors L19.S (Old W.heap.size)))) (or1_old a25.lt (ors_old a20.lt (old_old oW.size)))
  replace f67 := f67.less (Y := (Or1 sb (Ors L19.S (Old W.heap.size)))) (or1_old a25.lt (ors_old a20.lt (old_old oW.size)))
  replace a25 := a25.step o64 (a20.dis _ in1)
  replace h1 := h1.step o64 (sub2 sub1)
  replace f46 := f46.step o64 (sub2 sub1)
  replace f47 := f47.step o64 (sub2 sub1)
  replace oW := oW.tail o64 (fun k hk e => by have := g_oW_L19 k e; omega)
  replace a20 := a63
  refine wI (d_move rfl) ?_
  refine wI (d_extract (v := v59) rfl rfl) ?_
  refine wI (d_extract (v := (eN (rowDoC s1.gD (List.replicate 7 (0 : Int)).length (rowRC (List.replicate 7 (0 : Int)) 0 s1)))) rfl rfl) ?_
  refine wF ([(eN 7)] ++ (zs zf56 1 6 ++ [(ptr L19.bN 0), (zf56 8), (sli sb 0 7 7)] ++ (zs zf56 10 49 ++ [(Value.bool false), (Value.tuple #[v59, (eN (rowDoC s1.gD (List.replicate 7 (0 : Int)).length (rowRC (List.replicate 7 (0 : Int)) 0 s1)))]), (ptr L19.bN 0), (sli sb 0 7 7), (Value.tuple #[v59, (eN (rowDoC s1.gD (List.replicate 7 (0 : Int)).length (rowRC (List.replicate 7 (0 : Int)) 0 s1)))]), v59, (eN (rowDoC s1.gD (List.replicate 7 (0 : Int)).length (rowRC (List.replicate 7 (0 : Int)) 0 s1)))] ++ (zs zf56 66 37)))) ?_
  refine wI (d_assign rfl) ?_
  refine wI (d_assign rfl) ?_
  refine wF ([(eN 7)] ++ (zs zf56 1 6 ++ [(ptr L19.bN 0), (zf56 8), (sli sb 0 7 7), (zf56 10), v59, (eN (rowDoC s1.gD (List.replicate 7 (0 : Int)).length (rowRC (List.replicate 7 (0 : Int)) 0 s1)))] ++ (zs zf56 13 46 ++ [(Value.bool false), (Value.tuple #[v59, (eN (rowDoC s1.gD (List.replicate 7 (0 : Int)).length (rowRC (List.replicate 7 (0 : Int)) 0 s1)))]), (ptr L19.bN 0), (sli sb 0 7 7), (Value.tuple #[v59, (eN (rowDoC s1.gD (List.replicate 7 (0 : Int)).length (rowRC (List.replicate 7 (0 : Int)) 0 s1)))]), v59, (eN (rowDoC s1.gD (List.replicate 7 (0 : Int)).length (rowRC (List.replicate 7 (0 : Int)) 0 s1)))] ++ (zs zf56 66 37)))) ?_
  refine wpL.done ?_
  have rv_s2 := (reads_ok (bl := List.replicate 7 0) (p := 0) rv_s1 (by simp) (fun _ _ => rep_at) (by decide)).2.1
  obtain ⟨s2, e_s2⟩ : ∃ x_, rowDo s1.gD (List.replicate 7 (0 : Int)).length (rowR (List.replicate 7 (0 : Int)) 0 s1) (rowRC (List.replicate 7 (0 : Int)) 0 s1) = x_ := ⟨_, rfl⟩
  replace rv_s2 := rv_to rv_s2 e_s2
  replace a20 := nd_to a20 e_s2
  refine then_n (wpIn_seq (plain ?_))
  refine wI (d_move rfl) ?_
  refine wI (d_move rfl) ?_
  refine wO (d_call (xl := [.tmp 66, .tmp 67]) (al := [(ptr L19.bN 0), (sli sb 0 7 7)]) Try.func37 (by kernel_rfl) rfl rfl rfl (rowErase_ok L19 s2 _ a20 (lt_or1 a25.lt lt_no) (List.replicate 7 (0 : Int)) (sli sb 0 7 7) (arr_keep a25 l_sb (Nat.le_refl _) (nx_ors (a20.dis _ in1) (fun _ _ t => t.elim))) (by have := rep_len 7 (0 : Int); first | omega | (simp; done) | (simp; omega)))) ?_
  rintro _ w68 ⟨rfl, a70, o69⟩
  replace a25 := a25.step o69 (a20.dis _ in1)
  replace h1 := h1.step o69 (sub2 sub1)
  replace f46 := f46.step o69 (sub2 sub1)
  replace f47 := f47.step o69 (sub2 sub1)
  replace f66 := f66.step o69 (sub2 sub1)
  replace f67 := f67.step o69 (sub2 sub1)
  replace oW := oW.tail o69 (fun k hk e => by have := g_oW_L19 k e; omega)
  replace a20 := a70
  refine wI (d_assign rfl) ?_
  refine wF ([(eN 7)] ++ (zs zf56 1 6 ++ [(ptr L19.bN 0), (zf56 8), (sli sb 0 7 7), (zf56 10), v59, (eN (rowDoC s1.gD (List.replicate 7 (0 : Int)).length (rowRC (List.replicate 7 (0 : Int)) 0 s1))), (eN (rowDoC s2.gD (List.replicate 7 (0 : Int)).length (rowEC (List.replicate 7 (0 : Int)) s2)))] ++ (zs zf56 14 45 ++ [(Value.bool false), (Value.tuple #[v59, (eN (rowDoC s1.gD (List.replicate 7 (0 : Int)).length (rowRC (List.replicate 7 (0 : Int)) 0 s1)))]), (ptr L19.bN 0), (sli sb 0 7 7), (Value.tuple #[v59, (eN (rowDoC s1.gD (List.replicate 7 (0 : Int)).length (rowRC (List.replicate 7 (0 : Int)) 0 s1)))]), v59, (eN (rowDoC s1.gD (List.replicate 7 (0 : Int)).length (rowRC (List.replicate 7 (0 : Int)) 0 s1))), (ptr L19.bN 0), (sli sb 0 7 7), (eN (rowDoC s2.gD (List.replicate 7 (0 : Int)).length (rowEC (List.replicate 7 (0 : Int)) s2)))] ++ (zs zf56 69 34)))) ?_
  refine wpL.done ?_
  have rv_s3 := (erases_ok (bl := List.replicate 7 0) rv_s2 (by simp) (fun _ _ => rep_at)).2
  obtain ⟨s3, e_s3⟩ : ∃ x_, rowDo s2.gD (List.replicate 7 (0 : Int)).length (rowE (List.replicate 7 (0 : Int)) s2) (rowEC (List.replicate 7 (0 : Int)) s2) = x_ := ⟨_, rfl⟩
  replace rv_s3 := rv_to rv_s3 e_s3
  replace a20 := nd_to a20 e_s3
  refine then_n ?_
  refine forget (fun zf71 => ([(eN 7)] ++ (zs zf71 1 6 ++ [(ptr L19.bN 0), (zf71 8), (zf71 9), (zf71 10), v59, (eN (rowDoC s1.gD (List.replicate 7 (0 : Int)).length (rowRC (List.replicate 7 (0 : Int)) 0 s1))), (eN (rowDoC s2.gD (List.replicate 7 (0 : Int)).length (rowEC (List.replicate 7 (0 : Int)) s2)))] ++ (zs zf71 14 89)))) (by kernel_rfl) (fun zf71 => ?_)
  refine wpIn_seq (wpIn_seq (plain ?_))
  refine wI (d_move rfl) ?_
  refine wI (n_eql (a := 7) (b := 7) rfl rfl (decide_eq_true rfl)) ?_
  refine wpL.done (then_n ?_)
  refine cond_t rfl ?_
  refine wpIn_seq (plain ?_)
  refine wI (d_move rfl) ?_
  refine wI (n_eql (a := (rowDoC s1.gD (List.replicate 7 (0 : Int)).length (rowRC (List.replicate 7 (0 : Int)) 0 s1))) (b := 0) rfl rfl (decide_eq_true ((reads_ok (bl := List.replicate 7 0) (p := 0) rv_s1 (by simp) (fun _ _ => rep_at) (by decide)).1))) ?_
  refine wI (d_move rfl) ?_
  refine wpL.onis rfl rfl rfl (nb rfl) rfl (d_move rfl) ?_
  refine wF ([(eN 7)] ++ (zs zf71 1 6 ++ [(ptr L19.bN 0), (zf71 8), (zf71 9), (zf71 10), v59, (eN (rowDoC s1.gD (List.replicate 7 (0 : Int)).length (rowRC (List.replicate 7 (0 : Int)) 0 s1))), (eN (rowDoC s2.gD (List.replicate 7 (0 : Int)).length (rowEC (List.replicate 7 (0 : Int)) s2)))] ++ (zs zf71 14 55 ++ [(eN 7), (Value.bool true), (eN (rowDoC s1.gD (List.replicate 7 (0 : Int)).length (rowRC (List.replicate 7 (0 : Int)) 0 s1))), (Value.bool true), (Value.bool true), v59] ++ (zs zf71 75 28)))) ?_
  refine wpL.onis rfl rfl rfl (nb rfl) rfl (d_lenS rfl Try.underlying53 rfl f66) ?_
  refine wpL.onis rfl rfl rfl (nb rfl) rfl (n_eql (a := ((pgRow (fun k_ => (pgD (rowRL (List.replicate 7 (0 : Int)) 0 s1 k_)).1) vs60).length)) (b := 7) rfl rfl (decide_eq_true (by rw [pgRow_len, l65]; simp))) ?_
  refine wI (d_pick (b := true) (v := (Value.bool true)) rfl rfl) ?_
  refine wI (d_move rfl) ?_
  refine wpL.onis rfl rfl rfl (nb rfl) rfl (d_move rfl) ?_
  refine wpL.onis rfl rfl rfl (nb rfl) rfl (n_eql (a := (rowDoC s2.gD (List.replicate 7 (0 : Int)).length (rowEC (List.replicate 7 (0 : Int)) s2))) (b := 0) rfl rfl (decide_eq_true ((erases_ok (bl := List.replicate 7 0) rv_s2 (by simp) (fun _ _ => rep_at)).1))) ?_
  refine wF ([(eN 7)] ++ (zs zf71 1 6 ++ [(ptr L19.bN 0), (zf71 8), (zf71 9), (zf71 10), v59, (eN (rowDoC s1.gD (List.replicate 7 (0 : Int)).length (rowRC (List.replicate 7 (0 : Int)) 0 s1))), (eN (rowDoC s2.gD (List.replicate 7 (0 : Int)).length (rowEC (List.replicate 7 (0 : Int)) s2)))] ++ (zs zf71 14 55 ++ [(eN 7), (Value.bool true), (eN (rowDoC s1.gD (List.replicate 7 (0 : Int)).length (rowRC (List.replicate 7 (0 : Int)) 0 s1))), (Value.bool true), (Value.bool true), v59, (eN ((pgRow (fun k_ => (pgD (rowRL (List.replicate 7 (0 : Int)) 0 s1 k_)).1) vs60).length)), (Value.bool true), (Value.bool true), (Value.bool true), (eN (rowDoC s2.gD (List.replicate 7 (0 : Int)).length (rowEC (List.replicate 7 (0 : Int)) s2))), (Value.bool true)] ++ (zs zf71 81 22)))) ?_
  refine wI (d_pick (b := true) (v := (Value.bool true)) rfl rfl) ?_
  refine wI (d_move rfl) ?_
  refine wpL.onis rfl rfl rfl (nb rfl) rfl (d_move rfl) ?_
  refine wpL.on rfl rfl rfl (nb rfl) rfl (d_call (xl := [.tmp 83]) (al := [(ptr L19.bN 0)]) Try.func38 (by kernel_rfl) rfl rfl rfl (nandOps_ok L19 s3 _ a20)) ?_
  rintro _ w72 ⟨rfl, o73⟩
  replace h1 := h1.step0 o73
  replace a20 := a20.step0 o73
  replace f46 := f46.step0 o73
  replace f47 := f47.step0 o73
  replace f66 := f66.step0 o73
  replace f67 := f67.step0 o73
  replace a25 := a25.step0 o73
  replace oW := oW.tail0 o73
  refine wpL.onis rfl rfl rfl (nb rfl) rfl (d_eql (k := .i64) (m := s3.ops) (n := 14) rfl rfl (decide_eq_true (by rw [rv_s3.ct.op]; rfl))) ?_
  refine wI (d_pick (b := true) (v := (Value.bool true)) rfl rfl) ?_
  refine wF ([(eN 7)] ++ (zs zf71 1 6 ++ [(ptr L19.bN 0), (zf71 8), (zf71 9), (zf71 10), v59, (eN (rowDoC s1.gD (List.replicate 7 (0 : Int)).length (rowRC (List.replicate 7 (0 : Int)) 0 s1))), (eN (rowDoC s2.gD (List.replicate 7 (0 : Int)).length (rowEC (List.replicate 7 (0 : Int)) s2)))] ++ (zs zf71 14 55 ++ [(eN 7), (Value.bool true), (eN (rowDoC s1.gD (List.replicate 7 (0 : Int)).length (rowRC (List.replicate 7 (0 : Int)) 0 s1))), (Value.bool true), (Value.bool true), v59, (eN ((pgRow (fun k_ => (pgD (rowRL (List.replicate 7 (0 : Int)) 0 s1 k_)).1) vs60).length)), (Value.bool true), (Value.bool true), (Value.bool true), (eN (rowDoC s2.gD (List.replicate 7 (0 : Int)).length (rowEC (List.replicate 7 (0 : Int)) s2))), (Value.bool true), (Value.bool true), (Value.bool true), (ptr L19.bN 0), (eI s3.ops), (Value.bool true), (Value.bool true)] ++ (zs zf71 87 16)))) ?_
  refine wI (d_assign rfl) ?_
  refine wpL.done (then_n ?_)
  refine forget (fun zf74 => (zs zf74 0 6 ++ [(Value.bool true)] ++ (zs zf74 7 96))) (by kernel_rfl) (fun zf74 => ?_)
  refine wpIn_ret ?_
  refine then_r ?_
  refine leave0 (v := (Value.bool true)) (res1 Try.results13 rfl) ?_
  exact ⟨rfl, oW⟩
 have rv0 := rv_new (g := fun _ _ => false) rfl (D := 7) (B := 8) (Q := 4) (c := fun _ => 0) (fun _ _ => by decide)
 refine wp_eq (l' := ([(eN nn), (eN mm), u1, (zf22 3), (zf22 4), (zf22 5), (zf22 6), (ptr L19.bN 0), (eN 0), (sli sb 0 nn nn)] ++ (zs zf22 10 15 ++ [(eN 0), (Value.bool false), (eN nn), (sli sb 0 nn nn)] ++ (zs zf22 29 74)))) rfl ?_
 refine plain ?_
 refine wI (d_move rfl) ?_
 refine wI (d_move rfl) ?_
 refine wI (d_move rfl) ?_
 refine wI (d_move rfl) ?_
 refine wO (d_call (xl := [.tmp 31, .tmp 32]) (al := [u1, (eN mm)]) Try.func31 (by kernel_rfl) rfl rfl rfl (payloads_ok la mm u1 _ (Ps.no h1) (by omega))) ?_
 rintro u77 w75 ⟨vs78, l79, f80, f81, o76⟩
 replace f80 := f80.less (Y := (Or1 sb (Ors L19.S (Old W.heap.size)))) (or1_old a25.lt (ors_old a20.lt (old_old oW.size)))
 replace f81 := f81.less (Y := (Or1 sb (Ors L19.S (Old W.heap.size)))) (or1_old a25.lt (ors_old a20.lt (old_old oW.size)))
 replace h1 := h1.step0 o76
 replace a20 := a20.step0 o76
 replace a25 := a25.step0 o76
 replace oW := oW.tail0 o76
 refine wO (d_call (xl := [.tmp 29, .tmp 30, .const (.int .i64 0), .tmp 33]) (al := [(ptr L19.bN 0), (sli sb 0 nn nn), (eN 0), u77]) Try.func32 (by kernel_rfl) rfl rfl rfl (rowWrite_ok L19 (NS.new 7 8 4 (fun _ _ => false)) _ a20 (lt_or1 a25.lt lt_no) (List.replicate nn (0 : Int)) (sli sb 0 nn nn) (arr_keep a25 l_sb (Nat.le_refl _) (nx_ors (a20.dis _ in1) (fun _ _ t => t.elim))) (by have := rep_len nn (0 : Int); first | omega | (simp; done) | (simp; omega)) mm 0 vs78 (plD la mm) u77 (f80.less (os_of (sub2 sub1))) (f81.less (os_of (sub2 sub1))) l79 (plD_le la mm))) ?_
 rintro _ w82 ⟨rfl, a84, o83⟩
 replace a25 := a25.step o83 (a20.dis _ in1)
 replace h1 := h1.step o83 (sub2 sub1)
 replace f80 := f80.step o83 (sub2 sub1)
 replace f81 := f81.step o83 (sub2 sub1)
 replace oW := oW.tail o83 (fun k hk e => by have := g_oW_L19 k e; omega)
 replace a20 := a84
 refine wF ([(eN nn), (eN mm), u1, (zf22 3), (zf22 4), (zf22 5), (zf22 6), (ptr L19.bN 0), (eN 0), (sli sb 0 nn nn)] ++ (zs zf22 10 15 ++ [(eN 0), (Value.bool false), (eN nn), (sli sb 0 nn nn), (ptr L19.bN 0), (sli sb 0 nn nn), u1, (eN mm), u77, (eN (rowWC (NS.new 7 8 4 (fun _ _ => false)) (List.replicate nn (0 : Int)) 0 (plD la mm) mm))] ++ (zs zf22 35 68))) ?_
 refine wI (d_assign rfl) ?_
 refine wF ([(eN nn), (eN mm), u1, (zf22 3), (zf22 4), (zf22 5), (zf22 6), (ptr L19.bN 0), (eN 0), (sli sb 0 nn nn), (eN (rowWC (NS.new 7 8 4 (fun _ _ => false)) (List.replicate nn (0 : Int)) 0 (plD la mm) mm))] ++ (zs zf22 11 14 ++ [(eN 0), (Value.bool false), (eN nn), (sli sb 0 nn nn), (ptr L19.bN 0), (sli sb 0 nn nn), u1, (eN mm), u77, (eN (rowWC (NS.new 7 8 4 (fun _ _ => false)) (List.replicate nn (0 : Int)) 0 (plD la mm) mm))] ++ (zs zf22 35 68))) ?_
 refine wpL.done ?_
 have rv_s1 := rv_to rv0 (write_shape (s := NS.new 7 8 4 fun _ _ => false) (bl := (List.replicate nn (0 : Int))) (n := mm) (fun h_ => by have h1_ := h_.1; have h2_ := h_.2; rw [List.length_replicate] at h1_ h2_; have h3_ : nn = 7 := h2_; omega) 0 (plD la mm)).2.symm
 obtain ⟨s1, e_s1⟩ : ∃ x_, rowWS (NS.new 7 8 4 (fun _ _ => false)) (List.replicate nn (0 : Int)) 0 (plD la mm) mm = x_ := ⟨_, rfl⟩
 replace rv_s1 := rv_to rv_s1 e_s1
 replace a20 := nd_to a20 e_s1
 refine then_n ?_
 refine forget (fun zf85 => ([(eN nn), (eN mm)] ++ (zs zf85 2 5 ++ [(ptr L19.bN 0), (zf85 8), (sli sb 0 nn nn), (eN (rowWC (NS.new 7 8 4 (fun _ _ => false)) (List.replicate nn (0 : Int)) 0 (plD la mm) mm))] ++ (zs zf85 11 92)))) (by kernel_rfl) (fun zf85 => ?_)
 refine wpIn_seq (wpIn_seq (plain ?_))
 refine wI (d_move rfl) ?_
 refine wI (n_eql (a := nn) (b := 7) rfl rfl (decide_eq_false kn)) ?_
 refine wI (d_move rfl) ?_
 refine wpL.off rfl rfl rfl (nb rfl) rfl ?_
 refine wpL.off rfl rfl rfl (nb rfl) rfl ?_
 refine wI (d_pick (b := false) (v := (Value.bool false)) rfl rfl) ?_
 refine wF ([(eN nn), (eN mm)] ++ (zs zf85 2 5 ++ [(ptr L19.bN 0), (zf85 8), (sli sb 0 nn nn), (eN (rowWC (NS.new 7 8 4 (fun _ _ => false)) (List.replicate nn (0 : Int)) 0 (plD la mm) mm))] ++ (zs zf85 11 24 ++ [(eN nn), (Value.bool false), (Value.bool false), undef, undef, (Value.bool false)] ++ (zs zf85 41 62)))) ?_
 refine wpL.done (then_n ?_)
 refine cond_f rfl ?_
 refine wpIn_skip (then_n (wpIn_seq (wpIn_seq (plain ?_))))
 refine wI (d_move rfl) ?_
 refine wI (n_neq (a := (rowWC (NS.new 7 8 4 (fun _ _ => false)) (List.replicate nn (0 : Int)) 0 (plD la mm) mm)) (b := 1) rfl rfl (by rw [decide_eq_true ((write_shape (s := NS.new 7 8 4 fun _ _ => false) (bl := (List.replicate nn (0 : Int))) (n := mm) (fun h_ => by have h1_ := h_.1; have h2_ := h_.2; rw [List.length_replicate] at h1_ h2_; have h3_ : nn = 7 := h2_; omega) 0 (plD la mm)).1)] <;> rfl)) ?_
 refine wI (d_move rfl) ?_
 refine wpL.onis rfl rfl rfl (nb rfl) rfl (d_move rfl) ?_
 refine wpL.on rfl rfl rfl (nb rfl) rfl (d_call (xl := [.tmp 51]) (al := [(ptr L19.bN 0)]) Try.func38 (by kernel_rfl) rfl rfl rfl (nandOps_ok L19 s1 _ a20)) ?_
 rintro _ w86 ⟨rfl, o87⟩
 replace h1 := h1.step0 o87
 replace a20 := a20.step0 o87
 replace f80 := f80.step0 o87
 replace f81 := f81.step0 o87
 replace a25 := a25.step0 o87
 replace oW := oW.tail0 o87
 refine wpL.onis rfl rfl rfl (nb rfl) rfl (d_neq (k := .i64) (m := s1.ops) (n := 0) rfl rfl (by rw [decide_eq_true rv_s1.ct.op] <;> rfl)) ?_
 refine wF ([(eN nn), (eN mm)] ++ (zs zf85 2 5 ++ [(ptr L19.bN 0), (zf85 8), (sli sb 0 nn nn), (eN (rowWC (NS.new 7 8 4 (fun _ _ => false)) (List.replicate nn (0 : Int)) 0 (plD la mm) mm))] ++ (zs zf85 11 24 ++ [(eN nn), (Value.bool false), (Value.bool false), undef, undef, (Value.bool false)] ++ (zs zf85 41 7 ++ [(eN (rowWC (NS.new 7 8 4 (fun _ _ => false)) (List.replicate nn (0 : Int)) 0 (plD la mm) mm)), (Value.bool false), (Value.bool false), (ptr L19.bN 0), (eI s1.ops), (Value.bool false)] ++ (zs zf85 54 49))))) ?_
 refine wI (d_pick (b := false) (v := (Value.bool false)) rfl rfl) ?_
 refine wI (d_move rfl) ?_
 refine wpL.onis rfl rfl rfl (nb rfl) rfl (d_move rfl) ?_
 refine wpL.on rfl rfl rfl (nb rfl) rfl (d_call (xl := [.tmp 56]) (al := [(ptr L19.bN 0)]) Try.func36 (by kernel_rfl) rfl rfl rfl (nandWrong_ok L19 s1 _ a20)) ?_
 rintro _ w88 ⟨rfl, o89⟩
 replace h1 := h1.step0 o89
 replace a20 := a20.step0 o89
 replace f80 := f80.step0 o89
 replace f81 := f81.step0 o89
 replace a25 := a25.step0 o89
 replace oW := oW.tail0 o89
 refine wpL.onis rfl rfl rfl (nb rfl) rfl (d_neq (k := .i64) (m := s1.wrong) (n := 0) rfl rfl (by rw [decide_eq_true rv_s1.ct.wr] <;> rfl)) ?_
 refine wI (d_pick (b := false) (v := (Value.bool false)) rfl rfl) ?_
 refine wF ([(eN nn), (eN mm)] ++ (zs zf85 2 5 ++ [(ptr L19.bN 0), (zf85 8), (sli sb 0 nn nn), (eN (rowWC (NS.new 7 8 4 (fun _ _ => false)) (List.replicate nn (0 : Int)) 0 (plD la mm) mm))] ++ (zs zf85 11 24 ++ [(eN nn), (Value.bool false), (Value.bool false), undef, undef, (Value.bool false)] ++ (zs zf85 41 7 ++ [(eN (rowWC (NS.new 7 8 4 (fun _ _ => false)) (List.replicate nn (0 : Int)) 0 (plD la mm) mm)), (Value.bool false), (Value.bool false), (ptr L19.bN 0), (eI s1.ops), (Value.bool false), (Value.bool false), (Value.bool false), (ptr L19.bN 0), (eI s1.wrong), (Value.bool false), (Value.bool false)] ++ (zs zf85 60 43))))) ?_
 refine wpL.done (then_n ?_)
 refine forget (fun zf90 => ([(eN nn)] ++ (zs zf90 1 6 ++ [(ptr L19.bN 0), (zf90 8), (sli sb 0 nn nn)] ++ (zs zf90 10 49 ++ [(Value.bool false)] ++ (zs zf90 60 43))))) (by kernel_rfl) (fun zf90 => ?_)
 refine cond_f rfl ?_
 refine wpIn_skip (then_n (wpIn_seq (plain ?_)))
 refine wI (d_move rfl) ?_
 refine wI (d_move rfl) ?_
 refine wO (d_call (xl := [.tmp 61, .tmp 62, .const (.int .i64 0)]) (al := [(ptr L19.bN 0), (sli sb 0 nn nn), (eN 0)]) Try.func34 (by kernel_rfl) rfl rfl rfl (rowRead_ok L19 s1 _ a20 (lt_or1 a25.lt lt_no) (List.replicate nn (0 : Int)) (sli sb 0 nn nn) (arr_keep a25 l_sb (Nat.le_refl _) (nx_ors (a20.dis _ in1) (fun _ _ t => t.elim))) (by have := rep_len nn (0 : Int); first | omega | (simp; done) | (simp; omega)) 0)) ?_
 rintro _ w91 ⟨v93, vs94, rfl, h95, h96, a97, o98⟩
 have v93e := h96 (by rw [(shape_no (T := rowR (List.replicate nn (0 : Int)) 0 s1) (C := rowRC (List.replicate nn (0 : Int)) 0 s1) (g := s1.gD) (n := (List.replicate nn (0 : Int)).length) (by rw [List.length_replicate, rv_s1.ct.gD]; exact kn)).1]; decide)
 subst v93e
 replace a25 := a25.step o98 (a20.dis _ in1)
 replace h1 := h1.step o98 (sub2 sub1)
 replace f80 := f80.step o98 (sub2 sub1)
 replace f81 := f81.step o98 (sub2 sub1)
 replace oW := oW.tail o98 (fun k hk e => by have := g_oW_L19 k e; omega)
 replace a20 := a97
 refine wI (d_move rfl) ?_
 refine wI (d_extract (v := (Value.slice none 0 0)) rfl rfl) ?_
 refine wI (d_extract (v := (eN (rowDoC s1.gD (List.replicate nn (0 : Int)).length (rowRC (List.replicate nn (0 : Int)) 0 s1)))) rfl rfl) ?_
 refine wF ([(eN nn)] ++ (zs zf90 1 6 ++ [(ptr L19.bN 0), (zf90 8), (sli sb 0 nn nn)] ++ (zs zf90 10 49 ++ [(Value.bool false), (Value.tuple #[(Value.slice none 0 0), (eN (rowDoC s1.gD (List.replicate nn (0 : Int)).length (rowRC (List.replicate nn (0 : Int)) 0 s1)))]), (ptr L19.bN 0), (sli sb 0 nn nn), (Value.tuple #[(Value.slice none 0 0), (eN (rowDoC s1.gD (List.replicate nn (0 : Int)).length (rowRC (List.replicate nn (0 : Int)) 0 s1)))]), (Value.slice none 0 0), (eN (rowDoC s1.gD (List.replicate nn (0 : Int)).length (rowRC (List.replicate nn (0 : Int)) 0 s1)))] ++ (zs zf90 66 37)))) ?_
 refine wI (d_assign rfl) ?_
 refine wI (d_assign rfl) ?_
 refine wF ([(eN nn)] ++ (zs zf90 1 6 ++ [(ptr L19.bN 0), (zf90 8), (sli sb 0 nn nn), (zf90 10), (Value.slice none 0 0), (eN (rowDoC s1.gD (List.replicate nn (0 : Int)).length (rowRC (List.replicate nn (0 : Int)) 0 s1)))] ++ (zs zf90 13 46 ++ [(Value.bool false), (Value.tuple #[(Value.slice none 0 0), (eN (rowDoC s1.gD (List.replicate nn (0 : Int)).length (rowRC (List.replicate nn (0 : Int)) 0 s1)))]), (ptr L19.bN 0), (sli sb 0 nn nn), (Value.tuple #[(Value.slice none 0 0), (eN (rowDoC s1.gD (List.replicate nn (0 : Int)).length (rowRC (List.replicate nn (0 : Int)) 0 s1)))]), (Value.slice none 0 0), (eN (rowDoC s1.gD (List.replicate nn (0 : Int)).length (rowRC (List.replicate nn (0 : Int)) 0 s1)))] ++ (zs zf90 66 37)))) ?_
 refine wpL.done ?_
 have rv_s2 := rv_to rv_s1 (shape_no (T := rowR (List.replicate nn (0 : Int)) 0 s1) (C := rowRC (List.replicate nn (0 : Int)) 0 s1) (g := s1.gD) (n := (List.replicate nn (0 : Int)).length) (by rw [List.length_replicate, rv_s1.ct.gD]; exact kn)).2.symm
 obtain ⟨s2, e_s2⟩ : ∃ x_, rowDo s1.gD (List.replicate nn (0 : Int)).length (rowR (List.replicate nn (0 : Int)) 0 s1) (rowRC (List.replicate nn (0 : Int)) 0 s1) = x_ := ⟨_, rfl⟩
 replace rv_s2 := rv_to rv_s2 e_s2
 replace a20 := nd_to a20 e_s2
 refine then_n (wpIn_seq (plain ?_))
 refine wI (d_move rfl) ?_
 refine wI (d_move rfl) ?_
 refine wO (d_call (xl := [.tmp 66, .tmp 67]) (al := [(ptr L19.bN 0), (sli sb 0 nn nn)]) Try.func37 (by kernel_rfl) rfl rfl rfl (rowErase_ok L19 s2 _ a20 (lt_or1 a25.lt lt_no) (List.replicate nn (0 : Int)) (sli sb 0 nn nn) (arr_keep a25 l_sb (Nat.le_refl _) (nx_ors (a20.dis _ in1) (fun _ _ t => t.elim))) (by have := rep_len nn (0 : Int); first | omega | (simp; done) | (simp; omega)))) ?_
 rintro _ w99 ⟨rfl, a101, o100⟩
 replace a25 := a25.step o100 (a20.dis _ in1)
 replace h1 := h1.step o100 (sub2 sub1)
 replace f80 := f80.step o100 (sub2 sub1)
 replace f81 := f81.step o100 (sub2 sub1)
 replace oW := oW.tail o100 (fun k hk e => by have := g_oW_L19 k e; omega)
 replace a20 := a101
 refine wI (d_assign rfl) ?_
 refine wF ([(eN nn)] ++ (zs zf90 1 6 ++ [(ptr L19.bN 0), (zf90 8), (sli sb 0 nn nn), (zf90 10), (Value.slice none 0 0), (eN (rowDoC s1.gD (List.replicate nn (0 : Int)).length (rowRC (List.replicate nn (0 : Int)) 0 s1))), (eN (rowDoC s2.gD (List.replicate nn (0 : Int)).length (rowEC (List.replicate nn (0 : Int)) s2)))] ++ (zs zf90 14 45 ++ [(Value.bool false), (Value.tuple #[(Value.slice none 0 0), (eN (rowDoC s1.gD (List.replicate nn (0 : Int)).length (rowRC (List.replicate nn (0 : Int)) 0 s1)))]), (ptr L19.bN 0), (sli sb 0 nn nn), (Value.tuple #[(Value.slice none 0 0), (eN (rowDoC s1.gD (List.replicate nn (0 : Int)).length (rowRC (List.replicate nn (0 : Int)) 0 s1)))]), (Value.slice none 0 0), (eN (rowDoC s1.gD (List.replicate nn (0 : Int)).length (rowRC (List.replicate nn (0 : Int)) 0 s1))), (ptr L19.bN 0), (sli sb 0 nn nn), (eN (rowDoC s2.gD (List.replicate nn (0 : Int)).length (rowEC (List.replicate nn (0 : Int)) s2)))] ++ (zs zf90 69 34)))) ?_
 refine wpL.done ?_
 have rv_s3 := rv_to rv_s2 (shape_no (T := rowE (List.replicate nn (0 : Int)) s2) (C := rowEC (List.replicate nn (0 : Int)) s2) (g := s2.gD) (n := (List.replicate nn (0 : Int)).length) (by rw [List.length_replicate, rv_s2.ct.gD]; exact kn)).2.symm
 obtain ⟨s3, e_s3⟩ : ∃ x_, rowDo s2.gD (List.replicate nn (0 : Int)).length (rowE (List.replicate nn (0 : Int)) s2) (rowEC (List.replicate nn (0 : Int)) s2) = x_ := ⟨_, rfl⟩
 replace rv_s3 := rv_to rv_s3 e_s3
 replace a20 := nd_to a20 e_s3
 refine then_n ?_
 refine forget (fun zf102 => ([(eN nn)] ++ (zs zf102 1 6 ++ [(ptr L19.bN 0), (zf102 8), (zf102 9), (zf102 10), (Value.slice none 0 0), (eN (rowDoC s1.gD (List.replicate nn (0 : Int)).length (rowRC (List.replicate nn (0 : Int)) 0 s1))), (eN (rowDoC s2.gD (List.replicate nn (0 : Int)).length (rowEC (List.replicate nn (0 : Int)) s2)))] ++ (zs zf102 14 89)))) (by kernel_rfl) (fun zf102 => ?_)
 refine wpIn_seq (wpIn_seq (plain ?_))
 refine wI (d_move rfl) ?_
 refine wI (n_eql (a := nn) (b := 7) rfl rfl (decide_eq_false kn)) ?_
 refine wpL.done (then_n ?_)
 refine cond_f rfl ?_
 refine wpIn_skip (then_n (wpIn_seq (plain ?_)))
 refine wI (d_move rfl) ?_
 refine wI (n_eql (a := (rowDoC s1.gD (List.replicate nn (0 : Int)).length (rowRC (List.replicate nn (0 : Int)) 0 s1))) (b := 1) rfl rfl (decide_eq_true ((shape_no (T := rowR (List.replicate nn (0 : Int)) 0 s1) (C := rowRC (List.replicate nn (0 : Int)) 0 s1) (g := s1.gD) (n := (List.replicate nn (0 : Int)).length) (by rw [List.length_replicate, rv_s1.ct.gD]; exact kn)).1))) ?_
 refine wI (d_move rfl) ?_
 refine wpL.onis rfl rfl rfl (nb rfl) rfl (d_move rfl) ?_
 refine wF ([(eN nn)] ++ (zs zf102 1 6 ++ [(ptr L19.bN 0), (zf102 8), (zf102 9), (zf102 10), (Value.slice none 0 0), (eN (rowDoC s1.gD (List.replicate nn (0 : Int)).length (rowRC (List.replicate nn (0 : Int)) 0 s1))), (eN (rowDoC s2.gD (List.replicate nn (0 : Int)).length (rowEC (List.replicate nn (0 : Int)) s2)))] ++ (zs zf102 14 55 ++ [(eN nn), (Value.bool false)] ++ (zs zf102 71 16 ++ [(eN (rowDoC s1.gD (List.replicate nn (0 : Int)).length (rowRC (List.replicate nn (0 : Int)) 0 s1))), (Value.bool true), (Value.bool true), (Value.slice none 0 0)] ++ (zs zf102 91 12))))) ?_
 refine wpL.onis rfl rfl rfl (nb rfl) rfl (d_len rfl Try.underlying53 rfl) ?_
 refine wpL.onis rfl rfl rfl (nb rfl) rfl (n_eql (a := 0) (b := 0) rfl rfl (decide_eq_true rfl)) ?_
 refine wI (d_pick (b := true) (v := (Value.bool true)) rfl rfl) ?_
 refine wI (d_move rfl) ?_
 refine wpL.onis rfl rfl rfl (nb rfl) rfl (d_move rfl) ?_
 refine wpL.onis rfl rfl rfl (nb rfl) rfl (n_eql (a := (rowDoC s2.gD (List.replicate nn (0 : Int)).length (rowEC (List.replicate nn (0 : Int)) s2))) (b := 1) rfl rfl (decide_eq_true ((shape_no (T := rowE (List.replicate nn (0 : Int)) s2) (C := rowEC (List.replicate nn (0 : Int)) s2) (g := s2.gD) (n := (List.replicate nn (0 : Int)).length) (by rw [List.length_replicate, rv_s2.ct.gD]; exact kn)).1))) ?_
 refine wF ([(eN nn)] ++ (zs zf102 1 6 ++ [(ptr L19.bN 0), (zf102 8), (zf102 9), (zf102 10), (Value.slice none 0 0), (eN (rowDoC s1.gD (List.replicate nn (0 : Int)).length (rowRC (List.replicate nn (0 : Int)) 0 s1))), (eN (rowDoC s2.gD (List.replicate nn (0 : Int)).length (rowEC (List.replicate nn (0 : Int)) s2)))] ++ (zs zf102 14 55 ++ [(eN nn), (Value.bool false)] ++ (zs zf102 71 16 ++ [(eN (rowDoC s1.gD (List.replicate nn (0 : Int)).length (rowRC (List.replicate nn (0 : Int)) 0 s1))), (Value.bool true), (Value.bool true), (Value.slice none 0 0), (eN 0), (Value.bool true), (Value.bool true), (Value.bool true), (eN (rowDoC s2.gD (List.replicate nn (0 : Int)).length (rowEC (List.replicate nn (0 : Int)) s2))), (Value.bool true)] ++ (zs zf102 97 6))))) ?_
 refine wI (d_pick (b := true) (v := (Value.bool true)) rfl rfl) ?_
 refine wI (d_move rfl) ?_
 refine wpL.onis rfl rfl rfl (nb rfl) rfl (d_move rfl) ?_
 refine wpL.on rfl rfl rfl (nb rfl) rfl (d_call (xl := [.tmp 99]) (al := [(ptr L19.bN 0)]) Try.func38 (by kernel_rfl) rfl rfl rfl (nandOps_ok L19 s3 _ a20)) ?_
 rintro _ w103 ⟨rfl, o104⟩
 replace h1 := h1.step0 o104
 replace a20 := a20.step0 o104
 replace f80 := f80.step0 o104
 replace f81 := f81.step0 o104
 replace a25 := a25.step0 o104
 replace oW := oW.tail0 o104
 refine wpL.onis rfl rfl rfl (nb rfl) rfl (d_eql (k := .i64) (m := s3.ops) (n := 0) rfl rfl (decide_eq_true rv_s3.ct.op)) ?_
 refine wI (d_pick (b := true) (v := (Value.bool true)) rfl rfl) ?_
 refine wF ([(eN nn)] ++ (zs zf102 1 6 ++ [(ptr L19.bN 0), (zf102 8), (zf102 9), (zf102 10), (Value.slice none 0 0), (eN (rowDoC s1.gD (List.replicate nn (0 : Int)).length (rowRC (List.replicate nn (0 : Int)) 0 s1))), (eN (rowDoC s2.gD (List.replicate nn (0 : Int)).length (rowEC (List.replicate nn (0 : Int)) s2)))] ++ (zs zf102 14 55 ++ [(eN nn), (Value.bool false)] ++ (zs zf102 71 16 ++ [(eN (rowDoC s1.gD (List.replicate nn (0 : Int)).length (rowRC (List.replicate nn (0 : Int)) 0 s1))), (Value.bool true), (Value.bool true), (Value.slice none 0 0), (eN 0), (Value.bool true), (Value.bool true), (Value.bool true), (eN (rowDoC s2.gD (List.replicate nn (0 : Int)).length (rowEC (List.replicate nn (0 : Int)) s2))), (Value.bool true), (Value.bool true), (Value.bool true), (ptr L19.bN 0), (eI s3.ops), (Value.bool true), (Value.bool true)])))) ?_
 refine wI (d_assign rfl) ?_
 refine wpL.done (then_n ?_)
 refine forget (fun zf105 => (zs zf105 0 6 ++ [(Value.bool true)] ++ (zs zf105 7 96))) (by kernel_rfl) (fun zf105 => ?_)
 refine wpIn_ret ?_
 refine leave0 (v := (Value.bool true)) (res1 Try.results13 rfl) ?_
 exact ⟨rfl, oW⟩
end Go.Proofs.YtgalehapmdabeaaF
namespace Go.Proofs.YtgalehapmdabeaaF
open Go Go.Shelf Go.Proofs.YtgalehapmdabeaaS Go.RowKit
def IsRow (k : IntKind) (w : World) (a : Option Addr) (len cap : Nat) (zs : List Int) : Prop :=
 (a = none ∧ len = 0 ∧ cap = 0 ∧ zs = []) ∨
 ∃ x, a = some x ∧ len ≤ cap ∧ zs.length = cap ∧ (∀ i, i < zs.length → w.cell? (x.add i) = some (.int k (zs.getD i 0))) ∧ ∀ n ∈ zs, (Lit.int k n).wf = true
theorem IsRow.seq {α : Type} {enc : α → Value} {dec : Int → α} {k : IntKind} {W : World} {a : Option Addr} {len cap : Nat} {zs : List Int} (h : IsRow k W a len cap zs)
  (hed : ∀ n, (Lit.int k n).wf = true → enc (dec n) = .int k n) : ∃ xs : List α, xs.length = len ∧ Ps No (Seq (kS enc) xs (.slice a len cap)) W := by
 rcases h with ⟨rfl, rfl, rfl, _⟩ | ⟨x, rfl, hl, hz, hc, hw⟩
 ·exact ⟨[], rfl, seq_nil⟩
 ·refine ⟨(zs.take len).map dec, by rw [List.length_map, List.length_take]; omega, fun W' hW => ⟨_, cap, by rw [List.length_map, List.length_take, Nat.min_eq_left (by omega)], by rw [List.length_map, List.length_take]; omega, fun i v hv => ⟨x, rfl, ?_⟩⟩⟩
  rw [List.getElem?_map, List.getElem?_take] at hv
  split at hv
  ·rename_i hi
   have hiz : i < zs.length := by omega
   rw [List.getElem?_eq_getElem hiz] at hv
   injection hv with hv
   subst hv
   have h1 := hc i hiz
   have h2 : zs.getD i 0 = zs[i] := by rw [List.getD_eq_getElem?_getD, List.getElem?_eq_getElem hiz]; rfl
   rw [h2] at h1
   show W'.cell? (x.add (i * 1)) = some (enc (dec zs[i]))
   rw [Nat.mul_one, hed _ (hw _ (List.getElem_mem hiz))]
   have hlt : (x.add i).block < W.heap.size := cells_of_cell h1 |>.elim fun _ hx => (Array.getElem?_eq_some_iff.1 hx.1).1
   rw [World.cell?_of_block (w := W) (hW _ hlt id)]
   exact h1
  ·cases hv
theorem dec_u8 (n : Int) (h : (Lit.int .u8 n).wf = true) : eB (UInt8.ofNat n.toNat) = .int .u8 n := by
 have hb : 0 ≤ n ∧ n < 256 := by
  simp [Lit.wf, IntKind.min, IntKind.max, IntKind.signed, IntKind.bits] at h
  omega
 show Value.int _ _ = _
 congr 1
 rw [UInt8.toNat_ofNat']
 omega
theorem law_of {P : Program} {f : Nat} {args : Array Value} {W : World} (h : CW P f args W (Rt (RIs (.bool true) W))) : Calls P f args W fun e W' => e = .returned (.bool true) ∧ Below W.heap.size W W' :=
 callsIn_wide.1 (CallsIn.mono h fun e W' ⟨u, he, hu⟩ => by
  obtain ⟨h1, h2⟩ := hu
  exact ⟨by rw [he, h1], h2.below (Nat.le_refl _) fun _ x => x.elim⟩)
end Go.Proofs.YtgalehapmdabeaaF
