import Derived.Test.YtpamdlnobekihaaFp
import Derived.Test.YtpamdlnobekihaaTy
import Derived.Test.YtpamdlnobekihaaHnandu
set_option linter.unusedVariables false
set_option linter.unusedSimpArgs false
namespace Go.Proofs.YtpamdlnobekihaaF
open Go Go.Shelf Go.Proofs.YtpamdlnobekihaaS Ram
set_option maxRecDepth 20000 in
set_option maxHeartbeats 4000000 in
theorem nandErase_law (lb : List UInt8) (lm : List UInt8) (k : Int) (u1 : Value) (u2 : Value) (W : World) (h1 : Ps No (Seq kB lb u1) W) (h2 : Ps No (Seq kB lm u2) W) (g1 : lb.length ≤ 140737488351232) (g2 : lm.length ≤ 140737488351232) :
    CW Try.prog 9 #[u1, u2, (eI k)] W (Rt (RIs (.bool true) W)) := by
 have oW : Only No W W := Only.refl _ _
 refine enter (al := [u1, u2, (eI k)]) (k := 101) (l := ([u1, u2, (eI k)] ++ (us 101))) Try.func9 rfl Try.ntmps9 rfl rfl ?_
 refine wpIn_seq ?_
 refine plain ?_
 refine wI (d_assign rfl) ?_
 refine wF ([u1, u2, (eI k), undef, undef, undef, (Value.bool false)] ++ (us 97)) ?_
 refine wpL.done ?_
 refine then_n ?_
 refine wpIn_seq ?_
 refine wpIn_seq ?_
 refine plain ?_
 refine wO (d_call (xl := []) (al := []) Try.func11 (by kernel_rfl) rfl rfl rfl (law7Known_ok _)) ?_
 rintro _ w11 ⟨rfl, o12⟩
 replace h1 := h1.step0 o12
 replace h2 := h2.step0 o12
 replace oW := oW.tail0 o12
 refine wI (d_not rfl rfl) ?_
 refine wF ([u1, u2, (eI k), undef, undef, undef, (Value.bool false)] ++ (us 11 ++ [(Value.bool true), (Value.bool false)] ++ (us 84))) ?_
 refine wpL.done ?_
 refine then_n ?_
 refine cond_f rfl ?_
 refine wpIn_skip ?_
 refine then_n ?_
 refine wpIn_seq ?_
 refine wpIn_seq ?_
 refine plain ?_
 refine wI (d_move rfl) ?_
 refine wI (d_lenS rfl Try.underlying36 rfl h2) ?_
 refine wI (n_gtr (a := lm.length) (b := 60) rfl rfl rfl) ?_
 refine wF ([u1, u2, (eI k), undef, undef, undef, (Value.bool false)] ++ (us 11 ++ [(Value.bool true), (Value.bool false), u2, (eN lm.length), (Value.bool (decide (60 < lm.length)))] ++ (us 81))) ?_
 refine wpL.done ?_
 refine then_n ?_
 refine cond_if rfl (fun c13 => ?_) (fun c13 => ?_)
 ·
  refine wpIn_seq ?_
  refine plain ?_
  refine wI (d_assign rfl) ?_
  refine wF ([u1, u2, (eI k), undef, undef, undef, (Value.bool true)] ++ (us 11 ++ [(Value.bool true), (Value.bool false), u2, (eN lm.length), (Value.bool (decide (60 < lm.length)))] ++ (us 81))) ?_
  refine wpL.done ?_
  refine then_n ?_
  refine wpIn_ret ?_
  refine then_r ?_
  refine leave0 (v := (Value.bool true)) (res1 Try.results9 rfl) ?_
  exact ⟨rfl, oW⟩
 refine wpIn_skip ?_
 refine then_n ?_
 refine wpIn_seq ?_
 refine plain ?_
 refine wI (d_buildS (pl := [(0, 1), (1, 1), (2, 1)]) (zs := [(eN 0), (eN 0), (eN 0)]) (cs := [(eN 6), (eN 8), (eN 5)]) Try.underlying23 s_ti23 ⟨_, _, _, _, rfl, s_ti3, ⟨_, _, _, _, rfl, s_ti3, ⟨_, _, _, _, rfl, s_ti3, rfl⟩⟩⟩ rfl (parts_cons (vs := [(eN 6)]) (cells_of (v := (eN 6)) rfl rfl) (parts_cons (vs := [(eN 8)]) (cells_of (v := (eN 8)) rfl rfl) (parts_cons (vs := [(eN 5)]) (cells_of (v := (eN 5)) rfl rfl) parts_nil))) rfl) ?_
 refine wO (d_call (xl := [.tmp 24, .const (.slice none 0 0)]) (al := [(Value.agg #[(eN 6), (eN 8), (eN 5)]), (Value.slice none 0 0)]) Try.func13 (by kernel_rfl) rfl rfl rfl (new0_ok 6 8 5 _ (by omega) (by omega) (by omega))) ?_
 rintro _ w14 ⟨L16, rfl, ⟨a17, g18⟩, o15⟩
 have g_oW_L16 : ∀ k, L16.S k → W.heap.size ≤ k := fun k hk => Nat.le_trans oW.size (g18 k hk)
 replace a17 := a17.less (Y := No) no_old
 replace h1 := h1.re (X' := Ors L16.S No) o15 (fun _ t => t.elim) (xx_news g18 xx_id)
 replace h2 := h2.re (X' := Ors L16.S No) o15 (fun _ t => t.elim) (xx_news g18 xx_id)
 replace oW := oW.tail0 o15
 refine wI (d_move rfl) ?_
 refine wF ([u1, u2, (eI k), undef, undef, undef, (Value.bool false)] ++ (us 11 ++ [(Value.bool true), (Value.bool false), u2, (eN lm.length), (Value.bool (decide (60 < lm.length))), (Value.tuple #[(ptr L16.bN 0), (eN 0)]), (Value.agg #[(eN 6), (eN 8), (eN 5)]), (Value.tuple #[(ptr L16.bN 0), (eN 0)])] ++ (us 78))) ?_
 refine wI (d_extract (v := (ptr L16.bN 0)) rfl rfl) ?_
 refine wI (d_extract (v := (eN 0)) rfl rfl) ?_
 refine wI (d_assign rfl) ?_
 refine wF ([u1, u2, (eI k), undef, undef, undef, (Value.bool false), (ptr L16.bN 0)] ++ (us 10 ++ [(Value.bool true), (Value.bool false), u2, (eN lm.length), (Value.bool (decide (60 < lm.length))), (Value.tuple #[(ptr L16.bN 0), (eN 0)]), (Value.agg #[(eN 6), (eN 8), (eN 5)]), (Value.tuple #[(ptr L16.bN 0), (eN 0)]), (ptr L16.bN 0), (eN 0)] ++ (us 76))) ?_
 refine wI (d_assign rfl) ?_
 refine wF ([u1, u2, (eI k), undef, undef, undef, (Value.bool false), (ptr L16.bN 0), (eN 0)] ++ (us 9 ++ [(Value.bool true), (Value.bool false), u2, (eN lm.length), (Value.bool (decide (60 < lm.length))), (Value.tuple #[(ptr L16.bN 0), (eN 0)]), (Value.agg #[(eN 6), (eN 8), (eN 5)]), (Value.tuple #[(ptr L16.bN 0), (eN 0)]), (ptr L16.bN 0), (eN 0)] ++ (us 76))) ?_
 refine wpL.done ?_
 refine then_n ?_
 refine wpIn_seq ?_
 refine wpIn_seq ?_
 refine plain ?_
 refine wI (d_move rfl) ?_
 refine wI (n_neq (a := 0) (b := 0) rfl rfl (by rw [decide_eq_true rfl] <;> rfl)) ?_
 refine wF ([u1, u2, (eI k), undef, undef, undef, (Value.bool false), (ptr L16.bN 0), (eN 0)] ++ (us 9 ++ [(Value.bool true), (Value.bool false), u2, (eN lm.length), (Value.bool (decide (60 < lm.length))), (Value.tuple #[(ptr L16.bN 0), (eN 0)]), (Value.agg #[(eN 6), (eN 8), (eN 5)]), (Value.tuple #[(ptr L16.bN 0), (eN 0)]), (ptr L16.bN 0), (eN 0), (eN 0), (Value.bool false)] ++ (us 74))) ?_
 refine wpL.done ?_
 refine then_n ?_
 refine cond_f rfl ?_
 refine wpIn_skip ?_
 refine then_n ?_
 refine wpIn_seq ?_
 refine plain ?_
 refine wI (d_move rfl) ?_
 refine wO (d_call (xl := [.tmp 30, .const (.int .i64 5)]) (al := [(eI k), (eN 5)]) Try.func12 (by kernel_rfl) rfl rfl rfl (law7Within_ok k 5 _ (by omega) (by omega))) ?_
 rintro _ w19 ⟨rfl, o20⟩
 replace h1 := h1.step0 o20
 replace h2 := h2.step0 o20
 replace a17 := a17.step0 o20
 replace oW := oW.tail0 o20
 refine wI (n_add (a := 1) (b := ((k % ((5 : Nat) : Int)).toNat)) rfl rfl (by omega)) ?_
 refine wF ([u1, u2, (eI k), undef, undef, undef, (Value.bool false), (ptr L16.bN 0), (eN 0)] ++ (us 9 ++ [(Value.bool true), (Value.bool false), u2, (eN lm.length), (Value.bool (decide (60 < lm.length))), (Value.tuple #[(ptr L16.bN 0), (eN 0)]), (Value.agg #[(eN 6), (eN 8), (eN 5)]), (Value.tuple #[(ptr L16.bN 0), (eN 0)]), (ptr L16.bN 0), (eN 0), (eN 0), (Value.bool false), (eI k), (eN ((k % ((5 : Nat) : Int)).toNat)), (eN (1 + ((k % ((5 : Nat) : Int)).toNat)))] ++ (us 71))) ?_
 refine wI (d_assign rfl) ?_
 refine wF ([u1, u2, (eN (1 + ((k % ((5 : Nat) : Int)).toNat))), undef, undef, undef, (Value.bool false), (ptr L16.bN 0), (eN 0)] ++ (us 9 ++ [(Value.bool true), (Value.bool false), u2, (eN lm.length), (Value.bool (decide (60 < lm.length))), (Value.tuple #[(ptr L16.bN 0), (eN 0)]), (Value.agg #[(eN 6), (eN 8), (eN 5)]), (Value.tuple #[(ptr L16.bN 0), (eN 0)]), (ptr L16.bN 0), (eN 0), (eN 0), (Value.bool false), (eI k), (eN ((k % ((5 : Nat) : Int)).toNat)), (eN (1 + ((k % ((5 : Nat) : Int)).toNat)))] ++ (us 71))) ?_
 refine wpL.done ?_
 refine then_n ?_
 refine wpIn_seq ?_
 obtain ⟨kk, hkk, ekk⟩ : ∃ kk, (1 ≤ kk ∧ kk ≤ 5) ∧ 1 + ((k % ((5 : Nat) : Int)).toNat) = kk := ⟨_, by omega, rfl⟩
 refine wp_eq (l' := ([u1, u2, (eN kk), undef, undef, undef, (Value.bool false), (ptr L16.bN 0), (eN 0)] ++ (us 9 ++ [(Value.bool true), (Value.bool false), u2, (eN lm.length), (Value.bool (decide (60 < lm.length))), (Value.tuple #[(ptr L16.bN 0), (eN 0)]), (Value.agg #[(eN 6), (eN 8), (eN 5)]), (Value.tuple #[(ptr L16.bN 0), (eN 0)]), (ptr L16.bN 0), (eN 0), (eN 0), (Value.bool false), (eI k), (eN ((k % ((5 : Nat) : Int)).toNat)), (eN (1 + ((k % ((5 : Nat) : Int)).toNat)))] ++ (us 71)))) (show (([u1, u2, (eN (1 + ((k % ((5 : Nat) : Int)).toNat))), undef, undef, undef, (Value.bool false), (ptr L16.bN 0), (eN 0)] ++ (us 9 ++ [(Value.bool true), (Value.bool false), u2, (eN lm.length), (Value.bool (decide (60 < lm.length))), (Value.tuple #[(ptr L16.bN 0), (eN 0)]), (Value.agg #[(eN 6), (eN 8), (eN 5)]), (Value.tuple #[(ptr L16.bN 0), (eN 0)]), (ptr L16.bN 0), (eN 0), (eN 0), (Value.bool false), (eI k), (eN ((k % ((5 : Nat) : Int)).toNat)), (eN (1 + ((k % ((5 : Nat) : Int)).toNat)))] ++ (us 71))) : List Value) = ([u1, u2, (eN kk), undef, undef, undef, (Value.bool false), (ptr L16.bN 0), (eN 0)] ++ (us 9 ++ [(Value.bool true), (Value.bool false), u2, (eN lm.length), (Value.bool (decide (60 < lm.length))), (Value.tuple #[(ptr L16.bN 0), (eN 0)]), (Value.agg #[(eN 6), (eN 8), (eN 5)]), (Value.tuple #[(ptr L16.bN 0), (eN 0)]), (ptr L16.bN 0), (eN 0), (eN 0), (Value.bool false), (eI k), (eN ((k % ((5 : Nat) : Int)).toNat)), (eN (1 + ((k % ((5 : Nat) : Int)).toNat)))] ++ (us 71))) from reslot ([u1, u2, (eN (1 + ((k % ((5 : Nat) : Int)).toNat))), undef, undef, undef, (Value.bool false), (ptr L16.bN 0), (eN 0)] ++ (us 9 ++ [(Value.bool true), (Value.bool false), u2, (eN lm.length), (Value.bool (decide (60 < lm.length))), (Value.tuple #[(ptr L16.bN 0), (eN 0)]), (Value.agg #[(eN 6), (eN 8), (eN 5)]), (Value.tuple #[(ptr L16.bN 0), (eN 0)]), (ptr L16.bN 0), (eN 0), (eN 0), (Value.bool false), (eI k), (eN ((k % ((5 : Nat) : Int)).toNat)), (eN (1 + ((k % ((5 : Nat) : Int)).toNat)))] ++ (us 71))) 2 (congrArg eN ekk)) ?_
 refine plain ?_
 refine wI (d_move rfl) ?_
 refine wO (d_call (xl := [.tmp 33, .const (.int .i64 60)]) (al := [u1, (eN 60)]) Try.func16 (by kernel_rfl) rfl rfl rfl (law7Bytes_ok lb 60 u1 _ (Ps.no h1) (by first | omega | (simp; done) | (simp; omega)) (by omega))) ?_
 rintro u23 w21 f24
 replace f24 := f24.ps
 obtain ⟨f24, o22⟩ := f24
 replace f24 := f24.less (Y := (Ors L16.S (Old W.heap.size))) (ors_old a17.lt (old_old oW.size))
 replace h1 := h1.step0 o22
 replace h2 := h2.step0 o22
 replace a17 := a17.step0 o22
 replace oW := oW.tail0 o22
 refine wI (d_assign rfl) ?_
 refine wF ([u1, u2, (eN kk), undef, undef, undef, (Value.bool false), (ptr L16.bN 0), (eN 0), u23] ++ (us 8 ++ [(Value.bool true), (Value.bool false), u2, (eN lm.length), (Value.bool (decide (60 < lm.length))), (Value.tuple #[(ptr L16.bN 0), (eN 0)]), (Value.agg #[(eN 6), (eN 8), (eN 5)]), (Value.tuple #[(ptr L16.bN 0), (eN 0)]), (ptr L16.bN 0), (eN 0), (eN 0), (Value.bool false), (eI k), (eN ((k % ((5 : Nat) : Int)).toNat)), (eN (1 + ((k % ((5 : Nat) : Int)).toNat))), u1, u23] ++ (us 69))) ?_
 refine wpL.done ?_
 refine then_n ?_
 refine wpIn_seq ?_
 refine wpIn_seq ?_
 refine plain ?_
 refine wI (d_assign rfl) ?_
 refine wF ([u1, u2, (eN kk), undef, undef, undef, (Value.bool false), (ptr L16.bN 0), (eN 0), u23, (eN 0)] ++ (us 7 ++ [(Value.bool true), (Value.bool false), u2, (eN lm.length), (Value.bool (decide (60 < lm.length))), (Value.tuple #[(ptr L16.bN 0), (eN 0)]), (Value.agg #[(eN 6), (eN 8), (eN 5)]), (Value.tuple #[(ptr L16.bN 0), (eN 0)]), (ptr L16.bN 0), (eN 0), (eN 0), (Value.bool false), (eI k), (eN ((k % ((5 : Nat) : Int)).toNat)), (eN (1 + ((k % ((5 : Nat) : Int)).toNat))), u1, u23] ++ (us 69))) ?_
 refine wpL.done ?_
 refine then_n ?_
 refine wpIn_block ?_
 refine loop2 (fun (s_ : (Nat) × (NS)) => match s_ with | ⟨i, s⟩ => fun (z : Nat → Value) => (([u1, u2, (eN kk), undef, undef, undef, (z 6), (ptr L16.bN 0), (eN 0), u23, (eN i)] ++ (us 7 ++ [(Value.bool true), (Value.bool false), u2, (eN lm.length), (Value.bool (decide (60 < lm.length))), (Value.tuple #[(ptr L16.bN 0), (eN 0)]), (Value.agg #[(eN 6), (eN 8), (eN 5)]), (Value.tuple #[(ptr L16.bN 0), (eN 0)]), (ptr L16.bN 0), (eN 0), (eN 0), (Value.bool false), (eI k), (eN ((k % ((5 : Nat) : Int)).toNat)), (eN (1 + ((k % ((5 : Nat) : Int)).toNat))), u1, u23] ++ (zs z 35 10 ++ (us 59)))) : List Value)) (fun (s_ : (Nat) × (NS)) => match s_ with | ⟨i, s⟩ => fun (w_ : World) => (i ≤ kk) ∧ (ErsI s i (bytesL lb 60)) ∧ Only (Ors L16.S No) w21 w_ ∧ Nd L16 s No w_) (fun (s_ : (Nat) × (NS)) => match s_ with | ⟨i, s⟩ => kk - i) ⟨0, (NS.new 6 8 5 (fun _ _ => false))⟩ rfl ?_ ?_
 ·
  refine ⟨?_, ?_, ?_, ?_⟩
  ·
   (try dsimp only)
   all_goals (omega)
  ·
   exact ers_new _
  ·
   exact Only.refl _ _
  ·
   exact a17
 rintro ⟨i, s⟩ z w26 ⟨hi, hI, o25, a17⟩
 (try dsimp only)
 replace h1 := h1.step o25 (ors_mono no_any)
 replace h2 := h2.step o25 (ors_mono no_any)
 replace f24 := f24.step o25 (ors_mono no_any)
 replace oW := oW.tail o25 (tl_snew g_oW_L16 tl_no)
 refine wpIn_seq ?_
 refine wpIn_seq ?_
 refine plain ?_
 refine wI (d_move rfl) ?_
 refine wI (d_move rfl) ?_
 refine wI (n_lss (a := i) (b := kk) rfl rfl rfl) ?_
 refine wF ([u1, u2, (eN kk), undef, undef, undef, (z 6), (ptr L16.bN 0), (eN 0), u23, (eN i)] ++ (us 7 ++ [(Value.bool true), (Value.bool false), u2, (eN lm.length), (Value.bool (decide (60 < lm.length))), (Value.tuple #[(ptr L16.bN 0), (eN 0)]), (Value.agg #[(eN 6), (eN 8), (eN 5)]), (Value.tuple #[(ptr L16.bN 0), (eN 0)]), (ptr L16.bN 0), (eN 0), (eN 0), (Value.bool false), (eI k), (eN ((k % ((5 : Nat) : Int)).toNat)), (eN (1 + ((k % ((5 : Nat) : Int)).toNat))), u1, u23, (eN i), (eN kk), (Value.bool (decide (i < kk)))] ++ (zs z 38 7 ++ (us 59)))) ?_
 refine wpL.done ?_
 refine then_n ?_
 refine cond_if rfl (fun c27 => ?_) (fun c27 => ?_)
 ·
  refine wpIn_skip ?_
  refine then_n ?_
  refine wpIn_seq ?_
  refine wpIn_block ?_
  refine wpIn_seq ?_
  refine plain ?_
  refine wI (d_move rfl) ?_
  refine wI (d_move rfl) ?_
  refine wI (d_move rfl) ?_
  refine wF ([u1, u2, (eN kk), undef, undef, undef, (z 6), (ptr L16.bN 0), (eN 0), u23, (eN i)] ++ (us 7 ++ [(Value.bool true), (Value.bool false), u2, (eN lm.length), (Value.bool (decide (60 < lm.length))), (Value.tuple #[(ptr L16.bN 0), (eN 0)]), (Value.agg #[(eN 6), (eN 8), (eN 5)]), (Value.tuple #[(ptr L16.bN 0), (eN 0)]), (ptr L16.bN 0), (eN 0), (eN 0), (Value.bool false), (eI k), (eN ((k % ((5 : Nat) : Int)).toNat)), (eN (1 + ((k % ((5 : Nat) : Int)).toNat))), u1, u23, (eN i), (eN kk), (Value.bool (decide (i < kk))), (z 38), (z 39), (ptr L16.bN 0), (eN i), u23, (z 43), (z 44)] ++ (us 59))) ?_
  refine wO (d_call (xl := [.tmp 40, .const (.int .i64 2), .const (.int .i64 3), .tmp 41, .tmp 42]) (al := [(ptr L16.bN 0), (eN 2), (eN 3), (eN i), u23]) Try.func20 (by kernel_rfl) rfl rfl rfl (prog_ok L16 s _ a17 ((2 : Nat) : Int) ((3 : Nat) : Int) ((i : Nat) : Int) (bytesL lb 60) u23 lt_no (f24.less (os_of sub1)) (by have := bytesL_len lb 60; first | omega | (simp; done) | (simp; omega)))) ?_
  rintro _ w28 ⟨rfl, a30, o29⟩
  replace h1 := h1.step o29 sub1
  replace h2 := h2.step o29 sub1
  replace f24 := f24.step o29 sub1
  replace oW := oW.tail o29 (fun k hk e => by have := g_oW_L16 k e; omega)
  replace o25 := o25.tail o29 (fun k _ e => sub1 k e)
  replace a17 := a30
  refine wI (n_neq (a := (s.progR ((2 : Nat) : Int) ((3 : Nat) : Int) ((i : Nat) : Int) (bytesL lb 60))) (b := 0) rfl rfl (by rw [decide_eq_true ((ers_step hI (by omega) (bytesL_len lb 60)).1)] <;> rfl)) ?_
  refine wF ([u1, u2, (eN kk), undef, undef, undef, (z 6), (ptr L16.bN 0), (eN 0), u23, (eN i)] ++ (us 7 ++ [(Value.bool true), (Value.bool false), u2, (eN lm.length), (Value.bool (decide (60 < lm.length))), (Value.tuple #[(ptr L16.bN 0), (eN 0)]), (Value.agg #[(eN 6), (eN 8), (eN 5)]), (Value.tuple #[(ptr L16.bN 0), (eN 0)]), (ptr L16.bN 0), (eN 0), (eN 0), (Value.bool false), (eI k), (eN ((k % ((5 : Nat) : Int)).toNat)), (eN (1 + ((k % ((5 : Nat) : Int)).toNat))), u1, u23, (eN i), (eN kk), (Value.bool (decide (i < kk))), (z 38), (z 39), (ptr L16.bN 0), (eN i), u23, (eN (s.progR ((2 : Nat) : Int) ((3 : Nat) : Int) ((i : Nat) : Int) (bytesL lb 60))), (Value.bool false)] ++ (us 59))) ?_
  refine wpL.done ?_
  refine then_n ?_
  refine cond_f rfl ?_
  refine wpIn_skip ?_
  refine inb_n (then_n ?_)
  refine plain ?_
  refine wI (d_move rfl) ?_
  refine wI (n_add (a := i) (b := 1) rfl rfl (by omega)) ?_
  refine wI (d_assign rfl) ?_
  refine wF ([u1, u2, (eN kk), undef, undef, undef, (z 6), (ptr L16.bN 0), (eN 0), u23, (eN (i + 1))] ++ (us 7 ++ [(Value.bool true), (Value.bool false), u2, (eN lm.length), (Value.bool (decide (60 < lm.length))), (Value.tuple #[(ptr L16.bN 0), (eN 0)]), (Value.agg #[(eN 6), (eN 8), (eN 5)]), (Value.tuple #[(ptr L16.bN 0), (eN 0)]), (ptr L16.bN 0), (eN 0), (eN 0), (Value.bool false), (eI k), (eN ((k % ((5 : Nat) : Int)).toNat)), (eN (1 + ((k % ((5 : Nat) : Int)).toNat))), u1, u23, (eN i), (eN kk), (Value.bool (decide (i < kk))), (eN i), (eN (i + 1)), (ptr L16.bN 0), (eN i), u23, (eN (s.progR ((2 : Nat) : Int) ((3 : Nat) : Int) ((i : Nat) : Int) (bytesL lb 60))), (Value.bool false)] ++ (us 59))) ?_
  refine wpL.done ?_
  refine then_n ?_
  refine ⟨_, ⟨i + 1, (s.prog ((2 : Nat) : Int) ((3 : Nat) : Int) ((i : Nat) : Int) (bytesL lb 60))⟩, rfl, rfl, ⟨?_, ?_, ?_, ?_⟩, ?_⟩
  ·
   (try dsimp only)
   all_goals (omega)
  ·
   exact (ers_step hI (by omega) (bytesL_len lb 60)).2
  ·
   exact o25
  ·
   exact a17
  ·
   (try dsimp only)
   all_goals (omega)
 refine wpIn_exit ?_
 refine then_x (then_x (inb_e ?_))
 refine then_n ?_
 refine wpIn_seq ?_
 have hik : i = kk := by omega
 rw [hik] at hI
 refine plain ?_
 refine wI (d_move rfl) ?_
 refine wI (d_move rfl) ?_
 refine wO (d_call (xl := [.tmp 45, .const (.int .i64 1), .tmp 46]) (al := [(ptr L16.bN 0), (eN 1), u2]) Try.func24 (by kernel_rfl) rfl rfl rfl (stop_ok L16 s _ a17 1 lm u2 lt_no (h2.less (os_of sub1)) (by first | omega | (simp; done) | (simp; omega)) (by omega))) ?_
 rintro u34 w31 ⟨a33, o32⟩
 replace h1 := h1.step o32 sub1
 replace h2 := h2.step o32 sub1
 replace f24 := f24.step o32 sub1
 replace oW := oW.tail o32 (fun k hk e => by have := g_oW_L16 k e; omega)
 replace o25 := o25.tail o32 (fun k _ e => sub1 k e)
 replace a17 := a33
 refine wF ([u1, u2, (eN kk), undef, undef, undef, (z 6), (ptr L16.bN 0), (eN 0), u23, (eN i)] ++ (us 7 ++ [(Value.bool true), (Value.bool false), u2, (eN lm.length), (Value.bool (decide (60 < lm.length))), (Value.tuple #[(ptr L16.bN 0), (eN 0)]), (Value.agg #[(eN 6), (eN 8), (eN 5)]), (Value.tuple #[(ptr L16.bN 0), (eN 0)]), (ptr L16.bN 0), (eN 0), (eN 0), (Value.bool false), (eI k), (eN ((k % ((5 : Nat) : Int)).toNat)), (eN (1 + ((k % ((5 : Nat) : Int)).toNat))), u1, u23, (eN i), (eN kk), (Value.bool (decide (i < kk)))] ++ (zs z 38 7 ++ [(ptr L16.bN 0), u2, u34] ++ (us 56)))) ?_
 refine wpL.done ?_
 refine then_n ?_
 refine wpIn_seq ?_
 refine wpIn_seq ?_
 refine plain ?_
 refine wI (d_move rfl) ?_
 refine wO (d_call (xl := [.tmp 48, .const (.int .i64 2), .const (.int .i64 3)]) (al := [(ptr L16.bN 0), (eN 2), (eN 3)]) Try.func23 (by kernel_rfl) rfl rfl rfl (erase_ok L16 (s.stopAt 1 lm) _ a17 ((2 : Nat) : Int) ((3 : Nat) : Int) lt_no)) ?_
 rintro _ w35 ⟨rfl, a37, o36⟩
 replace h1 := h1.step o36 sub1
 replace h2 := h2.step o36 sub1
 replace f24 := f24.step o36 sub1
 replace oW := oW.tail o36 (fun k hk e => by have := g_oW_L16 k e; omega)
 replace o25 := o25.tail o36 (fun k _ e => sub1 k e)
 replace a17 := a37
 refine wI (n_neq (a := ((s.stopAt 1 lm).eraseR ((2 : Nat) : Int) ((3 : Nat) : Int))) (b := 8) rfl rfl (by rw [decide_eq_true ((ers_torn hI hkk.2 lm).1)] <;> rfl)) ?_
 refine wF ([u1, u2, (eN kk), undef, undef, undef, (z 6), (ptr L16.bN 0), (eN 0), u23, (eN i)] ++ (us 7 ++ [(Value.bool true), (Value.bool false), u2, (eN lm.length), (Value.bool (decide (60 < lm.length))), (Value.tuple #[(ptr L16.bN 0), (eN 0)]), (Value.agg #[(eN 6), (eN 8), (eN 5)]), (Value.tuple #[(ptr L16.bN 0), (eN 0)]), (ptr L16.bN 0), (eN 0), (eN 0), (Value.bool false), (eI k), (eN ((k % ((5 : Nat) : Int)).toNat)), (eN (1 + ((k % ((5 : Nat) : Int)).toNat))), u1, u23, (eN i), (eN kk), (Value.bool (decide (i < kk)))] ++ (zs z 38 7 ++ [(ptr L16.bN 0), u2, u34, (ptr L16.bN 0), (eN ((s.stopAt 1 lm).eraseR ((2 : Nat) : Int) ((3 : Nat) : Int))), (Value.bool false)] ++ (us 53)))) ?_
 refine wpL.done ?_
 refine then_n ?_
 refine cond_f rfl ?_
 refine wpIn_skip ?_
 refine then_n ?_
 refine wpIn_seq ?_
 refine plain ?_
 refine wI (d_move rfl) ?_
 refine wO (d_call (xl := [.tmp 51]) (al := [(ptr L16.bN 0)]) Try.func26 (by kernel_rfl) rfl rfl rfl (power_ok L16 ((s.stopAt 1 lm).erase ((2 : Nat) : Int) ((3 : Nat) : Int)) _ a17)) ?_
 rintro u41 w38 ⟨a40, o39⟩
 replace h1 := h1.step o39 sub1
 replace h2 := h2.step o39 sub1
 replace f24 := f24.step o39 sub1
 replace oW := oW.tail o39 (fun k hk e => by have := g_oW_L16 k e; omega)
 replace o25 := o25.tail o39 (fun k _ e => sub1 k e)
 replace a17 := a40
 refine wF ([u1, u2, (eN kk), undef, undef, undef, (z 6), (ptr L16.bN 0), (eN 0), u23, (eN i)] ++ (us 7 ++ [(Value.bool true), (Value.bool false), u2, (eN lm.length), (Value.bool (decide (60 < lm.length))), (Value.tuple #[(ptr L16.bN 0), (eN 0)]), (Value.agg #[(eN 6), (eN 8), (eN 5)]), (Value.tuple #[(ptr L16.bN 0), (eN 0)]), (ptr L16.bN 0), (eN 0), (eN 0), (Value.bool false), (eI k), (eN ((k % ((5 : Nat) : Int)).toNat)), (eN (1 + ((k % ((5 : Nat) : Int)).toNat))), u1, u23, (eN i), (eN kk), (Value.bool (decide (i < kk)))] ++ (zs z 38 7 ++ [(ptr L16.bN 0), u2, u34, (ptr L16.bN 0), (eN ((s.stopAt 1 lm).eraseR ((2 : Nat) : Int) ((3 : Nat) : Int))), (Value.bool false), (ptr L16.bN 0), u41] ++ (us 51)))) ?_
 refine wpL.done ?_
 refine then_n ?_
 refine wpIn_seq ?_
 refine plain ?_
 refine wO (d_buildL (cs := [(eB 255)]) Try.underlying36 s_ti5 rfl (nb rfl) (parts_cons (vs := [(eB 255)]) (cells_of (v := (eB 255)) rfl rfl) parts_nil) rfl) ?_
 rintro _ w43 ⟨b42, rfl, g44, a45, o46⟩
 replace a45 : Arr 5 b42 (([255] : List UInt8).map eB) w43 := a45
 have l_b42 : ([255] : List UInt8).length = 1 := rfl
 have g_oW_b42 : W.heap.size ≤ b42 := Nat.le_trans oW.size g44
 have g_o25_b42 : w21.heap.size ≤ b42 := Nat.le_trans o25.size g44
 replace h1 := h1.new o46 g44
 replace h2 := h2.new o46 g44
 replace a17 := a17.new o46 g44
 replace f24 := f24.new o46 g44
 replace oW := oW.tail0 o46
 replace o25 := o25.tail0 o46
 refine wO (d_call (xl := [.tmp 53, .const (.int .i64 60)]) (al := [(sli b42 0 1 1), (eN 60)]) Try.func16 (by kernel_rfl) rfl rfl rfl (law7Bytes_ok ([255] : List UInt8) 60 (sli b42 0 1 1) _ (Ps.no (arr_seq a45 l_b42 (Nat.le_refl _))) (by first | omega | (simp; done) | (simp; omega)) (by omega))) ?_
 rintro u49 w47 f50
 replace f50 := f50.ps
 obtain ⟨f50, o48⟩ := f50
 replace f50 := f50.less (Y := (Or1 b42 (Ors L16.S (Old W.heap.size)))) (or1_old a45.lt (ors_old a17.lt (old_old oW.size)))
 replace h1 := h1.step0 o48
 replace h2 := h2.step0 o48
 replace a17 := a17.step0 o48
 replace f24 := f24.step0 o48
 replace a45 := a45.step0 o48
 replace oW := oW.tail0 o48
 replace o25 := o25.tail0 o48
 refine wI (d_assign rfl) ?_
 refine wF ([u1, u2, (eN kk), undef, undef, undef, (z 6), (ptr L16.bN 0), (eN 0), u23, (eN i), u49] ++ (us 6 ++ [(Value.bool true), (Value.bool false), u2, (eN lm.length), (Value.bool (decide (60 < lm.length))), (Value.tuple #[(ptr L16.bN 0), (eN 0)]), (Value.agg #[(eN 6), (eN 8), (eN 5)]), (Value.tuple #[(ptr L16.bN 0), (eN 0)]), (ptr L16.bN 0), (eN 0), (eN 0), (Value.bool false), (eI k), (eN ((k % ((5 : Nat) : Int)).toNat)), (eN (1 + ((k % ((5 : Nat) : Int)).toNat))), u1, u23, (eN i), (eN kk), (Value.bool (decide (i < kk)))] ++ (zs z 38 7 ++ [(ptr L16.bN 0), u2, u34, (ptr L16.bN 0), (eN ((s.stopAt 1 lm).eraseR ((2 : Nat) : Int) ((3 : Nat) : Int))), (Value.bool false), (ptr L16.bN 0), u41, (sli b42 0 1 1), u49] ++ (us 49)))) ?_
 refine wpL.done ?_
 refine then_n ?_
 refine wpIn_seq ?_
 refine wpIn_seq ?_
 refine plain ?_
 refine wI (d_assign rfl) ?_
 refine wF ([u1, u2, (eN kk), undef, undef, undef, (z 6), (ptr L16.bN 0), (eN 0), u23, (eN i), u49, (eN 0)] ++ (us 5 ++ [(Value.bool true), (Value.bool false), u2, (eN lm.length), (Value.bool (decide (60 < lm.length))), (Value.tuple #[(ptr L16.bN 0), (eN 0)]), (Value.agg #[(eN 6), (eN 8), (eN 5)]), (Value.tuple #[(ptr L16.bN 0), (eN 0)]), (ptr L16.bN 0), (eN 0), (eN 0), (Value.bool false), (eI k), (eN ((k % ((5 : Nat) : Int)).toNat)), (eN (1 + ((k % ((5 : Nat) : Int)).toNat))), u1, u23, (eN i), (eN kk), (Value.bool (decide (i < kk)))] ++ (zs z 38 7 ++ [(ptr L16.bN 0), u2, u34, (ptr L16.bN 0), (eN ((s.stopAt 1 lm).eraseR ((2 : Nat) : Int) ((3 : Nat) : Int))), (Value.bool false), (ptr L16.bN 0), u41, (sli b42 0 1 1), u49] ++ (us 49)))) ?_
 refine wpL.done ?_
 refine then_n ?_
 refine wpIn_block ?_
 refine loop2 (fun (s_ : (Nat) × (NS)) => match s_ with | ⟨q, s2⟩ => fun (z : Nat → Value) => (([u1, u2, (eN kk), undef, undef, undef, (z 6), (ptr L16.bN 0), (eN 0), u23, (eN i), u49, (eN q), (z 13), (z 14), (z 15), undef, undef, (Value.bool true), (Value.bool false), u2, (eN lm.length), (Value.bool (decide (60 < lm.length))), (Value.tuple #[(ptr L16.bN 0), (eN 0)]), (Value.agg #[(eN 6), (eN 8), (eN 5)]), (Value.tuple #[(ptr L16.bN 0), (eN 0)]), (ptr L16.bN 0), (eN 0), (eN 0), (Value.bool false), (eI k), (eN ((k % ((5 : Nat) : Int)).toNat)), (eN (1 + ((k % ((5 : Nat) : Int)).toNat))), u1, u23, (eN i), (eN kk), (Value.bool (decide (i < kk)))] ++ (zs z 38 7 ++ [(ptr L16.bN 0), u2, u34, (ptr L16.bN 0), (eN ((s.stopAt 1 lm).eraseR ((2 : Nat) : Int) ((3 : Nat) : Int))), (Value.bool false), (ptr L16.bN 0), u41, (sli b42 0 1 1), u49] ++ (zs z 55 27 ++ (us 22)))) : List Value)) (fun (s_ : (Nat) × (NS)) => match s_ with | ⟨q, s2⟩ => fun (w_ : World) => (q ≤ 5) ∧ (ErsE s2 kk (bytesL lb 60) lm) ∧ Only (Or1 b42 (Ors L16.S No)) w47 w_ ∧ Arr 5 b42 (([255] : List UInt8).map eB) w_ ∧ Nd L16 s2 (Or1 b42 No) w_) (fun (s_ : (Nat) × (NS)) => match s_ with | ⟨q, s2⟩ => 5 - q) ⟨0, (((s.stopAt 1 lm).erase ((2 : Nat) : Int) ((3 : Nat) : Int)).power)⟩ rfl ?_ ?_
 ·
  refine ⟨?_, ?_, ?_, ?_, ?_⟩
  ·
   (try dsimp only)
   all_goals (omega)
  ·
   exact (ers_torn hI hkk.2 lm).2
  ·
   exact Only.refl _ _
  ·
   exact a45
  ·
   exact a17
 rintro ⟨q, s2⟩ z w52 ⟨hq, hE, o51, a45, a17⟩
 (try dsimp only)
 replace h1 := h1.step o51 (or1_mono (ors_mono no_any))
 replace h2 := h2.step o51 (or1_mono (ors_mono no_any))
 replace f24 := f24.step o51 (or1_mono (ors_mono no_any))
 replace f50 := f50.step o51 (or1_mono (ors_mono no_any))
 replace oW := oW.tail o51 (tl_new g_oW_b42 (tl_snew g_oW_L16 tl_no))
 replace o25 := o25.tail o51 (tl_new g_o25_b42 (tl_sin sub1 tl_no))
 refine wpIn_seq ?_
 refine wpIn_seq ?_
 refine plain ?_
 refine wI (d_move rfl) ?_
 refine wI (n_lss (a := q) (b := 5) rfl rfl rfl) ?_
 refine wF ([u1, u2, (eN kk), undef, undef, undef, (z 6), (ptr L16.bN 0), (eN 0), u23, (eN i), u49, (eN q), (z 13), (z 14), (z 15), undef, undef, (Value.bool true), (Value.bool false), u2, (eN lm.length), (Value.bool (decide (60 < lm.length))), (Value.tuple #[(ptr L16.bN 0), (eN 0)]), (Value.agg #[(eN 6), (eN 8), (eN 5)]), (Value.tuple #[(ptr L16.bN 0), (eN 0)]), (ptr L16.bN 0), (eN 0), (eN 0), (Value.bool false), (eI k), (eN ((k % ((5 : Nat) : Int)).toNat)), (eN (1 + ((k % ((5 : Nat) : Int)).toNat))), u1, u23, (eN i), (eN kk), (Value.bool (decide (i < kk)))] ++ (zs z 38 7 ++ [(ptr L16.bN 0), u2, u34, (ptr L16.bN 0), (eN ((s.stopAt 1 lm).eraseR ((2 : Nat) : Int) ((3 : Nat) : Int))), (Value.bool false), (ptr L16.bN 0), u41, (sli b42 0 1 1), u49, (eN q), (Value.bool (decide (q < 5)))] ++ (zs z 57 25 ++ (us 22)))) ?_
 refine wpL.done ?_
 refine then_n ?_
 refine cond_if rfl (fun hq5 => ?_) (fun hq5 => ?_)
 ·
  refine wpIn_skip ?_
  refine then_n ?_
  refine wpIn_seq ?_
  refine wpIn_block ?_
  refine wpIn_seq ?_
  refine plain ?_
  refine wI (d_move rfl) ?_
  refine wI (d_move rfl) ?_
  refine wO (d_call (xl := [.tmp 60, .const (.int .i64 2), .const (.int .i64 3), .tmp 61]) (al := [(ptr L16.bN 0), (eN 2), (eN 3), (eN q)]) Try.func21 (by kernel_rfl) rfl rfl rfl (read_ok L16 s2 _ a17 ((2 : Nat) : Int) ((3 : Nat) : Int) ((q : Nat) : Int) (lt_or1 a45.lt lt_no))) ?_
  rintro _ w53 ⟨u55, rfl, f56, a57, o54⟩
  replace f56 := f56.less (Y := (Or1 b42 (Ors L16.S (Old W.heap.size)))) (or1_old a45.lt (ors_old a17.lt (old_old oW.size)))
  replace a45 := a45.step o54 (a17.dis _ in1)
  replace h1 := h1.step o54 (sub2 sub1)
  replace h2 := h2.step o54 (sub2 sub1)
  replace f24 := f24.step o54 (sub2 sub1)
  replace f50 := f50.step o54 (sub2 sub1)
  replace oW := oW.tail o54 (fun k hk e => by have := g_oW_L16 k e; omega)
  replace o25 := o25.tail o54 (fun k _ e => sub1 k e)
  replace o51 := o51.tail o54 (fun k _ e => (sub2 sub1) k e)
  replace a17 := a57
  refine wF ([u1, u2, (eN kk), undef, undef, undef, (z 6), (ptr L16.bN 0), (eN 0), u23, (eN i), u49, (eN q), (z 13), (z 14), (z 15), undef, undef, (Value.bool true), (Value.bool false), u2, (eN lm.length), (Value.bool (decide (60 < lm.length))), (Value.tuple #[(ptr L16.bN 0), (eN 0)]), (Value.agg #[(eN 6), (eN 8), (eN 5)]), (Value.tuple #[(ptr L16.bN 0), (eN 0)]), (ptr L16.bN 0), (eN 0), (eN 0), (Value.bool false), (eI k), (eN ((k % ((5 : Nat) : Int)).toNat)), (eN (1 + ((k % ((5 : Nat) : Int)).toNat))), u1, u23, (eN i), (eN kk), (Value.bool (decide (i < kk)))] ++ (zs z 38 7 ++ [(ptr L16.bN 0), u2, u34, (ptr L16.bN 0), (eN ((s.stopAt 1 lm).eraseR ((2 : Nat) : Int) ((3 : Nat) : Int))), (Value.bool false), (ptr L16.bN 0), u41, (sli b42 0 1 1), u49, (eN q), (Value.bool (decide (q < 5))), (z 57), (z 58), (z 59), (ptr L16.bN 0), (eN q), (Value.tuple #[u55, (eN (s2.askR (s2.readOk ((2 : Nat) : Int) ((3 : Nat) : Int) ((q : Nat) : Int))))])] ++ (zs z 63 19 ++ (us 22)))) ?_
  refine wI (d_move rfl) ?_
  refine wI (d_extract (v := u55) rfl rfl) ?_
  refine wI (d_extract (v := (eN (s2.askR (s2.readOk ((2 : Nat) : Int) ((3 : Nat) : Int) ((q : Nat) : Int))))) rfl rfl) ?_
  refine wF ([u1, u2, (eN kk), undef, undef, undef, (z 6), (ptr L16.bN 0), (eN 0), u23, (eN i), u49, (eN q), (z 13), (z 14), (z 15), undef, undef, (Value.bool true), (Value.bool false), u2, (eN lm.length), (Value.bool (decide (60 < lm.length))), (Value.tuple #[(ptr L16.bN 0), (eN 0)]), (Value.agg #[(eN 6), (eN 8), (eN 5)]), (Value.tuple #[(ptr L16.bN 0), (eN 0)]), (ptr L16.bN 0), (eN 0), (eN 0), (Value.bool false), (eI k), (eN ((k % ((5 : Nat) : Int)).toNat)), (eN (1 + ((k % ((5 : Nat) : Int)).toNat))), u1, u23, (eN i), (eN kk), (Value.bool (decide (i < kk)))] ++ (zs z 38 7 ++ [(ptr L16.bN 0), u2, u34, (ptr L16.bN 0), (eN ((s.stopAt 1 lm).eraseR ((2 : Nat) : Int) ((3 : Nat) : Int))), (Value.bool false), (ptr L16.bN 0), u41, (sli b42 0 1 1), u49, (eN q), (Value.bool (decide (q < 5))), (z 57), (z 58), (Value.tuple #[u55, (eN (s2.askR (s2.readOk ((2 : Nat) : Int) ((3 : Nat) : Int) ((q : Nat) : Int))))]), (ptr L16.bN 0), (eN q), (Value.tuple #[u55, (eN (s2.askR (s2.readOk ((2 : Nat) : Int) ((3 : Nat) : Int) ((q : Nat) : Int))))]), u55, (eN (s2.askR (s2.readOk ((2 : Nat) : Int) ((3 : Nat) : Int) ((q : Nat) : Int))))] ++ (zs z 65 17 ++ (us 22)))) ?_
  refine wI (d_assign rfl) ?_
  refine wI (d_assign rfl) ?_
  refine wF ([u1, u2, (eN kk), undef, undef, undef, (z 6), (ptr L16.bN 0), (eN 0), u23, (eN i), u49, (eN q), u55, (eN (s2.askR (s2.readOk ((2 : Nat) : Int) ((3 : Nat) : Int) ((q : Nat) : Int)))), (z 15), undef, undef, (Value.bool true), (Value.bool false), u2, (eN lm.length), (Value.bool (decide (60 < lm.length))), (Value.tuple #[(ptr L16.bN 0), (eN 0)]), (Value.agg #[(eN 6), (eN 8), (eN 5)]), (Value.tuple #[(ptr L16.bN 0), (eN 0)]), (ptr L16.bN 0), (eN 0), (eN 0), (Value.bool false), (eI k), (eN ((k % ((5 : Nat) : Int)).toNat)), (eN (1 + ((k % ((5 : Nat) : Int)).toNat))), u1, u23, (eN i), (eN kk), (Value.bool (decide (i < kk)))] ++ (zs z 38 7 ++ [(ptr L16.bN 0), u2, u34, (ptr L16.bN 0), (eN ((s.stopAt 1 lm).eraseR ((2 : Nat) : Int) ((3 : Nat) : Int))), (Value.bool false), (ptr L16.bN 0), u41, (sli b42 0 1 1), u49, (eN q), (Value.bool (decide (q < 5))), (z 57), (z 58), (Value.tuple #[u55, (eN (s2.askR (s2.readOk ((2 : Nat) : Int) ((3 : Nat) : Int) ((q : Nat) : Int))))]), (ptr L16.bN 0), (eN q), (Value.tuple #[u55, (eN (s2.askR (s2.readOk ((2 : Nat) : Int) ((3 : Nat) : Int) ((q : Nat) : Int))))]), u55, (eN (s2.askR (s2.readOk ((2 : Nat) : Int) ((3 : Nat) : Int) ((q : Nat) : Int))))] ++ (zs z 65 17 ++ (us 22)))) ?_
  refine wpL.done ?_
  refine then_n ?_
  refine wpIn_seq ?_
  refine plain ?_
  refine wI (d_move rfl) ?_
  refine wI (d_assign rfl) ?_
  refine wF ([u1, u2, (eN kk), undef, undef, undef, (z 6), (ptr L16.bN 0), (eN 0), u23, (eN i), u49, (eN q), u55, (eN (s2.askR (s2.readOk ((2 : Nat) : Int) ((3 : Nat) : Int) ((q : Nat) : Int)))), u49, undef, undef, (Value.bool true), (Value.bool false), u2, (eN lm.length), (Value.bool (decide (60 < lm.length))), (Value.tuple #[(ptr L16.bN 0), (eN 0)]), (Value.agg #[(eN 6), (eN 8), (eN 5)]), (Value.tuple #[(ptr L16.bN 0), (eN 0)]), (ptr L16.bN 0), (eN 0), (eN 0), (Value.bool false), (eI k), (eN ((k % ((5 : Nat) : Int)).toNat)), (eN (1 + ((k % ((5 : Nat) : Int)).toNat))), u1, u23, (eN i), (eN kk), (Value.bool (decide (i < kk)))] ++ (zs z 38 7 ++ [(ptr L16.bN 0), u2, u34, (ptr L16.bN 0), (eN ((s.stopAt 1 lm).eraseR ((2 : Nat) : Int) ((3 : Nat) : Int))), (Value.bool false), (ptr L16.bN 0), u41, (sli b42 0 1 1), u49, (eN q), (Value.bool (decide (q < 5))), (z 57), (z 58), (Value.tuple #[u55, (eN (s2.askR (s2.readOk ((2 : Nat) : Int) ((3 : Nat) : Int) ((q : Nat) : Int))))]), (ptr L16.bN 0), (eN q), (Value.tuple #[u55, (eN (s2.askR (s2.readOk ((2 : Nat) : Int) ((3 : Nat) : Int) ((q : Nat) : Int))))]), u55, (eN (s2.askR (s2.readOk ((2 : Nat) : Int) ((3 : Nat) : Int) ((q : Nat) : Int)))), u49] ++ (zs z 66 16 ++ (us 22)))) ?_
  refine wpL.done ?_
  refine then_n ?_
  refine wpIn_seq ?_
  refine wpIn_seq ?_
  refine plain ?_
  refine wI (d_move rfl) ?_
  refine wI (d_move rfl) ?_
  refine wI (n_lss (a := q) (b := kk) rfl rfl rfl) ?_
  refine wF ([u1, u2, (eN kk), undef, undef, undef, (z 6), (ptr L16.bN 0), (eN 0), u23, (eN i), u49, (eN q), u55, (eN (s2.askR (s2.readOk ((2 : Nat) : Int) ((3 : Nat) : Int) ((q : Nat) : Int)))), u49, undef, undef, (Value.bool true), (Value.bool false), u2, (eN lm.length), (Value.bool (decide (60 < lm.length))), (Value.tuple #[(ptr L16.bN 0), (eN 0)]), (Value.agg #[(eN 6), (eN 8), (eN 5)]), (Value.tuple #[(ptr L16.bN 0), (eN 0)]), (ptr L16.bN 0), (eN 0), (eN 0), (Value.bool false), (eI k), (eN ((k % ((5 : Nat) : Int)).toNat)), (eN (1 + ((k % ((5 : Nat) : Int)).toNat))), u1, u23, (eN i), (eN kk), (Value.bool (decide (i < kk)))] ++ (zs z 38 7 ++ [(ptr L16.bN 0), u2, u34, (ptr L16.bN 0), (eN ((s.stopAt 1 lm).eraseR ((2 : Nat) : Int) ((3 : Nat) : Int))), (Value.bool false), (ptr L16.bN 0), u41, (sli b42 0 1 1), u49, (eN q), (Value.bool (decide (q < 5))), (z 57), (z 58), (Value.tuple #[u55, (eN (s2.askR (s2.readOk ((2 : Nat) : Int) ((3 : Nat) : Int) ((q : Nat) : Int))))]), (ptr L16.bN 0), (eN q), (Value.tuple #[u55, (eN (s2.askR (s2.readOk ((2 : Nat) : Int) ((3 : Nat) : Int) ((q : Nat) : Int))))]), u55, (eN (s2.askR (s2.readOk ((2 : Nat) : Int) ((3 : Nat) : Int) ((q : Nat) : Int)))), u49, (eN q), (eN kk), (Value.bool (decide (q < kk)))] ++ (zs z 69 13 ++ (us 22)))) ?_
  refine wpL.done ?_
  refine then_n ?_
  refine cond_if rfl (fun c2 => ?_) (fun c2 => ?_)
  ·
   refine plain ?_
   refine wI (d_move rfl) ?_
   refine wI (d_move rfl) ?_
   refine wI (d_move rfl) ?_
   refine wF ([u1, u2, (eN kk), undef, undef, undef, (z 6), (ptr L16.bN 0), (eN 0), u23, (eN i), u49, (eN q), u55, (eN (s2.askR (s2.readOk ((2 : Nat) : Int) ((3 : Nat) : Int) ((q : Nat) : Int)))), u49, undef, undef, (Value.bool true), (Value.bool false), u2, (eN lm.length), (Value.bool (decide (60 < lm.length))), (Value.tuple #[(ptr L16.bN 0), (eN 0)]), (Value.agg #[(eN 6), (eN 8), (eN 5)]), (Value.tuple #[(ptr L16.bN 0), (eN 0)]), (ptr L16.bN 0), (eN 0), (eN 0), (Value.bool false), (eI k), (eN ((k % ((5 : Nat) : Int)).toNat)), (eN (1 + ((k % ((5 : Nat) : Int)).toNat))), u1, u23, (eN i), (eN kk), (Value.bool (decide (i < kk)))] ++ (zs z 38 7 ++ [(ptr L16.bN 0), u2, u34, (ptr L16.bN 0), (eN ((s.stopAt 1 lm).eraseR ((2 : Nat) : Int) ((3 : Nat) : Int))), (Value.bool false), (ptr L16.bN 0), u41, (sli b42 0 1 1), u49, (eN q), (Value.bool (decide (q < 5))), (z 57), (z 58), (Value.tuple #[u55, (eN (s2.askR (s2.readOk ((2 : Nat) : Int) ((3 : Nat) : Int) ((q : Nat) : Int))))]), (ptr L16.bN 0), (eN q), (Value.tuple #[u55, (eN (s2.askR (s2.readOk ((2 : Nat) : Int) ((3 : Nat) : Int) ((q : Nat) : Int))))]), u55, (eN (s2.askR (s2.readOk ((2 : Nat) : Int) ((3 : Nat) : Int) ((q : Nat) : Int)))), u49, (eN q), (eN kk), (Value.bool (decide (q < kk))), u23, u49, u2] ++ (zs z 72 10 ++ (us 22)))) ?_
   refine wO (d_call (xl := [.tmp 69, .tmp 70, .tmp 71]) (al := [u23, u49, u2]) Try.func29 (by kernel_rfl) rfl rfl rfl (ref6Mix_ok (bytesL lb 60) (bytesL ([255] : List UInt8) 60) lm u23 u49 u2 _ (Ps.no f24) (Ps.no f50) (Ps.no h2) (by have := bytesL_len lb 60; first | omega | (simp; done) | (simp; omega)) (by have := bytesL_len ([255] : List UInt8) 60; first | omega | (simp; done) | (simp; omega)) (by first | omega | (simp; done) | (simp; omega)))) ?_
   rintro u60 w58 f61
   replace f61 := f61.ps
   obtain ⟨f61, o59⟩ := f61
   replace f61 := f61.less (Y := (Or1 b42 (Ors L16.S (Old W.heap.size)))) (or1_old a45.lt (ors_old a17.lt (old_old oW.size)))
   replace h1 := h1.step0 o59
   replace h2 := h2.step0 o59
   replace a17 := a17.step0 o59
   replace f24 := f24.step0 o59
   replace f50 := f50.step0 o59
   replace f56 := f56.step0 o59
   replace a45 := a45.step0 o59
   replace oW := oW.tail0 o59
   replace o25 := o25.tail0 o59
   replace o51 := o51.tail0 o59
   refine wI (d_assign rfl) ?_
   refine wF ([u1, u2, (eN kk), undef, undef, undef, (z 6), (ptr L16.bN 0), (eN 0), u23, (eN i), u49, (eN q), u55, (eN (s2.askR (s2.readOk ((2 : Nat) : Int) ((3 : Nat) : Int) ((q : Nat) : Int)))), u60, undef, undef, (Value.bool true), (Value.bool false), u2, (eN lm.length), (Value.bool (decide (60 < lm.length))), (Value.tuple #[(ptr L16.bN 0), (eN 0)]), (Value.agg #[(eN 6), (eN 8), (eN 5)]), (Value.tuple #[(ptr L16.bN 0), (eN 0)]), (ptr L16.bN 0), (eN 0), (eN 0), (Value.bool false), (eI k), (eN ((k % ((5 : Nat) : Int)).toNat)), (eN (1 + ((k % ((5 : Nat) : Int)).toNat))), u1, u23, (eN i), (eN kk), (Value.bool (decide (i < kk)))] ++ (zs z 38 7 ++ [(ptr L16.bN 0), u2, u34, (ptr L16.bN 0), (eN ((s.stopAt 1 lm).eraseR ((2 : Nat) : Int) ((3 : Nat) : Int))), (Value.bool false), (ptr L16.bN 0), u41, (sli b42 0 1 1), u49, (eN q), (Value.bool (decide (q < 5))), (z 57), (z 58), (Value.tuple #[u55, (eN (s2.askR (s2.readOk ((2 : Nat) : Int) ((3 : Nat) : Int) ((q : Nat) : Int))))]), (ptr L16.bN 0), (eN q), (Value.tuple #[u55, (eN (s2.askR (s2.readOk ((2 : Nat) : Int) ((3 : Nat) : Int) ((q : Nat) : Int))))]), u55, (eN (s2.askR (s2.readOk ((2 : Nat) : Int) ((3 : Nat) : Int) ((q : Nat) : Int)))), u49, (eN q), (eN kk), (Value.bool (decide (q < kk))), u23, u49, u2, u60] ++ (zs z 73 9 ++ (us 22)))) ?_
   refine wpL.done ?_
   refine then_n ?_
   refine wpIn_seq ?_
   refine plain ?_
   refine wI (d_move rfl) ?_
   refine wI (n_neq (a := (s2.askR (s2.readOk ((2 : Nat) : Int) ((3 : Nat) : Int) ((q : Nat) : Int)))) (b := 0) rfl rfl (by rw [decide_eq_true ((ers_read hE hq5).1)] <;> rfl)) ?_
   refine wI (d_move rfl) ?_
   refine wF ([u1, u2, (eN kk), undef, undef, undef, (z 6), (ptr L16.bN 0), (eN 0), u23, (eN i), u49, (eN q), u55, (eN (s2.askR (s2.readOk ((2 : Nat) : Int) ((3 : Nat) : Int) ((q : Nat) : Int)))), u60, undef, undef, (Value.bool true), (Value.bool false), u2, (eN lm.length), (Value.bool (decide (60 < lm.length))), (Value.tuple #[(ptr L16.bN 0), (eN 0)]), (Value.agg #[(eN 6), (eN 8), (eN 5)]), (Value.tuple #[(ptr L16.bN 0), (eN 0)]), (ptr L16.bN 0), (eN 0), (eN 0), (Value.bool false), (eI k), (eN ((k % ((5 : Nat) : Int)).toNat)), (eN (1 + ((k % ((5 : Nat) : Int)).toNat))), u1, u23, (eN i), (eN kk), (Value.bool (decide (i < kk)))] ++ (zs z 38 7 ++ [(ptr L16.bN 0), u2, u34, (ptr L16.bN 0), (eN ((s.stopAt 1 lm).eraseR ((2 : Nat) : Int) ((3 : Nat) : Int))), (Value.bool false), (ptr L16.bN 0), u41, (sli b42 0 1 1), u49, (eN q), (Value.bool (decide (q < 5))), (z 57), (z 58), (Value.tuple #[u55, (eN (s2.askR (s2.readOk ((2 : Nat) : Int) ((3 : Nat) : Int) ((q : Nat) : Int))))]), (ptr L16.bN 0), (eN q), (Value.tuple #[u55, (eN (s2.askR (s2.readOk ((2 : Nat) : Int) ((3 : Nat) : Int) ((q : Nat) : Int))))]), u55, (eN (s2.askR (s2.readOk ((2 : Nat) : Int) ((3 : Nat) : Int) ((q : Nat) : Int)))), u49, (eN q), (eN kk), (Value.bool (decide (q < kk))), u23, u49, u2, u60, (eN (s2.askR (s2.readOk ((2 : Nat) : Int) ((3 : Nat) : Int) ((q : Nat) : Int)))), (Value.bool false), (Value.bool false)] ++ (zs z 76 6 ++ (us 22)))) ?_
   refine wpL.onis rfl rfl rfl (nb rfl) rfl (d_move rfl) ?_
   refine wpL.onis rfl rfl rfl (nb rfl) rfl (d_str Try.underlying36 Try.underlying5 Try.underlying9 rfl f56) ?_
   refine wpL.onis rfl rfl rfl (nb rfl) rfl (d_move rfl) ?_
   refine wF ([u1, u2, (eN kk), undef, undef, undef, (z 6), (ptr L16.bN 0), (eN 0), u23, (eN i), u49, (eN q), u55, (eN (s2.askR (s2.readOk ((2 : Nat) : Int) ((3 : Nat) : Int) ((q : Nat) : Int)))), u60, undef, undef, (Value.bool true), (Value.bool false), u2, (eN lm.length), (Value.bool (decide (60 < lm.length))), (Value.tuple #[(ptr L16.bN 0), (eN 0)]), (Value.agg #[(eN 6), (eN 8), (eN 5)]), (Value.tuple #[(ptr L16.bN 0), (eN 0)]), (ptr L16.bN 0), (eN 0), (eN 0), (Value.bool false), (eI k), (eN ((k % ((5 : Nat) : Int)).toNat)), (eN (1 + ((k % ((5 : Nat) : Int)).toNat))), u1, u23, (eN i), (eN kk), (Value.bool (decide (i < kk)))] ++ (zs z 38 7 ++ [(ptr L16.bN 0), u2, u34, (ptr L16.bN 0), (eN ((s.stopAt 1 lm).eraseR ((2 : Nat) : Int) ((3 : Nat) : Int))), (Value.bool false), (ptr L16.bN 0), u41, (sli b42 0 1 1), u49, (eN q), (Value.bool (decide (q < 5))), (z 57), (z 58), (Value.tuple #[u55, (eN (s2.askR (s2.readOk ((2 : Nat) : Int) ((3 : Nat) : Int) ((q : Nat) : Int))))]), (ptr L16.bN 0), (eN q), (Value.tuple #[u55, (eN (s2.askR (s2.readOk ((2 : Nat) : Int) ((3 : Nat) : Int) ((q : Nat) : Int))))]), u55, (eN (s2.askR (s2.readOk ((2 : Nat) : Int) ((3 : Nat) : Int) ((q : Nat) : Int)))), u49, (eN q), (eN kk), (Value.bool (decide (q < kk))), u23, u49, u2, u60, (eN (s2.askR (s2.readOk ((2 : Nat) : Int) ((3 : Nat) : Int) ((q : Nat) : Int)))), (Value.bool false), (Value.bool false), u55, (Value.string (strOf (s2.readL ((2 : Nat) : Int) ((3 : Nat) : Int) ((q : Nat) : Int)))), u60, (z 79), (z 80), (z 81)] ++ (us 22))) ?_
   refine wpL.onis rfl rfl rfl (nb rfl) rfl (d_str Try.underlying36 Try.underlying5 Try.underlying9 rfl f61) ?_
   refine wpL.onis rfl rfl rfl (nb rfl) rfl (d_sneq (a := (s2.readL ((2 : Nat) : Int) ((3 : Nat) : Int) ((q : Nat) : Int))) (c := (mixR (bytesL lb 60) (bytesL ([255] : List UInt8) 60) lm)) rfl rfl (by rw [decide_eq_true (by rw [(ers_read hE hq5).2.1, if_pos c2, onesW_bytes])] <;> rfl)) ?_
   refine wI (d_pick (b := false) (v := (Value.bool false)) rfl rfl) ?_
   refine wF ([u1, u2, (eN kk), undef, undef, undef, (z 6), (ptr L16.bN 0), (eN 0), u23, (eN i), u49, (eN q), u55, (eN (s2.askR (s2.readOk ((2 : Nat) : Int) ((3 : Nat) : Int) ((q : Nat) : Int)))), u60, undef, undef, (Value.bool true), (Value.bool false), u2, (eN lm.length), (Value.bool (decide (60 < lm.length))), (Value.tuple #[(ptr L16.bN 0), (eN 0)]), (Value.agg #[(eN 6), (eN 8), (eN 5)]), (Value.tuple #[(ptr L16.bN 0), (eN 0)]), (ptr L16.bN 0), (eN 0), (eN 0), (Value.bool false), (eI k), (eN ((k % ((5 : Nat) : Int)).toNat)), (eN (1 + ((k % ((5 : Nat) : Int)).toNat))), u1, u23, (eN i), (eN kk), (Value.bool (decide (i < kk)))] ++ (zs z 38 7 ++ [(ptr L16.bN 0), u2, u34, (ptr L16.bN 0), (eN ((s.stopAt 1 lm).eraseR ((2 : Nat) : Int) ((3 : Nat) : Int))), (Value.bool false), (ptr L16.bN 0), u41, (sli b42 0 1 1), u49, (eN q), (Value.bool (decide (q < 5))), (z 57), (z 58), (Value.tuple #[u55, (eN (s2.askR (s2.readOk ((2 : Nat) : Int) ((3 : Nat) : Int) ((q : Nat) : Int))))]), (ptr L16.bN 0), (eN q), (Value.tuple #[u55, (eN (s2.askR (s2.readOk ((2 : Nat) : Int) ((3 : Nat) : Int) ((q : Nat) : Int))))]), u55, (eN (s2.askR (s2.readOk ((2 : Nat) : Int) ((3 : Nat) : Int) ((q : Nat) : Int)))), u49, (eN q), (eN kk), (Value.bool (decide (q < kk))), u23, u49, u2, u60, (eN (s2.askR (s2.readOk ((2 : Nat) : Int) ((3 : Nat) : Int) ((q : Nat) : Int)))), (Value.bool false), (Value.bool false), u55, (Value.string (strOf (s2.readL ((2 : Nat) : Int) ((3 : Nat) : Int) ((q : Nat) : Int)))), u60, (Value.string (strOf (mixR (bytesL lb 60) (bytesL ([255] : List UInt8) 60) lm))), (Value.bool false), (Value.bool false)] ++ (us 22))) ?_
   refine wpL.done ?_
   refine then_n ?_
   refine cond_f rfl ?_
   refine wpIn_skip ?_
   refine inb_n (then_n ?_)
   refine plain ?_
   refine wI (d_move rfl) ?_
   refine wI (n_add (a := q) (b := 1) rfl rfl (by omega)) ?_
   refine wI (d_assign rfl) ?_
   refine wF ([u1, u2, (eN kk), undef, undef, undef, (z 6), (ptr L16.bN 0), (eN 0), u23, (eN i), u49, (eN (q + 1)), u55, (eN (s2.askR (s2.readOk ((2 : Nat) : Int) ((3 : Nat) : Int) ((q : Nat) : Int)))), u60, undef, undef, (Value.bool true), (Value.bool false), u2, (eN lm.length), (Value.bool (decide (60 < lm.length))), (Value.tuple #[(ptr L16.bN 0), (eN 0)]), (Value.agg #[(eN 6), (eN 8), (eN 5)]), (Value.tuple #[(ptr L16.bN 0), (eN 0)]), (ptr L16.bN 0), (eN 0), (eN 0), (Value.bool false), (eI k), (eN ((k % ((5 : Nat) : Int)).toNat)), (eN (1 + ((k % ((5 : Nat) : Int)).toNat))), u1, u23, (eN i), (eN kk), (Value.bool (decide (i < kk)))] ++ (zs z 38 7 ++ [(ptr L16.bN 0), u2, u34, (ptr L16.bN 0), (eN ((s.stopAt 1 lm).eraseR ((2 : Nat) : Int) ((3 : Nat) : Int))), (Value.bool false), (ptr L16.bN 0), u41, (sli b42 0 1 1), u49, (eN q), (Value.bool (decide (q < 5))), (eN q), (eN (q + 1)), (Value.tuple #[u55, (eN (s2.askR (s2.readOk ((2 : Nat) : Int) ((3 : Nat) : Int) ((q : Nat) : Int))))]), (ptr L16.bN 0), (eN q), (Value.tuple #[u55, (eN (s2.askR (s2.readOk ((2 : Nat) : Int) ((3 : Nat) : Int) ((q : Nat) : Int))))]), u55, (eN (s2.askR (s2.readOk ((2 : Nat) : Int) ((3 : Nat) : Int) ((q : Nat) : Int)))), u49, (eN q), (eN kk), (Value.bool (decide (q < kk))), u23, u49, u2, u60, (eN (s2.askR (s2.readOk ((2 : Nat) : Int) ((3 : Nat) : Int) ((q : Nat) : Int)))), (Value.bool false), (Value.bool false), u55, (Value.string (strOf (s2.readL ((2 : Nat) : Int) ((3 : Nat) : Int) ((q : Nat) : Int)))), u60, (Value.string (strOf (mixR (bytesL lb 60) (bytesL ([255] : List UInt8) 60) lm))), (Value.bool false), (Value.bool false)] ++ (us 22))) ?_
   refine wpL.done ?_
   refine then_n ?_
   refine ⟨_, ⟨q + 1, (s2.ask (s2.readOk ((2 : Nat) : Int) ((3 : Nat) : Int) ((q : Nat) : Int)))⟩, rfl, rfl, ⟨?_, ?_, ?_, ?_, ?_⟩, ?_⟩
   ·
    (try dsimp only)
    all_goals (omega)
   ·
    exact (ers_read hE hq5).2.2
   ·
    exact o51
   ·
    exact a45
   ·
    exact a17
   ·
    (try dsimp only)
    all_goals (omega)
  refine wpIn_skip ?_
  refine then_n ?_
  refine wpIn_seq ?_
  refine plain ?_
  refine wI (d_move rfl) ?_
  refine wI (n_neq (a := (s2.askR (s2.readOk ((2 : Nat) : Int) ((3 : Nat) : Int) ((q : Nat) : Int)))) (b := 0) rfl rfl (by rw [decide_eq_true ((ers_read hE hq5).1)] <;> rfl)) ?_
  refine wI (d_move rfl) ?_
  refine wF ([u1, u2, (eN kk), undef, undef, undef, (z 6), (ptr L16.bN 0), (eN 0), u23, (eN i), u49, (eN q), u55, (eN (s2.askR (s2.readOk ((2 : Nat) : Int) ((3 : Nat) : Int) ((q : Nat) : Int)))), u49, undef, undef, (Value.bool true), (Value.bool false), u2, (eN lm.length), (Value.bool (decide (60 < lm.length))), (Value.tuple #[(ptr L16.bN 0), (eN 0)]), (Value.agg #[(eN 6), (eN 8), (eN 5)]), (Value.tuple #[(ptr L16.bN 0), (eN 0)]), (ptr L16.bN 0), (eN 0), (eN 0), (Value.bool false), (eI k), (eN ((k % ((5 : Nat) : Int)).toNat)), (eN (1 + ((k % ((5 : Nat) : Int)).toNat))), u1, u23, (eN i), (eN kk), (Value.bool (decide (i < kk)))] ++ (zs z 38 7 ++ [(ptr L16.bN 0), u2, u34, (ptr L16.bN 0), (eN ((s.stopAt 1 lm).eraseR ((2 : Nat) : Int) ((3 : Nat) : Int))), (Value.bool false), (ptr L16.bN 0), u41, (sli b42 0 1 1), u49, (eN q), (Value.bool (decide (q < 5))), (z 57), (z 58), (Value.tuple #[u55, (eN (s2.askR (s2.readOk ((2 : Nat) : Int) ((3 : Nat) : Int) ((q : Nat) : Int))))]), (ptr L16.bN 0), (eN q), (Value.tuple #[u55, (eN (s2.askR (s2.readOk ((2 : Nat) : Int) ((3 : Nat) : Int) ((q : Nat) : Int))))]), u55, (eN (s2.askR (s2.readOk ((2 : Nat) : Int) ((3 : Nat) : Int) ((q : Nat) : Int)))), u49, (eN q), (eN kk), (Value.bool (decide (q < kk))), (z 69), (z 70), (z 71), (z 72), (eN (s2.askR (s2.readOk ((2 : Nat) : Int) ((3 : Nat) : Int) ((q : Nat) : Int)))), (Value.bool false), (Value.bool false)] ++ (zs z 76 6 ++ (us 22)))) ?_
  refine wpL.onis rfl rfl rfl (nb rfl) rfl (d_move rfl) ?_
  refine wpL.onis rfl rfl rfl (nb rfl) rfl (d_str Try.underlying36 Try.underlying5 Try.underlying9 rfl f56) ?_
  refine wpL.onis rfl rfl rfl (nb rfl) rfl (d_move rfl) ?_
  refine wF ([u1, u2, (eN kk), undef, undef, undef, (z 6), (ptr L16.bN 0), (eN 0), u23, (eN i), u49, (eN q), u55, (eN (s2.askR (s2.readOk ((2 : Nat) : Int) ((3 : Nat) : Int) ((q : Nat) : Int)))), u49, undef, undef, (Value.bool true), (Value.bool false), u2, (eN lm.length), (Value.bool (decide (60 < lm.length))), (Value.tuple #[(ptr L16.bN 0), (eN 0)]), (Value.agg #[(eN 6), (eN 8), (eN 5)]), (Value.tuple #[(ptr L16.bN 0), (eN 0)]), (ptr L16.bN 0), (eN 0), (eN 0), (Value.bool false), (eI k), (eN ((k % ((5 : Nat) : Int)).toNat)), (eN (1 + ((k % ((5 : Nat) : Int)).toNat))), u1, u23, (eN i), (eN kk), (Value.bool (decide (i < kk)))] ++ (zs z 38 7 ++ [(ptr L16.bN 0), u2, u34, (ptr L16.bN 0), (eN ((s.stopAt 1 lm).eraseR ((2 : Nat) : Int) ((3 : Nat) : Int))), (Value.bool false), (ptr L16.bN 0), u41, (sli b42 0 1 1), u49, (eN q), (Value.bool (decide (q < 5))), (z 57), (z 58), (Value.tuple #[u55, (eN (s2.askR (s2.readOk ((2 : Nat) : Int) ((3 : Nat) : Int) ((q : Nat) : Int))))]), (ptr L16.bN 0), (eN q), (Value.tuple #[u55, (eN (s2.askR (s2.readOk ((2 : Nat) : Int) ((3 : Nat) : Int) ((q : Nat) : Int))))]), u55, (eN (s2.askR (s2.readOk ((2 : Nat) : Int) ((3 : Nat) : Int) ((q : Nat) : Int)))), u49, (eN q), (eN kk), (Value.bool (decide (q < kk))), (z 69), (z 70), (z 71), (z 72), (eN (s2.askR (s2.readOk ((2 : Nat) : Int) ((3 : Nat) : Int) ((q : Nat) : Int)))), (Value.bool false), (Value.bool false), u55, (Value.string (strOf (s2.readL ((2 : Nat) : Int) ((3 : Nat) : Int) ((q : Nat) : Int)))), u49, (z 79), (z 80), (z 81)] ++ (us 22))) ?_
  refine wpL.onis rfl rfl rfl (nb rfl) rfl (d_str Try.underlying36 Try.underlying5 Try.underlying9 rfl f50) ?_
  refine wpL.onis rfl rfl rfl (nb rfl) rfl (d_sneq (a := (s2.readL ((2 : Nat) : Int) ((3 : Nat) : Int) ((q : Nat) : Int))) (c := (bytesL ([255] : List UInt8) 60)) rfl rfl (by rw [decide_eq_true (by rw [(ers_read hE hq5).2.1, if_neg c2, onesW_bytes])] <;> rfl)) ?_
  refine wI (d_pick (b := false) (v := (Value.bool false)) rfl rfl) ?_
  refine wF ([u1, u2, (eN kk), undef, undef, undef, (z 6), (ptr L16.bN 0), (eN 0), u23, (eN i), u49, (eN q), u55, (eN (s2.askR (s2.readOk ((2 : Nat) : Int) ((3 : Nat) : Int) ((q : Nat) : Int)))), u49, undef, undef, (Value.bool true), (Value.bool false), u2, (eN lm.length), (Value.bool (decide (60 < lm.length))), (Value.tuple #[(ptr L16.bN 0), (eN 0)]), (Value.agg #[(eN 6), (eN 8), (eN 5)]), (Value.tuple #[(ptr L16.bN 0), (eN 0)]), (ptr L16.bN 0), (eN 0), (eN 0), (Value.bool false), (eI k), (eN ((k % ((5 : Nat) : Int)).toNat)), (eN (1 + ((k % ((5 : Nat) : Int)).toNat))), u1, u23, (eN i), (eN kk), (Value.bool (decide (i < kk)))] ++ (zs z 38 7 ++ [(ptr L16.bN 0), u2, u34, (ptr L16.bN 0), (eN ((s.stopAt 1 lm).eraseR ((2 : Nat) : Int) ((3 : Nat) : Int))), (Value.bool false), (ptr L16.bN 0), u41, (sli b42 0 1 1), u49, (eN q), (Value.bool (decide (q < 5))), (z 57), (z 58), (Value.tuple #[u55, (eN (s2.askR (s2.readOk ((2 : Nat) : Int) ((3 : Nat) : Int) ((q : Nat) : Int))))]), (ptr L16.bN 0), (eN q), (Value.tuple #[u55, (eN (s2.askR (s2.readOk ((2 : Nat) : Int) ((3 : Nat) : Int) ((q : Nat) : Int))))]), u55, (eN (s2.askR (s2.readOk ((2 : Nat) : Int) ((3 : Nat) : Int) ((q : Nat) : Int)))), u49, (eN q), (eN kk), (Value.bool (decide (q < kk))), (z 69), (z 70), (z 71), (z 72), (eN (s2.askR (s2.readOk ((2 : Nat) : Int) ((3 : Nat) : Int) ((q : Nat) : Int)))), (Value.bool false), (Value.bool false), u55, (Value.string (strOf (s2.readL ((2 : Nat) : Int) ((3 : Nat) : Int) ((q : Nat) : Int)))), u49, (Value.string (strOf (bytesL ([255] : List UInt8) 60))), (Value.bool false), (Value.bool false)] ++ (us 22))) ?_
  refine wpL.done ?_
  refine then_n ?_
  refine cond_f rfl ?_
  refine wpIn_skip ?_
  refine inb_n (then_n ?_)
  refine plain ?_
  refine wI (d_move rfl) ?_
  refine wI (n_add (a := q) (b := 1) rfl rfl (by omega)) ?_
  refine wI (d_assign rfl) ?_
  refine wF ([u1, u2, (eN kk), undef, undef, undef, (z 6), (ptr L16.bN 0), (eN 0), u23, (eN i), u49, (eN (q + 1)), u55, (eN (s2.askR (s2.readOk ((2 : Nat) : Int) ((3 : Nat) : Int) ((q : Nat) : Int)))), u49, undef, undef, (Value.bool true), (Value.bool false), u2, (eN lm.length), (Value.bool (decide (60 < lm.length))), (Value.tuple #[(ptr L16.bN 0), (eN 0)]), (Value.agg #[(eN 6), (eN 8), (eN 5)]), (Value.tuple #[(ptr L16.bN 0), (eN 0)]), (ptr L16.bN 0), (eN 0), (eN 0), (Value.bool false), (eI k), (eN ((k % ((5 : Nat) : Int)).toNat)), (eN (1 + ((k % ((5 : Nat) : Int)).toNat))), u1, u23, (eN i), (eN kk), (Value.bool (decide (i < kk)))] ++ (zs z 38 7 ++ [(ptr L16.bN 0), u2, u34, (ptr L16.bN 0), (eN ((s.stopAt 1 lm).eraseR ((2 : Nat) : Int) ((3 : Nat) : Int))), (Value.bool false), (ptr L16.bN 0), u41, (sli b42 0 1 1), u49, (eN q), (Value.bool (decide (q < 5))), (eN q), (eN (q + 1)), (Value.tuple #[u55, (eN (s2.askR (s2.readOk ((2 : Nat) : Int) ((3 : Nat) : Int) ((q : Nat) : Int))))]), (ptr L16.bN 0), (eN q), (Value.tuple #[u55, (eN (s2.askR (s2.readOk ((2 : Nat) : Int) ((3 : Nat) : Int) ((q : Nat) : Int))))]), u55, (eN (s2.askR (s2.readOk ((2 : Nat) : Int) ((3 : Nat) : Int) ((q : Nat) : Int)))), u49, (eN q), (eN kk), (Value.bool (decide (q < kk))), (z 69), (z 70), (z 71), (z 72), (eN (s2.askR (s2.readOk ((2 : Nat) : Int) ((3 : Nat) : Int) ((q : Nat) : Int)))), (Value.bool false), (Value.bool false), u55, (Value.string (strOf (s2.readL ((2 : Nat) : Int) ((3 : Nat) : Int) ((q : Nat) : Int)))), u49, (Value.string (strOf (bytesL ([255] : List UInt8) 60))), (Value.bool false), (Value.bool false)] ++ (us 22))) ?_
  refine wpL.done ?_
  refine then_n ?_
  refine ⟨_, ⟨q + 1, (s2.ask (s2.readOk ((2 : Nat) : Int) ((3 : Nat) : Int) ((q : Nat) : Int)))⟩, rfl, rfl, ⟨?_, ?_, ?_, ?_, ?_⟩, ?_⟩
  ·
   (try dsimp only)
   all_goals (omega)
  ·
   exact (ers_read hE hq5).2.2
  ·
   exact o51
  ·
   exact a45
  ·
   exact a17
  ·
   (try dsimp only)
   all_goals (omega)
 refine wpIn_exit ?_
 refine then_x (then_x (inb_e ?_))
 refine then_n ?_
 refine wpIn_seq ?_
 refine plain ?_
 refine wI (d_move rfl) ?_
 refine wI (d_move rfl) ?_
 refine wO (d_call (xl := [.tmp 82, .const (.int .i64 2), .const (.int .i64 3), .const (.int .i64 0), .tmp 83]) (al := [(ptr L16.bN 0), (eN 2), (eN 3), (eN 0), u23]) Try.func20 (by kernel_rfl) rfl rfl rfl (prog_ok L16 s2 _ a17 ((2 : Nat) : Int) ((3 : Nat) : Int) ((0 : Nat) : Int) (bytesL lb 60) u23 (lt_or1 a45.lt lt_no) (f24.less (os_of (sub2 sub1))) (by have := bytesL_len lb 60; first | omega | (simp; done) | (simp; omega)))) ?_
 rintro _ w62 ⟨rfl, a64, o63⟩
 replace a45 := a45.step o63 (a17.dis _ in1)
 replace h1 := h1.step o63 (sub2 sub1)
 replace h2 := h2.step o63 (sub2 sub1)
 replace f24 := f24.step o63 (sub2 sub1)
 replace f50 := f50.step o63 (sub2 sub1)
 replace oW := oW.tail o63 (fun k hk e => by have := g_oW_L16 k e; omega)
 replace o25 := o25.tail o63 (fun k _ e => sub1 k e)
 replace o51 := o51.tail o63 (fun k _ e => (sub2 sub1) k e)
 replace a17 := a64
 refine wF ([u1, u2, (eN kk), undef, undef, undef, (z 6), (ptr L16.bN 0), (eN 0), u23, (eN i), u49, (eN q), (z 13), (z 14), (z 15), undef, undef, (Value.bool true), (Value.bool false), u2, (eN lm.length), (Value.bool (decide (60 < lm.length))), (Value.tuple #[(ptr L16.bN 0), (eN 0)]), (Value.agg #[(eN 6), (eN 8), (eN 5)]), (Value.tuple #[(ptr L16.bN 0), (eN 0)]), (ptr L16.bN 0), (eN 0), (eN 0), (Value.bool false), (eI k), (eN ((k % ((5 : Nat) : Int)).toNat)), (eN (1 + ((k % ((5 : Nat) : Int)).toNat))), u1, u23, (eN i), (eN kk), (Value.bool (decide (i < kk)))] ++ (zs z 38 7 ++ [(ptr L16.bN 0), u2, u34, (ptr L16.bN 0), (eN ((s.stopAt 1 lm).eraseR ((2 : Nat) : Int) ((3 : Nat) : Int))), (Value.bool false), (ptr L16.bN 0), u41, (sli b42 0 1 1), u49, (eN q), (Value.bool (decide (q < 5)))] ++ (zs z 57 25 ++ [(ptr L16.bN 0), u23, (eN (s2.progR ((2 : Nat) : Int) ((3 : Nat) : Int) ((0 : Nat) : Int) (bytesL lb 60)))] ++ (us 19)))) ?_
 refine wI (d_assign rfl) ?_
 refine wF ([u1, u2, (eN kk), undef, undef, undef, (z 6), (ptr L16.bN 0), (eN 0), u23, (eN i), u49, (eN q), (z 13), (z 14), (z 15), (eN (s2.progR ((2 : Nat) : Int) ((3 : Nat) : Int) ((0 : Nat) : Int) (bytesL lb 60))), undef, (Value.bool true), (Value.bool false), u2, (eN lm.length), (Value.bool (decide (60 < lm.length))), (Value.tuple #[(ptr L16.bN 0), (eN 0)]), (Value.agg #[(eN 6), (eN 8), (eN 5)]), (Value.tuple #[(ptr L16.bN 0), (eN 0)]), (ptr L16.bN 0), (eN 0), (eN 0), (Value.bool false), (eI k), (eN ((k % ((5 : Nat) : Int)).toNat)), (eN (1 + ((k % ((5 : Nat) : Int)).toNat))), u1, u23, (eN i), (eN kk), (Value.bool (decide (i < kk)))] ++ (zs z 38 7 ++ [(ptr L16.bN 0), u2, u34, (ptr L16.bN 0), (eN ((s.stopAt 1 lm).eraseR ((2 : Nat) : Int) ((3 : Nat) : Int))), (Value.bool false), (ptr L16.bN 0), u41, (sli b42 0 1 1), u49, (eN q), (Value.bool (decide (q < 5)))] ++ (zs z 57 25 ++ [(ptr L16.bN 0), u23, (eN (s2.progR ((2 : Nat) : Int) ((3 : Nat) : Int) ((0 : Nat) : Int) (bytesL lb 60)))] ++ (us 19)))) ?_
 refine wpL.done ?_
 refine then_n ?_
 refine wpIn_seq ?_
 refine plain ?_
 refine wI (d_move rfl) ?_
 refine wO (d_call (xl := [.tmp 85, .const (.int .i64 2), .const (.int .i64 3)]) (al := [(ptr L16.bN 0), (eN 2), (eN 3)]) Try.func23 (by kernel_rfl) rfl rfl rfl (erase_ok L16 (s2.prog ((2 : Nat) : Int) ((3 : Nat) : Int) ((0 : Nat) : Int) (bytesL lb 60)) _ a17 ((2 : Nat) : Int) ((3 : Nat) : Int) (lt_or1 a45.lt lt_no))) ?_
 rintro _ w65 ⟨rfl, a67, o66⟩
 replace a45 := a45.step o66 (a17.dis _ in1)
 replace h1 := h1.step o66 (sub2 sub1)
 replace h2 := h2.step o66 (sub2 sub1)
 replace f24 := f24.step o66 (sub2 sub1)
 replace f50 := f50.step o66 (sub2 sub1)
 replace oW := oW.tail o66 (fun k hk e => by have := g_oW_L16 k e; omega)
 replace o25 := o25.tail o66 (fun k _ e => sub1 k e)
 replace o51 := o51.tail o66 (fun k _ e => (sub2 sub1) k e)
 replace a17 := a67
 refine wI (d_assign rfl) ?_
 refine wF ([u1, u2, (eN kk), undef, undef, undef, (z 6), (ptr L16.bN 0), (eN 0), u23, (eN i), u49, (eN q), (z 13), (z 14), (z 15), (eN (s2.progR ((2 : Nat) : Int) ((3 : Nat) : Int) ((0 : Nat) : Int) (bytesL lb 60))), (eN ((s2.prog ((2 : Nat) : Int) ((3 : Nat) : Int) ((0 : Nat) : Int) (bytesL lb 60)).eraseR ((2 : Nat) : Int) ((3 : Nat) : Int))), (Value.bool true), (Value.bool false), u2, (eN lm.length), (Value.bool (decide (60 < lm.length))), (Value.tuple #[(ptr L16.bN 0), (eN 0)]), (Value.agg #[(eN 6), (eN 8), (eN 5)]), (Value.tuple #[(ptr L16.bN 0), (eN 0)]), (ptr L16.bN 0), (eN 0), (eN 0), (Value.bool false), (eI k), (eN ((k % ((5 : Nat) : Int)).toNat)), (eN (1 + ((k % ((5 : Nat) : Int)).toNat))), u1, u23, (eN i), (eN kk), (Value.bool (decide (i < kk)))] ++ (zs z 38 7 ++ [(ptr L16.bN 0), u2, u34, (ptr L16.bN 0), (eN ((s.stopAt 1 lm).eraseR ((2 : Nat) : Int) ((3 : Nat) : Int))), (Value.bool false), (ptr L16.bN 0), u41, (sli b42 0 1 1), u49, (eN q), (Value.bool (decide (q < 5)))] ++ (zs z 57 25 ++ [(ptr L16.bN 0), u23, (eN (s2.progR ((2 : Nat) : Int) ((3 : Nat) : Int) ((0 : Nat) : Int) (bytesL lb 60))), (ptr L16.bN 0), (eN ((s2.prog ((2 : Nat) : Int) ((3 : Nat) : Int) ((0 : Nat) : Int) (bytesL lb 60)).eraseR ((2 : Nat) : Int) ((3 : Nat) : Int)))] ++ (us 17)))) ?_
 refine wpL.done ?_
 refine then_n ?_
 refine wpIn_seq ?_
 refine plain ?_
 refine wI (d_move rfl) ?_
 refine wI (n_eql (a := (s2.progR ((2 : Nat) : Int) ((3 : Nat) : Int) ((0 : Nat) : Int) (bytesL lb 60))) (b := 1) rfl rfl (decide_eq_true ((ers_end hE hkk.1 (bytesL_len lb 60)).1))) ?_
 refine wI (d_move rfl) ?_
 refine wF ([u1, u2, (eN kk), undef, undef, undef, (z 6), (ptr L16.bN 0), (eN 0), u23, (eN i), u49, (eN q), (z 13), (z 14), (z 15), (eN (s2.progR ((2 : Nat) : Int) ((3 : Nat) : Int) ((0 : Nat) : Int) (bytesL lb 60))), (eN ((s2.prog ((2 : Nat) : Int) ((3 : Nat) : Int) ((0 : Nat) : Int) (bytesL lb 60)).eraseR ((2 : Nat) : Int) ((3 : Nat) : Int))), (Value.bool true), (Value.bool false), u2, (eN lm.length), (Value.bool (decide (60 < lm.length))), (Value.tuple #[(ptr L16.bN 0), (eN 0)]), (Value.agg #[(eN 6), (eN 8), (eN 5)]), (Value.tuple #[(ptr L16.bN 0), (eN 0)]), (ptr L16.bN 0), (eN 0), (eN 0), (Value.bool false), (eI k), (eN ((k % ((5 : Nat) : Int)).toNat)), (eN (1 + ((k % ((5 : Nat) : Int)).toNat))), u1, u23, (eN i), (eN kk), (Value.bool (decide (i < kk)))] ++ (zs z 38 7 ++ [(ptr L16.bN 0), u2, u34, (ptr L16.bN 0), (eN ((s.stopAt 1 lm).eraseR ((2 : Nat) : Int) ((3 : Nat) : Int))), (Value.bool false), (ptr L16.bN 0), u41, (sli b42 0 1 1), u49, (eN q), (Value.bool (decide (q < 5)))] ++ (zs z 57 25 ++ [(ptr L16.bN 0), u23, (eN (s2.progR ((2 : Nat) : Int) ((3 : Nat) : Int) ((0 : Nat) : Int) (bytesL lb 60))), (ptr L16.bN 0), (eN ((s2.prog ((2 : Nat) : Int) ((3 : Nat) : Int) ((0 : Nat) : Int) (bytesL lb 60)).eraseR ((2 : Nat) : Int) ((3 : Nat) : Int))), (eN (s2.progR ((2 : Nat) : Int) ((3 : Nat) : Int) ((0 : Nat) : Int) (bytesL lb 60))), (Value.bool true), (Value.bool true)] ++ (us 14)))) ?_
 refine wpL.onis rfl rfl rfl (nb rfl) rfl (d_move rfl) ?_
 refine wpL.onis rfl rfl rfl (nb rfl) rfl (n_eql (a := ((s2.prog ((2 : Nat) : Int) ((3 : Nat) : Int) ((0 : Nat) : Int) (bytesL lb 60)).eraseR ((2 : Nat) : Int) ((3 : Nat) : Int))) (b := 0) rfl rfl (decide_eq_true ((ers_end hE hkk.1 (bytesL_len lb 60)).2.1))) ?_
 refine wI (d_pick (b := true) (v := (Value.bool true)) rfl rfl) ?_
 refine wF ([u1, u2, (eN kk), undef, undef, undef, (z 6), (ptr L16.bN 0), (eN 0), u23, (eN i), u49, (eN q), (z 13), (z 14), (z 15), (eN (s2.progR ((2 : Nat) : Int) ((3 : Nat) : Int) ((0 : Nat) : Int) (bytesL lb 60))), (eN ((s2.prog ((2 : Nat) : Int) ((3 : Nat) : Int) ((0 : Nat) : Int) (bytesL lb 60)).eraseR ((2 : Nat) : Int) ((3 : Nat) : Int))), (Value.bool true), (Value.bool false), u2, (eN lm.length), (Value.bool (decide (60 < lm.length))), (Value.tuple #[(ptr L16.bN 0), (eN 0)]), (Value.agg #[(eN 6), (eN 8), (eN 5)]), (Value.tuple #[(ptr L16.bN 0), (eN 0)]), (ptr L16.bN 0), (eN 0), (eN 0), (Value.bool false), (eI k), (eN ((k % ((5 : Nat) : Int)).toNat)), (eN (1 + ((k % ((5 : Nat) : Int)).toNat))), u1, u23, (eN i), (eN kk), (Value.bool (decide (i < kk)))] ++ (zs z 38 7 ++ [(ptr L16.bN 0), u2, u34, (ptr L16.bN 0), (eN ((s.stopAt 1 lm).eraseR ((2 : Nat) : Int) ((3 : Nat) : Int))), (Value.bool false), (ptr L16.bN 0), u41, (sli b42 0 1 1), u49, (eN q), (Value.bool (decide (q < 5)))] ++ (zs z 57 25 ++ [(ptr L16.bN 0), u23, (eN (s2.progR ((2 : Nat) : Int) ((3 : Nat) : Int) ((0 : Nat) : Int) (bytesL lb 60))), (ptr L16.bN 0), (eN ((s2.prog ((2 : Nat) : Int) ((3 : Nat) : Int) ((0 : Nat) : Int) (bytesL lb 60)).eraseR ((2 : Nat) : Int) ((3 : Nat) : Int))), (eN (s2.progR ((2 : Nat) : Int) ((3 : Nat) : Int) ((0 : Nat) : Int) (bytesL lb 60))), (Value.bool true), (Value.bool true), (eN ((s2.prog ((2 : Nat) : Int) ((3 : Nat) : Int) ((0 : Nat) : Int) (bytesL lb 60)).eraseR ((2 : Nat) : Int) ((3 : Nat) : Int))), (Value.bool true), (Value.bool true)] ++ (us 11)))) ?_
 refine wI (d_move rfl) ?_
 refine wpL.onis rfl rfl rfl (nb rfl) rfl (d_move rfl) ?_
 refine wpL.on rfl rfl rfl (nb rfl) rfl (d_call (xl := [.tmp 94, .const (.int .i64 2), .const (.int .i64 3)]) (al := [(ptr L16.bN 0), (eN 2), (eN 3)]) Try.func28 (by kernel_rfl) rfl rfl rfl (nandErases_ok L16 ((s2.prog ((2 : Nat) : Int) ((3 : Nat) : Int) ((0 : Nat) : Int) (bytesL lb 60)).erase ((2 : Nat) : Int) ((3 : Nat) : Int)) _ a17 2 3)) ?_
 rintro _ w68 ⟨rfl, o69⟩
 replace h1 := h1.step0 o69
 replace h2 := h2.step0 o69
 replace a17 := a17.step0 o69
 replace f24 := f24.step0 o69
 replace f50 := f50.step0 o69
 replace a45 := a45.step0 o69
 replace oW := oW.tail0 o69
 replace o25 := o25.tail0 o69
 replace o51 := o51.tail0 o69
 refine wF ([u1, u2, (eN kk), undef, undef, undef, (z 6), (ptr L16.bN 0), (eN 0), u23, (eN i), u49, (eN q), (z 13), (z 14), (z 15), (eN (s2.progR ((2 : Nat) : Int) ((3 : Nat) : Int) ((0 : Nat) : Int) (bytesL lb 60))), (eN ((s2.prog ((2 : Nat) : Int) ((3 : Nat) : Int) ((0 : Nat) : Int) (bytesL lb 60)).eraseR ((2 : Nat) : Int) ((3 : Nat) : Int))), (Value.bool true), (Value.bool false), u2, (eN lm.length), (Value.bool (decide (60 < lm.length))), (Value.tuple #[(ptr L16.bN 0), (eN 0)]), (Value.agg #[(eN 6), (eN 8), (eN 5)]), (Value.tuple #[(ptr L16.bN 0), (eN 0)]), (ptr L16.bN 0), (eN 0), (eN 0), (Value.bool false), (eI k), (eN ((k % ((5 : Nat) : Int)).toNat)), (eN (1 + ((k % ((5 : Nat) : Int)).toNat))), u1, u23, (eN i), (eN kk), (Value.bool (decide (i < kk)))] ++ (zs z 38 7 ++ [(ptr L16.bN 0), u2, u34, (ptr L16.bN 0), (eN ((s.stopAt 1 lm).eraseR ((2 : Nat) : Int) ((3 : Nat) : Int))), (Value.bool false), (ptr L16.bN 0), u41, (sli b42 0 1 1), u49, (eN q), (Value.bool (decide (q < 5)))] ++ (zs z 57 25 ++ [(ptr L16.bN 0), u23, (eN (s2.progR ((2 : Nat) : Int) ((3 : Nat) : Int) ((0 : Nat) : Int) (bytesL lb 60))), (ptr L16.bN 0), (eN ((s2.prog ((2 : Nat) : Int) ((3 : Nat) : Int) ((0 : Nat) : Int) (bytesL lb 60)).eraseR ((2 : Nat) : Int) ((3 : Nat) : Int))), (eN (s2.progR ((2 : Nat) : Int) ((3 : Nat) : Int) ((0 : Nat) : Int) (bytesL lb 60))), (Value.bool true), (Value.bool true), (eN ((s2.prog ((2 : Nat) : Int) ((3 : Nat) : Int) ((0 : Nat) : Int) (bytesL lb 60)).eraseR ((2 : Nat) : Int) ((3 : Nat) : Int))), (Value.bool true), (Value.bool true), (Value.bool true), (ptr L16.bN 0), (eI (((s2.prog ((2 : Nat) : Int) ((3 : Nat) : Int) ((0 : Nat) : Int) (bytesL lb 60)).erase ((2 : Nat) : Int) ((3 : Nat) : Int)).erases 2 3))] ++ (us 8)))) ?_
 refine wpL.onis rfl rfl rfl (nb rfl) rfl (d_eql (k := .i64) (m := ((s2.prog ((2 : Nat) : Int) ((3 : Nat) : Int) ((0 : Nat) : Int) (bytesL lb 60)).erase ((2 : Nat) : Int) ((3 : Nat) : Int)).erases 2 3) (n := 2) rfl rfl (decide_eq_true ((ers_end hE hkk.1 (bytesL_len lb 60)).2.2.1))) ?_
 refine wI (d_pick (b := true) (v := (Value.bool true)) rfl rfl) ?_
 refine wI (d_move rfl) ?_
 refine wF ([u1, u2, (eN kk), undef, undef, undef, (z 6), (ptr L16.bN 0), (eN 0), u23, (eN i), u49, (eN q), (z 13), (z 14), (z 15), (eN (s2.progR ((2 : Nat) : Int) ((3 : Nat) : Int) ((0 : Nat) : Int) (bytesL lb 60))), (eN ((s2.prog ((2 : Nat) : Int) ((3 : Nat) : Int) ((0 : Nat) : Int) (bytesL lb 60)).eraseR ((2 : Nat) : Int) ((3 : Nat) : Int))), (Value.bool true), (Value.bool false), u2, (eN lm.length), (Value.bool (decide (60 < lm.length))), (Value.tuple #[(ptr L16.bN 0), (eN 0)]), (Value.agg #[(eN 6), (eN 8), (eN 5)]), (Value.tuple #[(ptr L16.bN 0), (eN 0)]), (ptr L16.bN 0), (eN 0), (eN 0), (Value.bool false), (eI k), (eN ((k % ((5 : Nat) : Int)).toNat)), (eN (1 + ((k % ((5 : Nat) : Int)).toNat))), u1, u23, (eN i), (eN kk), (Value.bool (decide (i < kk)))] ++ (zs z 38 7 ++ [(ptr L16.bN 0), u2, u34, (ptr L16.bN 0), (eN ((s.stopAt 1 lm).eraseR ((2 : Nat) : Int) ((3 : Nat) : Int))), (Value.bool false), (ptr L16.bN 0), u41, (sli b42 0 1 1), u49, (eN q), (Value.bool (decide (q < 5)))] ++ (zs z 57 25 ++ [(ptr L16.bN 0), u23, (eN (s2.progR ((2 : Nat) : Int) ((3 : Nat) : Int) ((0 : Nat) : Int) (bytesL lb 60))), (ptr L16.bN 0), (eN ((s2.prog ((2 : Nat) : Int) ((3 : Nat) : Int) ((0 : Nat) : Int) (bytesL lb 60)).eraseR ((2 : Nat) : Int) ((3 : Nat) : Int))), (eN (s2.progR ((2 : Nat) : Int) ((3 : Nat) : Int) ((0 : Nat) : Int) (bytesL lb 60))), (Value.bool true), (Value.bool true), (eN ((s2.prog ((2 : Nat) : Int) ((3 : Nat) : Int) ((0 : Nat) : Int) (bytesL lb 60)).eraseR ((2 : Nat) : Int) ((3 : Nat) : Int))), (Value.bool true), (Value.bool true), (Value.bool true), (ptr L16.bN 0), (eI (((s2.prog ((2 : Nat) : Int) ((3 : Nat) : Int) ((0 : Nat) : Int) (bytesL lb 60)).erase ((2 : Nat) : Int) ((3 : Nat) : Int)).erases 2 3)), (Value.bool true), (Value.bool true), (Value.bool true)] ++ (us 5)))) ?_
 refine wpL.onis rfl rfl rfl (nb rfl) rfl (d_move rfl) ?_
 refine wpL.onis rfl rfl rfl (nb rfl) rfl (d_move rfl) ?_
 refine wpL.on rfl rfl rfl (nb rfl) rfl (d_call (xl := [.tmp 99, .const (.int .i64 2), .const (.int .i64 3), .const (.int .i64 0), .tmp 100]) (al := [(ptr L16.bN 0), (eN 2), (eN 3), (eN 0), u23]) Try.func20 (by kernel_rfl) rfl rfl rfl (prog_ok L16 ((s2.prog ((2 : Nat) : Int) ((3 : Nat) : Int) ((0 : Nat) : Int) (bytesL lb 60)).erase ((2 : Nat) : Int) ((3 : Nat) : Int)) _ a17 ((2 : Nat) : Int) ((3 : Nat) : Int) ((0 : Nat) : Int) (bytesL lb 60) u23 (lt_or1 a45.lt lt_no) (f24.less (os_of (sub2 sub1))) (by have := bytesL_len lb 60; first | omega | (simp; done) | (simp; omega)))) ?_
 rintro _ w70 ⟨rfl, a72, o71⟩
 replace a45 := a45.step o71 (a17.dis _ in1)
 replace h1 := h1.step o71 (sub2 sub1)
 replace h2 := h2.step o71 (sub2 sub1)
 replace f24 := f24.step o71 (sub2 sub1)
 replace f50 := f50.step o71 (sub2 sub1)
 replace oW := oW.tail o71 (fun k hk e => by have := g_oW_L16 k e; omega)
 replace o25 := o25.tail o71 (fun k _ e => sub1 k e)
 replace o51 := o51.tail o71 (fun k _ e => (sub2 sub1) k e)
 replace a17 := a72
 refine wF ([u1, u2, (eN kk), undef, undef, undef, (z 6), (ptr L16.bN 0), (eN 0), u23, (eN i), u49, (eN q), (z 13), (z 14), (z 15), (eN (s2.progR ((2 : Nat) : Int) ((3 : Nat) : Int) ((0 : Nat) : Int) (bytesL lb 60))), (eN ((s2.prog ((2 : Nat) : Int) ((3 : Nat) : Int) ((0 : Nat) : Int) (bytesL lb 60)).eraseR ((2 : Nat) : Int) ((3 : Nat) : Int))), (Value.bool true), (Value.bool false), u2, (eN lm.length), (Value.bool (decide (60 < lm.length))), (Value.tuple #[(ptr L16.bN 0), (eN 0)]), (Value.agg #[(eN 6), (eN 8), (eN 5)]), (Value.tuple #[(ptr L16.bN 0), (eN 0)]), (ptr L16.bN 0), (eN 0), (eN 0), (Value.bool false), (eI k), (eN ((k % ((5 : Nat) : Int)).toNat)), (eN (1 + ((k % ((5 : Nat) : Int)).toNat))), u1, u23, (eN i), (eN kk), (Value.bool (decide (i < kk)))] ++ (zs z 38 7 ++ [(ptr L16.bN 0), u2, u34, (ptr L16.bN 0), (eN ((s.stopAt 1 lm).eraseR ((2 : Nat) : Int) ((3 : Nat) : Int))), (Value.bool false), (ptr L16.bN 0), u41, (sli b42 0 1 1), u49, (eN q), (Value.bool (decide (q < 5)))] ++ (zs z 57 25 ++ [(ptr L16.bN 0), u23, (eN (s2.progR ((2 : Nat) : Int) ((3 : Nat) : Int) ((0 : Nat) : Int) (bytesL lb 60))), (ptr L16.bN 0), (eN ((s2.prog ((2 : Nat) : Int) ((3 : Nat) : Int) ((0 : Nat) : Int) (bytesL lb 60)).eraseR ((2 : Nat) : Int) ((3 : Nat) : Int))), (eN (s2.progR ((2 : Nat) : Int) ((3 : Nat) : Int) ((0 : Nat) : Int) (bytesL lb 60))), (Value.bool true), (Value.bool true), (eN ((s2.prog ((2 : Nat) : Int) ((3 : Nat) : Int) ((0 : Nat) : Int) (bytesL lb 60)).eraseR ((2 : Nat) : Int) ((3 : Nat) : Int))), (Value.bool true), (Value.bool true), (Value.bool true), (ptr L16.bN 0), (eI (((s2.prog ((2 : Nat) : Int) ((3 : Nat) : Int) ((0 : Nat) : Int) (bytesL lb 60)).erase ((2 : Nat) : Int) ((3 : Nat) : Int)).erases 2 3)), (Value.bool true), (Value.bool true), (Value.bool true), (ptr L16.bN 0), u23, (eN (((s2.prog ((2 : Nat) : Int) ((3 : Nat) : Int) ((0 : Nat) : Int) (bytesL lb 60)).erase ((2 : Nat) : Int) ((3 : Nat) : Int)).progR ((2 : Nat) : Int) ((3 : Nat) : Int) ((0 : Nat) : Int) (bytesL lb 60))), undef, undef]))) ?_
 refine wpL.onis rfl rfl rfl (nb rfl) rfl (n_eql (a := (((s2.prog ((2 : Nat) : Int) ((3 : Nat) : Int) ((0 : Nat) : Int) (bytesL lb 60)).erase ((2 : Nat) : Int) ((3 : Nat) : Int)).progR ((2 : Nat) : Int) ((3 : Nat) : Int) ((0 : Nat) : Int) (bytesL lb 60))) (b := 0) rfl rfl (decide_eq_true ((ers_end hE hkk.1 (bytesL_len lb 60)).2.2.2))) ?_
 refine wI (d_pick (b := true) (v := (Value.bool true)) rfl rfl) ?_
 refine wI (d_assign rfl) ?_
 refine wF ([u1, u2, (eN kk), undef, undef, undef, (Value.bool true), (ptr L16.bN 0), (eN 0), u23, (eN i), u49, (eN q), (z 13), (z 14), (z 15), (eN (s2.progR ((2 : Nat) : Int) ((3 : Nat) : Int) ((0 : Nat) : Int) (bytesL lb 60))), (eN ((s2.prog ((2 : Nat) : Int) ((3 : Nat) : Int) ((0 : Nat) : Int) (bytesL lb 60)).eraseR ((2 : Nat) : Int) ((3 : Nat) : Int))), (Value.bool true), (Value.bool false), u2, (eN lm.length), (Value.bool (decide (60 < lm.length))), (Value.tuple #[(ptr L16.bN 0), (eN 0)]), (Value.agg #[(eN 6), (eN 8), (eN 5)]), (Value.tuple #[(ptr L16.bN 0), (eN 0)]), (ptr L16.bN 0), (eN 0), (eN 0), (Value.bool false), (eI k), (eN ((k % ((5 : Nat) : Int)).toNat)), (eN (1 + ((k % ((5 : Nat) : Int)).toNat))), u1, u23, (eN i), (eN kk), (Value.bool (decide (i < kk)))] ++ (zs z 38 7 ++ [(ptr L16.bN 0), u2, u34, (ptr L16.bN 0), (eN ((s.stopAt 1 lm).eraseR ((2 : Nat) : Int) ((3 : Nat) : Int))), (Value.bool false), (ptr L16.bN 0), u41, (sli b42 0 1 1), u49, (eN q), (Value.bool (decide (q < 5)))] ++ (zs z 57 25 ++ [(ptr L16.bN 0), u23, (eN (s2.progR ((2 : Nat) : Int) ((3 : Nat) : Int) ((0 : Nat) : Int) (bytesL lb 60))), (ptr L16.bN 0), (eN ((s2.prog ((2 : Nat) : Int) ((3 : Nat) : Int) ((0 : Nat) : Int) (bytesL lb 60)).eraseR ((2 : Nat) : Int) ((3 : Nat) : Int))), (eN (s2.progR ((2 : Nat) : Int) ((3 : Nat) : Int) ((0 : Nat) : Int) (bytesL lb 60))), (Value.bool true), (Value.bool true), (eN ((s2.prog ((2 : Nat) : Int) ((3 : Nat) : Int) ((0 : Nat) : Int) (bytesL lb 60)).eraseR ((2 : Nat) : Int) ((3 : Nat) : Int))), (Value.bool true), (Value.bool true), (Value.bool true), (ptr L16.bN 0), (eI (((s2.prog ((2 : Nat) : Int) ((3 : Nat) : Int) ((0 : Nat) : Int) (bytesL lb 60)).erase ((2 : Nat) : Int) ((3 : Nat) : Int)).erases 2 3)), (Value.bool true), (Value.bool true), (Value.bool true), (ptr L16.bN 0), u23, (eN (((s2.prog ((2 : Nat) : Int) ((3 : Nat) : Int) ((0 : Nat) : Int) (bytesL lb 60)).erase ((2 : Nat) : Int) ((3 : Nat) : Int)).progR ((2 : Nat) : Int) ((3 : Nat) : Int) ((0 : Nat) : Int) (bytesL lb 60))), (Value.bool true), (Value.bool true)]))) ?_
 refine wpL.done ?_
 refine then_n ?_
 refine wpIn_ret ?_
 refine leave0 (v := (Value.bool true)) (res1 Try.results9 rfl) ?_
 exact ⟨rfl, oW⟩

end Go.Proofs.YtpamdlnobekihaaF
