/- Part of the proof of the law RowioBack, for all its inputs. -/
import Derived.Test.YtgalehapmdabeaaKRowioBack5
set_option linter.unusedVariables false
set_option linter.unusedSimpArgs false
set_option maxRecDepth 20000
set_option maxHeartbeats 4000000
namespace Go.Proofs.YtgalehapmdabeaaF
open Go Shelf YtgalehapmdabeaaS Ram
theorem rowioBack_law (lb : List UInt8) (ln : List Int) (heavy_ rows_ : Int) (u1 u2 : Value) (W : World) (h1 : Ps No (Seq kB lb u1) W) (h2 : Ps No (Seq kI ln u2) W) (g1 : lb.length ≤ 140737488351232) (g2 : ln.length ≤ 17592186043904) :
    CW Try.prog 11 #[u1, u2, (eI heavy_), (eI rows_)] W (Rt (RIs (.bool true) W)) := by
 have oW : Only No W W := Only.refl _ _
 refine enter (al := [u1, u2, (eI heavy_), (eI rows_)]) (k := 132) (l := ([u1, u2, (eI heavy_), (eI rows_)] ++ (us 132))) Try.func11 rfl Try.ntmps11 rfl rfl ?_
 refine wQ (pL ?_)
 refine wI (d_assign rfl) ?_
 refine wD (tN (wQ (wQ (pL ?_))))
 refine wO (d_call (xl := []) (al := []) Try.func27 kr rfl rfl rfl (law12Known_ok _)) ?_
 rintro _ w11 ⟨rfl, o12⟩
 replace h1 := h1.step0 o12
 replace h2 := h2.step0 o12
 replace oW := oW.tail0 o12
 refine wI (d_not rfl rfl) ?_
 refine wD (tN ?_)
 refine cond_f rfl ?_
 refine wK (tN (wQ (pL ?_)))
 refine wI (d_buildS (pl := [(0, 1), (1, 1), (2, 1)]) (zs := [(eN 0), (eN 0), (eN 0)]) (cs := [(eN 6), (eN 8), (eN 4)]) Try.underlying49 s_ti49 ⟨_, _, _, _, rfl, s_ti3, ⟨_, _, _, _, rfl, s_ti3, ⟨_, _, _, _, rfl, s_ti3, rfl⟩⟩⟩ rfl (parts_cons (vs := [(eN 6)]) (cells_of (v := (eN 6)) rfl rfl) (parts_cons (vs := [(eN 8)]) (cells_of (v := (eN 8)) rfl rfl) (parts_cons (vs := [(eN 4)]) (cells_of (v := (eN 4)) rfl rfl) parts_nil))) rfl) ?_
 refine wO (d_call (xl := [.tmp 23, .const (.slice none 0 0)]) (al := [(Value.agg #[(eN 6), (eN 8), (eN 4)]), (Value.slice none 0 0)]) Try.func28 kr rfl rfl rfl (new0_ok 6 8 4 _ oo oo oo)) ?_
 rintro _ w13 ⟨L15, rfl, ⟨a16, g17⟩, o14⟩
 have g_oW_L15 : ∀ k, L15.S k → W.heap.size ≤ k := fun k hk => Nat.le_trans oW.size (g17 k hk)
 replace a16 := a16.less (Y := No) no_old
 replace h1 := h1.re (X' := Ors L15.S No) o14 (fun _ t => t.elim) (xx_news g17 xx_id)
 replace h2 := h2.re (X' := Ors L15.S No) o14 (fun _ t => t.elim) (xx_news g17 xx_id)
 replace oW := oW.tail0 o14
 refine wF ([u1, u2, (eI heavy_), (eI rows_), undef, undef, undef, undef, vF] ++ (us 11 ++ [vT, vF, undef, (Value.agg #[(eN 6), (eN 8), (eN 4)]), (Value.tuple #[(ptr L15.bN 0), (eN 0)])] ++ (us 111))) ?_
 refine wI (d_move rfl) ?_
 refine wI (d_extract (v := (ptr L15.bN 0)) rfl rfl) ?_
 refine wI (d_extract (v := (eN 0)) rfl rfl) ?_
 refine wI (d_assign rfl) ?_
 refine wI (d_assign rfl) ?_
 refine wF ([u1, u2, (eI heavy_), (eI rows_), undef, undef, undef, undef, vF, (ptr L15.bN 0), (eN 0)] ++ (us 9 ++ [vT, vF, (Value.tuple #[(ptr L15.bN 0), (eN 0)]), (Value.agg #[(eN 6), (eN 8), (eN 4)]), (Value.tuple #[(ptr L15.bN 0), (eN 0)]), (ptr L15.bN 0), (eN 0)] ++ (us 109))) ?_
 refine wD (tN ?_)
 refine forget (fun zf18 => ([u1, u2, (eI heavy_), (eI rows_)] ++ (zs zf18 4 5 ++ [(ptr L15.bN 0), (eN 0), (zf18 11), (zf18 12), undef, (zf18 14), undef, undef, (zf18 17), (zf18 18), undef] ++ (zs zf18 20 35 ++ (us 12 ++ (zs zf18 67 20 ++ (us 40 ++ (zs zf18 127 9)))))))) kr (fun zf18 => ?_)
 refine wQ (wQ (pL ?_))
 refine wI (d_move rfl) ?_
 refine wI (n_neq (a := 0) (b := 0) rfl rfl (by rw [decide_eq_true rfl] <;> rfl)) ?_
 refine wD (tN ?_)
 refine cond_f rfl ?_
 refine wK (tN (wQ (pL ?_)))
 refine wO (d_buildL (cs := [(eN 1), (eN 2), (eN 3), (eN 4), (eN 5), (eN 6)]) Try.underlying23 s_ti3 rfl (nb rfl) (parts_cons (vs := [(eN 1)]) (cells_of (v := (eN 1)) rfl rfl) (parts_cons (vs := [(eN 2)]) (cells_of (v := (eN 2)) rfl rfl) (parts_cons (vs := [(eN 3)]) (cells_of (v := (eN 3)) rfl rfl) (parts_cons (vs := [(eN 4)]) (cells_of (v := (eN 4)) rfl rfl) (parts_cons (vs := [(eN 5)]) (cells_of (v := (eN 5)) rfl rfl) (parts_cons (vs := [(eN 6)]) (cells_of (v := (eN 6)) rfl rfl) parts_nil)))))) rfl) ?_
 rintro _ w19 ⟨sb, rfl, g20, a21, o22⟩
 replace a21 : Arr 3 sb (([1, 2, 3, 4, 5, 6] : List Int).map eI) w19 := a21
 have l_sb : ([1, 2, 3, 4, 5, 6] : List Int).length = 6 := rfl
 have g_oW_sb : W.heap.size ≤ sb := Nat.le_trans oW.size g20
 replace h1 := h1.new o22 g20
 replace h2 := h2.new o22 g20
 replace a16 := a16.new o22 g20
 replace oW := oW.tail0 o22
 refine wI (d_assign rfl) ?_
 refine wD (tN (wQ (pL ?_)))
 refine wI (d_move rfl) ?_
 refine wF ([u1, u2, (eI heavy_), (eI rows_)] ++ (zs zf18 4 5 ++ [(ptr L15.bN 0), (eN 0), (sli sb 0 6 6), (zf18 12), undef, (zf18 14), undef, undef, (zf18 17), (zf18 18), undef] ++ (zs zf18 20 7 ++ [(eN 0), vF, (sli sb 0 6 6), (eI rows_)] ++ (zs zf18 31 24 ++ (us 12 ++ (zs zf18 67 20 ++ (us 40 ++ (zs zf18 127 9)))))))) ?_
 refine wO (d_call (xl := [.tmp 30, .const (.int .i64 4)]) (al := [(eI rows_), (eN 4)]) Try.func29 kr rfl rfl rfl (law12Within_ok rows_ 4 _ oo oo)) ?_
 rintro _ w23 ⟨rfl, o24⟩
 replace h1 := h1.step0 o24
 replace h2 := h2.step0 o24
 replace a16 := a16.step0 o24
 replace a21 := a21.step0 o24
 replace oW := oW.tail0 o24
 refine wI (n_add (a := 1) (b := ((rows_ % ((4 : Nat) : Int)).toNat)) rfl rfl oo) ?_
 refine wI (d_assign rfl) ?_
 refine wD (tN (wQ ?_))
 obtain ⟨rr, hrr, err⟩ : ∃ rr, rr < 4 ∧ 1 + ((rows_ % ((4 : Nat) : Int)).toNat) = rr + 1 := ⟨(rows_ % ((4 : Nat) : Int)).toNat, by omega, by omega⟩
 refine wp_eq (l' := ([u1, u2, (eI heavy_), (eN (1 + ((rows_ % ((4 : Nat) : Int)).toNat)))] ++ (zs zf18 4 5 ++ [(ptr L15.bN 0), (eN 0), (sli sb 0 6 6), (zf18 12), undef, (zf18 14), undef, undef, (zf18 17), (zf18 18), undef] ++ (zs zf18 20 7 ++ [(eN 0), vF, (sli sb 0 6 6), (eI rows_), (eN ((rows_ % ((4 : Nat) : Int)).toNat)), (eN (1 + ((rows_ % ((4 : Nat) : Int)).toNat)))] ++ (zs zf18 33 22 ++ (us 12 ++ (zs zf18 67 20 ++ (us 40 ++ (zs zf18 127 9))))))))) rfl ?_
 refine wp_eq (l' := ([u1, u2, (eI heavy_), (eN (rr + 1))] ++ (zs zf18 4 5 ++ [(ptr L15.bN 0), (eN 0), (sli sb 0 6 6), (zf18 12), undef, (zf18 14), undef, undef, (zf18 17), (zf18 18), undef] ++ (zs zf18 20 7 ++ [(eN 0), vF, (sli sb 0 6 6), (eI rows_), (eN ((rows_ % ((4 : Nat) : Int)).toNat)), (eN (1 + ((rows_ % ((4 : Nat) : Int)).toNat)))] ++ (zs zf18 33 22 ++ (us 12 ++ (zs zf18 67 20 ++ (us 40 ++ (zs zf18 127 9))))))))) (show (([u1, u2, (eI heavy_), (eN (1 + ((rows_ % ((4 : Nat) : Int)).toNat)))] ++ (zs zf18 4 5 ++ [(ptr L15.bN 0), (eN 0), (sli sb 0 6 6), (zf18 12), undef, (zf18 14), undef, undef, (zf18 17), (zf18 18), undef] ++ (zs zf18 20 7 ++ [(eN 0), vF, (sli sb 0 6 6), (eI rows_), (eN ((rows_ % ((4 : Nat) : Int)).toNat)), (eN (1 + ((rows_ % ((4 : Nat) : Int)).toNat)))] ++ (zs zf18 33 22 ++ (us 12 ++ (zs zf18 67 20 ++ (us 40 ++ (zs zf18 127 9)))))))) : List Value) = ([u1, u2, (eI heavy_), (eN (rr + 1))] ++ (zs zf18 4 5 ++ [(ptr L15.bN 0), (eN 0), (sli sb 0 6 6), (zf18 12), undef, (zf18 14), undef, undef, (zf18 17), (zf18 18), undef] ++ (zs zf18 20 7 ++ [(eN 0), vF, (sli sb 0 6 6), (eI rows_), (eN ((rows_ % ((4 : Nat) : Int)).toNat)), (eN (1 + ((rows_ % ((4 : Nat) : Int)).toNat)))] ++ (zs zf18 33 22 ++ (us 12 ++ (zs zf18 67 20 ++ (us 40 ++ (zs zf18 127 9)))))))) from reslot ([u1, u2, (eI heavy_), (eN (1 + ((rows_ % ((4 : Nat) : Int)).toNat)))] ++ (zs zf18 4 5 ++ [(ptr L15.bN 0), (eN 0), (sli sb 0 6 6), (zf18 12), undef, (zf18 14), undef, undef, (zf18 17), (zf18 18), undef] ++ (zs zf18 20 7 ++ [(eN 0), vF, (sli sb 0 6 6), (eI rows_), (eN ((rows_ % ((4 : Nat) : Int)).toNat)), (eN (1 + ((rows_ % ((4 : Nat) : Int)).toNat)))] ++ (zs zf18 33 22 ++ (us 12 ++ (zs zf18 67 20 ++ (us 40 ++ (zs zf18 127 9)))))))) 3 (congrArg eN err)) ?_
 refine pL ?_
 refine wI (d_move rfl) ?_
 refine wO (d_call (xl := [.tmp 33, .const (.int .i64 6)]) (al := [u1, (eN 6)]) Try.func31 kr rfl rfl rfl (payloads_ok lb 6 u1 _ (Ps.no h1) oo)) ?_
 rintro u27 w25 ⟨vs28, l29, f30, f31, o26⟩
 replace f30 := f30.less (Y := (Or1 sb (Ors L15.S (Old W.heap.size)))) (or1_old a21.lt (ors_old a16.lt (old_old oW.size)))
 replace f31 := f31.less (Y := (Or1 sb (Ors L15.S (Old W.heap.size)))) (or1_old a21.lt (ors_old a16.lt (old_old oW.size)))
 replace h1 := h1.step0 o26
 replace h2 := h2.step0 o26
 replace a16 := a16.step0 o26
 replace a21 := a21.step0 o26
 replace oW := oW.tail0 o26
 refine wI (d_assign rfl) ?_
 refine wD (tN ?_)
 refine forget (fun zf32 => ([(zf32 0), u2, (eI heavy_), (eN (rr + 1))] ++ (zs zf32 4 5 ++ [(ptr L15.bN 0), (zf32 10), (sli sb 0 6 6), u27, undef, (zf32 14), undef, undef, (zf32 17), (zf32 18), undef] ++ (zs zf32 20 35 ++ (us 12 ++ (zs zf32 67 20 ++ (us 40 ++ (zs zf32 127 9)))))))) kr (fun zf32 => ?_)
 refine wQ (wQ (pL ?_))
 refine wI (d_assign rfl) ?_
 refine wD (tN (wB ?_))
 refine loop2 (fun (s_ : (Nat) × (NS)) => match s_ with | ⟨k, s⟩ => fun (z : Nat → Value) => (([(zf32 0), u2, (eI heavy_), (eN (rr + 1)), (zf32 4), (zf32 5), (zf32 6), (zf32 7), (z 8), (ptr L15.bN 0), (zf32 10), (sli sb 0 6 6), u27, (eN k), (zf32 14), undef, undef, (zf32 17), (zf32 18), undef] ++ (zs zf32 20 15 ++ (zs z 35 11 ++ (zs zf32 46 9 ++ (us 12 ++ (zs zf32 67 20 ++ (us 40 ++ (zs zf32 127 9)))))))) : List Value)) (fun (s_ : (Nat) × (NS)) => match s_ with | ⟨k, s⟩ => fun (w_ : World) => (k ≤ rr + 1) ∧ (BackR s k lb (fun _ _ => [])) ∧ Only (Or1 sb (Ors L15.S No)) w25 w_ ∧ Arr 3 sb (([1, 2, 3, 4, 5, 6] : List Int).map eI) w_ ∧ Nd L15 s (Or1 sb No) w_) (fun (s_ : (Nat) × (NS)) => match s_ with | ⟨k, s⟩ => rr + 1 - k) ⟨0, (NS.new 6 8 4 (fun _ _ => false))⟩ kr ?_ ?_
 ·
  refine ⟨?_, ?_, ?_, ?_, ?_⟩
  ·
   (try dsimp only)
   all_goals (omega)
  ·
   exact backR_new lb
  ·
   exact Only.refl _ _
  ·
   exact a21
  ·
   exact a16
 rintro ⟨k, s⟩ z w34 ⟨hk, hI, o33, a21, a16⟩
 (try dsimp only)
 replace h1 := h1.step o33 (or1_mono (ors_mono no_any))
 replace h2 := h2.step o33 (or1_mono (ors_mono no_any))
 replace f30 := f30.step o33 (or1_mono (ors_mono no_any))
 replace f31 := f31.step o33 (or1_mono (ors_mono no_any))
 replace oW := oW.tail o33 (tl_new g_oW_sb (tl_snew g_oW_L15 tl_no))
 refine wQ (wQ (pL ?_))
 refine wI (d_move rfl) ?_
 refine wI (d_move rfl) ?_
 refine wI (n_lss (a := k) (b := (rr + 1)) rfl rfl rfl) ?_
 refine wD (tN ?_)
 refine cond_if rfl (fun c35 => ?_) (fun c35 => ?_)
 ·
  refine wK (tN (wQ (wB (wQ ?_))))
  refine wp_eq (l' := ([(zf32 0), u2, (eI heavy_), (eN (rr + 1)), (zf32 4), (zf32 5), (zf32 6), (zf32 7), (z 8), (ptr L15.bN 0), (zf32 10), (sli sb 0 6 6), u27, (eN k), (zf32 14), undef, undef, (zf32 17), (zf32 18), undef] ++ (zs zf32 20 15 ++ [(eN k), (eN (rr + 1)), (Value.bool (decide (k < (rr + 1))))] ++ (zs z 38 8 ++ (zs zf32 46 9 ++ (us 12 ++ (zs zf32 67 20 ++ (us 40 ++ (zs zf32 127 9))))))))) rfl ?_
  refine pL ?_
  refine wI (d_move rfl) ?_
  refine wI (d_move rfl) ?_
  refine wI (d_move rfl) ?_
  refine wI (d_move rfl) ?_
  refine wO (d_call (xl := [.tmp 40, .tmp 41, .tmp 42, .tmp 43]) (al := [(ptr L15.bN 0), (sli sb 0 6 6), (eN k), u27]) Try.func32 kr rfl rfl rfl (rowWrite_ok L15 s _ a16 (lt_or1 a21.lt lt_no) ([1, 2, 3, 4, 5, 6] : List Int) (sli sb 0 6 6) (arr_keep a21 l_sb (Nat.le_refl _) (nx_ors (a16.dis _ in1) (fun _ _ t => t.elim))) fo 6 (k : Int) vs28 (plD lb 6) u27 (f30.less (os_of (sub2 sub1))) (f31.less (os_of (sub2 sub1))) l29 (plD_le lb 6))) ?_
  rintro _ w36 ⟨rfl, a38, o37⟩
  replace a21 := a21.step o37 (a16.dis _ in1)
  replace h1 := h1.step o37 (sub2 sub1)
  replace h2 := h2.step o37 (sub2 sub1)
  replace f30 := f30.step o37 (sub2 sub1)
  replace f31 := f31.step o37 (sub2 sub1)
  replace oW := oW.tail o37 (fun k hk e => by have := g_oW_L15 k e; omega)
  replace o33 := o33.tail o37 (fun k _ e => (sub2 sub1) k e)
  replace a16 := a38
  refine wF ([(zf32 0), u2, (eI heavy_), (eN (rr + 1)), (zf32 4), (zf32 5), (zf32 6), (zf32 7), (z 8), (ptr L15.bN 0), (zf32 10), (sli sb 0 6 6), u27, (eN k), (zf32 14), undef, undef, (zf32 17), (zf32 18), undef] ++ (zs zf32 20 15 ++ [(eN k), (eN (rr + 1)), (Value.bool (decide (k < (rr + 1)))), (z 38), (z 39), (ptr L15.bN 0), (sli sb 0 6 6), (eN k), u27, (eN (rowWC s ([1, 2, 3, 4, 5, 6] : List Int) (k : Int) (plD lb 6) 6)), (z 45)] ++ (zs zf32 46 9 ++ (us 12 ++ (zs zf32 67 20 ++ (us 40 ++ (zs zf32 127 9))))))) ?_
  refine wI (n_neq (a := (rowWC s ([1, 2, 3, 4, 5, 6] : List Int) (k : Int) (plD lb 6) 6)) (b := 0) rfl rfl (by rw [decide_eq_true ((backR_write hI oo).1)] <;> rfl)) ?_
  refine wF ([(zf32 0), u2, (eI heavy_), (eN (rr + 1)), (zf32 4), (zf32 5), (zf32 6), (zf32 7), (z 8), (ptr L15.bN 0), (zf32 10), (sli sb 0 6 6), u27, (eN k), (zf32 14), undef, undef, (zf32 17), (zf32 18), undef] ++ (zs zf32 20 15 ++ [(eN k), (eN (rr + 1)), (Value.bool (decide (k < (rr + 1)))), (z 38), (z 39), (ptr L15.bN 0), (sli sb 0 6 6), (eN k), u27, (eN (rowWC s ([1, 2, 3, 4, 5, 6] : List Int) (k : Int) (plD lb 6) 6)), vF] ++ (zs zf32 46 9 ++ (us 12 ++ (zs zf32 67 20 ++ (us 40 ++ (zs zf32 127 9))))))) ?_
  refine wD ?_
  have hJ_s1 := (backR_write hI oo).2
  obtain ⟨s1, e_s1⟩ : ∃ x_, rowWS s ([1, 2, 3, 4, 5, 6] : List Int) (k : Int) (plD lb 6) 6 = x_ := ⟨_, rfl⟩
  replace hJ_s1 := backR_to hJ_s1 e_s1
  replace a16 := nd_to a16 e_s1
  refine tN ?_
  refine forget (fun zf39 => ([(zf32 0), u2, (eI heavy_), (eN (rr + 1)), (zf32 4), (zf32 5), (zf32 6), (zf32 7), (zf39 8), (ptr L15.bN 0), (zf32 10), (sli sb 0 6 6), u27, (eN k), (zf32 14), undef, undef, (zf32 17), (zf32 18), undef] ++ (zs zf32 20 15 ++ (zs zf39 35 10 ++ [vF] ++ (zs zf32 46 9 ++ (us 12 ++ (zs zf32 67 20 ++ (us 40 ++ (zs zf32 127 9))))))))) kr (fun zf39 => ?_)
  refine cond_f rfl ?_
  refine wK ?_
  refine inb_n (tN ?_)
  refine pL ?_
  refine wI (d_move rfl) ?_
  refine wI (n_add (a := k) (b := 1) rfl rfl oo) ?_
  refine wI (d_assign rfl) ?_
  refine wD (tN ?_)
  refine ⟨_, ⟨k + 1, s1⟩, rfl, kr, ⟨?_, ?_, ?_, ?_, ?_⟩, ?_⟩
  ·
   (try dsimp only)
   all_goals (omega)
  ·
   exact hJ_s1
  ·
   exact o33
  ·
   exact a21
  ·
   exact a16
  ·
   (try dsimp only)
   all_goals (omega)
 refine wpIn_exit ?_
 refine then_x (then_x (inb_e ?_))
 refine tN (wQ (pL ?_))
 refine wI (d_move rfl) ?_
 refine wO (d_call (xl := [.tmp 46, .const (.int .i64 6)]) (al := [(eI heavy_), (eN 6)]) Try.func29 kr rfl rfl rfl (law12Within_ok heavy_ 6 _ oo oo)) ?_
 rintro _ w40 ⟨rfl, o41⟩
 replace h1 := h1.step0 o41
 replace h2 := h2.step0 o41
 replace a16 := a16.step0 o41
 replace f30 := f30.step0 o41
 replace f31 := f31.step0 o41
 replace a21 := a21.step0 o41
 replace oW := oW.tail0 o41
 replace o33 := o33.tail0 o41
 refine wF ([(zf32 0), u2, (eI heavy_), (eN (rr + 1)), (zf32 4), (zf32 5), (zf32 6), (zf32 7), (z 8), (ptr L15.bN 0), (zf32 10), (sli sb 0 6 6), u27, (eN k), (zf32 14), undef, undef, (zf32 17), (zf32 18), undef] ++ (zs zf32 20 15 ++ [(eN k), (eN (rr + 1)), (Value.bool (decide (k < (rr + 1))))] ++ (zs z 38 8 ++ [(eI heavy_), (eN ((heavy_ % ((6 : Nat) : Int)).toNat))] ++ (zs zf32 48 7 ++ (us 12 ++ (zs zf32 67 20 ++ (us 40 ++ (zs zf32 127 9)))))))) ?_
 refine wI (d_assign rfl) ?_
 refine wD (tN (wQ (wQ ?_)))
 obtain ⟨hv, hhv, ehv⟩ : ∃ hv, hv < 6 ∧ (heavy_ % ((6 : Nat) : Int)).toNat = hv := ⟨_, by omega, rfl⟩
 refine wp_eq (l' := ([(zf32 0), u2, (eI heavy_), (eN (rr + 1)), (zf32 4), (zf32 5), (zf32 6), (zf32 7), (z 8), (ptr L15.bN 0), (zf32 10), (sli sb 0 6 6), u27, (eN k), (eN ((heavy_ % ((6 : Nat) : Int)).toNat)), undef, undef, (zf32 17), (zf32 18), undef] ++ (zs zf32 20 15 ++ [(eN k), (eN (rr + 1)), (Value.bool (decide (k < (rr + 1))))] ++ (zs z 38 8 ++ [(eI heavy_), (eN ((heavy_ % ((6 : Nat) : Int)).toNat))] ++ (zs zf32 48 7 ++ (us 12 ++ (zs zf32 67 20 ++ (us 40 ++ (zs zf32 127 9))))))))) rfl ?_
 refine wp_eq (l' := ([(zf32 0), u2, (eI heavy_), (eN (rr + 1)), (zf32 4), (zf32 5), (zf32 6), (zf32 7), (z 8), (ptr L15.bN 0), (zf32 10), (sli sb 0 6 6), u27, (eN k), (eN hv), undef, undef, (zf32 17), (zf32 18), undef] ++ (zs zf32 20 15 ++ [(eN k), (eN (rr + 1)), (Value.bool (decide (k < (rr + 1))))] ++ (zs z 38 8 ++ [(eI heavy_), (eN ((heavy_ % ((6 : Nat) : Int)).toNat))] ++ (zs zf32 48 7 ++ (us 12 ++ (zs zf32 67 20 ++ (us 40 ++ (zs zf32 127 9))))))))) (show (([(zf32 0), u2, (eI heavy_), (eN (rr + 1)), (zf32 4), (zf32 5), (zf32 6), (zf32 7), (z 8), (ptr L15.bN 0), (zf32 10), (sli sb 0 6 6), u27, (eN k), (eN ((heavy_ % ((6 : Nat) : Int)).toNat)), undef, undef, (zf32 17), (zf32 18), undef] ++ (zs zf32 20 15 ++ [(eN k), (eN (rr + 1)), (Value.bool (decide (k < (rr + 1))))] ++ (zs z 38 8 ++ [(eI heavy_), (eN ((heavy_ % ((6 : Nat) : Int)).toNat))] ++ (zs zf32 48 7 ++ (us 12 ++ (zs zf32 67 20 ++ (us 40 ++ (zs zf32 127 9)))))))) : List Value) = ([(zf32 0), u2, (eI heavy_), (eN (rr + 1)), (zf32 4), (zf32 5), (zf32 6), (zf32 7), (z 8), (ptr L15.bN 0), (zf32 10), (sli sb 0 6 6), u27, (eN k), (eN hv), undef, undef, (zf32 17), (zf32 18), undef] ++ (zs zf32 20 15 ++ [(eN k), (eN (rr + 1)), (Value.bool (decide (k < (rr + 1))))] ++ (zs z 38 8 ++ [(eI heavy_), (eN ((heavy_ % ((6 : Nat) : Int)).toNat))] ++ (zs zf32 48 7 ++ (us 12 ++ (zs zf32 67 20 ++ (us 40 ++ (zs zf32 127 9)))))))) from reslot ([(zf32 0), u2, (eI heavy_), (eN (rr + 1)), (zf32 4), (zf32 5), (zf32 6), (zf32 7), (z 8), (ptr L15.bN 0), (zf32 10), (sli sb 0 6 6), u27, (eN k), (eN ((heavy_ % ((6 : Nat) : Int)).toNat)), undef, undef, (zf32 17), (zf32 18), undef] ++ (zs zf32 20 15 ++ [(eN k), (eN (rr + 1)), (Value.bool (decide (k < (rr + 1))))] ++ (zs z 38 8 ++ [(eI heavy_), (eN ((heavy_ % ((6 : Nat) : Int)).toNat))] ++ (zs zf32 48 7 ++ (us 12 ++ (zs zf32 67 20 ++ (us 40 ++ (zs zf32 127 9)))))))) 14 (congrArg eN ehv)) ?_
 have hkr : k = rr + 1 := by omega
 refine pL ?_
 refine wI (d_assign rfl) ?_
 refine wD (tN (wB ?_))
 refine loop2 (fun (s_ : (Nat) × (NS)) => match s_ with | ⟨d, s2⟩ => fun (z : Nat → Value) => (([(zf32 0), u2, (eI heavy_), (eN (rr + 1)), (zf32 4), (zf32 5), (zf32 6), (zf32 7), (z 8), (ptr L15.bN 0), (zf32 10), (sli sb 0 6 6), u27, (eN k), (eN hv), (eN d), (z 16), (zf32 17), (zf32 18), undef] ++ (zs zf32 20 15 ++ [(eN k), (eN (rr + 1)), (Value.bool (decide (k < (rr + 1))))] ++ (zs z 38 8 ++ [(eI heavy_), (eN ((heavy_ % ((6 : Nat) : Int)).toNat))] ++ (zs z 48 20 ++ (zs zf32 68 19 ++ (us 40 ++ (zs zf32 127 9))))))) : List Value)) (fun (s_ : (Nat) × (NS)) => match s_ with | ⟨d, s2⟩ => fun (w_ : World) => (d ≤ 6) ∧ (BackR s2 (rr + 1) lb (zR ln hv rr d)) ∧ Only (Or1 sb (Ors L15.S No)) w40 w_ ∧ Arr 3 sb (([1, 2, 3, 4, 5, 6] : List Int).map eI) w_ ∧ Nd L15 s2 (Or1 sb No) w_) (fun (s_ : (Nat) × (NS)) => match s_ with | ⟨d, s2⟩ => 6 - d) ⟨0, (s)⟩ kr ?_ ?_
 ·
  refine ⟨?_, ?_, ?_, ?_, ?_⟩
  ·
   (try dsimp only)
   all_goals (omega)
  ·
   (try dsimp only)
   all_goals (rw [← hkr]; exact (show zR ln hv rr 0 = (fun _ _ => []) from funext fun _ => funext fun _ => if_neg (fun h => Nat.not_lt_zero _ h.1)) ▸ hI)
  ·
   exact Only.refl _ _
  ·
   exact a21
  ·
   exact a16
 rintro ⟨d, s2⟩ z w43 ⟨hd, hK, o42, a21, a16⟩
 (try dsimp only)
 replace h1 := h1.step o42 (or1_mono (ors_mono no_any))
 replace h2 := h2.step o42 (or1_mono (ors_mono no_any))
 replace f30 := f30.step o42 (or1_mono (ors_mono no_any))
 replace f31 := f31.step o42 (or1_mono (ors_mono no_any))
 replace oW := oW.tail o42 (tl_new g_oW_sb (tl_snew g_oW_L15 tl_no))
 replace o33 := o33.tail o42 (tl_in in1 (tl_sin (sub2 sub1) tl_no))
 refine wQ (wQ (pL ?_))
 refine wI (d_move rfl) ?_
 refine wI (n_lss (a := d) (b := 6) rfl rfl rfl) ?_
 refine wD (tN ?_)
 refine cond_if rfl (fun hd6 => ?_) (fun hd6 => ?_)
 ·
  refine wK (tN (wQ (wB (wQ (pL ?_)))))
  refine wI (d_assign rfl) ?_
  refine wD (tN (wQ (wQ (pL ?_))))
  refine wI (d_move rfl) ?_
  refine wI (d_move rfl) ?_
  refine wF ([(zf32 0), u2, (eI heavy_), (eN (rr + 1)), (zf32 4), (zf32 5), (zf32 6), (zf32 7), (z 8), (ptr L15.bN 0), (zf32 10), (sli sb 0 6 6), u27, (eN k), (eN hv), (eN d), (eN 3), (zf32 17), (zf32 18), undef] ++ (zs zf32 20 15 ++ [(eN k), (eN (rr + 1)), (Value.bool (decide (k < (rr + 1))))] ++ (zs z 38 8 ++ [(eI heavy_), (eN ((heavy_ % ((6 : Nat) : Int)).toNat)), (eN d), (Value.bool (decide (d < 6))), (z 50), (z 51), (eN d), (eN hv)] ++ (zs z 54 14 ++ (zs zf32 68 19 ++ (us 40 ++ (zs zf32 127 9))))))) ?_
  refine wI (n_eql (a := d) (b := hv) rfl rfl rfl) ?_
  refine wD (tN ?_)
  refine cond_if rfl (fun ch => ?_) (fun ch => ?_)
  ·
   refine pL ?_
   refine wI (d_assign rfl) ?_
   refine wD (tN (wQ ?_))
   have hn1 := noise_len ln 3; have hn2 := noise_len ln 5
   have hnz := backR_noise hK hd6 hrr
   rw [if_pos ch] at hnz
   refine wp_eq (l' := ([(zf32 0), u2, (eI heavy_), (eN (rr + 1)), (zf32 4), (zf32 5), (zf32 6), (zf32 7), (z 8), (ptr L15.bN 0), (zf32 10), (sli sb 0 6 6), u27, (eN k), (eN hv), (eN d), (eN 5), (zf32 17), (zf32 18), undef] ++ (zs zf32 20 15 ++ [(eN k), (eN (rr + 1)), (Value.bool (decide (k < (rr + 1))))] ++ (zs z 38 8 ++ [(eI heavy_), (eN ((heavy_ % ((6 : Nat) : Int)).toNat)), (eN d), (Value.bool (decide (d < 6))), (z 50), (z 51), (eN d), (eN hv), (Value.bool (decide (d = hv)))] ++ (zs z 55 13 ++ (zs zf32 68 19 ++ (us 40 ++ (zs zf32 127 9)))))))) rfl ?_
   refine drawnT (O := (Or1 sb (Ors L15.S No))) (n := 13) 11 [0, 0, 0, 0, 12, 28, 0, 64, 0, 0, 768, 2047, 4095] [(0, 55), (1, 56), (2, 57), (3, 58), (4, 59), (5, 60), (6, 61), (7, 62), (8, 63), (9, 64), (10, 65), (11, 66), (12, 67)] [(0, 55), (1, 56), (2, 57), (3, 58), (4, 59), (5, 60), (6, 61), (7, 62), (8, 63), (9, 64), (10, 65)] [0, 1, 2, 3, 4, 5, 6, 7, 8, 9, 10] [] (fun i_ => ([RF.is (Or1 sb (Ors L15.S No)) (ptr L15.bN 0), RF.is (Or1 sb (Ors L15.S No)) (eN d), RF.is (Or1 sb (Ors L15.S No)) (sli sb 0 6 6), RF.is (Or1 sb (Ors L15.S No)) (eN d), RF.is (Or1 sb (Ors L15.S No)) (ptr sb d), RF.is (Or1 sb (Ors L15.S No)) (eN (d + 1)), RF.is (Or1 sb (Ors L15.S No)) (eN (rr + 1)), RF.is (Or1 sb (Ors L15.S No)) (eN rr), RF.is (Or1 sb (Ors L15.S No)) u2, RF.is (Or1 sb (Ors L15.S No)) (eN 5), RF.ps (Or1 sb (Ors L15.S No)) (Or1 sb (Ors L15.S (Old W.heap.size))) (Seq kN (noiseL ln 5)) (or1_mono (ors_mono no_any))] : List (RF (Or1 sb (Ors L15.S No)))).getD i_ (RF.any (Or1 sb (Ors L15.S No)))) (fun _ w_ => Arr 3 sb (([1, 2, 3, 4, 5, 6] : List Int).map eI) w_ ∧ Nd L15 s2 (Or1 sb No) w_) (fun v44 => ([(zf32 0), u2, (eI heavy_), (eN (rr + 1)), (zf32 4), (zf32 5), (zf32 6), (zf32 7), (z 8), (ptr L15.bN 0), (zf32 10), (sli sb 0 6 6), u27, (eN k), (eN hv), (eN d), (eN 5), (zf32 17), (zf32 18), undef] ++ (zs zf32 20 15 ++ [(eN k), (eN (rr + 1)), (Value.bool (decide (k < (rr + 1))))] ++ (zs z 38 8 ++ [(eI heavy_), (eN ((heavy_ % ((6 : Nat) : Int)).toNat)), (eN d), (Value.bool (decide (d < 6))), (z 50), (z 51), (eN d), (eN hv), (Value.bool (decide (d = hv))), (v44 0), (v44 1), (v44 2), (v44 3), (v44 4), (v44 5), (v44 6), (v44 7), (v44 8), (v44 9), (v44 10), (v44 11), (v44 12)] ++ (zs zf32 68 19 ++ (us 40 ++ (zs zf32 127 9))))))) (fun v44 => ([(zf32 0), u2, (eI heavy_), (eN (rr + 1)), (zf32 4), (zf32 5), (zf32 6), (zf32 7), (z 8), (ptr L15.bN 0), (zf32 10), (sli sb 0 6 6), u27, (eN k), (eN hv), (eN d), (eN 5), (zf32 17), (zf32 18), undef] ++ (zs zf32 20 15 ++ [(eN k), (eN (rr + 1)), (Value.bool (decide (k < (rr + 1))))] ++ (zs z 38 8 ++ [(eI heavy_), (eN ((heavy_ % ((6 : Nat) : Int)).toNat)), (eN d), (Value.bool (decide (d < 6))), (z 50), (z 51), (eN d), (eN hv), (Value.bool (decide (d = hv))), (v44 0), (v44 1), (v44 2), (v44 3), (v44 4), (v44 5), (v44 6), (v44 7), (v44 8), (v44 9), (v44 10), (z 66), (z 67)] ++ (zs zf32 68 19 ++ (us 40 ++ (zs zf32 127 9))))))) s_mx kr rfl (by decide) (by rfl) kr kr kr (by rfl) (fun v_ => by kernel_rfl) (fun v_ => by kernel_rfl) (fun _ => fun w_ w2_ h ho => by obtain ⟨r_a21, r_a16⟩ := h; exact ⟨r_a21.step0 ho, r_a16.step0 ho⟩) ⟨a21, a16⟩ ?_ ?_ ?_
   ·
    refine ls_cons ?_ ?_
    ·
     intro v44 lo hi w_ k_ hO hd _ _ hk_ _ hR hold
     obtain ⟨r_a21, r_a16⟩ := hR
     clear hd hold
     refine ⟨_, rfl, gd rfl ?_⟩
     exact Does.is (d_move rfl)
    refine ls_cons ?_ ?_
    ·
     intro v44 lo hi w_ k_ hO hd _ _ hk_ _ hR hold
     obtain ⟨r_a21, r_a16⟩ := hR
     clear hd hold
     refine ⟨_, rfl, gd rfl ?_⟩
     exact Does.is (d_move rfl)
    refine ls_cons ?_ ?_
    ·
     intro v44 lo hi w_ k_ hO hd _ _ hk_ _ hR hold
     obtain ⟨r_a21, r_a16⟩ := hR
     clear hd hold
     refine ⟨_, rfl, gd rfl ?_⟩
     exact Does.is (d_move rfl)
    refine ls_cons ?_ ?_
    ·
     intro v44 lo hi w_ k_ hO hd _ _ hk_ _ hR hold
     obtain ⟨r_a21, r_a16⟩ := hR
     clear hd hold
     refine ⟨_, rfl, gd rfl ?_⟩
     exact Does.is (d_move rfl)
    refine ls_cons ?_ ?_
    ·
     intro v44 lo hi w_ k_ hO hd _ _ hk_ _ hR hold
     obtain ⟨r_a21, r_a16⟩ := hR
     have e2 : v44 2 = (sli sb 0 6 6) := hd 2 kr
     have e3 : v44 3 = (eN d) := hd 3 kr
     clear hd hold
     refine ⟨_, rfl, gd rfl ?_⟩
     exact Does.is (d_index1 (n := 6) (i := d) Try.underlying23 s_ti3 e2 (show _ = Value.int _ (d : Int) from e3) oo)
    refine ls_cons ?_ ?_
    ·
     intro v44 lo hi w_ k_ hO hd _ _ hk_ _ hR hold
     obtain ⟨r_a21, r_a16⟩ := hR
     have e4 : v44 4 = (ptr sb d) := hd 4 kr
     clear hd hold
     refine ⟨_, rfl, gd rfl ?_⟩
     exact Does.is (dv_to (d_load ⟨_, Try.underlying3, rfl⟩ e4 r_a21 (m_at (d := 0) (by rw [l_sb]; omega))) (congrArg eI (b6_at d hd6)))
    refine ls_cons ?_ ?_
    ·
     intro v44 lo hi w_ k_ hO hd _ _ hk_ _ hR hold
     obtain ⟨r_a21, r_a16⟩ := hR
     clear hd hold
     refine ⟨_, rfl, gd rfl ?_⟩
     exact Does.is (d_move rfl)
    refine ls_cons ?_ ?_
    ·
     intro v44 lo hi w_ k_ hO hd _ _ hk_ _ hR hold
     obtain ⟨r_a21, r_a16⟩ := hR
     have e6 : v44 6 = (eN (rr + 1)) := hd 6 kr
     clear hd hold
     refine ⟨_, rfl, gd rfl ?_⟩
     exact Does.is (d_sub (k := .i64) (m := ((rr + 1 : Nat) : Int)) (n := 1) e6 rfl (r := (rr : Int)) (by rw [IntWalk.i64_in _ oo]; omega))
    refine ls_cons ?_ ?_
    ·
     intro v44 lo hi w_ k_ hO hd _ _ hk_ _ hR hold
     obtain ⟨r_a21, r_a16⟩ := hR
     clear hd hold
     refine ⟨_, rfl, gd rfl ?_⟩
     exact Does.is (d_move rfl)
    refine ls_cons ?_ ?_
    ·
     intro v44 lo hi w_ k_ hO hd _ _ hk_ _ hR hold
     obtain ⟨r_a21, r_a16⟩ := hR
     clear hd hold
     refine ⟨_, rfl, gd rfl ?_⟩
     exact Does.is (d_move rfl)
    refine ls_cons ?_ ?_
    ·
     intro v44 lo hi w_ k_ hO hd _ _ hk_ _ hR hold
     obtain ⟨r_a21, r_a16⟩ := hR
     have e8 : v44 8 = u2 := hd 8 kr
     have e9 : v44 9 = (eN 5) := hd 9 kr
     clear hd hold
     refine ⟨_, rfl, gd rfl ?_⟩
     refine Does.mono (R := ROw 3 eN (noiseL ln 5) w_) ?_ (fun u w' h => ⟨(h.ps).1.less (or1_old r_a21.lt (ors_old r_a16.lt (old_old (Nat.le_trans oW.size hO.size)))), (h.ps).2⟩)
     exact d_call (xl := [.tmp 63, .tmp 64]) (al := [u2, (eN 5)]) Try.func23 kr rfl (show ([(v44 8), (v44 9)] : List Value) = [u2, (eN 5)] from by rw [e8, e9]) rfl (l8noise_ok ln 5 u2 _ (Ps.no (h2.step hO (or1_mono (ors_mono no_any)))) oo oo)
    exact ls_nil
   ·
    exact ms_nil
   intro v44 lo_ hi_ w45 o46 hd iv_ hR
   have e0 : v44 0 = (ptr L15.bN 0) := hd 0 (by decide)
   have e1 : v44 1 = (eN d) := hd 1 (by decide)
   have e2 : v44 2 = (sli sb 0 6 6) := hd 2 (by decide)
   have e3 : v44 3 = (eN d) := hd 3 (by decide)
   have e4 : v44 4 = (ptr sb d) := hd 4 (by decide)
   have e5 : v44 5 = (eN (d + 1)) := hd 5 (by decide)
   have e6 : v44 6 = (eN (rr + 1)) := hd 6 (by decide)
   have e7 : v44 7 = (eN rr) := hd 7 (by decide)
   have e8 : v44 8 = u2 := hd 8 (by decide)
   have e9 : v44 9 = (eN 5) := hd 9 (by decide)
   have f_v44_10 : Ps (Or1 sb (Ors L15.S (Old W.heap.size))) (Seq kN (noiseL ln 5) (v44 10)) w45 := hd 10 (by decide)
   clear hd iv_ lo_ hi_
   refine wpL.flat ([(zf32 0), u2, (eI heavy_), (eN (rr + 1)), (zf32 4), (zf32 5), (zf32 6), (zf32 7), (z 8), (ptr L15.bN 0), (zf32 10), (sli sb 0 6 6), u27, (eN k), (eN hv), (eN d), (eN 5), (zf32 17), (zf32 18), undef] ++ (zs zf32 20 15 ++ [(eN k), (eN (rr + 1)), (Value.bool (decide (k < (rr + 1))))] ++ (zs z 38 8 ++ [(eI heavy_), (eN ((heavy_ % ((6 : Nat) : Int)).toNat)), (eN d), (Value.bool (decide (d < 6))), (z 50), (z 51), (eN d), (eN hv), (Value.bool (decide (d = hv))), (ptr L15.bN 0), (eN d), (sli sb 0 6 6), (eN d), (ptr sb d), (eN (d + 1)), (eN (rr + 1)), (eN rr), u2, (eN 5), (v44 10), (z 66), (z 67)] ++ (zs zf32 68 19 ++ (us 40 ++ (zs zf32 127 9)))))) (by rw [e0, e1, e2, e3, e4, e5, e6, e7, e8, e9] <;> rfl) ?_
   clear e0 e1 e2 e3 e4 e5 e6 e7 e8 e9
   replace h1 := h1.step o46 (or1_mono (ors_mono no_any))
   replace h2 := h2.step o46 (or1_mono (ors_mono no_any))
   replace f30 := f30.step o46 (or1_mono (ors_mono no_any))
   replace f31 := f31.step o46 (or1_mono (ors_mono no_any))
   obtain ⟨xr_a21, xr_a16⟩ := hR
   replace a21 : Arr 3 sb (([1, 2, 3, 4, 5, 6] : List Int).map eI) w45 := xr_a21
   replace a16 := xr_a16
   clear xr_a21 xr_a16
   replace oW := oW.tail o46 (tl_new g_oW_sb (tl_snew g_oW_L15 tl_no))
   replace o33 := o33.tail o46 (tl_in in1 (tl_sin (sub2 sub1) tl_no))
   replace o42 := o42.tail o46 (tl_in in1 (tl_sin (sub2 sub1) tl_no))
   refine wO (d_call (xl := [.tmp 55, .tmp 56, .tmp 60, .tmp 62, .tmp 65]) (al := [(ptr L15.bN 0), (eN d), (eN (d + 1)), (eN rr), (v44 10)]) Try.func35 kr rfl rfl rfl (noise_ok L15 s2 _ a16 (d : Int) ((d + 1 : Nat) : Int) (rr : Int) (ofN ((noiseL ln 5))) (v44 10) (lt_or1 a21.lt lt_no) (seq_ofN (f_v44_10.less (os_of (sub2 sub1)))) (by have := noise_len ln 5; have := ofN_len ((noiseL ln 5)); first | omega | (simp; done) | (simp; omega)))) ?_
   rintro _ w47 ⟨rfl, a49, o48⟩
   replace a21 := a21.step o48 (a16.dis _ in1)
   replace h1 := h1.step o48 (sub2 sub1)
   replace h2 := h2.step o48 (sub2 sub1)
   replace f30 := f30.step o48 (sub2 sub1)
   replace f31 := f31.step o48 (sub2 sub1)
   replace f_v44_10 := f_v44_10.step o48 (sub2 sub1)
   replace oW := oW.tail o48 (fun k hk e => by have := g_oW_L15 k e; omega)
   replace o33 := o33.tail o48 (fun k _ e => (sub2 sub1) k e)
   replace o42 := o42.tail o48 (fun k _ e => (sub2 sub1) k e)
   replace a16 := a49
   refine wI (n_neq (a := (s2.noiseR (d : Int) ((d + 1 : Nat) : Int) (rr : Int))) (b := 0) rfl rfl (by rw [decide_eq_true hnz.1] <;> rfl)) ?_
   refine wF ([(zf32 0), u2, (eI heavy_), (eN (rr + 1)), (zf32 4), (zf32 5), (zf32 6), (zf32 7), (z 8), (ptr L15.bN 0), (zf32 10), (sli sb 0 6 6), u27, (eN k), (eN hv), (eN d), (eN 5), (zf32 17), (zf32 18), undef] ++ (zs zf32 20 15 ++ [(eN k), (eN (rr + 1)), (Value.bool (decide (k < (rr + 1))))] ++ (zs z 38 8 ++ [(eI heavy_), (eN ((heavy_ % ((6 : Nat) : Int)).toNat)), (eN d), (Value.bool (decide (d < 6))), (z 50), (z 51), (eN d), (eN hv), (Value.bool (decide (d = hv))), (ptr L15.bN 0), (eN d), (sli sb 0 6 6), (eN d), (ptr sb d), (eN (d + 1)), (eN (rr + 1)), (eN rr), u2, (eN 5), (v44 10), (eN (s2.noiseR (d : Int) ((d + 1 : Nat) : Int) (rr : Int))), vF] ++ (zs zf32 68 19 ++ (us 40 ++ (zs zf32 127 9)))))) ?_
   refine wD ?_
   have hJ_s3 := hnz.2
   obtain ⟨s3, e_s3⟩ : ∃ x_, s2.noise (d : Int) ((d + 1 : Nat) : Int) (rr : Int) (ofN ((noiseL ln 5))) = x_ := ⟨_, rfl⟩
   replace hJ_s3 := backR_to hJ_s3 e_s3
   replace a16 := nd_to a16 e_s3
   refine tN ?_
   refine cond_f rfl ?_
   refine wK ?_
   refine inb_n (tN ?_)
   refine pL ?_
   refine wI (d_move rfl) ?_
   refine wI (n_add (a := d) (b := 1) rfl rfl oo) ?_
   refine wI (d_assign rfl) ?_
   refine wD (tN ?_)
   refine ⟨_, ⟨d + 1, s3⟩, rfl, kr, ⟨?_, ?_, ?_, ?_, ?_⟩, ?_⟩
   ·
    (try dsimp only)
    all_goals (omega)
   ·
    exact hJ_s3
   ·
    exact o42
   ·
    exact a21
   ·
    exact a16
   ·
    (try dsimp only)
    all_goals (omega)
  refine wK (tN (wQ ?_))
  have hn1 := noise_len ln 3; have hn2 := noise_len ln 5
  have hnz := backR_noise hK hd6 hrr
  rw [if_neg ch] at hnz
  refine wp_eq (l' := ([(zf32 0), u2, (eI heavy_), (eN (rr + 1)), (zf32 4), (zf32 5), (zf32 6), (zf32 7), (z 8), (ptr L15.bN 0), (zf32 10), (sli sb 0 6 6), u27, (eN k), (eN hv), (eN d), (eN 3), (zf32 17), (zf32 18), undef] ++ (zs zf32 20 15 ++ [(eN k), (eN (rr + 1)), (Value.bool (decide (k < (rr + 1))))] ++ (zs z 38 8 ++ [(eI heavy_), (eN ((heavy_ % ((6 : Nat) : Int)).toNat)), (eN d), (Value.bool (decide (d < 6))), (z 50), (z 51), (eN d), (eN hv), (Value.bool (decide (d = hv)))] ++ (zs z 55 13 ++ (zs zf32 68 19 ++ (us 40 ++ (zs zf32 127 9)))))))) rfl ?_
  refine drawnT (O := (Or1 sb (Ors L15.S No))) (n := 13) 11 [0, 0, 0, 0, 12, 28, 0, 64, 0, 0, 768, 2047, 4095] [(0, 55), (1, 56), (2, 57), (3, 58), (4, 59), (5, 60), (6, 61), (7, 62), (8, 63), (9, 64), (10, 65), (11, 66), (12, 67)] [(0, 55), (1, 56), (2, 57), (3, 58), (4, 59), (5, 60), (6, 61), (7, 62), (8, 63), (9, 64), (10, 65)] [0, 1, 2, 3, 4, 5, 6, 7, 8, 9, 10] [] (fun i_ => ([RF.is (Or1 sb (Ors L15.S No)) (ptr L15.bN 0), RF.is (Or1 sb (Ors L15.S No)) (eN d), RF.is (Or1 sb (Ors L15.S No)) (sli sb 0 6 6), RF.is (Or1 sb (Ors L15.S No)) (eN d), RF.is (Or1 sb (Ors L15.S No)) (ptr sb d), RF.is (Or1 sb (Ors L15.S No)) (eN (d + 1)), RF.is (Or1 sb (Ors L15.S No)) (eN (rr + 1)), RF.is (Or1 sb (Ors L15.S No)) (eN rr), RF.is (Or1 sb (Ors L15.S No)) u2, RF.is (Or1 sb (Ors L15.S No)) (eN 3), RF.ps (Or1 sb (Ors L15.S No)) (Or1 sb (Ors L15.S (Old W.heap.size))) (Seq kN (noiseL ln 3)) (or1_mono (ors_mono no_any))] : List (RF (Or1 sb (Ors L15.S No)))).getD i_ (RF.any (Or1 sb (Ors L15.S No)))) (fun _ w_ => Arr 3 sb (([1, 2, 3, 4, 5, 6] : List Int).map eI) w_ ∧ Nd L15 s2 (Or1 sb No) w_) (fun v50 => ([(zf32 0), u2, (eI heavy_), (eN (rr + 1)), (zf32 4), (zf32 5), (zf32 6), (zf32 7), (z 8), (ptr L15.bN 0), (zf32 10), (sli sb 0 6 6), u27, (eN k), (eN hv), (eN d), (eN 3), (zf32 17), (zf32 18), undef] ++ (zs zf32 20 15 ++ [(eN k), (eN (rr + 1)), (Value.bool (decide (k < (rr + 1))))] ++ (zs z 38 8 ++ [(eI heavy_), (eN ((heavy_ % ((6 : Nat) : Int)).toNat)), (eN d), (Value.bool (decide (d < 6))), (z 50), (z 51), (eN d), (eN hv), (Value.bool (decide (d = hv))), (v50 0), (v50 1), (v50 2), (v50 3), (v50 4), (v50 5), (v50 6), (v50 7), (v50 8), (v50 9), (v50 10), (v50 11), (v50 12)] ++ (zs zf32 68 19 ++ (us 40 ++ (zs zf32 127 9))))))) (fun v50 => ([(zf32 0), u2, (eI heavy_), (eN (rr + 1)), (zf32 4), (zf32 5), (zf32 6), (zf32 7), (z 8), (ptr L15.bN 0), (zf32 10), (sli sb 0 6 6), u27, (eN k), (eN hv), (eN d), (eN 3), (zf32 17), (zf32 18), undef] ++ (zs zf32 20 15 ++ [(eN k), (eN (rr + 1)), (Value.bool (decide (k < (rr + 1))))] ++ (zs z 38 8 ++ [(eI heavy_), (eN ((heavy_ % ((6 : Nat) : Int)).toNat)), (eN d), (Value.bool (decide (d < 6))), (z 50), (z 51), (eN d), (eN hv), (Value.bool (decide (d = hv))), (v50 0), (v50 1), (v50 2), (v50 3), (v50 4), (v50 5), (v50 6), (v50 7), (v50 8), (v50 9), (v50 10), (z 66), (z 67)] ++ (zs zf32 68 19 ++ (us 40 ++ (zs zf32 127 9))))))) s_mx kr rfl (by decide) (by rfl) kr kr kr (by rfl) (fun v_ => by kernel_rfl) (fun v_ => by kernel_rfl) (fun _ => fun w_ w2_ h ho => by obtain ⟨r_a21, r_a16⟩ := h; exact ⟨r_a21.step0 ho, r_a16.step0 ho⟩) ⟨a21, a16⟩ ?_ ?_ ?_
  ·
   refine ls_cons ?_ ?_
   ·
    intro v50 lo hi w_ k_ hO hd _ _ hk_ _ hR hold
    obtain ⟨r_a21, r_a16⟩ := hR
    clear hd hold
    refine ⟨_, rfl, gd rfl ?_⟩
    exact Does.is (d_move rfl)
   refine ls_cons ?_ ?_
   ·
    intro v50 lo hi w_ k_ hO hd _ _ hk_ _ hR hold
    obtain ⟨r_a21, r_a16⟩ := hR
    clear hd hold
    refine ⟨_, rfl, gd rfl ?_⟩
    exact Does.is (d_move rfl)
   refine ls_cons ?_ ?_
   ·
    intro v50 lo hi w_ k_ hO hd _ _ hk_ _ hR hold
    obtain ⟨r_a21, r_a16⟩ := hR
    clear hd hold
    refine ⟨_, rfl, gd rfl ?_⟩
    exact Does.is (d_move rfl)
   refine ls_cons ?_ ?_
   ·
    intro v50 lo hi w_ k_ hO hd _ _ hk_ _ hR hold
    obtain ⟨r_a21, r_a16⟩ := hR
    clear hd hold
    refine ⟨_, rfl, gd rfl ?_⟩
    exact Does.is (d_move rfl)
   refine ls_cons ?_ ?_
   ·
    intro v50 lo hi w_ k_ hO hd _ _ hk_ _ hR hold
    obtain ⟨r_a21, r_a16⟩ := hR
    have e2 : v50 2 = (sli sb 0 6 6) := hd 2 kr
    have e3 : v50 3 = (eN d) := hd 3 kr
    clear hd hold
    refine ⟨_, rfl, gd rfl ?_⟩
    exact Does.is (d_index1 (n := 6) (i := d) Try.underlying23 s_ti3 e2 (show _ = Value.int _ (d : Int) from e3) oo)
   refine ls_cons ?_ ?_
   ·
    intro v50 lo hi w_ k_ hO hd _ _ hk_ _ hR hold
    obtain ⟨r_a21, r_a16⟩ := hR
    have e4 : v50 4 = (ptr sb d) := hd 4 kr
    clear hd hold
    refine ⟨_, rfl, gd rfl ?_⟩
    exact Does.is (dv_to (d_load ⟨_, Try.underlying3, rfl⟩ e4 r_a21 (m_at (d := 0) (by rw [l_sb]; omega))) (congrArg eI (b6_at d hd6)))
   refine ls_cons ?_ ?_
   ·
    intro v50 lo hi w_ k_ hO hd _ _ hk_ _ hR hold
    obtain ⟨r_a21, r_a16⟩ := hR
    clear hd hold
    refine ⟨_, rfl, gd rfl ?_⟩
    exact Does.is (d_move rfl)
   refine ls_cons ?_ ?_
   ·
    intro v50 lo hi w_ k_ hO hd _ _ hk_ _ hR hold
    obtain ⟨r_a21, r_a16⟩ := hR
    have e6 : v50 6 = (eN (rr + 1)) := hd 6 kr
    clear hd hold
    refine ⟨_, rfl, gd rfl ?_⟩
    exact Does.is (d_sub (k := .i64) (m := ((rr + 1 : Nat) : Int)) (n := 1) e6 rfl (r := (rr : Int)) (by rw [IntWalk.i64_in _ oo]; omega))
   refine ls_cons ?_ ?_
   ·
    intro v50 lo hi w_ k_ hO hd _ _ hk_ _ hR hold
    obtain ⟨r_a21, r_a16⟩ := hR
    clear hd hold
    refine ⟨_, rfl, gd rfl ?_⟩
    exact Does.is (d_move rfl)
   refine ls_cons ?_ ?_
   ·
    intro v50 lo hi w_ k_ hO hd _ _ hk_ _ hR hold
    obtain ⟨r_a21, r_a16⟩ := hR
    clear hd hold
    refine ⟨_, rfl, gd rfl ?_⟩
    exact Does.is (d_move rfl)
   refine ls_cons ?_ ?_
   ·
    intro v50 lo hi w_ k_ hO hd _ _ hk_ _ hR hold
    obtain ⟨r_a21, r_a16⟩ := hR
    have e8 : v50 8 = u2 := hd 8 kr
    have e9 : v50 9 = (eN 3) := hd 9 kr
    clear hd hold
    refine ⟨_, rfl, gd rfl ?_⟩
    refine Does.mono (R := ROw 3 eN (noiseL ln 3) w_) ?_ (fun u w' h => ⟨(h.ps).1.less (or1_old r_a21.lt (ors_old r_a16.lt (old_old (Nat.le_trans oW.size hO.size)))), (h.ps).2⟩)
    exact d_call (xl := [.tmp 63, .tmp 64]) (al := [u2, (eN 3)]) Try.func23 kr rfl (show ([(v50 8), (v50 9)] : List Value) = [u2, (eN 3)] from by rw [e8, e9]) rfl (l8noise_ok ln 3 u2 _ (Ps.no (h2.step hO (or1_mono (ors_mono no_any)))) oo oo)
   exact ls_nil
  ·
   exact ms_nil
  intro v50 lo_ hi_ w51 o52 hd iv_ hR
  have e0 : v50 0 = (ptr L15.bN 0) := hd 0 (by decide)
  have e1 : v50 1 = (eN d) := hd 1 (by decide)
  have e2 : v50 2 = (sli sb 0 6 6) := hd 2 (by decide)
  have e3 : v50 3 = (eN d) := hd 3 (by decide)
  have e4 : v50 4 = (ptr sb d) := hd 4 (by decide)
  have e5 : v50 5 = (eN (d + 1)) := hd 5 (by decide)
  have e6 : v50 6 = (eN (rr + 1)) := hd 6 (by decide)
  have e7 : v50 7 = (eN rr) := hd 7 (by decide)
  have e8 : v50 8 = u2 := hd 8 (by decide)
  have e9 : v50 9 = (eN 3) := hd 9 (by decide)
  have f_v50_10 : Ps (Or1 sb (Ors L15.S (Old W.heap.size))) (Seq kN (noiseL ln 3) (v50 10)) w51 := hd 10 (by decide)
  clear hd iv_ lo_ hi_
  refine wpL.flat ([(zf32 0), u2, (eI heavy_), (eN (rr + 1)), (zf32 4), (zf32 5), (zf32 6), (zf32 7), (z 8), (ptr L15.bN 0), (zf32 10), (sli sb 0 6 6), u27, (eN k), (eN hv), (eN d), (eN 3), (zf32 17), (zf32 18), undef] ++ (zs zf32 20 15 ++ [(eN k), (eN (rr + 1)), (Value.bool (decide (k < (rr + 1))))] ++ (zs z 38 8 ++ [(eI heavy_), (eN ((heavy_ % ((6 : Nat) : Int)).toNat)), (eN d), (Value.bool (decide (d < 6))), (z 50), (z 51), (eN d), (eN hv), (Value.bool (decide (d = hv))), (ptr L15.bN 0), (eN d), (sli sb 0 6 6), (eN d), (ptr sb d), (eN (d + 1)), (eN (rr + 1)), (eN rr), u2, (eN 3), (v50 10), (z 66), (z 67)] ++ (zs zf32 68 19 ++ (us 40 ++ (zs zf32 127 9)))))) (by rw [e0, e1, e2, e3, e4, e5, e6, e7, e8, e9] <;> rfl) ?_
  clear e0 e1 e2 e3 e4 e5 e6 e7 e8 e9
  replace h1 := h1.step o52 (or1_mono (ors_mono no_any))
  replace h2 := h2.step o52 (or1_mono (ors_mono no_any))
  replace f30 := f30.step o52 (or1_mono (ors_mono no_any))
  replace f31 := f31.step o52 (or1_mono (ors_mono no_any))
  obtain ⟨xr_a21, xr_a16⟩ := hR
  replace a21 : Arr 3 sb (([1, 2, 3, 4, 5, 6] : List Int).map eI) w51 := xr_a21
  replace a16 := xr_a16
  clear xr_a21 xr_a16
  replace oW := oW.tail o52 (tl_new g_oW_sb (tl_snew g_oW_L15 tl_no))
  replace o33 := o33.tail o52 (tl_in in1 (tl_sin (sub2 sub1) tl_no))
  replace o42 := o42.tail o52 (tl_in in1 (tl_sin (sub2 sub1) tl_no))
  refine wO (d_call (xl := [.tmp 55, .tmp 56, .tmp 60, .tmp 62, .tmp 65]) (al := [(ptr L15.bN 0), (eN d), (eN (d + 1)), (eN rr), (v50 10)]) Try.func35 kr rfl rfl rfl (noise_ok L15 s2 _ a16 (d : Int) ((d + 1 : Nat) : Int) (rr : Int) (ofN ((noiseL ln 3))) (v50 10) (lt_or1 a21.lt lt_no) (seq_ofN (f_v50_10.less (os_of (sub2 sub1)))) (by have := noise_len ln 3; have := ofN_len ((noiseL ln 3)); first | omega | (simp; done) | (simp; omega)))) ?_
  rintro _ w53 ⟨rfl, a55, o54⟩
  replace a21 := a21.step o54 (a16.dis _ in1)
  replace h1 := h1.step o54 (sub2 sub1)
  replace h2 := h2.step o54 (sub2 sub1)
  replace f30 := f30.step o54 (sub2 sub1)
  replace f31 := f31.step o54 (sub2 sub1)
  replace f_v50_10 := f_v50_10.step o54 (sub2 sub1)
  replace oW := oW.tail o54 (fun k hk e => by have := g_oW_L15 k e; omega)
  replace o33 := o33.tail o54 (fun k _ e => (sub2 sub1) k e)
  replace o42 := o42.tail o54 (fun k _ e => (sub2 sub1) k e)
  replace a16 := a55
  refine wI (n_neq (a := (s2.noiseR (d : Int) ((d + 1 : Nat) : Int) (rr : Int))) (b := 0) rfl rfl (by rw [decide_eq_true hnz.1] <;> rfl)) ?_
  refine wF ([(zf32 0), u2, (eI heavy_), (eN (rr + 1)), (zf32 4), (zf32 5), (zf32 6), (zf32 7), (z 8), (ptr L15.bN 0), (zf32 10), (sli sb 0 6 6), u27, (eN k), (eN hv), (eN d), (eN 3), (zf32 17), (zf32 18), undef] ++ (zs zf32 20 15 ++ [(eN k), (eN (rr + 1)), (Value.bool (decide (k < (rr + 1))))] ++ (zs z 38 8 ++ [(eI heavy_), (eN ((heavy_ % ((6 : Nat) : Int)).toNat)), (eN d), (Value.bool (decide (d < 6))), (z 50), (z 51), (eN d), (eN hv), (Value.bool (decide (d = hv))), (ptr L15.bN 0), (eN d), (sli sb 0 6 6), (eN d), (ptr sb d), (eN (d + 1)), (eN (rr + 1)), (eN rr), u2, (eN 3), (v50 10), (eN (s2.noiseR (d : Int) ((d + 1 : Nat) : Int) (rr : Int))), vF] ++ (zs zf32 68 19 ++ (us 40 ++ (zs zf32 127 9)))))) ?_
  refine wD ?_
  have hJ_s3 := hnz.2
  obtain ⟨s3, e_s3⟩ : ∃ x_, s2.noise (d : Int) ((d + 1 : Nat) : Int) (rr : Int) (ofN ((noiseL ln 3))) = x_ := ⟨_, rfl⟩
  replace hJ_s3 := backR_to hJ_s3 e_s3
  replace a16 := nd_to a16 e_s3
  refine tN ?_
  refine cond_f rfl ?_
  refine wK ?_
  refine inb_n (tN ?_)
  refine pL ?_
  refine wI (d_move rfl) ?_
  refine wI (n_add (a := d) (b := 1) rfl rfl oo) ?_
  refine wI (d_assign rfl) ?_
  refine wD (tN ?_)
  refine ⟨_, ⟨d + 1, s3⟩, rfl, kr, ⟨?_, ?_, ?_, ?_, ?_⟩, ?_⟩
  ·
   (try dsimp only)
   all_goals (omega)
  ·
   exact hJ_s3
  ·
   exact o42
  ·
   exact a21
  ·
   exact a16
  ·
   (try dsimp only)
   all_goals (omega)
 refine wpIn_exit ?_
 refine then_x (then_x (inb_e ?_))
 refine tN ?_
 refine forget (fun zf56 => ([(zf56 0), (zf56 1), (zf56 2), (eN (rr + 1))] ++ (zs zf56 4 5 ++ [(ptr L15.bN 0), (zf56 10), (sli sb 0 6 6), u27, (eN k), (eN hv), (eN d), (z 16), (zf56 17), (zf56 18), undef] ++ (zs zf56 20 67 ++ (us 40 ++ (zs zf56 127 9)))))) kr (fun zf56 => ?_)
 refine wQ ?_
 have hd6_ : d = 6 := by omega
 have hK2 : BackR s2 (rr + 1) lb (zR ln hv rr 6) := hd6_ ▸ hK
 have hrd := (backR_read hK2 hrr).2.2
 refine pL ?_
 refine wI (d_move rfl) ?_
 refine wI (d_move rfl) ?_
 refine wI (d_move rfl) ?_
 refine wI (d_sub (k := .i64) (m := ((rr + 1 : Nat) : Int)) (n := 1) rfl rfl (r := (rr : Int)) (by rw [IntWalk.i64_in _ oo]; omega)) ?_
 refine wO (d_call (xl := [.tmp 69, .tmp 70, .tmp 72]) (al := [(ptr L15.bN 0), (sli sb 0 6 6), (eN rr)]) Try.func34 kr rfl rfl rfl (rowRead_ok L15 s2 _ a16 (lt_or1 a21.lt lt_no) ([1, 2, 3, 4, 5, 6] : List Int) (sli sb 0 6 6) (arr_keep a21 l_sb (Nat.le_refl _) (nx_ors (a16.dis _ in1) (fun _ _ t => t.elim))) fo (rr : Int))) ?_
 rintro _ w57 ⟨v59, vs60, rfl, h61, h62, a63, o64⟩
 obtain ⟨l65, f66, f67⟩ := h61 (show rowDoC s2.gD ([1, 2, 3, 4, 5, 6] : List Int).length (rowRC ([1, 2, 3, 4, 5, 6] : List Int) (rr : Int) s2) = 0 from (backR_read hK2 hrr).1)
 replace f66 := f66.less (Y := (Or1 sb (Ors L15.S (Old W.heap.size)))) (or1_old a21.lt (ors_old a16.lt (old_old oW.size)))
 replace f67 := f67.less (Y := (Or1 sb (Ors L15.S (Old W.heap.size)))) (or1_old a21.lt (ors_old a16.lt (old_old oW.size)))
 replace a21 := a21.step o64 (a16.dis _ in1)
 replace h1 := h1.step o64 (sub2 sub1)
 replace h2 := h2.step o64 (sub2 sub1)
 replace f30 := f30.step o64 (sub2 sub1)
 replace f31 := f31.step o64 (sub2 sub1)
 replace oW := oW.tail o64 (fun k hk e => by have := g_oW_L15 k e; omega)
 replace o33 := o33.tail o64 (fun k _ e => (sub2 sub1) k e)
 replace o42 := o42.tail o64 (fun k _ e => (sub2 sub1) k e)
 replace a16 := a63
 refine wF ([(zf56 0), (zf56 1), (zf56 2), (eN (rr + 1))] ++ (zs zf56 4 5 ++ [(ptr L15.bN 0), (zf56 10), (sli sb 0 6 6), u27, (eN k), (eN hv), (eN d), (z 16), (zf56 17), (zf56 18), undef] ++ (zs zf56 20 49 ++ [(ptr L15.bN 0), (sli sb 0 6 6), (eN (rr + 1)), (eN rr), (Value.tuple #[v59, (eN (rowDoC s2.gD ([1, 2, 3, 4, 5, 6] : List Int).length (rowRC ([1, 2, 3, 4, 5, 6] : List Int) (rr : Int) s2)))])] ++ (zs zf56 74 13 ++ (us 40 ++ (zs zf56 127 9)))))) ?_
 refine wI (d_move rfl) ?_
 refine wI (d_extract (v := v59) rfl rfl) ?_
 refine wI (d_extract (v := (eN (rowDoC s2.gD ([1, 2, 3, 4, 5, 6] : List Int).length (rowRC ([1, 2, 3, 4, 5, 6] : List Int) (rr : Int) s2)))) rfl rfl) ?_
 refine wI (d_assign rfl) ?_
 refine wI (d_assign rfl) ?_
 refine wF ([(zf56 0), (zf56 1), (zf56 2), (eN (rr + 1))] ++ (zs zf56 4 5 ++ [(ptr L15.bN 0), (zf56 10), (sli sb 0 6 6), u27, (eN k), (eN hv), (eN d), (z 16), v59, (eN (rowDoC s2.gD ([1, 2, 3, 4, 5, 6] : List Int).length (rowRC ([1, 2, 3, 4, 5, 6] : List Int) (rr : Int) s2))), undef] ++ (zs zf56 20 48 ++ [(Value.tuple #[v59, (eN (rowDoC s2.gD ([1, 2, 3, 4, 5, 6] : List Int).length (rowRC ([1, 2, 3, 4, 5, 6] : List Int) (rr : Int) s2)))]), (ptr L15.bN 0), (sli sb 0 6 6), (eN (rr + 1)), (eN rr), (Value.tuple #[v59, (eN (rowDoC s2.gD ([1, 2, 3, 4, 5, 6] : List Int).length (rowRC ([1, 2, 3, 4, 5, 6] : List Int) (rr : Int) s2)))]), v59, (eN (rowDoC s2.gD ([1, 2, 3, 4, 5, 6] : List Int).length (rowRC ([1, 2, 3, 4, 5, 6] : List Int) (rr : Int) s2)))] ++ (zs zf56 76 11 ++ (us 40 ++ (zs zf56 127 9)))))) ?_
 refine wD ?_
 have hJ_s4 := (backR_read hK2 hrr).2.1
 obtain ⟨s4, e_s4⟩ : ∃ x_, rowDo s2.gD ([1, 2, 3, 4, 5, 6] : List Int).length (rowR ([1, 2, 3, 4, 5, 6] : List Int) (rr : Int) s2) (rowRC ([1, 2, 3, 4, 5, 6] : List Int) (rr : Int) s2) = x_ := ⟨_, rfl⟩
 replace hJ_s4 := backR_to hJ_s4 e_s4
 replace a16 := nd_to a16 e_s4
 refine tN ?_
 refine forget (fun zf68 => (zs zf68 0 9 ++ [(ptr L15.bN 0), (zf68 10), (zf68 11), u27, (eN k), (eN hv), (eN d), (z 16), v59, (eN (rowDoC s2.gD ([1, 2, 3, 4, 5, 6] : List Int).length (rowRC ([1, 2, 3, 4, 5, 6] : List Int) (rr : Int) s2))), undef] ++ (zs zf68 20 67 ++ (us 40 ++ (zs zf68 127 9))))) kr (fun zf68 => ?_)
 refine wQ (wQ (pL ?_))
 refine wI (d_move rfl) ?_
 refine wI (n_neq (a := (rowDoC s2.gD ([1, 2, 3, 4, 5, 6] : List Int).length (rowRC ([1, 2, 3, 4, 5, 6] : List Int) (rr : Int) s2))) (b := 0) rfl rfl (by rw [decide_eq_true ((backR_read hK2 hrr).1)] <;> rfl)) ?_
 refine wI (d_move rfl) ?_
 refine wG (d_move rfl) ?_
 refine wG (d_lenS rfl Try.underlying53 rfl f66) ?_
 refine wF (zs zf68 0 9 ++ [(ptr L15.bN 0), (zf68 10), (zf68 11), u27, (eN k), (eN hv), (eN d), (z 16), v59, (eN (rowDoC s2.gD ([1, 2, 3, 4, 5, 6] : List Int).length (rowRC ([1, 2, 3, 4, 5, 6] : List Int) (rr : Int) s2))), undef] ++ (zs zf68 20 56 ++ [(eN (rowDoC s2.gD ([1, 2, 3, 4, 5, 6] : List Int).length (rowRC ([1, 2, 3, 4, 5, 6] : List Int) (rr : Int) s2))), vF, vF, v59, (eN ((pgRow (fun k_ => (pgD (rowRL ([1, 2, 3, 4, 5, 6] : List Int) (rr : Int) s2 k_)).1) vs60).length))] ++ (zs zf68 81 6 ++ (us 40 ++ (zs zf68 127 9))))) ?_
 refine wG (n_neq (a := ((pgRow (fun k_ => (pgD (rowRL ([1, 2, 3, 4, 5, 6] : List Int) (rr : Int) s2 k_)).1) vs60).length)) (b := 6) rfl rfl (by rw [decide_eq_true (by rw [pgRow_len, l65]; rfl)] <;> rfl)) ?_
 refine wI (d_pick (b := false) (v := vF) rfl rfl) ?_
 refine wD (tN ?_)
 refine cond_f rfl ?_
 refine wK (tN ?_)
 refine forget (fun zf69 => (zs zf69 0 9 ++ [(ptr L15.bN 0), (zf69 10), (zf69 11), u27, (eN k), (eN hv), (eN d), (z 16), v59, (zf69 18), undef] ++ (zs zf69 20 67 ++ (us 40 ++ (zs zf69 127 9))))) kr (fun zf69 => ?_)
 refine wQ (wQ (pL ?_))
 refine wI (d_assign rfl) ?_
 refine wD (tN (wB ?_))
 refine loop2 (fun (j : (Nat)) => fun (z : Nat → Value) => ((zs zf69 0 8 ++ [(z 8), (ptr L15.bN 0), (zf69 10), (zf69 11), u27, (eN k), (eN hv), (eN d), (z 16), v59, (zf69 18), (eN j)] ++ (zs zf69 20 63 ++ (zs z 83 45 ++ (zs zf69 128 8)))) : List Value)) (fun (j : (Nat)) => fun (w_ : World) => (j ≤ 6) ∧ Only (Or1 sb (Ors L15.S No)) w57 w_ ∧ Arr 3 sb (([1, 2, 3, 4, 5, 6] : List Int).map eI) w_ ∧ Nd L15 s4 (Or1 sb No) w_) (fun (j : (Nat)) => 6 - j) 0 kr ?_ ?_
 ·
  refine ⟨?_, ?_, ?_, ?_⟩
  ·
   (try dsimp only)
   all_goals (omega)
  ·
   exact Only.refl _ _
  ·
   exact a21
  ·
   exact a16
 rintro j z w71 ⟨hj, o70, a21, a16⟩
 (try dsimp only)
 replace h1 := h1.step o70 (or1_mono (ors_mono no_any))
 replace h2 := h2.step o70 (or1_mono (ors_mono no_any))
 replace f30 := f30.step o70 (or1_mono (ors_mono no_any))
 replace f31 := f31.step o70 (or1_mono (ors_mono no_any))
 replace f66 := f66.step o70 (or1_mono (ors_mono no_any))
 replace f67 := f67.step o70 (or1_mono (ors_mono no_any))
 replace oW := oW.tail o70 (tl_new g_oW_sb (tl_snew g_oW_L15 tl_no))
 replace o33 := o33.tail o70 (tl_in in1 (tl_sin (sub2 sub1) tl_no))
 replace o42 := o42.tail o70 (tl_in in1 (tl_sin (sub2 sub1) tl_no))
 refine wQ (wQ (pL ?_))
 refine wI (d_move rfl) ?_
 refine wI (n_lss (a := j) (b := 6) rfl rfl rfl) ?_
 refine wD (tN ?_)
 refine cond_if rfl (fun hj_ => ?_) (fun hj_ => ?_)
 ·
  refine wK (tN (wQ (wB (wQ ?_))))
  by_cases kg : pgD (rowRL ([1, 2, 3, 4, 5, 6] : List Int) (rr : Int) s2 j) = (2, plD lb 6 j)
  ·
   have hd7 : j < vs60.length := by rw [l65]; exact hj_
   have hpa := pgRow_at (st := (fun k_ => (pgD (rowRL ([1, 2, 3, 4, 5, 6] : List Int) (rr : Int) s2 k_)).1)) hd7
   have hpl := pgRow_len (fun k_ => (pgD (rowRL ([1, 2, 3, 4, 5, 6] : List Int) (rr : Int) s2 k_)).1) vs60
   have hp1 : ((pgRow (fun k_ => (pgD (rowRL ([1, 2, 3, 4, 5, 6] : List Int) (rr : Int) s2 k_)).1) vs60).getD j (0, undef)).1 = 2 := by rw [hpa]; exact congrArg Prod.fst kg
   have hp2 : (pgD (rowRL ([1, 2, 3, 4, 5, 6] : List Int) (rr : Int) s2 j)).2 = plD lb 6 j := congrArg Prod.snd kg
   have hfe := fam_at f67 hd7
   rw [show vs60.getD j undef = ((pgRow (fun k_ => (pgD (rowRL ([1, 2, 3, 4, 5, 6] : List Int) (rr : Int) s2 k_)).1) vs60).getD j (0, undef)).2 from by rw [hpa]] at hfe
   have hlen_ := l29
   have hfl := fam_at f31 (show j < 6 by omega)
   refine wp_eq (l' := (zs zf69 0 8 ++ [(z 8), (ptr L15.bN 0), (zf69 10), (zf69 11), u27, (eN k), (eN hv), (eN d), (z 16), v59, (zf69 18), (eN j)] ++ (zs zf69 20 63 ++ [(eN j), (Value.bool (decide (j < 6)))] ++ (zs z 85 43 ++ (zs zf69 128 8))))) rfl ?_
   refine drawn' (O := (Or1 sb (Ors L15.S No))) (n := 41) [0, 0, 3, 7, 15, 31, 63, 127, 127, 511, 1023, 2047, 4095, 127, 127, 24703, 57471, 123007, 262143, 524287, 1048575, 2097151, 2097151, 8388607, 16777215, 33554431, 67108863, 134217727, 268435455, 268435455, 1073741823, 2147483647, 4294967295, 8589934591, 17179869183, 17179869183, 68719476735, 137438953471, 274877906943, 549755813887, 1099511627775] [(0, 87), (1, 88), (2, 89), (3, 90), (4, 91), (5, 92), (6, 93), (7, 94), (8, 95), (9, 96), (10, 97), (11, 98), (12, 99), (13, 100), (14, 101), (15, 102), (16, 103), (17, 104), (18, 105), (19, 106), (20, 107), (21, 108), (22, 109), (23, 110), (24, 111), (25, 112), (26, 113), (27, 114), (28, 115), (29, 116), (30, 117), (31, 118), (32, 119), (33, 120), (34, 121), (35, 122), (36, 123), (37, 124), (38, 125), (39, 126), (40, 127)] [0, 1, 2, 3, 4, 5, 6, 7, 8, 9, 10, 11, 12, 13, 14, 15, 16, 17, 18, 19, 20, 21, 22, 23, 24, 25, 26, 27, 28, 29, 30, 31, 32, 33, 34, 35, 36, 37, 38, 39, 40] [] (fun i_ => ([RF.is (Or1 sb (Ors L15.S No)) v59, RF.is (Or1 sb (Ors L15.S No)) (eN j), RF.ps (Or1 sb (Ors L15.S No)) (Or1 sb (Ors L15.S (Old W.heap.size))) (At (kA 2 eG) ((pgRow (fun k_ => (pgD (rowRL ([1, 2, 3, 4, 5, 6] : List Int) (rr : Int) s2 k_)).1) vs60).getD j (0, undef))) (or1_mono (ors_mono no_any)), RF.ps (Or1 sb (Ors L15.S No)) (Or1 sb (Ors L15.S (Old W.heap.size))) (At kN (((pgRow (fun k_ => (pgD (rowRL ([1, 2, 3, 4, 5, 6] : List Int) (rr : Int) s2 k_)).1) vs60).getD j (0, undef)).1)) (or1_mono (ors_mono no_any)), RF.is (Or1 sb (Ors L15.S No)) (eN (((pgRow (fun k_ => (pgD (rowRL ([1, 2, 3, 4, 5, 6] : List Int) (rr : Int) s2 k_)).1) vs60).getD j (0, undef)).1)), RF.is (Or1 sb (Ors L15.S No)) vT, RF.is (Or1 sb (Ors L15.S No)) vT, RF.is (Or1 sb (Ors L15.S No)) v59, RF.is (Or1 sb (Ors L15.S No)) (eN j), RF.ps (Or1 sb (Ors L15.S No)) (Or1 sb (Ors L15.S (Old W.heap.size))) (At (kA 2 eG) ((pgRow (fun k_ => (pgD (rowRL ([1, 2, 3, 4, 5, 6] : List Int) (rr : Int) s2 k_)).1) vs60).getD j (0, undef))) (or1_mono (ors_mono no_any)), RF.ps (Or1 sb (Ors L15.S No)) (Or1 sb (Ors L15.S (Old W.heap.size))) (At (kS eV) (((pgRow (fun k_ => (pgD (rowRL ([1, 2, 3, 4, 5, 6] : List Int) (rr : Int) s2 k_)).1) vs60).getD j (0, undef)).2)) (or1_mono (ors_mono no_any)), RF.is (Or1 sb (Ors L15.S No)) ((pgRow (fun k_ => (pgD (rowRL ([1, 2, 3, 4, 5, 6] : List Int) (rr : Int) s2 k_)).1) vs60).getD j (0, undef)).2, RF.is (Or1 sb (Ors L15.S No)) (Value.string (strOf ((pgD (rowRL ([1, 2, 3, 4, 5, 6] : List Int) (rr : Int) s2 j)).2))), RF.is (Or1 sb (Ors L15.S No)) u27, RF.is (Or1 sb (Ors L15.S No)) (eN j), RF.is (Or1 sb (Ors L15.S No)) (ixp u27 j), RF.is (Or1 sb (Ors L15.S No)) (vs28.getD j undef), RF.is (Or1 sb (Ors L15.S No)) (Value.string (strOf (plD lb 6 j))), RF.is (Or1 sb (Ors L15.S No)) vF, RF.is (Or1 sb (Ors L15.S No)) vF, RF.is (Or1 sb (Ors L15.S No)) vF, RF.is (Or1 sb (Ors L15.S No)) v59, RF.is (Or1 sb (Ors L15.S No)) (eN j), RF.ps (Or1 sb (Ors L15.S No)) (Or1 sb (Ors L15.S (Old W.heap.size))) (At (kA 2 eG) ((pgRow (fun k_ => (pgD (rowRL ([1, 2, 3, 4, 5, 6] : List Int) (rr : Int) s2 k_)).1) vs60).getD j (0, undef))) (or1_mono (ors_mono no_any)), RF.ps (Or1 sb (Ors L15.S No)) (Or1 sb (Ors L15.S (Old W.heap.size))) (At kN (((pgRow (fun k_ => (pgD (rowRL ([1, 2, 3, 4, 5, 6] : List Int) (rr : Int) s2 k_)).1) vs60).getD j (0, undef)).1)) (or1_mono (ors_mono no_any)), RF.is (Or1 sb (Ors L15.S No)) (eN (((pgRow (fun k_ => (pgD (rowRL ([1, 2, 3, 4, 5, 6] : List Int) (rr : Int) s2 k_)).1) vs60).getD j (0, undef)).1)), RF.is (Or1 sb (Ors L15.S No)) vF, RF.is (Or1 sb (Ors L15.S No)) vF, RF.is (Or1 sb (Ors L15.S No)) undef, RF.is (Or1 sb (Ors L15.S No)) undef, RF.is (Or1 sb (Ors L15.S No)) undef, RF.is (Or1 sb (Ors L15.S No)) vF, RF.is (Or1 sb (Ors L15.S No)) vF, RF.is (Or1 sb (Ors L15.S No)) vF, RF.is (Or1 sb (Ors L15.S No)) v59, RF.is (Or1 sb (Ors L15.S No)) (eN j), RF.ps (Or1 sb (Ors L15.S No)) (Or1 sb (Ors L15.S (Old W.heap.size))) (At (kA 2 eG) ((pgRow (fun k_ => (pgD (rowRL ([1, 2, 3, 4, 5, 6] : List Int) (rr : Int) s2 k_)).1) vs60).getD j (0, undef))) (or1_mono (ors_mono no_any)), RF.ps (Or1 sb (Ors L15.S No)) (Or1 sb (Ors L15.S (Old W.heap.size))) (At kN (((pgRow (fun k_ => (pgD (rowRL ([1, 2, 3, 4, 5, 6] : List Int) (rr : Int) s2 k_)).1) vs60).getD j (0, undef)).1)) (or1_mono (ors_mono no_any)), RF.is (Or1 sb (Ors L15.S No)) (eN (((pgRow (fun k_ => (pgD (rowRL ([1, 2, 3, 4, 5, 6] : List Int) (rr : Int) s2 k_)).1) vs60).getD j (0, undef)).1)), RF.is (Or1 sb (Ors L15.S No)) vF, RF.is (Or1 sb (Ors L15.S No)) vF] : List (RF (Or1 sb (Ors L15.S No)))).getD i_ (RF.any (Or1 sb (Ors L15.S No)))) (fun _ w_ => Arr 3 sb (([1, 2, 3, 4, 5, 6] : List Int).map eI) w_ ∧ Nd L15 s4 (Or1 sb No) w_) (fun v72 => (zs zf69 0 8 ++ [(z 8), (ptr L15.bN 0), (zf69 10), (zf69 11), u27, (eN k), (eN hv), (eN d), (z 16), v59, (zf69 18), (eN j)] ++ (zs zf69 20 63 ++ [(eN j), (Value.bool (decide (j < 6))), (z 85), (z 86), (v72 0), (v72 1), (v72 2), (v72 3), (v72 4), (v72 5), (v72 6), (v72 7), (v72 8), (v72 9), (v72 10), (v72 11), (v72 12), (v72 13), (v72 14), (v72 15), (v72 16), (v72 17), (v72 18), (v72 19), (v72 20), (v72 21), (v72 22), (v72 23), (v72 24), (v72 25), (v72 26), (v72 27), (v72 28), (v72 29), (v72 30), (v72 31), (v72 32), (v72 33), (v72 34), (v72 35), (v72 36), (v72 37), (v72 38), (v72 39), (v72 40)] ++ (zs zf69 128 8)))) s_mx kr rfl kr (by rfl) (fun v_ => by kernel_rfl) (fun _ => fun w_ w2_ h ho => by obtain ⟨r_a21, r_a16⟩ := h; exact ⟨r_a21.step0 ho, r_a16.step0 ho⟩) ⟨a21, a16⟩ ?_ ?_ ?_
   ·
    refine ls_cons ?_ ?_
    ·
     intro v72 lo hi w_ k_ hO hd _ _ hk_ _ hR hold
     obtain ⟨r_a21, r_a16⟩ := hR
     clear hd hold
     refine ⟨_, rfl, gd rfl ?_⟩
     exact Does.is (d_move rfl)
    refine ls_cons ?_ ?_
    ·
     intro v72 lo hi w_ k_ hO hd _ _ hk_ _ hR hold
     obtain ⟨r_a21, r_a16⟩ := hR
     clear hd hold
     refine ⟨_, rfl, gd rfl ?_⟩
     exact Does.is (d_move rfl)
    refine ls_cons ?_ ?_
    ·
     intro v72 lo hi w_ k_ hO hd _ _ hk_ _ hR hold
     obtain ⟨r_a21, r_a16⟩ := hR
     have e0 : v72 0 = v59 := hd 0 kr
     have e1 : v72 1 = (eN j) := hd 1 kr
     clear hd hold
     refine ⟨_, rfl, gd rfl ?_⟩
     refine Does.mono (d_indexS (q := (kA 2 eG)) (xs := (pgRow (fun k_ => (pgD (rowRL ([1, 2, 3, 4, 5, 6] : List Int) (rr : Int) s2 k_)).1) vs60)) (v := ((pgRow (fun k_ => (pgD (rowRL ([1, 2, 3, 4, 5, 6] : List Int) (rr : Int) s2 k_)).1) vs60).getD j (0, undef))) Try.underlying53 s_ti32 e0 (f66.step hO (or1_mono (ors_mono no_any))) (show _ = Value.int _ (j : Int) from e1) oo (g_at (by have := pgRow_len (fun k_ => (pgD (rowRL ([1, 2, 3, 4, 5, 6] : List Int) (rr : Int) s2 k_)).1) vs60; first | omega | (simp; done) | (simp; omega)))) (fun u w' h => ⟨h.2 ▸ h.1, h.2 ▸ Only.refl _ _⟩)
    refine ls_cons ?_ ?_
    ·
     intro v72 lo hi w_ k_ hO hd _ _ hk_ _ hR hold
     obtain ⟨r_a21, r_a16⟩ := hR
     have d2 : Ps (Or1 sb (Ors L15.S (Old W.heap.size))) (At (kA 2 eG) ((pgRow (fun k_ => (pgD (rowRL ([1, 2, 3, 4, 5, 6] : List Int) (rr : Int) s2 k_)).1) vs60).getD j (0, undef)) (v72 2)) w_ := hd 2 kr
     clear hd hold
     refine ⟨_, rfl, gd rfl ?_⟩
     refine Does.mono (d_fieldG0 (v := ((pgRow (fun k_ => (pgD (rowRL ([1, 2, 3, 4, 5, 6] : List Int) (rr : Int) s2 k_)).1) vs60).getD j (0, undef))) Try.underlying32 rfl s_ti3 rfl rfl d2) (fun u w' h => ⟨h.2 ▸ h.1, h.2 ▸ Only.refl _ _⟩)
    refine ls_cons ?_ ?_
    ·
     intro v72 lo hi w_ k_ hO hd _ _ hk_ _ hR hold
     obtain ⟨r_a21, r_a16⟩ := hR
     have d3 : Ps (Or1 sb (Ors L15.S (Old W.heap.size))) (At kN (((pgRow (fun k_ => (pgD (rowRL ([1, 2, 3, 4, 5, 6] : List Int) (rr : Int) s2 k_)).1) vs60).getD j (0, undef)).1) (v72 3)) w_ := hd 3 kr
     clear hd hold
     refine ⟨_, rfl, gd rfl ?_⟩
     exact Does.is (d_loadAt (enc := eN) (v := ((pgRow (fun k_ => (pgD (rowRL ([1, 2, 3, 4, 5, 6] : List Int) (rr : Int) s2 k_)).1) vs60).getD j (0, undef)).1) ⟨_, Try.underlying3, rfl⟩ rfl d3)
    refine ls_cons ?_ ?_
    ·
     intro v72 lo hi w_ k_ hO hd _ _ hk_ _ hR hold
     obtain ⟨r_a21, r_a16⟩ := hR
     have e4 : v72 4 = (eN (((pgRow (fun k_ => (pgD (rowRL ([1, 2, 3, 4, 5, 6] : List Int) (rr : Int) s2 k_)).1) vs60).getD j (0, undef)).1)) := hd 4 kr
     clear hd hold
     refine ⟨_, rfl, gd rfl ?_⟩
     exact Does.is (n_eql (a := (((pgRow (fun k_ => (pgD (rowRL ([1, 2, 3, 4, 5, 6] : List Int) (rr : Int) s2 k_)).1) vs60).getD j (0, undef)).1)) (b := 2) e4 rfl (decide_eq_true hp1))
    refine ls_cons ?_ ?_
    ·
     intro v72 lo hi w_ k_ hO hd _ _ hk_ _ hR hold
     obtain ⟨r_a21, r_a16⟩ := hR
     have e5 : v72 5 = vT := hd 5 kr
     clear hd hold
     refine ⟨_, rfl, gd rfl ?_⟩
     exact Does.is (d_move (v := vT) e5)
    refine ls_cons ?_ ?_
    ·
     intro v72 lo hi w_ k_ hO hd _ _ hk_ _ hR hold
     obtain ⟨r_a21, r_a16⟩ := hR
     have e6 : v72 6 = vT := hd 6 kr
     clear hd hold
     refine ⟨_, rfl, gd_on rfl rfl rfl (nb rfl) e6 ?_⟩
     exact Does.is (d_move rfl)
    refine ls_cons ?_ ?_
    ·
     intro v72 lo hi w_ k_ hO hd _ _ hk_ _ hR hold
     obtain ⟨r_a21, r_a16⟩ := hR
     have e6 : v72 6 = vT := hd 6 kr
     clear hd hold
     refine ⟨_, rfl, gd_on rfl rfl rfl (nb rfl) e6 ?_⟩
     exact Does.is (d_move rfl)
    refine ls_cons ?_ ?_
    ·
     intro v72 lo hi w_ k_ hO hd _ _ hk_ _ hR hold
     obtain ⟨r_a21, r_a16⟩ := hR
     have e6 : v72 6 = vT := hd 6 kr
     have e7 : v72 7 = v59 := hd 7 kr
     have e8 : v72 8 = (eN j) := hd 8 kr
     clear hd hold
     refine ⟨_, rfl, gd_on rfl rfl rfl (nb rfl) e6 ?_⟩
     refine Does.mono (d_indexS (q := (kA 2 eG)) (xs := (pgRow (fun k_ => (pgD (rowRL ([1, 2, 3, 4, 5, 6] : List Int) (rr : Int) s2 k_)).1) vs60)) (v := ((pgRow (fun k_ => (pgD (rowRL ([1, 2, 3, 4, 5, 6] : List Int) (rr : Int) s2 k_)).1) vs60).getD j (0, undef))) Try.underlying53 s_ti32 e7 (f66.step hO (or1_mono (ors_mono no_any))) (show _ = Value.int _ (j : Int) from e8) oo (g_at (by have := pgRow_len (fun k_ => (pgD (rowRL ([1, 2, 3, 4, 5, 6] : List Int) (rr : Int) s2 k_)).1) vs60; first | omega | (simp; done) | (simp; omega)))) (fun u w' h => ⟨h.2 ▸ h.1, h.2 ▸ Only.refl _ _⟩)
    refine ls_cons ?_ ?_
    ·
     intro v72 lo hi w_ k_ hO hd _ _ hk_ _ hR hold
     obtain ⟨r_a21, r_a16⟩ := hR
     have e6 : v72 6 = vT := hd 6 kr
     have d9 : Ps (Or1 sb (Ors L15.S (Old W.heap.size))) (At (kA 2 eG) ((pgRow (fun k_ => (pgD (rowRL ([1, 2, 3, 4, 5, 6] : List Int) (rr : Int) s2 k_)).1) vs60).getD j (0, undef)) (v72 9)) w_ := hd 9 kr
     clear hd hold
     refine ⟨_, rfl, gd_on rfl rfl rfl (nb rfl) e6 ?_⟩
     refine Does.mono (d_fieldG1 (v := ((pgRow (fun k_ => (pgD (rowRL ([1, 2, 3, 4, 5, 6] : List Int) (rr : Int) s2 k_)).1) vs60).getD j (0, undef))) Try.underlying32 rfl s_ti22 rfl rfl d9) (fun u w' h => ⟨h.2 ▸ h.1, h.2 ▸ Only.refl _ _⟩)
    refine ls_cons ?_ ?_
    ·
     intro v72 lo hi w_ k_ hO hd _ _ hk_ _ hR hold
     obtain ⟨r_a21, r_a16⟩ := hR
     have d10 : Ps (Or1 sb (Ors L15.S (Old W.heap.size))) (At (kS eV) (((pgRow (fun k_ => (pgD (rowRL ([1, 2, 3, 4, 5, 6] : List Int) (rr : Int) s2 k_)).1) vs60).getD j (0, undef)).2) (v72 10)) w_ := hd 10 kr
     have e6 : v72 6 = vT := hd 6 kr
     clear hd hold
     refine ⟨_, rfl, gd_on rfl rfl rfl (nb rfl) e6 ?_⟩
     exact Does.is (d_loadAt (enc := eV) (v := ((pgRow (fun k_ => (pgD (rowRL ([1, 2, 3, 4, 5, 6] : List Int) (rr : Int) s2 k_)).1) vs60).getD j (0, undef)).2) ⟨_, Try.underlying22, rfl⟩ rfl d10)
    refine ls_cons ?_ ?_
    ·
     intro v72 lo hi w_ k_ hO hd _ _ hk_ _ hR hold
     obtain ⟨r_a21, r_a16⟩ := hR
     have e11 : v72 11 = ((pgRow (fun k_ => (pgD (rowRL ([1, 2, 3, 4, 5, 6] : List Int) (rr : Int) s2 k_)).1) vs60).getD j (0, undef)).2 := hd 11 kr
     have e6 : v72 6 = vT := hd 6 kr
     clear hd hold
     refine ⟨_, rfl, gd_on rfl rfl rfl (nb rfl) e6 ?_⟩
     exact Does.is (d_str Try.underlying22 Try.underlying5 Try.underlying9 e11 (hfe.step hO (or1_mono (ors_mono no_any))))
    refine ls_cons ?_ ?_
    ·
     intro v72 lo hi w_ k_ hO hd _ _ hk_ _ hR hold
     obtain ⟨r_a21, r_a16⟩ := hR
     have e6 : v72 6 = vT := hd 6 kr
     clear hd hold
     refine ⟨_, rfl, gd_on rfl rfl rfl (nb rfl) e6 ?_⟩
     exact Does.is (d_move rfl)
    refine ls_cons ?_ ?_
    ·
     intro v72 lo hi w_ k_ hO hd _ _ hk_ _ hR hold
     obtain ⟨r_a21, r_a16⟩ := hR
     have e6 : v72 6 = vT := hd 6 kr
     clear hd hold
     refine ⟨_, rfl, gd_on rfl rfl rfl (nb rfl) e6 ?_⟩
     exact Does.is (d_move rfl)
    refine ls_cons ?_ ?_
    ·
     intro v72 lo hi w_ k_ hO hd _ _ hk_ _ hR hold
     obtain ⟨r_a21, r_a16⟩ := hR
     have e13 : v72 13 = u27 := hd 13 kr
     have e14 : v72 14 = (eN j) := hd 14 kr
     have e6 : v72 6 = vT := hd 6 kr
     clear hd hold
     refine ⟨_, rfl, gd_on rfl rfl rfl (nb rfl) e6 ?_⟩
     exact Does.is (d_ix (i := j) (xs := vs28) Try.underlying29 s_ti22 e13 (f30.step hO (or1_mono (ors_mono no_any))) (show _ = Value.int _ (j : Int) from e14) fo)
    refine ls_cons ?_ ?_
    ·
     intro v72 lo hi w_ k_ hO hd _ _ hk_ _ hR hold
     obtain ⟨r_a21, r_a16⟩ := hR
     have e15 : v72 15 = (ixp u27 j) := hd 15 kr
     have e6 : v72 6 = vT := hd 6 kr
     clear hd hold
     refine ⟨_, rfl, gd_on rfl rfl rfl (nb rfl) e6 ?_⟩
     exact Does.is (d_ldx (i := j) (xs := vs28) (enc := eV) (v := (vs28.getD j undef)) ⟨_, Try.underlying22, rfl⟩ e15 (f30.step hO (or1_mono (ors_mono no_any))) (g_at fo))
    refine ls_cons ?_ ?_
    ·
     intro v72 lo hi w_ k_ hO hd _ _ hk_ _ hR hold
     obtain ⟨r_a21, r_a16⟩ := hR
     have e16 : v72 16 = (vs28.getD j undef) := hd 16 kr
     have e6 : v72 6 = vT := hd 6 kr
     clear hd hold
     refine ⟨_, rfl, gd_on rfl rfl rfl (nb rfl) e6 ?_⟩
     exact Does.is (d_str Try.underlying22 Try.underlying5 Try.underlying9 e16 (hfl.step hO (or1_mono (ors_mono no_any))))
    refine ls_cons ?_ ?_
    ·
     intro v72 lo hi w_ k_ hO hd _ _ hk_ _ hR hold
     obtain ⟨r_a21, r_a16⟩ := hR
     have e12 : v72 12 = (Value.string (strOf ((pgD (rowRL ([1, 2, 3, 4, 5, 6] : List Int) (rr : Int) s2 j)).2))) := hd 12 kr
     have e17 : v72 17 = (Value.string (strOf (plD lb 6 j))) := hd 17 kr
     have e6 : v72 6 = vT := hd 6 kr
     clear hd hold
     refine ⟨_, rfl, gd_on rfl rfl rfl (nb rfl) e6 ?_⟩
     exact Does.is (d_sneq (a := ((pgD (rowRL ([1, 2, 3, 4, 5, 6] : List Int) (rr : Int) s2 j)).2)) (c := (plD lb 6 j)) e12 e17 (by rw [decide_eq_true hp2] <;> rfl))
    refine ls_cons ?_ ?_
    ·
     intro v72 lo hi w_ k_ hO hd _ _ hk_ _ hR hold
     obtain ⟨r_a21, r_a16⟩ := hR
     have e18 : v72 18 = vF := hd 18 kr
     have e6 : v72 6 = vT := hd 6 kr
     clear hd hold
     refine ⟨_, rfl, gd rfl ?_⟩
     exact Does.is (d_pick (b := true) (v := vF) e6 e18)
    refine ls_cons ?_ ?_
    ·
     intro v72 lo hi w_ k_ hO hd _ _ hk_ _ hR hold
     obtain ⟨r_a21, r_a16⟩ := hR
     have e19 : v72 19 = vF := hd 19 kr
     clear hd hold
     refine ⟨_, rfl, gd rfl ?_⟩
     exact Does.is (d_move (v := vF) e19)
    refine ls_cons ?_ ?_
    ·
     intro v72 lo hi w_ k_ hO hd _ _ hk_ _ hR hold
     obtain ⟨r_a21, r_a16⟩ := hR
     have e20 : v72 20 = vF := hd 20 kr
     clear hd hold
     refine ⟨_, rfl, gd_on rfl rfl rfl (nb rfl) e20 ?_⟩
     exact Does.is (d_move rfl)
    refine ls_cons ?_ ?_
    ·
     intro v72 lo hi w_ k_ hO hd _ _ hk_ _ hR hold
     obtain ⟨r_a21, r_a16⟩ := hR
     have e20 : v72 20 = vF := hd 20 kr
     clear hd hold
     refine ⟨_, rfl, gd_on rfl rfl rfl (nb rfl) e20 ?_⟩
     exact Does.is (d_move rfl)
    refine ls_cons ?_ ?_
    ·
     intro v72 lo hi w_ k_ hO hd _ _ hk_ _ hR hold
     obtain ⟨r_a21, r_a16⟩ := hR
     have e20 : v72 20 = vF := hd 20 kr
     have e21 : v72 21 = v59 := hd 21 kr
     have e22 : v72 22 = (eN j) := hd 22 kr
     clear hd hold
     refine ⟨_, rfl, gd_on rfl rfl rfl (nb rfl) e20 ?_⟩
     refine Does.mono (d_indexS (q := (kA 2 eG)) (xs := (pgRow (fun k_ => (pgD (rowRL ([1, 2, 3, 4, 5, 6] : List Int) (rr : Int) s2 k_)).1) vs60)) (v := ((pgRow (fun k_ => (pgD (rowRL ([1, 2, 3, 4, 5, 6] : List Int) (rr : Int) s2 k_)).1) vs60).getD j (0, undef))) Try.underlying53 s_ti32 e21 (f66.step hO (or1_mono (ors_mono no_any))) (show _ = Value.int _ (j : Int) from e22) oo (g_at (by have := pgRow_len (fun k_ => (pgD (rowRL ([1, 2, 3, 4, 5, 6] : List Int) (rr : Int) s2 k_)).1) vs60; first | omega | (simp; done) | (simp; omega)))) (fun u w' h => ⟨h.2 ▸ h.1, h.2 ▸ Only.refl _ _⟩)
    refine ls_cons ?_ ?_
    ·
     intro v72 lo hi w_ k_ hO hd _ _ hk_ _ hR hold
     obtain ⟨r_a21, r_a16⟩ := hR
     have e20 : v72 20 = vF := hd 20 kr
     have d23 : Ps (Or1 sb (Ors L15.S (Old W.heap.size))) (At (kA 2 eG) ((pgRow (fun k_ => (pgD (rowRL ([1, 2, 3, 4, 5, 6] : List Int) (rr : Int) s2 k_)).1) vs60).getD j (0, undef)) (v72 23)) w_ := hd 23 kr
     clear hd hold
     refine ⟨_, rfl, gd_on rfl rfl rfl (nb rfl) e20 ?_⟩
     refine Does.mono (d_fieldG0 (v := ((pgRow (fun k_ => (pgD (rowRL ([1, 2, 3, 4, 5, 6] : List Int) (rr : Int) s2 k_)).1) vs60).getD j (0, undef))) Try.underlying32 rfl s_ti3 rfl rfl d23) (fun u w' h => ⟨h.2 ▸ h.1, h.2 ▸ Only.refl _ _⟩)
    refine ls_cons ?_ ?_
    ·
     intro v72 lo hi w_ k_ hO hd _ _ hk_ _ hR hold
     obtain ⟨r_a21, r_a16⟩ := hR
     have e20 : v72 20 = vF := hd 20 kr
     have d24 : Ps (Or1 sb (Ors L15.S (Old W.heap.size))) (At kN (((pgRow (fun k_ => (pgD (rowRL ([1, 2, 3, 4, 5, 6] : List Int) (rr : Int) s2 k_)).1) vs60).getD j (0, undef)).1) (v72 24)) w_ := hd 24 kr
     clear hd hold
     refine ⟨_, rfl, gd_on rfl rfl rfl (nb rfl) e20 ?_⟩
     exact Does.is (d_loadAt (enc := eN) (v := ((pgRow (fun k_ => (pgD (rowRL ([1, 2, 3, 4, 5, 6] : List Int) (rr : Int) s2 k_)).1) vs60).getD j (0, undef)).1) ⟨_, Try.underlying3, rfl⟩ rfl d24)
    refine ls_cons ?_ ?_
    ·
     intro v72 lo hi w_ k_ hO hd _ _ hk_ _ hR hold
     obtain ⟨r_a21, r_a16⟩ := hR
     have e20 : v72 20 = vF := hd 20 kr
     have e25 : v72 25 = (eN (((pgRow (fun k_ => (pgD (rowRL ([1, 2, 3, 4, 5, 6] : List Int) (rr : Int) s2 k_)).1) vs60).getD j (0, undef)).1)) := hd 25 kr
     clear hd hold
     refine ⟨_, rfl, gd_on rfl rfl rfl (nb rfl) e20 ?_⟩
     exact Does.is (n_neq (a := (((pgRow (fun k_ => (pgD (rowRL ([1, 2, 3, 4, 5, 6] : List Int) (rr : Int) s2 k_)).1) vs60).getD j (0, undef)).1)) (b := 2) e25 rfl (by rw [decide_eq_true hp1] <;> rfl))
    refine ls_cons ?_ ?_
    ·
     intro v72 lo hi w_ k_ hO hd _ _ hk_ _ hR hold
     obtain ⟨r_a21, r_a16⟩ := hR
     have e20 : v72 20 = vF := hd 20 kr
     have e26 : v72 26 = vF := hd 26 kr
     clear hd hold
     refine ⟨_, rfl, gd_on rfl rfl rfl (nb rfl) e20 ?_⟩
     exact Does.is (d_move (v := vF) e26)
    refine ls_cons ?_ ?_
    ·
     intro v72 lo hi w_ k_ hO hd _ _ hk_ _ hR hold
     obtain ⟨r_a21, r_a16⟩ := hR
     have e27 : v72 27 = vF := hd 27 kr
     clear hd hold
     refine ⟨_, rfl, gd_off rfl rfl rfl (nb rfl) e27 ?_⟩
     exact ⟨rfl, Only.refl _ _⟩
    refine ls_cons ?_ ?_
    ·
     intro v72 lo hi w_ k_ hO hd _ _ hk_ _ hR hold
     obtain ⟨r_a21, r_a16⟩ := hR
     have e27 : v72 27 = vF := hd 27 kr
     clear hd hold
     refine ⟨_, rfl, gd_off rfl rfl rfl (nb rfl) e27 ?_⟩
     exact ⟨rfl, Only.refl _ _⟩
    refine ls_cons ?_ ?_
    ·
     intro v72 lo hi w_ k_ hO hd _ _ hk_ _ hR hold
     obtain ⟨r_a21, r_a16⟩ := hR
     have e27 : v72 27 = vF := hd 27 kr
     clear hd hold
     refine ⟨_, rfl, gd_off rfl rfl rfl (nb rfl) e27 ?_⟩
     exact ⟨rfl, Only.refl _ _⟩
    refine ls_cons ?_ ?_
    ·
     intro v72 lo hi w_ k_ hO hd _ _ hk_ _ hR hold
     obtain ⟨r_a21, r_a16⟩ := hR
     have e20 : v72 20 = vF := hd 20 kr
     have e27 : v72 27 = vF := hd 27 kr
     clear hd hold
     refine ⟨_, rfl, gd_on rfl rfl rfl (nb rfl) e20 ?_⟩
     exact Does.is (d_pick (b := false) (v := vF) e27 rfl)
    refine ls_cons ?_ ?_
    ·
     intro v72 lo hi w_ k_ hO hd _ _ hk_ _ hR hold
     obtain ⟨r_a21, r_a16⟩ := hR
     have e20 : v72 20 = vF := hd 20 kr
     have e31 : v72 31 = vF := hd 31 kr
     clear hd hold
     refine ⟨_, rfl, gd rfl ?_⟩
     exact Does.is (d_pick (b := false) (v := vF) e20 e31)
    refine ls_cons ?_ ?_
    ·
     intro v72 lo hi w_ k_ hO hd _ _ hk_ _ hR hold
     obtain ⟨r_a21, r_a16⟩ := hR
     have e32 : v72 32 = vF := hd 32 kr
     clear hd hold
     refine ⟨_, rfl, gd rfl ?_⟩
     exact Does.is (d_move (v := vF) e32)
    refine ls_cons ?_ ?_
    ·
     intro v72 lo hi w_ k_ hO hd _ _ hk_ _ hR hold
     obtain ⟨r_a21, r_a16⟩ := hR
     have e33 : v72 33 = vF := hd 33 kr
     clear hd hold
     refine ⟨_, rfl, gd_on rfl rfl rfl (nb rfl) e33 ?_⟩
     exact Does.is (d_move rfl)
    refine ls_cons ?_ ?_
    ·
     intro v72 lo hi w_ k_ hO hd _ _ hk_ _ hR hold
     obtain ⟨r_a21, r_a16⟩ := hR
     have e33 : v72 33 = vF := hd 33 kr
     clear hd hold
     refine ⟨_, rfl, gd_on rfl rfl rfl (nb rfl) e33 ?_⟩
     exact Does.is (d_move rfl)
    refine ls_cons ?_ ?_
    ·
     intro v72 lo hi w_ k_ hO hd _ _ hk_ _ hR hold
     obtain ⟨r_a21, r_a16⟩ := hR
     have e33 : v72 33 = vF := hd 33 kr
     have e34 : v72 34 = v59 := hd 34 kr
     have e35 : v72 35 = (eN j) := hd 35 kr
     clear hd hold
     refine ⟨_, rfl, gd_on rfl rfl rfl (nb rfl) e33 ?_⟩
     refine Does.mono (d_indexS (q := (kA 2 eG)) (xs := (pgRow (fun k_ => (pgD (rowRL ([1, 2, 3, 4, 5, 6] : List Int) (rr : Int) s2 k_)).1) vs60)) (v := ((pgRow (fun k_ => (pgD (rowRL ([1, 2, 3, 4, 5, 6] : List Int) (rr : Int) s2 k_)).1) vs60).getD j (0, undef))) Try.underlying53 s_ti32 e34 (f66.step hO (or1_mono (ors_mono no_any))) (show _ = Value.int _ (j : Int) from e35) oo (g_at (by have := pgRow_len (fun k_ => (pgD (rowRL ([1, 2, 3, 4, 5, 6] : List Int) (rr : Int) s2 k_)).1) vs60; first | omega | (simp; done) | (simp; omega)))) (fun u w' h => ⟨h.2 ▸ h.1, h.2 ▸ Only.refl _ _⟩)
    refine ls_cons ?_ ?_
    ·
     intro v72 lo hi w_ k_ hO hd _ _ hk_ _ hR hold
     obtain ⟨r_a21, r_a16⟩ := hR
     have e33 : v72 33 = vF := hd 33 kr
     have d36 : Ps (Or1 sb (Ors L15.S (Old W.heap.size))) (At (kA 2 eG) ((pgRow (fun k_ => (pgD (rowRL ([1, 2, 3, 4, 5, 6] : List Int) (rr : Int) s2 k_)).1) vs60).getD j (0, undef)) (v72 36)) w_ := hd 36 kr
     clear hd hold
     refine ⟨_, rfl, gd_on rfl rfl rfl (nb rfl) e33 ?_⟩
     refine Does.mono (d_fieldG0 (v := ((pgRow (fun k_ => (pgD (rowRL ([1, 2, 3, 4, 5, 6] : List Int) (rr : Int) s2 k_)).1) vs60).getD j (0, undef))) Try.underlying32 rfl s_ti3 rfl rfl d36) (fun u w' h => ⟨h.2 ▸ h.1, h.2 ▸ Only.refl _ _⟩)
    refine ls_cons ?_ ?_
    ·
     intro v72 lo hi w_ k_ hO hd _ _ hk_ _ hR hold
     obtain ⟨r_a21, r_a16⟩ := hR
     have e33 : v72 33 = vF := hd 33 kr
     have d37 : Ps (Or1 sb (Ors L15.S (Old W.heap.size))) (At kN (((pgRow (fun k_ => (pgD (rowRL ([1, 2, 3, 4, 5, 6] : List Int) (rr : Int) s2 k_)).1) vs60).getD j (0, undef)).1) (v72 37)) w_ := hd 37 kr
     clear hd hold
     refine ⟨_, rfl, gd_on rfl rfl rfl (nb rfl) e33 ?_⟩
     exact Does.is (d_loadAt (enc := eN) (v := ((pgRow (fun k_ => (pgD (rowRL ([1, 2, 3, 4, 5, 6] : List Int) (rr : Int) s2 k_)).1) vs60).getD j (0, undef)).1) ⟨_, Try.underlying3, rfl⟩ rfl d37)
    refine ls_cons ?_ ?_
    ·
     intro v72 lo hi w_ k_ hO hd _ _ hk_ _ hR hold
     obtain ⟨r_a21, r_a16⟩ := hR
     have e33 : v72 33 = vF := hd 33 kr
     have e38 : v72 38 = (eN (((pgRow (fun k_ => (pgD (rowRL ([1, 2, 3, 4, 5, 6] : List Int) (rr : Int) s2 k_)).1) vs60).getD j (0, undef)).1)) := hd 38 kr
     clear hd hold
     refine ⟨_, rfl, gd_on rfl rfl rfl (nb rfl) e33 ?_⟩
     exact Does.is (n_eql (a := (((pgRow (fun k_ => (pgD (rowRL ([1, 2, 3, 4, 5, 6] : List Int) (rr : Int) s2 k_)).1) vs60).getD j (0, undef)).1)) (b := 0) e38 rfl (decide_eq_false (by rw [hp1]; decide)))
    refine ls_cons ?_ ?_
    ·
     intro v72 lo hi w_ k_ hO hd _ _ hk_ _ hR hold
     obtain ⟨r_a21, r_a16⟩ := hR
     have e33 : v72 33 = vF := hd 33 kr
     have e39 : v72 39 = vF := hd 39 kr
     clear hd hold
     refine ⟨_, rfl, gd rfl ?_⟩
     exact Does.is (d_pick (b := false) (v := vF) e33 e39)
    exact ls_nil
   ·
    exact ms_nil
   intro v72 lo_ hi_ w73 o74 hd iv_ hR
   have e0 : v72 0 = v59 := hd 0 (by decide)
   have e1 : v72 1 = (eN j) := hd 1 (by decide)
   have e4 : v72 4 = (eN (((pgRow (fun k_ => (pgD (rowRL ([1, 2, 3, 4, 5, 6] : List Int) (rr : Int) s2 k_)).1) vs60).getD j (0, undef)).1)) := hd 4 (by decide)
   have e5 : v72 5 = vT := hd 5 (by decide)
   have e6 : v72 6 = vT := hd 6 (by decide)
   have e7 : v72 7 = v59 := hd 7 (by decide)
   have e8 : v72 8 = (eN j) := hd 8 (by decide)
   have e11 : v72 11 = ((pgRow (fun k_ => (pgD (rowRL ([1, 2, 3, 4, 5, 6] : List Int) (rr : Int) s2 k_)).1) vs60).getD j (0, undef)).2 := hd 11 (by decide)
   have e12 : v72 12 = (Value.string (strOf ((pgD (rowRL ([1, 2, 3, 4, 5, 6] : List Int) (rr : Int) s2 j)).2))) := hd 12 (by decide)
   have e13 : v72 13 = u27 := hd 13 (by decide)
   have e14 : v72 14 = (eN j) := hd 14 (by decide)
   have e15 : v72 15 = (ixp u27 j) := hd 15 (by decide)
   have e16 : v72 16 = (vs28.getD j undef) := hd 16 (by decide)
   have e17 : v72 17 = (Value.string (strOf (plD lb 6 j))) := hd 17 (by decide)
   have e18 : v72 18 = vF := hd 18 (by decide)
   have e19 : v72 19 = vF := hd 19 (by decide)
   have e20 : v72 20 = vF := hd 20 (by decide)
   have e21 : v72 21 = v59 := hd 21 (by decide)
   have e22 : v72 22 = (eN j) := hd 22 (by decide)
   have e25 : v72 25 = (eN (((pgRow (fun k_ => (pgD (rowRL ([1, 2, 3, 4, 5, 6] : List Int) (rr : Int) s2 k_)).1) vs60).getD j (0, undef)).1)) := hd 25 (by decide)
   have e26 : v72 26 = vF := hd 26 (by decide)
   have e27 : v72 27 = vF := hd 27 (by decide)
   have e28 : v72 28 = undef := hd 28 (by decide)
   have e29 : v72 29 = undef := hd 29 (by decide)
   have e30 : v72 30 = undef := hd 30 (by decide)
   have e31 : v72 31 = vF := hd 31 (by decide)
   have e32 : v72 32 = vF := hd 32 (by decide)
   have e33 : v72 33 = vF := hd 33 (by decide)
   have e34 : v72 34 = v59 := hd 34 (by decide)
   have e35 : v72 35 = (eN j) := hd 35 (by decide)
   have e38 : v72 38 = (eN (((pgRow (fun k_ => (pgD (rowRL ([1, 2, 3, 4, 5, 6] : List Int) (rr : Int) s2 k_)).1) vs60).getD j (0, undef)).1)) := hd 38 (by decide)
   have e39 : v72 39 = vF := hd 39 (by decide)
   have e40 : v72 40 = vF := hd 40 (by decide)
   have f_v72_2 : Ps (Or1 sb (Ors L15.S (Old W.heap.size))) (At (kA 2 eG) ((pgRow (fun k_ => (pgD (rowRL ([1, 2, 3, 4, 5, 6] : List Int) (rr : Int) s2 k_)).1) vs60).getD j (0, undef)) (v72 2)) w73 := hd 2 (by decide)
   have f_v72_3 : Ps (Or1 sb (Ors L15.S (Old W.heap.size))) (At kN (((pgRow (fun k_ => (pgD (rowRL ([1, 2, 3, 4, 5, 6] : List Int) (rr : Int) s2 k_)).1) vs60).getD j (0, undef)).1) (v72 3)) w73 := hd 3 (by decide)
   have f_v72_9 : Ps (Or1 sb (Ors L15.S (Old W.heap.size))) (At (kA 2 eG) ((pgRow (fun k_ => (pgD (rowRL ([1, 2, 3, 4, 5, 6] : List Int) (rr : Int) s2 k_)).1) vs60).getD j (0, undef)) (v72 9)) w73 := hd 9 (by decide)
   have f_v72_10 : Ps (Or1 sb (Ors L15.S (Old W.heap.size))) (At (kS eV) (((pgRow (fun k_ => (pgD (rowRL ([1, 2, 3, 4, 5, 6] : List Int) (rr : Int) s2 k_)).1) vs60).getD j (0, undef)).2) (v72 10)) w73 := hd 10 (by decide)
   have f_v72_23 : Ps (Or1 sb (Ors L15.S (Old W.heap.size))) (At (kA 2 eG) ((pgRow (fun k_ => (pgD (rowRL ([1, 2, 3, 4, 5, 6] : List Int) (rr : Int) s2 k_)).1) vs60).getD j (0, undef)) (v72 23)) w73 := hd 23 (by decide)
   have f_v72_24 : Ps (Or1 sb (Ors L15.S (Old W.heap.size))) (At kN (((pgRow (fun k_ => (pgD (rowRL ([1, 2, 3, 4, 5, 6] : List Int) (rr : Int) s2 k_)).1) vs60).getD j (0, undef)).1) (v72 24)) w73 := hd 24 (by decide)
   have f_v72_36 : Ps (Or1 sb (Ors L15.S (Old W.heap.size))) (At (kA 2 eG) ((pgRow (fun k_ => (pgD (rowRL ([1, 2, 3, 4, 5, 6] : List Int) (rr : Int) s2 k_)).1) vs60).getD j (0, undef)) (v72 36)) w73 := hd 36 (by decide)
   have f_v72_37 : Ps (Or1 sb (Ors L15.S (Old W.heap.size))) (At kN (((pgRow (fun k_ => (pgD (rowRL ([1, 2, 3, 4, 5, 6] : List Int) (rr : Int) s2 k_)).1) vs60).getD j (0, undef)).1) (v72 37)) w73 := hd 37 (by decide)
   clear hd iv_ lo_ hi_
   refine fr_eq (l' := (zs zf69 0 8 ++ [(z 8), (ptr L15.bN 0), (zf69 10), (zf69 11), u27, (eN k), (eN hv), (eN d), (z 16), v59, (zf69 18), (eN j)] ++ (zs zf69 20 63 ++ [(eN j), (Value.bool (decide (j < 6))), (z 85), (z 86), v59, (eN j), (v72 2), (v72 3), (eN (((pgRow (fun k_ => (pgD (rowRL ([1, 2, 3, 4, 5, 6] : List Int) (rr : Int) s2 k_)).1) vs60).getD j (0, undef)).1)), vT, vT, v59, (eN j), (v72 9), (v72 10), ((pgRow (fun k_ => (pgD (rowRL ([1, 2, 3, 4, 5, 6] : List Int) (rr : Int) s2 k_)).1) vs60).getD j (0, undef)).2, (Value.string (strOf ((pgD (rowRL ([1, 2, 3, 4, 5, 6] : List Int) (rr : Int) s2 j)).2))), u27, (eN j), (ixp u27 j), (vs28.getD j undef), (Value.string (strOf (plD lb 6 j))), vF, vF, vF, v59, (eN j), (v72 23), (v72 24), (eN (((pgRow (fun k_ => (pgD (rowRL ([1, 2, 3, 4, 5, 6] : List Int) (rr : Int) s2 k_)).1) vs60).getD j (0, undef)).1)), vF, vF, undef, undef, undef, vF, vF, vF, v59, (eN j), (v72 36), (v72 37), (eN (((pgRow (fun k_ => (pgD (rowRL ([1, 2, 3, 4, 5, 6] : List Int) (rr : Int) s2 k_)).1) vs60).getD j (0, undef)).1)), vF, vF] ++ (zs zf69 128 8)))) (by rw [e0, e1, e4, e5, e6, e7, e8, e11, e12, e13, e14, e15, e16, e17, e18, e19, e20, e21, e22, e25, e26, e27, e28, e29, e30, e31, e32, e33, e34, e35, e38, e39, e40] <;> rfl) ?_
   clear e0 e1 e4 e5 e6 e7 e8 e11 e12 e13 e14 e15 e16 e17 e18 e19 e20 e21 e22 e25 e26 e27 e28 e29 e30 e31 e32 e33 e34 e35 e38 e39 e40
   replace h1 := h1.step o74 (or1_mono (ors_mono no_any))
   replace h2 := h2.step o74 (or1_mono (ors_mono no_any))
   replace f30 := f30.step o74 (or1_mono (ors_mono no_any))
   replace f31 := f31.step o74 (or1_mono (ors_mono no_any))
   replace f66 := f66.step o74 (or1_mono (ors_mono no_any))
   replace f67 := f67.step o74 (or1_mono (ors_mono no_any))
   replace hfe := hfe.step o74 (or1_mono (ors_mono no_any))
   replace hfl := hfl.step o74 (or1_mono (ors_mono no_any))
   obtain ⟨xr_a21, xr_a16⟩ := hR
   replace a21 : Arr 3 sb (([1, 2, 3, 4, 5, 6] : List Int).map eI) w73 := xr_a21
   replace a16 := xr_a16
   clear xr_a21 xr_a16
   replace oW := oW.tail o74 (tl_new g_oW_sb (tl_snew g_oW_L15 tl_no))
   replace o33 := o33.tail o74 (tl_in in1 (tl_sin (sub2 sub1) tl_no))
   replace o42 := o42.tail o74 (tl_in in1 (tl_sin (sub2 sub1) tl_no))
   replace o70 := o70.tail o74 (tl_in in1 (tl_sin (sub2 sub1) tl_no))
   refine tN ?_
   refine cond_f rfl ?_
   refine wK ?_
   refine inb_n (tN ?_)
   refine pL ?_
   refine wI (d_move rfl) ?_
   refine wI (n_add (a := j) (b := 1) rfl rfl oo) ?_
   refine wI (d_assign rfl) ?_
   refine wD (tN ?_)
   refine ⟨_, (j + 1), rfl, kr, ⟨?_, ?_, ?_, ?_⟩, ?_⟩
   ·
    (try dsimp only)
    all_goals (omega)
   ·
    exact o70
   ·
    exact a21
   ·
    exact a16
   ·
    (try dsimp only)
    all_goals (omega)
  have hd7 : j < vs60.length := by rw [l65]; exact hj_
  have hpa := pgRow_at (st := (fun k_ => (pgD (rowRL ([1, 2, 3, 4, 5, 6] : List Int) (rr : Int) s2 k_)).1)) hd7
  have hpl := pgRow_len (fun k_ => (pgD (rowRL ([1, 2, 3, 4, 5, 6] : List Int) (rr : Int) s2 k_)).1) vs60
  obtain ⟨hr1, hr2⟩ := (hrd j hj_).resolve_left kg
  have hp1 : ((pgRow (fun k_ => (pgD (rowRL ([1, 2, 3, 4, 5, 6] : List Int) (rr : Int) s2 k_)).1) vs60).getD j (0, undef)).1 = 1 := by rw [hpa]; exact congrArg Prod.fst hr1
  refine wp_eq (l' := (zs zf69 0 8 ++ [(z 8), (ptr L15.bN 0), (zf69 10), (zf69 11), u27, (eN k), (eN hv), (eN d), (z 16), v59, (zf69 18), (eN j)] ++ (zs zf69 20 63 ++ [(eN j), (Value.bool (decide (j < 6)))] ++ (zs z 85 43 ++ (zs zf69 128 8))))) rfl ?_
  refine drawn' (O := (Or1 sb (Ors L15.S No))) (n := 41) [0, 0, 3, 7, 15, 31, 63, 127, 127, 511, 1023, 2047, 4095, 127, 127, 24703, 57471, 123007, 262143, 524287, 1048575, 2097151, 2097151, 8388607, 16777215, 33554431, 67108863, 134217727, 268435455, 268435455, 1073741823, 2147483647, 4294967295, 8589934591, 17179869183, 17179869183, 68719476735, 137438953471, 274877906943, 549755813887, 1099511627775] [(0, 87), (1, 88), (2, 89), (3, 90), (4, 91), (5, 92), (6, 93), (7, 94), (8, 95), (9, 96), (10, 97), (11, 98), (12, 99), (13, 100), (14, 101), (15, 102), (16, 103), (17, 104), (18, 105), (19, 106), (20, 107), (21, 108), (22, 109), (23, 110), (24, 111), (25, 112), (26, 113), (27, 114), (28, 115), (29, 116), (30, 117), (31, 118), (32, 119), (33, 120), (34, 121), (35, 122), (36, 123), (37, 124), (38, 125), (39, 126), (40, 127)] [0, 1, 2, 3, 4, 5, 6, 7, 8, 9, 10, 11, 12, 13, 14, 15, 16, 17, 18, 19, 20, 21, 22, 23, 24, 25, 26, 27, 28, 29, 30, 31, 32, 33, 34, 35, 36, 37, 38, 39, 40] [] (fun i_ => ([RF.is (Or1 sb (Ors L15.S No)) v59, RF.is (Or1 sb (Ors L15.S No)) (eN j), RF.ps (Or1 sb (Ors L15.S No)) (Or1 sb (Ors L15.S (Old W.heap.size))) (At (kA 2 eG) ((pgRow (fun k_ => (pgD (rowRL ([1, 2, 3, 4, 5, 6] : List Int) (rr : Int) s2 k_)).1) vs60).getD j (0, undef))) (or1_mono (ors_mono no_any)), RF.ps (Or1 sb (Ors L15.S No)) (Or1 sb (Ors L15.S (Old W.heap.size))) (At kN (((pgRow (fun k_ => (pgD (rowRL ([1, 2, 3, 4, 5, 6] : List Int) (rr : Int) s2 k_)).1) vs60).getD j (0, undef)).1)) (or1_mono (ors_mono no_any)), RF.is (Or1 sb (Ors L15.S No)) (eN (((pgRow (fun k_ => (pgD (rowRL ([1, 2, 3, 4, 5, 6] : List Int) (rr : Int) s2 k_)).1) vs60).getD j (0, undef)).1)), RF.is (Or1 sb (Ors L15.S No)) vF, RF.is (Or1 sb (Ors L15.S No)) vF, RF.is (Or1 sb (Ors L15.S No)) undef, RF.is (Or1 sb (Ors L15.S No)) undef, RF.is (Or1 sb (Ors L15.S No)) undef, RF.is (Or1 sb (Ors L15.S No)) undef, RF.is (Or1 sb (Ors L15.S No)) undef, RF.is (Or1 sb (Ors L15.S No)) undef, RF.is (Or1 sb (Ors L15.S No)) undef, RF.is (Or1 sb (Ors L15.S No)) undef, RF.is (Or1 sb (Ors L15.S No)) undef, RF.is (Or1 sb (Ors L15.S No)) undef, RF.is (Or1 sb (Ors L15.S No)) undef, RF.is (Or1 sb (Ors L15.S No)) undef, RF.is (Or1 sb (Ors L15.S No)) vF, RF.is (Or1 sb (Ors L15.S No)) vF, RF.is (Or1 sb (Ors L15.S No)) v59, RF.is (Or1 sb (Ors L15.S No)) (eN j), RF.ps (Or1 sb (Ors L15.S No)) (Or1 sb (Ors L15.S (Old W.heap.size))) (At (kA 2 eG) ((pgRow (fun k_ => (pgD (rowRL ([1, 2, 3, 4, 5, 6] : List Int) (rr : Int) s2 k_)).1) vs60).getD j (0, undef))) (or1_mono (ors_mono no_any)), RF.ps (Or1 sb (Ors L15.S No)) (Or1 sb (Ors L15.S (Old W.heap.size))) (At kN (((pgRow (fun k_ => (pgD (rowRL ([1, 2, 3, 4, 5, 6] : List Int) (rr : Int) s2 k_)).1) vs60).getD j (0, undef)).1)) (or1_mono (ors_mono no_any)), RF.is (Or1 sb (Ors L15.S No)) (eN (((pgRow (fun k_ => (pgD (rowRL ([1, 2, 3, 4, 5, 6] : List Int) (rr : Int) s2 k_)).1) vs60).getD j (0, undef)).1)), RF.is (Or1 sb (Ors L15.S No)) vT, RF.is (Or1 sb (Ors L15.S No)) vT, RF.is (Or1 sb (Ors L15.S No)) (eN j), RF.is (Or1 sb (Ors L15.S No)) (eN hv), RF.is (Or1 sb (Ors L15.S No)) vF, RF.is (Or1 sb (Ors L15.S No)) vF, RF.is (Or1 sb (Ors L15.S No)) vF, RF.is (Or1 sb (Ors L15.S No)) vF, RF.is (Or1 sb (Ors L15.S No)) v59, RF.is (Or1 sb (Ors L15.S No)) (eN j), RF.ps (Or1 sb (Ors L15.S No)) (Or1 sb (Ors L15.S (Old W.heap.size))) (At (kA 2 eG) ((pgRow (fun k_ => (pgD (rowRL ([1, 2, 3, 4, 5, 6] : List Int) (rr : Int) s2 k_)).1) vs60).getD j (0, undef))) (or1_mono (ors_mono no_any)), RF.ps (Or1 sb (Ors L15.S No)) (Or1 sb (Ors L15.S (Old W.heap.size))) (At kN (((pgRow (fun k_ => (pgD (rowRL ([1, 2, 3, 4, 5, 6] : List Int) (rr : Int) s2 k_)).1) vs60).getD j (0, undef)).1)) (or1_mono (ors_mono no_any)), RF.is (Or1 sb (Ors L15.S No)) (eN (((pgRow (fun k_ => (pgD (rowRL ([1, 2, 3, 4, 5, 6] : List Int) (rr : Int) s2 k_)).1) vs60).getD j (0, undef)).1)), RF.is (Or1 sb (Ors L15.S No)) vF, RF.is (Or1 sb (Ors L15.S No)) vF] : List (RF (Or1 sb (Ors L15.S No)))).getD i_ (RF.any (Or1 sb (Ors L15.S No)))) (fun _ w_ => Arr 3 sb (([1, 2, 3, 4, 5, 6] : List Int).map eI) w_ ∧ Nd L15 s4 (Or1 sb No) w_) (fun v75 => (zs zf69 0 8 ++ [(z 8), (ptr L15.bN 0), (zf69 10), (zf69 11), u27, (eN k), (eN hv), (eN d), (z 16), v59, (zf69 18), (eN j)] ++ (zs zf69 20 63 ++ [(eN j), (Value.bool (decide (j < 6))), (z 85), (z 86), (v75 0), (v75 1), (v75 2), (v75 3), (v75 4), (v75 5), (v75 6), (v75 7), (v75 8), (v75 9), (v75 10), (v75 11), (v75 12), (v75 13), (v75 14), (v75 15), (v75 16), (v75 17), (v75 18), (v75 19), (v75 20), (v75 21), (v75 22), (v75 23), (v75 24), (v75 25), (v75 26), (v75 27), (v75 28), (v75 29), (v75 30), (v75 31), (v75 32), (v75 33), (v75 34), (v75 35), (v75 36), (v75 37), (v75 38), (v75 39), (v75 40)] ++ (zs zf69 128 8)))) s_mx kr rfl kr (by rfl) (fun v_ => by kernel_rfl) (fun _ => fun w_ w2_ h ho => by obtain ⟨r_a21, r_a16⟩ := h; exact ⟨r_a21.step0 ho, r_a16.step0 ho⟩) ⟨a21, a16⟩ ?_ ?_ ?_
  ·
   refine ls_cons ?_ ?_
   ·
    intro v75 lo hi w_ k_ hO hd _ _ hk_ _ hR hold
    obtain ⟨r_a21, r_a16⟩ := hR
    clear hd hold
    refine ⟨_, rfl, gd rfl ?_⟩
    exact Does.is (d_move rfl)
   refine ls_cons ?_ ?_
   ·
    intro v75 lo hi w_ k_ hO hd _ _ hk_ _ hR hold
    obtain ⟨r_a21, r_a16⟩ := hR
    clear hd hold
    refine ⟨_, rfl, gd rfl ?_⟩
    exact Does.is (d_move rfl)
   refine ls_cons ?_ ?_
   ·
    intro v75 lo hi w_ k_ hO hd _ _ hk_ _ hR hold
    obtain ⟨r_a21, r_a16⟩ := hR
    have e0 : v75 0 = v59 := hd 0 kr
    have e1 : v75 1 = (eN j) := hd 1 kr
    clear hd hold
    refine ⟨_, rfl, gd rfl ?_⟩
    refine Does.mono (d_indexS (q := (kA 2 eG)) (xs := (pgRow (fun k_ => (pgD (rowRL ([1, 2, 3, 4, 5, 6] : List Int) (rr : Int) s2 k_)).1) vs60)) (v := ((pgRow (fun k_ => (pgD (rowRL ([1, 2, 3, 4, 5, 6] : List Int) (rr : Int) s2 k_)).1) vs60).getD j (0, undef))) Try.underlying53 s_ti32 e0 (f66.step hO (or1_mono (ors_mono no_any))) (show _ = Value.int _ (j : Int) from e1) oo (g_at (by have := pgRow_len (fun k_ => (pgD (rowRL ([1, 2, 3, 4, 5, 6] : List Int) (rr : Int) s2 k_)).1) vs60; first | omega | (simp; done) | (simp; omega)))) (fun u w' h => ⟨h.2 ▸ h.1, h.2 ▸ Only.refl _ _⟩)
   refine ls_cons ?_ ?_
   ·
    intro v75 lo hi w_ k_ hO hd _ _ hk_ _ hR hold
    obtain ⟨r_a21, r_a16⟩ := hR
    have d2 : Ps (Or1 sb (Ors L15.S (Old W.heap.size))) (At (kA 2 eG) ((pgRow (fun k_ => (pgD (rowRL ([1, 2, 3, 4, 5, 6] : List Int) (rr : Int) s2 k_)).1) vs60).getD j (0, undef)) (v75 2)) w_ := hd 2 kr
    clear hd hold
    refine ⟨_, rfl, gd rfl ?_⟩
    refine Does.mono (d_fieldG0 (v := ((pgRow (fun k_ => (pgD (rowRL ([1, 2, 3, 4, 5, 6] : List Int) (rr : Int) s2 k_)).1) vs60).getD j (0, undef))) Try.underlying32 rfl s_ti3 rfl rfl d2) (fun u w' h => ⟨h.2 ▸ h.1, h.2 ▸ Only.refl _ _⟩)
   refine ls_cons ?_ ?_
   ·
    intro v75 lo hi w_ k_ hO hd _ _ hk_ _ hR hold
    obtain ⟨r_a21, r_a16⟩ := hR
    have d3 : Ps (Or1 sb (Ors L15.S (Old W.heap.size))) (At kN (((pgRow (fun k_ => (pgD (rowRL ([1, 2, 3, 4, 5, 6] : List Int) (rr : Int) s2 k_)).1) vs60).getD j (0, undef)).1) (v75 3)) w_ := hd 3 kr
    clear hd hold
    refine ⟨_, rfl, gd rfl ?_⟩
    exact Does.is (d_loadAt (enc := eN) (v := ((pgRow (fun k_ => (pgD (rowRL ([1, 2, 3, 4, 5, 6] : List Int) (rr : Int) s2 k_)).1) vs60).getD j (0, undef)).1) ⟨_, Try.underlying3, rfl⟩ rfl d3)
   refine ls_cons ?_ ?_
   ·
    intro v75 lo hi w_ k_ hO hd _ _ hk_ _ hR hold
    obtain ⟨r_a21, r_a16⟩ := hR
    have e4 : v75 4 = (eN (((pgRow (fun k_ => (pgD (rowRL ([1, 2, 3, 4, 5, 6] : List Int) (rr : Int) s2 k_)).1) vs60).getD j (0, undef)).1)) := hd 4 kr
    clear hd hold
    refine ⟨_, rfl, gd rfl ?_⟩
    exact Does.is (n_eql (a := (((pgRow (fun k_ => (pgD (rowRL ([1, 2, 3, 4, 5, 6] : List Int) (rr : Int) s2 k_)).1) vs60).getD j (0, undef)).1)) (b := 2) e4 rfl (decide_eq_false (by rw [hp1]; decide)))
   refine ls_cons ?_ ?_
   ·
    intro v75 lo hi w_ k_ hO hd _ _ hk_ _ hR hold
    obtain ⟨r_a21, r_a16⟩ := hR
    have e5 : v75 5 = vF := hd 5 kr
    clear hd hold
    refine ⟨_, rfl, gd rfl ?_⟩
    exact Does.is (d_move (v := vF) e5)
   refine ls_cons ?_ ?_
   ·
    intro v75 lo hi w_ k_ hO hd _ _ hk_ _ hR hold
    obtain ⟨r_a21, r_a16⟩ := hR
    have e6 : v75 6 = vF := hd 6 kr
    clear hd hold
    refine ⟨_, rfl, gd_off rfl rfl rfl (nb rfl) e6 ?_⟩
    exact ⟨rfl, Only.refl _ _⟩
   refine ls_cons ?_ ?_
   ·
    intro v75 lo hi w_ k_ hO hd _ _ hk_ _ hR hold
    obtain ⟨r_a21, r_a16⟩ := hR
    have e6 : v75 6 = vF := hd 6 kr
    clear hd hold
    refine ⟨_, rfl, gd_off rfl rfl rfl (nb rfl) e6 ?_⟩
    exact ⟨rfl, Only.refl _ _⟩
   refine ls_cons ?_ ?_
   ·
    intro v75 lo hi w_ k_ hO hd _ _ hk_ _ hR hold
    obtain ⟨r_a21, r_a16⟩ := hR
    have e6 : v75 6 = vF := hd 6 kr
    clear hd hold
    refine ⟨_, rfl, gd_off rfl rfl rfl (nb rfl) e6 ?_⟩
    exact ⟨rfl, Only.refl _ _⟩
   refine ls_cons ?_ ?_
   ·
    intro v75 lo hi w_ k_ hO hd _ _ hk_ _ hR hold
    obtain ⟨r_a21, r_a16⟩ := hR
    have e6 : v75 6 = vF := hd 6 kr
    clear hd hold
    refine ⟨_, rfl, gd_off rfl rfl rfl (nb rfl) e6 ?_⟩
    exact ⟨rfl, Only.refl _ _⟩
   refine ls_cons ?_ ?_
   ·
    intro v75 lo hi w_ k_ hO hd _ _ hk_ _ hR hold
    obtain ⟨r_a21, r_a16⟩ := hR
    have e6 : v75 6 = vF := hd 6 kr
    clear hd hold
    refine ⟨_, rfl, gd_off rfl rfl rfl (nb rfl) e6 ?_⟩
    exact ⟨rfl, Only.refl _ _⟩
   refine ls_cons ?_ ?_
   ·
    intro v75 lo hi w_ k_ hO hd _ _ hk_ _ hR hold
    obtain ⟨r_a21, r_a16⟩ := hR
    have e6 : v75 6 = vF := hd 6 kr
    clear hd hold
    refine ⟨_, rfl, gd_off rfl rfl rfl (nb rfl) e6 ?_⟩
    exact ⟨rfl, Only.refl _ _⟩
   refine ls_cons ?_ ?_
   ·
    intro v75 lo hi w_ k_ hO hd _ _ hk_ _ hR hold
    obtain ⟨r_a21, r_a16⟩ := hR
    have e6 : v75 6 = vF := hd 6 kr
    clear hd hold
    refine ⟨_, rfl, gd_off rfl rfl rfl (nb rfl) e6 ?_⟩
    exact ⟨rfl, Only.refl _ _⟩
   refine ls_cons ?_ ?_
   ·
    intro v75 lo hi w_ k_ hO hd _ _ hk_ _ hR hold
    obtain ⟨r_a21, r_a16⟩ := hR
    have e6 : v75 6 = vF := hd 6 kr
    clear hd hold
    refine ⟨_, rfl, gd_off rfl rfl rfl (nb rfl) e6 ?_⟩
    exact ⟨rfl, Only.refl _ _⟩
   refine ls_cons ?_ ?_
   ·
    intro v75 lo hi w_ k_ hO hd _ _ hk_ _ hR hold
    obtain ⟨r_a21, r_a16⟩ := hR
    have e6 : v75 6 = vF := hd 6 kr
    clear hd hold
    refine ⟨_, rfl, gd_off rfl rfl rfl (nb rfl) e6 ?_⟩
    exact ⟨rfl, Only.refl _ _⟩
   refine ls_cons ?_ ?_
   ·
    intro v75 lo hi w_ k_ hO hd _ _ hk_ _ hR hold
    obtain ⟨r_a21, r_a16⟩ := hR
    have e6 : v75 6 = vF := hd 6 kr
    clear hd hold
    refine ⟨_, rfl, gd_off rfl rfl rfl (nb rfl) e6 ?_⟩
    exact ⟨rfl, Only.refl _ _⟩
   refine ls_cons ?_ ?_
   ·
    intro v75 lo hi w_ k_ hO hd _ _ hk_ _ hR hold
    obtain ⟨r_a21, r_a16⟩ := hR
    have e6 : v75 6 = vF := hd 6 kr
    clear hd hold
    refine ⟨_, rfl, gd_off rfl rfl rfl (nb rfl) e6 ?_⟩
    exact ⟨rfl, Only.refl _ _⟩
   refine ls_cons ?_ ?_
   ·
    intro v75 lo hi w_ k_ hO hd _ _ hk_ _ hR hold
    obtain ⟨r_a21, r_a16⟩ := hR
    have e6 : v75 6 = vF := hd 6 kr
    clear hd hold
    refine ⟨_, rfl, gd_off rfl rfl rfl (nb rfl) e6 ?_⟩
    exact ⟨rfl, Only.refl _ _⟩
   refine ls_cons ?_ ?_
   ·
    intro v75 lo hi w_ k_ hO hd _ _ hk_ _ hR hold
    obtain ⟨r_a21, r_a16⟩ := hR
    have e6 : v75 6 = vF := hd 6 kr
    clear hd hold
    refine ⟨_, rfl, gd rfl ?_⟩
    exact Does.is (d_pick (b := false) (v := vF) e6 rfl)
   refine ls_cons ?_ ?_
   ·
    intro v75 lo hi w_ k_ hO hd _ _ hk_ _ hR hold
    obtain ⟨r_a21, r_a16⟩ := hR
    have e19 : v75 19 = vF := hd 19 kr
    clear hd hold
    refine ⟨_, rfl, gd rfl ?_⟩
    exact Does.is (d_move (v := vF) e19)
   refine ls_cons ?_ ?_
   ·
    intro v75 lo hi w_ k_ hO hd _ _ hk_ _ hR hold
    obtain ⟨r_a21, r_a16⟩ := hR
    have e20 : v75 20 = vF := hd 20 kr
    clear hd hold
    refine ⟨_, rfl, gd_on rfl rfl rfl (nb rfl) e20 ?_⟩
    exact Does.is (d_move rfl)
   refine ls_cons ?_ ?_
   ·
    intro v75 lo hi w_ k_ hO hd _ _ hk_ _ hR hold
    obtain ⟨r_a21, r_a16⟩ := hR
    have e20 : v75 20 = vF := hd 20 kr
    clear hd hold
    refine ⟨_, rfl, gd_on rfl rfl rfl (nb rfl) e20 ?_⟩
    exact Does.is (d_move rfl)
   refine ls_cons ?_ ?_
   ·
    intro v75 lo hi w_ k_ hO hd _ _ hk_ _ hR hold
    obtain ⟨r_a21, r_a16⟩ := hR
    have e20 : v75 20 = vF := hd 20 kr
    have e21 : v75 21 = v59 := hd 21 kr
    have e22 : v75 22 = (eN j) := hd 22 kr
    clear hd hold
    refine ⟨_, rfl, gd_on rfl rfl rfl (nb rfl) e20 ?_⟩
    refine Does.mono (d_indexS (q := (kA 2 eG)) (xs := (pgRow (fun k_ => (pgD (rowRL ([1, 2, 3, 4, 5, 6] : List Int) (rr : Int) s2 k_)).1) vs60)) (v := ((pgRow (fun k_ => (pgD (rowRL ([1, 2, 3, 4, 5, 6] : List Int) (rr : Int) s2 k_)).1) vs60).getD j (0, undef))) Try.underlying53 s_ti32 e21 (f66.step hO (or1_mono (ors_mono no_any))) (show _ = Value.int _ (j : Int) from e22) oo (g_at (by have := pgRow_len (fun k_ => (pgD (rowRL ([1, 2, 3, 4, 5, 6] : List Int) (rr : Int) s2 k_)).1) vs60; first | omega | (simp; done) | (simp; omega)))) (fun u w' h => ⟨h.2 ▸ h.1, h.2 ▸ Only.refl _ _⟩)
   refine ls_cons ?_ ?_
   ·
    intro v75 lo hi w_ k_ hO hd _ _ hk_ _ hR hold
    obtain ⟨r_a21, r_a16⟩ := hR
    have e20 : v75 20 = vF := hd 20 kr
    have d23 : Ps (Or1 sb (Ors L15.S (Old W.heap.size))) (At (kA 2 eG) ((pgRow (fun k_ => (pgD (rowRL ([1, 2, 3, 4, 5, 6] : List Int) (rr : Int) s2 k_)).1) vs60).getD j (0, undef)) (v75 23)) w_ := hd 23 kr
    clear hd hold
    refine ⟨_, rfl, gd_on rfl rfl rfl (nb rfl) e20 ?_⟩
    refine Does.mono (d_fieldG0 (v := ((pgRow (fun k_ => (pgD (rowRL ([1, 2, 3, 4, 5, 6] : List Int) (rr : Int) s2 k_)).1) vs60).getD j (0, undef))) Try.underlying32 rfl s_ti3 rfl rfl d23) (fun u w' h => ⟨h.2 ▸ h.1, h.2 ▸ Only.refl _ _⟩)
   refine ls_cons ?_ ?_
   ·
    intro v75 lo hi w_ k_ hO hd _ _ hk_ _ hR hold
    obtain ⟨r_a21, r_a16⟩ := hR
    have e20 : v75 20 = vF := hd 20 kr
    have d24 : Ps (Or1 sb (Ors L15.S (Old W.heap.size))) (At kN (((pgRow (fun k_ => (pgD (rowRL ([1, 2, 3, 4, 5, 6] : List Int) (rr : Int) s2 k_)).1) vs60).getD j (0, undef)).1) (v75 24)) w_ := hd 24 kr
    clear hd hold
    refine ⟨_, rfl, gd_on rfl rfl rfl (nb rfl) e20 ?_⟩
    exact Does.is (d_loadAt (enc := eN) (v := ((pgRow (fun k_ => (pgD (rowRL ([1, 2, 3, 4, 5, 6] : List Int) (rr : Int) s2 k_)).1) vs60).getD j (0, undef)).1) ⟨_, Try.underlying3, rfl⟩ rfl d24)
   refine ls_cons ?_ ?_
   ·
    intro v75 lo hi w_ k_ hO hd _ _ hk_ _ hR hold
    obtain ⟨r_a21, r_a16⟩ := hR
    have e20 : v75 20 = vF := hd 20 kr
    have e25 : v75 25 = (eN (((pgRow (fun k_ => (pgD (rowRL ([1, 2, 3, 4, 5, 6] : List Int) (rr : Int) s2 k_)).1) vs60).getD j (0, undef)).1)) := hd 25 kr
    clear hd hold
    refine ⟨_, rfl, gd_on rfl rfl rfl (nb rfl) e20 ?_⟩
    exact Does.is (n_neq (a := (((pgRow (fun k_ => (pgD (rowRL ([1, 2, 3, 4, 5, 6] : List Int) (rr : Int) s2 k_)).1) vs60).getD j (0, undef)).1)) (b := 2) e25 rfl (by rw [decide_eq_false (by rw [hp1]; decide)] <;> rfl))
   refine ls_cons ?_ ?_
   ·
    intro v75 lo hi w_ k_ hO hd _ _ hk_ _ hR hold
    obtain ⟨r_a21, r_a16⟩ := hR
    have e20 : v75 20 = vF := hd 20 kr
    have e26 : v75 26 = vT := hd 26 kr
    clear hd hold
    refine ⟨_, rfl, gd_on rfl rfl rfl (nb rfl) e20 ?_⟩
    exact Does.is (d_move (v := vT) e26)
   refine ls_cons ?_ ?_
   ·
    intro v75 lo hi w_ k_ hO hd _ _ hk_ _ hR hold
    obtain ⟨r_a21, r_a16⟩ := hR
    have e27 : v75 27 = vT := hd 27 kr
    clear hd hold
    refine ⟨_, rfl, gd_on rfl rfl rfl (nb rfl) e27 ?_⟩
    exact Does.is (d_move rfl)
   refine ls_cons ?_ ?_
   ·
    intro v75 lo hi w_ k_ hO hd _ _ hk_ _ hR hold
    obtain ⟨r_a21, r_a16⟩ := hR
    have e27 : v75 27 = vT := hd 27 kr
    clear hd hold
    refine ⟨_, rfl, gd_on rfl rfl rfl (nb rfl) e27 ?_⟩
    exact Does.is (d_move rfl)
   refine ls_cons ?_ ?_
   ·
    intro v75 lo hi w_ k_ hO hd _ _ hk_ _ hR hold
    obtain ⟨r_a21, r_a16⟩ := hR
    have e27 : v75 27 = vT := hd 27 kr
    have e28 : v75 28 = (eN j) := hd 28 kr
    have e29 : v75 29 = (eN hv) := hd 29 kr
    clear hd hold
    refine ⟨_, rfl, gd_on rfl rfl rfl (nb rfl) e27 ?_⟩
    exact Does.is (n_neq (a := j) (b := hv) e28 e29 (by rw [decide_eq_true hr2] <;> rfl))
   refine ls_cons ?_ ?_
   ·
    intro v75 lo hi w_ k_ hO hd _ _ hk_ _ hR hold
    obtain ⟨r_a21, r_a16⟩ := hR
    have e20 : v75 20 = vF := hd 20 kr
    have e27 : v75 27 = vT := hd 27 kr
    have e30 : v75 30 = vF := hd 30 kr
    clear hd hold
    refine ⟨_, rfl, gd_on rfl rfl rfl (nb rfl) e20 ?_⟩
    exact Does.is (d_pick (b := true) (v := vF) e27 e30)
   refine ls_cons ?_ ?_
   ·
    intro v75 lo hi w_ k_ hO hd _ _ hk_ _ hR hold
    obtain ⟨r_a21, r_a16⟩ := hR
    have e20 : v75 20 = vF := hd 20 kr
    have e31 : v75 31 = vF := hd 31 kr
    clear hd hold
    refine ⟨_, rfl, gd rfl ?_⟩
    exact Does.is (d_pick (b := false) (v := vF) e20 e31)
   refine ls_cons ?_ ?_
   ·
    intro v75 lo hi w_ k_ hO hd _ _ hk_ _ hR hold
    obtain ⟨r_a21, r_a16⟩ := hR
    have e32 : v75 32 = vF := hd 32 kr
    clear hd hold
    refine ⟨_, rfl, gd rfl ?_⟩
    exact Does.is (d_move (v := vF) e32)
   refine ls_cons ?_ ?_
   ·
    intro v75 lo hi w_ k_ hO hd _ _ hk_ _ hR hold
    obtain ⟨r_a21, r_a16⟩ := hR
    have e33 : v75 33 = vF := hd 33 kr
    clear hd hold
    refine ⟨_, rfl, gd_on rfl rfl rfl (nb rfl) e33 ?_⟩
    exact Does.is (d_move rfl)
   refine ls_cons ?_ ?_
   ·
    intro v75 lo hi w_ k_ hO hd _ _ hk_ _ hR hold
    obtain ⟨r_a21, r_a16⟩ := hR
    have e33 : v75 33 = vF := hd 33 kr
    clear hd hold
    refine ⟨_, rfl, gd_on rfl rfl rfl (nb rfl) e33 ?_⟩
    exact Does.is (d_move rfl)
   refine ls_cons ?_ ?_
   ·
    intro v75 lo hi w_ k_ hO hd _ _ hk_ _ hR hold
    obtain ⟨r_a21, r_a16⟩ := hR
    have e33 : v75 33 = vF := hd 33 kr
    have e34 : v75 34 = v59 := hd 34 kr
    have e35 : v75 35 = (eN j) := hd 35 kr
    clear hd hold
    refine ⟨_, rfl, gd_on rfl rfl rfl (nb rfl) e33 ?_⟩
    refine Does.mono (d_indexS (q := (kA 2 eG)) (xs := (pgRow (fun k_ => (pgD (rowRL ([1, 2, 3, 4, 5, 6] : List Int) (rr : Int) s2 k_)).1) vs60)) (v := ((pgRow (fun k_ => (pgD (rowRL ([1, 2, 3, 4, 5, 6] : List Int) (rr : Int) s2 k_)).1) vs60).getD j (0, undef))) Try.underlying53 s_ti32 e34 (f66.step hO (or1_mono (ors_mono no_any))) (show _ = Value.int _ (j : Int) from e35) oo (g_at (by have := pgRow_len (fun k_ => (pgD (rowRL ([1, 2, 3, 4, 5, 6] : List Int) (rr : Int) s2 k_)).1) vs60; first | omega | (simp; done) | (simp; omega)))) (fun u w' h => ⟨h.2 ▸ h.1, h.2 ▸ Only.refl _ _⟩)
   refine ls_cons ?_ ?_
   ·
    intro v75 lo hi w_ k_ hO hd _ _ hk_ _ hR hold
    obtain ⟨r_a21, r_a16⟩ := hR
    have e33 : v75 33 = vF := hd 33 kr
    have d36 : Ps (Or1 sb (Ors L15.S (Old W.heap.size))) (At (kA 2 eG) ((pgRow (fun k_ => (pgD (rowRL ([1, 2, 3, 4, 5, 6] : List Int) (rr : Int) s2 k_)).1) vs60).getD j (0, undef)) (v75 36)) w_ := hd 36 kr
    clear hd hold
    refine ⟨_, rfl, gd_on rfl rfl rfl (nb rfl) e33 ?_⟩
    refine Does.mono (d_fieldG0 (v := ((pgRow (fun k_ => (pgD (rowRL ([1, 2, 3, 4, 5, 6] : List Int) (rr : Int) s2 k_)).1) vs60).getD j (0, undef))) Try.underlying32 rfl s_ti3 rfl rfl d36) (fun u w' h => ⟨h.2 ▸ h.1, h.2 ▸ Only.refl _ _⟩)
   refine ls_cons ?_ ?_
   ·
    intro v75 lo hi w_ k_ hO hd _ _ hk_ _ hR hold
    obtain ⟨r_a21, r_a16⟩ := hR
    have e33 : v75 33 = vF := hd 33 kr
    have d37 : Ps (Or1 sb (Ors L15.S (Old W.heap.size))) (At kN (((pgRow (fun k_ => (pgD (rowRL ([1, 2, 3, 4, 5, 6] : List Int) (rr : Int) s2 k_)).1) vs60).getD j (0, undef)).1) (v75 37)) w_ := hd 37 kr
    clear hd hold
    refine ⟨_, rfl, gd_on rfl rfl rfl (nb rfl) e33 ?_⟩
    exact Does.is (d_loadAt (enc := eN) (v := ((pgRow (fun k_ => (pgD (rowRL ([1, 2, 3, 4, 5, 6] : List Int) (rr : Int) s2 k_)).1) vs60).getD j (0, undef)).1) ⟨_, Try.underlying3, rfl⟩ rfl d37)
   refine ls_cons ?_ ?_
   ·
    intro v75 lo hi w_ k_ hO hd _ _ hk_ _ hR hold
    obtain ⟨r_a21, r_a16⟩ := hR
    have e33 : v75 33 = vF := hd 33 kr
    have e38 : v75 38 = (eN (((pgRow (fun k_ => (pgD (rowRL ([1, 2, 3, 4, 5, 6] : List Int) (rr : Int) s2 k_)).1) vs60).getD j (0, undef)).1)) := hd 38 kr
    clear hd hold
    refine ⟨_, rfl, gd_on rfl rfl rfl (nb rfl) e33 ?_⟩
    exact Does.is (n_eql (a := (((pgRow (fun k_ => (pgD (rowRL ([1, 2, 3, 4, 5, 6] : List Int) (rr : Int) s2 k_)).1) vs60).getD j (0, undef)).1)) (b := 0) e38 rfl (decide_eq_false (by rw [hp1]; decide)))
   refine ls_cons ?_ ?_
   ·
    intro v75 lo hi w_ k_ hO hd _ _ hk_ _ hR hold
    obtain ⟨r_a21, r_a16⟩ := hR
    have e33 : v75 33 = vF := hd 33 kr
    have e39 : v75 39 = vF := hd 39 kr
    clear hd hold
    refine ⟨_, rfl, gd rfl ?_⟩
    exact Does.is (d_pick (b := false) (v := vF) e33 e39)
   exact ls_nil
  ·
   exact ms_nil
  intro v75 lo_ hi_ w76 o77 hd iv_ hR
  have e0 : v75 0 = v59 := hd 0 (by decide)
  have e1 : v75 1 = (eN j) := hd 1 (by decide)
  have e4 : v75 4 = (eN (((pgRow (fun k_ => (pgD (rowRL ([1, 2, 3, 4, 5, 6] : List Int) (rr : Int) s2 k_)).1) vs60).getD j (0, undef)).1)) := hd 4 (by decide)
  have e5 : v75 5 = vF := hd 5 (by decide)
  have e6 : v75 6 = vF := hd 6 (by decide)
  have e7 : v75 7 = undef := hd 7 (by decide)
  have e8 : v75 8 = undef := hd 8 (by decide)
  have e9 : v75 9 = undef := hd 9 (by decide)
  have e10 : v75 10 = undef := hd 10 (by decide)
  have e11 : v75 11 = undef := hd 11 (by decide)
  have e12 : v75 12 = undef := hd 12 (by decide)
  have e13 : v75 13 = undef := hd 13 (by decide)
  have e14 : v75 14 = undef := hd 14 (by decide)
  have e15 : v75 15 = undef := hd 15 (by decide)
  have e16 : v75 16 = undef := hd 16 (by decide)
  have e17 : v75 17 = undef := hd 17 (by decide)
  have e18 : v75 18 = undef := hd 18 (by decide)
  have e19 : v75 19 = vF := hd 19 (by decide)
  have e20 : v75 20 = vF := hd 20 (by decide)
  have e21 : v75 21 = v59 := hd 21 (by decide)
  have e22 : v75 22 = (eN j) := hd 22 (by decide)
  have e25 : v75 25 = (eN (((pgRow (fun k_ => (pgD (rowRL ([1, 2, 3, 4, 5, 6] : List Int) (rr : Int) s2 k_)).1) vs60).getD j (0, undef)).1)) := hd 25 (by decide)
  have e26 : v75 26 = vT := hd 26 (by decide)
  have e27 : v75 27 = vT := hd 27 (by decide)
  have e28 : v75 28 = (eN j) := hd 28 (by decide)
  have e29 : v75 29 = (eN hv) := hd 29 (by decide)
  have e30 : v75 30 = vF := hd 30 (by decide)
  have e31 : v75 31 = vF := hd 31 (by decide)
  have e32 : v75 32 = vF := hd 32 (by decide)
  have e33 : v75 33 = vF := hd 33 (by decide)
  have e34 : v75 34 = v59 := hd 34 (by decide)
  have e35 : v75 35 = (eN j) := hd 35 (by decide)
  have e38 : v75 38 = (eN (((pgRow (fun k_ => (pgD (rowRL ([1, 2, 3, 4, 5, 6] : List Int) (rr : Int) s2 k_)).1) vs60).getD j (0, undef)).1)) := hd 38 (by decide)
  have e39 : v75 39 = vF := hd 39 (by decide)
  have e40 : v75 40 = vF := hd 40 (by decide)
  have f_v75_2 : Ps (Or1 sb (Ors L15.S (Old W.heap.size))) (At (kA 2 eG) ((pgRow (fun k_ => (pgD (rowRL ([1, 2, 3, 4, 5, 6] : List Int) (rr : Int) s2 k_)).1) vs60).getD j (0, undef)) (v75 2)) w76 := hd 2 (by decide)
  have f_v75_3 : Ps (Or1 sb (Ors L15.S (Old W.heap.size))) (At kN (((pgRow (fun k_ => (pgD (rowRL ([1, 2, 3, 4, 5, 6] : List Int) (rr : Int) s2 k_)).1) vs60).getD j (0, undef)).1) (v75 3)) w76 := hd 3 (by decide)
  have f_v75_23 : Ps (Or1 sb (Ors L15.S (Old W.heap.size))) (At (kA 2 eG) ((pgRow (fun k_ => (pgD (rowRL ([1, 2, 3, 4, 5, 6] : List Int) (rr : Int) s2 k_)).1) vs60).getD j (0, undef)) (v75 23)) w76 := hd 23 (by decide)
  have f_v75_24 : Ps (Or1 sb (Ors L15.S (Old W.heap.size))) (At kN (((pgRow (fun k_ => (pgD (rowRL ([1, 2, 3, 4, 5, 6] : List Int) (rr : Int) s2 k_)).1) vs60).getD j (0, undef)).1) (v75 24)) w76 := hd 24 (by decide)
  have f_v75_36 : Ps (Or1 sb (Ors L15.S (Old W.heap.size))) (At (kA 2 eG) ((pgRow (fun k_ => (pgD (rowRL ([1, 2, 3, 4, 5, 6] : List Int) (rr : Int) s2 k_)).1) vs60).getD j (0, undef)) (v75 36)) w76 := hd 36 (by decide)
  have f_v75_37 : Ps (Or1 sb (Ors L15.S (Old W.heap.size))) (At kN (((pgRow (fun k_ => (pgD (rowRL ([1, 2, 3, 4, 5, 6] : List Int) (rr : Int) s2 k_)).1) vs60).getD j (0, undef)).1) (v75 37)) w76 := hd 37 (by decide)
  clear hd iv_ lo_ hi_
  refine fr_eq (l' := (zs zf69 0 8 ++ [(z 8), (ptr L15.bN 0), (zf69 10), (zf69 11), u27, (eN k), (eN hv), (eN d), (z 16), v59, (zf69 18), (eN j)] ++ (zs zf69 20 63 ++ [(eN j), (Value.bool (decide (j < 6))), (z 85), (z 86), v59, (eN j), (v75 2), (v75 3), (eN (((pgRow (fun k_ => (pgD (rowRL ([1, 2, 3, 4, 5, 6] : List Int) (rr : Int) s2 k_)).1) vs60).getD j (0, undef)).1)), vF, vF] ++ (us 12 ++ [vF, vF, v59, (eN j), (v75 23), (v75 24), (eN (((pgRow (fun k_ => (pgD (rowRL ([1, 2, 3, 4, 5, 6] : List Int) (rr : Int) s2 k_)).1) vs60).getD j (0, undef)).1)), vT, vT, (eN j), (eN hv), vF, vF, vF, vF, v59, (eN j), (v75 36), (v75 37), (eN (((pgRow (fun k_ => (pgD (rowRL ([1, 2, 3, 4, 5, 6] : List Int) (rr : Int) s2 k_)).1) vs60).getD j (0, undef)).1)), vF, vF] ++ (zs zf69 128 8))))) (by rw [e0, e1, e4, e5, e6, e7, e8, e9, e10, e11, e12, e13, e14, e15, e16, e17, e18, e19, e20, e21, e22, e25, e26, e27, e28, e29, e30, e31, e32, e33, e34, e35, e38, e39, e40] <;> rfl) ?_
  clear e0 e1 e4 e5 e6 e7 e8 e9 e10 e11 e12 e13 e14 e15 e16 e17 e18 e19 e20 e21 e22 e25 e26 e27 e28 e29 e30 e31 e32 e33 e34 e35 e38 e39 e40
  replace h1 := h1.step o77 (or1_mono (ors_mono no_any))
  replace h2 := h2.step o77 (or1_mono (ors_mono no_any))
  replace f30 := f30.step o77 (or1_mono (ors_mono no_any))
  replace f31 := f31.step o77 (or1_mono (ors_mono no_any))
  replace f66 := f66.step o77 (or1_mono (ors_mono no_any))
  replace f67 := f67.step o77 (or1_mono (ors_mono no_any))
  obtain ⟨xr_a21, xr_a16⟩ := hR
  replace a21 : Arr 3 sb (([1, 2, 3, 4, 5, 6] : List Int).map eI) w76 := xr_a21
  replace a16 := xr_a16
  clear xr_a21 xr_a16
  replace oW := oW.tail o77 (tl_new g_oW_sb (tl_snew g_oW_L15 tl_no))
  replace o33 := o33.tail o77 (tl_in in1 (tl_sin (sub2 sub1) tl_no))
  replace o42 := o42.tail o77 (tl_in in1 (tl_sin (sub2 sub1) tl_no))
  replace o70 := o70.tail o77 (tl_in in1 (tl_sin (sub2 sub1) tl_no))
  refine tN ?_
  refine cond_f rfl ?_
  refine wK ?_
  refine inb_n (tN ?_)
  refine pL ?_
  refine wI (d_move rfl) ?_
  refine wI (n_add (a := j) (b := 1) rfl rfl oo) ?_
  refine wI (d_assign rfl) ?_
  refine wD (tN ?_)
  refine ⟨_, (j + 1), rfl, kr, ⟨?_, ?_, ?_, ?_⟩, ?_⟩
  ·
   (try dsimp only)
   all_goals (omega)
  ·
   exact o70
  ·
   exact a21
  ·
   exact a16
  ·
   (try dsimp only)
   all_goals (omega)
 refine wpIn_exit ?_
 refine then_x (then_x (inb_e ?_))
 refine tN (wQ (pL ?_))
 refine wO (d_call (xl := [.const (.slice none 0 0)]) (al := [(Value.slice none 0 0)]) Try.func22 kr rfl rfl rfl (ref8DecodeNil_ok _)) ?_
 rintro _ w78 ⟨u80, rfl, f81, o79⟩
 replace f81 := f81.less (Y := (Or1 sb (Ors L15.S (Old W.heap.size)))) (or1_old a21.lt (ors_old a16.lt (old_old oW.size)))
 replace h1 := h1.step0 o79
 replace h2 := h2.step0 o79
 replace a16 := a16.step0 o79
 replace f30 := f30.step0 o79
 replace f31 := f31.step0 o79
 replace f66 := f66.step0 o79
 replace f67 := f67.step0 o79
 replace a21 := a21.step0 o79
 replace oW := oW.tail0 o79
 replace o33 := o33.tail0 o79
 replace o42 := o42.tail0 o79
 replace o70 := o70.tail0 o79
 refine wI (d_field (v := (eN 1)) Try.underlying32 rfl ⟨_, Try.underlying3, rfl⟩ rfl rfl) ?_
 refine wI (n_eql (a := 1) (b := 1) rfl rfl (decide_eq_true rfl)) ?_
 refine wF (zs zf69 0 8 ++ [(z 8), (ptr L15.bN 0), (zf69 10), (zf69 11), u27, (eN k), (eN hv), (eN d), (z 16), v59, (zf69 18), (eN j)] ++ (zs zf69 20 63 ++ [(eN j), (Value.bool (decide (j < 6)))] ++ (zs z 85 43 ++ [(Value.agg #[(eN 1), u80]), (eN 1), vT] ++ (zs zf69 131 5)))) ?_
 refine wI (d_move rfl) ?_
 refine wG (d_move rfl) ?_
 refine wpL.on rfl rfl rfl (nb rfl) rfl (d_call (xl := [.tmp 132]) (al := [(ptr L15.bN 0)]) Try.func36 kr rfl rfl rfl (nandWrong_ok L15 s4 _ a16)) ?_
 rintro _ w82 ⟨rfl, o83⟩
 replace h1 := h1.step0 o83
 replace h2 := h2.step0 o83
 replace a16 := a16.step0 o83
 replace f30 := f30.step0 o83
 replace f31 := f31.step0 o83
 replace f66 := f66.step0 o83
 replace f67 := f67.step0 o83
 replace f81 := f81.step0 o83
 replace a21 := a21.step0 o83
 replace oW := oW.tail0 o83
 replace o33 := o33.tail0 o83
 replace o42 := o42.tail0 o83
 replace o70 := o70.tail0 o83
 refine wG (d_eql (k := .i64) (m := s4.wrong) (n := 0) rfl rfl (decide_eq_true (backR_wrong hJ_s4))) ?_
 refine wI (d_pick (b := true) (v := vT) rfl rfl) ?_
 refine wF (zs zf69 0 8 ++ [(z 8), (ptr L15.bN 0), (zf69 10), (zf69 11), u27, (eN k), (eN hv), (eN d), (z 16), v59, (zf69 18), (eN j)] ++ (zs zf69 20 63 ++ [(eN j), (Value.bool (decide (j < 6)))] ++ (zs z 85 43 ++ [(Value.agg #[(eN 1), u80]), (eN 1), vT, vT, (ptr L15.bN 0), (eI s4.wrong), vT, vT]))) ?_
 refine wI (d_assign rfl) ?_
 refine wD (tN ?_)
 refine forget (fun zf84 => (zs zf84 0 8 ++ [vT, (zf84 9), (zf84 10), (zf84 11), (zf84 12), (eN k), (zf84 14), (eN d), (z 16), (zf84 17), (zf84 18), (eN j)] ++ (zs zf84 20 116))) kr (fun zf84 => ?_)
 refine wpIn_ret ?_
 refine leave0 (v := vT) (res1 Try.results11 rfl) ?_
 exact ⟨rfl, oW⟩
end Go.Proofs.YtgalehapmdabeaaF
namespace Go.Proofs.YtgalehapmdabeaaF
open Go Shelf YtgalehapmdabeaaS Go.RowKit
def IsRow (k : IntKind) (w : World) (a : Option Addr) (len cap : Nat) (zs : List Int) : Prop :=
 (a = none ∧ len = 0 ∧ cap = 0 ∧ zs = []) ∨
 ∃ x, a = some x ∧ len ≤ cap ∧ zs.length = cap ∧ (∀ i, i < zs.length → w.cell? (x.add i) = some (.int k (zs.getD i 0))) ∧ ∀ n ∈ zs, (Lit.int k n).wf = true
theorem IsRow.seq {α : Type} {enc : α → Value} {dec : Int → α} {k : IntKind} {W : World} {a : Option Addr} {len cap : Nat} {zs : List Int} (h : IsRow k W a len cap zs)
  (hed : ∀ n, (Lit.int k n).wf = true → enc (dec n) = .int k n) : ∃ xs : List α, xs.length = len ∧ Ps No (Seq (kS enc) xs (.slice a len cap)) W := by
 rcases h with ⟨rfl, rfl, rfl, _⟩ | ⟨x, rfl, hl, hz, hc, hw⟩
 ·exact ⟨[], rfl, seq_nil⟩
 ·refine ⟨(zs.take len).map dec, by rw [List.length_map, List.length_take]; omega, fun W' hW => ⟨_, cap, by rw [List.length_map, List.length_take, Nat.min_eq_left (by omega)], by rw [List.length_map, List.length_take]; omega, fun i v hv => ⟨x, rfl, ?_⟩⟩⟩
  rw [List.getElem?_map, List.getElem?_take] at hv
  split at hv
  ·rename_i hi
   have hiz : i < zs.length := by omega
   rw [List.getElem?_eq_getElem hiz] at hv
   injection hv with hv
   subst hv
   have h1 := hc i hiz
   have h2 : zs.getD i 0 = zs[i] := by rw [List.getD_eq_getElem?_getD, List.getElem?_eq_getElem hiz]; rfl
   rw [h2] at h1
   show W'.cell? (x.add (i * 1)) = some (enc (dec zs[i]))
   rw [Nat.mul_one, hed _ (hw _ (List.getElem_mem hiz))]
   have hlt : (x.add i).block < W.heap.size := cells_of_cell h1 |>.elim fun _ hx => (Array.getElem?_eq_some_iff.1 hx.1).1
   rw [World.cell?_of_block (w := W) (hW _ hlt id)]
   exact h1
  ·cases hv
theorem dec_u8 (n : Int) (h : (Lit.int .u8 n).wf = true) : eB (UInt8.ofNat n.toNat) = .int .u8 n := by
 have hb : 0 ≤ n ∧ n < 256 := by
  simp [Lit.wf, IntKind.min, IntKind.max, IntKind.signed, IntKind.bits] at h
  omega
 show Value.int _ _ = _
 congr 1
 rw [UInt8.toNat_ofNat']
 omega
theorem dec_i64 (n : Int) (_ : (Lit.int .i64 n).wf = true) : eI n = .int .i64 n := rfl
theorem law_of {P : Program} {f : Nat} {args : Array Value} {W : World} (h : CW P f args W (Rt (RIs (.bool true) W))) : Calls P f args W fun e W' => e = .returned (.bool true) ∧ Below W.heap.size W W' :=
 callsIn_wide.1 (CallsIn.mono h fun e W' ⟨u, he, hu⟩ => by
  obtain ⟨h1, h2⟩ := hu
  exact ⟨by rw [he, h1], h2.below (Nat.le_refl _) fun _ x => x.elim⟩)
theorem row_sized {H : Type} {enc : TypeId × Value → H} {P : Program} {W : World} {base : Nat} {spare : Nat → Bool} {held : Bool} {t e : TypeId} {k : IntKind} {a : Option Addr} {len cap B : Nat} {d : DataW H} {ps : List MemPlace} {ts : List TypeId} {ds : List (DataW H)} (j : Nat)
  (hsz : (DataW.weightsEach P ts ds).all (· ≤ reachBytes) = true) (ht : ts[j]? = some t) (hd : ds[j]? = some d) (hu : P.underlying t = some (.slice e)) (he : P.underlying e = some (.int k)) (hc : P.cellsOf e = 1) (hB : P.bytesOf e = B)
  (h : DataW.Trod enc P W base spare held t (.slice a len cap) d ps) : len * B ≤ 140737488351232 := by
 obtain ⟨fuel, hf⟩ := h
 rcases ChangeShapes.open_ints hu he hc hf with ⟨hcs, _⟩ | ⟨x, l, c, zs, hcs, _, hl, _, hz, hx, _, _⟩
 ·simp [Value.cells] at hcs
  rw [hcs.2.1, Nat.zero_mul]
  exact Nat.zero_le _
 ·simp [Value.cells] at hcs
  have h1 := (Prod.mk.inj hx).1
  rw [h1] at hd
  have hw := sized_slice hsz ht hd hu
  rw [hB] at hw
  refine Nat.le_trans (Nat.mul_le_mul_right _ ?_) hw
  simp only [ChangeShapes.lits, List.length_map, List.length_take, List.length_drop]
  rw [hcs.2.1]
  split at hz <;> omega
end Go.Proofs.YtgalehapmdabeaaF
