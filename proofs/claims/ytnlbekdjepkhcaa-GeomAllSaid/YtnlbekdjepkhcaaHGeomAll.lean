import Derived.Test.YtnlbekdjepkhcaaFp
import Derived.Test.YtnlbekdjepkhcaaTy
import Derived.Test.YtnlbekdjepkhcaaHgeom
set_option linter.unusedVariables false
set_option linter.unusedSimpArgs false
namespace Go.Proofs.YtnlbekdjepkhcaaF
open Go Go.Shelf Go.Proofs.YtnlbekdjepkhcaaS Ram
set_option maxRecDepth 20000 in
set_option maxHeartbeats 4000000 in
theorem geomAll_law (gx1 gy1 gz1 : Int) (bl : List (Int × Int)) (sp : Int) (ls : List Int) (u1 u2 : Value) (W : World) (h1 : Ps No (Seq (kA 2 eQ) bl u1) W) (h2 : Ps No (Seq kI ls u2) W) (g1 : ls.length ≤ 140737488351232) :
    CW Try.prog 11 #[(Value.agg #[(eI gx1), (eI gy1), (eI gz1)]), u1, (eI sp), u2] W (Rt (RIs (.bool true) W)) := by
 have oW : Only No W W := Only.refl _ _
 refine enter (al := [(Value.agg #[(eI gx1), (eI gy1), (eI gz1)]), u1, (eI sp), u2]) (k := 154) (l := ([(Value.agg #[(eI gx1), (eI gy1), (eI gz1)]), u1, (eI sp), u2] ++ (us 154))) Try.func11 rfl Try.ntmps11 rfl rfl ?_
 refine wpIn_seq ?_
 refine plain ?_
 refine wO (d_box rfl rfl) ?_
 rintro _ w11 ⟨g0, rfl, g12, a13, o14⟩
 have g_oW_g0 : W.heap.size ≤ g0 := Nat.le_trans oW.size g12
 replace h1 := h1.new o14 g12
 replace h2 := h2.new o14 g12
 replace oW := oW.tail0 o14
 refine wI (d_assign rfl) ?_
 refine wF ([(Value.agg #[(eI gx1), (eI gy1), (eI gz1)]), u1, (eI sp), u2, (ptr g0 0), undef, undef, undef, (Value.bool false)] ++ (us 149)) ?_
 refine wpL.done ?_
 refine then_n ?_
 refine wpIn_seq ?_
 refine wpIn_seq ?_
 refine plain ?_
 refine wO (d_call (xl := []) (al := []) Try.func15 (by kernel_rfl) rfl rfl rfl (law9Known_ok _)) ?_
 rintro _ w15 ⟨rfl, o16⟩
 replace h1 := h1.step0 o16
 replace h2 := h2.step0 o16
 replace a13 := a13.step0 o16
 replace oW := oW.tail0 o16
 refine wI (d_not rfl rfl) ?_
 refine wF ([(Value.agg #[(eI gx1), (eI gy1), (eI gz1)]), u1, (eI sp), u2, (ptr g0 0), undef, undef, undef, (Value.bool false)] ++ (us 8 ++ [(Value.bool true), (Value.bool false)] ++ (us 139))) ?_
 refine wpL.done ?_
 refine then_n ?_
 refine cond_f rfl ?_
 refine wpIn_skip ?_
 refine then_n ?_
 refine wpIn_seq ?_
 refine wpIn_seq ?_
 by_cases kn : 40 < bl.length
 ·
  refine plain ?_
  refine wI (d_move rfl) ?_
  refine wI (d_lenS rfl Try.underlying42 rfl h1) ?_
  refine wI (n_gtr (a := bl.length) (b := 40) rfl rfl (decide_eq_true kn)) ?_
  refine wF ([(Value.agg #[(eI gx1), (eI gy1), (eI gz1)]), u1, (eI sp), u2, (ptr g0 0), undef, undef, undef, (Value.bool false)] ++ (us 8 ++ [(Value.bool true), (Value.bool false), u1, (eN bl.length), (Value.bool true)] ++ (us 136))) ?_
  refine wpL.done ?_
  refine then_n ?_
  refine cond_t rfl ?_
  refine wpIn_seq ?_
  refine plain ?_
  refine wI (d_assign rfl) ?_
  refine wF ([(Value.agg #[(eI gx1), (eI gy1), (eI gz1)]), u1, (eI sp), u2, (ptr g0 0), undef, undef, undef, (Value.bool true)] ++ (us 8 ++ [(Value.bool true), (Value.bool false), u1, (eN bl.length), (Value.bool true)] ++ (us 136))) ?_
  refine wpL.done ?_
  refine then_n ?_
  refine wpIn_ret ?_
  refine then_r ?_
  refine leave0 (v := (Value.bool true)) (res1 Try.results11 rfl) ?_
  exact ⟨rfl, oW⟩
 refine plain ?_
 refine wI (d_move rfl) ?_
 refine wI (d_lenS rfl Try.underlying42 rfl h1) ?_
 refine wI (n_gtr (a := bl.length) (b := 40) rfl rfl (decide_eq_false kn)) ?_
 refine wF ([(Value.agg #[(eI gx1), (eI gy1), (eI gz1)]), u1, (eI sp), u2, (ptr g0 0), undef, undef, undef, (Value.bool false)] ++ (us 8 ++ [(Value.bool true), (Value.bool false), u1, (eN bl.length), (Value.bool false)] ++ (us 136))) ?_
 refine wpL.done ?_
 refine then_n ?_
 refine cond_f rfl ?_
 refine wpIn_skip ?_
 refine then_n ?_
 refine wpIn_seq ?_
 refine plain ?_
 refine wI (d_loadAg (vs := [(eI gx1), (eI gy1), (eI gz1)]) ⟨_, Try.underlying25, rfl⟩ s_ti25 rfl a13 rfl rfl) ?_
 refine wO (d_call (xl := [.tmp 22]) (al := [(Value.agg #[(eI gx1), (eI gy1), (eI gz1)])]) Try.func29 (by kernel_rfl) rfl rfl rfl (law7MakeE_ok gx1 gy1 gz1 _)) ?_
 rintro _ w17 ⟨D, B, Q, rfl, hIN, o18⟩
 replace h1 := h1.step0 o18
 replace h2 := h2.step0 o18
 replace a13 := a13.step0 o18
 replace oW := oW.tail0 o18
 refine wO (d_alloc s_ti25 rfl) ?_
 rintro _ w19 ⟨h0, rfl, g20, a21, o22⟩
 have n_g0_h0 : g0 ≠ h0 := a13.ne g20
 have g_oW_h0 : W.heap.size ≤ h0 := Nat.le_trans oW.size g20
 replace h1 := h1.new o22 g20
 replace h2 := h2.new o22 g20
 replace a13 := a13.step0 o22
 replace oW := oW.tail0 o22
 refine wF ([(Value.agg #[(eI gx1), (eI gy1), (eI gz1)]), u1, (eI sp), u2, (ptr g0 0), undef, undef, undef, (Value.bool false), (ptr h0 0)] ++ (us 7 ++ [(Value.bool true), (Value.bool false), u1, (eN bl.length), (Value.bool false), (Value.agg #[(eI gx1), (eI gy1), (eI gz1)]), (Value.agg #[(eN D), (eN B), (eN Q)])] ++ (us 134))) ?_
 refine wO (d_storeAg (cs' := [(eN D), (eN B), (eN Q)]) s_ti25 rfl rfl rfl (oc_cons rfl (oc_cons rfl (oc_cons rfl oc_nil))) a21 (by decide) rfl) ?_
 rintro _ w23 ⟨a24, o25⟩
 replace h1 := h1.stepb o25 in1
 replace h2 := h2.stepb o25 in1
 replace a13 := a13.step o25 (fun e => absurd e n_g0_h0)
 replace oW := oW.tailb o25 g_oW_h0
 refine wF ([(Value.agg #[(eI gx1), (eI gy1), (eI gz1)]), u1, (eI sp), u2, (ptr g0 0), undef, undef, undef, (Value.bool false), (ptr h0 0)] ++ (us 7 ++ [(Value.bool true), (Value.bool false), u1, (eN bl.length), (Value.bool false), (Value.agg #[(eI gx1), (eI gy1), (eI gz1)]), (Value.agg #[(eN D), (eN B), (eN Q)])] ++ (us 134))) ?_
 refine wpL.done ?_
 refine then_n ?_
 refine wpIn_seq ?_
 refine plain ?_
 refine wI (d_loadAg (vs := [(eI gx1), (eI gy1), (eI gz1)]) ⟨_, Try.underlying25, rfl⟩ s_ti25 rfl a13 rfl rfl) ?_
 refine wI (d_loadAg (vs := [(eN D), (eN B), (eN Q)]) ⟨_, Try.underlying25, rfl⟩ s_ti25 rfl a24 rfl rfl) ?_
 refine wI (d_loadAg (vs := [(eN D), (eN B), (eN Q)]) ⟨_, Try.underlying25, rfl⟩ s_ti25 rfl a24 rfl rfl) ?_
 refine wF ([(Value.agg #[(eI gx1), (eI gy1), (eI gz1)]), u1, (eI sp), u2, (ptr g0 0), undef, undef, undef, (Value.bool false), (ptr h0 0)] ++ (us 7 ++ [(Value.bool true), (Value.bool false), u1, (eN bl.length), (Value.bool false), (Value.agg #[(eI gx1), (eI gy1), (eI gz1)]), (Value.agg #[(eN D), (eN B), (eN Q)]), (Value.agg #[(eI gx1), (eI gy1), (eI gz1)]), (Value.agg #[(eN D), (eN B), (eN Q)]), (Value.agg #[(eN D), (eN B), (eN Q)])] ++ (us 131))) ?_
 refine wO (d_buildL2 (zs := [(eN 0), (eN 0), (eN 0), (eN 0), (eN 0), (eN 0), (eN 0), (eN 0), (eN 0)]) (cs := [(eI gx1), (eI gy1), (eI gz1), (eN D), (eN B), (eN Q), (eN D), (eN B), (eN Q)]) Try.underlying44 s_ti25 made_three3 (nb rfl) (parts_cons (vs := [(eI gx1), (eI gy1), (eI gz1)]) (cells_of (v := (Value.agg #[(eI gx1), (eI gy1), (eI gz1)])) rfl rfl) (parts_cons (vs := [(eN D), (eN B), (eN Q)]) (cells_of (v := (Value.agg #[(eN D), (eN B), (eN Q)])) rfl rfl) (parts_cons (vs := [(eN D), (eN B), (eN Q)]) (cells_of (v := (Value.agg #[(eN D), (eN B), (eN Q)])) rfl rfl) parts_nil))) rfl) ?_
 rintro _ w26 ⟨gs, rfl, g27, a28, o29⟩
 have n_g0_gs : g0 ≠ gs := a13.ne g27
 have n_h0_gs : h0 ≠ gs := a24.ne g27
 have g_oW_gs : W.heap.size ≤ gs := Nat.le_trans oW.size g27
 replace h1 := h1.new o29 g27
 replace h2 := h2.new o29 g27
 replace a13 := a13.step0 o29
 replace a24 := a24.step0 o29
 replace oW := oW.tail0 o29
 refine wI (d_assign rfl) ?_
 refine wF ([(Value.agg #[(eI gx1), (eI gy1), (eI gz1)]), u1, (eI sp), u2, (ptr g0 0), undef, undef, undef, (Value.bool false), (ptr h0 0), (sli gs 0 3 3)] ++ (us 6 ++ [(Value.bool true), (Value.bool false), u1, (eN bl.length), (Value.bool false), (Value.agg #[(eI gx1), (eI gy1), (eI gz1)]), (Value.agg #[(eN D), (eN B), (eN Q)]), (Value.agg #[(eI gx1), (eI gy1), (eI gz1)]), (Value.agg #[(eN D), (eN B), (eN Q)]), (Value.agg #[(eN D), (eN B), (eN Q)]), (sli gs 0 3 3)] ++ (us 130))) ?_
 refine wpL.done ?_
 refine then_n ?_
 refine wpIn_seq ?_
 refine plain ?_
 refine wI (d_move rfl) ?_
 refine wI (d_move rfl) ?_
 refine wI (d_loadAg (vs := [(eN D), (eN B), (eN Q)]) ⟨_, Try.underlying25, rfl⟩ s_ti25 rfl a24 rfl rfl) ?_
 refine wF ([(Value.agg #[(eI gx1), (eI gy1), (eI gz1)]), u1, (eI sp), u2, (ptr g0 0), undef, undef, undef, (Value.bool false), (ptr h0 0), (sli gs 0 3 3)] ++ (us 6 ++ [(Value.bool true), (Value.bool false), u1, (eN bl.length), (Value.bool false), (Value.agg #[(eI gx1), (eI gy1), (eI gz1)]), (Value.agg #[(eN D), (eN B), (eN Q)]), (Value.agg #[(eI gx1), (eI gy1), (eI gz1)]), (Value.agg #[(eN D), (eN B), (eN Q)]), (Value.agg #[(eN D), (eN B), (eN Q)]), (sli gs 0 3 3), u1, u1, (Value.agg #[(eN D), (eN B), (eN Q)])] ++ (us 127))) ?_
 refine wI (d_move rfl) ?_
 refine wO (d_call (xl := [.tmp 30, .tmp 31]) (al := [(Value.agg #[(eN D), (eN B), (eN Q)]), u2]) Try.func30 (by kernel_rfl) rfl rfl rfl (law7Spoil_ok D B Q ls u2 _ (Ps.no h2) (by first | omega | (simp; done) | (simp; omega)) (by omega) (by omega))) ?_
 rintro u32 w30 f33
 obtain ⟨f33, o31⟩ := f33
 replace f33 := f33.less (Y := (Or1 gs (Or1 h0 (Or1 g0 (Old W.heap.size))))) (or1_old a28.lt (or1_old a24.lt (or1_old a13.lt (old_old oW.size))))
 replace h1 := h1.step0 o31
 replace h2 := h2.step0 o31
 replace a13 := a13.step0 o31
 replace a24 := a24.step0 o31
 replace a28 := a28.step0 o31
 replace oW := oW.tail0 o31
 refine wO (d_buildL (cs := [u1, u1, u32]) Try.underlying46 s_ti42 rfl (nb rfl) (parts_cons (vs := [u1]) (cells_of (v := u1) rfl (Seq.cells h1)) (parts_cons (vs := [u1]) (cells_of (v := u1) rfl (Seq.cells h1)) (parts_cons (vs := [u32]) (cells_of (v := u32) rfl (Seq.cells f33)) parts_nil))) rfl) ?_
 rintro _ w34 ⟨bs, rfl, g35, a36, o37⟩
 have n_g0_bs : g0 ≠ bs := a13.ne g35
 have n_h0_bs : h0 ≠ bs := a24.ne g35
 have n_gs_bs : gs ≠ bs := a28.ne g35
 have g_oW_bs : W.heap.size ≤ bs := Nat.le_trans oW.size g35
 replace h1 := h1.new o37 g35
 replace h2 := h2.new o37 g35
 replace f33 := f33.new o37 g35
 replace a13 := a13.step0 o37
 replace a24 := a24.step0 o37
 replace a28 := a28.step0 o37
 replace oW := oW.tail0 o37
 refine wF ([(Value.agg #[(eI gx1), (eI gy1), (eI gz1)]), u1, (eI sp), u2, (ptr g0 0), undef, undef, undef, (Value.bool false), (ptr h0 0), (sli gs 0 3 3)] ++ (us 6 ++ [(Value.bool true), (Value.bool false), u1, (eN bl.length), (Value.bool false), (Value.agg #[(eI gx1), (eI gy1), (eI gz1)]), (Value.agg #[(eN D), (eN B), (eN Q)]), (Value.agg #[(eI gx1), (eI gy1), (eI gz1)]), (Value.agg #[(eN D), (eN B), (eN Q)]), (Value.agg #[(eN D), (eN B), (eN Q)]), (sli gs 0 3 3), u1, u1, (Value.agg #[(eN D), (eN B), (eN Q)]), u2, u32, (sli bs 0 3 3)] ++ (us 124))) ?_
 refine wI (d_assign rfl) ?_
 refine wF ([(Value.agg #[(eI gx1), (eI gy1), (eI gz1)]), u1, (eI sp), u2, (ptr g0 0), undef, undef, undef, (Value.bool false), (ptr h0 0), (sli gs 0 3 3), (sli bs 0 3 3)] ++ (us 5 ++ [(Value.bool true), (Value.bool false), u1, (eN bl.length), (Value.bool false), (Value.agg #[(eI gx1), (eI gy1), (eI gz1)]), (Value.agg #[(eN D), (eN B), (eN Q)]), (Value.agg #[(eI gx1), (eI gy1), (eI gz1)]), (Value.agg #[(eN D), (eN B), (eN Q)]), (Value.agg #[(eN D), (eN B), (eN Q)]), (sli gs 0 3 3), u1, u1, (Value.agg #[(eN D), (eN B), (eN Q)]), u2, u32, (sli bs 0 3 3)] ++ (us 124))) ?_
 refine wpL.done ?_
 refine then_n ?_
 refine wpIn_seq ?_
 refine wpIn_seq ?_
 have sb := spoilL_len D B ls
 refine plain ?_
 refine wI (d_assign rfl) ?_
 refine wF ([(Value.agg #[(eI gx1), (eI gy1), (eI gz1)]), u1, (eI sp), u2, (ptr g0 0), undef, undef, undef, (Value.bool false), (ptr h0 0), (sli gs 0 3 3), (sli bs 0 3 3), (eN 0), undef, undef, undef, undef, (Value.bool true), (Value.bool false), u1, (eN bl.length), (Value.bool false), (Value.agg #[(eI gx1), (eI gy1), (eI gz1)]), (Value.agg #[(eN D), (eN B), (eN Q)]), (Value.agg #[(eI gx1), (eI gy1), (eI gz1)]), (Value.agg #[(eN D), (eN B), (eN Q)]), (Value.agg #[(eN D), (eN B), (eN Q)]), (sli gs 0 3 3), u1, u1, (Value.agg #[(eN D), (eN B), (eN Q)]), u2, u32, (sli bs 0 3 3)] ++ (us 124)) ?_
 refine wpL.done ?_
 refine then_n ?_
 refine wpIn_block ?_
 refine loop2 (fun (i : (Nat)) => fun (z : Nat → Value) => (([(Value.agg #[(eI gx1), (eI gy1), (eI gz1)]), u1, (eI sp), u2, (ptr g0 0), undef, undef, undef, (z 8), (ptr h0 0), (sli gs 0 3 3), (sli bs 0 3 3), (eN i), (z 13), (z 14), (z 15), (z 16), (Value.bool true), (Value.bool false), u1, (eN bl.length), (Value.bool false), (Value.agg #[(eI gx1), (eI gy1), (eI gz1)]), (Value.agg #[(eN D), (eN B), (eN Q)]), (Value.agg #[(eI gx1), (eI gy1), (eI gz1)]), (Value.agg #[(eN D), (eN B), (eN Q)]), (Value.agg #[(eN D), (eN B), (eN Q)]), (sli gs 0 3 3), u1, u1, (Value.agg #[(eN D), (eN B), (eN Q)]), u2, u32, (sli bs 0 3 3)] ++ (zs z 34 124)) : List Value)) (fun (i : (Nat)) => fun (w_ : World) => (i ≤ 3) ∧ Only (Or1 bs (Or1 gs (Or1 h0 (Or1 g0 No)))) w34 w_ ∧ Arr 25 g0 [(eI gx1), (eI gy1), (eI gz1)] w_ ∧ Arr 25 h0 [(eN D), (eN B), (eN Q)] w_ ∧ Arr 25 gs [(eI gx1), (eI gy1), (eI gz1), (eN D), (eN B), (eN Q), (eN D), (eN B), (eN Q)] w_ ∧ Arr 42 bs [u1, u1, u32] w_) (fun (i : (Nat)) => 3 - i) 0 rfl ?_ ?_
 ·
  refine ⟨?_, ?_, ?_, ?_, ?_, ?_⟩
  ·
   exact Nat.zero_le _
  ·
   exact Only.refl _ _
  ·
   exact a13
  ·
   exact a24
  ·
   exact a28
  ·
   exact a36
 rintro i z w39 ⟨hi, o38, a13, a24, a28, a36⟩
 (try dsimp only)
 replace h1 := h1.step o38 (or1_mono (or1_mono (or1_mono (or1_mono no_any))))
 replace h2 := h2.step o38 (or1_mono (or1_mono (or1_mono (or1_mono no_any))))
 replace f33 := f33.step o38 (or1_mono (or1_mono (or1_mono (or1_mono no_any))))
 replace oW := oW.tail o38 (tl_new g_oW_bs (tl_new g_oW_gs (tl_new g_oW_h0 (tl_new g_oW_g0 tl_no))))
 refine wpIn_seq ?_
 refine wpIn_seq ?_
 refine plain ?_
 refine wI (d_move rfl) ?_
 refine wI (n_lss (a := i) (b := 3) rfl rfl rfl) ?_
 refine wF ([(Value.agg #[(eI gx1), (eI gy1), (eI gz1)]), u1, (eI sp), u2, (ptr g0 0), undef, undef, undef, (z 8), (ptr h0 0), (sli gs 0 3 3), (sli bs 0 3 3), (eN i), (z 13), (z 14), (z 15), (z 16), (Value.bool true), (Value.bool false), u1, (eN bl.length), (Value.bool false), (Value.agg #[(eI gx1), (eI gy1), (eI gz1)]), (Value.agg #[(eN D), (eN B), (eN Q)]), (Value.agg #[(eI gx1), (eI gy1), (eI gz1)]), (Value.agg #[(eN D), (eN B), (eN Q)]), (Value.agg #[(eN D), (eN B), (eN Q)]), (sli gs 0 3 3), u1, u1, (Value.agg #[(eN D), (eN B), (eN Q)]), u2, u32, (sli bs 0 3 3), (eN i), (Value.bool (decide (i < 3)))] ++ (zs z 36 122)) ?_
 refine wpL.done ?_
 refine then_n ?_
 refine cond_if rfl (fun c40 => ?_) (fun c40 => ?_)
 ·
  refine wpIn_skip ?_
  refine then_n ?_
  refine wpIn_seq ?_
  refine wpIn_block ?_
  refine wpIn_seq ?_
  by_cases kf : fitsI gx1 gy1 gz1 = true ∨ 0 < i
  ·
   by_cases k0 : i = 0
   ·
    subst k0
    refine wp_eq (l' := ([(Value.agg #[(eI gx1), (eI gy1), (eI gz1)]), u1, (eI sp), u2, (ptr g0 0), undef, undef, undef, (z 8), (ptr h0 0), (sli gs 0 3 3), (sli bs 0 3 3), (eN 0), (z 13), (z 14), (z 15), (z 16), (Value.bool true), (Value.bool false), u1, (eN bl.length), (Value.bool false), (Value.agg #[(eI gx1), (eI gy1), (eI gz1)]), (Value.agg #[(eN D), (eN B), (eN Q)]), (Value.agg #[(eI gx1), (eI gy1), (eI gz1)]), (Value.agg #[(eN D), (eN B), (eN Q)]), (Value.agg #[(eN D), (eN B), (eN Q)]), (sli gs 0 3 3), u1, u1, (Value.agg #[(eN D), (eN B), (eN Q)]), u2, u32, (sli bs 0 3 3), (eN 0), (Value.bool (decide (0 < 3)))] ++ (zs z 36 122))) rfl ?_
    have hfy := kf.resolve_right (Nat.lt_irrefl 0)
    have hf_ := fits_get hfy
    obtain ⟨D0, rfl⟩ := Int.eq_ofNat_of_zero_le (show 0 ≤ gx1 by omega)
    refine wp_eq (l' := ([(Value.agg #[(eN D0), (eI gy1), (eI gz1)]), u1, (eI sp), u2, (ptr g0 0), undef, undef, undef, (z 8), (ptr h0 0), (sli gs 0 3 3), (sli bs 0 3 3), (eN 0), (z 13), (z 14), (z 15), (z 16), (Value.bool true), (Value.bool false), u1, (eN bl.length), (Value.bool false), (Value.agg #[(eN D0), (eI gy1), (eI gz1)]), (Value.agg #[(eN D), (eN B), (eN Q)]), (Value.agg #[(eN D0), (eI gy1), (eI gz1)]), (Value.agg #[(eN D), (eN B), (eN Q)]), (Value.agg #[(eN D), (eN B), (eN Q)]), (sli gs 0 3 3), u1, u1, (Value.agg #[(eN D), (eN B), (eN Q)]), u2, u32, (sli bs 0 3 3), (eN 0), (Value.bool (decide (0 < 3)))] ++ (zs z 36 122))) rfl ?_
    obtain ⟨B0, rfl⟩ := Int.eq_ofNat_of_zero_le (show 0 ≤ gy1 by omega)
    refine wp_eq (l' := ([(Value.agg #[(eN D0), (eN B0), (eI gz1)]), u1, (eI sp), u2, (ptr g0 0), undef, undef, undef, (z 8), (ptr h0 0), (sli gs 0 3 3), (sli bs 0 3 3), (eN 0), (z 13), (z 14), (z 15), (z 16), (Value.bool true), (Value.bool false), u1, (eN bl.length), (Value.bool false), (Value.agg #[(eN D0), (eN B0), (eI gz1)]), (Value.agg #[(eN D), (eN B), (eN Q)]), (Value.agg #[(eN D0), (eN B0), (eI gz1)]), (Value.agg #[(eN D), (eN B), (eN Q)]), (Value.agg #[(eN D), (eN B), (eN Q)]), (sli gs 0 3 3), u1, u1, (Value.agg #[(eN D), (eN B), (eN Q)]), u2, u32, (sli bs 0 3 3), (eN 0), (Value.bool (decide (0 < 3)))] ++ (zs z 36 122))) rfl ?_
    obtain ⟨Q0, rfl⟩ := Int.eq_ofNat_of_zero_le (show 0 ≤ gz1 by omega)
    refine wp_eq (l' := ([(Value.agg #[(eN D0), (eN B0), (eN Q0)]), u1, (eI sp), u2, (ptr g0 0), undef, undef, undef, (z 8), (ptr h0 0), (sli gs 0 3 3), (sli bs 0 3 3), (eN 0), (z 13), (z 14), (z 15), (z 16), (Value.bool true), (Value.bool false), u1, (eN bl.length), (Value.bool false), (Value.agg #[(eN D0), (eN B0), (eN Q0)]), (Value.agg #[(eN D), (eN B), (eN Q)]), (Value.agg #[(eN D0), (eN B0), (eN Q0)]), (Value.agg #[(eN D), (eN B), (eN Q)]), (Value.agg #[(eN D), (eN B), (eN Q)]), (sli gs 0 3 3), u1, u1, (Value.agg #[(eN D), (eN B), (eN Q)]), u2, u32, (sli bs 0 3 3), (eN 0), (Value.bool (decide (0 < 3)))] ++ (zs z 36 122))) rfl ?_
    refine drawnG (O := (Or1 bs (Or1 gs (Or1 h0 (Or1 g0 No))))) (n := 20) 0 [0, 0, 3, 7, 0, 0, 48, 112, 255, 0, 0, 1536, 3584, 0, 0, 24576, 57344, 131071, 262143, 524287] [(0, 38), (1, 39), (2, 40), (3, 41), (4, 42), (5, 43), (6, 44), (7, 45), (8, 46), (9, 47), (10, 48), (11, 49), (12, 50), (13, 51), (14, 52), (15, 53), (16, 54), (17, 55), (18, 13), (19, 14)] [] [] [] (fun i_ => ([] : List (RF (Or1 bs (Or1 gs (Or1 h0 (Or1 g0 No)))))).getD i_ (RF.any (Or1 bs (Or1 gs (Or1 h0 (Or1 g0 No)))))) (fun _ w_ => Arr 25 g0 [(eN D0), (eN B0), (eN Q0)] w_ ∧ Arr 25 h0 [(eN D), (eN B), (eN Q)] w_ ∧ Arr 25 gs [(eN D0), (eN B0), (eN Q0), (eN D), (eN B), (eN Q), (eN D), (eN B), (eN Q)] w_ ∧ Arr 42 bs [u1, u1, u32] w_) (fun v41 => ([(Value.agg #[(eN D0), (eN B0), (eN Q0)]), u1, (eI sp), u2, (ptr g0 0), undef, undef, undef, (z 8), (ptr h0 0), (sli gs 0 3 3), (sli bs 0 3 3), (eN 0), (v41 18), (v41 19), (z 15), (z 16), (Value.bool true), (Value.bool false), u1, (eN bl.length), (Value.bool false), (Value.agg #[(eN D0), (eN B0), (eN Q0)]), (Value.agg #[(eN D), (eN B), (eN Q)]), (Value.agg #[(eN D0), (eN B0), (eN Q0)]), (Value.agg #[(eN D), (eN B), (eN Q)]), (Value.agg #[(eN D), (eN B), (eN Q)]), (sli gs 0 3 3), u1, u1, (Value.agg #[(eN D), (eN B), (eN Q)]), u2, u32, (sli bs 0 3 3), (eN 0), (Value.bool (decide (0 < 3))), (z 36), (z 37), (v41 0), (v41 1), (v41 2), (v41 3), (v41 4), (v41 5), (v41 6), (v41 7), (v41 8), (v41 9), (v41 10), (v41 11), (v41 12), (v41 13), (v41 14), (v41 15), (v41 16), (v41 17)] ++ (zs z 56 102))) (fun v41 => ([(Value.agg #[(eN D0), (eN B0), (eN Q0)]), u1, (eI sp), u2, (ptr g0 0), undef, undef, undef, (z 8), (ptr h0 0), (sli gs 0 3 3), (sli bs 0 3 3), (eN 0), (z 13), (z 14), (z 15), (z 16), (Value.bool true), (Value.bool false), u1, (eN bl.length), (Value.bool false), (Value.agg #[(eN D0), (eN B0), (eN Q0)]), (Value.agg #[(eN D), (eN B), (eN Q)]), (Value.agg #[(eN D0), (eN B0), (eN Q0)]), (Value.agg #[(eN D), (eN B), (eN Q)]), (Value.agg #[(eN D), (eN B), (eN Q)]), (sli gs 0 3 3), u1, u1, (Value.agg #[(eN D), (eN B), (eN Q)]), u2, u32, (sli bs 0 3 3), (eN 0), (Value.bool (decide (0 < 3)))] ++ (zs z 36 122))) s_mx (by kernel_rfl) rfl (by decide) (by rfl) (by kernel_rfl) (by kernel_rfl) (by kernel_rfl) (by rfl) (fun v_ => by kernel_rfl) (fun v_ => by kernel_rfl) (fun _ => fun w_ w2_ h ho => by obtain ⟨r_a13, r_a24, r_a28, r_a36⟩ := h; exact ⟨r_a13.step0 ho, r_a24.step0 ho, r_a28.step0 ho, r_a36.step0 ho⟩) ⟨a13, a24, a28, a36⟩ ?_ ?_ ?_
    ·
     exact ls_nil
    ·
     exact ms_nil
    intro v41 lo_ hi_ w42 o43 hd hR
    clear hd lo_ hi_
    replace h1 := h1.step o43 (or1_mono (or1_mono (or1_mono (or1_mono no_any))))
    replace h2 := h2.step o43 (or1_mono (or1_mono (or1_mono (or1_mono no_any))))
    replace f33 := f33.step o43 (or1_mono (or1_mono (or1_mono (or1_mono no_any))))
    obtain ⟨xr_a13, xr_a24, xr_a28, xr_a36⟩ := hR
    replace a13 : Arr 25 g0 [(eN D0), (eN B0), (eN Q0)] w42 := xr_a13
    replace a24 : Arr 25 h0 [(eN D), (eN B), (eN Q)] w42 := xr_a24
    replace a28 : Arr 25 gs [(eN D0), (eN B0), (eN Q0), (eN D), (eN B), (eN Q), (eN D), (eN B), (eN Q)] w42 := xr_a28
    replace a36 : Arr 42 bs [u1, u1, u32] w42 := xr_a36
    clear xr_a13 xr_a24 xr_a28 xr_a36
    replace oW := oW.tail o43 (tl_new g_oW_bs (tl_new g_oW_gs (tl_new g_oW_h0 (tl_new g_oW_g0 tl_no))))
    replace o38 := o38.tail o43 (tl_in in1 (tl_in (in2 in1) (tl_in (in2 (in2 in1)) (tl_in (in2 (in2 (in2 in1))) tl_no))))
    refine rest_seg (n := 20) (p := 0) (q := 20) [0, 1, 2, 3, 4, 5, 6, 7, 9, 10, 11, 12, 13, 14, 15, 16] [8, 17, 18, 19] [(0, 38), (1, 39), (2, 40), (3, 41), (4, 42), (5, 43), (6, 44), (7, 45), (9, 47), (10, 48), (11, 49), (12, 50), (13, 51), (14, 52), (15, 53), (16, 54)] [(0, 38), (1, 39), (2, 40), (3, 41), (4, 42), (5, 43), (6, 44), (7, 45), (8, 46), (9, 47), (10, 48), (11, 49), (12, 50), (13, 51), (14, 52), (15, 53), (16, 54), (17, 55), (18, 13), (19, 14)] [0, 0, 3, 7, 0, 0, 48, 112, 255, 0, 0, 1536, 3584, 0, 0, 24576, 57344, 131071, 262143, 524287] (fun i_ => nth [(sli gs 0 3 3), (eN 0), (ptr gs 0), (Value.agg #[(eN D0), (eN B0), (eN Q0)]), (sli bs 0 3 3), (eN 0), (ptr bs 0), u1, undef, (sli gs 0 3 3), (eN 0), (ptr gs 0), (Value.agg #[(eN D0), (eN B0), (eN Q0)]), (sli bs 0 3 3), (eN 0), (ptr bs 0), u1] i_) ([(Value.agg #[(eN D0), (eN B0), (eN Q0)]), u1, (eI sp), u2, (ptr g0 0), undef, undef, undef, (z 8), (ptr h0 0), (sli gs 0 3 3), (sli bs 0 3 3), (eN 0), (z 13), (z 14), (z 15), (z 16), (Value.bool true), (Value.bool false), u1, (eN bl.length), (Value.bool false), (Value.agg #[(eN D0), (eN B0), (eN Q0)]), (Value.agg #[(eN D), (eN B), (eN Q)]), (Value.agg #[(eN D0), (eN B0), (eN Q0)]), (Value.agg #[(eN D), (eN B), (eN Q)]), (Value.agg #[(eN D), (eN B), (eN Q)]), (sli gs 0 3 3), u1, u1, (Value.agg #[(eN D), (eN B), (eN Q)]), u2, u32, (sli bs 0 3 3), (eN 0), (Value.bool (decide (0 < 3))), (z 36), (z 37), (sli gs 0 3 3), (eN 0), (ptr gs 0), (Value.agg #[(eN D0), (eN B0), (eN Q0)]), (sli bs 0 3 3), (eN 0), (ptr bs 0), u1, (z 46), (sli gs 0 3 3), (eN 0), (ptr gs 0), (Value.agg #[(eN D0), (eN B0), (eN Q0)]), (sli bs 0 3 3), (eN 0), (ptr bs 0), u1] ++ (zs z 55 103)) (fun w_ => Ps (Or1 bs (Or1 gs (Or1 h0 (Or1 g0 No)))) (Seq (kA 2 eQ) bl u1) w_ ∧ Ps (Or1 bs (Or1 gs (Or1 h0 (Or1 g0 No)))) (Seq kI ls u2) w_ ∧ Ps (Or1 bs (Or1 gs (Or1 h0 (Or1 g0 (Old W.heap.size))))) (Seq (kA 2 eQ) (spoilL D B ls) u32) w_ ∧ Arr 25 g0 [(eN D0), (eN B0), (eN Q0)] w_ ∧ Arr 25 h0 [(eN D), (eN B), (eN Q)] w_ ∧ Arr 25 gs [(eN D0), (eN B0), (eN Q0), (eN D), (eN B), (eN Q), (eN D), (eN B), (eN Q)] w_ ∧ Arr 42 bs [u1, u1, u32] w_ ∧ True) (by kernel_rfl) rfl (by decide) (by kernel_rfl) (by kernel_rfl) (by rfl) (by kernel_rfl) (by kernel_rfl) (by kernel_rfl) (by kernel_rfl) (by kernel_rfl) (by decide) ?_ ?_
    ·
     rintro w_ ⟨h1, h2, f33, a13, a24, a28, a36, _⟩
     refine fl_cons ⟨_, rfl, gd rfl (d_move rfl)⟩ ?_
     refine fl_cons ⟨_, rfl, gd rfl (d_move rfl)⟩ ?_
     refine fl_cons ⟨_, rfl, gd rfl (d_index (b := gs) (o := 0) (n := 3) (c := 3) (j := 0) Try.underlying44 s_ti25 rfl (show _ = Value.int _ ((0 : Nat) : Int) from rfl) (by omega) (by omega) (by simp))⟩ ?_
     refine fl_cons ⟨_, rfl, gd rfl (d_loadAg (vs := [(eN D0), (eN B0), (eN Q0)]) ⟨_, Try.underlying25, rfl⟩ s_ti25 rfl a28 rfl rfl)⟩ ?_
     refine fl_cons ⟨_, rfl, gd rfl (d_move rfl)⟩ ?_
     refine fl_cons ⟨_, rfl, gd rfl (d_move rfl)⟩ ?_
     refine fl_cons ⟨_, rfl, gd rfl (d_index1 (n := 3) (i := 0) Try.underlying46 s_ti42 rfl (show _ = Value.int _ ((0 : Nat) : Int) from rfl) (by omega))⟩ ?_
     refine fl_cons ⟨_, rfl, gd rfl (d_load (v := u1) ⟨_, Try.underlying42, rfl⟩ rfl a36 rfl)⟩ ?_
     refine fl_cons ⟨_, rfl, gd rfl (d_move rfl)⟩ ?_
     refine fl_cons ⟨_, rfl, gd rfl (d_move rfl)⟩ ?_
     refine fl_cons ⟨_, rfl, gd rfl (d_index (b := gs) (o := 0) (n := 3) (c := 3) (j := 0) Try.underlying44 s_ti25 rfl (show _ = Value.int _ ((0 : Nat) : Int) from rfl) (by omega) (by omega) (by simp))⟩ ?_
     refine fl_cons ⟨_, rfl, gd rfl (d_loadAg (vs := [(eN D0), (eN B0), (eN Q0)]) ⟨_, Try.underlying25, rfl⟩ s_ti25 rfl a28 rfl rfl)⟩ ?_
     refine fl_cons ⟨_, rfl, gd rfl (d_move rfl)⟩ ?_
     refine fl_cons ⟨_, rfl, gd rfl (d_move rfl)⟩ ?_
     refine fl_cons ⟨_, rfl, gd rfl (d_index1 (n := 3) (i := 0) Try.underlying46 s_ti42 rfl (show _ = Value.int _ ((0 : Nat) : Int) from rfl) (by omega))⟩ ?_
     refine fl_cons ⟨_, rfl, gd rfl (d_load (v := u1) ⟨_, Try.underlying42, rfl⟩ rfl a36 rfl)⟩ ?_
     exact fl_nil
    refine wJ.op ⟨h1, h2, f33, a13, a24, a28, a36, trivial⟩ rfl rfl (d_call (xl := [.tmp 41, .tmp 45]) (al := [(Value.agg #[(eN D0), (eN B0), (eN Q0)]), u1]) Try.func31 (by kernel_rfl) rfl rfl rfl (supers_ok D0 B0 Q0 bl u1 _ (Ps.no h1) (by first | omega | (simp; done) | (simp; omega)) (by omega) (by omega) (by omega))) ?_
    rintro u46 w44 ⟨ws47, hw48, f49, g50, o45⟩
    replace f49 := f49.less (Y := (Or1 bs (Or1 gs (Or1 h0 (Or1 g0 (Old W.heap.size)))))) (or1_old a36.lt (or1_old a28.lt (or1_old a24.lt (or1_old a13.lt (old_old oW.size)))))
    replace g50 := g50.less (Y := (Or1 bs (Or1 gs (Or1 h0 (Or1 g0 (Old W.heap.size)))))) (or1_old a36.lt (or1_old a28.lt (or1_old a24.lt (or1_old a13.lt (old_old oW.size)))))
    replace h1 := h1.step0 o45
    replace h2 := h2.step0 o45
    replace f33 := f33.step0 o45
    replace a13 := a13.step0 o45
    replace a24 := a24.step0 o45
    replace a28 := a28.step0 o45
    replace a36 := a36.step0 o45
    replace oW := oW.tail0 o45
    replace o38 := o38.tail0 o45
    refine wJ.flat ([(Value.agg #[(eN D0), (eN B0), (eN Q0)]), u1, (eI sp), u2, (ptr g0 0), undef, undef, undef, (z 8), (ptr h0 0), (sli gs 0 3 3), (sli bs 0 3 3), (eN 0), (z 13), (z 14), (z 15), (z 16), (Value.bool true), (Value.bool false), u1, (eN bl.length), (Value.bool false), (Value.agg #[(eN D0), (eN B0), (eN Q0)]), (Value.agg #[(eN D), (eN B), (eN Q)]), (Value.agg #[(eN D0), (eN B0), (eN Q0)]), (Value.agg #[(eN D), (eN B), (eN Q)]), (Value.agg #[(eN D), (eN B), (eN Q)]), (sli gs 0 3 3), u1, u1, (Value.agg #[(eN D), (eN B), (eN Q)]), u2, u32, (sli bs 0 3 3), (eN 0), (Value.bool (decide (0 < 3))), (z 36), (z 37), (sli gs 0 3 3), (eN 0), (ptr gs 0), (Value.agg #[(eN D0), (eN B0), (eN Q0)]), (sli bs 0 3 3), (eN 0), (ptr bs 0), u1, u46, (sli gs 0 3 3), (eN 0), (ptr gs 0), (Value.agg #[(eN D0), (eN B0), (eN Q0)]), (sli bs 0 3 3), (eN 0), (ptr bs 0), u1] ++ (zs z 55 103)) (by kernel_rfl) ?_
    refine wJ.op ⟨h1, h2, f33, a13, a24, a28, a36, trivial⟩ rfl rfl (d_call (xl := [.tmp 50, .tmp 54]) (al := [(Value.agg #[(eN D0), (eN B0), (eN Q0)]), u1]) Try.func32 (by kernel_rfl) rfl rfl rfl (ref9Supers_ok D0 B0 Q0 bl u1 _ (Ps.no h1) (by first | omega | (simp; done) | (simp; omega)) (by omega) (by omega) (by omega))) ?_
    rintro u53 w51 ⟨ws54, hw55, f56, g57, o52⟩
    replace f56 := f56.less (Y := (Or1 bs (Or1 gs (Or1 h0 (Or1 g0 (Old W.heap.size)))))) (or1_old a36.lt (or1_old a28.lt (or1_old a24.lt (or1_old a13.lt (old_old oW.size)))))
    replace g57 := g57.less (Y := (Or1 bs (Or1 gs (Or1 h0 (Or1 g0 (Old W.heap.size)))))) (or1_old a36.lt (or1_old a28.lt (or1_old a24.lt (or1_old a13.lt (old_old oW.size)))))
    replace h1 := h1.step0 o52
    replace h2 := h2.step0 o52
    replace f33 := f33.step0 o52
    replace f49 := f49.step0 o52
    replace g50 := g50.step0 o52
    replace a13 := a13.step0 o52
    replace a24 := a24.step0 o52
    replace a28 := a28.step0 o52
    replace a36 := a36.step0 o52
    replace oW := oW.tail0 o52
    replace o38 := o38.tail0 o52
    refine wJ.flat ([(Value.agg #[(eN D0), (eN B0), (eN Q0)]), u1, (eI sp), u2, (ptr g0 0), undef, undef, undef, (z 8), (ptr h0 0), (sli gs 0 3 3), (sli bs 0 3 3), (eN 0), (z 13), (z 14), (z 15), (z 16), (Value.bool true), (Value.bool false), u1, (eN bl.length), (Value.bool false), (Value.agg #[(eN D0), (eN B0), (eN Q0)]), (Value.agg #[(eN D), (eN B), (eN Q)]), (Value.agg #[(eN D0), (eN B0), (eN Q0)]), (Value.agg #[(eN D), (eN B), (eN Q)]), (Value.agg #[(eN D), (eN B), (eN Q)]), (sli gs 0 3 3), u1, u1, (Value.agg #[(eN D), (eN B), (eN Q)]), u2, u32, (sli bs 0 3 3), (eN 0), (Value.bool (decide (0 < 3))), (z 36), (z 37), (sli gs 0 3 3), (eN 0), (ptr gs 0), (Value.agg #[(eN D0), (eN B0), (eN Q0)]), (sli bs 0 3 3), (eN 0), (ptr bs 0), u1, u46, (sli gs 0 3 3), (eN 0), (ptr gs 0), (Value.agg #[(eN D0), (eN B0), (eN Q0)]), (sli bs 0 3 3), (eN 0), (ptr bs 0), u1, u53] ++ (zs z 56 102)) (by kernel_rfl) ?_
    refine wJ.is ⟨h1, h2, f33, a13, a24, a28, a36, trivial⟩ rfl rfl (d_assign rfl) ?_
    refine wJ.flat ([(Value.agg #[(eN D0), (eN B0), (eN Q0)]), u1, (eI sp), u2, (ptr g0 0), undef, undef, undef, (z 8), (ptr h0 0), (sli gs 0 3 3), (sli bs 0 3 3), (eN 0), u46, (z 14), (z 15), (z 16), (Value.bool true), (Value.bool false), u1, (eN bl.length), (Value.bool false), (Value.agg #[(eN D0), (eN B0), (eN Q0)]), (Value.agg #[(eN D), (eN B), (eN Q)]), (Value.agg #[(eN D0), (eN B0), (eN Q0)]), (Value.agg #[(eN D), (eN B), (eN Q)]), (Value.agg #[(eN D), (eN B), (eN Q)]), (sli gs 0 3 3), u1, u1, (Value.agg #[(eN D), (eN B), (eN Q)]), u2, u32, (sli bs 0 3 3), (eN 0), (Value.bool (decide (0 < 3))), (z 36), (z 37), (sli gs 0 3 3), (eN 0), (ptr gs 0), (Value.agg #[(eN D0), (eN B0), (eN Q0)]), (sli bs 0 3 3), (eN 0), (ptr bs 0), u1, u46, (sli gs 0 3 3), (eN 0), (ptr gs 0), (Value.agg #[(eN D0), (eN B0), (eN Q0)]), (sli bs 0 3 3), (eN 0), (ptr bs 0), u1, u53] ++ (zs z 56 102)) (by kernel_rfl) ?_
    refine wJ.is ⟨h1, h2, f33, a13, a24, a28, a36, trivial⟩ rfl rfl (d_assign rfl) ?_
    refine wJ.flat ([(Value.agg #[(eN D0), (eN B0), (eN Q0)]), u1, (eI sp), u2, (ptr g0 0), undef, undef, undef, (z 8), (ptr h0 0), (sli gs 0 3 3), (sli bs 0 3 3), (eN 0), u46, u53, (z 15), (z 16), (Value.bool true), (Value.bool false), u1, (eN bl.length), (Value.bool false), (Value.agg #[(eN D0), (eN B0), (eN Q0)]), (Value.agg #[(eN D), (eN B), (eN Q)]), (Value.agg #[(eN D0), (eN B0), (eN Q0)]), (Value.agg #[(eN D), (eN B), (eN Q)]), (Value.agg #[(eN D), (eN B), (eN Q)]), (sli gs 0 3 3), u1, u1, (Value.agg #[(eN D), (eN B), (eN Q)]), u2, u32, (sli bs 0 3 3), (eN 0), (Value.bool (decide (0 < 3))), (z 36), (z 37), (sli gs 0 3 3), (eN 0), (ptr gs 0), (Value.agg #[(eN D0), (eN B0), (eN Q0)]), (sli bs 0 3 3), (eN 0), (ptr bs 0), u1, u46, (sli gs 0 3 3), (eN 0), (ptr gs 0), (Value.agg #[(eN D0), (eN B0), (eN Q0)]), (sli bs 0 3 3), (eN 0), (ptr bs 0), u1, u53] ++ (zs z 56 102)) (by kernel_rfl) ?_
    refine wJ.done ⟨h1, h2, f33, a13, a24, a28, a36, trivial⟩ ?_
    refine rest_done rfl ?_
    have nl := nMin_le bl B0 D0
    refine then_n ?_
    refine wpIn_seq ?_
    refine wpIn_seq ?_
    refine drawn_pure [0, 1, 0, 4, 15, 31, 63, 63, 255, 511, 1023, 63, 63, 6207, 14399, 32767, 65535, 131071, 262143, 524287, 524287, 2097151, 4194303, 8388607, 524287, 524287, 50855935, 117964799, 268435455, 536870911, 1073741823] [(0, 56), (1, 57), (2, 58), (3, 59), (4, 60), (5, 61), (6, 62), (7, 63), (8, 64), (9, 65), (10, 66), (11, 67), (12, 68), (13, 69), (14, 70), (15, 71), (16, 72), (17, 73), (18, 74), (19, 75), (20, 76), (21, 77), (22, 78), (23, 79), (24, 80), (25, 81), (26, 82), (27, 83), (28, 84), (29, 85), (30, 86)] [u46, (eN ws47.length), u53, (eN ws54.length), (Value.bool false), (Value.bool false), (sli gs 0 3 3), (eN 0), (ptr gs 0), (Value.agg #[(eN D0), (eN B0), (eN Q0)]), (eN 0), (sli gs 0 3 3), (eN 0), (ptr gs 0), (Value.agg #[(eN D0), (eN B0), (eN Q0)]), (eN 0), (Value.bool false), (Value.bool false), (Value.bool false), (sli gs 0 3 3), (eN 0), (ptr gs 0), (Value.agg #[(eN D0), (eN B0), (eN Q0)]), (eN (D0 - 2)), (sli gs 0 3 3), (eN 0), (ptr gs 0), (Value.agg #[(eN D0), (eN B0), (eN Q0)]), (eN (D0 - 2)), (Value.bool false), (Value.bool false)] ([(Value.agg #[(eN D0), (eN B0), (eN Q0)]), u1, (eI sp), u2, (ptr g0 0), undef, undef, undef, (z 8), (ptr h0 0), (sli gs 0 3 3), (sli bs 0 3 3), (eN 0), u46, u53, (z 15), (z 16), (Value.bool true), (Value.bool false), u1, (eN bl.length), (Value.bool false), (Value.agg #[(eN D0), (eN B0), (eN Q0)]), (Value.agg #[(eN D), (eN B), (eN Q)]), (Value.agg #[(eN D0), (eN B0), (eN Q0)]), (Value.agg #[(eN D), (eN B), (eN Q)]), (Value.agg #[(eN D), (eN B), (eN Q)]), (sli gs 0 3 3), u1, u1, (Value.agg #[(eN D), (eN B), (eN Q)]), u2, u32, (sli bs 0 3 3), (eN 0), (Value.bool (decide (0 < 3))), (z 36), (z 37), (sli gs 0 3 3), (eN 0), (ptr gs 0), (Value.agg #[(eN D0), (eN B0), (eN Q0)]), (sli bs 0 3 3), (eN 0), (ptr bs 0), u1, u46, (sli gs 0 3 3), (eN 0), (ptr gs 0), (Value.agg #[(eN D0), (eN B0), (eN Q0)]), (sli bs 0 3 3), (eN 0), (ptr bs 0), u1, u53, u46, (eN ws47.length), u53, (eN ws54.length), (Value.bool false), (Value.bool false), (sli gs 0 3 3), (eN 0), (ptr gs 0), (Value.agg #[(eN D0), (eN B0), (eN Q0)]), (eN 0), (sli gs 0 3 3), (eN 0), (ptr gs 0), (Value.agg #[(eN D0), (eN B0), (eN Q0)]), (eN 0), (Value.bool false), (Value.bool false), (Value.bool false), (sli gs 0 3 3), (eN 0), (ptr gs 0), (Value.agg #[(eN D0), (eN B0), (eN Q0)]), (eN (D0 - 2)), (sli gs 0 3 3), (eN 0), (ptr gs 0), (Value.agg #[(eN D0), (eN B0), (eN Q0)]), (eN (D0 - 2)), (Value.bool false), (Value.bool false)] ++ (zs z 87 71)) s_mx (by kernel_rfl) (by kernel_rfl) rfl (by kernel_rfl) (by kernel_rfl) ?_ ?_
    ·
     intro w_ hO_
     refine AllG.cons (gi rfl (d_move rfl)) ?_
     refine AllG.cons (gi rfl (d_lenS rfl Try.underlying47 rfl (f49.step0 hO_))) ?_
     refine AllG.cons (gi rfl (d_move rfl)) ?_
     refine AllG.cons (gi rfl (d_lenS rfl Try.underlying47 rfl (f56.step0 hO_))) ?_
     refine AllG.cons (gi rfl (n_neq (a := ws47.length) (b := ws54.length) rfl rfl (by rw [decide_eq_true (hw48.trans hw55.symm)] <;> rfl))) ?_
     refine AllG.cons (gi rfl (d_move rfl)) ?_
     refine AllG.cons (gi_on rfl rfl rfl (nb rfl) rfl (d_move rfl)) ?_
     refine AllG.cons (gi_on rfl rfl rfl (nb rfl) rfl (d_move rfl)) ?_
     refine AllG.cons (gi_on rfl rfl rfl (nb rfl) rfl (d_index (b := gs) (o := 0) (n := 3) (c := 3) (j := 0) Try.underlying44 s_ti25 rfl (show _ = Value.int _ ((0 : Nat) : Int) from rfl) (by omega) (by omega) (by simp))) ?_
     refine AllG.cons (gi_on rfl rfl rfl (nb rfl) rfl (d_loadAg (vs := [(eN D0), (eN B0), (eN Q0)]) ⟨_, Try.underlying25, rfl⟩ s_ti25 rfl (a28.step0 hO_) rfl rfl)) ?_
     refine AllG.cons (gc_on rfl rfl rfl (nb rfl) rfl (d_call (xl := [.tmp 65]) (al := [(Value.agg #[(eN D0), (eN B0), (eN Q0)])]) Try.func33 (by kernel_rfl) rfl rfl rfl (cw_is (v' := eN 0) (gCheck_ok ((D0 : Nat) : Int) ((B0 : Nat) : Int) ((Q0 : Nat) : Int) _) (by rw [(show fitsI ((D0 : Nat) : Int) ((B0 : Nat) : Int) ((Q0 : Nat) : Int) = true from (fits_is (by omega)).symm)] <;> rfl)))) ?_
     refine AllG.cons (gi_on rfl rfl rfl (nb rfl) rfl (d_move rfl)) ?_
     refine AllG.cons (gi_on rfl rfl rfl (nb rfl) rfl (d_move rfl)) ?_
     refine AllG.cons (gi_on rfl rfl rfl (nb rfl) rfl (d_index (b := gs) (o := 0) (n := 3) (c := 3) (j := 0) Try.underlying44 s_ti25 rfl (show _ = Value.int _ ((0 : Nat) : Int) from rfl) (by omega) (by omega) (by simp))) ?_
     refine AllG.cons (gi_on rfl rfl rfl (nb rfl) rfl (d_loadAg (vs := [(eN D0), (eN B0), (eN Q0)]) ⟨_, Try.underlying25, rfl⟩ s_ti25 rfl (a28.step0 hO_) rfl rfl)) ?_
     refine AllG.cons (gc_on rfl rfl rfl (nb rfl) rfl (d_call (xl := [.tmp 70]) (al := [(Value.agg #[(eN D0), (eN B0), (eN Q0)])]) Try.func34 (by kernel_rfl) rfl rfl rfl (cw_is (v' := eN 0) (ref9Check_ok ((D0 : Nat) : Int) ((B0 : Nat) : Int) ((Q0 : Nat) : Int) _) (by rw [(show fitsI ((D0 : Nat) : Int) ((B0 : Nat) : Int) ((Q0 : Nat) : Int) = true from (fits_is (by omega)).symm)] <;> rfl)))) ?_
     refine AllG.cons (gi_on rfl rfl rfl (nb rfl) rfl (n_neq (a := 0) (b := 0) rfl rfl (by rw [decide_eq_true rfl] <;> rfl))) ?_
     refine AllG.cons (gi rfl (d_pick (b := false) (v := (Value.bool false)) rfl rfl)) ?_
     refine AllG.cons (gi rfl (d_move rfl)) ?_
     refine AllG.cons (gi_on rfl rfl rfl (nb rfl) rfl (d_move rfl)) ?_
     refine AllG.cons (gi_on rfl rfl rfl (nb rfl) rfl (d_move rfl)) ?_
     refine AllG.cons (gi_on rfl rfl rfl (nb rfl) rfl (d_index (b := gs) (o := 0) (n := 3) (c := 3) (j := 0) Try.underlying44 s_ti25 rfl (show _ = Value.int _ ((0 : Nat) : Int) from rfl) (by omega) (by omega) (by simp))) ?_
     refine AllG.cons (gi_on rfl rfl rfl (nb rfl) rfl (d_loadAg (vs := [(eN D0), (eN B0), (eN Q0)]) ⟨_, Try.underlying25, rfl⟩ s_ti25 rfl (a28.step0 hO_) rfl rfl)) ?_
     refine AllG.cons (gc_on rfl rfl rfl (nb rfl) rfl (d_call (xl := [.tmp 78]) (al := [(Value.agg #[(eN D0), (eN B0), (eN Q0)])]) Try.func35 (by kernel_rfl) rfl rfl rfl (cw_is (v' := eN (D0 - 2)) (gSlots_ok ((D0 : Nat) : Int) ((B0 : Nat) : Int) ((Q0 : Nat) : Int) _) (congrArg eI ((if_pos (show fitsI ((D0 : Nat) : Int) ((B0 : Nat) : Int) ((Q0 : Nat) : Int) = true from (fits_is (by omega)).symm)).trans (by omega)))))) ?_
     refine AllG.cons (gi_on rfl rfl rfl (nb rfl) rfl (d_move rfl)) ?_
     refine AllG.cons (gi_on rfl rfl rfl (nb rfl) rfl (d_move rfl)) ?_
     refine AllG.cons (gi_on rfl rfl rfl (nb rfl) rfl (d_index (b := gs) (o := 0) (n := 3) (c := 3) (j := 0) Try.underlying44 s_ti25 rfl (show _ = Value.int _ ((0 : Nat) : Int) from rfl) (by omega) (by omega) (by simp))) ?_
     refine AllG.cons (gi_on rfl rfl rfl (nb rfl) rfl (d_loadAg (vs := [(eN D0), (eN B0), (eN Q0)]) ⟨_, Try.underlying25, rfl⟩ s_ti25 rfl (a28.step0 hO_) rfl rfl)) ?_
     refine AllG.cons (gc_on rfl rfl rfl (nb rfl) rfl (d_call (xl := [.tmp 83]) (al := [(Value.agg #[(eN D0), (eN B0), (eN Q0)])]) Try.func36 (by kernel_rfl) rfl rfl rfl (cw_is (v' := eN (D0 - 2)) (ref9Slots_ok ((D0 : Nat) : Int) ((B0 : Nat) : Int) ((Q0 : Nat) : Int) _) (congrArg eI ((if_pos (show fitsI ((D0 : Nat) : Int) ((B0 : Nat) : Int) ((Q0 : Nat) : Int) = true from (fits_is (by omega)).symm)).trans (by omega)))))) ?_
     refine AllG.cons (gi_on rfl rfl rfl (nb rfl) rfl (n_neq (a := (D0 - 2)) (b := (D0 - 2)) rfl rfl (by rw [decide_eq_true rfl] <;> rfl))) ?_
     refine AllG.cons (gi rfl (d_pick (b := false) (v := (Value.bool false)) rfl rfl)) ?_
     exact AllG.nil
    intro w58 o59
    replace h1 := h1.step0 o59
    replace h2 := h2.step0 o59
    replace f33 := f33.step0 o59
    replace f49 := f49.step0 o59
    replace g50 := g50.step0 o59
    replace f56 := f56.step0 o59
    replace g57 := g57.step0 o59
    replace a13 := a13.step0 o59
    replace a24 := a24.step0 o59
    replace a28 := a28.step0 o59
    replace a36 := a36.step0 o59
    replace oW := oW.tail0 o59
    replace o38 := o38.tail0 o59
    refine then_n ?_
    refine cond_f rfl ?_
    refine wpIn_skip ?_
    refine then_n ?_
    refine wpIn_seq ?_
    refine wpIn_seq ?_
    refine plain ?_
    refine wI (d_assign rfl) ?_
    refine wF ([(Value.agg #[(eN D0), (eN B0), (eN Q0)]), u1, (eI sp), u2, (ptr g0 0), undef, undef, undef, (z 8), (ptr h0 0), (sli gs 0 3 3), (sli bs 0 3 3), (eN 0), u46, u53, (eN 0), (z 16), (Value.bool true), (Value.bool false), u1, (eN bl.length), (Value.bool false), (Value.agg #[(eN D0), (eN B0), (eN Q0)]), (Value.agg #[(eN D), (eN B), (eN Q)]), (Value.agg #[(eN D0), (eN B0), (eN Q0)]), (Value.agg #[(eN D), (eN B), (eN Q)]), (Value.agg #[(eN D), (eN B), (eN Q)]), (sli gs 0 3 3), u1, u1, (Value.agg #[(eN D), (eN B), (eN Q)]), u2, u32, (sli bs 0 3 3), (eN 0), (Value.bool (decide (0 < 3))), (z 36), (z 37), (sli gs 0 3 3), (eN 0), (ptr gs 0), (Value.agg #[(eN D0), (eN B0), (eN Q0)]), (sli bs 0 3 3), (eN 0), (ptr bs 0), u1, u46, (sli gs 0 3 3), (eN 0), (ptr gs 0), (Value.agg #[(eN D0), (eN B0), (eN Q0)]), (sli bs 0 3 3), (eN 0), (ptr bs 0), u1, u53, u46, (eN ws47.length), u53, (eN ws54.length), (Value.bool false), (Value.bool false), (sli gs 0 3 3), (eN 0), (ptr gs 0), (Value.agg #[(eN D0), (eN B0), (eN Q0)]), (eN 0), (sli gs 0 3 3), (eN 0), (ptr gs 0), (Value.agg #[(eN D0), (eN B0), (eN Q0)]), (eN 0), (Value.bool false), (Value.bool false), (Value.bool false), (sli gs 0 3 3), (eN 0), (ptr gs 0), (Value.agg #[(eN D0), (eN B0), (eN Q0)]), (eN (D0 - 2)), (sli gs 0 3 3), (eN 0), (ptr gs 0), (Value.agg #[(eN D0), (eN B0), (eN Q0)]), (eN (D0 - 2)), (Value.bool false), (Value.bool false)] ++ (zs z 87 71)) ?_
    refine wpL.done ?_
    refine then_n ?_
    refine wpIn_block ?_
    refine loop2 (fun (k : (Nat)) => fun (z : Nat → Value) => (([(Value.agg #[(eN D0), (eN B0), (eN Q0)]), u1, (eI sp), u2, (ptr g0 0), undef, undef, undef, (z 8), (ptr h0 0), (sli gs 0 3 3), (sli bs 0 3 3), (eN 0), u46, u53, (eN k), (z 16), (Value.bool true), (Value.bool false), u1, (eN bl.length), (Value.bool false), (Value.agg #[(eN D0), (eN B0), (eN Q0)]), (Value.agg #[(eN D), (eN B), (eN Q)]), (Value.agg #[(eN D0), (eN B0), (eN Q0)]), (Value.agg #[(eN D), (eN B), (eN Q)]), (Value.agg #[(eN D), (eN B), (eN Q)]), (sli gs 0 3 3), u1, u1, (Value.agg #[(eN D), (eN B), (eN Q)]), u2, u32, (sli bs 0 3 3), (eN 0), (Value.bool (decide (0 < 3))), (z 36), (z 37), (sli gs 0 3 3), (eN 0), (ptr gs 0), (Value.agg #[(eN D0), (eN B0), (eN Q0)]), (sli bs 0 3 3), (eN 0), (ptr bs 0), u1, u46, (sli gs 0 3 3), (eN 0), (ptr gs 0), (Value.agg #[(eN D0), (eN B0), (eN Q0)]), (sli bs 0 3 3), (eN 0), (ptr bs 0), u1, u53, u46, (eN ws47.length), u53, (eN ws54.length), (Value.bool false), (Value.bool false), (sli gs 0 3 3), (eN 0), (ptr gs 0), (Value.agg #[(eN D0), (eN B0), (eN Q0)]), (eN 0), (sli gs 0 3 3), (eN 0), (ptr gs 0), (Value.agg #[(eN D0), (eN B0), (eN Q0)]), (eN 0), (Value.bool false), (Value.bool false), (Value.bool false), (sli gs 0 3 3), (eN 0), (ptr gs 0), (Value.agg #[(eN D0), (eN B0), (eN Q0)]), (eN (D0 - 2)), (sli gs 0 3 3), (eN 0), (ptr gs 0), (Value.agg #[(eN D0), (eN B0), (eN Q0)]), (eN (D0 - 2)), (Value.bool false), (Value.bool false)] ++ (zs z 87 71)) : List Value)) (fun (k : (Nat)) => fun (w_ : World) => (k ≤ ws47.length) ∧ Only (Or1 bs (Or1 gs (Or1 h0 (Or1 g0 No)))) w58 w_ ∧ Arr 25 g0 [(eN D0), (eN B0), (eN Q0)] w_ ∧ Arr 25 h0 [(eN D), (eN B), (eN Q)] w_ ∧ Arr 25 gs [(eN D0), (eN B0), (eN Q0), (eN D), (eN B), (eN Q), (eN D), (eN B), (eN Q)] w_ ∧ Arr 42 bs [u1, u1, u32] w_) (fun (k : (Nat)) => ws47.length - k) 0 rfl ?_ ?_
    ·
     refine ⟨?_, ?_, ?_, ?_, ?_, ?_⟩
     ·
      exact Nat.zero_le _
     ·
      exact Only.refl _ _
     ·
      exact a13
     ·
      exact a24
     ·
      exact a28
     ·
      exact a36
    rintro k z w61 ⟨hk, o60, a13, a24, a28, a36⟩
    (try dsimp only)
    replace h1 := h1.step o60 (or1_mono (or1_mono (or1_mono (or1_mono no_any))))
    replace h2 := h2.step o60 (or1_mono (or1_mono (or1_mono (or1_mono no_any))))
    replace f33 := f33.step o60 (or1_mono (or1_mono (or1_mono (or1_mono no_any))))
    replace f49 := f49.step o60 (or1_mono (or1_mono (or1_mono (or1_mono no_any))))
    replace g50 := g50.step o60 (or1_mono (or1_mono (or1_mono (or1_mono no_any))))
    replace f56 := f56.step o60 (or1_mono (or1_mono (or1_mono (or1_mono no_any))))
    replace g57 := g57.step o60 (or1_mono (or1_mono (or1_mono (or1_mono no_any))))
    replace oW := oW.tail o60 (tl_new g_oW_bs (tl_new g_oW_gs (tl_new g_oW_h0 (tl_new g_oW_g0 tl_no))))
    replace o38 := o38.tail o60 (tl_in in1 (tl_in (in2 in1) (tl_in (in2 (in2 in1)) (tl_in (in2 (in2 (in2 in1))) tl_no))))
    refine wpIn_seq ?_
    refine wpIn_seq ?_
    refine plain ?_
    refine wI (d_move rfl) ?_
    refine wI (d_move rfl) ?_
    refine wI (d_lenS rfl Try.underlying47 rfl f49) ?_
    refine wF ([(Value.agg #[(eN D0), (eN B0), (eN Q0)]), u1, (eI sp), u2, (ptr g0 0), undef, undef, undef, (z 8), (ptr h0 0), (sli gs 0 3 3), (sli bs 0 3 3), (eN 0), u46, u53, (eN k), (z 16), (Value.bool true), (Value.bool false), u1, (eN bl.length), (Value.bool false), (Value.agg #[(eN D0), (eN B0), (eN Q0)]), (Value.agg #[(eN D), (eN B), (eN Q)]), (Value.agg #[(eN D0), (eN B0), (eN Q0)]), (Value.agg #[(eN D), (eN B), (eN Q)]), (Value.agg #[(eN D), (eN B), (eN Q)]), (sli gs 0 3 3), u1, u1, (Value.agg #[(eN D), (eN B), (eN Q)]), u2, u32, (sli bs 0 3 3), (eN 0), (Value.bool (decide (0 < 3))), (z 36), (z 37), (sli gs 0 3 3), (eN 0), (ptr gs 0), (Value.agg #[(eN D0), (eN B0), (eN Q0)]), (sli bs 0 3 3), (eN 0), (ptr bs 0), u1, u46, (sli gs 0 3 3), (eN 0), (ptr gs 0), (Value.agg #[(eN D0), (eN B0), (eN Q0)]), (sli bs 0 3 3), (eN 0), (ptr bs 0), u1, u53, u46, (eN ws47.length), u53, (eN ws54.length), (Value.bool false), (Value.bool false), (sli gs 0 3 3), (eN 0), (ptr gs 0), (Value.agg #[(eN D0), (eN B0), (eN Q0)]), (eN 0), (sli gs 0 3 3), (eN 0), (ptr gs 0), (Value.agg #[(eN D0), (eN B0), (eN Q0)]), (eN 0), (Value.bool false), (Value.bool false), (Value.bool false), (sli gs 0 3 3), (eN 0), (ptr gs 0), (Value.agg #[(eN D0), (eN B0), (eN Q0)]), (eN (D0 - 2)), (sli gs 0 3 3), (eN 0), (ptr gs 0), (Value.agg #[(eN D0), (eN B0), (eN Q0)]), (eN (D0 - 2)), (Value.bool false), (Value.bool false), (eN k), u46, (eN ws47.length)] ++ (zs z 90 68)) ?_
    refine wI (n_lss (a := k) (b := ws47.length) rfl rfl rfl) ?_
    refine wF ([(Value.agg #[(eN D0), (eN B0), (eN Q0)]), u1, (eI sp), u2, (ptr g0 0), undef, undef, undef, (z 8), (ptr h0 0), (sli gs 0 3 3), (sli bs 0 3 3), (eN 0), u46, u53, (eN k), (z 16), (Value.bool true), (Value.bool false), u1, (eN bl.length), (Value.bool false), (Value.agg #[(eN D0), (eN B0), (eN Q0)]), (Value.agg #[(eN D), (eN B), (eN Q)]), (Value.agg #[(eN D0), (eN B0), (eN Q0)]), (Value.agg #[(eN D), (eN B), (eN Q)]), (Value.agg #[(eN D), (eN B), (eN Q)]), (sli gs 0 3 3), u1, u1, (Value.agg #[(eN D), (eN B), (eN Q)]), u2, u32, (sli bs 0 3 3), (eN 0), (Value.bool (decide (0 < 3))), (z 36), (z 37), (sli gs 0 3 3), (eN 0), (ptr gs 0), (Value.agg #[(eN D0), (eN B0), (eN Q0)]), (sli bs 0 3 3), (eN 0), (ptr bs 0), u1, u46, (sli gs 0 3 3), (eN 0), (ptr gs 0), (Value.agg #[(eN D0), (eN B0), (eN Q0)]), (sli bs 0 3 3), (eN 0), (ptr bs 0), u1, u53, u46, (eN ws47.length), u53, (eN ws54.length), (Value.bool false), (Value.bool false), (sli gs 0 3 3), (eN 0), (ptr gs 0), (Value.agg #[(eN D0), (eN B0), (eN Q0)]), (eN 0), (sli gs 0 3 3), (eN 0), (ptr gs 0), (Value.agg #[(eN D0), (eN B0), (eN Q0)]), (eN 0), (Value.bool false), (Value.bool false), (Value.bool false), (sli gs 0 3 3), (eN 0), (ptr gs 0), (Value.agg #[(eN D0), (eN B0), (eN Q0)]), (eN (D0 - 2)), (sli gs 0 3 3), (eN 0), (ptr gs 0), (Value.agg #[(eN D0), (eN B0), (eN Q0)]), (eN (D0 - 2)), (Value.bool false), (Value.bool false), (eN k), u46, (eN ws47.length), (Value.bool (decide (k < ws47.length)))] ++ (zs z 91 67)) ?_
    refine wpL.done ?_
    refine then_n ?_
    refine cond_if rfl (fun c62 => ?_) (fun c62 => ?_)
    ·
     refine wpIn_skip ?_
     refine then_n ?_
     refine wpIn_seq ?_
     refine wpIn_block ?_
     refine wpIn_seq ?_
     refine wpIn_seq ?_
     have hkn : k < nMin bl B0 D0 := by omega
     have r63 : Ps (Or1 bs (Or1 gs (Or1 h0 (Or1 g0 (Old W.heap.size))))) (Seq kN (supR bl B0 D0 k) (ws47.getD k undef)) w61 := fam_at g50 (by omega)
     have r64 : Ps (Or1 bs (Or1 gs (Or1 h0 (Or1 g0 (Old W.heap.size))))) (Seq kN (supR bl B0 D0 k) (ws54.getD k undef)) w61 := fam_at g57 (by omega)
     have hsl := supR_len bl B0 D0 k
     refine drawn_pure [0, 0, 3, 7, 15, 0, 0, 96, 224, 480, 1023] [(0, 93), (1, 94), (2, 95), (3, 96), (4, 97), (5, 98), (6, 99), (7, 100), (8, 101), (9, 102), (10, 103)] [u46, (eN k), (ixp u46 k), (ws47.getD k undef), (eN ((supR bl B0 D0 k).length)), u53, (eN k), (ixp u53 k), (ws54.getD k undef), (eN ((supR bl B0 D0 k).length)), (Value.bool false)] ([(Value.agg #[(eN D0), (eN B0), (eN Q0)]), u1, (eI sp), u2, (ptr g0 0), undef, undef, undef, (z 8), (ptr h0 0), (sli gs 0 3 3), (sli bs 0 3 3), (eN 0), u46, u53, (eN k), (z 16), (Value.bool true), (Value.bool false), u1, (eN bl.length), (Value.bool false), (Value.agg #[(eN D0), (eN B0), (eN Q0)]), (Value.agg #[(eN D), (eN B), (eN Q)]), (Value.agg #[(eN D0), (eN B0), (eN Q0)]), (Value.agg #[(eN D), (eN B), (eN Q)]), (Value.agg #[(eN D), (eN B), (eN Q)]), (sli gs 0 3 3), u1, u1, (Value.agg #[(eN D), (eN B), (eN Q)]), u2, u32, (sli bs 0 3 3), (eN 0), (Value.bool (decide (0 < 3))), (z 36), (z 37), (sli gs 0 3 3), (eN 0), (ptr gs 0), (Value.agg #[(eN D0), (eN B0), (eN Q0)]), (sli bs 0 3 3), (eN 0), (ptr bs 0), u1, u46, (sli gs 0 3 3), (eN 0), (ptr gs 0), (Value.agg #[(eN D0), (eN B0), (eN Q0)]), (sli bs 0 3 3), (eN 0), (ptr bs 0), u1, u53, u46, (eN ws47.length), u53, (eN ws54.length), (Value.bool false), (Value.bool false), (sli gs 0 3 3), (eN 0), (ptr gs 0), (Value.agg #[(eN D0), (eN B0), (eN Q0)]), (eN 0), (sli gs 0 3 3), (eN 0), (ptr gs 0), (Value.agg #[(eN D0), (eN B0), (eN Q0)]), (eN 0), (Value.bool false), (Value.bool false), (Value.bool false), (sli gs 0 3 3), (eN 0), (ptr gs 0), (Value.agg #[(eN D0), (eN B0), (eN Q0)]), (eN (D0 - 2)), (sli gs 0 3 3), (eN 0), (ptr gs 0), (Value.agg #[(eN D0), (eN B0), (eN Q0)]), (eN (D0 - 2)), (Value.bool false), (Value.bool false), (eN k), u46, (eN ws47.length), (Value.bool (decide (k < ws47.length))), (z 91), (z 92), u46, (eN k), (ixp u46 k), (ws47.getD k undef), (eN ((supR bl B0 D0 k).length)), u53, (eN k), (ixp u53 k), (ws54.getD k undef), (eN ((supR bl B0 D0 k).length)), (Value.bool false)] ++ (zs z 104 54)) s_mx (by kernel_rfl) (by kernel_rfl) rfl (by kernel_rfl) (by kernel_rfl) ?_ ?_
     ·
      intro w_ hO_
      refine AllG.cons (gi rfl (d_move rfl)) ?_
      refine AllG.cons (gi rfl (d_move rfl)) ?_
      refine AllG.cons (gi rfl (d_ix (i := k) (xs := ws47) Try.underlying47 s_ti29 rfl (f49.step0 hO_) (show _ = Value.int _ ((k : Nat) : Int) from rfl) (by first | omega | (simp; done) | (simp; omega)))) ?_
      refine AllG.cons (gi rfl (d_ldx (i := k) (xs := ws47) (enc := eV) (v := (ws47.getD k undef)) ⟨_, Try.underlying29, rfl⟩ rfl (f49.step0 hO_) (g_at (by first | omega | (simp; done) | (simp; omega))))) ?_
      refine AllG.cons (gi rfl (d_lenS rfl Try.underlying29 rfl (r63.step0 hO_))) ?_
      refine AllG.cons (gi rfl (d_move rfl)) ?_
      refine AllG.cons (gi rfl (d_move rfl)) ?_
      refine AllG.cons (gi rfl (d_ix (i := k) (xs := ws54) Try.underlying47 s_ti29 rfl (f56.step0 hO_) (show _ = Value.int _ ((k : Nat) : Int) from rfl) (by first | omega | (simp; done) | (simp; omega)))) ?_
      refine AllG.cons (gi rfl (d_ldx (i := k) (xs := ws54) (enc := eV) (v := (ws54.getD k undef)) ⟨_, Try.underlying29, rfl⟩ rfl (f56.step0 hO_) (g_at (by first | omega | (simp; done) | (simp; omega))))) ?_
      refine AllG.cons (gi rfl (d_lenS rfl Try.underlying29 rfl (r64.step0 hO_))) ?_
      refine AllG.cons (gi rfl (n_neq (a := ((supR bl B0 D0 k).length)) (b := ((supR bl B0 D0 k).length)) rfl rfl (by rw [decide_eq_true rfl] <;> rfl))) ?_
      exact AllG.nil
     intro w65 o66
     replace h1 := h1.step0 o66
     replace h2 := h2.step0 o66
     replace f33 := f33.step0 o66
     replace f49 := f49.step0 o66
     replace g50 := g50.step0 o66
     replace f56 := f56.step0 o66
     replace g57 := g57.step0 o66
     replace r63 := r63.step0 o66
     replace r64 := r64.step0 o66
     replace a13 := a13.step0 o66
     replace a24 := a24.step0 o66
     replace a28 := a28.step0 o66
     replace a36 := a36.step0 o66
     replace oW := oW.tail0 o66
     replace o38 := o38.tail0 o66
     replace o60 := o60.tail0 o66
     refine then_n ?_
     refine cond_f rfl ?_
     refine wpIn_skip ?_
     refine then_n ?_
     refine wpIn_seq ?_
     refine plain ?_
     refine wI (d_assign rfl) ?_
     refine wF ([(Value.agg #[(eN D0), (eN B0), (eN Q0)]), u1, (eI sp), u2, (ptr g0 0), undef, undef, undef, (z 8), (ptr h0 0), (sli gs 0 3 3), (sli bs 0 3 3), (eN 0), u46, u53, (eN k), (eN 0), (Value.bool true), (Value.bool false), u1, (eN bl.length), (Value.bool false), (Value.agg #[(eN D0), (eN B0), (eN Q0)]), (Value.agg #[(eN D), (eN B), (eN Q)]), (Value.agg #[(eN D0), (eN B0), (eN Q0)]), (Value.agg #[(eN D), (eN B), (eN Q)]), (Value.agg #[(eN D), (eN B), (eN Q)]), (sli gs 0 3 3), u1, u1, (Value.agg #[(eN D), (eN B), (eN Q)]), u2, u32, (sli bs 0 3 3), (eN 0), (Value.bool (decide (0 < 3))), (z 36), (z 37), (sli gs 0 3 3), (eN 0), (ptr gs 0), (Value.agg #[(eN D0), (eN B0), (eN Q0)]), (sli bs 0 3 3), (eN 0), (ptr bs 0), u1, u46, (sli gs 0 3 3), (eN 0), (ptr gs 0), (Value.agg #[(eN D0), (eN B0), (eN Q0)]), (sli bs 0 3 3), (eN 0), (ptr bs 0), u1, u53, u46, (eN ws47.length), u53, (eN ws54.length), (Value.bool false), (Value.bool false), (sli gs 0 3 3), (eN 0), (ptr gs 0), (Value.agg #[(eN D0), (eN B0), (eN Q0)]), (eN 0), (sli gs 0 3 3), (eN 0), (ptr gs 0), (Value.agg #[(eN D0), (eN B0), (eN Q0)]), (eN 0), (Value.bool false), (Value.bool false), (Value.bool false), (sli gs 0 3 3), (eN 0), (ptr gs 0), (Value.agg #[(eN D0), (eN B0), (eN Q0)]), (eN (D0 - 2)), (sli gs 0 3 3), (eN 0), (ptr gs 0), (Value.agg #[(eN D0), (eN B0), (eN Q0)]), (eN (D0 - 2)), (Value.bool false), (Value.bool false), (eN k), u46, (eN ws47.length), (Value.bool (decide (k < ws47.length))), (z 91), (z 92), u46, (eN k), (ixp u46 k), (ws47.getD k undef), (eN ((supR bl B0 D0 k).length)), u53, (eN k), (ixp u53 k), (ws54.getD k undef), (eN ((supR bl B0 D0 k).length)), (Value.bool false)] ++ (zs z 104 54)) ?_
     refine wpL.done ?_
     refine then_n ?_
     refine wpIn_block ?_
     refine loop2 (fun (d : (Nat)) => fun (z : Nat → Value) => (([(Value.agg #[(eN D0), (eN B0), (eN Q0)]), u1, (eI sp), u2, (ptr g0 0), undef, undef, undef, (z 8), (ptr h0 0), (sli gs 0 3 3), (sli bs 0 3 3), (eN 0), u46, u53, (eN k), (eN d), (Value.bool true), (Value.bool false), u1, (eN bl.length), (Value.bool false), (Value.agg #[(eN D0), (eN B0), (eN Q0)]), (Value.agg #[(eN D), (eN B), (eN Q)]), (Value.agg #[(eN D0), (eN B0), (eN Q0)]), (Value.agg #[(eN D), (eN B), (eN Q)]), (Value.agg #[(eN D), (eN B), (eN Q)]), (sli gs 0 3 3), u1, u1, (Value.agg #[(eN D), (eN B), (eN Q)]), u2, u32, (sli bs 0 3 3), (eN 0), (Value.bool (decide (0 < 3))), (z 36), (z 37), (sli gs 0 3 3), (eN 0), (ptr gs 0), (Value.agg #[(eN D0), (eN B0), (eN Q0)]), (sli bs 0 3 3), (eN 0), (ptr bs 0), u1, u46, (sli gs 0 3 3), (eN 0), (ptr gs 0), (Value.agg #[(eN D0), (eN B0), (eN Q0)]), (sli bs 0 3 3), (eN 0), (ptr bs 0), u1, u53, u46, (eN ws47.length), u53, (eN ws54.length), (Value.bool false), (Value.bool false), (sli gs 0 3 3), (eN 0), (ptr gs 0), (Value.agg #[(eN D0), (eN B0), (eN Q0)]), (eN 0), (sli gs 0 3 3), (eN 0), (ptr gs 0), (Value.agg #[(eN D0), (eN B0), (eN Q0)]), (eN 0), (Value.bool false), (Value.bool false), (Value.bool false), (sli gs 0 3 3), (eN 0), (ptr gs 0), (Value.agg #[(eN D0), (eN B0), (eN Q0)]), (eN (D0 - 2)), (sli gs 0 3 3), (eN 0), (ptr gs 0), (Value.agg #[(eN D0), (eN B0), (eN Q0)]), (eN (D0 - 2)), (Value.bool false), (Value.bool false), (eN k), u46, (eN ws47.length), (Value.bool (decide (k < ws47.length))), (z 91), (z 92), u46, (eN k), (ixp u46 k), (ws47.getD k undef), (eN ((supR bl B0 D0 k).length)), u53, (eN k), (ixp u53 k), (ws54.getD k undef), (eN ((supR bl B0 D0 k).length)), (Value.bool false)] ++ (zs z 104 54)) : List Value)) (fun (d : (Nat)) => fun (w_ : World) => (d ≤ D0) ∧ Only (Or1 bs (Or1 gs (Or1 h0 (Or1 g0 No)))) w65 w_ ∧ Arr 25 g0 [(eN D0), (eN B0), (eN Q0)] w_ ∧ Arr 25 h0 [(eN D), (eN B), (eN Q)] w_ ∧ Arr 25 gs [(eN D0), (eN B0), (eN Q0), (eN D), (eN B), (eN Q), (eN D), (eN B), (eN Q)] w_ ∧ Arr 42 bs [u1, u1, u32] w_) (fun (d : (Nat)) => D0 - d) 0 rfl ?_ ?_
     ·
      refine ⟨?_, ?_, ?_, ?_, ?_, ?_⟩
      ·
       exact Nat.zero_le _
      ·
       exact Only.refl _ _
      ·
       exact a13
      ·
       exact a24
      ·
       exact a28
      ·
       exact a36
     rintro d z w68 ⟨hd, o67, a13, a24, a28, a36⟩
     (try dsimp only)
     replace h1 := h1.step o67 (or1_mono (or1_mono (or1_mono (or1_mono no_any))))
     replace h2 := h2.step o67 (or1_mono (or1_mono (or1_mono (or1_mono no_any))))
     replace f33 := f33.step o67 (or1_mono (or1_mono (or1_mono (or1_mono no_any))))
     replace f49 := f49.step o67 (or1_mono (or1_mono (or1_mono (or1_mono no_any))))
     replace g50 := g50.step o67 (or1_mono (or1_mono (or1_mono (or1_mono no_any))))
     replace f56 := f56.step o67 (or1_mono (or1_mono (or1_mono (or1_mono no_any))))
     replace g57 := g57.step o67 (or1_mono (or1_mono (or1_mono (or1_mono no_any))))
     replace r63 := r63.step o67 (or1_mono (or1_mono (or1_mono (or1_mono no_any))))
     replace r64 := r64.step o67 (or1_mono (or1_mono (or1_mono (or1_mono no_any))))
     replace oW := oW.tail o67 (tl_new g_oW_bs (tl_new g_oW_gs (tl_new g_oW_h0 (tl_new g_oW_g0 tl_no))))
     replace o38 := o38.tail o67 (tl_in in1 (tl_in (in2 in1) (tl_in (in2 (in2 in1)) (tl_in (in2 (in2 (in2 in1))) tl_no))))
     replace o60 := o60.tail o67 (tl_in in1 (tl_in (in2 in1) (tl_in (in2 (in2 in1)) (tl_in (in2 (in2 (in2 in1))) tl_no))))
     refine wpIn_seq ?_
     refine wpIn_seq ?_
     refine plain ?_
     refine wI (d_move rfl) ?_
     refine wI (d_move rfl) ?_
     refine wI (d_move rfl) ?_
     refine wF ([(Value.agg #[(eN D0), (eN B0), (eN Q0)]), u1, (eI sp), u2, (ptr g0 0), undef, undef, undef, (z 8), (ptr h0 0), (sli gs 0 3 3), (sli bs 0 3 3), (eN 0), u46, u53, (eN k), (eN d), (Value.bool true), (Value.bool false), u1, (eN bl.length), (Value.bool false), (Value.agg #[(eN D0), (eN B0), (eN Q0)]), (Value.agg #[(eN D), (eN B), (eN Q)]), (Value.agg #[(eN D0), (eN B0), (eN Q0)]), (Value.agg #[(eN D), (eN B), (eN Q)]), (Value.agg #[(eN D), (eN B), (eN Q)]), (sli gs 0 3 3), u1, u1, (Value.agg #[(eN D), (eN B), (eN Q)]), u2, u32, (sli bs 0 3 3), (eN 0), (Value.bool (decide (0 < 3))), (z 36), (z 37), (sli gs 0 3 3), (eN 0), (ptr gs 0), (Value.agg #[(eN D0), (eN B0), (eN Q0)]), (sli bs 0 3 3), (eN 0), (ptr bs 0), u1, u46, (sli gs 0 3 3), (eN 0), (ptr gs 0), (Value.agg #[(eN D0), (eN B0), (eN Q0)]), (sli bs 0 3 3), (eN 0), (ptr bs 0), u1, u53, u46, (eN ws47.length), u53, (eN ws54.length), (Value.bool false), (Value.bool false), (sli gs 0 3 3), (eN 0), (ptr gs 0), (Value.agg #[(eN D0), (eN B0), (eN Q0)]), (eN 0), (sli gs 0 3 3), (eN 0), (ptr gs 0), (Value.agg #[(eN D0), (eN B0), (eN Q0)]), (eN 0), (Value.bool false), (Value.bool false), (Value.bool false), (sli gs 0 3 3), (eN 0), (ptr gs 0), (Value.agg #[(eN D0), (eN B0), (eN Q0)]), (eN (D0 - 2)), (sli gs 0 3 3), (eN 0), (ptr gs 0), (Value.agg #[(eN D0), (eN B0), (eN Q0)]), (eN (D0 - 2)), (Value.bool false), (Value.bool false), (eN k), u46, (eN ws47.length), (Value.bool (decide (k < ws47.length))), (z 91), (z 92), u46, (eN k), (ixp u46 k), (ws47.getD k undef), (eN ((supR bl B0 D0 k).length)), u53, (eN k), (ixp u53 k), (ws54.getD k undef), (eN ((supR bl B0 D0 k).length)), (Value.bool false), (eN d), u46, (eN k)] ++ (zs z 107 51)) ?_
     refine wI (d_ix (i := k) (xs := ws47) Try.underlying47 s_ti29 rfl f49 (show _ = Value.int _ ((k : Nat) : Int) from rfl) (by first | omega | (simp; done) | (simp; omega))) ?_
     refine wI (d_ldx (i := k) (xs := ws47) (enc := eV) (v := (ws47.getD k undef)) ⟨_, Try.underlying29, rfl⟩ rfl f49 (g_at (by first | omega | (simp; done) | (simp; omega)))) ?_
     refine wI (d_lenS rfl Try.underlying29 rfl r63) ?_
     refine wF ([(Value.agg #[(eN D0), (eN B0), (eN Q0)]), u1, (eI sp), u2, (ptr g0 0), undef, undef, undef, (z 8), (ptr h0 0), (sli gs 0 3 3), (sli bs 0 3 3), (eN 0), u46, u53, (eN k), (eN d), (Value.bool true), (Value.bool false), u1, (eN bl.length), (Value.bool false), (Value.agg #[(eN D0), (eN B0), (eN Q0)]), (Value.agg #[(eN D), (eN B), (eN Q)]), (Value.agg #[(eN D0), (eN B0), (eN Q0)]), (Value.agg #[(eN D), (eN B), (eN Q)]), (Value.agg #[(eN D), (eN B), (eN Q)]), (sli gs 0 3 3), u1, u1, (Value.agg #[(eN D), (eN B), (eN Q)]), u2, u32, (sli bs 0 3 3), (eN 0), (Value.bool (decide (0 < 3))), (z 36), (z 37), (sli gs 0 3 3), (eN 0), (ptr gs 0), (Value.agg #[(eN D0), (eN B0), (eN Q0)]), (sli bs 0 3 3), (eN 0), (ptr bs 0), u1, u46, (sli gs 0 3 3), (eN 0), (ptr gs 0), (Value.agg #[(eN D0), (eN B0), (eN Q0)]), (sli bs 0 3 3), (eN 0), (ptr bs 0), u1, u53, u46, (eN ws47.length), u53, (eN ws54.length), (Value.bool false), (Value.bool false), (sli gs 0 3 3), (eN 0), (ptr gs 0), (Value.agg #[(eN D0), (eN B0), (eN Q0)]), (eN 0), (sli gs 0 3 3), (eN 0), (ptr gs 0), (Value.agg #[(eN D0), (eN B0), (eN Q0)]), (eN 0), (Value.bool false), (Value.bool false), (Value.bool false), (sli gs 0 3 3), (eN 0), (ptr gs 0), (Value.agg #[(eN D0), (eN B0), (eN Q0)]), (eN (D0 - 2)), (sli gs 0 3 3), (eN 0), (ptr gs 0), (Value.agg #[(eN D0), (eN B0), (eN Q0)]), (eN (D0 - 2)), (Value.bool false), (Value.bool false), (eN k), u46, (eN ws47.length), (Value.bool (decide (k < ws47.length))), (z 91), (z 92), u46, (eN k), (ixp u46 k), (ws47.getD k undef), (eN ((supR bl B0 D0 k).length)), u53, (eN k), (ixp u53 k), (ws54.getD k undef), (eN ((supR bl B0 D0 k).length)), (Value.bool false), (eN d), u46, (eN k), (ixp u46 k), (ws47.getD k undef), (eN ((supR bl B0 D0 k).length))] ++ (zs z 110 48)) ?_
     refine wI (n_lss (a := d) (b := ((supR bl B0 D0 k).length)) rfl rfl rfl) ?_
     refine wF ([(Value.agg #[(eN D0), (eN B0), (eN Q0)]), u1, (eI sp), u2, (ptr g0 0), undef, undef, undef, (z 8), (ptr h0 0), (sli gs 0 3 3), (sli bs 0 3 3), (eN 0), u46, u53, (eN k), (eN d), (Value.bool true), (Value.bool false), u1, (eN bl.length), (Value.bool false), (Value.agg #[(eN D0), (eN B0), (eN Q0)]), (Value.agg #[(eN D), (eN B), (eN Q)]), (Value.agg #[(eN D0), (eN B0), (eN Q0)]), (Value.agg #[(eN D), (eN B), (eN Q)]), (Value.agg #[(eN D), (eN B), (eN Q)]), (sli gs 0 3 3), u1, u1, (Value.agg #[(eN D), (eN B), (eN Q)]), u2, u32, (sli bs 0 3 3), (eN 0), (Value.bool (decide (0 < 3))), (z 36), (z 37), (sli gs 0 3 3), (eN 0), (ptr gs 0), (Value.agg #[(eN D0), (eN B0), (eN Q0)]), (sli bs 0 3 3), (eN 0), (ptr bs 0), u1, u46, (sli gs 0 3 3), (eN 0), (ptr gs 0), (Value.agg #[(eN D0), (eN B0), (eN Q0)]), (sli bs 0 3 3), (eN 0), (ptr bs 0), u1, u53, u46, (eN ws47.length), u53, (eN ws54.length), (Value.bool false), (Value.bool false), (sli gs 0 3 3), (eN 0), (ptr gs 0), (Value.agg #[(eN D0), (eN B0), (eN Q0)]), (eN 0), (sli gs 0 3 3), (eN 0), (ptr gs 0), (Value.agg #[(eN D0), (eN B0), (eN Q0)]), (eN 0), (Value.bool false), (Value.bool false), (Value.bool false), (sli gs 0 3 3), (eN 0), (ptr gs 0), (Value.agg #[(eN D0), (eN B0), (eN Q0)]), (eN (D0 - 2)), (sli gs 0 3 3), (eN 0), (ptr gs 0), (Value.agg #[(eN D0), (eN B0), (eN Q0)]), (eN (D0 - 2)), (Value.bool false), (Value.bool false), (eN k), u46, (eN ws47.length), (Value.bool (decide (k < ws47.length))), (z 91), (z 92), u46, (eN k), (ixp u46 k), (ws47.getD k undef), (eN ((supR bl B0 D0 k).length)), u53, (eN k), (ixp u53 k), (ws54.getD k undef), (eN ((supR bl B0 D0 k).length)), (Value.bool false), (eN d), u46, (eN k), (ixp u46 k), (ws47.getD k undef), (eN ((supR bl B0 D0 k).length)), (Value.bool (decide (d < ((supR bl B0 D0 k).length))))] ++ (zs z 111 47)) ?_
     refine wpL.done ?_
     refine then_n ?_
     refine cond_if rfl (fun c69 => ?_) (fun c69 => ?_)
     ·
      refine wpIn_skip ?_
      refine then_n ?_
      refine wpIn_seq ?_
      refine wpIn_block ?_
      refine wpIn_seq ?_
      refine drawn_pure [0, 0, 3, 7, 0, 31, 63, 0, 0, 384, 896, 0, 3968, 8064, 16383] [(0, 113), (1, 114), (2, 115), (3, 116), (4, 117), (5, 118), (6, 119), (7, 120), (8, 121), (9, 122), (10, 123), (11, 124), (12, 125), (13, 126), (14, 127)] [u46, (eN k), (ixp u46 k), (ws47.getD k undef), (eN d), (ixp (ws47.getD k undef) d), (eN ((supR bl B0 D0 k).getD d 0)), u53, (eN k), (ixp u53 k), (ws54.getD k undef), (eN d), (ixp (ws54.getD k undef) d), (eN ((supR bl B0 D0 k).getD d 0)), (Value.bool false)] ([(Value.agg #[(eN D0), (eN B0), (eN Q0)]), u1, (eI sp), u2, (ptr g0 0), undef, undef, undef, (z 8), (ptr h0 0), (sli gs 0 3 3), (sli bs 0 3 3), (eN 0), u46, u53, (eN k), (eN d), (Value.bool true), (Value.bool false), u1, (eN bl.length), (Value.bool false), (Value.agg #[(eN D0), (eN B0), (eN Q0)]), (Value.agg #[(eN D), (eN B), (eN Q)]), (Value.agg #[(eN D0), (eN B0), (eN Q0)]), (Value.agg #[(eN D), (eN B), (eN Q)]), (Value.agg #[(eN D), (eN B), (eN Q)]), (sli gs 0 3 3), u1, u1, (Value.agg #[(eN D), (eN B), (eN Q)]), u2, u32, (sli bs 0 3 3), (eN 0), (Value.bool (decide (0 < 3))), (z 36), (z 37), (sli gs 0 3 3), (eN 0), (ptr gs 0), (Value.agg #[(eN D0), (eN B0), (eN Q0)]), (sli bs 0 3 3), (eN 0), (ptr bs 0), u1, u46, (sli gs 0 3 3), (eN 0), (ptr gs 0), (Value.agg #[(eN D0), (eN B0), (eN Q0)]), (sli bs 0 3 3), (eN 0), (ptr bs 0), u1, u53, u46, (eN ws47.length), u53, (eN ws54.length), (Value.bool false), (Value.bool false), (sli gs 0 3 3), (eN 0), (ptr gs 0), (Value.agg #[(eN D0), (eN B0), (eN Q0)]), (eN 0), (sli gs 0 3 3), (eN 0), (ptr gs 0), (Value.agg #[(eN D0), (eN B0), (eN Q0)]), (eN 0), (Value.bool false), (Value.bool false), (Value.bool false), (sli gs 0 3 3), (eN 0), (ptr gs 0), (Value.agg #[(eN D0), (eN B0), (eN Q0)]), (eN (D0 - 2)), (sli gs 0 3 3), (eN 0), (ptr gs 0), (Value.agg #[(eN D0), (eN B0), (eN Q0)]), (eN (D0 - 2)), (Value.bool false), (Value.bool false), (eN k), u46, (eN ws47.length), (Value.bool (decide (k < ws47.length))), (z 91), (z 92), u46, (eN k), (ixp u46 k), (ws47.getD k undef), (eN ((supR bl B0 D0 k).length)), u53, (eN k), (ixp u53 k), (ws54.getD k undef), (eN ((supR bl B0 D0 k).length)), (Value.bool false), (eN d), u46, (eN k), (ixp u46 k), (ws47.getD k undef), (eN ((supR bl B0 D0 k).length)), (Value.bool (decide (d < ((supR bl B0 D0 k).length)))), (z 111), (z 112), u46, (eN k), (ixp u46 k), (ws47.getD k undef), (eN d), (ixp (ws47.getD k undef) d), (eN ((supR bl B0 D0 k).getD d 0)), u53, (eN k), (ixp u53 k), (ws54.getD k undef), (eN d), (ixp (ws54.getD k undef) d), (eN ((supR bl B0 D0 k).getD d 0)), (Value.bool false)] ++ (zs z 128 30)) s_mx (by kernel_rfl) (by kernel_rfl) rfl (by kernel_rfl) (by kernel_rfl) ?_ ?_
      ·
       intro w_ hO_
       refine AllG.cons (gi rfl (d_move rfl)) ?_
       refine AllG.cons (gi rfl (d_move rfl)) ?_
       refine AllG.cons (gi rfl (d_ix (i := k) (xs := ws47) Try.underlying47 s_ti29 rfl (f49.step0 hO_) (show _ = Value.int _ ((k : Nat) : Int) from rfl) (by first | omega | (simp; done) | (simp; omega)))) ?_
       refine AllG.cons (gi rfl (d_ldx (i := k) (xs := ws47) (enc := eV) (v := (ws47.getD k undef)) ⟨_, Try.underlying29, rfl⟩ rfl (f49.step0 hO_) (g_at (by first | omega | (simp; done) | (simp; omega))))) ?_
       refine AllG.cons (gi rfl (d_move rfl)) ?_
       refine AllG.cons (gi rfl (d_ix (i := d) (xs := (supR bl B0 D0 k)) Try.underlying29 s_ti3 rfl (r63.step0 hO_) (show _ = Value.int _ ((d : Nat) : Int) from rfl) (by have := supR_len bl B0 D0 k; first | omega | (simp; done) | (simp; omega)))) ?_
       refine AllG.cons (gi rfl (d_ldx (i := d) (xs := (supR bl B0 D0 k)) (enc := eN) (v := ((supR bl B0 D0 k).getD d 0)) ⟨_, Try.underlying3, rfl⟩ rfl (r63.step0 hO_) (g_at (by have := supR_len bl B0 D0 k; first | omega | (simp; done) | (simp; omega))))) ?_
       refine AllG.cons (gi rfl (d_move rfl)) ?_
       refine AllG.cons (gi rfl (d_move rfl)) ?_
       refine AllG.cons (gi rfl (d_ix (i := k) (xs := ws54) Try.underlying47 s_ti29 rfl (f56.step0 hO_) (show _ = Value.int _ ((k : Nat) : Int) from rfl) (by first | omega | (simp; done) | (simp; omega)))) ?_
       refine AllG.cons (gi rfl (d_ldx (i := k) (xs := ws54) (enc := eV) (v := (ws54.getD k undef)) ⟨_, Try.underlying29, rfl⟩ rfl (f56.step0 hO_) (g_at (by first | omega | (simp; done) | (simp; omega))))) ?_
       refine AllG.cons (gi rfl (d_move rfl)) ?_
       refine AllG.cons (gi rfl (d_ix (i := d) (xs := (supR bl B0 D0 k)) Try.underlying29 s_ti3 rfl (r64.step0 hO_) (show _ = Value.int _ ((d : Nat) : Int) from rfl) (by have := supR_len bl B0 D0 k; first | omega | (simp; done) | (simp; omega)))) ?_
       refine AllG.cons (gi rfl (d_ldx (i := d) (xs := (supR bl B0 D0 k)) (enc := eN) (v := ((supR bl B0 D0 k).getD d 0)) ⟨_, Try.underlying3, rfl⟩ rfl (r64.step0 hO_) (g_at (by have := supR_len bl B0 D0 k; first | omega | (simp; done) | (simp; omega))))) ?_
       refine AllG.cons (gi rfl (n_neq (a := ((supR bl B0 D0 k).getD d 0)) (b := ((supR bl B0 D0 k).getD d 0)) rfl rfl (by rw [decide_eq_true rfl] <;> rfl))) ?_
       exact AllG.nil
      intro w70 o71
      replace h1 := h1.step0 o71
      replace h2 := h2.step0 o71
      replace f33 := f33.step0 o71
      replace f49 := f49.step0 o71
      replace g50 := g50.step0 o71
      replace f56 := f56.step0 o71
      replace g57 := g57.step0 o71
      replace r63 := r63.step0 o71
      replace r64 := r64.step0 o71
      replace a13 := a13.step0 o71
      replace a24 := a24.step0 o71
      replace a28 := a28.step0 o71
      replace a36 := a36.step0 o71
      replace oW := oW.tail0 o71
      replace o38 := o38.tail0 o71
      replace o60 := o60.tail0 o71
      replace o67 := o67.tail0 o71
      refine then_n ?_
      refine cond_f rfl ?_
      refine wpIn_skip ?_
      refine inb_n (then_n ?_)
      refine plain ?_
      refine wI (d_move rfl) ?_
      refine wI (n_add (a := d) (b := 1) rfl rfl (by omega)) ?_
      refine wI (d_assign rfl) ?_
      refine wF ([(Value.agg #[(eN D0), (eN B0), (eN Q0)]), u1, (eI sp), u2, (ptr g0 0), undef, undef, undef, (z 8), (ptr h0 0), (sli gs 0 3 3), (sli bs 0 3 3), (eN 0), u46, u53, (eN k), (eN (d + 1)), (Value.bool true), (Value.bool false), u1, (eN bl.length), (Value.bool false), (Value.agg #[(eN D0), (eN B0), (eN Q0)]), (Value.agg #[(eN D), (eN B), (eN Q)]), (Value.agg #[(eN D0), (eN B0), (eN Q0)]), (Value.agg #[(eN D), (eN B), (eN Q)]), (Value.agg #[(eN D), (eN B), (eN Q)]), (sli gs 0 3 3), u1, u1, (Value.agg #[(eN D), (eN B), (eN Q)]), u2, u32, (sli bs 0 3 3), (eN 0), (Value.bool (decide (0 < 3))), (z 36), (z 37), (sli gs 0 3 3), (eN 0), (ptr gs 0), (Value.agg #[(eN D0), (eN B0), (eN Q0)]), (sli bs 0 3 3), (eN 0), (ptr bs 0), u1, u46, (sli gs 0 3 3), (eN 0), (ptr gs 0), (Value.agg #[(eN D0), (eN B0), (eN Q0)]), (sli bs 0 3 3), (eN 0), (ptr bs 0), u1, u53, u46, (eN ws47.length), u53, (eN ws54.length), (Value.bool false), (Value.bool false), (sli gs 0 3 3), (eN 0), (ptr gs 0), (Value.agg #[(eN D0), (eN B0), (eN Q0)]), (eN 0), (sli gs 0 3 3), (eN 0), (ptr gs 0), (Value.agg #[(eN D0), (eN B0), (eN Q0)]), (eN 0), (Value.bool false), (Value.bool false), (Value.bool false), (sli gs 0 3 3), (eN 0), (ptr gs 0), (Value.agg #[(eN D0), (eN B0), (eN Q0)]), (eN (D0 - 2)), (sli gs 0 3 3), (eN 0), (ptr gs 0), (Value.agg #[(eN D0), (eN B0), (eN Q0)]), (eN (D0 - 2)), (Value.bool false), (Value.bool false), (eN k), u46, (eN ws47.length), (Value.bool (decide (k < ws47.length))), (z 91), (z 92), u46, (eN k), (ixp u46 k), (ws47.getD k undef), (eN ((supR bl B0 D0 k).length)), u53, (eN k), (ixp u53 k), (ws54.getD k undef), (eN ((supR bl B0 D0 k).length)), (Value.bool false), (eN d), u46, (eN k), (ixp u46 k), (ws47.getD k undef), (eN ((supR bl B0 D0 k).length)), (Value.bool (decide (d < ((supR bl B0 D0 k).length)))), (eN d), (eN (d + 1)), u46, (eN k), (ixp u46 k), (ws47.getD k undef), (eN d), (ixp (ws47.getD k undef) d), (eN ((supR bl B0 D0 k).getD d 0)), u53, (eN k), (ixp u53 k), (ws54.getD k undef), (eN d), (ixp (ws54.getD k undef) d), (eN ((supR bl B0 D0 k).getD d 0)), (Value.bool false)] ++ (zs z 128 30)) ?_
      refine wpL.done ?_
      refine then_n ?_
      refine ⟨_, (d + 1), rfl, rfl, ⟨?_, ?_, ?_, ?_, ?_, ?_⟩, ?_⟩
      ·
       (try dsimp only)
       all_goals (omega)
      ·
       exact o67
      ·
       exact a13
      ·
       exact a24
      ·
       exact a28
      ·
       exact a36
      ·
       (try dsimp only)
       all_goals (omega)
     refine wpIn_exit ?_
     refine then_x (then_x (inb_e ?_))
     refine inb_n (then_n ?_)
     refine plain ?_
     refine wI (d_move rfl) ?_
     refine wI (n_add (a := k) (b := 1) rfl rfl (by omega)) ?_
     refine wI (d_assign rfl) ?_
     refine wF ([(Value.agg #[(eN D0), (eN B0), (eN Q0)]), u1, (eI sp), u2, (ptr g0 0), undef, undef, undef, (z 8), (ptr h0 0), (sli gs 0 3 3), (sli bs 0 3 3), (eN 0), u46, u53, (eN (k + 1)), (eN d), (Value.bool true), (Value.bool false), u1, (eN bl.length), (Value.bool false), (Value.agg #[(eN D0), (eN B0), (eN Q0)]), (Value.agg #[(eN D), (eN B), (eN Q)]), (Value.agg #[(eN D0), (eN B0), (eN Q0)]), (Value.agg #[(eN D), (eN B), (eN Q)]), (Value.agg #[(eN D), (eN B), (eN Q)]), (sli gs 0 3 3), u1, u1, (Value.agg #[(eN D), (eN B), (eN Q)]), u2, u32, (sli bs 0 3 3), (eN 0), (Value.bool (decide (0 < 3))), (z 36), (z 37), (sli gs 0 3 3), (eN 0), (ptr gs 0), (Value.agg #[(eN D0), (eN B0), (eN Q0)]), (sli bs 0 3 3), (eN 0), (ptr bs 0), u1, u46, (sli gs 0 3 3), (eN 0), (ptr gs 0), (Value.agg #[(eN D0), (eN B0), (eN Q0)]), (sli bs 0 3 3), (eN 0), (ptr bs 0), u1, u53, u46, (eN ws47.length), u53, (eN ws54.length), (Value.bool false), (Value.bool false), (sli gs 0 3 3), (eN 0), (ptr gs 0), (Value.agg #[(eN D0), (eN B0), (eN Q0)]), (eN 0), (sli gs 0 3 3), (eN 0), (ptr gs 0), (Value.agg #[(eN D0), (eN B0), (eN Q0)]), (eN 0), (Value.bool false), (Value.bool false), (Value.bool false), (sli gs 0 3 3), (eN 0), (ptr gs 0), (Value.agg #[(eN D0), (eN B0), (eN Q0)]), (eN (D0 - 2)), (sli gs 0 3 3), (eN 0), (ptr gs 0), (Value.agg #[(eN D0), (eN B0), (eN Q0)]), (eN (D0 - 2)), (Value.bool false), (Value.bool false), (eN k), u46, (eN ws47.length), (Value.bool (decide (k < ws47.length))), (eN k), (eN (k + 1)), u46, (eN k), (ixp u46 k), (ws47.getD k undef), (eN ((supR bl B0 D0 k).length)), u53, (eN k), (ixp u53 k), (ws54.getD k undef), (eN ((supR bl B0 D0 k).length)), (Value.bool false), (eN d), u46, (eN k), (ixp u46 k), (ws47.getD k undef), (eN ((supR bl B0 D0 k).length)), (Value.bool (decide (d < ((supR bl B0 D0 k).length))))] ++ (zs z 111 47)) ?_
     refine wpL.done ?_
     refine then_n ?_
     refine ⟨_, (k + 1), rfl, rfl, ⟨?_, ?_, ?_, ?_, ?_, ?_⟩, ?_⟩
     ·
      (try dsimp only)
      all_goals (omega)
     ·
      exact o60
     ·
      exact a13
     ·
      exact a24
     ·
      exact a28
     ·
      exact a36
     ·
      (try dsimp only)
      all_goals (omega)
    refine wpIn_exit ?_
    refine then_x (then_x (inb_e ?_))
    refine then_n ?_
    refine wpIn_seq ?_
    refine drawn_pure [0, 0, 3, 7, 0, 31, 0, 0, 192, 448, 0, 2047, 4095, 8191, 16383, 16383, 65535, 131071, 16383, 278527, 1048575, 16383, 16383, 6307839, 14696447, 16383, 35651583, 134217727, 268435455, 536870911] [(0, 128), (1, 129), (2, 130), (3, 131), (4, 132), (5, 133), (6, 134), (7, 135), (8, 136), (9, 137), (10, 138), (11, 139), (12, 140), (13, 141), (14, 142), (15, 143), (16, 144), (17, 145), (18, 146), (19, 147), (20, 148), (21, 149), (22, 150), (23, 151), (24, 152), (25, 153), (26, 154), (27, 155), (28, 156), (29, 157)] [(sli gs 0 3 3), (eN 0), (ptr gs 0), (Value.agg #[(eN D0), (eN B0), (eN Q0)]), (eI sp), (eI (gsec ((D0 : Nat) : Int) ((B0 : Nat) : Int) ((Q0 : Nat) : Int) sp)), (sli gs 0 3 3), (eN 0), (ptr gs 0), (Value.agg #[(eN D0), (eN B0), (eN Q0)]), (eI sp), (eI (gsec ((D0 : Nat) : Int) ((B0 : Nat) : Int) ((Q0 : Nat) : Int) sp)), (Value.bool false), (Value.bool false), (sli gs 0 3 3), (eN 0), (ptr gs 0), (Value.agg #[(eN D0), (eN B0), (eN Q0)]), (eI sp), (eN ((sp % ((14 : Nat) : Int)).toNat)), (eI (gsec ((D0 : Nat) : Int) ((B0 : Nat) : Int) ((Q0 : Nat) : Int) (((sp % ((14 : Nat) : Int)).toNat : Nat) : Int))), (sli gs 0 3 3), (eN 0), (ptr gs 0), (Value.agg #[(eN D0), (eN B0), (eN Q0)]), (eI sp), (eN ((sp % ((14 : Nat) : Int)).toNat)), (eI (gsec ((D0 : Nat) : Int) ((B0 : Nat) : Int) ((Q0 : Nat) : Int) (((sp % ((14 : Nat) : Int)).toNat : Nat) : Int))), (Value.bool false), (Value.bool false)] ([(Value.agg #[(eN D0), (eN B0), (eN Q0)]), u1, (eI sp), u2, (ptr g0 0), undef, undef, undef, (z 8), (ptr h0 0), (sli gs 0 3 3), (sli bs 0 3 3), (eN 0), u46, u53, (eN k), (z 16), (Value.bool true), (Value.bool false), u1, (eN bl.length), (Value.bool false), (Value.agg #[(eN D0), (eN B0), (eN Q0)]), (Value.agg #[(eN D), (eN B), (eN Q)]), (Value.agg #[(eN D0), (eN B0), (eN Q0)]), (Value.agg #[(eN D), (eN B), (eN Q)]), (Value.agg #[(eN D), (eN B), (eN Q)]), (sli gs 0 3 3), u1, u1, (Value.agg #[(eN D), (eN B), (eN Q)]), u2, u32, (sli bs 0 3 3), (eN 0), (Value.bool (decide (0 < 3))), (z 36), (z 37), (sli gs 0 3 3), (eN 0), (ptr gs 0), (Value.agg #[(eN D0), (eN B0), (eN Q0)]), (sli bs 0 3 3), (eN 0), (ptr bs 0), u1, u46, (sli gs 0 3 3), (eN 0), (ptr gs 0), (Value.agg #[(eN D0), (eN B0), (eN Q0)]), (sli bs 0 3 3), (eN 0), (ptr bs 0), u1, u53, u46, (eN ws47.length), u53, (eN ws54.length), (Value.bool false), (Value.bool false), (sli gs 0 3 3), (eN 0), (ptr gs 0), (Value.agg #[(eN D0), (eN B0), (eN Q0)]), (eN 0), (sli gs 0 3 3), (eN 0), (ptr gs 0), (Value.agg #[(eN D0), (eN B0), (eN Q0)]), (eN 0), (Value.bool false), (Value.bool false), (Value.bool false), (sli gs 0 3 3), (eN 0), (ptr gs 0), (Value.agg #[(eN D0), (eN B0), (eN Q0)]), (eN (D0 - 2)), (sli gs 0 3 3), (eN 0), (ptr gs 0), (Value.agg #[(eN D0), (eN B0), (eN Q0)]), (eN (D0 - 2)), (Value.bool false), (Value.bool false), (eN k), u46, (eN ws47.length), (Value.bool (decide (k < ws47.length)))] ++ (zs z 91 37 ++ [(sli gs 0 3 3), (eN 0), (ptr gs 0), (Value.agg #[(eN D0), (eN B0), (eN Q0)]), (eI sp), (eI (gsec ((D0 : Nat) : Int) ((B0 : Nat) : Int) ((Q0 : Nat) : Int) sp)), (sli gs 0 3 3), (eN 0), (ptr gs 0), (Value.agg #[(eN D0), (eN B0), (eN Q0)]), (eI sp), (eI (gsec ((D0 : Nat) : Int) ((B0 : Nat) : Int) ((Q0 : Nat) : Int) sp)), (Value.bool false), (Value.bool false), (sli gs 0 3 3), (eN 0), (ptr gs 0), (Value.agg #[(eN D0), (eN B0), (eN Q0)]), (eI sp), (eN ((sp % ((14 : Nat) : Int)).toNat)), (eI (gsec ((D0 : Nat) : Int) ((B0 : Nat) : Int) ((Q0 : Nat) : Int) (((sp % ((14 : Nat) : Int)).toNat : Nat) : Int))), (sli gs 0 3 3), (eN 0), (ptr gs 0), (Value.agg #[(eN D0), (eN B0), (eN Q0)]), (eI sp), (eN ((sp % ((14 : Nat) : Int)).toNat)), (eI (gsec ((D0 : Nat) : Int) ((B0 : Nat) : Int) ((Q0 : Nat) : Int) (((sp % ((14 : Nat) : Int)).toNat : Nat) : Int))), (Value.bool false), (Value.bool false)])) s_mx (by kernel_rfl) (by kernel_rfl) rfl (by kernel_rfl) (by kernel_rfl) ?_ ?_
    ·
     intro w_ hO_
     refine AllG.cons (gi rfl (d_move rfl)) ?_
     refine AllG.cons (gi rfl (d_move rfl)) ?_
     refine AllG.cons (gi rfl (d_index (b := gs) (o := 0) (n := 3) (c := 3) (j := 0) Try.underlying44 s_ti25 rfl (show _ = Value.int _ ((0 : Nat) : Int) from rfl) (by omega) (by omega) (by simp))) ?_
     refine AllG.cons (gi rfl (d_loadAg (vs := [(eN D0), (eN B0), (eN Q0)]) ⟨_, Try.underlying25, rfl⟩ s_ti25 rfl (a28.step0 hO_) rfl rfl)) ?_
     refine AllG.cons (gi rfl (d_move rfl)) ?_
     refine AllG.cons (gc rfl (d_call (xl := [.tmp 131, .tmp 132]) (al := [(Value.agg #[(eN D0), (eN B0), (eN Q0)]), (eI sp)]) Try.func17 (by kernel_rfl) rfl rfl rfl (gSectors_ok ((D0 : Nat) : Int) ((B0 : Nat) : Int) ((Q0 : Nat) : Int) sp _))) ?_
     refine AllG.cons (gi rfl (d_move rfl)) ?_
     refine AllG.cons (gi rfl (d_move rfl)) ?_
     refine AllG.cons (gi rfl (d_index (b := gs) (o := 0) (n := 3) (c := 3) (j := 0) Try.underlying44 s_ti25 rfl (show _ = Value.int _ ((0 : Nat) : Int) from rfl) (by omega) (by omega) (by simp))) ?_
     refine AllG.cons (gi rfl (d_loadAg (vs := [(eN D0), (eN B0), (eN Q0)]) ⟨_, Try.underlying25, rfl⟩ s_ti25 rfl (a28.step0 hO_) rfl rfl)) ?_
     refine AllG.cons (gi rfl (d_move rfl)) ?_
     refine AllG.cons (gc rfl (d_call (xl := [.tmp 137, .tmp 138]) (al := [(Value.agg #[(eN D0), (eN B0), (eN Q0)]), (eI sp)]) Try.func37 (by kernel_rfl) rfl rfl rfl (ref9Sectors_ok ((D0 : Nat) : Int) ((B0 : Nat) : Int) ((Q0 : Nat) : Int) sp _))) ?_
     refine AllG.cons (gi rfl (d_neq (k := .i64) (m := gsec ((D0 : Nat) : Int) ((B0 : Nat) : Int) ((Q0 : Nat) : Int) sp) (n := gsec ((D0 : Nat) : Int) ((B0 : Nat) : Int) ((Q0 : Nat) : Int) sp) rfl rfl (by rw [decide_eq_true rfl] <;> rfl))) ?_
     refine AllG.cons (gi rfl (d_move rfl)) ?_
     refine AllG.cons (gi_on rfl rfl rfl (nb rfl) rfl (d_move rfl)) ?_
     refine AllG.cons (gi_on rfl rfl rfl (nb rfl) rfl (d_move rfl)) ?_
     refine AllG.cons (gi_on rfl rfl rfl (nb rfl) rfl (d_index (b := gs) (o := 0) (n := 3) (c := 3) (j := 0) Try.underlying44 s_ti25 rfl (show _ = Value.int _ ((0 : Nat) : Int) from rfl) (by omega) (by omega) (by simp))) ?_
     refine AllG.cons (gi_on rfl rfl rfl (nb rfl) rfl (d_loadAg (vs := [(eN D0), (eN B0), (eN Q0)]) ⟨_, Try.underlying25, rfl⟩ s_ti25 rfl (a28.step0 hO_) rfl rfl)) ?_
     refine AllG.cons (gi_on rfl rfl rfl (nb rfl) rfl (d_move rfl)) ?_
     refine AllG.cons (gc_on rfl rfl rfl (nb rfl) rfl (d_call (xl := [.tmp 146, .const (.int .i64 14)]) (al := [(eI sp), (eN 14)]) Try.func16 (by kernel_rfl) rfl rfl rfl (law9Within_ok sp 14 _ (by omega) (by omega)))) ?_
     refine AllG.cons (gc_on rfl rfl rfl (nb rfl) rfl (d_call (xl := [.tmp 145, .tmp 147]) (al := [(Value.agg #[(eN D0), (eN B0), (eN Q0)]), (eN ((sp % ((14 : Nat) : Int)).toNat))]) Try.func17 (by kernel_rfl) rfl rfl rfl (gSectors_ok ((D0 : Nat) : Int) ((B0 : Nat) : Int) ((Q0 : Nat) : Int) (((sp % ((14 : Nat) : Int)).toNat : Nat) : Int) _))) ?_
     refine AllG.cons (gi_on rfl rfl rfl (nb rfl) rfl (d_move rfl)) ?_
     refine AllG.cons (gi_on rfl rfl rfl (nb rfl) rfl (d_move rfl)) ?_
     refine AllG.cons (gi_on rfl rfl rfl (nb rfl) rfl (d_index (b := gs) (o := 0) (n := 3) (c := 3) (j := 0) Try.underlying44 s_ti25 rfl (show _ = Value.int _ ((0 : Nat) : Int) from rfl) (by omega) (by omega) (by simp))) ?_
     refine AllG.cons (gi_on rfl rfl rfl (nb rfl) rfl (d_loadAg (vs := [(eN D0), (eN B0), (eN Q0)]) ⟨_, Try.underlying25, rfl⟩ s_ti25 rfl (a28.step0 hO_) rfl rfl)) ?_
     refine AllG.cons (gi_on rfl rfl rfl (nb rfl) rfl (d_move rfl)) ?_
     refine AllG.cons (gc_on rfl rfl rfl (nb rfl) rfl (d_call (xl := [.tmp 153, .const (.int .i64 14)]) (al := [(eI sp), (eN 14)]) Try.func16 (by kernel_rfl) rfl rfl rfl (law9Within_ok sp 14 _ (by omega) (by omega)))) ?_
     refine AllG.cons (gc_on rfl rfl rfl (nb rfl) rfl (d_call (xl := [.tmp 152, .tmp 154]) (al := [(Value.agg #[(eN D0), (eN B0), (eN Q0)]), (eN ((sp % ((14 : Nat) : Int)).toNat))]) Try.func37 (by kernel_rfl) rfl rfl rfl (ref9Sectors_ok ((D0 : Nat) : Int) ((B0 : Nat) : Int) ((Q0 : Nat) : Int) (((sp % ((14 : Nat) : Int)).toNat : Nat) : Int) _))) ?_
     refine AllG.cons (gi_on rfl rfl rfl (nb rfl) rfl (d_neq (k := .i64) (m := gsec ((D0 : Nat) : Int) ((B0 : Nat) : Int) ((Q0 : Nat) : Int) (((sp % ((14 : Nat) : Int)).toNat : Nat) : Int)) (n := gsec ((D0 : Nat) : Int) ((B0 : Nat) : Int) ((Q0 : Nat) : Int) (((sp % ((14 : Nat) : Int)).toNat : Nat) : Int)) rfl rfl (by rw [decide_eq_true rfl] <;> rfl))) ?_
     refine AllG.cons (gi rfl (d_pick (b := false) (v := (Value.bool false)) rfl rfl)) ?_
     exact AllG.nil
    intro w72 o73
    replace h1 := h1.step0 o73
    replace h2 := h2.step0 o73
    replace f33 := f33.step0 o73
    replace f49 := f49.step0 o73
    replace g50 := g50.step0 o73
    replace f56 := f56.step0 o73
    replace g57 := g57.step0 o73
    replace a13 := a13.step0 o73
    replace a24 := a24.step0 o73
    replace a28 := a28.step0 o73
    replace a36 := a36.step0 o73
    replace oW := oW.tail0 o73
    replace o38 := o38.tail0 o73
    replace o60 := o60.tail0 o73
    refine then_n ?_
    refine cond_f rfl ?_
    refine wpIn_skip ?_
    refine inb_n (then_n ?_)
    refine plain ?_
    refine wI (d_move rfl) ?_
    refine wI (n_add (a := 0) (b := 1) rfl rfl (by omega)) ?_
    refine wI (d_assign rfl) ?_
    refine wF ([(Value.agg #[(eN D0), (eN B0), (eN Q0)]), u1, (eI sp), u2, (ptr g0 0), undef, undef, undef, (z 8), (ptr h0 0), (sli gs 0 3 3), (sli bs 0 3 3), (eN 1), u46, u53, (eN k), (z 16), (Value.bool true), (Value.bool false), u1, (eN bl.length), (Value.bool false), (Value.agg #[(eN D0), (eN B0), (eN Q0)]), (Value.agg #[(eN D), (eN B), (eN Q)]), (Value.agg #[(eN D0), (eN B0), (eN Q0)]), (Value.agg #[(eN D), (eN B), (eN Q)]), (Value.agg #[(eN D), (eN B), (eN Q)]), (sli gs 0 3 3), u1, u1, (Value.agg #[(eN D), (eN B), (eN Q)]), u2, u32, (sli bs 0 3 3), (eN 0), (Value.bool (decide (0 < 3))), (eN 0), (eN 1), (sli gs 0 3 3), (eN 0), (ptr gs 0), (Value.agg #[(eN D0), (eN B0), (eN Q0)]), (sli bs 0 3 3), (eN 0), (ptr bs 0), u1, u46, (sli gs 0 3 3), (eN 0), (ptr gs 0), (Value.agg #[(eN D0), (eN B0), (eN Q0)]), (sli bs 0 3 3), (eN 0), (ptr bs 0), u1, u53, u46, (eN ws47.length), u53, (eN ws54.length), (Value.bool false), (Value.bool false), (sli gs 0 3 3), (eN 0), (ptr gs 0), (Value.agg #[(eN D0), (eN B0), (eN Q0)]), (eN 0), (sli gs 0 3 3), (eN 0), (ptr gs 0), (Value.agg #[(eN D0), (eN B0), (eN Q0)]), (eN 0), (Value.bool false), (Value.bool false), (Value.bool false), (sli gs 0 3 3), (eN 0), (ptr gs 0), (Value.agg #[(eN D0), (eN B0), (eN Q0)]), (eN (D0 - 2)), (sli gs 0 3 3), (eN 0), (ptr gs 0), (Value.agg #[(eN D0), (eN B0), (eN Q0)]), (eN (D0 - 2)), (Value.bool false), (Value.bool false), (eN k), u46, (eN ws47.length), (Value.bool (decide (k < ws47.length)))] ++ (zs z 91 37 ++ [(sli gs 0 3 3), (eN 0), (ptr gs 0), (Value.agg #[(eN D0), (eN B0), (eN Q0)]), (eI sp), (eI (gsec ((D0 : Nat) : Int) ((B0 : Nat) : Int) ((Q0 : Nat) : Int) sp)), (sli gs 0 3 3), (eN 0), (ptr gs 0), (Value.agg #[(eN D0), (eN B0), (eN Q0)]), (eI sp), (eI (gsec ((D0 : Nat) : Int) ((B0 : Nat) : Int) ((Q0 : Nat) : Int) sp)), (Value.bool false), (Value.bool false), (sli gs 0 3 3), (eN 0), (ptr gs 0), (Value.agg #[(eN D0), (eN B0), (eN Q0)]), (eI sp), (eN ((sp % ((14 : Nat) : Int)).toNat)), (eI (gsec ((D0 : Nat) : Int) ((B0 : Nat) : Int) ((Q0 : Nat) : Int) (((sp % ((14 : Nat) : Int)).toNat : Nat) : Int))), (sli gs 0 3 3), (eN 0), (ptr gs 0), (Value.agg #[(eN D0), (eN B0), (eN Q0)]), (eI sp), (eN ((sp % ((14 : Nat) : Int)).toNat)), (eI (gsec ((D0 : Nat) : Int) ((B0 : Nat) : Int) ((Q0 : Nat) : Int) (((sp % ((14 : Nat) : Int)).toNat : Nat) : Int))), (Value.bool false), (Value.bool false)])) ?_
    refine wpL.done ?_
    refine then_n ?_
    refine ⟨_, 1, rfl, rfl, ⟨?_, ?_, ?_, ?_, ?_, ?_⟩, ?_⟩
    ·
     (try dsimp only)
     all_goals (omega)
    ·
     exact o38
    ·
     exact a13
    ·
     exact a24
    ·
     exact a28
    ·
     exact a36
    ·
     (try dsimp only)
     all_goals (omega)
   by_cases k1 : i = 1
   ·
    subst k1
    refine wp_eq (l' := ([(Value.agg #[(eI gx1), (eI gy1), (eI gz1)]), u1, (eI sp), u2, (ptr g0 0), undef, undef, undef, (z 8), (ptr h0 0), (sli gs 0 3 3), (sli bs 0 3 3), (eN 1), (z 13), (z 14), (z 15), (z 16), (Value.bool true), (Value.bool false), u1, (eN bl.length), (Value.bool false), (Value.agg #[(eI gx1), (eI gy1), (eI gz1)]), (Value.agg #[(eN D), (eN B), (eN Q)]), (Value.agg #[(eI gx1), (eI gy1), (eI gz1)]), (Value.agg #[(eN D), (eN B), (eN Q)]), (Value.agg #[(eN D), (eN B), (eN Q)]), (sli gs 0 3 3), u1, u1, (Value.agg #[(eN D), (eN B), (eN Q)]), u2, u32, (sli bs 0 3 3), (eN 1), (Value.bool (decide (1 < 3)))] ++ (zs z 36 122))) rfl ?_
    refine drawnG (O := (Or1 bs (Or1 gs (Or1 h0 (Or1 g0 No))))) (n := 20) 0 [0, 0, 3, 7, 0, 0, 48, 112, 255, 0, 0, 1536, 3584, 0, 0, 24576, 57344, 131071, 262143, 524287] [(0, 38), (1, 39), (2, 40), (3, 41), (4, 42), (5, 43), (6, 44), (7, 45), (8, 46), (9, 47), (10, 48), (11, 49), (12, 50), (13, 51), (14, 52), (15, 53), (16, 54), (17, 55), (18, 13), (19, 14)] [] [] [] (fun i_ => ([] : List (RF (Or1 bs (Or1 gs (Or1 h0 (Or1 g0 No)))))).getD i_ (RF.any (Or1 bs (Or1 gs (Or1 h0 (Or1 g0 No)))))) (fun _ w_ => Arr 25 g0 [(eI gx1), (eI gy1), (eI gz1)] w_ ∧ Arr 25 h0 [(eN D), (eN B), (eN Q)] w_ ∧ Arr 25 gs [(eI gx1), (eI gy1), (eI gz1), (eN D), (eN B), (eN Q), (eN D), (eN B), (eN Q)] w_ ∧ Arr 42 bs [u1, u1, u32] w_) (fun v74 => ([(Value.agg #[(eI gx1), (eI gy1), (eI gz1)]), u1, (eI sp), u2, (ptr g0 0), undef, undef, undef, (z 8), (ptr h0 0), (sli gs 0 3 3), (sli bs 0 3 3), (eN 1), (v74 18), (v74 19), (z 15), (z 16), (Value.bool true), (Value.bool false), u1, (eN bl.length), (Value.bool false), (Value.agg #[(eI gx1), (eI gy1), (eI gz1)]), (Value.agg #[(eN D), (eN B), (eN Q)]), (Value.agg #[(eI gx1), (eI gy1), (eI gz1)]), (Value.agg #[(eN D), (eN B), (eN Q)]), (Value.agg #[(eN D), (eN B), (eN Q)]), (sli gs 0 3 3), u1, u1, (Value.agg #[(eN D), (eN B), (eN Q)]), u2, u32, (sli bs 0 3 3), (eN 1), (Value.bool (decide (1 < 3))), (z 36), (z 37), (v74 0), (v74 1), (v74 2), (v74 3), (v74 4), (v74 5), (v74 6), (v74 7), (v74 8), (v74 9), (v74 10), (v74 11), (v74 12), (v74 13), (v74 14), (v74 15), (v74 16), (v74 17)] ++ (zs z 56 102))) (fun v74 => ([(Value.agg #[(eI gx1), (eI gy1), (eI gz1)]), u1, (eI sp), u2, (ptr g0 0), undef, undef, undef, (z 8), (ptr h0 0), (sli gs 0 3 3), (sli bs 0 3 3), (eN 1), (z 13), (z 14), (z 15), (z 16), (Value.bool true), (Value.bool false), u1, (eN bl.length), (Value.bool false), (Value.agg #[(eI gx1), (eI gy1), (eI gz1)]), (Value.agg #[(eN D), (eN B), (eN Q)]), (Value.agg #[(eI gx1), (eI gy1), (eI gz1)]), (Value.agg #[(eN D), (eN B), (eN Q)]), (Value.agg #[(eN D), (eN B), (eN Q)]), (sli gs 0 3 3), u1, u1, (Value.agg #[(eN D), (eN B), (eN Q)]), u2, u32, (sli bs 0 3 3), (eN 1), (Value.bool (decide (1 < 3)))] ++ (zs z 36 122))) s_mx (by kernel_rfl) rfl (by decide) (by rfl) (by kernel_rfl) (by kernel_rfl) (by kernel_rfl) (by rfl) (fun v_ => by kernel_rfl) (fun v_ => by kernel_rfl) (fun _ => fun w_ w2_ h ho => by obtain ⟨r_a13, r_a24, r_a28, r_a36⟩ := h; exact ⟨r_a13.step0 ho, r_a24.step0 ho, r_a28.step0 ho, r_a36.step0 ho⟩) ⟨a13, a24, a28, a36⟩ ?_ ?_ ?_
    ·
     exact ls_nil
    ·
     exact ms_nil
    intro v74 lo_ hi_ w75 o76 hd hR
    clear hd lo_ hi_
    replace h1 := h1.step o76 (or1_mono (or1_mono (or1_mono (or1_mono no_any))))
    replace h2 := h2.step o76 (or1_mono (or1_mono (or1_mono (or1_mono no_any))))
    replace f33 := f33.step o76 (or1_mono (or1_mono (or1_mono (or1_mono no_any))))
    obtain ⟨xr_a13, xr_a24, xr_a28, xr_a36⟩ := hR
    replace a13 : Arr 25 g0 [(eI gx1), (eI gy1), (eI gz1)] w75 := xr_a13
    replace a24 : Arr 25 h0 [(eN D), (eN B), (eN Q)] w75 := xr_a24
    replace a28 : Arr 25 gs [(eI gx1), (eI gy1), (eI gz1), (eN D), (eN B), (eN Q), (eN D), (eN B), (eN Q)] w75 := xr_a28
    replace a36 : Arr 42 bs [u1, u1, u32] w75 := xr_a36
    clear xr_a13 xr_a24 xr_a28 xr_a36
    replace oW := oW.tail o76 (tl_new g_oW_bs (tl_new g_oW_gs (tl_new g_oW_h0 (tl_new g_oW_g0 tl_no))))
    replace o38 := o38.tail o76 (tl_in in1 (tl_in (in2 in1) (tl_in (in2 (in2 in1)) (tl_in (in2 (in2 (in2 in1))) tl_no))))
    refine rest_seg (n := 20) (p := 0) (q := 20) [0, 1, 2, 3, 4, 5, 6, 7, 9, 10, 11, 12, 13, 14, 15, 16] [8, 17, 18, 19] [(0, 38), (1, 39), (2, 40), (3, 41), (4, 42), (5, 43), (6, 44), (7, 45), (9, 47), (10, 48), (11, 49), (12, 50), (13, 51), (14, 52), (15, 53), (16, 54)] [(0, 38), (1, 39), (2, 40), (3, 41), (4, 42), (5, 43), (6, 44), (7, 45), (8, 46), (9, 47), (10, 48), (11, 49), (12, 50), (13, 51), (14, 52), (15, 53), (16, 54), (17, 55), (18, 13), (19, 14)] [0, 0, 3, 7, 0, 0, 48, 112, 255, 0, 0, 1536, 3584, 0, 0, 24576, 57344, 131071, 262143, 524287] (fun i_ => nth [(sli gs 0 3 3), (eN 1), (ptr gs 3), (Value.agg #[(eN D), (eN B), (eN Q)]), (sli bs 0 3 3), (eN 1), (ptr bs 1), u1, undef, (sli gs 0 3 3), (eN 1), (ptr gs 3), (Value.agg #[(eN D), (eN B), (eN Q)]), (sli bs 0 3 3), (eN 1), (ptr bs 1), u1] i_) ([(Value.agg #[(eI gx1), (eI gy1), (eI gz1)]), u1, (eI sp), u2, (ptr g0 0), undef, undef, undef, (z 8), (ptr h0 0), (sli gs 0 3 3), (sli bs 0 3 3), (eN 1), (z 13), (z 14), (z 15), (z 16), (Value.bool true), (Value.bool false), u1, (eN bl.length), (Value.bool false), (Value.agg #[(eI gx1), (eI gy1), (eI gz1)]), (Value.agg #[(eN D), (eN B), (eN Q)]), (Value.agg #[(eI gx1), (eI gy1), (eI gz1)]), (Value.agg #[(eN D), (eN B), (eN Q)]), (Value.agg #[(eN D), (eN B), (eN Q)]), (sli gs 0 3 3), u1, u1, (Value.agg #[(eN D), (eN B), (eN Q)]), u2, u32, (sli bs 0 3 3), (eN 1), (Value.bool (decide (1 < 3))), (z 36), (z 37), (sli gs 0 3 3), (eN 1), (ptr gs 3), (Value.agg #[(eN D), (eN B), (eN Q)]), (sli bs 0 3 3), (eN 1), (ptr bs 1), u1, (z 46), (sli gs 0 3 3), (eN 1), (ptr gs 3), (Value.agg #[(eN D), (eN B), (eN Q)]), (sli bs 0 3 3), (eN 1), (ptr bs 1), u1] ++ (zs z 55 103)) (fun w_ => Ps (Or1 bs (Or1 gs (Or1 h0 (Or1 g0 No)))) (Seq (kA 2 eQ) bl u1) w_ ∧ Ps (Or1 bs (Or1 gs (Or1 h0 (Or1 g0 No)))) (Seq kI ls u2) w_ ∧ Ps (Or1 bs (Or1 gs (Or1 h0 (Or1 g0 (Old W.heap.size))))) (Seq (kA 2 eQ) (spoilL D B ls) u32) w_ ∧ Arr 25 g0 [(eI gx1), (eI gy1), (eI gz1)] w_ ∧ Arr 25 h0 [(eN D), (eN B), (eN Q)] w_ ∧ Arr 25 gs [(eI gx1), (eI gy1), (eI gz1), (eN D), (eN B), (eN Q), (eN D), (eN B), (eN Q)] w_ ∧ Arr 42 bs [u1, u1, u32] w_ ∧ True) (by kernel_rfl) rfl (by decide) (by kernel_rfl) (by kernel_rfl) (by rfl) (by kernel_rfl) (by kernel_rfl) (by kernel_rfl) (by kernel_rfl) (by kernel_rfl) (by decide) ?_ ?_
    ·
     rintro w_ ⟨h1, h2, f33, a13, a24, a28, a36, _⟩
     refine fl_cons ⟨_, rfl, gd rfl (d_move rfl)⟩ ?_
     refine fl_cons ⟨_, rfl, gd rfl (d_move rfl)⟩ ?_
     refine fl_cons ⟨_, rfl, gd rfl (d_index (b := gs) (o := 0) (n := 3) (c := 3) (j := 3) Try.underlying44 s_ti25 rfl (show _ = Value.int _ ((1 : Nat) : Int) from rfl) (by omega) (by omega) (by simp))⟩ ?_
     refine fl_cons ⟨_, rfl, gd rfl (d_loadAg (vs := [(eN D), (eN B), (eN Q)]) ⟨_, Try.underlying25, rfl⟩ s_ti25 rfl a28 rfl rfl)⟩ ?_
     refine fl_cons ⟨_, rfl, gd rfl (d_move rfl)⟩ ?_
     refine fl_cons ⟨_, rfl, gd rfl (d_move rfl)⟩ ?_
     refine fl_cons ⟨_, rfl, gd rfl (d_index1 (n := 3) (i := 1) Try.underlying46 s_ti42 rfl (show _ = Value.int _ ((1 : Nat) : Int) from rfl) (by omega))⟩ ?_
     refine fl_cons ⟨_, rfl, gd rfl (d_load (v := u1) ⟨_, Try.underlying42, rfl⟩ rfl a36 rfl)⟩ ?_
     refine fl_cons ⟨_, rfl, gd rfl (d_move rfl)⟩ ?_
     refine fl_cons ⟨_, rfl, gd rfl (d_move rfl)⟩ ?_
     refine fl_cons ⟨_, rfl, gd rfl (d_index (b := gs) (o := 0) (n := 3) (c := 3) (j := 3) Try.underlying44 s_ti25 rfl (show _ = Value.int _ ((1 : Nat) : Int) from rfl) (by omega) (by omega) (by simp))⟩ ?_
     refine fl_cons ⟨_, rfl, gd rfl (d_loadAg (vs := [(eN D), (eN B), (eN Q)]) ⟨_, Try.underlying25, rfl⟩ s_ti25 rfl a28 rfl rfl)⟩ ?_
     refine fl_cons ⟨_, rfl, gd rfl (d_move rfl)⟩ ?_
     refine fl_cons ⟨_, rfl, gd rfl (d_move rfl)⟩ ?_
     refine fl_cons ⟨_, rfl, gd rfl (d_index1 (n := 3) (i := 1) Try.underlying46 s_ti42 rfl (show _ = Value.int _ ((1 : Nat) : Int) from rfl) (by omega))⟩ ?_
     refine fl_cons ⟨_, rfl, gd rfl (d_load (v := u1) ⟨_, Try.underlying42, rfl⟩ rfl a36 rfl)⟩ ?_
     exact fl_nil
    refine wJ.op ⟨h1, h2, f33, a13, a24, a28, a36, trivial⟩ rfl rfl (d_call (xl := [.tmp 41, .tmp 45]) (al := [(Value.agg #[(eN D), (eN B), (eN Q)]), u1]) Try.func31 (by kernel_rfl) rfl rfl rfl (supers_ok D B Q bl u1 _ (Ps.no h1) (by first | omega | (simp; done) | (simp; omega)) (by omega) (by omega) (by omega))) ?_
    rintro u79 w77 ⟨ws80, hw81, f82, g83, o78⟩
    replace f82 := f82.less (Y := (Or1 bs (Or1 gs (Or1 h0 (Or1 g0 (Old W.heap.size)))))) (or1_old a36.lt (or1_old a28.lt (or1_old a24.lt (or1_old a13.lt (old_old oW.size)))))
    replace g83 := g83.less (Y := (Or1 bs (Or1 gs (Or1 h0 (Or1 g0 (Old W.heap.size)))))) (or1_old a36.lt (or1_old a28.lt (or1_old a24.lt (or1_old a13.lt (old_old oW.size)))))
    replace h1 := h1.step0 o78
    replace h2 := h2.step0 o78
    replace f33 := f33.step0 o78
    replace a13 := a13.step0 o78
    replace a24 := a24.step0 o78
    replace a28 := a28.step0 o78
    replace a36 := a36.step0 o78
    replace oW := oW.tail0 o78
    replace o38 := o38.tail0 o78
    refine wJ.flat ([(Value.agg #[(eI gx1), (eI gy1), (eI gz1)]), u1, (eI sp), u2, (ptr g0 0), undef, undef, undef, (z 8), (ptr h0 0), (sli gs 0 3 3), (sli bs 0 3 3), (eN 1), (z 13), (z 14), (z 15), (z 16), (Value.bool true), (Value.bool false), u1, (eN bl.length), (Value.bool false), (Value.agg #[(eI gx1), (eI gy1), (eI gz1)]), (Value.agg #[(eN D), (eN B), (eN Q)]), (Value.agg #[(eI gx1), (eI gy1), (eI gz1)]), (Value.agg #[(eN D), (eN B), (eN Q)]), (Value.agg #[(eN D), (eN B), (eN Q)]), (sli gs 0 3 3), u1, u1, (Value.agg #[(eN D), (eN B), (eN Q)]), u2, u32, (sli bs 0 3 3), (eN 1), (Value.bool (decide (1 < 3))), (z 36), (z 37), (sli gs 0 3 3), (eN 1), (ptr gs 3), (Value.agg #[(eN D), (eN B), (eN Q)]), (sli bs 0 3 3), (eN 1), (ptr bs 1), u1, u79, (sli gs 0 3 3), (eN 1), (ptr gs 3), (Value.agg #[(eN D), (eN B), (eN Q)]), (sli bs 0 3 3), (eN 1), (ptr bs 1), u1] ++ (zs z 55 103)) (by kernel_rfl) ?_
    refine wJ.op ⟨h1, h2, f33, a13, a24, a28, a36, trivial⟩ rfl rfl (d_call (xl := [.tmp 50, .tmp 54]) (al := [(Value.agg #[(eN D), (eN B), (eN Q)]), u1]) Try.func32 (by kernel_rfl) rfl rfl rfl (ref9Supers_ok D B Q bl u1 _ (Ps.no h1) (by first | omega | (simp; done) | (simp; omega)) (by omega) (by omega) (by omega))) ?_
    rintro u86 w84 ⟨ws87, hw88, f89, g90, o85⟩
    replace f89 := f89.less (Y := (Or1 bs (Or1 gs (Or1 h0 (Or1 g0 (Old W.heap.size)))))) (or1_old a36.lt (or1_old a28.lt (or1_old a24.lt (or1_old a13.lt (old_old oW.size)))))
    replace g90 := g90.less (Y := (Or1 bs (Or1 gs (Or1 h0 (Or1 g0 (Old W.heap.size)))))) (or1_old a36.lt (or1_old a28.lt (or1_old a24.lt (or1_old a13.lt (old_old oW.size)))))
    replace h1 := h1.step0 o85
    replace h2 := h2.step0 o85
    replace f33 := f33.step0 o85
    replace f82 := f82.step0 o85
    replace g83 := g83.step0 o85
    replace a13 := a13.step0 o85
    replace a24 := a24.step0 o85
    replace a28 := a28.step0 o85
    replace a36 := a36.step0 o85
    replace oW := oW.tail0 o85
    replace o38 := o38.tail0 o85
    refine wJ.flat ([(Value.agg #[(eI gx1), (eI gy1), (eI gz1)]), u1, (eI sp), u2, (ptr g0 0), undef, undef, undef, (z 8), (ptr h0 0), (sli gs 0 3 3), (sli bs 0 3 3), (eN 1), (z 13), (z 14), (z 15), (z 16), (Value.bool true), (Value.bool false), u1, (eN bl.length), (Value.bool false), (Value.agg #[(eI gx1), (eI gy1), (eI gz1)]), (Value.agg #[(eN D), (eN B), (eN Q)]), (Value.agg #[(eI gx1), (eI gy1), (eI gz1)]), (Value.agg #[(eN D), (eN B), (eN Q)]), (Value.agg #[(eN D), (eN B), (eN Q)]), (sli gs 0 3 3), u1, u1, (Value.agg #[(eN D), (eN B), (eN Q)]), u2, u32, (sli bs 0 3 3), (eN 1), (Value.bool (decide (1 < 3))), (z 36), (z 37), (sli gs 0 3 3), (eN 1), (ptr gs 3), (Value.agg #[(eN D), (eN B), (eN Q)]), (sli bs 0 3 3), (eN 1), (ptr bs 1), u1, u79, (sli gs 0 3 3), (eN 1), (ptr gs 3), (Value.agg #[(eN D), (eN B), (eN Q)]), (sli bs 0 3 3), (eN 1), (ptr bs 1), u1, u86] ++ (zs z 56 102)) (by kernel_rfl) ?_
    refine wJ.is ⟨h1, h2, f33, a13, a24, a28, a36, trivial⟩ rfl rfl (d_assign rfl) ?_
    refine wJ.flat ([(Value.agg #[(eI gx1), (eI gy1), (eI gz1)]), u1, (eI sp), u2, (ptr g0 0), undef, undef, undef, (z 8), (ptr h0 0), (sli gs 0 3 3), (sli bs 0 3 3), (eN 1), u79, (z 14), (z 15), (z 16), (Value.bool true), (Value.bool false), u1, (eN bl.length), (Value.bool false), (Value.agg #[(eI gx1), (eI gy1), (eI gz1)]), (Value.agg #[(eN D), (eN B), (eN Q)]), (Value.agg #[(eI gx1), (eI gy1), (eI gz1)]), (Value.agg #[(eN D), (eN B), (eN Q)]), (Value.agg #[(eN D), (eN B), (eN Q)]), (sli gs 0 3 3), u1, u1, (Value.agg #[(eN D), (eN B), (eN Q)]), u2, u32, (sli bs 0 3 3), (eN 1), (Value.bool (decide (1 < 3))), (z 36), (z 37), (sli gs 0 3 3), (eN 1), (ptr gs 3), (Value.agg #[(eN D), (eN B), (eN Q)]), (sli bs 0 3 3), (eN 1), (ptr bs 1), u1, u79, (sli gs 0 3 3), (eN 1), (ptr gs 3), (Value.agg #[(eN D), (eN B), (eN Q)]), (sli bs 0 3 3), (eN 1), (ptr bs 1), u1, u86] ++ (zs z 56 102)) (by kernel_rfl) ?_
    refine wJ.is ⟨h1, h2, f33, a13, a24, a28, a36, trivial⟩ rfl rfl (d_assign rfl) ?_
    refine wJ.flat ([(Value.agg #[(eI gx1), (eI gy1), (eI gz1)]), u1, (eI sp), u2, (ptr g0 0), undef, undef, undef, (z 8), (ptr h0 0), (sli gs 0 3 3), (sli bs 0 3 3), (eN 1), u79, u86, (z 15), (z 16), (Value.bool true), (Value.bool false), u1, (eN bl.length), (Value.bool false), (Value.agg #[(eI gx1), (eI gy1), (eI gz1)]), (Value.agg #[(eN D), (eN B), (eN Q)]), (Value.agg #[(eI gx1), (eI gy1), (eI gz1)]), (Value.agg #[(eN D), (eN B), (eN Q)]), (Value.agg #[(eN D), (eN B), (eN Q)]), (sli gs 0 3 3), u1, u1, (Value.agg #[(eN D), (eN B), (eN Q)]), u2, u32, (sli bs 0 3 3), (eN 1), (Value.bool (decide (1 < 3))), (z 36), (z 37), (sli gs 0 3 3), (eN 1), (ptr gs 3), (Value.agg #[(eN D), (eN B), (eN Q)]), (sli bs 0 3 3), (eN 1), (ptr bs 1), u1, u79, (sli gs 0 3 3), (eN 1), (ptr gs 3), (Value.agg #[(eN D), (eN B), (eN Q)]), (sli bs 0 3 3), (eN 1), (ptr bs 1), u1, u86] ++ (zs z 56 102)) (by kernel_rfl) ?_
    refine wJ.done ⟨h1, h2, f33, a13, a24, a28, a36, trivial⟩ ?_
    refine rest_done rfl ?_
    have nl := nMin_le bl B D
    refine then_n ?_
    refine wpIn_seq ?_
    refine wpIn_seq ?_
    refine drawn_pure [0, 1, 0, 4, 15, 31, 63, 63, 255, 511, 1023, 63, 63, 6207, 14399, 32767, 65535, 131071, 262143, 524287, 524287, 2097151, 4194303, 8388607, 524287, 524287, 50855935, 117964799, 268435455, 536870911, 1073741823] [(0, 56), (1, 57), (2, 58), (3, 59), (4, 60), (5, 61), (6, 62), (7, 63), (8, 64), (9, 65), (10, 66), (11, 67), (12, 68), (13, 69), (14, 70), (15, 71), (16, 72), (17, 73), (18, 74), (19, 75), (20, 76), (21, 77), (22, 78), (23, 79), (24, 80), (25, 81), (26, 82), (27, 83), (28, 84), (29, 85), (30, 86)] [u79, (eN ws80.length), u86, (eN ws87.length), (Value.bool false), (Value.bool false), (sli gs 0 3 3), (eN 1), (ptr gs 3), (Value.agg #[(eN D), (eN B), (eN Q)]), (eN 0), (sli gs 0 3 3), (eN 1), (ptr gs 3), (Value.agg #[(eN D), (eN B), (eN Q)]), (eN 0), (Value.bool false), (Value.bool false), (Value.bool false), (sli gs 0 3 3), (eN 1), (ptr gs 3), (Value.agg #[(eN D), (eN B), (eN Q)]), (eN (D - 2)), (sli gs 0 3 3), (eN 1), (ptr gs 3), (Value.agg #[(eN D), (eN B), (eN Q)]), (eN (D - 2)), (Value.bool false), (Value.bool false)] ([(Value.agg #[(eI gx1), (eI gy1), (eI gz1)]), u1, (eI sp), u2, (ptr g0 0), undef, undef, undef, (z 8), (ptr h0 0), (sli gs 0 3 3), (sli bs 0 3 3), (eN 1), u79, u86, (z 15), (z 16), (Value.bool true), (Value.bool false), u1, (eN bl.length), (Value.bool false), (Value.agg #[(eI gx1), (eI gy1), (eI gz1)]), (Value.agg #[(eN D), (eN B), (eN Q)]), (Value.agg #[(eI gx1), (eI gy1), (eI gz1)]), (Value.agg #[(eN D), (eN B), (eN Q)]), (Value.agg #[(eN D), (eN B), (eN Q)]), (sli gs 0 3 3), u1, u1, (Value.agg #[(eN D), (eN B), (eN Q)]), u2, u32, (sli bs 0 3 3), (eN 1), (Value.bool (decide (1 < 3))), (z 36), (z 37), (sli gs 0 3 3), (eN 1), (ptr gs 3), (Value.agg #[(eN D), (eN B), (eN Q)]), (sli bs 0 3 3), (eN 1), (ptr bs 1), u1, u79, (sli gs 0 3 3), (eN 1), (ptr gs 3), (Value.agg #[(eN D), (eN B), (eN Q)]), (sli bs 0 3 3), (eN 1), (ptr bs 1), u1, u86, u79, (eN ws80.length), u86, (eN ws87.length), (Value.bool false), (Value.bool false), (sli gs 0 3 3), (eN 1), (ptr gs 3), (Value.agg #[(eN D), (eN B), (eN Q)]), (eN 0), (sli gs 0 3 3), (eN 1), (ptr gs 3), (Value.agg #[(eN D), (eN B), (eN Q)]), (eN 0), (Value.bool false), (Value.bool false), (Value.bool false), (sli gs 0 3 3), (eN 1), (ptr gs 3), (Value.agg #[(eN D), (eN B), (eN Q)]), (eN (D - 2)), (sli gs 0 3 3), (eN 1), (ptr gs 3), (Value.agg #[(eN D), (eN B), (eN Q)]), (eN (D - 2)), (Value.bool false), (Value.bool false)] ++ (zs z 87 71)) s_mx (by kernel_rfl) (by kernel_rfl) rfl (by kernel_rfl) (by kernel_rfl) ?_ ?_
    ·
     intro w_ hO_
     refine AllG.cons (gi rfl (d_move rfl)) ?_
     refine AllG.cons (gi rfl (d_lenS rfl Try.underlying47 rfl (f82.step0 hO_))) ?_
     refine AllG.cons (gi rfl (d_move rfl)) ?_
     refine AllG.cons (gi rfl (d_lenS rfl Try.underlying47 rfl (f89.step0 hO_))) ?_
     refine AllG.cons (gi rfl (n_neq (a := ws80.length) (b := ws87.length) rfl rfl (by rw [decide_eq_true (hw81.trans hw88.symm)] <;> rfl))) ?_
     refine AllG.cons (gi rfl (d_move rfl)) ?_
     refine AllG.cons (gi_on rfl rfl rfl (nb rfl) rfl (d_move rfl)) ?_
     refine AllG.cons (gi_on rfl rfl rfl (nb rfl) rfl (d_move rfl)) ?_
     refine AllG.cons (gi_on rfl rfl rfl (nb rfl) rfl (d_index (b := gs) (o := 0) (n := 3) (c := 3) (j := 3) Try.underlying44 s_ti25 rfl (show _ = Value.int _ ((1 : Nat) : Int) from rfl) (by omega) (by omega) (by simp))) ?_
     refine AllG.cons (gi_on rfl rfl rfl (nb rfl) rfl (d_loadAg (vs := [(eN D), (eN B), (eN Q)]) ⟨_, Try.underlying25, rfl⟩ s_ti25 rfl (a28.step0 hO_) rfl rfl)) ?_
     refine AllG.cons (gc_on rfl rfl rfl (nb rfl) rfl (d_call (xl := [.tmp 65]) (al := [(Value.agg #[(eN D), (eN B), (eN Q)])]) Try.func33 (by kernel_rfl) rfl rfl rfl (cw_is (v' := eN 0) (gCheck_ok ((D : Nat) : Int) ((B : Nat) : Int) ((Q : Nat) : Int) _) (by rw [(show fitsI ((D : Nat) : Int) ((B : Nat) : Int) ((Q : Nat) : Int) = true from (fits_is (by omega)).symm)] <;> rfl)))) ?_
     refine AllG.cons (gi_on rfl rfl rfl (nb rfl) rfl (d_move rfl)) ?_
     refine AllG.cons (gi_on rfl rfl rfl (nb rfl) rfl (d_move rfl)) ?_
     refine AllG.cons (gi_on rfl rfl rfl (nb rfl) rfl (d_index (b := gs) (o := 0) (n := 3) (c := 3) (j := 3) Try.underlying44 s_ti25 rfl (show _ = Value.int _ ((1 : Nat) : Int) from rfl) (by omega) (by omega) (by simp))) ?_
     refine AllG.cons (gi_on rfl rfl rfl (nb rfl) rfl (d_loadAg (vs := [(eN D), (eN B), (eN Q)]) ⟨_, Try.underlying25, rfl⟩ s_ti25 rfl (a28.step0 hO_) rfl rfl)) ?_
     refine AllG.cons (gc_on rfl rfl rfl (nb rfl) rfl (d_call (xl := [.tmp 70]) (al := [(Value.agg #[(eN D), (eN B), (eN Q)])]) Try.func34 (by kernel_rfl) rfl rfl rfl (cw_is (v' := eN 0) (ref9Check_ok ((D : Nat) : Int) ((B : Nat) : Int) ((Q : Nat) : Int) _) (by rw [(show fitsI ((D : Nat) : Int) ((B : Nat) : Int) ((Q : Nat) : Int) = true from (fits_is (by omega)).symm)] <;> rfl)))) ?_
     refine AllG.cons (gi_on rfl rfl rfl (nb rfl) rfl (n_neq (a := 0) (b := 0) rfl rfl (by rw [decide_eq_true rfl] <;> rfl))) ?_
     refine AllG.cons (gi rfl (d_pick (b := false) (v := (Value.bool false)) rfl rfl)) ?_
     refine AllG.cons (gi rfl (d_move rfl)) ?_
     refine AllG.cons (gi_on rfl rfl rfl (nb rfl) rfl (d_move rfl)) ?_
     refine AllG.cons (gi_on rfl rfl rfl (nb rfl) rfl (d_move rfl)) ?_
     refine AllG.cons (gi_on rfl rfl rfl (nb rfl) rfl (d_index (b := gs) (o := 0) (n := 3) (c := 3) (j := 3) Try.underlying44 s_ti25 rfl (show _ = Value.int _ ((1 : Nat) : Int) from rfl) (by omega) (by omega) (by simp))) ?_
     refine AllG.cons (gi_on rfl rfl rfl (nb rfl) rfl (d_loadAg (vs := [(eN D), (eN B), (eN Q)]) ⟨_, Try.underlying25, rfl⟩ s_ti25 rfl (a28.step0 hO_) rfl rfl)) ?_
     refine AllG.cons (gc_on rfl rfl rfl (nb rfl) rfl (d_call (xl := [.tmp 78]) (al := [(Value.agg #[(eN D), (eN B), (eN Q)])]) Try.func35 (by kernel_rfl) rfl rfl rfl (cw_is (v' := eN (D - 2)) (gSlots_ok ((D : Nat) : Int) ((B : Nat) : Int) ((Q : Nat) : Int) _) (congrArg eI ((if_pos (show fitsI ((D : Nat) : Int) ((B : Nat) : Int) ((Q : Nat) : Int) = true from (fits_is (by omega)).symm)).trans (by omega)))))) ?_
     refine AllG.cons (gi_on rfl rfl rfl (nb rfl) rfl (d_move rfl)) ?_
     refine AllG.cons (gi_on rfl rfl rfl (nb rfl) rfl (d_move rfl)) ?_
     refine AllG.cons (gi_on rfl rfl rfl (nb rfl) rfl (d_index (b := gs) (o := 0) (n := 3) (c := 3) (j := 3) Try.underlying44 s_ti25 rfl (show _ = Value.int _ ((1 : Nat) : Int) from rfl) (by omega) (by omega) (by simp))) ?_
     refine AllG.cons (gi_on rfl rfl rfl (nb rfl) rfl (d_loadAg (vs := [(eN D), (eN B), (eN Q)]) ⟨_, Try.underlying25, rfl⟩ s_ti25 rfl (a28.step0 hO_) rfl rfl)) ?_
     refine AllG.cons (gc_on rfl rfl rfl (nb rfl) rfl (d_call (xl := [.tmp 83]) (al := [(Value.agg #[(eN D), (eN B), (eN Q)])]) Try.func36 (by kernel_rfl) rfl rfl rfl (cw_is (v' := eN (D - 2)) (ref9Slots_ok ((D : Nat) : Int) ((B : Nat) : Int) ((Q : Nat) : Int) _) (congrArg eI ((if_pos (show fitsI ((D : Nat) : Int) ((B : Nat) : Int) ((Q : Nat) : Int) = true from (fits_is (by omega)).symm)).trans (by omega)))))) ?_
     refine AllG.cons (gi_on rfl rfl rfl (nb rfl) rfl (n_neq (a := (D - 2)) (b := (D - 2)) rfl rfl (by rw [decide_eq_true rfl] <;> rfl))) ?_
     refine AllG.cons (gi rfl (d_pick (b := false) (v := (Value.bool false)) rfl rfl)) ?_
     exact AllG.nil
    intro w91 o92
    replace h1 := h1.step0 o92
    replace h2 := h2.step0 o92
    replace f33 := f33.step0 o92
    replace f82 := f82.step0 o92
    replace g83 := g83.step0 o92
    replace f89 := f89.step0 o92
    replace g90 := g90.step0 o92
    replace a13 := a13.step0 o92
    replace a24 := a24.step0 o92
    replace a28 := a28.step0 o92
    replace a36 := a36.step0 o92
    replace oW := oW.tail0 o92
    replace o38 := o38.tail0 o92
    refine then_n ?_
    refine cond_f rfl ?_
    refine wpIn_skip ?_
    refine then_n ?_
    refine wpIn_seq ?_
    refine wpIn_seq ?_
    refine plain ?_
    refine wI (d_assign rfl) ?_
    refine wF ([(Value.agg #[(eI gx1), (eI gy1), (eI gz1)]), u1, (eI sp), u2, (ptr g0 0), undef, undef, undef, (z 8), (ptr h0 0), (sli gs 0 3 3), (sli bs 0 3 3), (eN 1), u79, u86, (eN 0), (z 16), (Value.bool true), (Value.bool false), u1, (eN bl.length), (Value.bool false), (Value.agg #[(eI gx1), (eI gy1), (eI gz1)]), (Value.agg #[(eN D), (eN B), (eN Q)]), (Value.agg #[(eI gx1), (eI gy1), (eI gz1)]), (Value.agg #[(eN D), (eN B), (eN Q)]), (Value.agg #[(eN D), (eN B), (eN Q)]), (sli gs 0 3 3), u1, u1, (Value.agg #[(eN D), (eN B), (eN Q)]), u2, u32, (sli bs 0 3 3), (eN 1), (Value.bool (decide (1 < 3))), (z 36), (z 37), (sli gs 0 3 3), (eN 1), (ptr gs 3), (Value.agg #[(eN D), (eN B), (eN Q)]), (sli bs 0 3 3), (eN 1), (ptr bs 1), u1, u79, (sli gs 0 3 3), (eN 1), (ptr gs 3), (Value.agg #[(eN D), (eN B), (eN Q)]), (sli bs 0 3 3), (eN 1), (ptr bs 1), u1, u86, u79, (eN ws80.length), u86, (eN ws87.length), (Value.bool false), (Value.bool false), (sli gs 0 3 3), (eN 1), (ptr gs 3), (Value.agg #[(eN D), (eN B), (eN Q)]), (eN 0), (sli gs 0 3 3), (eN 1), (ptr gs 3), (Value.agg #[(eN D), (eN B), (eN Q)]), (eN 0), (Value.bool false), (Value.bool false), (Value.bool false), (sli gs 0 3 3), (eN 1), (ptr gs 3), (Value.agg #[(eN D), (eN B), (eN Q)]), (eN (D - 2)), (sli gs 0 3 3), (eN 1), (ptr gs 3), (Value.agg #[(eN D), (eN B), (eN Q)]), (eN (D - 2)), (Value.bool false), (Value.bool false)] ++ (zs z 87 71)) ?_
    refine wpL.done ?_
    refine then_n ?_
    refine wpIn_block ?_
    refine loop2 (fun (k : (Nat)) => fun (z : Nat → Value) => (([(Value.agg #[(eI gx1), (eI gy1), (eI gz1)]), u1, (eI sp), u2, (ptr g0 0), undef, undef, undef, (z 8), (ptr h0 0), (sli gs 0 3 3), (sli bs 0 3 3), (eN 1), u79, u86, (eN k), (z 16), (Value.bool true), (Value.bool false), u1, (eN bl.length), (Value.bool false), (Value.agg #[(eI gx1), (eI gy1), (eI gz1)]), (Value.agg #[(eN D), (eN B), (eN Q)]), (Value.agg #[(eI gx1), (eI gy1), (eI gz1)]), (Value.agg #[(eN D), (eN B), (eN Q)]), (Value.agg #[(eN D), (eN B), (eN Q)]), (sli gs 0 3 3), u1, u1, (Value.agg #[(eN D), (eN B), (eN Q)]), u2, u32, (sli bs 0 3 3), (eN 1), (Value.bool (decide (1 < 3))), (z 36), (z 37), (sli gs 0 3 3), (eN 1), (ptr gs 3), (Value.agg #[(eN D), (eN B), (eN Q)]), (sli bs 0 3 3), (eN 1), (ptr bs 1), u1, u79, (sli gs 0 3 3), (eN 1), (ptr gs 3), (Value.agg #[(eN D), (eN B), (eN Q)]), (sli bs 0 3 3), (eN 1), (ptr bs 1), u1, u86, u79, (eN ws80.length), u86, (eN ws87.length), (Value.bool false), (Value.bool false), (sli gs 0 3 3), (eN 1), (ptr gs 3), (Value.agg #[(eN D), (eN B), (eN Q)]), (eN 0), (sli gs 0 3 3), (eN 1), (ptr gs 3), (Value.agg #[(eN D), (eN B), (eN Q)]), (eN 0), (Value.bool false), (Value.bool false), (Value.bool false), (sli gs 0 3 3), (eN 1), (ptr gs 3), (Value.agg #[(eN D), (eN B), (eN Q)]), (eN (D - 2)), (sli gs 0 3 3), (eN 1), (ptr gs 3), (Value.agg #[(eN D), (eN B), (eN Q)]), (eN (D - 2)), (Value.bool false), (Value.bool false)] ++ (zs z 87 71)) : List Value)) (fun (k : (Nat)) => fun (w_ : World) => (k ≤ ws80.length) ∧ Only (Or1 bs (Or1 gs (Or1 h0 (Or1 g0 No)))) w91 w_ ∧ Arr 25 g0 [(eI gx1), (eI gy1), (eI gz1)] w_ ∧ Arr 25 h0 [(eN D), (eN B), (eN Q)] w_ ∧ Arr 25 gs [(eI gx1), (eI gy1), (eI gz1), (eN D), (eN B), (eN Q), (eN D), (eN B), (eN Q)] w_ ∧ Arr 42 bs [u1, u1, u32] w_) (fun (k : (Nat)) => ws80.length - k) 0 rfl ?_ ?_
    ·
     refine ⟨?_, ?_, ?_, ?_, ?_, ?_⟩
     ·
      exact Nat.zero_le _
     ·
      exact Only.refl _ _
     ·
      exact a13
     ·
      exact a24
     ·
      exact a28
     ·
      exact a36
    rintro k z w94 ⟨hk, o93, a13, a24, a28, a36⟩
    (try dsimp only)
    replace h1 := h1.step o93 (or1_mono (or1_mono (or1_mono (or1_mono no_any))))
    replace h2 := h2.step o93 (or1_mono (or1_mono (or1_mono (or1_mono no_any))))
    replace f33 := f33.step o93 (or1_mono (or1_mono (or1_mono (or1_mono no_any))))
    replace f82 := f82.step o93 (or1_mono (or1_mono (or1_mono (or1_mono no_any))))
    replace g83 := g83.step o93 (or1_mono (or1_mono (or1_mono (or1_mono no_any))))
    replace f89 := f89.step o93 (or1_mono (or1_mono (or1_mono (or1_mono no_any))))
    replace g90 := g90.step o93 (or1_mono (or1_mono (or1_mono (or1_mono no_any))))
    replace oW := oW.tail o93 (tl_new g_oW_bs (tl_new g_oW_gs (tl_new g_oW_h0 (tl_new g_oW_g0 tl_no))))
    replace o38 := o38.tail o93 (tl_in in1 (tl_in (in2 in1) (tl_in (in2 (in2 in1)) (tl_in (in2 (in2 (in2 in1))) tl_no))))
    refine wpIn_seq ?_
    refine wpIn_seq ?_
    refine plain ?_
    refine wI (d_move rfl) ?_
    refine wI (d_move rfl) ?_
    refine wI (d_lenS rfl Try.underlying47 rfl f82) ?_
    refine wF ([(Value.agg #[(eI gx1), (eI gy1), (eI gz1)]), u1, (eI sp), u2, (ptr g0 0), undef, undef, undef, (z 8), (ptr h0 0), (sli gs 0 3 3), (sli bs 0 3 3), (eN 1), u79, u86, (eN k), (z 16), (Value.bool true), (Value.bool false), u1, (eN bl.length), (Value.bool false), (Value.agg #[(eI gx1), (eI gy1), (eI gz1)]), (Value.agg #[(eN D), (eN B), (eN Q)]), (Value.agg #[(eI gx1), (eI gy1), (eI gz1)]), (Value.agg #[(eN D), (eN B), (eN Q)]), (Value.agg #[(eN D), (eN B), (eN Q)]), (sli gs 0 3 3), u1, u1, (Value.agg #[(eN D), (eN B), (eN Q)]), u2, u32, (sli bs 0 3 3), (eN 1), (Value.bool (decide (1 < 3))), (z 36), (z 37), (sli gs 0 3 3), (eN 1), (ptr gs 3), (Value.agg #[(eN D), (eN B), (eN Q)]), (sli bs 0 3 3), (eN 1), (ptr bs 1), u1, u79, (sli gs 0 3 3), (eN 1), (ptr gs 3), (Value.agg #[(eN D), (eN B), (eN Q)]), (sli bs 0 3 3), (eN 1), (ptr bs 1), u1, u86, u79, (eN ws80.length), u86, (eN ws87.length), (Value.bool false), (Value.bool false), (sli gs 0 3 3), (eN 1), (ptr gs 3), (Value.agg #[(eN D), (eN B), (eN Q)]), (eN 0), (sli gs 0 3 3), (eN 1), (ptr gs 3), (Value.agg #[(eN D), (eN B), (eN Q)]), (eN 0), (Value.bool false), (Value.bool false), (Value.bool false), (sli gs 0 3 3), (eN 1), (ptr gs 3), (Value.agg #[(eN D), (eN B), (eN Q)]), (eN (D - 2)), (sli gs 0 3 3), (eN 1), (ptr gs 3), (Value.agg #[(eN D), (eN B), (eN Q)]), (eN (D - 2)), (Value.bool false), (Value.bool false), (eN k), u79, (eN ws80.length)] ++ (zs z 90 68)) ?_
    refine wI (n_lss (a := k) (b := ws80.length) rfl rfl rfl) ?_
    refine wF ([(Value.agg #[(eI gx1), (eI gy1), (eI gz1)]), u1, (eI sp), u2, (ptr g0 0), undef, undef, undef, (z 8), (ptr h0 0), (sli gs 0 3 3), (sli bs 0 3 3), (eN 1), u79, u86, (eN k), (z 16), (Value.bool true), (Value.bool false), u1, (eN bl.length), (Value.bool false), (Value.agg #[(eI gx1), (eI gy1), (eI gz1)]), (Value.agg #[(eN D), (eN B), (eN Q)]), (Value.agg #[(eI gx1), (eI gy1), (eI gz1)]), (Value.agg #[(eN D), (eN B), (eN Q)]), (Value.agg #[(eN D), (eN B), (eN Q)]), (sli gs 0 3 3), u1, u1, (Value.agg #[(eN D), (eN B), (eN Q)]), u2, u32, (sli bs 0 3 3), (eN 1), (Value.bool (decide (1 < 3))), (z 36), (z 37), (sli gs 0 3 3), (eN 1), (ptr gs 3), (Value.agg #[(eN D), (eN B), (eN Q)]), (sli bs 0 3 3), (eN 1), (ptr bs 1), u1, u79, (sli gs 0 3 3), (eN 1), (ptr gs 3), (Value.agg #[(eN D), (eN B), (eN Q)]), (sli bs 0 3 3), (eN 1), (ptr bs 1), u1, u86, u79, (eN ws80.length), u86, (eN ws87.length), (Value.bool false), (Value.bool false), (sli gs 0 3 3), (eN 1), (ptr gs 3), (Value.agg #[(eN D), (eN B), (eN Q)]), (eN 0), (sli gs 0 3 3), (eN 1), (ptr gs 3), (Value.agg #[(eN D), (eN B), (eN Q)]), (eN 0), (Value.bool false), (Value.bool false), (Value.bool false), (sli gs 0 3 3), (eN 1), (ptr gs 3), (Value.agg #[(eN D), (eN B), (eN Q)]), (eN (D - 2)), (sli gs 0 3 3), (eN 1), (ptr gs 3), (Value.agg #[(eN D), (eN B), (eN Q)]), (eN (D - 2)), (Value.bool false), (Value.bool false), (eN k), u79, (eN ws80.length), (Value.bool (decide (k < ws80.length)))] ++ (zs z 91 67)) ?_
    refine wpL.done ?_
    refine then_n ?_
    refine cond_if rfl (fun c95 => ?_) (fun c95 => ?_)
    ·
     refine wpIn_skip ?_
     refine then_n ?_
     refine wpIn_seq ?_
     refine wpIn_block ?_
     refine wpIn_seq ?_
     refine wpIn_seq ?_
     have hkn : k < nMin bl B D := by omega
     have r96 : Ps (Or1 bs (Or1 gs (Or1 h0 (Or1 g0 (Old W.heap.size))))) (Seq kN (supR bl B D k) (ws80.getD k undef)) w94 := fam_at g83 (by omega)
     have r97 : Ps (Or1 bs (Or1 gs (Or1 h0 (Or1 g0 (Old W.heap.size))))) (Seq kN (supR bl B D k) (ws87.getD k undef)) w94 := fam_at g90 (by omega)
     have hsl := supR_len bl B D k
     refine drawn_pure [0, 0, 3, 7, 15, 0, 0, 96, 224, 480, 1023] [(0, 93), (1, 94), (2, 95), (3, 96), (4, 97), (5, 98), (6, 99), (7, 100), (8, 101), (9, 102), (10, 103)] [u79, (eN k), (ixp u79 k), (ws80.getD k undef), (eN ((supR bl B D k).length)), u86, (eN k), (ixp u86 k), (ws87.getD k undef), (eN ((supR bl B D k).length)), (Value.bool false)] ([(Value.agg #[(eI gx1), (eI gy1), (eI gz1)]), u1, (eI sp), u2, (ptr g0 0), undef, undef, undef, (z 8), (ptr h0 0), (sli gs 0 3 3), (sli bs 0 3 3), (eN 1), u79, u86, (eN k), (z 16), (Value.bool true), (Value.bool false), u1, (eN bl.length), (Value.bool false), (Value.agg #[(eI gx1), (eI gy1), (eI gz1)]), (Value.agg #[(eN D), (eN B), (eN Q)]), (Value.agg #[(eI gx1), (eI gy1), (eI gz1)]), (Value.agg #[(eN D), (eN B), (eN Q)]), (Value.agg #[(eN D), (eN B), (eN Q)]), (sli gs 0 3 3), u1, u1, (Value.agg #[(eN D), (eN B), (eN Q)]), u2, u32, (sli bs 0 3 3), (eN 1), (Value.bool (decide (1 < 3))), (z 36), (z 37), (sli gs 0 3 3), (eN 1), (ptr gs 3), (Value.agg #[(eN D), (eN B), (eN Q)]), (sli bs 0 3 3), (eN 1), (ptr bs 1), u1, u79, (sli gs 0 3 3), (eN 1), (ptr gs 3), (Value.agg #[(eN D), (eN B), (eN Q)]), (sli bs 0 3 3), (eN 1), (ptr bs 1), u1, u86, u79, (eN ws80.length), u86, (eN ws87.length), (Value.bool false), (Value.bool false), (sli gs 0 3 3), (eN 1), (ptr gs 3), (Value.agg #[(eN D), (eN B), (eN Q)]), (eN 0), (sli gs 0 3 3), (eN 1), (ptr gs 3), (Value.agg #[(eN D), (eN B), (eN Q)]), (eN 0), (Value.bool false), (Value.bool false), (Value.bool false), (sli gs 0 3 3), (eN 1), (ptr gs 3), (Value.agg #[(eN D), (eN B), (eN Q)]), (eN (D - 2)), (sli gs 0 3 3), (eN 1), (ptr gs 3), (Value.agg #[(eN D), (eN B), (eN Q)]), (eN (D - 2)), (Value.bool false), (Value.bool false), (eN k), u79, (eN ws80.length), (Value.bool (decide (k < ws80.length))), (z 91), (z 92), u79, (eN k), (ixp u79 k), (ws80.getD k undef), (eN ((supR bl B D k).length)), u86, (eN k), (ixp u86 k), (ws87.getD k undef), (eN ((supR bl B D k).length)), (Value.bool false)] ++ (zs z 104 54)) s_mx (by kernel_rfl) (by kernel_rfl) rfl (by kernel_rfl) (by kernel_rfl) ?_ ?_
     ·
      intro w_ hO_
      refine AllG.cons (gi rfl (d_move rfl)) ?_
      refine AllG.cons (gi rfl (d_move rfl)) ?_
      refine AllG.cons (gi rfl (d_ix (i := k) (xs := ws80) Try.underlying47 s_ti29 rfl (f82.step0 hO_) (show _ = Value.int _ ((k : Nat) : Int) from rfl) (by first | omega | (simp; done) | (simp; omega)))) ?_
      refine AllG.cons (gi rfl (d_ldx (i := k) (xs := ws80) (enc := eV) (v := (ws80.getD k undef)) ⟨_, Try.underlying29, rfl⟩ rfl (f82.step0 hO_) (g_at (by first | omega | (simp; done) | (simp; omega))))) ?_
      refine AllG.cons (gi rfl (d_lenS rfl Try.underlying29 rfl (r96.step0 hO_))) ?_
      refine AllG.cons (gi rfl (d_move rfl)) ?_
      refine AllG.cons (gi rfl (d_move rfl)) ?_
      refine AllG.cons (gi rfl (d_ix (i := k) (xs := ws87) Try.underlying47 s_ti29 rfl (f89.step0 hO_) (show _ = Value.int _ ((k : Nat) : Int) from rfl) (by first | omega | (simp; done) | (simp; omega)))) ?_
      refine AllG.cons (gi rfl (d_ldx (i := k) (xs := ws87) (enc := eV) (v := (ws87.getD k undef)) ⟨_, Try.underlying29, rfl⟩ rfl (f89.step0 hO_) (g_at (by first | omega | (simp; done) | (simp; omega))))) ?_
      refine AllG.cons (gi rfl (d_lenS rfl Try.underlying29 rfl (r97.step0 hO_))) ?_
      refine AllG.cons (gi rfl (n_neq (a := ((supR bl B D k).length)) (b := ((supR bl B D k).length)) rfl rfl (by rw [decide_eq_true rfl] <;> rfl))) ?_
      exact AllG.nil
     intro w98 o99
     replace h1 := h1.step0 o99
     replace h2 := h2.step0 o99
     replace f33 := f33.step0 o99
     replace f82 := f82.step0 o99
     replace g83 := g83.step0 o99
     replace f89 := f89.step0 o99
     replace g90 := g90.step0 o99
     replace r96 := r96.step0 o99
     replace r97 := r97.step0 o99
     replace a13 := a13.step0 o99
     replace a24 := a24.step0 o99
     replace a28 := a28.step0 o99
     replace a36 := a36.step0 o99
     replace oW := oW.tail0 o99
     replace o38 := o38.tail0 o99
     replace o93 := o93.tail0 o99
     refine then_n ?_
     refine cond_f rfl ?_
     refine wpIn_skip ?_
     refine then_n ?_
     refine wpIn_seq ?_
     refine plain ?_
     refine wI (d_assign rfl) ?_
     refine wF ([(Value.agg #[(eI gx1), (eI gy1), (eI gz1)]), u1, (eI sp), u2, (ptr g0 0), undef, undef, undef, (z 8), (ptr h0 0), (sli gs 0 3 3), (sli bs 0 3 3), (eN 1), u79, u86, (eN k), (eN 0), (Value.bool true), (Value.bool false), u1, (eN bl.length), (Value.bool false), (Value.agg #[(eI gx1), (eI gy1), (eI gz1)]), (Value.agg #[(eN D), (eN B), (eN Q)]), (Value.agg #[(eI gx1), (eI gy1), (eI gz1)]), (Value.agg #[(eN D), (eN B), (eN Q)]), (Value.agg #[(eN D), (eN B), (eN Q)]), (sli gs 0 3 3), u1, u1, (Value.agg #[(eN D), (eN B), (eN Q)]), u2, u32, (sli bs 0 3 3), (eN 1), (Value.bool (decide (1 < 3))), (z 36), (z 37), (sli gs 0 3 3), (eN 1), (ptr gs 3), (Value.agg #[(eN D), (eN B), (eN Q)]), (sli bs 0 3 3), (eN 1), (ptr bs 1), u1, u79, (sli gs 0 3 3), (eN 1), (ptr gs 3), (Value.agg #[(eN D), (eN B), (eN Q)]), (sli bs 0 3 3), (eN 1), (ptr bs 1), u1, u86, u79, (eN ws80.length), u86, (eN ws87.length), (Value.bool false), (Value.bool false), (sli gs 0 3 3), (eN 1), (ptr gs 3), (Value.agg #[(eN D), (eN B), (eN Q)]), (eN 0), (sli gs 0 3 3), (eN 1), (ptr gs 3), (Value.agg #[(eN D), (eN B), (eN Q)]), (eN 0), (Value.bool false), (Value.bool false), (Value.bool false), (sli gs 0 3 3), (eN 1), (ptr gs 3), (Value.agg #[(eN D), (eN B), (eN Q)]), (eN (D - 2)), (sli gs 0 3 3), (eN 1), (ptr gs 3), (Value.agg #[(eN D), (eN B), (eN Q)]), (eN (D - 2)), (Value.bool false), (Value.bool false), (eN k), u79, (eN ws80.length), (Value.bool (decide (k < ws80.length))), (z 91), (z 92), u79, (eN k), (ixp u79 k), (ws80.getD k undef), (eN ((supR bl B D k).length)), u86, (eN k), (ixp u86 k), (ws87.getD k undef), (eN ((supR bl B D k).length)), (Value.bool false)] ++ (zs z 104 54)) ?_
     refine wpL.done ?_
     refine then_n ?_
     refine wpIn_block ?_
     refine loop2 (fun (d : (Nat)) => fun (z : Nat → Value) => (([(Value.agg #[(eI gx1), (eI gy1), (eI gz1)]), u1, (eI sp), u2, (ptr g0 0), undef, undef, undef, (z 8), (ptr h0 0), (sli gs 0 3 3), (sli bs 0 3 3), (eN 1), u79, u86, (eN k), (eN d), (Value.bool true), (Value.bool false), u1, (eN bl.length), (Value.bool false), (Value.agg #[(eI gx1), (eI gy1), (eI gz1)]), (Value.agg #[(eN D), (eN B), (eN Q)]), (Value.agg #[(eI gx1), (eI gy1), (eI gz1)]), (Value.agg #[(eN D), (eN B), (eN Q)]), (Value.agg #[(eN D), (eN B), (eN Q)]), (sli gs 0 3 3), u1, u1, (Value.agg #[(eN D), (eN B), (eN Q)]), u2, u32, (sli bs 0 3 3), (eN 1), (Value.bool (decide (1 < 3))), (z 36), (z 37), (sli gs 0 3 3), (eN 1), (ptr gs 3), (Value.agg #[(eN D), (eN B), (eN Q)]), (sli bs 0 3 3), (eN 1), (ptr bs 1), u1, u79, (sli gs 0 3 3), (eN 1), (ptr gs 3), (Value.agg #[(eN D), (eN B), (eN Q)]), (sli bs 0 3 3), (eN 1), (ptr bs 1), u1, u86, u79, (eN ws80.length), u86, (eN ws87.length), (Value.bool false), (Value.bool false), (sli gs 0 3 3), (eN 1), (ptr gs 3), (Value.agg #[(eN D), (eN B), (eN Q)]), (eN 0), (sli gs 0 3 3), (eN 1), (ptr gs 3), (Value.agg #[(eN D), (eN B), (eN Q)]), (eN 0), (Value.bool false), (Value.bool false), (Value.bool false), (sli gs 0 3 3), (eN 1), (ptr gs 3), (Value.agg #[(eN D), (eN B), (eN Q)]), (eN (D - 2)), (sli gs 0 3 3), (eN 1), (ptr gs 3), (Value.agg #[(eN D), (eN B), (eN Q)]), (eN (D - 2)), (Value.bool false), (Value.bool false), (eN k), u79, (eN ws80.length), (Value.bool (decide (k < ws80.length))), (z 91), (z 92), u79, (eN k), (ixp u79 k), (ws80.getD k undef), (eN ((supR bl B D k).length)), u86, (eN k), (ixp u86 k), (ws87.getD k undef), (eN ((supR bl B D k).length)), (Value.bool false)] ++ (zs z 104 54)) : List Value)) (fun (d : (Nat)) => fun (w_ : World) => (d ≤ D) ∧ Only (Or1 bs (Or1 gs (Or1 h0 (Or1 g0 No)))) w98 w_ ∧ Arr 25 g0 [(eI gx1), (eI gy1), (eI gz1)] w_ ∧ Arr 25 h0 [(eN D), (eN B), (eN Q)] w_ ∧ Arr 25 gs [(eI gx1), (eI gy1), (eI gz1), (eN D), (eN B), (eN Q), (eN D), (eN B), (eN Q)] w_ ∧ Arr 42 bs [u1, u1, u32] w_) (fun (d : (Nat)) => D - d) 0 rfl ?_ ?_
     ·
      refine ⟨?_, ?_, ?_, ?_, ?_, ?_⟩
      ·
       exact Nat.zero_le _
      ·
       exact Only.refl _ _
      ·
       exact a13
      ·
       exact a24
      ·
       exact a28
      ·
       exact a36
     rintro d z w101 ⟨hd, o100, a13, a24, a28, a36⟩
     (try dsimp only)
     replace h1 := h1.step o100 (or1_mono (or1_mono (or1_mono (or1_mono no_any))))
     replace h2 := h2.step o100 (or1_mono (or1_mono (or1_mono (or1_mono no_any))))
     replace f33 := f33.step o100 (or1_mono (or1_mono (or1_mono (or1_mono no_any))))
     replace f82 := f82.step o100 (or1_mono (or1_mono (or1_mono (or1_mono no_any))))
     replace g83 := g83.step o100 (or1_mono (or1_mono (or1_mono (or1_mono no_any))))
     replace f89 := f89.step o100 (or1_mono (or1_mono (or1_mono (or1_mono no_any))))
     replace g90 := g90.step o100 (or1_mono (or1_mono (or1_mono (or1_mono no_any))))
     replace r96 := r96.step o100 (or1_mono (or1_mono (or1_mono (or1_mono no_any))))
     replace r97 := r97.step o100 (or1_mono (or1_mono (or1_mono (or1_mono no_any))))
     replace oW := oW.tail o100 (tl_new g_oW_bs (tl_new g_oW_gs (tl_new g_oW_h0 (tl_new g_oW_g0 tl_no))))
     replace o38 := o38.tail o100 (tl_in in1 (tl_in (in2 in1) (tl_in (in2 (in2 in1)) (tl_in (in2 (in2 (in2 in1))) tl_no))))
     replace o93 := o93.tail o100 (tl_in in1 (tl_in (in2 in1) (tl_in (in2 (in2 in1)) (tl_in (in2 (in2 (in2 in1))) tl_no))))
     refine wpIn_seq ?_
     refine wpIn_seq ?_
     refine plain ?_
     refine wI (d_move rfl) ?_
     refine wI (d_move rfl) ?_
     refine wI (d_move rfl) ?_
     refine wF ([(Value.agg #[(eI gx1), (eI gy1), (eI gz1)]), u1, (eI sp), u2, (ptr g0 0), undef, undef, undef, (z 8), (ptr h0 0), (sli gs 0 3 3), (sli bs 0 3 3), (eN 1), u79, u86, (eN k), (eN d), (Value.bool true), (Value.bool false), u1, (eN bl.length), (Value.bool false), (Value.agg #[(eI gx1), (eI gy1), (eI gz1)]), (Value.agg #[(eN D), (eN B), (eN Q)]), (Value.agg #[(eI gx1), (eI gy1), (eI gz1)]), (Value.agg #[(eN D), (eN B), (eN Q)]), (Value.agg #[(eN D), (eN B), (eN Q)]), (sli gs 0 3 3), u1, u1, (Value.agg #[(eN D), (eN B), (eN Q)]), u2, u32, (sli bs 0 3 3), (eN 1), (Value.bool (decide (1 < 3))), (z 36), (z 37), (sli gs 0 3 3), (eN 1), (ptr gs 3), (Value.agg #[(eN D), (eN B), (eN Q)]), (sli bs 0 3 3), (eN 1), (ptr bs 1), u1, u79, (sli gs 0 3 3), (eN 1), (ptr gs 3), (Value.agg #[(eN D), (eN B), (eN Q)]), (sli bs 0 3 3), (eN 1), (ptr bs 1), u1, u86, u79, (eN ws80.length), u86, (eN ws87.length), (Value.bool false), (Value.bool false), (sli gs 0 3 3), (eN 1), (ptr gs 3), (Value.agg #[(eN D), (eN B), (eN Q)]), (eN 0), (sli gs 0 3 3), (eN 1), (ptr gs 3), (Value.agg #[(eN D), (eN B), (eN Q)]), (eN 0), (Value.bool false), (Value.bool false), (Value.bool false), (sli gs 0 3 3), (eN 1), (ptr gs 3), (Value.agg #[(eN D), (eN B), (eN Q)]), (eN (D - 2)), (sli gs 0 3 3), (eN 1), (ptr gs 3), (Value.agg #[(eN D), (eN B), (eN Q)]), (eN (D - 2)), (Value.bool false), (Value.bool false), (eN k), u79, (eN ws80.length), (Value.bool (decide (k < ws80.length))), (z 91), (z 92), u79, (eN k), (ixp u79 k), (ws80.getD k undef), (eN ((supR bl B D k).length)), u86, (eN k), (ixp u86 k), (ws87.getD k undef), (eN ((supR bl B D k).length)), (Value.bool false), (eN d), u79, (eN k)] ++ (zs z 107 51)) ?_
     refine wI (d_ix (i := k) (xs := ws80) Try.underlying47 s_ti29 rfl f82 (show _ = Value.int _ ((k : Nat) : Int) from rfl) (by first | omega | (simp; done) | (simp; omega))) ?_
     refine wI (d_ldx (i := k) (xs := ws80) (enc := eV) (v := (ws80.getD k undef)) ⟨_, Try.underlying29, rfl⟩ rfl f82 (g_at (by first | omega | (simp; done) | (simp; omega)))) ?_
     refine wI (d_lenS rfl Try.underlying29 rfl r96) ?_
     refine wF ([(Value.agg #[(eI gx1), (eI gy1), (eI gz1)]), u1, (eI sp), u2, (ptr g0 0), undef, undef, undef, (z 8), (ptr h0 0), (sli gs 0 3 3), (sli bs 0 3 3), (eN 1), u79, u86, (eN k), (eN d), (Value.bool true), (Value.bool false), u1, (eN bl.length), (Value.bool false), (Value.agg #[(eI gx1), (eI gy1), (eI gz1)]), (Value.agg #[(eN D), (eN B), (eN Q)]), (Value.agg #[(eI gx1), (eI gy1), (eI gz1)]), (Value.agg #[(eN D), (eN B), (eN Q)]), (Value.agg #[(eN D), (eN B), (eN Q)]), (sli gs 0 3 3), u1, u1, (Value.agg #[(eN D), (eN B), (eN Q)]), u2, u32, (sli bs 0 3 3), (eN 1), (Value.bool (decide (1 < 3))), (z 36), (z 37), (sli gs 0 3 3), (eN 1), (ptr gs 3), (Value.agg #[(eN D), (eN B), (eN Q)]), (sli bs 0 3 3), (eN 1), (ptr bs 1), u1, u79, (sli gs 0 3 3), (eN 1), (ptr gs 3), (Value.agg #[(eN D), (eN B), (eN Q)]), (sli bs 0 3 3), (eN 1), (ptr bs 1), u1, u86, u79, (eN ws80.length), u86, (eN ws87.length), (Value.bool false), (Value.bool false), (sli gs 0 3 3), (eN 1), (ptr gs 3), (Value.agg #[(eN D), (eN B), (eN Q)]), (eN 0), (sli gs 0 3 3), (eN 1), (ptr gs 3), (Value.agg #[(eN D), (eN B), (eN Q)]), (eN 0), (Value.bool false), (Value.bool false), (Value.bool false), (sli gs 0 3 3), (eN 1), (ptr gs 3), (Value.agg #[(eN D), (eN B), (eN Q)]), (eN (D - 2)), (sli gs 0 3 3), (eN 1), (ptr gs 3), (Value.agg #[(eN D), (eN B), (eN Q)]), (eN (D - 2)), (Value.bool false), (Value.bool false), (eN k), u79, (eN ws80.length), (Value.bool (decide (k < ws80.length))), (z 91), (z 92), u79, (eN k), (ixp u79 k), (ws80.getD k undef), (eN ((supR bl B D k).length)), u86, (eN k), (ixp u86 k), (ws87.getD k undef), (eN ((supR bl B D k).length)), (Value.bool false), (eN d), u79, (eN k), (ixp u79 k), (ws80.getD k undef), (eN ((supR bl B D k).length))] ++ (zs z 110 48)) ?_
     refine wI (n_lss (a := d) (b := ((supR bl B D k).length)) rfl rfl rfl) ?_
     refine wF ([(Value.agg #[(eI gx1), (eI gy1), (eI gz1)]), u1, (eI sp), u2, (ptr g0 0), undef, undef, undef, (z 8), (ptr h0 0), (sli gs 0 3 3), (sli bs 0 3 3), (eN 1), u79, u86, (eN k), (eN d), (Value.bool true), (Value.bool false), u1, (eN bl.length), (Value.bool false), (Value.agg #[(eI gx1), (eI gy1), (eI gz1)]), (Value.agg #[(eN D), (eN B), (eN Q)]), (Value.agg #[(eI gx1), (eI gy1), (eI gz1)]), (Value.agg #[(eN D), (eN B), (eN Q)]), (Value.agg #[(eN D), (eN B), (eN Q)]), (sli gs 0 3 3), u1, u1, (Value.agg #[(eN D), (eN B), (eN Q)]), u2, u32, (sli bs 0 3 3), (eN 1), (Value.bool (decide (1 < 3))), (z 36), (z 37), (sli gs 0 3 3), (eN 1), (ptr gs 3), (Value.agg #[(eN D), (eN B), (eN Q)]), (sli bs 0 3 3), (eN 1), (ptr bs 1), u1, u79, (sli gs 0 3 3), (eN 1), (ptr gs 3), (Value.agg #[(eN D), (eN B), (eN Q)]), (sli bs 0 3 3), (eN 1), (ptr bs 1), u1, u86, u79, (eN ws80.length), u86, (eN ws87.length), (Value.bool false), (Value.bool false), (sli gs 0 3 3), (eN 1), (ptr gs 3), (Value.agg #[(eN D), (eN B), (eN Q)]), (eN 0), (sli gs 0 3 3), (eN 1), (ptr gs 3), (Value.agg #[(eN D), (eN B), (eN Q)]), (eN 0), (Value.bool false), (Value.bool false), (Value.bool false), (sli gs 0 3 3), (eN 1), (ptr gs 3), (Value.agg #[(eN D), (eN B), (eN Q)]), (eN (D - 2)), (sli gs 0 3 3), (eN 1), (ptr gs 3), (Value.agg #[(eN D), (eN B), (eN Q)]), (eN (D - 2)), (Value.bool false), (Value.bool false), (eN k), u79, (eN ws80.length), (Value.bool (decide (k < ws80.length))), (z 91), (z 92), u79, (eN k), (ixp u79 k), (ws80.getD k undef), (eN ((supR bl B D k).length)), u86, (eN k), (ixp u86 k), (ws87.getD k undef), (eN ((supR bl B D k).length)), (Value.bool false), (eN d), u79, (eN k), (ixp u79 k), (ws80.getD k undef), (eN ((supR bl B D k).length)), (Value.bool (decide (d < ((supR bl B D k).length))))] ++ (zs z 111 47)) ?_
     refine wpL.done ?_
     refine then_n ?_
     refine cond_if rfl (fun c102 => ?_) (fun c102 => ?_)
     ·
      refine wpIn_skip ?_
      refine then_n ?_
      refine wpIn_seq ?_
      refine wpIn_block ?_
      refine wpIn_seq ?_
      refine drawn_pure [0, 0, 3, 7, 0, 31, 63, 0, 0, 384, 896, 0, 3968, 8064, 16383] [(0, 113), (1, 114), (2, 115), (3, 116), (4, 117), (5, 118), (6, 119), (7, 120), (8, 121), (9, 122), (10, 123), (11, 124), (12, 125), (13, 126), (14, 127)] [u79, (eN k), (ixp u79 k), (ws80.getD k undef), (eN d), (ixp (ws80.getD k undef) d), (eN ((supR bl B D k).getD d 0)), u86, (eN k), (ixp u86 k), (ws87.getD k undef), (eN d), (ixp (ws87.getD k undef) d), (eN ((supR bl B D k).getD d 0)), (Value.bool false)] ([(Value.agg #[(eI gx1), (eI gy1), (eI gz1)]), u1, (eI sp), u2, (ptr g0 0), undef, undef, undef, (z 8), (ptr h0 0), (sli gs 0 3 3), (sli bs 0 3 3), (eN 1), u79, u86, (eN k), (eN d), (Value.bool true), (Value.bool false), u1, (eN bl.length), (Value.bool false), (Value.agg #[(eI gx1), (eI gy1), (eI gz1)]), (Value.agg #[(eN D), (eN B), (eN Q)]), (Value.agg #[(eI gx1), (eI gy1), (eI gz1)]), (Value.agg #[(eN D), (eN B), (eN Q)]), (Value.agg #[(eN D), (eN B), (eN Q)]), (sli gs 0 3 3), u1, u1, (Value.agg #[(eN D), (eN B), (eN Q)]), u2, u32, (sli bs 0 3 3), (eN 1), (Value.bool (decide (1 < 3))), (z 36), (z 37), (sli gs 0 3 3), (eN 1), (ptr gs 3), (Value.agg #[(eN D), (eN B), (eN Q)]), (sli bs 0 3 3), (eN 1), (ptr bs 1), u1, u79, (sli gs 0 3 3), (eN 1), (ptr gs 3), (Value.agg #[(eN D), (eN B), (eN Q)]), (sli bs 0 3 3), (eN 1), (ptr bs 1), u1, u86, u79, (eN ws80.length), u86, (eN ws87.length), (Value.bool false), (Value.bool false), (sli gs 0 3 3), (eN 1), (ptr gs 3), (Value.agg #[(eN D), (eN B), (eN Q)]), (eN 0), (sli gs 0 3 3), (eN 1), (ptr gs 3), (Value.agg #[(eN D), (eN B), (eN Q)]), (eN 0), (Value.bool false), (Value.bool false), (Value.bool false), (sli gs 0 3 3), (eN 1), (ptr gs 3), (Value.agg #[(eN D), (eN B), (eN Q)]), (eN (D - 2)), (sli gs 0 3 3), (eN 1), (ptr gs 3), (Value.agg #[(eN D), (eN B), (eN Q)]), (eN (D - 2)), (Value.bool false), (Value.bool false), (eN k), u79, (eN ws80.length), (Value.bool (decide (k < ws80.length))), (z 91), (z 92), u79, (eN k), (ixp u79 k), (ws80.getD k undef), (eN ((supR bl B D k).length)), u86, (eN k), (ixp u86 k), (ws87.getD k undef), (eN ((supR bl B D k).length)), (Value.bool false), (eN d), u79, (eN k), (ixp u79 k), (ws80.getD k undef), (eN ((supR bl B D k).length)), (Value.bool (decide (d < ((supR bl B D k).length)))), (z 111), (z 112), u79, (eN k), (ixp u79 k), (ws80.getD k undef), (eN d), (ixp (ws80.getD k undef) d), (eN ((supR bl B D k).getD d 0)), u86, (eN k), (ixp u86 k), (ws87.getD k undef), (eN d), (ixp (ws87.getD k undef) d), (eN ((supR bl B D k).getD d 0)), (Value.bool false)] ++ (zs z 128 30)) s_mx (by kernel_rfl) (by kernel_rfl) rfl (by kernel_rfl) (by kernel_rfl) ?_ ?_
      ·
       intro w_ hO_
       refine AllG.cons (gi rfl (d_move rfl)) ?_
       refine AllG.cons (gi rfl (d_move rfl)) ?_
       refine AllG.cons (gi rfl (d_ix (i := k) (xs := ws80) Try.underlying47 s_ti29 rfl (f82.step0 hO_) (show _ = Value.int _ ((k : Nat) : Int) from rfl) (by first | omega | (simp; done) | (simp; omega)))) ?_
       refine AllG.cons (gi rfl (d_ldx (i := k) (xs := ws80) (enc := eV) (v := (ws80.getD k undef)) ⟨_, Try.underlying29, rfl⟩ rfl (f82.step0 hO_) (g_at (by first | omega | (simp; done) | (simp; omega))))) ?_
       refine AllG.cons (gi rfl (d_move rfl)) ?_
       refine AllG.cons (gi rfl (d_ix (i := d) (xs := (supR bl B D k)) Try.underlying29 s_ti3 rfl (r96.step0 hO_) (show _ = Value.int _ ((d : Nat) : Int) from rfl) (by have := supR_len bl B D k; first | omega | (simp; done) | (simp; omega)))) ?_
       refine AllG.cons (gi rfl (d_ldx (i := d) (xs := (supR bl B D k)) (enc := eN) (v := ((supR bl B D k).getD d 0)) ⟨_, Try.underlying3, rfl⟩ rfl (r96.step0 hO_) (g_at (by have := supR_len bl B D k; first | omega | (simp; done) | (simp; omega))))) ?_
       refine AllG.cons (gi rfl (d_move rfl)) ?_
       refine AllG.cons (gi rfl (d_move rfl)) ?_
       refine AllG.cons (gi rfl (d_ix (i := k) (xs := ws87) Try.underlying47 s_ti29 rfl (f89.step0 hO_) (show _ = Value.int _ ((k : Nat) : Int) from rfl) (by first | omega | (simp; done) | (simp; omega)))) ?_
       refine AllG.cons (gi rfl (d_ldx (i := k) (xs := ws87) (enc := eV) (v := (ws87.getD k undef)) ⟨_, Try.underlying29, rfl⟩ rfl (f89.step0 hO_) (g_at (by first | omega | (simp; done) | (simp; omega))))) ?_
       refine AllG.cons (gi rfl (d_move rfl)) ?_
       refine AllG.cons (gi rfl (d_ix (i := d) (xs := (supR bl B D k)) Try.underlying29 s_ti3 rfl (r97.step0 hO_) (show _ = Value.int _ ((d : Nat) : Int) from rfl) (by have := supR_len bl B D k; first | omega | (simp; done) | (simp; omega)))) ?_
       refine AllG.cons (gi rfl (d_ldx (i := d) (xs := (supR bl B D k)) (enc := eN) (v := ((supR bl B D k).getD d 0)) ⟨_, Try.underlying3, rfl⟩ rfl (r97.step0 hO_) (g_at (by have := supR_len bl B D k; first | omega | (simp; done) | (simp; omega))))) ?_
       refine AllG.cons (gi rfl (n_neq (a := ((supR bl B D k).getD d 0)) (b := ((supR bl B D k).getD d 0)) rfl rfl (by rw [decide_eq_true rfl] <;> rfl))) ?_
       exact AllG.nil
      intro w103 o104
      replace h1 := h1.step0 o104
      replace h2 := h2.step0 o104
      replace f33 := f33.step0 o104
      replace f82 := f82.step0 o104
      replace g83 := g83.step0 o104
      replace f89 := f89.step0 o104
      replace g90 := g90.step0 o104
      replace r96 := r96.step0 o104
      replace r97 := r97.step0 o104
      replace a13 := a13.step0 o104
      replace a24 := a24.step0 o104
      replace a28 := a28.step0 o104
      replace a36 := a36.step0 o104
      replace oW := oW.tail0 o104
      replace o38 := o38.tail0 o104
      replace o93 := o93.tail0 o104
      replace o100 := o100.tail0 o104
      refine then_n ?_
      refine cond_f rfl ?_
      refine wpIn_skip ?_
      refine inb_n (then_n ?_)
      refine plain ?_
      refine wI (d_move rfl) ?_
      refine wI (n_add (a := d) (b := 1) rfl rfl (by omega)) ?_
      refine wI (d_assign rfl) ?_
      refine wF ([(Value.agg #[(eI gx1), (eI gy1), (eI gz1)]), u1, (eI sp), u2, (ptr g0 0), undef, undef, undef, (z 8), (ptr h0 0), (sli gs 0 3 3), (sli bs 0 3 3), (eN 1), u79, u86, (eN k), (eN (d + 1)), (Value.bool true), (Value.bool false), u1, (eN bl.length), (Value.bool false), (Value.agg #[(eI gx1), (eI gy1), (eI gz1)]), (Value.agg #[(eN D), (eN B), (eN Q)]), (Value.agg #[(eI gx1), (eI gy1), (eI gz1)]), (Value.agg #[(eN D), (eN B), (eN Q)]), (Value.agg #[(eN D), (eN B), (eN Q)]), (sli gs 0 3 3), u1, u1, (Value.agg #[(eN D), (eN B), (eN Q)]), u2, u32, (sli bs 0 3 3), (eN 1), (Value.bool (decide (1 < 3))), (z 36), (z 37), (sli gs 0 3 3), (eN 1), (ptr gs 3), (Value.agg #[(eN D), (eN B), (eN Q)]), (sli bs 0 3 3), (eN 1), (ptr bs 1), u1, u79, (sli gs 0 3 3), (eN 1), (ptr gs 3), (Value.agg #[(eN D), (eN B), (eN Q)]), (sli bs 0 3 3), (eN 1), (ptr bs 1), u1, u86, u79, (eN ws80.length), u86, (eN ws87.length), (Value.bool false), (Value.bool false), (sli gs 0 3 3), (eN 1), (ptr gs 3), (Value.agg #[(eN D), (eN B), (eN Q)]), (eN 0), (sli gs 0 3 3), (eN 1), (ptr gs 3), (Value.agg #[(eN D), (eN B), (eN Q)]), (eN 0), (Value.bool false), (Value.bool false), (Value.bool false), (sli gs 0 3 3), (eN 1), (ptr gs 3), (Value.agg #[(eN D), (eN B), (eN Q)]), (eN (D - 2)), (sli gs 0 3 3), (eN 1), (ptr gs 3), (Value.agg #[(eN D), (eN B), (eN Q)]), (eN (D - 2)), (Value.bool false), (Value.bool false), (eN k), u79, (eN ws80.length), (Value.bool (decide (k < ws80.length))), (z 91), (z 92), u79, (eN k), (ixp u79 k), (ws80.getD k undef), (eN ((supR bl B D k).length)), u86, (eN k), (ixp u86 k), (ws87.getD k undef), (eN ((supR bl B D k).length)), (Value.bool false), (eN d), u79, (eN k), (ixp u79 k), (ws80.getD k undef), (eN ((supR bl B D k).length)), (Value.bool (decide (d < ((supR bl B D k).length)))), (eN d), (eN (d + 1)), u79, (eN k), (ixp u79 k), (ws80.getD k undef), (eN d), (ixp (ws80.getD k undef) d), (eN ((supR bl B D k).getD d 0)), u86, (eN k), (ixp u86 k), (ws87.getD k undef), (eN d), (ixp (ws87.getD k undef) d), (eN ((supR bl B D k).getD d 0)), (Value.bool false)] ++ (zs z 128 30)) ?_
      refine wpL.done ?_
      refine then_n ?_
      refine ⟨_, (d + 1), rfl, rfl, ⟨?_, ?_, ?_, ?_, ?_, ?_⟩, ?_⟩
      ·
       (try dsimp only)
       all_goals (omega)
      ·
       exact o100
      ·
       exact a13
      ·
       exact a24
      ·
       exact a28
      ·
       exact a36
      ·
       (try dsimp only)
       all_goals (omega)
     refine wpIn_exit ?_
     refine then_x (then_x (inb_e ?_))
     refine inb_n (then_n ?_)
     refine plain ?_
     refine wI (d_move rfl) ?_
     refine wI (n_add (a := k) (b := 1) rfl rfl (by omega)) ?_
     refine wI (d_assign rfl) ?_
     refine wF ([(Value.agg #[(eI gx1), (eI gy1), (eI gz1)]), u1, (eI sp), u2, (ptr g0 0), undef, undef, undef, (z 8), (ptr h0 0), (sli gs 0 3 3), (sli bs 0 3 3), (eN 1), u79, u86, (eN (k + 1)), (eN d), (Value.bool true), (Value.bool false), u1, (eN bl.length), (Value.bool false), (Value.agg #[(eI gx1), (eI gy1), (eI gz1)]), (Value.agg #[(eN D), (eN B), (eN Q)]), (Value.agg #[(eI gx1), (eI gy1), (eI gz1)]), (Value.agg #[(eN D), (eN B), (eN Q)]), (Value.agg #[(eN D), (eN B), (eN Q)]), (sli gs 0 3 3), u1, u1, (Value.agg #[(eN D), (eN B), (eN Q)]), u2, u32, (sli bs 0 3 3), (eN 1), (Value.bool (decide (1 < 3))), (z 36), (z 37), (sli gs 0 3 3), (eN 1), (ptr gs 3), (Value.agg #[(eN D), (eN B), (eN Q)]), (sli bs 0 3 3), (eN 1), (ptr bs 1), u1, u79, (sli gs 0 3 3), (eN 1), (ptr gs 3), (Value.agg #[(eN D), (eN B), (eN Q)]), (sli bs 0 3 3), (eN 1), (ptr bs 1), u1, u86, u79, (eN ws80.length), u86, (eN ws87.length), (Value.bool false), (Value.bool false), (sli gs 0 3 3), (eN 1), (ptr gs 3), (Value.agg #[(eN D), (eN B), (eN Q)]), (eN 0), (sli gs 0 3 3), (eN 1), (ptr gs 3), (Value.agg #[(eN D), (eN B), (eN Q)]), (eN 0), (Value.bool false), (Value.bool false), (Value.bool false), (sli gs 0 3 3), (eN 1), (ptr gs 3), (Value.agg #[(eN D), (eN B), (eN Q)]), (eN (D - 2)), (sli gs 0 3 3), (eN 1), (ptr gs 3), (Value.agg #[(eN D), (eN B), (eN Q)]), (eN (D - 2)), (Value.bool false), (Value.bool false), (eN k), u79, (eN ws80.length), (Value.bool (decide (k < ws80.length))), (eN k), (eN (k + 1)), u79, (eN k), (ixp u79 k), (ws80.getD k undef), (eN ((supR bl B D k).length)), u86, (eN k), (ixp u86 k), (ws87.getD k undef), (eN ((supR bl B D k).length)), (Value.bool false), (eN d), u79, (eN k), (ixp u79 k), (ws80.getD k undef), (eN ((supR bl B D k).length)), (Value.bool (decide (d < ((supR bl B D k).length))))] ++ (zs z 111 47)) ?_
     refine wpL.done ?_
     refine then_n ?_
     refine ⟨_, (k + 1), rfl, rfl, ⟨?_, ?_, ?_, ?_, ?_, ?_⟩, ?_⟩
     ·
      (try dsimp only)
      all_goals (omega)
     ·
      exact o93
     ·
      exact a13
     ·
      exact a24
     ·
      exact a28
     ·
      exact a36
     ·
      (try dsimp only)
      all_goals (omega)
    refine wpIn_exit ?_
    refine then_x (then_x (inb_e ?_))
    refine then_n ?_
    refine wpIn_seq ?_
    refine drawn_pure [0, 0, 3, 7, 0, 31, 0, 0, 192, 448, 0, 2047, 4095, 8191, 16383, 16383, 65535, 131071, 16383, 278527, 1048575, 16383, 16383, 6307839, 14696447, 16383, 35651583, 134217727, 268435455, 536870911] [(0, 128), (1, 129), (2, 130), (3, 131), (4, 132), (5, 133), (6, 134), (7, 135), (8, 136), (9, 137), (10, 138), (11, 139), (12, 140), (13, 141), (14, 142), (15, 143), (16, 144), (17, 145), (18, 146), (19, 147), (20, 148), (21, 149), (22, 150), (23, 151), (24, 152), (25, 153), (26, 154), (27, 155), (28, 156), (29, 157)] [(sli gs 0 3 3), (eN 1), (ptr gs 3), (Value.agg #[(eN D), (eN B), (eN Q)]), (eI sp), (eI (gsec ((D : Nat) : Int) ((B : Nat) : Int) ((Q : Nat) : Int) sp)), (sli gs 0 3 3), (eN 1), (ptr gs 3), (Value.agg #[(eN D), (eN B), (eN Q)]), (eI sp), (eI (gsec ((D : Nat) : Int) ((B : Nat) : Int) ((Q : Nat) : Int) sp)), (Value.bool false), (Value.bool false), (sli gs 0 3 3), (eN 1), (ptr gs 3), (Value.agg #[(eN D), (eN B), (eN Q)]), (eI sp), (eN ((sp % ((14 : Nat) : Int)).toNat)), (eI (gsec ((D : Nat) : Int) ((B : Nat) : Int) ((Q : Nat) : Int) (((sp % ((14 : Nat) : Int)).toNat : Nat) : Int))), (sli gs 0 3 3), (eN 1), (ptr gs 3), (Value.agg #[(eN D), (eN B), (eN Q)]), (eI sp), (eN ((sp % ((14 : Nat) : Int)).toNat)), (eI (gsec ((D : Nat) : Int) ((B : Nat) : Int) ((Q : Nat) : Int) (((sp % ((14 : Nat) : Int)).toNat : Nat) : Int))), (Value.bool false), (Value.bool false)] ([(Value.agg #[(eI gx1), (eI gy1), (eI gz1)]), u1, (eI sp), u2, (ptr g0 0), undef, undef, undef, (z 8), (ptr h0 0), (sli gs 0 3 3), (sli bs 0 3 3), (eN 1), u79, u86, (eN k), (z 16), (Value.bool true), (Value.bool false), u1, (eN bl.length), (Value.bool false), (Value.agg #[(eI gx1), (eI gy1), (eI gz1)]), (Value.agg #[(eN D), (eN B), (eN Q)]), (Value.agg #[(eI gx1), (eI gy1), (eI gz1)]), (Value.agg #[(eN D), (eN B), (eN Q)]), (Value.agg #[(eN D), (eN B), (eN Q)]), (sli gs 0 3 3), u1, u1, (Value.agg #[(eN D), (eN B), (eN Q)]), u2, u32, (sli bs 0 3 3), (eN 1), (Value.bool (decide (1 < 3))), (z 36), (z 37), (sli gs 0 3 3), (eN 1), (ptr gs 3), (Value.agg #[(eN D), (eN B), (eN Q)]), (sli bs 0 3 3), (eN 1), (ptr bs 1), u1, u79, (sli gs 0 3 3), (eN 1), (ptr gs 3), (Value.agg #[(eN D), (eN B), (eN Q)]), (sli bs 0 3 3), (eN 1), (ptr bs 1), u1, u86, u79, (eN ws80.length), u86, (eN ws87.length), (Value.bool false), (Value.bool false), (sli gs 0 3 3), (eN 1), (ptr gs 3), (Value.agg #[(eN D), (eN B), (eN Q)]), (eN 0), (sli gs 0 3 3), (eN 1), (ptr gs 3), (Value.agg #[(eN D), (eN B), (eN Q)]), (eN 0), (Value.bool false), (Value.bool false), (Value.bool false), (sli gs 0 3 3), (eN 1), (ptr gs 3), (Value.agg #[(eN D), (eN B), (eN Q)]), (eN (D - 2)), (sli gs 0 3 3), (eN 1), (ptr gs 3), (Value.agg #[(eN D), (eN B), (eN Q)]), (eN (D - 2)), (Value.bool false), (Value.bool false), (eN k), u79, (eN ws80.length), (Value.bool (decide (k < ws80.length)))] ++ (zs z 91 37 ++ [(sli gs 0 3 3), (eN 1), (ptr gs 3), (Value.agg #[(eN D), (eN B), (eN Q)]), (eI sp), (eI (gsec ((D : Nat) : Int) ((B : Nat) : Int) ((Q : Nat) : Int) sp)), (sli gs 0 3 3), (eN 1), (ptr gs 3), (Value.agg #[(eN D), (eN B), (eN Q)]), (eI sp), (eI (gsec ((D : Nat) : Int) ((B : Nat) : Int) ((Q : Nat) : Int) sp)), (Value.bool false), (Value.bool false), (sli gs 0 3 3), (eN 1), (ptr gs 3), (Value.agg #[(eN D), (eN B), (eN Q)]), (eI sp), (eN ((sp % ((14 : Nat) : Int)).toNat)), (eI (gsec ((D : Nat) : Int) ((B : Nat) : Int) ((Q : Nat) : Int) (((sp % ((14 : Nat) : Int)).toNat : Nat) : Int))), (sli gs 0 3 3), (eN 1), (ptr gs 3), (Value.agg #[(eN D), (eN B), (eN Q)]), (eI sp), (eN ((sp % ((14 : Nat) : Int)).toNat)), (eI (gsec ((D : Nat) : Int) ((B : Nat) : Int) ((Q : Nat) : Int) (((sp % ((14 : Nat) : Int)).toNat : Nat) : Int))), (Value.bool false), (Value.bool false)])) s_mx (by kernel_rfl) (by kernel_rfl) rfl (by kernel_rfl) (by kernel_rfl) ?_ ?_
    ·
     intro w_ hO_
     refine AllG.cons (gi rfl (d_move rfl)) ?_
     refine AllG.cons (gi rfl (d_move rfl)) ?_
     refine AllG.cons (gi rfl (d_index (b := gs) (o := 0) (n := 3) (c := 3) (j := 3) Try.underlying44 s_ti25 rfl (show _ = Value.int _ ((1 : Nat) : Int) from rfl) (by omega) (by omega) (by simp))) ?_
     refine AllG.cons (gi rfl (d_loadAg (vs := [(eN D), (eN B), (eN Q)]) ⟨_, Try.underlying25, rfl⟩ s_ti25 rfl (a28.step0 hO_) rfl rfl)) ?_
     refine AllG.cons (gi rfl (d_move rfl)) ?_
     refine AllG.cons (gc rfl (d_call (xl := [.tmp 131, .tmp 132]) (al := [(Value.agg #[(eN D), (eN B), (eN Q)]), (eI sp)]) Try.func17 (by kernel_rfl) rfl rfl rfl (gSectors_ok ((D : Nat) : Int) ((B : Nat) : Int) ((Q : Nat) : Int) sp _))) ?_
     refine AllG.cons (gi rfl (d_move rfl)) ?_
     refine AllG.cons (gi rfl (d_move rfl)) ?_
     refine AllG.cons (gi rfl (d_index (b := gs) (o := 0) (n := 3) (c := 3) (j := 3) Try.underlying44 s_ti25 rfl (show _ = Value.int _ ((1 : Nat) : Int) from rfl) (by omega) (by omega) (by simp))) ?_
     refine AllG.cons (gi rfl (d_loadAg (vs := [(eN D), (eN B), (eN Q)]) ⟨_, Try.underlying25, rfl⟩ s_ti25 rfl (a28.step0 hO_) rfl rfl)) ?_
     refine AllG.cons (gi rfl (d_move rfl)) ?_
     refine AllG.cons (gc rfl (d_call (xl := [.tmp 137, .tmp 138]) (al := [(Value.agg #[(eN D), (eN B), (eN Q)]), (eI sp)]) Try.func37 (by kernel_rfl) rfl rfl rfl (ref9Sectors_ok ((D : Nat) : Int) ((B : Nat) : Int) ((Q : Nat) : Int) sp _))) ?_
     refine AllG.cons (gi rfl (d_neq (k := .i64) (m := gsec ((D : Nat) : Int) ((B : Nat) : Int) ((Q : Nat) : Int) sp) (n := gsec ((D : Nat) : Int) ((B : Nat) : Int) ((Q : Nat) : Int) sp) rfl rfl (by rw [decide_eq_true rfl] <;> rfl))) ?_
     refine AllG.cons (gi rfl (d_move rfl)) ?_
     refine AllG.cons (gi_on rfl rfl rfl (nb rfl) rfl (d_move rfl)) ?_
     refine AllG.cons (gi_on rfl rfl rfl (nb rfl) rfl (d_move rfl)) ?_
     refine AllG.cons (gi_on rfl rfl rfl (nb rfl) rfl (d_index (b := gs) (o := 0) (n := 3) (c := 3) (j := 3) Try.underlying44 s_ti25 rfl (show _ = Value.int _ ((1 : Nat) : Int) from rfl) (by omega) (by omega) (by simp))) ?_
     refine AllG.cons (gi_on rfl rfl rfl (nb rfl) rfl (d_loadAg (vs := [(eN D), (eN B), (eN Q)]) ⟨_, Try.underlying25, rfl⟩ s_ti25 rfl (a28.step0 hO_) rfl rfl)) ?_
     refine AllG.cons (gi_on rfl rfl rfl (nb rfl) rfl (d_move rfl)) ?_
     refine AllG.cons (gc_on rfl rfl rfl (nb rfl) rfl (d_call (xl := [.tmp 146, .const (.int .i64 14)]) (al := [(eI sp), (eN 14)]) Try.func16 (by kernel_rfl) rfl rfl rfl (law9Within_ok sp 14 _ (by omega) (by omega)))) ?_
     refine AllG.cons (gc_on rfl rfl rfl (nb rfl) rfl (d_call (xl := [.tmp 145, .tmp 147]) (al := [(Value.agg #[(eN D), (eN B), (eN Q)]), (eN ((sp % ((14 : Nat) : Int)).toNat))]) Try.func17 (by kernel_rfl) rfl rfl rfl (gSectors_ok ((D : Nat) : Int) ((B : Nat) : Int) ((Q : Nat) : Int) (((sp % ((14 : Nat) : Int)).toNat : Nat) : Int) _))) ?_
     refine AllG.cons (gi_on rfl rfl rfl (nb rfl) rfl (d_move rfl)) ?_
     refine AllG.cons (gi_on rfl rfl rfl (nb rfl) rfl (d_move rfl)) ?_
     refine AllG.cons (gi_on rfl rfl rfl (nb rfl) rfl (d_index (b := gs) (o := 0) (n := 3) (c := 3) (j := 3) Try.underlying44 s_ti25 rfl (show _ = Value.int _ ((1 : Nat) : Int) from rfl) (by omega) (by omega) (by simp))) ?_
     refine AllG.cons (gi_on rfl rfl rfl (nb rfl) rfl (d_loadAg (vs := [(eN D), (eN B), (eN Q)]) ⟨_, Try.underlying25, rfl⟩ s_ti25 rfl (a28.step0 hO_) rfl rfl)) ?_
     refine AllG.cons (gi_on rfl rfl rfl (nb rfl) rfl (d_move rfl)) ?_
     refine AllG.cons (gc_on rfl rfl rfl (nb rfl) rfl (d_call (xl := [.tmp 153, .const (.int .i64 14)]) (al := [(eI sp), (eN 14)]) Try.func16 (by kernel_rfl) rfl rfl rfl (law9Within_ok sp 14 _ (by omega) (by omega)))) ?_
     refine AllG.cons (gc_on rfl rfl rfl (nb rfl) rfl (d_call (xl := [.tmp 152, .tmp 154]) (al := [(Value.agg #[(eN D), (eN B), (eN Q)]), (eN ((sp % ((14 : Nat) : Int)).toNat))]) Try.func37 (by kernel_rfl) rfl rfl rfl (ref9Sectors_ok ((D : Nat) : Int) ((B : Nat) : Int) ((Q : Nat) : Int) (((sp % ((14 : Nat) : Int)).toNat : Nat) : Int) _))) ?_
     refine AllG.cons (gi_on rfl rfl rfl (nb rfl) rfl (d_neq (k := .i64) (m := gsec ((D : Nat) : Int) ((B : Nat) : Int) ((Q : Nat) : Int) (((sp % ((14 : Nat) : Int)).toNat : Nat) : Int)) (n := gsec ((D : Nat) : Int) ((B : Nat) : Int) ((Q : Nat) : Int) (((sp % ((14 : Nat) : Int)).toNat : Nat) : Int)) rfl rfl (by rw [decide_eq_true rfl] <;> rfl))) ?_
     refine AllG.cons (gi rfl (d_pick (b := false) (v := (Value.bool false)) rfl rfl)) ?_
     exact AllG.nil
    intro w105 o106
    replace h1 := h1.step0 o106
    replace h2 := h2.step0 o106
    replace f33 := f33.step0 o106
    replace f82 := f82.step0 o106
    replace g83 := g83.step0 o106
    replace f89 := f89.step0 o106
    replace g90 := g90.step0 o106
    replace a13 := a13.step0 o106
    replace a24 := a24.step0 o106
    replace a28 := a28.step0 o106
    replace a36 := a36.step0 o106
    replace oW := oW.tail0 o106
    replace o38 := o38.tail0 o106
    replace o93 := o93.tail0 o106
    refine then_n ?_
    refine cond_f rfl ?_
    refine wpIn_skip ?_
    refine inb_n (then_n ?_)
    refine plain ?_
    refine wI (d_move rfl) ?_
    refine wI (n_add (a := 1) (b := 1) rfl rfl (by omega)) ?_
    refine wI (d_assign rfl) ?_
    refine wF ([(Value.agg #[(eI gx1), (eI gy1), (eI gz1)]), u1, (eI sp), u2, (ptr g0 0), undef, undef, undef, (z 8), (ptr h0 0), (sli gs 0 3 3), (sli bs 0 3 3), (eN 2), u79, u86, (eN k), (z 16), (Value.bool true), (Value.bool false), u1, (eN bl.length), (Value.bool false), (Value.agg #[(eI gx1), (eI gy1), (eI gz1)]), (Value.agg #[(eN D), (eN B), (eN Q)]), (Value.agg #[(eI gx1), (eI gy1), (eI gz1)]), (Value.agg #[(eN D), (eN B), (eN Q)]), (Value.agg #[(eN D), (eN B), (eN Q)]), (sli gs 0 3 3), u1, u1, (Value.agg #[(eN D), (eN B), (eN Q)]), u2, u32, (sli bs 0 3 3), (eN 1), (Value.bool (decide (1 < 3))), (eN 1), (eN 2), (sli gs 0 3 3), (eN 1), (ptr gs 3), (Value.agg #[(eN D), (eN B), (eN Q)]), (sli bs 0 3 3), (eN 1), (ptr bs 1), u1, u79, (sli gs 0 3 3), (eN 1), (ptr gs 3), (Value.agg #[(eN D), (eN B), (eN Q)]), (sli bs 0 3 3), (eN 1), (ptr bs 1), u1, u86, u79, (eN ws80.length), u86, (eN ws87.length), (Value.bool false), (Value.bool false), (sli gs 0 3 3), (eN 1), (ptr gs 3), (Value.agg #[(eN D), (eN B), (eN Q)]), (eN 0), (sli gs 0 3 3), (eN 1), (ptr gs 3), (Value.agg #[(eN D), (eN B), (eN Q)]), (eN 0), (Value.bool false), (Value.bool false), (Value.bool false), (sli gs 0 3 3), (eN 1), (ptr gs 3), (Value.agg #[(eN D), (eN B), (eN Q)]), (eN (D - 2)), (sli gs 0 3 3), (eN 1), (ptr gs 3), (Value.agg #[(eN D), (eN B), (eN Q)]), (eN (D - 2)), (Value.bool false), (Value.bool false), (eN k), u79, (eN ws80.length), (Value.bool (decide (k < ws80.length)))] ++ (zs z 91 37 ++ [(sli gs 0 3 3), (eN 1), (ptr gs 3), (Value.agg #[(eN D), (eN B), (eN Q)]), (eI sp), (eI (gsec ((D : Nat) : Int) ((B : Nat) : Int) ((Q : Nat) : Int) sp)), (sli gs 0 3 3), (eN 1), (ptr gs 3), (Value.agg #[(eN D), (eN B), (eN Q)]), (eI sp), (eI (gsec ((D : Nat) : Int) ((B : Nat) : Int) ((Q : Nat) : Int) sp)), (Value.bool false), (Value.bool false), (sli gs 0 3 3), (eN 1), (ptr gs 3), (Value.agg #[(eN D), (eN B), (eN Q)]), (eI sp), (eN ((sp % ((14 : Nat) : Int)).toNat)), (eI (gsec ((D : Nat) : Int) ((B : Nat) : Int) ((Q : Nat) : Int) (((sp % ((14 : Nat) : Int)).toNat : Nat) : Int))), (sli gs 0 3 3), (eN 1), (ptr gs 3), (Value.agg #[(eN D), (eN B), (eN Q)]), (eI sp), (eN ((sp % ((14 : Nat) : Int)).toNat)), (eI (gsec ((D : Nat) : Int) ((B : Nat) : Int) ((Q : Nat) : Int) (((sp % ((14 : Nat) : Int)).toNat : Nat) : Int))), (Value.bool false), (Value.bool false)])) ?_
    refine wpL.done ?_
    refine then_n ?_
    refine ⟨_, 2, rfl, rfl, ⟨?_, ?_, ?_, ?_, ?_, ?_⟩, ?_⟩
    ·
     (try dsimp only)
     all_goals (omega)
    ·
     exact o38
    ·
     exact a13
    ·
     exact a24
    ·
     exact a28
    ·
     exact a36
    ·
     (try dsimp only)
     all_goals (omega)
   have hi2 : i = 2 := by omega
   subst hi2
   refine wp_eq (l' := ([(Value.agg #[(eI gx1), (eI gy1), (eI gz1)]), u1, (eI sp), u2, (ptr g0 0), undef, undef, undef, (z 8), (ptr h0 0), (sli gs 0 3 3), (sli bs 0 3 3), (eN 2), (z 13), (z 14), (z 15), (z 16), (Value.bool true), (Value.bool false), u1, (eN bl.length), (Value.bool false), (Value.agg #[(eI gx1), (eI gy1), (eI gz1)]), (Value.agg #[(eN D), (eN B), (eN Q)]), (Value.agg #[(eI gx1), (eI gy1), (eI gz1)]), (Value.agg #[(eN D), (eN B), (eN Q)]), (Value.agg #[(eN D), (eN B), (eN Q)]), (sli gs 0 3 3), u1, u1, (Value.agg #[(eN D), (eN B), (eN Q)]), u2, u32, (sli bs 0 3 3), (eN 2), (Value.bool (decide (2 < 3)))] ++ (zs z 36 122))) rfl ?_
   refine drawnG (O := (Or1 bs (Or1 gs (Or1 h0 (Or1 g0 No))))) (n := 20) 0 [0, 0, 3, 7, 0, 0, 48, 112, 255, 0, 0, 1536, 3584, 0, 0, 24576, 57344, 131071, 262143, 524287] [(0, 38), (1, 39), (2, 40), (3, 41), (4, 42), (5, 43), (6, 44), (7, 45), (8, 46), (9, 47), (10, 48), (11, 49), (12, 50), (13, 51), (14, 52), (15, 53), (16, 54), (17, 55), (18, 13), (19, 14)] [] [] [] (fun i_ => ([] : List (RF (Or1 bs (Or1 gs (Or1 h0 (Or1 g0 No)))))).getD i_ (RF.any (Or1 bs (Or1 gs (Or1 h0 (Or1 g0 No)))))) (fun _ w_ => Arr 25 g0 [(eI gx1), (eI gy1), (eI gz1)] w_ ∧ Arr 25 h0 [(eN D), (eN B), (eN Q)] w_ ∧ Arr 25 gs [(eI gx1), (eI gy1), (eI gz1), (eN D), (eN B), (eN Q), (eN D), (eN B), (eN Q)] w_ ∧ Arr 42 bs [u1, u1, u32] w_) (fun v107 => ([(Value.agg #[(eI gx1), (eI gy1), (eI gz1)]), u1, (eI sp), u2, (ptr g0 0), undef, undef, undef, (z 8), (ptr h0 0), (sli gs 0 3 3), (sli bs 0 3 3), (eN 2), (v107 18), (v107 19), (z 15), (z 16), (Value.bool true), (Value.bool false), u1, (eN bl.length), (Value.bool false), (Value.agg #[(eI gx1), (eI gy1), (eI gz1)]), (Value.agg #[(eN D), (eN B), (eN Q)]), (Value.agg #[(eI gx1), (eI gy1), (eI gz1)]), (Value.agg #[(eN D), (eN B), (eN Q)]), (Value.agg #[(eN D), (eN B), (eN Q)]), (sli gs 0 3 3), u1, u1, (Value.agg #[(eN D), (eN B), (eN Q)]), u2, u32, (sli bs 0 3 3), (eN 2), (Value.bool (decide (2 < 3))), (z 36), (z 37), (v107 0), (v107 1), (v107 2), (v107 3), (v107 4), (v107 5), (v107 6), (v107 7), (v107 8), (v107 9), (v107 10), (v107 11), (v107 12), (v107 13), (v107 14), (v107 15), (v107 16), (v107 17)] ++ (zs z 56 102))) (fun v107 => ([(Value.agg #[(eI gx1), (eI gy1), (eI gz1)]), u1, (eI sp), u2, (ptr g0 0), undef, undef, undef, (z 8), (ptr h0 0), (sli gs 0 3 3), (sli bs 0 3 3), (eN 2), (z 13), (z 14), (z 15), (z 16), (Value.bool true), (Value.bool false), u1, (eN bl.length), (Value.bool false), (Value.agg #[(eI gx1), (eI gy1), (eI gz1)]), (Value.agg #[(eN D), (eN B), (eN Q)]), (Value.agg #[(eI gx1), (eI gy1), (eI gz1)]), (Value.agg #[(eN D), (eN B), (eN Q)]), (Value.agg #[(eN D), (eN B), (eN Q)]), (sli gs 0 3 3), u1, u1, (Value.agg #[(eN D), (eN B), (eN Q)]), u2, u32, (sli bs 0 3 3), (eN 2), (Value.bool (decide (2 < 3)))] ++ (zs z 36 122))) s_mx (by kernel_rfl) rfl (by decide) (by rfl) (by kernel_rfl) (by kernel_rfl) (by kernel_rfl) (by rfl) (fun v_ => by kernel_rfl) (fun v_ => by kernel_rfl) (fun _ => fun w_ w2_ h ho => by obtain ⟨r_a13, r_a24, r_a28, r_a36⟩ := h; exact ⟨r_a13.step0 ho, r_a24.step0 ho, r_a28.step0 ho, r_a36.step0 ho⟩) ⟨a13, a24, a28, a36⟩ ?_ ?_ ?_
   ·
    exact ls_nil
   ·
    exact ms_nil
   intro v107 lo_ hi_ w108 o109 hd hR
   clear hd lo_ hi_
   replace h1 := h1.step o109 (or1_mono (or1_mono (or1_mono (or1_mono no_any))))
   replace h2 := h2.step o109 (or1_mono (or1_mono (or1_mono (or1_mono no_any))))
   replace f33 := f33.step o109 (or1_mono (or1_mono (or1_mono (or1_mono no_any))))
   obtain ⟨xr_a13, xr_a24, xr_a28, xr_a36⟩ := hR
   replace a13 : Arr 25 g0 [(eI gx1), (eI gy1), (eI gz1)] w108 := xr_a13
   replace a24 : Arr 25 h0 [(eN D), (eN B), (eN Q)] w108 := xr_a24
   replace a28 : Arr 25 gs [(eI gx1), (eI gy1), (eI gz1), (eN D), (eN B), (eN Q), (eN D), (eN B), (eN Q)] w108 := xr_a28
   replace a36 : Arr 42 bs [u1, u1, u32] w108 := xr_a36
   clear xr_a13 xr_a24 xr_a28 xr_a36
   replace oW := oW.tail o109 (tl_new g_oW_bs (tl_new g_oW_gs (tl_new g_oW_h0 (tl_new g_oW_g0 tl_no))))
   replace o38 := o38.tail o109 (tl_in in1 (tl_in (in2 in1) (tl_in (in2 (in2 in1)) (tl_in (in2 (in2 (in2 in1))) tl_no))))
   refine rest_seg (n := 20) (p := 0) (q := 20) [0, 1, 2, 3, 4, 5, 6, 7, 9, 10, 11, 12, 13, 14, 15, 16] [8, 17, 18, 19] [(0, 38), (1, 39), (2, 40), (3, 41), (4, 42), (5, 43), (6, 44), (7, 45), (9, 47), (10, 48), (11, 49), (12, 50), (13, 51), (14, 52), (15, 53), (16, 54)] [(0, 38), (1, 39), (2, 40), (3, 41), (4, 42), (5, 43), (6, 44), (7, 45), (8, 46), (9, 47), (10, 48), (11, 49), (12, 50), (13, 51), (14, 52), (15, 53), (16, 54), (17, 55), (18, 13), (19, 14)] [0, 0, 3, 7, 0, 0, 48, 112, 255, 0, 0, 1536, 3584, 0, 0, 24576, 57344, 131071, 262143, 524287] (fun i_ => nth [(sli gs 0 3 3), (eN 2), (ptr gs 6), (Value.agg #[(eN D), (eN B), (eN Q)]), (sli bs 0 3 3), (eN 2), (ptr bs 2), u32, undef, (sli gs 0 3 3), (eN 2), (ptr gs 6), (Value.agg #[(eN D), (eN B), (eN Q)]), (sli bs 0 3 3), (eN 2), (ptr bs 2), u32] i_) ([(Value.agg #[(eI gx1), (eI gy1), (eI gz1)]), u1, (eI sp), u2, (ptr g0 0), undef, undef, undef, (z 8), (ptr h0 0), (sli gs 0 3 3), (sli bs 0 3 3), (eN 2), (z 13), (z 14), (z 15), (z 16), (Value.bool true), (Value.bool false), u1, (eN bl.length), (Value.bool false), (Value.agg #[(eI gx1), (eI gy1), (eI gz1)]), (Value.agg #[(eN D), (eN B), (eN Q)]), (Value.agg #[(eI gx1), (eI gy1), (eI gz1)]), (Value.agg #[(eN D), (eN B), (eN Q)]), (Value.agg #[(eN D), (eN B), (eN Q)]), (sli gs 0 3 3), u1, u1, (Value.agg #[(eN D), (eN B), (eN Q)]), u2, u32, (sli bs 0 3 3), (eN 2), (Value.bool (decide (2 < 3))), (z 36), (z 37), (sli gs 0 3 3), (eN 2), (ptr gs 6), (Value.agg #[(eN D), (eN B), (eN Q)]), (sli bs 0 3 3), (eN 2), (ptr bs 2), u32, (z 46), (sli gs 0 3 3), (eN 2), (ptr gs 6), (Value.agg #[(eN D), (eN B), (eN Q)]), (sli bs 0 3 3), (eN 2), (ptr bs 2), u32] ++ (zs z 55 103)) (fun w_ => Ps (Or1 bs (Or1 gs (Or1 h0 (Or1 g0 No)))) (Seq (kA 2 eQ) bl u1) w_ ∧ Ps (Or1 bs (Or1 gs (Or1 h0 (Or1 g0 No)))) (Seq kI ls u2) w_ ∧ Ps (Or1 bs (Or1 gs (Or1 h0 (Or1 g0 (Old W.heap.size))))) (Seq (kA 2 eQ) (spoilL D B ls) u32) w_ ∧ Arr 25 g0 [(eI gx1), (eI gy1), (eI gz1)] w_ ∧ Arr 25 h0 [(eN D), (eN B), (eN Q)] w_ ∧ Arr 25 gs [(eI gx1), (eI gy1), (eI gz1), (eN D), (eN B), (eN Q), (eN D), (eN B), (eN Q)] w_ ∧ Arr 42 bs [u1, u1, u32] w_ ∧ True) (by kernel_rfl) rfl (by decide) (by kernel_rfl) (by kernel_rfl) (by rfl) (by kernel_rfl) (by kernel_rfl) (by kernel_rfl) (by kernel_rfl) (by kernel_rfl) (by decide) ?_ ?_
   ·
    rintro w_ ⟨h1, h2, f33, a13, a24, a28, a36, _⟩
    refine fl_cons ⟨_, rfl, gd rfl (d_move rfl)⟩ ?_
    refine fl_cons ⟨_, rfl, gd rfl (d_move rfl)⟩ ?_
    refine fl_cons ⟨_, rfl, gd rfl (d_index (b := gs) (o := 0) (n := 3) (c := 3) (j := 6) Try.underlying44 s_ti25 rfl (show _ = Value.int _ ((2 : Nat) : Int) from rfl) (by omega) (by omega) (by simp))⟩ ?_
    refine fl_cons ⟨_, rfl, gd rfl (d_loadAg (vs := [(eN D), (eN B), (eN Q)]) ⟨_, Try.underlying25, rfl⟩ s_ti25 rfl a28 rfl rfl)⟩ ?_
    refine fl_cons ⟨_, rfl, gd rfl (d_move rfl)⟩ ?_
    refine fl_cons ⟨_, rfl, gd rfl (d_move rfl)⟩ ?_
    refine fl_cons ⟨_, rfl, gd rfl (d_index1 (n := 3) (i := 2) Try.underlying46 s_ti42 rfl (show _ = Value.int _ ((2 : Nat) : Int) from rfl) (by omega))⟩ ?_
    refine fl_cons ⟨_, rfl, gd rfl (d_load (v := u32) ⟨_, Try.underlying42, rfl⟩ rfl a36 rfl)⟩ ?_
    refine fl_cons ⟨_, rfl, gd rfl (d_move rfl)⟩ ?_
    refine fl_cons ⟨_, rfl, gd rfl (d_move rfl)⟩ ?_
    refine fl_cons ⟨_, rfl, gd rfl (d_index (b := gs) (o := 0) (n := 3) (c := 3) (j := 6) Try.underlying44 s_ti25 rfl (show _ = Value.int _ ((2 : Nat) : Int) from rfl) (by omega) (by omega) (by simp))⟩ ?_
    refine fl_cons ⟨_, rfl, gd rfl (d_loadAg (vs := [(eN D), (eN B), (eN Q)]) ⟨_, Try.underlying25, rfl⟩ s_ti25 rfl a28 rfl rfl)⟩ ?_
    refine fl_cons ⟨_, rfl, gd rfl (d_move rfl)⟩ ?_
    refine fl_cons ⟨_, rfl, gd rfl (d_move rfl)⟩ ?_
    refine fl_cons ⟨_, rfl, gd rfl (d_index1 (n := 3) (i := 2) Try.underlying46 s_ti42 rfl (show _ = Value.int _ ((2 : Nat) : Int) from rfl) (by omega))⟩ ?_
    refine fl_cons ⟨_, rfl, gd rfl (d_load (v := u32) ⟨_, Try.underlying42, rfl⟩ rfl a36 rfl)⟩ ?_
    exact fl_nil
   refine wJ.op ⟨h1, h2, f33, a13, a24, a28, a36, trivial⟩ rfl rfl (d_call (xl := [.tmp 41, .tmp 45]) (al := [(Value.agg #[(eN D), (eN B), (eN Q)]), u32]) Try.func31 (by kernel_rfl) rfl rfl rfl (supers_ok D B Q (spoilL D B ls) u32 _ (Ps.no f33) (by have := spoilL_len D B ls; first | omega | (simp; done) | (simp; omega)) (by omega) (by omega) (by omega))) ?_
   rintro u112 w110 ⟨ws113, hw114, f115, g116, o111⟩
   replace f115 := f115.less (Y := (Or1 bs (Or1 gs (Or1 h0 (Or1 g0 (Old W.heap.size)))))) (or1_old a36.lt (or1_old a28.lt (or1_old a24.lt (or1_old a13.lt (old_old oW.size)))))
   replace g116 := g116.less (Y := (Or1 bs (Or1 gs (Or1 h0 (Or1 g0 (Old W.heap.size)))))) (or1_old a36.lt (or1_old a28.lt (or1_old a24.lt (or1_old a13.lt (old_old oW.size)))))
   replace h1 := h1.step0 o111
   replace h2 := h2.step0 o111
   replace f33 := f33.step0 o111
   replace a13 := a13.step0 o111
   replace a24 := a24.step0 o111
   replace a28 := a28.step0 o111
   replace a36 := a36.step0 o111
   replace oW := oW.tail0 o111
   replace o38 := o38.tail0 o111
   refine wJ.flat ([(Value.agg #[(eI gx1), (eI gy1), (eI gz1)]), u1, (eI sp), u2, (ptr g0 0), undef, undef, undef, (z 8), (ptr h0 0), (sli gs 0 3 3), (sli bs 0 3 3), (eN 2), (z 13), (z 14), (z 15), (z 16), (Value.bool true), (Value.bool false), u1, (eN bl.length), (Value.bool false), (Value.agg #[(eI gx1), (eI gy1), (eI gz1)]), (Value.agg #[(eN D), (eN B), (eN Q)]), (Value.agg #[(eI gx1), (eI gy1), (eI gz1)]), (Value.agg #[(eN D), (eN B), (eN Q)]), (Value.agg #[(eN D), (eN B), (eN Q)]), (sli gs 0 3 3), u1, u1, (Value.agg #[(eN D), (eN B), (eN Q)]), u2, u32, (sli bs 0 3 3), (eN 2), (Value.bool (decide (2 < 3))), (z 36), (z 37), (sli gs 0 3 3), (eN 2), (ptr gs 6), (Value.agg #[(eN D), (eN B), (eN Q)]), (sli bs 0 3 3), (eN 2), (ptr bs 2), u32, u112, (sli gs 0 3 3), (eN 2), (ptr gs 6), (Value.agg #[(eN D), (eN B), (eN Q)]), (sli bs 0 3 3), (eN 2), (ptr bs 2), u32] ++ (zs z 55 103)) (by kernel_rfl) ?_
   refine wJ.op ⟨h1, h2, f33, a13, a24, a28, a36, trivial⟩ rfl rfl (d_call (xl := [.tmp 50, .tmp 54]) (al := [(Value.agg #[(eN D), (eN B), (eN Q)]), u32]) Try.func32 (by kernel_rfl) rfl rfl rfl (ref9Supers_ok D B Q (spoilL D B ls) u32 _ (Ps.no f33) (by have := spoilL_len D B ls; first | omega | (simp; done) | (simp; omega)) (by omega) (by omega) (by omega))) ?_
   rintro u119 w117 ⟨ws120, hw121, f122, g123, o118⟩
   replace f122 := f122.less (Y := (Or1 bs (Or1 gs (Or1 h0 (Or1 g0 (Old W.heap.size)))))) (or1_old a36.lt (or1_old a28.lt (or1_old a24.lt (or1_old a13.lt (old_old oW.size)))))
   replace g123 := g123.less (Y := (Or1 bs (Or1 gs (Or1 h0 (Or1 g0 (Old W.heap.size)))))) (or1_old a36.lt (or1_old a28.lt (or1_old a24.lt (or1_old a13.lt (old_old oW.size)))))
   replace h1 := h1.step0 o118
   replace h2 := h2.step0 o118
   replace f33 := f33.step0 o118
   replace f115 := f115.step0 o118
   replace g116 := g116.step0 o118
   replace a13 := a13.step0 o118
   replace a24 := a24.step0 o118
   replace a28 := a28.step0 o118
   replace a36 := a36.step0 o118
   replace oW := oW.tail0 o118
   replace o38 := o38.tail0 o118
   refine wJ.flat ([(Value.agg #[(eI gx1), (eI gy1), (eI gz1)]), u1, (eI sp), u2, (ptr g0 0), undef, undef, undef, (z 8), (ptr h0 0), (sli gs 0 3 3), (sli bs 0 3 3), (eN 2), (z 13), (z 14), (z 15), (z 16), (Value.bool true), (Value.bool false), u1, (eN bl.length), (Value.bool false), (Value.agg #[(eI gx1), (eI gy1), (eI gz1)]), (Value.agg #[(eN D), (eN B), (eN Q)]), (Value.agg #[(eI gx1), (eI gy1), (eI gz1)]), (Value.agg #[(eN D), (eN B), (eN Q)]), (Value.agg #[(eN D), (eN B), (eN Q)]), (sli gs 0 3 3), u1, u1, (Value.agg #[(eN D), (eN B), (eN Q)]), u2, u32, (sli bs 0 3 3), (eN 2), (Value.bool (decide (2 < 3))), (z 36), (z 37), (sli gs 0 3 3), (eN 2), (ptr gs 6), (Value.agg #[(eN D), (eN B), (eN Q)]), (sli bs 0 3 3), (eN 2), (ptr bs 2), u32, u112, (sli gs 0 3 3), (eN 2), (ptr gs 6), (Value.agg #[(eN D), (eN B), (eN Q)]), (sli bs 0 3 3), (eN 2), (ptr bs 2), u32, u119] ++ (zs z 56 102)) (by kernel_rfl) ?_
   refine wJ.is ⟨h1, h2, f33, a13, a24, a28, a36, trivial⟩ rfl rfl (d_assign rfl) ?_
   refine wJ.flat ([(Value.agg #[(eI gx1), (eI gy1), (eI gz1)]), u1, (eI sp), u2, (ptr g0 0), undef, undef, undef, (z 8), (ptr h0 0), (sli gs 0 3 3), (sli bs 0 3 3), (eN 2), u112, (z 14), (z 15), (z 16), (Value.bool true), (Value.bool false), u1, (eN bl.length), (Value.bool false), (Value.agg #[(eI gx1), (eI gy1), (eI gz1)]), (Value.agg #[(eN D), (eN B), (eN Q)]), (Value.agg #[(eI gx1), (eI gy1), (eI gz1)]), (Value.agg #[(eN D), (eN B), (eN Q)]), (Value.agg #[(eN D), (eN B), (eN Q)]), (sli gs 0 3 3), u1, u1, (Value.agg #[(eN D), (eN B), (eN Q)]), u2, u32, (sli bs 0 3 3), (eN 2), (Value.bool (decide (2 < 3))), (z 36), (z 37), (sli gs 0 3 3), (eN 2), (ptr gs 6), (Value.agg #[(eN D), (eN B), (eN Q)]), (sli bs 0 3 3), (eN 2), (ptr bs 2), u32, u112, (sli gs 0 3 3), (eN 2), (ptr gs 6), (Value.agg #[(eN D), (eN B), (eN Q)]), (sli bs 0 3 3), (eN 2), (ptr bs 2), u32, u119] ++ (zs z 56 102)) (by kernel_rfl) ?_
   refine wJ.is ⟨h1, h2, f33, a13, a24, a28, a36, trivial⟩ rfl rfl (d_assign rfl) ?_
   refine wJ.flat ([(Value.agg #[(eI gx1), (eI gy1), (eI gz1)]), u1, (eI sp), u2, (ptr g0 0), undef, undef, undef, (z 8), (ptr h0 0), (sli gs 0 3 3), (sli bs 0 3 3), (eN 2), u112, u119, (z 15), (z 16), (Value.bool true), (Value.bool false), u1, (eN bl.length), (Value.bool false), (Value.agg #[(eI gx1), (eI gy1), (eI gz1)]), (Value.agg #[(eN D), (eN B), (eN Q)]), (Value.agg #[(eI gx1), (eI gy1), (eI gz1)]), (Value.agg #[(eN D), (eN B), (eN Q)]), (Value.agg #[(eN D), (eN B), (eN Q)]), (sli gs 0 3 3), u1, u1, (Value.agg #[(eN D), (eN B), (eN Q)]), u2, u32, (sli bs 0 3 3), (eN 2), (Value.bool (decide (2 < 3))), (z 36), (z 37), (sli gs 0 3 3), (eN 2), (ptr gs 6), (Value.agg #[(eN D), (eN B), (eN Q)]), (sli bs 0 3 3), (eN 2), (ptr bs 2), u32, u112, (sli gs 0 3 3), (eN 2), (ptr gs 6), (Value.agg #[(eN D), (eN B), (eN Q)]), (sli bs 0 3 3), (eN 2), (ptr bs 2), u32, u119] ++ (zs z 56 102)) (by kernel_rfl) ?_
   refine wJ.done ⟨h1, h2, f33, a13, a24, a28, a36, trivial⟩ ?_
   refine rest_done rfl ?_
   have nl := nMin_le (spoilL D B ls) B D
   refine then_n ?_
   refine wpIn_seq ?_
   refine wpIn_seq ?_
   refine drawn_pure [0, 1, 0, 4, 15, 31, 63, 63, 255, 511, 1023, 63, 63, 6207, 14399, 32767, 65535, 131071, 262143, 524287, 524287, 2097151, 4194303, 8388607, 524287, 524287, 50855935, 117964799, 268435455, 536870911, 1073741823] [(0, 56), (1, 57), (2, 58), (3, 59), (4, 60), (5, 61), (6, 62), (7, 63), (8, 64), (9, 65), (10, 66), (11, 67), (12, 68), (13, 69), (14, 70), (15, 71), (16, 72), (17, 73), (18, 74), (19, 75), (20, 76), (21, 77), (22, 78), (23, 79), (24, 80), (25, 81), (26, 82), (27, 83), (28, 84), (29, 85), (30, 86)] [u112, (eN ws113.length), u119, (eN ws120.length), (Value.bool false), (Value.bool false), (sli gs 0 3 3), (eN 2), (ptr gs 6), (Value.agg #[(eN D), (eN B), (eN Q)]), (eN 0), (sli gs 0 3 3), (eN 2), (ptr gs 6), (Value.agg #[(eN D), (eN B), (eN Q)]), (eN 0), (Value.bool false), (Value.bool false), (Value.bool false), (sli gs 0 3 3), (eN 2), (ptr gs 6), (Value.agg #[(eN D), (eN B), (eN Q)]), (eN (D - 2)), (sli gs 0 3 3), (eN 2), (ptr gs 6), (Value.agg #[(eN D), (eN B), (eN Q)]), (eN (D - 2)), (Value.bool false), (Value.bool false)] ([(Value.agg #[(eI gx1), (eI gy1), (eI gz1)]), u1, (eI sp), u2, (ptr g0 0), undef, undef, undef, (z 8), (ptr h0 0), (sli gs 0 3 3), (sli bs 0 3 3), (eN 2), u112, u119, (z 15), (z 16), (Value.bool true), (Value.bool false), u1, (eN bl.length), (Value.bool false), (Value.agg #[(eI gx1), (eI gy1), (eI gz1)]), (Value.agg #[(eN D), (eN B), (eN Q)]), (Value.agg #[(eI gx1), (eI gy1), (eI gz1)]), (Value.agg #[(eN D), (eN B), (eN Q)]), (Value.agg #[(eN D), (eN B), (eN Q)]), (sli gs 0 3 3), u1, u1, (Value.agg #[(eN D), (eN B), (eN Q)]), u2, u32, (sli bs 0 3 3), (eN 2), (Value.bool (decide (2 < 3))), (z 36), (z 37), (sli gs 0 3 3), (eN 2), (ptr gs 6), (Value.agg #[(eN D), (eN B), (eN Q)]), (sli bs 0 3 3), (eN 2), (ptr bs 2), u32, u112, (sli gs 0 3 3), (eN 2), (ptr gs 6), (Value.agg #[(eN D), (eN B), (eN Q)]), (sli bs 0 3 3), (eN 2), (ptr bs 2), u32, u119, u112, (eN ws113.length), u119, (eN ws120.length), (Value.bool false), (Value.bool false), (sli gs 0 3 3), (eN 2), (ptr gs 6), (Value.agg #[(eN D), (eN B), (eN Q)]), (eN 0), (sli gs 0 3 3), (eN 2), (ptr gs 6), (Value.agg #[(eN D), (eN B), (eN Q)]), (eN 0), (Value.bool false), (Value.bool false), (Value.bool false), (sli gs 0 3 3), (eN 2), (ptr gs 6), (Value.agg #[(eN D), (eN B), (eN Q)]), (eN (D - 2)), (sli gs 0 3 3), (eN 2), (ptr gs 6), (Value.agg #[(eN D), (eN B), (eN Q)]), (eN (D - 2)), (Value.bool false), (Value.bool false)] ++ (zs z 87 71)) s_mx (by kernel_rfl) (by kernel_rfl) rfl (by kernel_rfl) (by kernel_rfl) ?_ ?_
   ·
    intro w_ hO_
    refine AllG.cons (gi rfl (d_move rfl)) ?_
    refine AllG.cons (gi rfl (d_lenS rfl Try.underlying47 rfl (f115.step0 hO_))) ?_
    refine AllG.cons (gi rfl (d_move rfl)) ?_
    refine AllG.cons (gi rfl (d_lenS rfl Try.underlying47 rfl (f122.step0 hO_))) ?_
    refine AllG.cons (gi rfl (n_neq (a := ws113.length) (b := ws120.length) rfl rfl (by rw [decide_eq_true (hw114.trans hw121.symm)] <;> rfl))) ?_
    refine AllG.cons (gi rfl (d_move rfl)) ?_
    refine AllG.cons (gi_on rfl rfl rfl (nb rfl) rfl (d_move rfl)) ?_
    refine AllG.cons (gi_on rfl rfl rfl (nb rfl) rfl (d_move rfl)) ?_
    refine AllG.cons (gi_on rfl rfl rfl (nb rfl) rfl (d_index (b := gs) (o := 0) (n := 3) (c := 3) (j := 6) Try.underlying44 s_ti25 rfl (show _ = Value.int _ ((2 : Nat) : Int) from rfl) (by omega) (by omega) (by simp))) ?_
    refine AllG.cons (gi_on rfl rfl rfl (nb rfl) rfl (d_loadAg (vs := [(eN D), (eN B), (eN Q)]) ⟨_, Try.underlying25, rfl⟩ s_ti25 rfl (a28.step0 hO_) rfl rfl)) ?_
    refine AllG.cons (gc_on rfl rfl rfl (nb rfl) rfl (d_call (xl := [.tmp 65]) (al := [(Value.agg #[(eN D), (eN B), (eN Q)])]) Try.func33 (by kernel_rfl) rfl rfl rfl (cw_is (v' := eN 0) (gCheck_ok ((D : Nat) : Int) ((B : Nat) : Int) ((Q : Nat) : Int) _) (by rw [(show fitsI ((D : Nat) : Int) ((B : Nat) : Int) ((Q : Nat) : Int) = true from (fits_is (by omega)).symm)] <;> rfl)))) ?_
    refine AllG.cons (gi_on rfl rfl rfl (nb rfl) rfl (d_move rfl)) ?_
    refine AllG.cons (gi_on rfl rfl rfl (nb rfl) rfl (d_move rfl)) ?_
    refine AllG.cons (gi_on rfl rfl rfl (nb rfl) rfl (d_index (b := gs) (o := 0) (n := 3) (c := 3) (j := 6) Try.underlying44 s_ti25 rfl (show _ = Value.int _ ((2 : Nat) : Int) from rfl) (by omega) (by omega) (by simp))) ?_
    refine AllG.cons (gi_on rfl rfl rfl (nb rfl) rfl (d_loadAg (vs := [(eN D), (eN B), (eN Q)]) ⟨_, Try.underlying25, rfl⟩ s_ti25 rfl (a28.step0 hO_) rfl rfl)) ?_
    refine AllG.cons (gc_on rfl rfl rfl (nb rfl) rfl (d_call (xl := [.tmp 70]) (al := [(Value.agg #[(eN D), (eN B), (eN Q)])]) Try.func34 (by kernel_rfl) rfl rfl rfl (cw_is (v' := eN 0) (ref9Check_ok ((D : Nat) : Int) ((B : Nat) : Int) ((Q : Nat) : Int) _) (by rw [(show fitsI ((D : Nat) : Int) ((B : Nat) : Int) ((Q : Nat) : Int) = true from (fits_is (by omega)).symm)] <;> rfl)))) ?_
    refine AllG.cons (gi_on rfl rfl rfl (nb rfl) rfl (n_neq (a := 0) (b := 0) rfl rfl (by rw [decide_eq_true rfl] <;> rfl))) ?_
    refine AllG.cons (gi rfl (d_pick (b := false) (v := (Value.bool false)) rfl rfl)) ?_
    refine AllG.cons (gi rfl (d_move rfl)) ?_
    refine AllG.cons (gi_on rfl rfl rfl (nb rfl) rfl (d_move rfl)) ?_
    refine AllG.cons (gi_on rfl rfl rfl (nb rfl) rfl (d_move rfl)) ?_
    refine AllG.cons (gi_on rfl rfl rfl (nb rfl) rfl (d_index (b := gs) (o := 0) (n := 3) (c := 3) (j := 6) Try.underlying44 s_ti25 rfl (show _ = Value.int _ ((2 : Nat) : Int) from rfl) (by omega) (by omega) (by simp))) ?_
    refine AllG.cons (gi_on rfl rfl rfl (nb rfl) rfl (d_loadAg (vs := [(eN D), (eN B), (eN Q)]) ⟨_, Try.underlying25, rfl⟩ s_ti25 rfl (a28.step0 hO_) rfl rfl)) ?_
    refine AllG.cons (gc_on rfl rfl rfl (nb rfl) rfl (d_call (xl := [.tmp 78]) (al := [(Value.agg #[(eN D), (eN B), (eN Q)])]) Try.func35 (by kernel_rfl) rfl rfl rfl (cw_is (v' := eN (D - 2)) (gSlots_ok ((D : Nat) : Int) ((B : Nat) : Int) ((Q : Nat) : Int) _) (congrArg eI ((if_pos (show fitsI ((D : Nat) : Int) ((B : Nat) : Int) ((Q : Nat) : Int) = true from (fits_is (by omega)).symm)).trans (by omega)))))) ?_
    refine AllG.cons (gi_on rfl rfl rfl (nb rfl) rfl (d_move rfl)) ?_
    refine AllG.cons (gi_on rfl rfl rfl (nb rfl) rfl (d_move rfl)) ?_
    refine AllG.cons (gi_on rfl rfl rfl (nb rfl) rfl (d_index (b := gs) (o := 0) (n := 3) (c := 3) (j := 6) Try.underlying44 s_ti25 rfl (show _ = Value.int _ ((2 : Nat) : Int) from rfl) (by omega) (by omega) (by simp))) ?_
    refine AllG.cons (gi_on rfl rfl rfl (nb rfl) rfl (d_loadAg (vs := [(eN D), (eN B), (eN Q)]) ⟨_, Try.underlying25, rfl⟩ s_ti25 rfl (a28.step0 hO_) rfl rfl)) ?_
    refine AllG.cons (gc_on rfl rfl rfl (nb rfl) rfl (d_call (xl := [.tmp 83]) (al := [(Value.agg #[(eN D), (eN B), (eN Q)])]) Try.func36 (by kernel_rfl) rfl rfl rfl (cw_is (v' := eN (D - 2)) (ref9Slots_ok ((D : Nat) : Int) ((B : Nat) : Int) ((Q : Nat) : Int) _) (congrArg eI ((if_pos (show fitsI ((D : Nat) : Int) ((B : Nat) : Int) ((Q : Nat) : Int) = true from (fits_is (by omega)).symm)).trans (by omega)))))) ?_
    refine AllG.cons (gi_on rfl rfl rfl (nb rfl) rfl (n_neq (a := (D - 2)) (b := (D - 2)) rfl rfl (by rw [decide_eq_true rfl] <;> rfl))) ?_
    refine AllG.cons (gi rfl (d_pick (b := false) (v := (Value.bool false)) rfl rfl)) ?_
    exact AllG.nil
   intro w124 o125
   replace h1 := h1.step0 o125
   replace h2 := h2.step0 o125
   replace f33 := f33.step0 o125
   replace f115 := f115.step0 o125
   replace g116 := g116.step0 o125
   replace f122 := f122.step0 o125
   replace g123 := g123.step0 o125
   replace a13 := a13.step0 o125
   replace a24 := a24.step0 o125
   replace a28 := a28.step0 o125
   replace a36 := a36.step0 o125
   replace oW := oW.tail0 o125
   replace o38 := o38.tail0 o125
   refine then_n ?_
   refine cond_f rfl ?_
   refine wpIn_skip ?_
   refine then_n ?_
   refine wpIn_seq ?_
   refine wpIn_seq ?_
   refine plain ?_
   refine wI (d_assign rfl) ?_
   refine wF ([(Value.agg #[(eI gx1), (eI gy1), (eI gz1)]), u1, (eI sp), u2, (ptr g0 0), undef, undef, undef, (z 8), (ptr h0 0), (sli gs 0 3 3), (sli bs 0 3 3), (eN 2), u112, u119, (eN 0), (z 16), (Value.bool true), (Value.bool false), u1, (eN bl.length), (Value.bool false), (Value.agg #[(eI gx1), (eI gy1), (eI gz1)]), (Value.agg #[(eN D), (eN B), (eN Q)]), (Value.agg #[(eI gx1), (eI gy1), (eI gz1)]), (Value.agg #[(eN D), (eN B), (eN Q)]), (Value.agg #[(eN D), (eN B), (eN Q)]), (sli gs 0 3 3), u1, u1, (Value.agg #[(eN D), (eN B), (eN Q)]), u2, u32, (sli bs 0 3 3), (eN 2), (Value.bool (decide (2 < 3))), (z 36), (z 37), (sli gs 0 3 3), (eN 2), (ptr gs 6), (Value.agg #[(eN D), (eN B), (eN Q)]), (sli bs 0 3 3), (eN 2), (ptr bs 2), u32, u112, (sli gs 0 3 3), (eN 2), (ptr gs 6), (Value.agg #[(eN D), (eN B), (eN Q)]), (sli bs 0 3 3), (eN 2), (ptr bs 2), u32, u119, u112, (eN ws113.length), u119, (eN ws120.length), (Value.bool false), (Value.bool false), (sli gs 0 3 3), (eN 2), (ptr gs 6), (Value.agg #[(eN D), (eN B), (eN Q)]), (eN 0), (sli gs 0 3 3), (eN 2), (ptr gs 6), (Value.agg #[(eN D), (eN B), (eN Q)]), (eN 0), (Value.bool false), (Value.bool false), (Value.bool false), (sli gs 0 3 3), (eN 2), (ptr gs 6), (Value.agg #[(eN D), (eN B), (eN Q)]), (eN (D - 2)), (sli gs 0 3 3), (eN 2), (ptr gs 6), (Value.agg #[(eN D), (eN B), (eN Q)]), (eN (D - 2)), (Value.bool false), (Value.bool false)] ++ (zs z 87 71)) ?_
   refine wpL.done ?_
   refine then_n ?_
   refine wpIn_block ?_
   refine loop2 (fun (k : (Nat)) => fun (z : Nat → Value) => (([(Value.agg #[(eI gx1), (eI gy1), (eI gz1)]), u1, (eI sp), u2, (ptr g0 0), undef, undef, undef, (z 8), (ptr h0 0), (sli gs 0 3 3), (sli bs 0 3 3), (eN 2), u112, u119, (eN k), (z 16), (Value.bool true), (Value.bool false), u1, (eN bl.length), (Value.bool false), (Value.agg #[(eI gx1), (eI gy1), (eI gz1)]), (Value.agg #[(eN D), (eN B), (eN Q)]), (Value.agg #[(eI gx1), (eI gy1), (eI gz1)]), (Value.agg #[(eN D), (eN B), (eN Q)]), (Value.agg #[(eN D), (eN B), (eN Q)]), (sli gs 0 3 3), u1, u1, (Value.agg #[(eN D), (eN B), (eN Q)]), u2, u32, (sli bs 0 3 3), (eN 2), (Value.bool (decide (2 < 3))), (z 36), (z 37), (sli gs 0 3 3), (eN 2), (ptr gs 6), (Value.agg #[(eN D), (eN B), (eN Q)]), (sli bs 0 3 3), (eN 2), (ptr bs 2), u32, u112, (sli gs 0 3 3), (eN 2), (ptr gs 6), (Value.agg #[(eN D), (eN B), (eN Q)]), (sli bs 0 3 3), (eN 2), (ptr bs 2), u32, u119, u112, (eN ws113.length), u119, (eN ws120.length), (Value.bool false), (Value.bool false), (sli gs 0 3 3), (eN 2), (ptr gs 6), (Value.agg #[(eN D), (eN B), (eN Q)]), (eN 0), (sli gs 0 3 3), (eN 2), (ptr gs 6), (Value.agg #[(eN D), (eN B), (eN Q)]), (eN 0), (Value.bool false), (Value.bool false), (Value.bool false), (sli gs 0 3 3), (eN 2), (ptr gs 6), (Value.agg #[(eN D), (eN B), (eN Q)]), (eN (D - 2)), (sli gs 0 3 3), (eN 2), (ptr gs 6), (Value.agg #[(eN D), (eN B), (eN Q)]), (eN (D - 2)), (Value.bool false), (Value.bool false)] ++ (zs z 87 71)) : List Value)) (fun (k : (Nat)) => fun (w_ : World) => (k ≤ ws113.length) ∧ Only (Or1 bs (Or1 gs (Or1 h0 (Or1 g0 No)))) w124 w_ ∧ Arr 25 g0 [(eI gx1), (eI gy1), (eI gz1)] w_ ∧ Arr 25 h0 [(eN D), (eN B), (eN Q)] w_ ∧ Arr 25 gs [(eI gx1), (eI gy1), (eI gz1), (eN D), (eN B), (eN Q), (eN D), (eN B), (eN Q)] w_ ∧ Arr 42 bs [u1, u1, u32] w_) (fun (k : (Nat)) => ws113.length - k) 0 rfl ?_ ?_
   ·
    refine ⟨?_, ?_, ?_, ?_, ?_, ?_⟩
    ·
     exact Nat.zero_le _
    ·
     exact Only.refl _ _
    ·
     exact a13
    ·
     exact a24
    ·
     exact a28
    ·
     exact a36
   rintro k z w127 ⟨hk, o126, a13, a24, a28, a36⟩
   (try dsimp only)
   replace h1 := h1.step o126 (or1_mono (or1_mono (or1_mono (or1_mono no_any))))
   replace h2 := h2.step o126 (or1_mono (or1_mono (or1_mono (or1_mono no_any))))
   replace f33 := f33.step o126 (or1_mono (or1_mono (or1_mono (or1_mono no_any))))
   replace f115 := f115.step o126 (or1_mono (or1_mono (or1_mono (or1_mono no_any))))
   replace g116 := g116.step o126 (or1_mono (or1_mono (or1_mono (or1_mono no_any))))
   replace f122 := f122.step o126 (or1_mono (or1_mono (or1_mono (or1_mono no_any))))
   replace g123 := g123.step o126 (or1_mono (or1_mono (or1_mono (or1_mono no_any))))
   replace oW := oW.tail o126 (tl_new g_oW_bs (tl_new g_oW_gs (tl_new g_oW_h0 (tl_new g_oW_g0 tl_no))))
   replace o38 := o38.tail o126 (tl_in in1 (tl_in (in2 in1) (tl_in (in2 (in2 in1)) (tl_in (in2 (in2 (in2 in1))) tl_no))))
   refine wpIn_seq ?_
   refine wpIn_seq ?_
   refine plain ?_
   refine wI (d_move rfl) ?_
   refine wI (d_move rfl) ?_
   refine wI (d_lenS rfl Try.underlying47 rfl f115) ?_
   refine wF ([(Value.agg #[(eI gx1), (eI gy1), (eI gz1)]), u1, (eI sp), u2, (ptr g0 0), undef, undef, undef, (z 8), (ptr h0 0), (sli gs 0 3 3), (sli bs 0 3 3), (eN 2), u112, u119, (eN k), (z 16), (Value.bool true), (Value.bool false), u1, (eN bl.length), (Value.bool false), (Value.agg #[(eI gx1), (eI gy1), (eI gz1)]), (Value.agg #[(eN D), (eN B), (eN Q)]), (Value.agg #[(eI gx1), (eI gy1), (eI gz1)]), (Value.agg #[(eN D), (eN B), (eN Q)]), (Value.agg #[(eN D), (eN B), (eN Q)]), (sli gs 0 3 3), u1, u1, (Value.agg #[(eN D), (eN B), (eN Q)]), u2, u32, (sli bs 0 3 3), (eN 2), (Value.bool (decide (2 < 3))), (z 36), (z 37), (sli gs 0 3 3), (eN 2), (ptr gs 6), (Value.agg #[(eN D), (eN B), (eN Q)]), (sli bs 0 3 3), (eN 2), (ptr bs 2), u32, u112, (sli gs 0 3 3), (eN 2), (ptr gs 6), (Value.agg #[(eN D), (eN B), (eN Q)]), (sli bs 0 3 3), (eN 2), (ptr bs 2), u32, u119, u112, (eN ws113.length), u119, (eN ws120.length), (Value.bool false), (Value.bool false), (sli gs 0 3 3), (eN 2), (ptr gs 6), (Value.agg #[(eN D), (eN B), (eN Q)]), (eN 0), (sli gs 0 3 3), (eN 2), (ptr gs 6), (Value.agg #[(eN D), (eN B), (eN Q)]), (eN 0), (Value.bool false), (Value.bool false), (Value.bool false), (sli gs 0 3 3), (eN 2), (ptr gs 6), (Value.agg #[(eN D), (eN B), (eN Q)]), (eN (D - 2)), (sli gs 0 3 3), (eN 2), (ptr gs 6), (Value.agg #[(eN D), (eN B), (eN Q)]), (eN (D - 2)), (Value.bool false), (Value.bool false), (eN k), u112, (eN ws113.length)] ++ (zs z 90 68)) ?_
   refine wI (n_lss (a := k) (b := ws113.length) rfl rfl rfl) ?_
   refine wF ([(Value.agg #[(eI gx1), (eI gy1), (eI gz1)]), u1, (eI sp), u2, (ptr g0 0), undef, undef, undef, (z 8), (ptr h0 0), (sli gs 0 3 3), (sli bs 0 3 3), (eN 2), u112, u119, (eN k), (z 16), (Value.bool true), (Value.bool false), u1, (eN bl.length), (Value.bool false), (Value.agg #[(eI gx1), (eI gy1), (eI gz1)]), (Value.agg #[(eN D), (eN B), (eN Q)]), (Value.agg #[(eI gx1), (eI gy1), (eI gz1)]), (Value.agg #[(eN D), (eN B), (eN Q)]), (Value.agg #[(eN D), (eN B), (eN Q)]), (sli gs 0 3 3), u1, u1, (Value.agg #[(eN D), (eN B), (eN Q)]), u2, u32, (sli bs 0 3 3), (eN 2), (Value.bool (decide (2 < 3))), (z 36), (z 37), (sli gs 0 3 3), (eN 2), (ptr gs 6), (Value.agg #[(eN D), (eN B), (eN Q)]), (sli bs 0 3 3), (eN 2), (ptr bs 2), u32, u112, (sli gs 0 3 3), (eN 2), (ptr gs 6), (Value.agg #[(eN D), (eN B), (eN Q)]), (sli bs 0 3 3), (eN 2), (ptr bs 2), u32, u119, u112, (eN ws113.length), u119, (eN ws120.length), (Value.bool false), (Value.bool false), (sli gs 0 3 3), (eN 2), (ptr gs 6), (Value.agg #[(eN D), (eN B), (eN Q)]), (eN 0), (sli gs 0 3 3), (eN 2), (ptr gs 6), (Value.agg #[(eN D), (eN B), (eN Q)]), (eN 0), (Value.bool false), (Value.bool false), (Value.bool false), (sli gs 0 3 3), (eN 2), (ptr gs 6), (Value.agg #[(eN D), (eN B), (eN Q)]), (eN (D - 2)), (sli gs 0 3 3), (eN 2), (ptr gs 6), (Value.agg #[(eN D), (eN B), (eN Q)]), (eN (D - 2)), (Value.bool false), (Value.bool false), (eN k), u112, (eN ws113.length), (Value.bool (decide (k < ws113.length)))] ++ (zs z 91 67)) ?_
   refine wpL.done ?_
   refine then_n ?_
   refine cond_if rfl (fun c128 => ?_) (fun c128 => ?_)
   ·
    refine wpIn_skip ?_
    refine then_n ?_
    refine wpIn_seq ?_
    refine wpIn_block ?_
    refine wpIn_seq ?_
    refine wpIn_seq ?_
    have hkn : k < nMin (spoilL D B ls) B D := by omega
    have r129 : Ps (Or1 bs (Or1 gs (Or1 h0 (Or1 g0 (Old W.heap.size))))) (Seq kN (supR (spoilL D B ls) B D k) (ws113.getD k undef)) w127 := fam_at g116 (by omega)
    have r130 : Ps (Or1 bs (Or1 gs (Or1 h0 (Or1 g0 (Old W.heap.size))))) (Seq kN (supR (spoilL D B ls) B D k) (ws120.getD k undef)) w127 := fam_at g123 (by omega)
    have hsl := supR_len (spoilL D B ls) B D k
    refine drawn_pure [0, 0, 3, 7, 15, 0, 0, 96, 224, 480, 1023] [(0, 93), (1, 94), (2, 95), (3, 96), (4, 97), (5, 98), (6, 99), (7, 100), (8, 101), (9, 102), (10, 103)] [u112, (eN k), (ixp u112 k), (ws113.getD k undef), (eN ((supR (spoilL D B ls) B D k).length)), u119, (eN k), (ixp u119 k), (ws120.getD k undef), (eN ((supR (spoilL D B ls) B D k).length)), (Value.bool false)] ([(Value.agg #[(eI gx1), (eI gy1), (eI gz1)]), u1, (eI sp), u2, (ptr g0 0), undef, undef, undef, (z 8), (ptr h0 0), (sli gs 0 3 3), (sli bs 0 3 3), (eN 2), u112, u119, (eN k), (z 16), (Value.bool true), (Value.bool false), u1, (eN bl.length), (Value.bool false), (Value.agg #[(eI gx1), (eI gy1), (eI gz1)]), (Value.agg #[(eN D), (eN B), (eN Q)]), (Value.agg #[(eI gx1), (eI gy1), (eI gz1)]), (Value.agg #[(eN D), (eN B), (eN Q)]), (Value.agg #[(eN D), (eN B), (eN Q)]), (sli gs 0 3 3), u1, u1, (Value.agg #[(eN D), (eN B), (eN Q)]), u2, u32, (sli bs 0 3 3), (eN 2), (Value.bool (decide (2 < 3))), (z 36), (z 37), (sli gs 0 3 3), (eN 2), (ptr gs 6), (Value.agg #[(eN D), (eN B), (eN Q)]), (sli bs 0 3 3), (eN 2), (ptr bs 2), u32, u112, (sli gs 0 3 3), (eN 2), (ptr gs 6), (Value.agg #[(eN D), (eN B), (eN Q)]), (sli bs 0 3 3), (eN 2), (ptr bs 2), u32, u119, u112, (eN ws113.length), u119, (eN ws120.length), (Value.bool false), (Value.bool false), (sli gs 0 3 3), (eN 2), (ptr gs 6), (Value.agg #[(eN D), (eN B), (eN Q)]), (eN 0), (sli gs 0 3 3), (eN 2), (ptr gs 6), (Value.agg #[(eN D), (eN B), (eN Q)]), (eN 0), (Value.bool false), (Value.bool false), (Value.bool false), (sli gs 0 3 3), (eN 2), (ptr gs 6), (Value.agg #[(eN D), (eN B), (eN Q)]), (eN (D - 2)), (sli gs 0 3 3), (eN 2), (ptr gs 6), (Value.agg #[(eN D), (eN B), (eN Q)]), (eN (D - 2)), (Value.bool false), (Value.bool false), (eN k), u112, (eN ws113.length), (Value.bool (decide (k < ws113.length))), (z 91), (z 92), u112, (eN k), (ixp u112 k), (ws113.getD k undef), (eN ((supR (spoilL D B ls) B D k).length)), u119, (eN k), (ixp u119 k), (ws120.getD k undef), (eN ((supR (spoilL D B ls) B D k).length)), (Value.bool false)] ++ (zs z 104 54)) s_mx (by kernel_rfl) (by kernel_rfl) rfl (by kernel_rfl) (by kernel_rfl) ?_ ?_
    ·
     intro w_ hO_
     refine AllG.cons (gi rfl (d_move rfl)) ?_
     refine AllG.cons (gi rfl (d_move rfl)) ?_
     refine AllG.cons (gi rfl (d_ix (i := k) (xs := ws113) Try.underlying47 s_ti29 rfl (f115.step0 hO_) (show _ = Value.int _ ((k : Nat) : Int) from rfl) (by first | omega | (simp; done) | (simp; omega)))) ?_
     refine AllG.cons (gi rfl (d_ldx (i := k) (xs := ws113) (enc := eV) (v := (ws113.getD k undef)) ⟨_, Try.underlying29, rfl⟩ rfl (f115.step0 hO_) (g_at (by first | omega | (simp; done) | (simp; omega))))) ?_
     refine AllG.cons (gi rfl (d_lenS rfl Try.underlying29 rfl (r129.step0 hO_))) ?_
     refine AllG.cons (gi rfl (d_move rfl)) ?_
     refine AllG.cons (gi rfl (d_move rfl)) ?_
     refine AllG.cons (gi rfl (d_ix (i := k) (xs := ws120) Try.underlying47 s_ti29 rfl (f122.step0 hO_) (show _ = Value.int _ ((k : Nat) : Int) from rfl) (by first | omega | (simp; done) | (simp; omega)))) ?_
     refine AllG.cons (gi rfl (d_ldx (i := k) (xs := ws120) (enc := eV) (v := (ws120.getD k undef)) ⟨_, Try.underlying29, rfl⟩ rfl (f122.step0 hO_) (g_at (by first | omega | (simp; done) | (simp; omega))))) ?_
     refine AllG.cons (gi rfl (d_lenS rfl Try.underlying29 rfl (r130.step0 hO_))) ?_
     refine AllG.cons (gi rfl (n_neq (a := ((supR (spoilL D B ls) B D k).length)) (b := ((supR (spoilL D B ls) B D k).length)) rfl rfl (by rw [decide_eq_true rfl] <;> rfl))) ?_
     exact AllG.nil
    intro w131 o132
    replace h1 := h1.step0 o132
    replace h2 := h2.step0 o132
    replace f33 := f33.step0 o132
    replace f115 := f115.step0 o132
    replace g116 := g116.step0 o132
    replace f122 := f122.step0 o132
    replace g123 := g123.step0 o132
    replace r129 := r129.step0 o132
    replace r130 := r130.step0 o132
    replace a13 := a13.step0 o132
    replace a24 := a24.step0 o132
    replace a28 := a28.step0 o132
    replace a36 := a36.step0 o132
    replace oW := oW.tail0 o132
    replace o38 := o38.tail0 o132
    replace o126 := o126.tail0 o132
    refine then_n ?_
    refine cond_f rfl ?_
    refine wpIn_skip ?_
    refine then_n ?_
    refine wpIn_seq ?_
    refine plain ?_
    refine wI (d_assign rfl) ?_
    refine wF ([(Value.agg #[(eI gx1), (eI gy1), (eI gz1)]), u1, (eI sp), u2, (ptr g0 0), undef, undef, undef, (z 8), (ptr h0 0), (sli gs 0 3 3), (sli bs 0 3 3), (eN 2), u112, u119, (eN k), (eN 0), (Value.bool true), (Value.bool false), u1, (eN bl.length), (Value.bool false), (Value.agg #[(eI gx1), (eI gy1), (eI gz1)]), (Value.agg #[(eN D), (eN B), (eN Q)]), (Value.agg #[(eI gx1), (eI gy1), (eI gz1)]), (Value.agg #[(eN D), (eN B), (eN Q)]), (Value.agg #[(eN D), (eN B), (eN Q)]), (sli gs 0 3 3), u1, u1, (Value.agg #[(eN D), (eN B), (eN Q)]), u2, u32, (sli bs 0 3 3), (eN 2), (Value.bool (decide (2 < 3))), (z 36), (z 37), (sli gs 0 3 3), (eN 2), (ptr gs 6), (Value.agg #[(eN D), (eN B), (eN Q)]), (sli bs 0 3 3), (eN 2), (ptr bs 2), u32, u112, (sli gs 0 3 3), (eN 2), (ptr gs 6), (Value.agg #[(eN D), (eN B), (eN Q)]), (sli bs 0 3 3), (eN 2), (ptr bs 2), u32, u119, u112, (eN ws113.length), u119, (eN ws120.length), (Value.bool false), (Value.bool false), (sli gs 0 3 3), (eN 2), (ptr gs 6), (Value.agg #[(eN D), (eN B), (eN Q)]), (eN 0), (sli gs 0 3 3), (eN 2), (ptr gs 6), (Value.agg #[(eN D), (eN B), (eN Q)]), (eN 0), (Value.bool false), (Value.bool false), (Value.bool false), (sli gs 0 3 3), (eN 2), (ptr gs 6), (Value.agg #[(eN D), (eN B), (eN Q)]), (eN (D - 2)), (sli gs 0 3 3), (eN 2), (ptr gs 6), (Value.agg #[(eN D), (eN B), (eN Q)]), (eN (D - 2)), (Value.bool false), (Value.bool false), (eN k), u112, (eN ws113.length), (Value.bool (decide (k < ws113.length))), (z 91), (z 92), u112, (eN k), (ixp u112 k), (ws113.getD k undef), (eN ((supR (spoilL D B ls) B D k).length)), u119, (eN k), (ixp u119 k), (ws120.getD k undef), (eN ((supR (spoilL D B ls) B D k).length)), (Value.bool false)] ++ (zs z 104 54)) ?_
    refine wpL.done ?_
    refine then_n ?_
    refine wpIn_block ?_
    refine loop2 (fun (d : (Nat)) => fun (z : Nat → Value) => (([(Value.agg #[(eI gx1), (eI gy1), (eI gz1)]), u1, (eI sp), u2, (ptr g0 0), undef, undef, undef, (z 8), (ptr h0 0), (sli gs 0 3 3), (sli bs 0 3 3), (eN 2), u112, u119, (eN k), (eN d), (Value.bool true), (Value.bool false), u1, (eN bl.length), (Value.bool false), (Value.agg #[(eI gx1), (eI gy1), (eI gz1)]), (Value.agg #[(eN D), (eN B), (eN Q)]), (Value.agg #[(eI gx1), (eI gy1), (eI gz1)]), (Value.agg #[(eN D), (eN B), (eN Q)]), (Value.agg #[(eN D), (eN B), (eN Q)]), (sli gs 0 3 3), u1, u1, (Value.agg #[(eN D), (eN B), (eN Q)]), u2, u32, (sli bs 0 3 3), (eN 2), (Value.bool (decide (2 < 3))), (z 36), (z 37), (sli gs 0 3 3), (eN 2), (ptr gs 6), (Value.agg #[(eN D), (eN B), (eN Q)]), (sli bs 0 3 3), (eN 2), (ptr bs 2), u32, u112, (sli gs 0 3 3), (eN 2), (ptr gs 6), (Value.agg #[(eN D), (eN B), (eN Q)]), (sli bs 0 3 3), (eN 2), (ptr bs 2), u32, u119, u112, (eN ws113.length), u119, (eN ws120.length), (Value.bool false), (Value.bool false), (sli gs 0 3 3), (eN 2), (ptr gs 6), (Value.agg #[(eN D), (eN B), (eN Q)]), (eN 0), (sli gs 0 3 3), (eN 2), (ptr gs 6), (Value.agg #[(eN D), (eN B), (eN Q)]), (eN 0), (Value.bool false), (Value.bool false), (Value.bool false), (sli gs 0 3 3), (eN 2), (ptr gs 6), (Value.agg #[(eN D), (eN B), (eN Q)]), (eN (D - 2)), (sli gs 0 3 3), (eN 2), (ptr gs 6), (Value.agg #[(eN D), (eN B), (eN Q)]), (eN (D - 2)), (Value.bool false), (Value.bool false), (eN k), u112, (eN ws113.length), (Value.bool (decide (k < ws113.length))), (z 91), (z 92), u112, (eN k), (ixp u112 k), (ws113.getD k undef), (eN ((supR (spoilL D B ls) B D k).length)), u119, (eN k), (ixp u119 k), (ws120.getD k undef), (eN ((supR (spoilL D B ls) B D k).length)), (Value.bool false)] ++ (zs z 104 54)) : List Value)) (fun (d : (Nat)) => fun (w_ : World) => (d ≤ D) ∧ Only (Or1 bs (Or1 gs (Or1 h0 (Or1 g0 No)))) w131 w_ ∧ Arr 25 g0 [(eI gx1), (eI gy1), (eI gz1)] w_ ∧ Arr 25 h0 [(eN D), (eN B), (eN Q)] w_ ∧ Arr 25 gs [(eI gx1), (eI gy1), (eI gz1), (eN D), (eN B), (eN Q), (eN D), (eN B), (eN Q)] w_ ∧ Arr 42 bs [u1, u1, u32] w_) (fun (d : (Nat)) => D - d) 0 rfl ?_ ?_
    ·
     refine ⟨?_, ?_, ?_, ?_, ?_, ?_⟩
     ·
      exact Nat.zero_le _
     ·
      exact Only.refl _ _
     ·
      exact a13
     ·
      exact a24
     ·
      exact a28
     ·
      exact a36
    rintro d z w134 ⟨hd, o133, a13, a24, a28, a36⟩
    (try dsimp only)
    replace h1 := h1.step o133 (or1_mono (or1_mono (or1_mono (or1_mono no_any))))
    replace h2 := h2.step o133 (or1_mono (or1_mono (or1_mono (or1_mono no_any))))
    replace f33 := f33.step o133 (or1_mono (or1_mono (or1_mono (or1_mono no_any))))
    replace f115 := f115.step o133 (or1_mono (or1_mono (or1_mono (or1_mono no_any))))
    replace g116 := g116.step o133 (or1_mono (or1_mono (or1_mono (or1_mono no_any))))
    replace f122 := f122.step o133 (or1_mono (or1_mono (or1_mono (or1_mono no_any))))
    replace g123 := g123.step o133 (or1_mono (or1_mono (or1_mono (or1_mono no_any))))
    replace r129 := r129.step o133 (or1_mono (or1_mono (or1_mono (or1_mono no_any))))
    replace r130 := r130.step o133 (or1_mono (or1_mono (or1_mono (or1_mono no_any))))
    replace oW := oW.tail o133 (tl_new g_oW_bs (tl_new g_oW_gs (tl_new g_oW_h0 (tl_new g_oW_g0 tl_no))))
    replace o38 := o38.tail o133 (tl_in in1 (tl_in (in2 in1) (tl_in (in2 (in2 in1)) (tl_in (in2 (in2 (in2 in1))) tl_no))))
    replace o126 := o126.tail o133 (tl_in in1 (tl_in (in2 in1) (tl_in (in2 (in2 in1)) (tl_in (in2 (in2 (in2 in1))) tl_no))))
    refine wpIn_seq ?_
    refine wpIn_seq ?_
    refine plain ?_
    refine wI (d_move rfl) ?_
    refine wI (d_move rfl) ?_
    refine wI (d_move rfl) ?_
    refine wF ([(Value.agg #[(eI gx1), (eI gy1), (eI gz1)]), u1, (eI sp), u2, (ptr g0 0), undef, undef, undef, (z 8), (ptr h0 0), (sli gs 0 3 3), (sli bs 0 3 3), (eN 2), u112, u119, (eN k), (eN d), (Value.bool true), (Value.bool false), u1, (eN bl.length), (Value.bool false), (Value.agg #[(eI gx1), (eI gy1), (eI gz1)]), (Value.agg #[(eN D), (eN B), (eN Q)]), (Value.agg #[(eI gx1), (eI gy1), (eI gz1)]), (Value.agg #[(eN D), (eN B), (eN Q)]), (Value.agg #[(eN D), (eN B), (eN Q)]), (sli gs 0 3 3), u1, u1, (Value.agg #[(eN D), (eN B), (eN Q)]), u2, u32, (sli bs 0 3 3), (eN 2), (Value.bool (decide (2 < 3))), (z 36), (z 37), (sli gs 0 3 3), (eN 2), (ptr gs 6), (Value.agg #[(eN D), (eN B), (eN Q)]), (sli bs 0 3 3), (eN 2), (ptr bs 2), u32, u112, (sli gs 0 3 3), (eN 2), (ptr gs 6), (Value.agg #[(eN D), (eN B), (eN Q)]), (sli bs 0 3 3), (eN 2), (ptr bs 2), u32, u119, u112, (eN ws113.length), u119, (eN ws120.length), (Value.bool false), (Value.bool false), (sli gs 0 3 3), (eN 2), (ptr gs 6), (Value.agg #[(eN D), (eN B), (eN Q)]), (eN 0), (sli gs 0 3 3), (eN 2), (ptr gs 6), (Value.agg #[(eN D), (eN B), (eN Q)]), (eN 0), (Value.bool false), (Value.bool false), (Value.bool false), (sli gs 0 3 3), (eN 2), (ptr gs 6), (Value.agg #[(eN D), (eN B), (eN Q)]), (eN (D - 2)), (sli gs 0 3 3), (eN 2), (ptr gs 6), (Value.agg #[(eN D), (eN B), (eN Q)]), (eN (D - 2)), (Value.bool false), (Value.bool false), (eN k), u112, (eN ws113.length), (Value.bool (decide (k < ws113.length))), (z 91), (z 92), u112, (eN k), (ixp u112 k), (ws113.getD k undef), (eN ((supR (spoilL D B ls) B D k).length)), u119, (eN k), (ixp u119 k), (ws120.getD k undef), (eN ((supR (spoilL D B ls) B D k).length)), (Value.bool false), (eN d), u112, (eN k)] ++ (zs z 107 51)) ?_
    refine wI (d_ix (i := k) (xs := ws113) Try.underlying47 s_ti29 rfl f115 (show _ = Value.int _ ((k : Nat) : Int) from rfl) (by first | omega | (simp; done) | (simp; omega))) ?_
    refine wI (d_ldx (i := k) (xs := ws113) (enc := eV) (v := (ws113.getD k undef)) ⟨_, Try.underlying29, rfl⟩ rfl f115 (g_at (by first | omega | (simp; done) | (simp; omega)))) ?_
    refine wI (d_lenS rfl Try.underlying29 rfl r129) ?_
    refine wF ([(Value.agg #[(eI gx1), (eI gy1), (eI gz1)]), u1, (eI sp), u2, (ptr g0 0), undef, undef, undef, (z 8), (ptr h0 0), (sli gs 0 3 3), (sli bs 0 3 3), (eN 2), u112, u119, (eN k), (eN d), (Value.bool true), (Value.bool false), u1, (eN bl.length), (Value.bool false), (Value.agg #[(eI gx1), (eI gy1), (eI gz1)]), (Value.agg #[(eN D), (eN B), (eN Q)]), (Value.agg #[(eI gx1), (eI gy1), (eI gz1)]), (Value.agg #[(eN D), (eN B), (eN Q)]), (Value.agg #[(eN D), (eN B), (eN Q)]), (sli gs 0 3 3), u1, u1, (Value.agg #[(eN D), (eN B), (eN Q)]), u2, u32, (sli bs 0 3 3), (eN 2), (Value.bool (decide (2 < 3))), (z 36), (z 37), (sli gs 0 3 3), (eN 2), (ptr gs 6), (Value.agg #[(eN D), (eN B), (eN Q)]), (sli bs 0 3 3), (eN 2), (ptr bs 2), u32, u112, (sli gs 0 3 3), (eN 2), (ptr gs 6), (Value.agg #[(eN D), (eN B), (eN Q)]), (sli bs 0 3 3), (eN 2), (ptr bs 2), u32, u119, u112, (eN ws113.length), u119, (eN ws120.length), (Value.bool false), (Value.bool false), (sli gs 0 3 3), (eN 2), (ptr gs 6), (Value.agg #[(eN D), (eN B), (eN Q)]), (eN 0), (sli gs 0 3 3), (eN 2), (ptr gs 6), (Value.agg #[(eN D), (eN B), (eN Q)]), (eN 0), (Value.bool false), (Value.bool false), (Value.bool false), (sli gs 0 3 3), (eN 2), (ptr gs 6), (Value.agg #[(eN D), (eN B), (eN Q)]), (eN (D - 2)), (sli gs 0 3 3), (eN 2), (ptr gs 6), (Value.agg #[(eN D), (eN B), (eN Q)]), (eN (D - 2)), (Value.bool false), (Value.bool false), (eN k), u112, (eN ws113.length), (Value.bool (decide (k < ws113.length))), (z 91), (z 92), u112, (eN k), (ixp u112 k), (ws113.getD k undef), (eN ((supR (spoilL D B ls) B D k).length)), u119, (eN k), (ixp u119 k), (ws120.getD k undef), (eN ((supR (spoilL D B ls) B D k).length)), (Value.bool false), (eN d), u112, (eN k), (ixp u112 k), (ws113.getD k undef), (eN ((supR (spoilL D B ls) B D k).length))] ++ (zs z 110 48)) ?_
    refine wI (n_lss (a := d) (b := ((supR (spoilL D B ls) B D k).length)) rfl rfl rfl) ?_
    refine wF ([(Value.agg #[(eI gx1), (eI gy1), (eI gz1)]), u1, (eI sp), u2, (ptr g0 0), undef, undef, undef, (z 8), (ptr h0 0), (sli gs 0 3 3), (sli bs 0 3 3), (eN 2), u112, u119, (eN k), (eN d), (Value.bool true), (Value.bool false), u1, (eN bl.length), (Value.bool false), (Value.agg #[(eI gx1), (eI gy1), (eI gz1)]), (Value.agg #[(eN D), (eN B), (eN Q)]), (Value.agg #[(eI gx1), (eI gy1), (eI gz1)]), (Value.agg #[(eN D), (eN B), (eN Q)]), (Value.agg #[(eN D), (eN B), (eN Q)]), (sli gs 0 3 3), u1, u1, (Value.agg #[(eN D), (eN B), (eN Q)]), u2, u32, (sli bs 0 3 3), (eN 2), (Value.bool (decide (2 < 3))), (z 36), (z 37), (sli gs 0 3 3), (eN 2), (ptr gs 6), (Value.agg #[(eN D), (eN B), (eN Q)]), (sli bs 0 3 3), (eN 2), (ptr bs 2), u32, u112, (sli gs 0 3 3), (eN 2), (ptr gs 6), (Value.agg #[(eN D), (eN B), (eN Q)]), (sli bs 0 3 3), (eN 2), (ptr bs 2), u32, u119, u112, (eN ws113.length), u119, (eN ws120.length), (Value.bool false), (Value.bool false), (sli gs 0 3 3), (eN 2), (ptr gs 6), (Value.agg #[(eN D), (eN B), (eN Q)]), (eN 0), (sli gs 0 3 3), (eN 2), (ptr gs 6), (Value.agg #[(eN D), (eN B), (eN Q)]), (eN 0), (Value.bool false), (Value.bool false), (Value.bool false), (sli gs 0 3 3), (eN 2), (ptr gs 6), (Value.agg #[(eN D), (eN B), (eN Q)]), (eN (D - 2)), (sli gs 0 3 3), (eN 2), (ptr gs 6), (Value.agg #[(eN D), (eN B), (eN Q)]), (eN (D - 2)), (Value.bool false), (Value.bool false), (eN k), u112, (eN ws113.length), (Value.bool (decide (k < ws113.length))), (z 91), (z 92), u112, (eN k), (ixp u112 k), (ws113.getD k undef), (eN ((supR (spoilL D B ls) B D k).length)), u119, (eN k), (ixp u119 k), (ws120.getD k undef), (eN ((supR (spoilL D B ls) B D k).length)), (Value.bool false), (eN d), u112, (eN k), (ixp u112 k), (ws113.getD k undef), (eN ((supR (spoilL D B ls) B D k).length)), (Value.bool (decide (d < ((supR (spoilL D B ls) B D k).length))))] ++ (zs z 111 47)) ?_
    refine wpL.done ?_
    refine then_n ?_
    refine cond_if rfl (fun c135 => ?_) (fun c135 => ?_)
    ·
     refine wpIn_skip ?_
     refine then_n ?_
     refine wpIn_seq ?_
     refine wpIn_block ?_
     refine wpIn_seq ?_
     refine drawn_pure [0, 0, 3, 7, 0, 31, 63, 0, 0, 384, 896, 0, 3968, 8064, 16383] [(0, 113), (1, 114), (2, 115), (3, 116), (4, 117), (5, 118), (6, 119), (7, 120), (8, 121), (9, 122), (10, 123), (11, 124), (12, 125), (13, 126), (14, 127)] [u112, (eN k), (ixp u112 k), (ws113.getD k undef), (eN d), (ixp (ws113.getD k undef) d), (eN ((supR (spoilL D B ls) B D k).getD d 0)), u119, (eN k), (ixp u119 k), (ws120.getD k undef), (eN d), (ixp (ws120.getD k undef) d), (eN ((supR (spoilL D B ls) B D k).getD d 0)), (Value.bool false)] ([(Value.agg #[(eI gx1), (eI gy1), (eI gz1)]), u1, (eI sp), u2, (ptr g0 0), undef, undef, undef, (z 8), (ptr h0 0), (sli gs 0 3 3), (sli bs 0 3 3), (eN 2), u112, u119, (eN k), (eN d), (Value.bool true), (Value.bool false), u1, (eN bl.length), (Value.bool false), (Value.agg #[(eI gx1), (eI gy1), (eI gz1)]), (Value.agg #[(eN D), (eN B), (eN Q)]), (Value.agg #[(eI gx1), (eI gy1), (eI gz1)]), (Value.agg #[(eN D), (eN B), (eN Q)]), (Value.agg #[(eN D), (eN B), (eN Q)]), (sli gs 0 3 3), u1, u1, (Value.agg #[(eN D), (eN B), (eN Q)]), u2, u32, (sli bs 0 3 3), (eN 2), (Value.bool (decide (2 < 3))), (z 36), (z 37), (sli gs 0 3 3), (eN 2), (ptr gs 6), (Value.agg #[(eN D), (eN B), (eN Q)]), (sli bs 0 3 3), (eN 2), (ptr bs 2), u32, u112, (sli gs 0 3 3), (eN 2), (ptr gs 6), (Value.agg #[(eN D), (eN B), (eN Q)]), (sli bs 0 3 3), (eN 2), (ptr bs 2), u32, u119, u112, (eN ws113.length), u119, (eN ws120.length), (Value.bool false), (Value.bool false), (sli gs 0 3 3), (eN 2), (ptr gs 6), (Value.agg #[(eN D), (eN B), (eN Q)]), (eN 0), (sli gs 0 3 3), (eN 2), (ptr gs 6), (Value.agg #[(eN D), (eN B), (eN Q)]), (eN 0), (Value.bool false), (Value.bool false), (Value.bool false), (sli gs 0 3 3), (eN 2), (ptr gs 6), (Value.agg #[(eN D), (eN B), (eN Q)]), (eN (D - 2)), (sli gs 0 3 3), (eN 2), (ptr gs 6), (Value.agg #[(eN D), (eN B), (eN Q)]), (eN (D - 2)), (Value.bool false), (Value.bool false), (eN k), u112, (eN ws113.length), (Value.bool (decide (k < ws113.length))), (z 91), (z 92), u112, (eN k), (ixp u112 k), (ws113.getD k undef), (eN ((supR (spoilL D B ls) B D k).length)), u119, (eN k), (ixp u119 k), (ws120.getD k undef), (eN ((supR (spoilL D B ls) B D k).length)), (Value.bool false), (eN d), u112, (eN k), (ixp u112 k), (ws113.getD k undef), (eN ((supR (spoilL D B ls) B D k).length)), (Value.bool (decide (d < ((supR (spoilL D B ls) B D k).length)))), (z 111), (z 112), u112, (eN k), (ixp u112 k), (ws113.getD k undef), (eN d), (ixp (ws113.getD k undef) d), (eN ((supR (spoilL D B ls) B D k).getD d 0)), u119, (eN k), (ixp u119 k), (ws120.getD k undef), (eN d), (ixp (ws120.getD k undef) d), (eN ((supR (spoilL D B ls) B D k).getD d 0)), (Value.bool false)] ++ (zs z 128 30)) s_mx (by kernel_rfl) (by kernel_rfl) rfl (by kernel_rfl) (by kernel_rfl) ?_ ?_
     ·
      intro w_ hO_
      refine AllG.cons (gi rfl (d_move rfl)) ?_
      refine AllG.cons (gi rfl (d_move rfl)) ?_
      refine AllG.cons (gi rfl (d_ix (i := k) (xs := ws113) Try.underlying47 s_ti29 rfl (f115.step0 hO_) (show _ = Value.int _ ((k : Nat) : Int) from rfl) (by first | omega | (simp; done) | (simp; omega)))) ?_
      refine AllG.cons (gi rfl (d_ldx (i := k) (xs := ws113) (enc := eV) (v := (ws113.getD k undef)) ⟨_, Try.underlying29, rfl⟩ rfl (f115.step0 hO_) (g_at (by first | omega | (simp; done) | (simp; omega))))) ?_
      refine AllG.cons (gi rfl (d_move rfl)) ?_
      refine AllG.cons (gi rfl (d_ix (i := d) (xs := (supR (spoilL D B ls) B D k)) Try.underlying29 s_ti3 rfl (r129.step0 hO_) (show _ = Value.int _ ((d : Nat) : Int) from rfl) (by have := spoilL_len D B ls; have := supR_len (spoilL D B ls) B D k; first | omega | (simp; done) | (simp; omega)))) ?_
      refine AllG.cons (gi rfl (d_ldx (i := d) (xs := (supR (spoilL D B ls) B D k)) (enc := eN) (v := ((supR (spoilL D B ls) B D k).getD d 0)) ⟨_, Try.underlying3, rfl⟩ rfl (r129.step0 hO_) (g_at (by have := spoilL_len D B ls; have := supR_len (spoilL D B ls) B D k; first | omega | (simp; done) | (simp; omega))))) ?_
      refine AllG.cons (gi rfl (d_move rfl)) ?_
      refine AllG.cons (gi rfl (d_move rfl)) ?_
      refine AllG.cons (gi rfl (d_ix (i := k) (xs := ws120) Try.underlying47 s_ti29 rfl (f122.step0 hO_) (show _ = Value.int _ ((k : Nat) : Int) from rfl) (by first | omega | (simp; done) | (simp; omega)))) ?_
      refine AllG.cons (gi rfl (d_ldx (i := k) (xs := ws120) (enc := eV) (v := (ws120.getD k undef)) ⟨_, Try.underlying29, rfl⟩ rfl (f122.step0 hO_) (g_at (by first | omega | (simp; done) | (simp; omega))))) ?_
      refine AllG.cons (gi rfl (d_move rfl)) ?_
      refine AllG.cons (gi rfl (d_ix (i := d) (xs := (supR (spoilL D B ls) B D k)) Try.underlying29 s_ti3 rfl (r130.step0 hO_) (show _ = Value.int _ ((d : Nat) : Int) from rfl) (by have := spoilL_len D B ls; have := supR_len (spoilL D B ls) B D k; first | omega | (simp; done) | (simp; omega)))) ?_
      refine AllG.cons (gi rfl (d_ldx (i := d) (xs := (supR (spoilL D B ls) B D k)) (enc := eN) (v := ((supR (spoilL D B ls) B D k).getD d 0)) ⟨_, Try.underlying3, rfl⟩ rfl (r130.step0 hO_) (g_at (by have := spoilL_len D B ls; have := supR_len (spoilL D B ls) B D k; first | omega | (simp; done) | (simp; omega))))) ?_
      refine AllG.cons (gi rfl (n_neq (a := ((supR (spoilL D B ls) B D k).getD d 0)) (b := ((supR (spoilL D B ls) B D k).getD d 0)) rfl rfl (by rw [decide_eq_true rfl] <;> rfl))) ?_
      exact AllG.nil
     intro w136 o137
     replace h1 := h1.step0 o137
     replace h2 := h2.step0 o137
     replace f33 := f33.step0 o137
     replace f115 := f115.step0 o137
     replace g116 := g116.step0 o137
     replace f122 := f122.step0 o137
     replace g123 := g123.step0 o137
     replace r129 := r129.step0 o137
     replace r130 := r130.step0 o137
     replace a13 := a13.step0 o137
     replace a24 := a24.step0 o137
     replace a28 := a28.step0 o137
     replace a36 := a36.step0 o137
     replace oW := oW.tail0 o137
     replace o38 := o38.tail0 o137
     replace o126 := o126.tail0 o137
     replace o133 := o133.tail0 o137
     refine then_n ?_
     refine cond_f rfl ?_
     refine wpIn_skip ?_
     refine inb_n (then_n ?_)
     refine plain ?_
     refine wI (d_move rfl) ?_
     refine wI (n_add (a := d) (b := 1) rfl rfl (by omega)) ?_
     refine wI (d_assign rfl) ?_
     refine wF ([(Value.agg #[(eI gx1), (eI gy1), (eI gz1)]), u1, (eI sp), u2, (ptr g0 0), undef, undef, undef, (z 8), (ptr h0 0), (sli gs 0 3 3), (sli bs 0 3 3), (eN 2), u112, u119, (eN k), (eN (d + 1)), (Value.bool true), (Value.bool false), u1, (eN bl.length), (Value.bool false), (Value.agg #[(eI gx1), (eI gy1), (eI gz1)]), (Value.agg #[(eN D), (eN B), (eN Q)]), (Value.agg #[(eI gx1), (eI gy1), (eI gz1)]), (Value.agg #[(eN D), (eN B), (eN Q)]), (Value.agg #[(eN D), (eN B), (eN Q)]), (sli gs 0 3 3), u1, u1, (Value.agg #[(eN D), (eN B), (eN Q)]), u2, u32, (sli bs 0 3 3), (eN 2), (Value.bool (decide (2 < 3))), (z 36), (z 37), (sli gs 0 3 3), (eN 2), (ptr gs 6), (Value.agg #[(eN D), (eN B), (eN Q)]), (sli bs 0 3 3), (eN 2), (ptr bs 2), u32, u112, (sli gs 0 3 3), (eN 2), (ptr gs 6), (Value.agg #[(eN D), (eN B), (eN Q)]), (sli bs 0 3 3), (eN 2), (ptr bs 2), u32, u119, u112, (eN ws113.length), u119, (eN ws120.length), (Value.bool false), (Value.bool false), (sli gs 0 3 3), (eN 2), (ptr gs 6), (Value.agg #[(eN D), (eN B), (eN Q)]), (eN 0), (sli gs 0 3 3), (eN 2), (ptr gs 6), (Value.agg #[(eN D), (eN B), (eN Q)]), (eN 0), (Value.bool false), (Value.bool false), (Value.bool false), (sli gs 0 3 3), (eN 2), (ptr gs 6), (Value.agg #[(eN D), (eN B), (eN Q)]), (eN (D - 2)), (sli gs 0 3 3), (eN 2), (ptr gs 6), (Value.agg #[(eN D), (eN B), (eN Q)]), (eN (D - 2)), (Value.bool false), (Value.bool false), (eN k), u112, (eN ws113.length), (Value.bool (decide (k < ws113.length))), (z 91), (z 92), u112, (eN k), (ixp u112 k), (ws113.getD k undef), (eN ((supR (spoilL D B ls) B D k).length)), u119, (eN k), (ixp u119 k), (ws120.getD k undef), (eN ((supR (spoilL D B ls) B D k).length)), (Value.bool false), (eN d), u112, (eN k), (ixp u112 k), (ws113.getD k undef), (eN ((supR (spoilL D B ls) B D k).length)), (Value.bool (decide (d < ((supR (spoilL D B ls) B D k).length)))), (eN d), (eN (d + 1)), u112, (eN k), (ixp u112 k), (ws113.getD k undef), (eN d), (ixp (ws113.getD k undef) d), (eN ((supR (spoilL D B ls) B D k).getD d 0)), u119, (eN k), (ixp u119 k), (ws120.getD k undef), (eN d), (ixp (ws120.getD k undef) d), (eN ((supR (spoilL D B ls) B D k).getD d 0)), (Value.bool false)] ++ (zs z 128 30)) ?_
     refine wpL.done ?_
     refine then_n ?_
     refine ⟨_, (d + 1), rfl, rfl, ⟨?_, ?_, ?_, ?_, ?_, ?_⟩, ?_⟩
     ·
      (try dsimp only)
      all_goals (omega)
     ·
      exact o133
     ·
      exact a13
     ·
      exact a24
     ·
      exact a28
     ·
      exact a36
     ·
      (try dsimp only)
      all_goals (omega)
    refine wpIn_exit ?_
    refine then_x (then_x (inb_e ?_))
    refine inb_n (then_n ?_)
    refine plain ?_
    refine wI (d_move rfl) ?_
    refine wI (n_add (a := k) (b := 1) rfl rfl (by omega)) ?_
    refine wI (d_assign rfl) ?_
    refine wF ([(Value.agg #[(eI gx1), (eI gy1), (eI gz1)]), u1, (eI sp), u2, (ptr g0 0), undef, undef, undef, (z 8), (ptr h0 0), (sli gs 0 3 3), (sli bs 0 3 3), (eN 2), u112, u119, (eN (k + 1)), (eN d), (Value.bool true), (Value.bool false), u1, (eN bl.length), (Value.bool false), (Value.agg #[(eI gx1), (eI gy1), (eI gz1)]), (Value.agg #[(eN D), (eN B), (eN Q)]), (Value.agg #[(eI gx1), (eI gy1), (eI gz1)]), (Value.agg #[(eN D), (eN B), (eN Q)]), (Value.agg #[(eN D), (eN B), (eN Q)]), (sli gs 0 3 3), u1, u1, (Value.agg #[(eN D), (eN B), (eN Q)]), u2, u32, (sli bs 0 3 3), (eN 2), (Value.bool (decide (2 < 3))), (z 36), (z 37), (sli gs 0 3 3), (eN 2), (ptr gs 6), (Value.agg #[(eN D), (eN B), (eN Q)]), (sli bs 0 3 3), (eN 2), (ptr bs 2), u32, u112, (sli gs 0 3 3), (eN 2), (ptr gs 6), (Value.agg #[(eN D), (eN B), (eN Q)]), (sli bs 0 3 3), (eN 2), (ptr bs 2), u32, u119, u112, (eN ws113.length), u119, (eN ws120.length), (Value.bool false), (Value.bool false), (sli gs 0 3 3), (eN 2), (ptr gs 6), (Value.agg #[(eN D), (eN B), (eN Q)]), (eN 0), (sli gs 0 3 3), (eN 2), (ptr gs 6), (Value.agg #[(eN D), (eN B), (eN Q)]), (eN 0), (Value.bool false), (Value.bool false), (Value.bool false), (sli gs 0 3 3), (eN 2), (ptr gs 6), (Value.agg #[(eN D), (eN B), (eN Q)]), (eN (D - 2)), (sli gs 0 3 3), (eN 2), (ptr gs 6), (Value.agg #[(eN D), (eN B), (eN Q)]), (eN (D - 2)), (Value.bool false), (Value.bool false), (eN k), u112, (eN ws113.length), (Value.bool (decide (k < ws113.length))), (eN k), (eN (k + 1)), u112, (eN k), (ixp u112 k), (ws113.getD k undef), (eN ((supR (spoilL D B ls) B D k).length)), u119, (eN k), (ixp u119 k), (ws120.getD k undef), (eN ((supR (spoilL D B ls) B D k).length)), (Value.bool false), (eN d), u112, (eN k), (ixp u112 k), (ws113.getD k undef), (eN ((supR (spoilL D B ls) B D k).length)), (Value.bool (decide (d < ((supR (spoilL D B ls) B D k).length))))] ++ (zs z 111 47)) ?_
    refine wpL.done ?_
    refine then_n ?_
    refine ⟨_, (k + 1), rfl, rfl, ⟨?_, ?_, ?_, ?_, ?_, ?_⟩, ?_⟩
    ·
     (try dsimp only)
     all_goals (omega)
    ·
     exact o126
    ·
     exact a13
    ·
     exact a24
    ·
     exact a28
    ·
     exact a36
    ·
     (try dsimp only)
     all_goals (omega)
   refine wpIn_exit ?_
   refine then_x (then_x (inb_e ?_))
   refine then_n ?_
   refine wpIn_seq ?_
   refine drawn_pure [0, 0, 3, 7, 0, 31, 0, 0, 192, 448, 0, 2047, 4095, 8191, 16383, 16383, 65535, 131071, 16383, 278527, 1048575, 16383, 16383, 6307839, 14696447, 16383, 35651583, 134217727, 268435455, 536870911] [(0, 128), (1, 129), (2, 130), (3, 131), (4, 132), (5, 133), (6, 134), (7, 135), (8, 136), (9, 137), (10, 138), (11, 139), (12, 140), (13, 141), (14, 142), (15, 143), (16, 144), (17, 145), (18, 146), (19, 147), (20, 148), (21, 149), (22, 150), (23, 151), (24, 152), (25, 153), (26, 154), (27, 155), (28, 156), (29, 157)] [(sli gs 0 3 3), (eN 2), (ptr gs 6), (Value.agg #[(eN D), (eN B), (eN Q)]), (eI sp), (eI (gsec ((D : Nat) : Int) ((B : Nat) : Int) ((Q : Nat) : Int) sp)), (sli gs 0 3 3), (eN 2), (ptr gs 6), (Value.agg #[(eN D), (eN B), (eN Q)]), (eI sp), (eI (gsec ((D : Nat) : Int) ((B : Nat) : Int) ((Q : Nat) : Int) sp)), (Value.bool false), (Value.bool false), (sli gs 0 3 3), (eN 2), (ptr gs 6), (Value.agg #[(eN D), (eN B), (eN Q)]), (eI sp), (eN ((sp % ((14 : Nat) : Int)).toNat)), (eI (gsec ((D : Nat) : Int) ((B : Nat) : Int) ((Q : Nat) : Int) (((sp % ((14 : Nat) : Int)).toNat : Nat) : Int))), (sli gs 0 3 3), (eN 2), (ptr gs 6), (Value.agg #[(eN D), (eN B), (eN Q)]), (eI sp), (eN ((sp % ((14 : Nat) : Int)).toNat)), (eI (gsec ((D : Nat) : Int) ((B : Nat) : Int) ((Q : Nat) : Int) (((sp % ((14 : Nat) : Int)).toNat : Nat) : Int))), (Value.bool false), (Value.bool false)] ([(Value.agg #[(eI gx1), (eI gy1), (eI gz1)]), u1, (eI sp), u2, (ptr g0 0), undef, undef, undef, (z 8), (ptr h0 0), (sli gs 0 3 3), (sli bs 0 3 3), (eN 2), u112, u119, (eN k), (z 16), (Value.bool true), (Value.bool false), u1, (eN bl.length), (Value.bool false), (Value.agg #[(eI gx1), (eI gy1), (eI gz1)]), (Value.agg #[(eN D), (eN B), (eN Q)]), (Value.agg #[(eI gx1), (eI gy1), (eI gz1)]), (Value.agg #[(eN D), (eN B), (eN Q)]), (Value.agg #[(eN D), (eN B), (eN Q)]), (sli gs 0 3 3), u1, u1, (Value.agg #[(eN D), (eN B), (eN Q)]), u2, u32, (sli bs 0 3 3), (eN 2), (Value.bool (decide (2 < 3))), (z 36), (z 37), (sli gs 0 3 3), (eN 2), (ptr gs 6), (Value.agg #[(eN D), (eN B), (eN Q)]), (sli bs 0 3 3), (eN 2), (ptr bs 2), u32, u112, (sli gs 0 3 3), (eN 2), (ptr gs 6), (Value.agg #[(eN D), (eN B), (eN Q)]), (sli bs 0 3 3), (eN 2), (ptr bs 2), u32, u119, u112, (eN ws113.length), u119, (eN ws120.length), (Value.bool false), (Value.bool false), (sli gs 0 3 3), (eN 2), (ptr gs 6), (Value.agg #[(eN D), (eN B), (eN Q)]), (eN 0), (sli gs 0 3 3), (eN 2), (ptr gs 6), (Value.agg #[(eN D), (eN B), (eN Q)]), (eN 0), (Value.bool false), (Value.bool false), (Value.bool false), (sli gs 0 3 3), (eN 2), (ptr gs 6), (Value.agg #[(eN D), (eN B), (eN Q)]), (eN (D - 2)), (sli gs 0 3 3), (eN 2), (ptr gs 6), (Value.agg #[(eN D), (eN B), (eN Q)]), (eN (D - 2)), (Value.bool false), (Value.bool false), (eN k), u112, (eN ws113.length), (Value.bool (decide (k < ws113.length)))] ++ (zs z 91 37 ++ [(sli gs 0 3 3), (eN 2), (ptr gs 6), (Value.agg #[(eN D), (eN B), (eN Q)]), (eI sp), (eI (gsec ((D : Nat) : Int) ((B : Nat) : Int) ((Q : Nat) : Int) sp)), (sli gs 0 3 3), (eN 2), (ptr gs 6), (Value.agg #[(eN D), (eN B), (eN Q)]), (eI sp), (eI (gsec ((D : Nat) : Int) ((B : Nat) : Int) ((Q : Nat) : Int) sp)), (Value.bool false), (Value.bool false), (sli gs 0 3 3), (eN 2), (ptr gs 6), (Value.agg #[(eN D), (eN B), (eN Q)]), (eI sp), (eN ((sp % ((14 : Nat) : Int)).toNat)), (eI (gsec ((D : Nat) : Int) ((B : Nat) : Int) ((Q : Nat) : Int) (((sp % ((14 : Nat) : Int)).toNat : Nat) : Int))), (sli gs 0 3 3), (eN 2), (ptr gs 6), (Value.agg #[(eN D), (eN B), (eN Q)]), (eI sp), (eN ((sp % ((14 : Nat) : Int)).toNat)), (eI (gsec ((D : Nat) : Int) ((B : Nat) : Int) ((Q : Nat) : Int) (((sp % ((14 : Nat) : Int)).toNat : Nat) : Int))), (Value.bool false), (Value.bool false)])) s_mx (by kernel_rfl) (by kernel_rfl) rfl (by kernel_rfl) (by kernel_rfl) ?_ ?_
   ·
    intro w_ hO_
    refine AllG.cons (gi rfl (d_move rfl)) ?_
    refine AllG.cons (gi rfl (d_move rfl)) ?_
    refine AllG.cons (gi rfl (d_index (b := gs) (o := 0) (n := 3) (c := 3) (j := 6) Try.underlying44 s_ti25 rfl (show _ = Value.int _ ((2 : Nat) : Int) from rfl) (by omega) (by omega) (by simp))) ?_
    refine AllG.cons (gi rfl (d_loadAg (vs := [(eN D), (eN B), (eN Q)]) ⟨_, Try.underlying25, rfl⟩ s_ti25 rfl (a28.step0 hO_) rfl rfl)) ?_
    refine AllG.cons (gi rfl (d_move rfl)) ?_
    refine AllG.cons (gc rfl (d_call (xl := [.tmp 131, .tmp 132]) (al := [(Value.agg #[(eN D), (eN B), (eN Q)]), (eI sp)]) Try.func17 (by kernel_rfl) rfl rfl rfl (gSectors_ok ((D : Nat) : Int) ((B : Nat) : Int) ((Q : Nat) : Int) sp _))) ?_
    refine AllG.cons (gi rfl (d_move rfl)) ?_
    refine AllG.cons (gi rfl (d_move rfl)) ?_
    refine AllG.cons (gi rfl (d_index (b := gs) (o := 0) (n := 3) (c := 3) (j := 6) Try.underlying44 s_ti25 rfl (show _ = Value.int _ ((2 : Nat) : Int) from rfl) (by omega) (by omega) (by simp))) ?_
    refine AllG.cons (gi rfl (d_loadAg (vs := [(eN D), (eN B), (eN Q)]) ⟨_, Try.underlying25, rfl⟩ s_ti25 rfl (a28.step0 hO_) rfl rfl)) ?_
    refine AllG.cons (gi rfl (d_move rfl)) ?_
    refine AllG.cons (gc rfl (d_call (xl := [.tmp 137, .tmp 138]) (al := [(Value.agg #[(eN D), (eN B), (eN Q)]), (eI sp)]) Try.func37 (by kernel_rfl) rfl rfl rfl (ref9Sectors_ok ((D : Nat) : Int) ((B : Nat) : Int) ((Q : Nat) : Int) sp _))) ?_
    refine AllG.cons (gi rfl (d_neq (k := .i64) (m := gsec ((D : Nat) : Int) ((B : Nat) : Int) ((Q : Nat) : Int) sp) (n := gsec ((D : Nat) : Int) ((B : Nat) : Int) ((Q : Nat) : Int) sp) rfl rfl (by rw [decide_eq_true rfl] <;> rfl))) ?_
    refine AllG.cons (gi rfl (d_move rfl)) ?_
    refine AllG.cons (gi_on rfl rfl rfl (nb rfl) rfl (d_move rfl)) ?_
    refine AllG.cons (gi_on rfl rfl rfl (nb rfl) rfl (d_move rfl)) ?_
    refine AllG.cons (gi_on rfl rfl rfl (nb rfl) rfl (d_index (b := gs) (o := 0) (n := 3) (c := 3) (j := 6) Try.underlying44 s_ti25 rfl (show _ = Value.int _ ((2 : Nat) : Int) from rfl) (by omega) (by omega) (by simp))) ?_
    refine AllG.cons (gi_on rfl rfl rfl (nb rfl) rfl (d_loadAg (vs := [(eN D), (eN B), (eN Q)]) ⟨_, Try.underlying25, rfl⟩ s_ti25 rfl (a28.step0 hO_) rfl rfl)) ?_
    refine AllG.cons (gi_on rfl rfl rfl (nb rfl) rfl (d_move rfl)) ?_
    refine AllG.cons (gc_on rfl rfl rfl (nb rfl) rfl (d_call (xl := [.tmp 146, .const (.int .i64 14)]) (al := [(eI sp), (eN 14)]) Try.func16 (by kernel_rfl) rfl rfl rfl (law9Within_ok sp 14 _ (by omega) (by omega)))) ?_
    refine AllG.cons (gc_on rfl rfl rfl (nb rfl) rfl (d_call (xl := [.tmp 145, .tmp 147]) (al := [(Value.agg #[(eN D), (eN B), (eN Q)]), (eN ((sp % ((14 : Nat) : Int)).toNat))]) Try.func17 (by kernel_rfl) rfl rfl rfl (gSectors_ok ((D : Nat) : Int) ((B : Nat) : Int) ((Q : Nat) : Int) (((sp % ((14 : Nat) : Int)).toNat : Nat) : Int) _))) ?_
    refine AllG.cons (gi_on rfl rfl rfl (nb rfl) rfl (d_move rfl)) ?_
    refine AllG.cons (gi_on rfl rfl rfl (nb rfl) rfl (d_move rfl)) ?_
    refine AllG.cons (gi_on rfl rfl rfl (nb rfl) rfl (d_index (b := gs) (o := 0) (n := 3) (c := 3) (j := 6) Try.underlying44 s_ti25 rfl (show _ = Value.int _ ((2 : Nat) : Int) from rfl) (by omega) (by omega) (by simp))) ?_
    refine AllG.cons (gi_on rfl rfl rfl (nb rfl) rfl (d_loadAg (vs := [(eN D), (eN B), (eN Q)]) ⟨_, Try.underlying25, rfl⟩ s_ti25 rfl (a28.step0 hO_) rfl rfl)) ?_
    refine AllG.cons (gi_on rfl rfl rfl (nb rfl) rfl (d_move rfl)) ?_
    refine AllG.cons (gc_on rfl rfl rfl (nb rfl) rfl (d_call (xl := [.tmp 153, .const (.int .i64 14)]) (al := [(eI sp), (eN 14)]) Try.func16 (by kernel_rfl) rfl rfl rfl (law9Within_ok sp 14 _ (by omega) (by omega)))) ?_
    refine AllG.cons (gc_on rfl rfl rfl (nb rfl) rfl (d_call (xl := [.tmp 152, .tmp 154]) (al := [(Value.agg #[(eN D), (eN B), (eN Q)]), (eN ((sp % ((14 : Nat) : Int)).toNat))]) Try.func37 (by kernel_rfl) rfl rfl rfl (ref9Sectors_ok ((D : Nat) : Int) ((B : Nat) : Int) ((Q : Nat) : Int) (((sp % ((14 : Nat) : Int)).toNat : Nat) : Int) _))) ?_
    refine AllG.cons (gi_on rfl rfl rfl (nb rfl) rfl (d_neq (k := .i64) (m := gsec ((D : Nat) : Int) ((B : Nat) : Int) ((Q : Nat) : Int) (((sp % ((14 : Nat) : Int)).toNat : Nat) : Int)) (n := gsec ((D : Nat) : Int) ((B : Nat) : Int) ((Q : Nat) : Int) (((sp % ((14 : Nat) : Int)).toNat : Nat) : Int)) rfl rfl (by rw [decide_eq_true rfl] <;> rfl))) ?_
    refine AllG.cons (gi rfl (d_pick (b := false) (v := (Value.bool false)) rfl rfl)) ?_
    exact AllG.nil
   intro w138 o139
   replace h1 := h1.step0 o139
   replace h2 := h2.step0 o139
   replace f33 := f33.step0 o139
   replace f115 := f115.step0 o139
   replace g116 := g116.step0 o139
   replace f122 := f122.step0 o139
   replace g123 := g123.step0 o139
   replace a13 := a13.step0 o139
   replace a24 := a24.step0 o139
   replace a28 := a28.step0 o139
   replace a36 := a36.step0 o139
   replace oW := oW.tail0 o139
   replace o38 := o38.tail0 o139
   replace o126 := o126.tail0 o139
   refine then_n ?_
   refine cond_f rfl ?_
   refine wpIn_skip ?_
   refine inb_n (then_n ?_)
   refine plain ?_
   refine wI (d_move rfl) ?_
   refine wI (n_add (a := 2) (b := 1) rfl rfl (by omega)) ?_
   refine wI (d_assign rfl) ?_
   refine wF ([(Value.agg #[(eI gx1), (eI gy1), (eI gz1)]), u1, (eI sp), u2, (ptr g0 0), undef, undef, undef, (z 8), (ptr h0 0), (sli gs 0 3 3), (sli bs 0 3 3), (eN 3), u112, u119, (eN k), (z 16), (Value.bool true), (Value.bool false), u1, (eN bl.length), (Value.bool false), (Value.agg #[(eI gx1), (eI gy1), (eI gz1)]), (Value.agg #[(eN D), (eN B), (eN Q)]), (Value.agg #[(eI gx1), (eI gy1), (eI gz1)]), (Value.agg #[(eN D), (eN B), (eN Q)]), (Value.agg #[(eN D), (eN B), (eN Q)]), (sli gs 0 3 3), u1, u1, (Value.agg #[(eN D), (eN B), (eN Q)]), u2, u32, (sli bs 0 3 3), (eN 2), (Value.bool (decide (2 < 3))), (eN 2), (eN 3), (sli gs 0 3 3), (eN 2), (ptr gs 6), (Value.agg #[(eN D), (eN B), (eN Q)]), (sli bs 0 3 3), (eN 2), (ptr bs 2), u32, u112, (sli gs 0 3 3), (eN 2), (ptr gs 6), (Value.agg #[(eN D), (eN B), (eN Q)]), (sli bs 0 3 3), (eN 2), (ptr bs 2), u32, u119, u112, (eN ws113.length), u119, (eN ws120.length), (Value.bool false), (Value.bool false), (sli gs 0 3 3), (eN 2), (ptr gs 6), (Value.agg #[(eN D), (eN B), (eN Q)]), (eN 0), (sli gs 0 3 3), (eN 2), (ptr gs 6), (Value.agg #[(eN D), (eN B), (eN Q)]), (eN 0), (Value.bool false), (Value.bool false), (Value.bool false), (sli gs 0 3 3), (eN 2), (ptr gs 6), (Value.agg #[(eN D), (eN B), (eN Q)]), (eN (D - 2)), (sli gs 0 3 3), (eN 2), (ptr gs 6), (Value.agg #[(eN D), (eN B), (eN Q)]), (eN (D - 2)), (Value.bool false), (Value.bool false), (eN k), u112, (eN ws113.length), (Value.bool (decide (k < ws113.length)))] ++ (zs z 91 37 ++ [(sli gs 0 3 3), (eN 2), (ptr gs 6), (Value.agg #[(eN D), (eN B), (eN Q)]), (eI sp), (eI (gsec ((D : Nat) : Int) ((B : Nat) : Int) ((Q : Nat) : Int) sp)), (sli gs 0 3 3), (eN 2), (ptr gs 6), (Value.agg #[(eN D), (eN B), (eN Q)]), (eI sp), (eI (gsec ((D : Nat) : Int) ((B : Nat) : Int) ((Q : Nat) : Int) sp)), (Value.bool false), (Value.bool false), (sli gs 0 3 3), (eN 2), (ptr gs 6), (Value.agg #[(eN D), (eN B), (eN Q)]), (eI sp), (eN ((sp % ((14 : Nat) : Int)).toNat)), (eI (gsec ((D : Nat) : Int) ((B : Nat) : Int) ((Q : Nat) : Int) (((sp % ((14 : Nat) : Int)).toNat : Nat) : Int))), (sli gs 0 3 3), (eN 2), (ptr gs 6), (Value.agg #[(eN D), (eN B), (eN Q)]), (eI sp), (eN ((sp % ((14 : Nat) : Int)).toNat)), (eI (gsec ((D : Nat) : Int) ((B : Nat) : Int) ((Q : Nat) : Int) (((sp % ((14 : Nat) : Int)).toNat : Nat) : Int))), (Value.bool false), (Value.bool false)])) ?_
   refine wpL.done ?_
   refine then_n ?_
   refine ⟨_, 3, rfl, rfl, ⟨?_, ?_, ?_, ?_, ?_, ?_⟩, ?_⟩
   ·
    (try dsimp only)
    all_goals (omega)
   ·
    exact o38
   ·
    exact a13
   ·
    exact a24
   ·
    exact a28
   ·
    exact a36
   ·
    (try dsimp only)
    all_goals (omega)
  have hi0 : i = 0 := Nat.eq_zero_of_not_pos (fun h_ => kf (.inr h_))
  have hfz : ¬ fitsI gx1 gy1 gz1 = true := fun h_ => kf (.inl h_)
  clear kf
  subst hi0
  refine wp_eq (l' := ([(Value.agg #[(eI gx1), (eI gy1), (eI gz1)]), u1, (eI sp), u2, (ptr g0 0), undef, undef, undef, (z 8), (ptr h0 0), (sli gs 0 3 3), (sli bs 0 3 3), (eN 0), (z 13), (z 14), (z 15), (z 16), (Value.bool true), (Value.bool false), u1, (eN bl.length), (Value.bool false), (Value.agg #[(eI gx1), (eI gy1), (eI gz1)]), (Value.agg #[(eN D), (eN B), (eN Q)]), (Value.agg #[(eI gx1), (eI gy1), (eI gz1)]), (Value.agg #[(eN D), (eN B), (eN Q)]), (Value.agg #[(eN D), (eN B), (eN Q)]), (sli gs 0 3 3), u1, u1, (Value.agg #[(eN D), (eN B), (eN Q)]), u2, u32, (sli bs 0 3 3), (eN 0), (Value.bool (decide (0 < 3)))] ++ (zs z 36 122))) rfl ?_
  refine drawn_pure [0, 0, 3, 7, 0, 0, 48, 112, 255, 0, 0, 1536, 3584, 0, 0, 24576, 57344, 131071, 262143, 524287] [(0, 38), (1, 39), (2, 40), (3, 41), (4, 42), (5, 43), (6, 44), (7, 45), (8, 46), (9, 47), (10, 48), (11, 49), (12, 50), (13, 51), (14, 52), (15, 53), (16, 54), (17, 55), (18, 13), (19, 14)] [(sli gs 0 3 3), (eN 0), (ptr gs 0), (Value.agg #[(eI gx1), (eI gy1), (eI gz1)]), (sli bs 0 3 3), (eN 0), (ptr bs 0), u1, (Value.slice none 0 0), (sli gs 0 3 3), (eN 0), (ptr gs 0), (Value.agg #[(eI gx1), (eI gy1), (eI gz1)]), (sli bs 0 3 3), (eN 0), (ptr bs 0), u1, (Value.slice none 0 0), (Value.slice none 0 0), (Value.slice none 0 0)] ([(Value.agg #[(eI gx1), (eI gy1), (eI gz1)]), u1, (eI sp), u2, (ptr g0 0), undef, undef, undef, (z 8), (ptr h0 0), (sli gs 0 3 3), (sli bs 0 3 3), (eN 0), (Value.slice none 0 0), (Value.slice none 0 0), (z 15), (z 16), (Value.bool true), (Value.bool false), u1, (eN bl.length), (Value.bool false), (Value.agg #[(eI gx1), (eI gy1), (eI gz1)]), (Value.agg #[(eN D), (eN B), (eN Q)]), (Value.agg #[(eI gx1), (eI gy1), (eI gz1)]), (Value.agg #[(eN D), (eN B), (eN Q)]), (Value.agg #[(eN D), (eN B), (eN Q)]), (sli gs 0 3 3), u1, u1, (Value.agg #[(eN D), (eN B), (eN Q)]), u2, u32, (sli bs 0 3 3), (eN 0), (Value.bool (decide (0 < 3))), (z 36), (z 37), (sli gs 0 3 3), (eN 0), (ptr gs 0), (Value.agg #[(eI gx1), (eI gy1), (eI gz1)]), (sli bs 0 3 3), (eN 0), (ptr bs 0), u1, (Value.slice none 0 0), (sli gs 0 3 3), (eN 0), (ptr gs 0), (Value.agg #[(eI gx1), (eI gy1), (eI gz1)]), (sli bs 0 3 3), (eN 0), (ptr bs 0), u1, (Value.slice none 0 0)] ++ (zs z 56 102)) s_mx (by kernel_rfl) (by kernel_rfl) rfl (by kernel_rfl) (by kernel_rfl) ?_ ?_
  ·
   intro w_ hO_
   refine AllG.cons (gi rfl (d_move rfl)) ?_
   refine AllG.cons (gi rfl (d_move rfl)) ?_
   refine AllG.cons (gi rfl (d_index (b := gs) (o := 0) (n := 3) (c := 3) (j := 0) Try.underlying44 s_ti25 rfl (show _ = Value.int _ ((0 : Nat) : Int) from rfl) (by omega) (by omega) (by simp))) ?_
   refine AllG.cons (gi rfl (d_loadAg (vs := [(eI gx1), (eI gy1), (eI gz1)]) ⟨_, Try.underlying25, rfl⟩ s_ti25 rfl (a28.step0 hO_) rfl rfl)) ?_
   refine AllG.cons (gi rfl (d_move rfl)) ?_
   refine AllG.cons (gi rfl (d_move rfl)) ?_
   refine AllG.cons (gi rfl (d_index1 (n := 3) (i := 0) Try.underlying46 s_ti42 rfl (show _ = Value.int _ ((0 : Nat) : Int) from rfl) (by omega))) ?_
   refine AllG.cons (gi rfl (d_load (v := u1) ⟨_, Try.underlying42, rfl⟩ rfl (a36.step0 hO_) rfl)) ?_
   refine AllG.cons (gc rfl (d_call (xl := [.tmp 41, .tmp 45]) (al := [(Value.agg #[(eI gx1), (eI gy1), (eI gz1)]), u1]) Try.func31 (by kernel_rfl) rfl rfl rfl (superso_ok gx1 gy1 gz1 u1 _ (show fitsI gx1 gy1 gz1 = false from (Bool.eq_false_iff.2 hfz))))) ?_
   refine AllG.cons (gi rfl (d_move rfl)) ?_
   refine AllG.cons (gi rfl (d_move rfl)) ?_
   refine AllG.cons (gi rfl (d_index (b := gs) (o := 0) (n := 3) (c := 3) (j := 0) Try.underlying44 s_ti25 rfl (show _ = Value.int _ ((0 : Nat) : Int) from rfl) (by omega) (by omega) (by simp))) ?_
   refine AllG.cons (gi rfl (d_loadAg (vs := [(eI gx1), (eI gy1), (eI gz1)]) ⟨_, Try.underlying25, rfl⟩ s_ti25 rfl (a28.step0 hO_) rfl rfl)) ?_
   refine AllG.cons (gi rfl (d_move rfl)) ?_
   refine AllG.cons (gi rfl (d_move rfl)) ?_
   refine AllG.cons (gi rfl (d_index1 (n := 3) (i := 0) Try.underlying46 s_ti42 rfl (show _ = Value.int _ ((0 : Nat) : Int) from rfl) (by omega))) ?_
   refine AllG.cons (gi rfl (d_load (v := u1) ⟨_, Try.underlying42, rfl⟩ rfl (a36.step0 hO_) rfl)) ?_
   refine AllG.cons (gc rfl (d_call (xl := [.tmp 50, .tmp 54]) (al := [(Value.agg #[(eI gx1), (eI gy1), (eI gz1)]), u1]) Try.func32 (by kernel_rfl) rfl rfl rfl (ref9Superso_ok gx1 gy1 gz1 u1 _ (show fitsI gx1 gy1 gz1 = false from (Bool.eq_false_iff.2 hfz))))) ?_
   refine AllG.cons (gi rfl (d_assign rfl)) ?_
   refine AllG.cons (gi rfl (d_assign rfl)) ?_
   exact AllG.nil
  intro w140 o141
  replace h1 := h1.step0 o141
  replace h2 := h2.step0 o141
  replace f33 := f33.step0 o141
  replace a13 := a13.step0 o141
  replace a24 := a24.step0 o141
  replace a28 := a28.step0 o141
  replace a36 := a36.step0 o141
  replace oW := oW.tail0 o141
  replace o38 := o38.tail0 o141
  refine then_n ?_
  refine wpIn_seq ?_
  refine wpIn_seq ?_
  refine drawn_pure [0, 1, 0, 4, 15, 31, 63, 63, 255, 511, 1023, 63, 63, 6207, 14399, 32767, 65535, 131071, 262143, 524287, 524287, 2097151, 4194303, 8388607, 524287, 524287, 50855935, 117964799, 268435455, 536870911, 1073741823] [(0, 56), (1, 57), (2, 58), (3, 59), (4, 60), (5, 61), (6, 62), (7, 63), (8, 64), (9, 65), (10, 66), (11, 67), (12, 68), (13, 69), (14, 70), (15, 71), (16, 72), (17, 73), (18, 74), (19, 75), (20, 76), (21, 77), (22, 78), (23, 79), (24, 80), (25, 81), (26, 82), (27, 83), (28, 84), (29, 85), (30, 86)] [(Value.slice none 0 0), (eN 0), (Value.slice none 0 0), (eN 0), (Value.bool false), (Value.bool false), (sli gs 0 3 3), (eN 0), (ptr gs 0), (Value.agg #[(eI gx1), (eI gy1), (eI gz1)]), (eN 1), (sli gs 0 3 3), (eN 0), (ptr gs 0), (Value.agg #[(eI gx1), (eI gy1), (eI gz1)]), (eN 1), (Value.bool false), (Value.bool false), (Value.bool false), (sli gs 0 3 3), (eN 0), (ptr gs 0), (Value.agg #[(eI gx1), (eI gy1), (eI gz1)]), (eN 0), (sli gs 0 3 3), (eN 0), (ptr gs 0), (Value.agg #[(eI gx1), (eI gy1), (eI gz1)]), (eN 0), (Value.bool false), (Value.bool false)] ([(Value.agg #[(eI gx1), (eI gy1), (eI gz1)]), u1, (eI sp), u2, (ptr g0 0), undef, undef, undef, (z 8), (ptr h0 0), (sli gs 0 3 3), (sli bs 0 3 3), (eN 0), (Value.slice none 0 0), (Value.slice none 0 0), (z 15), (z 16), (Value.bool true), (Value.bool false), u1, (eN bl.length), (Value.bool false), (Value.agg #[(eI gx1), (eI gy1), (eI gz1)]), (Value.agg #[(eN D), (eN B), (eN Q)]), (Value.agg #[(eI gx1), (eI gy1), (eI gz1)]), (Value.agg #[(eN D), (eN B), (eN Q)]), (Value.agg #[(eN D), (eN B), (eN Q)]), (sli gs 0 3 3), u1, u1, (Value.agg #[(eN D), (eN B), (eN Q)]), u2, u32, (sli bs 0 3 3), (eN 0), (Value.bool (decide (0 < 3))), (z 36), (z 37), (sli gs 0 3 3), (eN 0), (ptr gs 0), (Value.agg #[(eI gx1), (eI gy1), (eI gz1)]), (sli bs 0 3 3), (eN 0), (ptr bs 0), u1, (Value.slice none 0 0), (sli gs 0 3 3), (eN 0), (ptr gs 0), (Value.agg #[(eI gx1), (eI gy1), (eI gz1)]), (sli bs 0 3 3), (eN 0), (ptr bs 0), u1, (Value.slice none 0 0), (Value.slice none 0 0), (eN 0), (Value.slice none 0 0), (eN 0), (Value.bool false), (Value.bool false), (sli gs 0 3 3), (eN 0), (ptr gs 0), (Value.agg #[(eI gx1), (eI gy1), (eI gz1)]), (eN 1), (sli gs 0 3 3), (eN 0), (ptr gs 0), (Value.agg #[(eI gx1), (eI gy1), (eI gz1)]), (eN 1), (Value.bool false), (Value.bool false), (Value.bool false), (sli gs 0 3 3), (eN 0), (ptr gs 0), (Value.agg #[(eI gx1), (eI gy1), (eI gz1)]), (eN 0), (sli gs 0 3 3), (eN 0), (ptr gs 0), (Value.agg #[(eI gx1), (eI gy1), (eI gz1)]), (eN 0), (Value.bool false), (Value.bool false)] ++ (zs z 87 71)) s_mx (by kernel_rfl) (by kernel_rfl) rfl (by kernel_rfl) (by kernel_rfl) ?_ ?_
  ·
   intro w_ hO_
   refine AllG.cons (gi rfl (d_move rfl)) ?_
   refine AllG.cons (gi rfl (d_len rfl Try.underlying47 rfl)) ?_
   refine AllG.cons (gi rfl (d_move rfl)) ?_
   refine AllG.cons (gi rfl (d_len rfl Try.underlying47 rfl)) ?_
   refine AllG.cons (gi rfl (n_neq (a := 0) (b := 0) rfl rfl (by rw [decide_eq_true rfl] <;> rfl))) ?_
   refine AllG.cons (gi rfl (d_move rfl)) ?_
   refine AllG.cons (gi_on rfl rfl rfl (nb rfl) rfl (d_move rfl)) ?_
   refine AllG.cons (gi_on rfl rfl rfl (nb rfl) rfl (d_move rfl)) ?_
   refine AllG.cons (gi_on rfl rfl rfl (nb rfl) rfl (d_index (b := gs) (o := 0) (n := 3) (c := 3) (j := 0) Try.underlying44 s_ti25 rfl (show _ = Value.int _ ((0 : Nat) : Int) from rfl) (by omega) (by omega) (by simp))) ?_
   refine AllG.cons (gi_on rfl rfl rfl (nb rfl) rfl (d_loadAg (vs := [(eI gx1), (eI gy1), (eI gz1)]) ⟨_, Try.underlying25, rfl⟩ s_ti25 rfl (a28.step0 hO_) rfl rfl)) ?_
   refine AllG.cons (gc_on rfl rfl rfl (nb rfl) rfl (d_call (xl := [.tmp 65]) (al := [(Value.agg #[(eI gx1), (eI gy1), (eI gz1)])]) Try.func33 (by kernel_rfl) rfl rfl rfl (cw_is (v' := eN 1) (gCheck_ok gx1 gy1 gz1 _) (by rw [(show fitsI gx1 gy1 gz1 = false from (Bool.eq_false_iff.2 hfz))] <;> rfl)))) ?_
   refine AllG.cons (gi_on rfl rfl rfl (nb rfl) rfl (d_move rfl)) ?_
   refine AllG.cons (gi_on rfl rfl rfl (nb rfl) rfl (d_move rfl)) ?_
   refine AllG.cons (gi_on rfl rfl rfl (nb rfl) rfl (d_index (b := gs) (o := 0) (n := 3) (c := 3) (j := 0) Try.underlying44 s_ti25 rfl (show _ = Value.int _ ((0 : Nat) : Int) from rfl) (by omega) (by omega) (by simp))) ?_
   refine AllG.cons (gi_on rfl rfl rfl (nb rfl) rfl (d_loadAg (vs := [(eI gx1), (eI gy1), (eI gz1)]) ⟨_, Try.underlying25, rfl⟩ s_ti25 rfl (a28.step0 hO_) rfl rfl)) ?_
   refine AllG.cons (gc_on rfl rfl rfl (nb rfl) rfl (d_call (xl := [.tmp 70]) (al := [(Value.agg #[(eI gx1), (eI gy1), (eI gz1)])]) Try.func34 (by kernel_rfl) rfl rfl rfl (cw_is (v' := eN 1) (ref9Check_ok gx1 gy1 gz1 _) (by rw [(show fitsI gx1 gy1 gz1 = false from (Bool.eq_false_iff.2 hfz))] <;> rfl)))) ?_
   refine AllG.cons (gi_on rfl rfl rfl (nb rfl) rfl (n_neq (a := 1) (b := 1) rfl rfl (by rw [decide_eq_true rfl] <;> rfl))) ?_
   refine AllG.cons (gi rfl (d_pick (b := false) (v := (Value.bool false)) rfl rfl)) ?_
   refine AllG.cons (gi rfl (d_move rfl)) ?_
   refine AllG.cons (gi_on rfl rfl rfl (nb rfl) rfl (d_move rfl)) ?_
   refine AllG.cons (gi_on rfl rfl rfl (nb rfl) rfl (d_move rfl)) ?_
   refine AllG.cons (gi_on rfl rfl rfl (nb rfl) rfl (d_index (b := gs) (o := 0) (n := 3) (c := 3) (j := 0) Try.underlying44 s_ti25 rfl (show _ = Value.int _ ((0 : Nat) : Int) from rfl) (by omega) (by omega) (by simp))) ?_
   refine AllG.cons (gi_on rfl rfl rfl (nb rfl) rfl (d_loadAg (vs := [(eI gx1), (eI gy1), (eI gz1)]) ⟨_, Try.underlying25, rfl⟩ s_ti25 rfl (a28.step0 hO_) rfl rfl)) ?_
   refine AllG.cons (gc_on rfl rfl rfl (nb rfl) rfl (d_call (xl := [.tmp 78]) (al := [(Value.agg #[(eI gx1), (eI gy1), (eI gz1)])]) Try.func35 (by kernel_rfl) rfl rfl rfl (cw_is (gSlots_ok gx1 gy1 gz1 _) (congrArg eI (if_neg (Bool.eq_false_iff.1 (show fitsI gx1 gy1 gz1 = false from (Bool.eq_false_iff.2 hfz)))))))) ?_
   refine AllG.cons (gi_on rfl rfl rfl (nb rfl) rfl (d_move rfl)) ?_
   refine AllG.cons (gi_on rfl rfl rfl (nb rfl) rfl (d_move rfl)) ?_
   refine AllG.cons (gi_on rfl rfl rfl (nb rfl) rfl (d_index (b := gs) (o := 0) (n := 3) (c := 3) (j := 0) Try.underlying44 s_ti25 rfl (show _ = Value.int _ ((0 : Nat) : Int) from rfl) (by omega) (by omega) (by simp))) ?_
   refine AllG.cons (gi_on rfl rfl rfl (nb rfl) rfl (d_loadAg (vs := [(eI gx1), (eI gy1), (eI gz1)]) ⟨_, Try.underlying25, rfl⟩ s_ti25 rfl (a28.step0 hO_) rfl rfl)) ?_
   refine AllG.cons (gc_on rfl rfl rfl (nb rfl) rfl (d_call (xl := [.tmp 83]) (al := [(Value.agg #[(eI gx1), (eI gy1), (eI gz1)])]) Try.func36 (by kernel_rfl) rfl rfl rfl (cw_is (ref9Slots_ok gx1 gy1 gz1 _) (congrArg eI (if_neg (Bool.eq_false_iff.1 (show fitsI gx1 gy1 gz1 = false from (Bool.eq_false_iff.2 hfz)))))))) ?_
   refine AllG.cons (gi_on rfl rfl rfl (nb rfl) rfl (n_neq (a := 0) (b := 0) rfl rfl (by rw [decide_eq_true rfl] <;> rfl))) ?_
   refine AllG.cons (gi rfl (d_pick (b := false) (v := (Value.bool false)) rfl rfl)) ?_
   exact AllG.nil
  intro w142 o143
  replace h1 := h1.step0 o143
  replace h2 := h2.step0 o143
  replace f33 := f33.step0 o143
  replace a13 := a13.step0 o143
  replace a24 := a24.step0 o143
  replace a28 := a28.step0 o143
  replace a36 := a36.step0 o143
  replace oW := oW.tail0 o143
  replace o38 := o38.tail0 o143
  refine then_n ?_
  refine cond_f rfl ?_
  refine wpIn_skip ?_
  refine then_n ?_
  refine wpIn_seq ?_
  refine wpIn_seq ?_
  refine plain ?_
  refine wI (d_assign rfl) ?_
  refine wF ([(Value.agg #[(eI gx1), (eI gy1), (eI gz1)]), u1, (eI sp), u2, (ptr g0 0), undef, undef, undef, (z 8), (ptr h0 0), (sli gs 0 3 3), (sli bs 0 3 3), (eN 0), (Value.slice none 0 0), (Value.slice none 0 0), (eN 0), (z 16), (Value.bool true), (Value.bool false), u1, (eN bl.length), (Value.bool false), (Value.agg #[(eI gx1), (eI gy1), (eI gz1)]), (Value.agg #[(eN D), (eN B), (eN Q)]), (Value.agg #[(eI gx1), (eI gy1), (eI gz1)]), (Value.agg #[(eN D), (eN B), (eN Q)]), (Value.agg #[(eN D), (eN B), (eN Q)]), (sli gs 0 3 3), u1, u1, (Value.agg #[(eN D), (eN B), (eN Q)]), u2, u32, (sli bs 0 3 3), (eN 0), (Value.bool (decide (0 < 3))), (z 36), (z 37), (sli gs 0 3 3), (eN 0), (ptr gs 0), (Value.agg #[(eI gx1), (eI gy1), (eI gz1)]), (sli bs 0 3 3), (eN 0), (ptr bs 0), u1, (Value.slice none 0 0), (sli gs 0 3 3), (eN 0), (ptr gs 0), (Value.agg #[(eI gx1), (eI gy1), (eI gz1)]), (sli bs 0 3 3), (eN 0), (ptr bs 0), u1, (Value.slice none 0 0), (Value.slice none 0 0), (eN 0), (Value.slice none 0 0), (eN 0), (Value.bool false), (Value.bool false), (sli gs 0 3 3), (eN 0), (ptr gs 0), (Value.agg #[(eI gx1), (eI gy1), (eI gz1)]), (eN 1), (sli gs 0 3 3), (eN 0), (ptr gs 0), (Value.agg #[(eI gx1), (eI gy1), (eI gz1)]), (eN 1), (Value.bool false), (Value.bool false), (Value.bool false), (sli gs 0 3 3), (eN 0), (ptr gs 0), (Value.agg #[(eI gx1), (eI gy1), (eI gz1)]), (eN 0), (sli gs 0 3 3), (eN 0), (ptr gs 0), (Value.agg #[(eI gx1), (eI gy1), (eI gz1)]), (eN 0), (Value.bool false), (Value.bool false)] ++ (zs z 87 71)) ?_
  refine wpL.done ?_
  refine then_n ?_
  refine wpIn_block ?_
  refine loop2 (fun (k : (Nat)) => fun (z : Nat → Value) => (([(Value.agg #[(eI gx1), (eI gy1), (eI gz1)]), u1, (eI sp), u2, (ptr g0 0), undef, undef, undef, (z 8), (ptr h0 0), (sli gs 0 3 3), (sli bs 0 3 3), (eN 0), (Value.slice none 0 0), (Value.slice none 0 0), (eN k), (z 16), (Value.bool true), (Value.bool false), u1, (eN bl.length), (Value.bool false), (Value.agg #[(eI gx1), (eI gy1), (eI gz1)]), (Value.agg #[(eN D), (eN B), (eN Q)]), (Value.agg #[(eI gx1), (eI gy1), (eI gz1)]), (Value.agg #[(eN D), (eN B), (eN Q)]), (Value.agg #[(eN D), (eN B), (eN Q)]), (sli gs 0 3 3), u1, u1, (Value.agg #[(eN D), (eN B), (eN Q)]), u2, u32, (sli bs 0 3 3), (eN 0), (Value.bool (decide (0 < 3))), (z 36), (z 37), (sli gs 0 3 3), (eN 0), (ptr gs 0), (Value.agg #[(eI gx1), (eI gy1), (eI gz1)]), (sli bs 0 3 3), (eN 0), (ptr bs 0), u1, (Value.slice none 0 0), (sli gs 0 3 3), (eN 0), (ptr gs 0), (Value.agg #[(eI gx1), (eI gy1), (eI gz1)]), (sli bs 0 3 3), (eN 0), (ptr bs 0), u1, (Value.slice none 0 0), (Value.slice none 0 0), (eN 0), (Value.slice none 0 0), (eN 0), (Value.bool false), (Value.bool false), (sli gs 0 3 3), (eN 0), (ptr gs 0), (Value.agg #[(eI gx1), (eI gy1), (eI gz1)]), (eN 1), (sli gs 0 3 3), (eN 0), (ptr gs 0), (Value.agg #[(eI gx1), (eI gy1), (eI gz1)]), (eN 1), (Value.bool false), (Value.bool false), (Value.bool false), (sli gs 0 3 3), (eN 0), (ptr gs 0), (Value.agg #[(eI gx1), (eI gy1), (eI gz1)]), (eN 0), (sli gs 0 3 3), (eN 0), (ptr gs 0), (Value.agg #[(eI gx1), (eI gy1), (eI gz1)]), (eN 0), (Value.bool false), (Value.bool false)] ++ (zs z 87 71)) : List Value)) (fun (k : (Nat)) => fun (w_ : World) => (k ≤ 0) ∧ Only (Or1 bs (Or1 gs (Or1 h0 (Or1 g0 No)))) w142 w_ ∧ Arr 25 g0 [(eI gx1), (eI gy1), (eI gz1)] w_ ∧ Arr 25 h0 [(eN D), (eN B), (eN Q)] w_ ∧ Arr 25 gs [(eI gx1), (eI gy1), (eI gz1), (eN D), (eN B), (eN Q), (eN D), (eN B), (eN Q)] w_ ∧ Arr 42 bs [u1, u1, u32] w_) (fun (k : (Nat)) => 0 - k) 0 rfl ?_ ?_
  ·
   refine ⟨?_, ?_, ?_, ?_, ?_, ?_⟩
   ·
    exact Nat.zero_le _
   ·
    exact Only.refl _ _
   ·
    exact a13
   ·
    exact a24
   ·
    exact a28
   ·
    exact a36
  rintro k z w145 ⟨hk, o144, a13, a24, a28, a36⟩
  (try dsimp only)
  replace h1 := h1.step o144 (or1_mono (or1_mono (or1_mono (or1_mono no_any))))
  replace h2 := h2.step o144 (or1_mono (or1_mono (or1_mono (or1_mono no_any))))
  replace f33 := f33.step o144 (or1_mono (or1_mono (or1_mono (or1_mono no_any))))
  replace oW := oW.tail o144 (tl_new g_oW_bs (tl_new g_oW_gs (tl_new g_oW_h0 (tl_new g_oW_g0 tl_no))))
  replace o38 := o38.tail o144 (tl_in in1 (tl_in (in2 in1) (tl_in (in2 (in2 in1)) (tl_in (in2 (in2 (in2 in1))) tl_no))))
  refine wpIn_seq ?_
  refine wpIn_seq ?_
  refine plain ?_
  refine wI (d_move rfl) ?_
  refine wI (d_move rfl) ?_
  refine wI (d_len rfl Try.underlying47 rfl) ?_
  refine wF ([(Value.agg #[(eI gx1), (eI gy1), (eI gz1)]), u1, (eI sp), u2, (ptr g0 0), undef, undef, undef, (z 8), (ptr h0 0), (sli gs 0 3 3), (sli bs 0 3 3), (eN 0), (Value.slice none 0 0), (Value.slice none 0 0), (eN k), (z 16), (Value.bool true), (Value.bool false), u1, (eN bl.length), (Value.bool false), (Value.agg #[(eI gx1), (eI gy1), (eI gz1)]), (Value.agg #[(eN D), (eN B), (eN Q)]), (Value.agg #[(eI gx1), (eI gy1), (eI gz1)]), (Value.agg #[(eN D), (eN B), (eN Q)]), (Value.agg #[(eN D), (eN B), (eN Q)]), (sli gs 0 3 3), u1, u1, (Value.agg #[(eN D), (eN B), (eN Q)]), u2, u32, (sli bs 0 3 3), (eN 0), (Value.bool (decide (0 < 3))), (z 36), (z 37), (sli gs 0 3 3), (eN 0), (ptr gs 0), (Value.agg #[(eI gx1), (eI gy1), (eI gz1)]), (sli bs 0 3 3), (eN 0), (ptr bs 0), u1, (Value.slice none 0 0), (sli gs 0 3 3), (eN 0), (ptr gs 0), (Value.agg #[(eI gx1), (eI gy1), (eI gz1)]), (sli bs 0 3 3), (eN 0), (ptr bs 0), u1, (Value.slice none 0 0), (Value.slice none 0 0), (eN 0), (Value.slice none 0 0), (eN 0), (Value.bool false), (Value.bool false), (sli gs 0 3 3), (eN 0), (ptr gs 0), (Value.agg #[(eI gx1), (eI gy1), (eI gz1)]), (eN 1), (sli gs 0 3 3), (eN 0), (ptr gs 0), (Value.agg #[(eI gx1), (eI gy1), (eI gz1)]), (eN 1), (Value.bool false), (Value.bool false), (Value.bool false), (sli gs 0 3 3), (eN 0), (ptr gs 0), (Value.agg #[(eI gx1), (eI gy1), (eI gz1)]), (eN 0), (sli gs 0 3 3), (eN 0), (ptr gs 0), (Value.agg #[(eI gx1), (eI gy1), (eI gz1)]), (eN 0), (Value.bool false), (Value.bool false), (eN k), (Value.slice none 0 0), (eN 0)] ++ (zs z 90 68)) ?_
  refine wI (n_lss (a := k) (b := 0) rfl rfl rfl) ?_
  refine wF ([(Value.agg #[(eI gx1), (eI gy1), (eI gz1)]), u1, (eI sp), u2, (ptr g0 0), undef, undef, undef, (z 8), (ptr h0 0), (sli gs 0 3 3), (sli bs 0 3 3), (eN 0), (Value.slice none 0 0), (Value.slice none 0 0), (eN k), (z 16), (Value.bool true), (Value.bool false), u1, (eN bl.length), (Value.bool false), (Value.agg #[(eI gx1), (eI gy1), (eI gz1)]), (Value.agg #[(eN D), (eN B), (eN Q)]), (Value.agg #[(eI gx1), (eI gy1), (eI gz1)]), (Value.agg #[(eN D), (eN B), (eN Q)]), (Value.agg #[(eN D), (eN B), (eN Q)]), (sli gs 0 3 3), u1, u1, (Value.agg #[(eN D), (eN B), (eN Q)]), u2, u32, (sli bs 0 3 3), (eN 0), (Value.bool (decide (0 < 3))), (z 36), (z 37), (sli gs 0 3 3), (eN 0), (ptr gs 0), (Value.agg #[(eI gx1), (eI gy1), (eI gz1)]), (sli bs 0 3 3), (eN 0), (ptr bs 0), u1, (Value.slice none 0 0), (sli gs 0 3 3), (eN 0), (ptr gs 0), (Value.agg #[(eI gx1), (eI gy1), (eI gz1)]), (sli bs 0 3 3), (eN 0), (ptr bs 0), u1, (Value.slice none 0 0), (Value.slice none 0 0), (eN 0), (Value.slice none 0 0), (eN 0), (Value.bool false), (Value.bool false), (sli gs 0 3 3), (eN 0), (ptr gs 0), (Value.agg #[(eI gx1), (eI gy1), (eI gz1)]), (eN 1), (sli gs 0 3 3), (eN 0), (ptr gs 0), (Value.agg #[(eI gx1), (eI gy1), (eI gz1)]), (eN 1), (Value.bool false), (Value.bool false), (Value.bool false), (sli gs 0 3 3), (eN 0), (ptr gs 0), (Value.agg #[(eI gx1), (eI gy1), (eI gz1)]), (eN 0), (sli gs 0 3 3), (eN 0), (ptr gs 0), (Value.agg #[(eI gx1), (eI gy1), (eI gz1)]), (eN 0), (Value.bool false), (Value.bool false), (eN k), (Value.slice none 0 0), (eN 0), (Value.bool (decide (k < 0)))] ++ (zs z 91 67)) ?_
  refine wpL.done ?_
  refine then_n ?_
  refine cond_if rfl (fun c146 => ?_) (fun c146 => ?_)
  ·
   omega
  refine wpIn_exit ?_
  refine then_x (then_x (inb_e ?_))
  refine then_n ?_
  refine wpIn_seq ?_
  refine drawn_pure [0, 0, 3, 7, 0, 31, 0, 0, 192, 448, 0, 2047, 4095, 8191, 16383, 16383, 65535, 131071, 16383, 278527, 1048575, 16383, 16383, 6307839, 14696447, 16383, 35651583, 134217727, 268435455, 536870911] [(0, 128), (1, 129), (2, 130), (3, 131), (4, 132), (5, 133), (6, 134), (7, 135), (8, 136), (9, 137), (10, 138), (11, 139), (12, 140), (13, 141), (14, 142), (15, 143), (16, 144), (17, 145), (18, 146), (19, 147), (20, 148), (21, 149), (22, 150), (23, 151), (24, 152), (25, 153), (26, 154), (27, 155), (28, 156), (29, 157)] [(sli gs 0 3 3), (eN 0), (ptr gs 0), (Value.agg #[(eI gx1), (eI gy1), (eI gz1)]), (eI sp), (eN 0), (sli gs 0 3 3), (eN 0), (ptr gs 0), (Value.agg #[(eI gx1), (eI gy1), (eI gz1)]), (eI sp), (eN 0), (Value.bool false), (Value.bool false), (sli gs 0 3 3), (eN 0), (ptr gs 0), (Value.agg #[(eI gx1), (eI gy1), (eI gz1)]), (eI sp), (eN ((sp % ((14 : Nat) : Int)).toNat)), (eN 0), (sli gs 0 3 3), (eN 0), (ptr gs 0), (Value.agg #[(eI gx1), (eI gy1), (eI gz1)]), (eI sp), (eN ((sp % ((14 : Nat) : Int)).toNat)), (eN 0), (Value.bool false), (Value.bool false)] ([(Value.agg #[(eI gx1), (eI gy1), (eI gz1)]), u1, (eI sp), u2, (ptr g0 0), undef, undef, undef, (z 8), (ptr h0 0), (sli gs 0 3 3), (sli bs 0 3 3), (eN 0), (Value.slice none 0 0), (Value.slice none 0 0), (eN k), (z 16), (Value.bool true), (Value.bool false), u1, (eN bl.length), (Value.bool false), (Value.agg #[(eI gx1), (eI gy1), (eI gz1)]), (Value.agg #[(eN D), (eN B), (eN Q)]), (Value.agg #[(eI gx1), (eI gy1), (eI gz1)]), (Value.agg #[(eN D), (eN B), (eN Q)]), (Value.agg #[(eN D), (eN B), (eN Q)]), (sli gs 0 3 3), u1, u1, (Value.agg #[(eN D), (eN B), (eN Q)]), u2, u32, (sli bs 0 3 3), (eN 0), (Value.bool (decide (0 < 3))), (z 36), (z 37), (sli gs 0 3 3), (eN 0), (ptr gs 0), (Value.agg #[(eI gx1), (eI gy1), (eI gz1)]), (sli bs 0 3 3), (eN 0), (ptr bs 0), u1, (Value.slice none 0 0), (sli gs 0 3 3), (eN 0), (ptr gs 0), (Value.agg #[(eI gx1), (eI gy1), (eI gz1)]), (sli bs 0 3 3), (eN 0), (ptr bs 0), u1, (Value.slice none 0 0), (Value.slice none 0 0), (eN 0), (Value.slice none 0 0), (eN 0), (Value.bool false), (Value.bool false), (sli gs 0 3 3), (eN 0), (ptr gs 0), (Value.agg #[(eI gx1), (eI gy1), (eI gz1)]), (eN 1), (sli gs 0 3 3), (eN 0), (ptr gs 0), (Value.agg #[(eI gx1), (eI gy1), (eI gz1)]), (eN 1), (Value.bool false), (Value.bool false), (Value.bool false), (sli gs 0 3 3), (eN 0), (ptr gs 0), (Value.agg #[(eI gx1), (eI gy1), (eI gz1)]), (eN 0), (sli gs 0 3 3), (eN 0), (ptr gs 0), (Value.agg #[(eI gx1), (eI gy1), (eI gz1)]), (eN 0), (Value.bool false), (Value.bool false), (eN k), (Value.slice none 0 0), (eN 0), (Value.bool (decide (k < 0)))] ++ (zs z 91 37 ++ [(sli gs 0 3 3), (eN 0), (ptr gs 0), (Value.agg #[(eI gx1), (eI gy1), (eI gz1)]), (eI sp), (eN 0), (sli gs 0 3 3), (eN 0), (ptr gs 0), (Value.agg #[(eI gx1), (eI gy1), (eI gz1)]), (eI sp), (eN 0), (Value.bool false), (Value.bool false), (sli gs 0 3 3), (eN 0), (ptr gs 0), (Value.agg #[(eI gx1), (eI gy1), (eI gz1)]), (eI sp), (eN ((sp % ((14 : Nat) : Int)).toNat)), (eN 0), (sli gs 0 3 3), (eN 0), (ptr gs 0), (Value.agg #[(eI gx1), (eI gy1), (eI gz1)]), (eI sp), (eN ((sp % ((14 : Nat) : Int)).toNat)), (eN 0), (Value.bool false), (Value.bool false)])) s_mx (by kernel_rfl) (by kernel_rfl) rfl (by kernel_rfl) (by kernel_rfl) ?_ ?_
  ·
   intro w_ hO_
   refine AllG.cons (gi rfl (d_move rfl)) ?_
   refine AllG.cons (gi rfl (d_move rfl)) ?_
   refine AllG.cons (gi rfl (d_index (b := gs) (o := 0) (n := 3) (c := 3) (j := 0) Try.underlying44 s_ti25 rfl (show _ = Value.int _ ((0 : Nat) : Int) from rfl) (by omega) (by omega) (by simp))) ?_
   refine AllG.cons (gi rfl (d_loadAg (vs := [(eI gx1), (eI gy1), (eI gz1)]) ⟨_, Try.underlying25, rfl⟩ s_ti25 rfl (a28.step0 hO_) rfl rfl)) ?_
   refine AllG.cons (gi rfl (d_move rfl)) ?_
   refine AllG.cons (gc rfl (d_call (xl := [.tmp 131, .tmp 132]) (al := [(Value.agg #[(eI gx1), (eI gy1), (eI gz1)]), (eI sp)]) Try.func17 (by kernel_rfl) rfl rfl rfl (cw_is (gSectors_ok gx1 gy1 gz1 sp _) (congrArg eI (gsec_no (fun h_ => absurd h_.1 (Bool.eq_false_iff.1 (show fitsI gx1 gy1 gz1 = false from (Bool.eq_false_iff.2 hfz))))))))) ?_
   refine AllG.cons (gi rfl (d_move rfl)) ?_
   refine AllG.cons (gi rfl (d_move rfl)) ?_
   refine AllG.cons (gi rfl (d_index (b := gs) (o := 0) (n := 3) (c := 3) (j := 0) Try.underlying44 s_ti25 rfl (show _ = Value.int _ ((0 : Nat) : Int) from rfl) (by omega) (by omega) (by simp))) ?_
   refine AllG.cons (gi rfl (d_loadAg (vs := [(eI gx1), (eI gy1), (eI gz1)]) ⟨_, Try.underlying25, rfl⟩ s_ti25 rfl (a28.step0 hO_) rfl rfl)) ?_
   refine AllG.cons (gi rfl (d_move rfl)) ?_
   refine AllG.cons (gc rfl (d_call (xl := [.tmp 137, .tmp 138]) (al := [(Value.agg #[(eI gx1), (eI gy1), (eI gz1)]), (eI sp)]) Try.func37 (by kernel_rfl) rfl rfl rfl (cw_is (ref9Sectors_ok gx1 gy1 gz1 sp _) (congrArg eI (gsec_no (fun h_ => absurd h_.1 (Bool.eq_false_iff.1 (show fitsI gx1 gy1 gz1 = false from (Bool.eq_false_iff.2 hfz))))))))) ?_
   refine AllG.cons (gi rfl (n_neq (a := 0) (b := 0) rfl rfl (by rw [decide_eq_true rfl] <;> rfl))) ?_
   refine AllG.cons (gi rfl (d_move rfl)) ?_
   refine AllG.cons (gi_on rfl rfl rfl (nb rfl) rfl (d_move rfl)) ?_
   refine AllG.cons (gi_on rfl rfl rfl (nb rfl) rfl (d_move rfl)) ?_
   refine AllG.cons (gi_on rfl rfl rfl (nb rfl) rfl (d_index (b := gs) (o := 0) (n := 3) (c := 3) (j := 0) Try.underlying44 s_ti25 rfl (show _ = Value.int _ ((0 : Nat) : Int) from rfl) (by omega) (by omega) (by simp))) ?_
   refine AllG.cons (gi_on rfl rfl rfl (nb rfl) rfl (d_loadAg (vs := [(eI gx1), (eI gy1), (eI gz1)]) ⟨_, Try.underlying25, rfl⟩ s_ti25 rfl (a28.step0 hO_) rfl rfl)) ?_
   refine AllG.cons (gi_on rfl rfl rfl (nb rfl) rfl (d_move rfl)) ?_
   refine AllG.cons (gc_on rfl rfl rfl (nb rfl) rfl (d_call (xl := [.tmp 146, .const (.int .i64 14)]) (al := [(eI sp), (eN 14)]) Try.func16 (by kernel_rfl) rfl rfl rfl (law9Within_ok sp 14 _ (by omega) (by omega)))) ?_
   refine AllG.cons (gc_on rfl rfl rfl (nb rfl) rfl (d_call (xl := [.tmp 145, .tmp 147]) (al := [(Value.agg #[(eI gx1), (eI gy1), (eI gz1)]), (eN ((sp % ((14 : Nat) : Int)).toNat))]) Try.func17 (by kernel_rfl) rfl rfl rfl (cw_is (gSectors_ok gx1 gy1 gz1 (((sp % ((14 : Nat) : Int)).toNat : Nat) : Int) _) (congrArg eI (gsec_no (fun h_ => absurd h_.1 (Bool.eq_false_iff.1 (show fitsI gx1 gy1 gz1 = false from (Bool.eq_false_iff.2 hfz))))))))) ?_
   refine AllG.cons (gi_on rfl rfl rfl (nb rfl) rfl (d_move rfl)) ?_
   refine AllG.cons (gi_on rfl rfl rfl (nb rfl) rfl (d_move rfl)) ?_
   refine AllG.cons (gi_on rfl rfl rfl (nb rfl) rfl (d_index (b := gs) (o := 0) (n := 3) (c := 3) (j := 0) Try.underlying44 s_ti25 rfl (show _ = Value.int _ ((0 : Nat) : Int) from rfl) (by omega) (by omega) (by simp))) ?_
   refine AllG.cons (gi_on rfl rfl rfl (nb rfl) rfl (d_loadAg (vs := [(eI gx1), (eI gy1), (eI gz1)]) ⟨_, Try.underlying25, rfl⟩ s_ti25 rfl (a28.step0 hO_) rfl rfl)) ?_
   refine AllG.cons (gi_on rfl rfl rfl (nb rfl) rfl (d_move rfl)) ?_
   refine AllG.cons (gc_on rfl rfl rfl (nb rfl) rfl (d_call (xl := [.tmp 153, .const (.int .i64 14)]) (al := [(eI sp), (eN 14)]) Try.func16 (by kernel_rfl) rfl rfl rfl (law9Within_ok sp 14 _ (by omega) (by omega)))) ?_
   refine AllG.cons (gc_on rfl rfl rfl (nb rfl) rfl (d_call (xl := [.tmp 152, .tmp 154]) (al := [(Value.agg #[(eI gx1), (eI gy1), (eI gz1)]), (eN ((sp % ((14 : Nat) : Int)).toNat))]) Try.func37 (by kernel_rfl) rfl rfl rfl (cw_is (ref9Sectors_ok gx1 gy1 gz1 (((sp % ((14 : Nat) : Int)).toNat : Nat) : Int) _) (congrArg eI (gsec_no (fun h_ => absurd h_.1 (Bool.eq_false_iff.1 (show fitsI gx1 gy1 gz1 = false from (Bool.eq_false_iff.2 hfz))))))))) ?_
   refine AllG.cons (gi_on rfl rfl rfl (nb rfl) rfl (n_neq (a := 0) (b := 0) rfl rfl (by rw [decide_eq_true rfl] <;> rfl))) ?_
   refine AllG.cons (gi rfl (d_pick (b := false) (v := (Value.bool false)) rfl rfl)) ?_
   exact AllG.nil
  intro w147 o148
  replace h1 := h1.step0 o148
  replace h2 := h2.step0 o148
  replace f33 := f33.step0 o148
  replace a13 := a13.step0 o148
  replace a24 := a24.step0 o148
  replace a28 := a28.step0 o148
  replace a36 := a36.step0 o148
  replace oW := oW.tail0 o148
  replace o38 := o38.tail0 o148
  replace o144 := o144.tail0 o148
  refine then_n ?_
  refine cond_f rfl ?_
  refine wpIn_skip ?_
  refine inb_n (then_n ?_)
  refine plain ?_
  refine wI (d_move rfl) ?_
  refine wI (n_add (a := 0) (b := 1) rfl rfl (by omega)) ?_
  refine wI (d_assign rfl) ?_
  refine wF ([(Value.agg #[(eI gx1), (eI gy1), (eI gz1)]), u1, (eI sp), u2, (ptr g0 0), undef, undef, undef, (z 8), (ptr h0 0), (sli gs 0 3 3), (sli bs 0 3 3), (eN 1), (Value.slice none 0 0), (Value.slice none 0 0), (eN k), (z 16), (Value.bool true), (Value.bool false), u1, (eN bl.length), (Value.bool false), (Value.agg #[(eI gx1), (eI gy1), (eI gz1)]), (Value.agg #[(eN D), (eN B), (eN Q)]), (Value.agg #[(eI gx1), (eI gy1), (eI gz1)]), (Value.agg #[(eN D), (eN B), (eN Q)]), (Value.agg #[(eN D), (eN B), (eN Q)]), (sli gs 0 3 3), u1, u1, (Value.agg #[(eN D), (eN B), (eN Q)]), u2, u32, (sli bs 0 3 3), (eN 0), (Value.bool (decide (0 < 3))), (eN 0), (eN 1), (sli gs 0 3 3), (eN 0), (ptr gs 0), (Value.agg #[(eI gx1), (eI gy1), (eI gz1)]), (sli bs 0 3 3), (eN 0), (ptr bs 0), u1, (Value.slice none 0 0), (sli gs 0 3 3), (eN 0), (ptr gs 0), (Value.agg #[(eI gx1), (eI gy1), (eI gz1)]), (sli bs 0 3 3), (eN 0), (ptr bs 0), u1, (Value.slice none 0 0), (Value.slice none 0 0), (eN 0), (Value.slice none 0 0), (eN 0), (Value.bool false), (Value.bool false), (sli gs 0 3 3), (eN 0), (ptr gs 0), (Value.agg #[(eI gx1), (eI gy1), (eI gz1)]), (eN 1), (sli gs 0 3 3), (eN 0), (ptr gs 0), (Value.agg #[(eI gx1), (eI gy1), (eI gz1)]), (eN 1), (Value.bool false), (Value.bool false), (Value.bool false), (sli gs 0 3 3), (eN 0), (ptr gs 0), (Value.agg #[(eI gx1), (eI gy1), (eI gz1)]), (eN 0), (sli gs 0 3 3), (eN 0), (ptr gs 0), (Value.agg #[(eI gx1), (eI gy1), (eI gz1)]), (eN 0), (Value.bool false), (Value.bool false), (eN k), (Value.slice none 0 0), (eN 0), (Value.bool (decide (k < 0)))] ++ (zs z 91 37 ++ [(sli gs 0 3 3), (eN 0), (ptr gs 0), (Value.agg #[(eI gx1), (eI gy1), (eI gz1)]), (eI sp), (eN 0), (sli gs 0 3 3), (eN 0), (ptr gs 0), (Value.agg #[(eI gx1), (eI gy1), (eI gz1)]), (eI sp), (eN 0), (Value.bool false), (Value.bool false), (sli gs 0 3 3), (eN 0), (ptr gs 0), (Value.agg #[(eI gx1), (eI gy1), (eI gz1)]), (eI sp), (eN ((sp % ((14 : Nat) : Int)).toNat)), (eN 0), (sli gs 0 3 3), (eN 0), (ptr gs 0), (Value.agg #[(eI gx1), (eI gy1), (eI gz1)]), (eI sp), (eN ((sp % ((14 : Nat) : Int)).toNat)), (eN 0), (Value.bool false), (Value.bool false)])) ?_
  refine wpL.done ?_
  refine then_n ?_
  refine ⟨_, 1, rfl, rfl, ⟨?_, ?_, ?_, ?_, ?_, ?_⟩, ?_⟩
  ·
   (try dsimp only)
   all_goals (omega)
  ·
   exact o38
  ·
   exact a13
  ·
   exact a24
  ·
   exact a28
  ·
   exact a36
  ·
   (try dsimp only)
   all_goals (omega)
 refine wpIn_exit ?_
 refine then_x (then_x (inb_e ?_))
 refine then_n ?_
 refine wpIn_seq ?_
 refine plain ?_
 refine wI (d_assign rfl) ?_
 refine wF ([(Value.agg #[(eI gx1), (eI gy1), (eI gz1)]), u1, (eI sp), u2, (ptr g0 0), undef, undef, undef, (Value.bool true), (ptr h0 0), (sli gs 0 3 3), (sli bs 0 3 3), (eN i), (z 13), (z 14), (z 15), (z 16), (Value.bool true), (Value.bool false), u1, (eN bl.length), (Value.bool false), (Value.agg #[(eI gx1), (eI gy1), (eI gz1)]), (Value.agg #[(eN D), (eN B), (eN Q)]), (Value.agg #[(eI gx1), (eI gy1), (eI gz1)]), (Value.agg #[(eN D), (eN B), (eN Q)]), (Value.agg #[(eN D), (eN B), (eN Q)]), (sli gs 0 3 3), u1, u1, (Value.agg #[(eN D), (eN B), (eN Q)]), u2, u32, (sli bs 0 3 3), (eN i), (Value.bool (decide (i < 3)))] ++ (zs z 36 122)) ?_
 refine wpL.done ?_
 refine then_n ?_
 refine wpIn_ret ?_
 refine leave0 (v := (Value.bool true)) (res1 Try.results11 rfl) ?_
 exact ⟨rfl, oW⟩

end Go.Proofs.YtnlbekdjepkhcaaF
