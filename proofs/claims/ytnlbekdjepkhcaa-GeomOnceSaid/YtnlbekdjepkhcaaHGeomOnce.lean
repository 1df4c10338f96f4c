import Derived.Test.YtnlbekdjepkhcaaFp
import Derived.Test.YtnlbekdjepkhcaaTy
import Derived.Test.YtnlbekdjepkhcaaHgeom
set_option linter.unusedVariables false
set_option linter.unusedSimpArgs false
namespace Go.Proofs.YtnlbekdjepkhcaaF
open Go Go.Shelf Go.Proofs.YtnlbekdjepkhcaaS Ram
set_option maxRecDepth 20000 in
set_option maxHeartbeats 4000000 in
theorem geomOnce_law (a b c : Int) (ls : List Int) (u1 : Value) (W : World) (h1 : Ps No (Seq kI ls u1) W) (g1 : ls.length ≤ 140737488351232) :
    CW Try.prog 12 #[(Value.agg #[(eI a), (eI b), (eI c)]), u1] W (Rt (RIs (.bool true) W)) := by
 have oW : Only No W W := Only.refl _ _
 refine enter (al := [(Value.agg #[(eI a), (eI b), (eI c)]), u1]) (k := 114) (l := ([(Value.agg #[(eI a), (eI b), (eI c)]), u1] ++ (us 114))) Try.func12 rfl Try.ntmps12 rfl rfl ?_
 refine wpIn_seq ?_
 refine plain ?_
 refine wO (d_box rfl rfl) ?_
 rintro _ w11 ⟨g0, rfl, g12, a13, o14⟩
 have g_oW_g0 : W.heap.size ≤ g0 := Nat.le_trans oW.size g12
 replace h1 := h1.new o14 g12
 replace oW := oW.tail0 o14
 refine wI (d_assign rfl) ?_
 refine wF ([(Value.agg #[(eI a), (eI b), (eI c)]), u1, (ptr g0 0), undef, (Value.bool false)] ++ (us 111)) ?_
 refine wpL.done ?_
 refine then_n ?_
 refine wpIn_seq ?_
 refine wpIn_seq ?_
 refine plain ?_
 refine wO (d_call (xl := []) (al := []) Try.func15 (by kernel_rfl) rfl rfl rfl (law9Known_ok _)) ?_
 rintro _ w15 ⟨rfl, o16⟩
 replace h1 := h1.step0 o16
 replace a13 := a13.step0 o16
 replace oW := oW.tail0 o16
 refine wI (d_not rfl rfl) ?_
 refine wF ([(Value.agg #[(eI a), (eI b), (eI c)]), u1, (ptr g0 0), undef, (Value.bool false)] ++ (us 6 ++ [(Value.bool true), (Value.bool false)] ++ (us 103))) ?_
 refine wpL.done ?_
 refine then_n ?_
 refine cond_f rfl ?_
 refine wpIn_skip ?_
 refine then_n ?_
 refine wpIn_seq ?_
 refine plain ?_
 refine wI (d_loadAg (vs := [(eI a), (eI b), (eI c)]) ⟨_, Try.underlying25, rfl⟩ s_ti25 rfl a13 rfl rfl) ?_
 refine wO (d_call (xl := [.tmp 13]) (al := [(Value.agg #[(eI a), (eI b), (eI c)])]) Try.func29 (by kernel_rfl) rfl rfl rfl (law7MakeE_ok a b c _)) ?_
 rintro _ w17 ⟨D, B, Q, rfl, hIN, o18⟩
 replace h1 := h1.step0 o18
 replace a13 := a13.step0 o18
 replace oW := oW.tail0 o18
 refine wO (d_alloc s_ti25 rfl) ?_
 rintro _ w19 ⟨h0, rfl, g20, a21, o22⟩
 have n_g0_h0 : g0 ≠ h0 := a13.ne g20
 have g_oW_h0 : W.heap.size ≤ h0 := Nat.le_trans oW.size g20
 replace h1 := h1.new o22 g20
 replace a13 := a13.step0 o22
 replace oW := oW.tail0 o22
 refine wF ([(Value.agg #[(eI a), (eI b), (eI c)]), u1, (ptr g0 0), undef, (Value.bool false), (ptr h0 0)] ++ (us 5 ++ [(Value.bool true), (Value.bool false), (Value.agg #[(eI a), (eI b), (eI c)]), (Value.agg #[(eN D), (eN B), (eN Q)])] ++ (us 101))) ?_
 refine wO (d_storeAg (cs' := [(eN D), (eN B), (eN Q)]) s_ti25 rfl rfl rfl (oc_cons rfl (oc_cons rfl (oc_cons rfl oc_nil))) a21 (by decide) rfl) ?_
 rintro _ w23 ⟨a24, o25⟩
 replace h1 := h1.stepb o25 in1
 replace a13 := a13.step o25 (fun e => absurd e n_g0_h0)
 replace oW := oW.tailb o25 g_oW_h0
 refine wF ([(Value.agg #[(eI a), (eI b), (eI c)]), u1, (ptr g0 0), undef, (Value.bool false), (ptr h0 0)] ++ (us 5 ++ [(Value.bool true), (Value.bool false), (Value.agg #[(eI a), (eI b), (eI c)]), (Value.agg #[(eN D), (eN B), (eN Q)])] ++ (us 101))) ?_
 refine wpL.done ?_
 refine then_n ?_
 refine wpIn_seq ?_
 refine plain ?_
 refine wI (d_loadAg (vs := [(eN D), (eN B), (eN Q)]) ⟨_, Try.underlying25, rfl⟩ s_ti25 rfl a24 rfl rfl) ?_
 refine wI (d_move rfl) ?_
 refine wO (d_call (xl := [.tmp 15, .tmp 16]) (al := [(Value.agg #[(eN D), (eN B), (eN Q)]), u1]) Try.func30 (by kernel_rfl) rfl rfl rfl (law7Spoil_ok D B Q ls u1 _ (Ps.no h1) (by first | omega | (simp; done) | (simp; omega)) (by omega) (by omega))) ?_
 rintro u28 w26 f29
 obtain ⟨f29, o27⟩ := f29
 replace f29 := f29.less (Y := (Or1 h0 (Or1 g0 (Old W.heap.size)))) (or1_old a24.lt (or1_old a13.lt (old_old oW.size)))
 replace h1 := h1.step0 o27
 replace a13 := a13.step0 o27
 replace a24 := a24.step0 o27
 replace oW := oW.tail0 o27
 refine wF ([(Value.agg #[(eI a), (eI b), (eI c)]), u1, (ptr g0 0), undef, (Value.bool false), (ptr h0 0)] ++ (us 5 ++ [(Value.bool true), (Value.bool false), (Value.agg #[(eI a), (eI b), (eI c)]), (Value.agg #[(eN D), (eN B), (eN Q)]), (Value.agg #[(eN D), (eN B), (eN Q)]), u1, u28] ++ (us 98))) ?_
 refine wI (d_assign rfl) ?_
 refine wF ([(Value.agg #[(eI a), (eI b), (eI c)]), u1, (ptr g0 0), undef, (Value.bool false), (ptr h0 0), u28, undef, undef, undef, undef, (Value.bool true), (Value.bool false), (Value.agg #[(eI a), (eI b), (eI c)]), (Value.agg #[(eN D), (eN B), (eN Q)]), (Value.agg #[(eN D), (eN B), (eN Q)]), u1, u28] ++ (us 98)) ?_
 refine wpL.done ?_
 refine then_n ?_
 refine wpIn_seq ?_
 refine plain ?_
 refine wI (d_loadAg (vs := [(eN D), (eN B), (eN Q)]) ⟨_, Try.underlying25, rfl⟩ s_ti25 rfl a24 rfl rfl) ?_
 refine wI (d_move rfl) ?_
 refine wO (d_call (xl := [.tmp 18, .tmp 19]) (al := [(Value.agg #[(eN D), (eN B), (eN Q)]), u28]) Try.func31 (by kernel_rfl) rfl rfl rfl (supers_ok D B Q (spoilL D B ls) u28 _ (Ps.no f29) (by have := spoilL_len D B ls; first | omega | (simp; done) | (simp; omega)) (by omega) (by omega) (by omega))) ?_
 rintro u32 w30 ⟨ws33, hw34, f35, g36, o31⟩
 replace f35 := f35.less (Y := (Or1 h0 (Or1 g0 (Old W.heap.size)))) (or1_old a24.lt (or1_old a13.lt (old_old oW.size)))
 replace g36 := g36.less (Y := (Or1 h0 (Or1 g0 (Old W.heap.size)))) (or1_old a24.lt (or1_old a13.lt (old_old oW.size)))
 replace h1 := h1.step0 o31
 replace f29 := f29.step0 o31
 replace a13 := a13.step0 o31
 replace a24 := a24.step0 o31
 replace oW := oW.tail0 o31
 refine wF ([(Value.agg #[(eI a), (eI b), (eI c)]), u1, (ptr g0 0), undef, (Value.bool false), (ptr h0 0), u28, undef, undef, undef, undef, (Value.bool true), (Value.bool false), (Value.agg #[(eI a), (eI b), (eI c)]), (Value.agg #[(eN D), (eN B), (eN Q)]), (Value.agg #[(eN D), (eN B), (eN Q)]), u1, u28, (Value.agg #[(eN D), (eN B), (eN Q)]), u28, u32] ++ (us 95)) ?_
 refine wI (d_assign rfl) ?_
 refine wF ([(Value.agg #[(eI a), (eI b), (eI c)]), u1, (ptr g0 0), undef, (Value.bool false), (ptr h0 0), u28, u32, undef, undef, undef, (Value.bool true), (Value.bool false), (Value.agg #[(eI a), (eI b), (eI c)]), (Value.agg #[(eN D), (eN B), (eN Q)]), (Value.agg #[(eN D), (eN B), (eN Q)]), u1, u28, (Value.agg #[(eN D), (eN B), (eN Q)]), u28, u32] ++ (us 95)) ?_
 refine wpL.done ?_
 have nl := nMin_le (spoilL D B ls) B D
 have sb := spoilL_len D B ls
 refine then_n ?_
 refine wpIn_seq ?_
 refine wpIn_seq ?_
 refine plain ?_
 refine wI (d_assign rfl) ?_
 refine wF ([(Value.agg #[(eI a), (eI b), (eI c)]), u1, (ptr g0 0), undef, (Value.bool false), (ptr h0 0), u28, u32, (eN 0), undef, undef, (Value.bool true), (Value.bool false), (Value.agg #[(eI a), (eI b), (eI c)]), (Value.agg #[(eN D), (eN B), (eN Q)]), (Value.agg #[(eN D), (eN B), (eN Q)]), u1, u28, (Value.agg #[(eN D), (eN B), (eN Q)]), u28, u32] ++ (us 95)) ?_
 refine wpL.done ?_
 refine then_n ?_
 refine wpIn_block ?_
 refine loop2 (fun (i : (Nat)) => fun (z : Nat → Value) => (([(Value.agg #[(eI a), (eI b), (eI c)]), u1, (ptr g0 0), undef, (z 4), (ptr h0 0), u28, u32, (eN i), (z 9), (z 10), (Value.bool true), (Value.bool false), (Value.agg #[(eI a), (eI b), (eI c)]), (Value.agg #[(eN D), (eN B), (eN Q)]), (Value.agg #[(eN D), (eN B), (eN Q)]), u1, u28, (Value.agg #[(eN D), (eN B), (eN Q)]), u28, u32] ++ (zs z 21 82 ++ (us 13))) : List Value)) (fun (i : (Nat)) => fun (w_ : World) => (i ≤ ws33.length) ∧ Only (Or1 h0 (Or1 g0 No)) w30 w_ ∧ Arr 25 g0 [(eI a), (eI b), (eI c)] w_ ∧ Arr 25 h0 [(eN D), (eN B), (eN Q)] w_) (fun (i : (Nat)) => ws33.length - i) 0 rfl ?_ ?_
 ·
  refine ⟨?_, ?_, ?_, ?_⟩
  ·
   exact Nat.zero_le _
  ·
   exact Only.refl _ _
  ·
   exact a13
  ·
   exact a24
 rintro i z w38 ⟨hi, o37, a13, a24⟩
 (try dsimp only)
 replace h1 := h1.step o37 (or1_mono (or1_mono no_any))
 replace f29 := f29.step o37 (or1_mono (or1_mono no_any))
 replace f35 := f35.step o37 (or1_mono (or1_mono no_any))
 replace g36 := g36.step o37 (or1_mono (or1_mono no_any))
 replace oW := oW.tail o37 (tl_new g_oW_h0 (tl_new g_oW_g0 tl_no))
 refine wpIn_seq ?_
 refine wpIn_seq ?_
 refine plain ?_
 refine wI (d_move rfl) ?_
 refine wI (d_move rfl) ?_
 refine wI (d_lenS rfl Try.underlying47 rfl f35) ?_
 refine wF ([(Value.agg #[(eI a), (eI b), (eI c)]), u1, (ptr g0 0), undef, (z 4), (ptr h0 0), u28, u32, (eN i), (z 9), (z 10), (Value.bool true), (Value.bool false), (Value.agg #[(eI a), (eI b), (eI c)]), (Value.agg #[(eN D), (eN B), (eN Q)]), (Value.agg #[(eN D), (eN B), (eN Q)]), u1, u28, (Value.agg #[(eN D), (eN B), (eN Q)]), u28, u32, (eN i), u32, (eN ws33.length)] ++ (zs z 24 79 ++ (us 13))) ?_
 refine wI (n_lss (a := i) (b := ws33.length) rfl rfl rfl) ?_
 refine wF ([(Value.agg #[(eI a), (eI b), (eI c)]), u1, (ptr g0 0), undef, (z 4), (ptr h0 0), u28, u32, (eN i), (z 9), (z 10), (Value.bool true), (Value.bool false), (Value.agg #[(eI a), (eI b), (eI c)]), (Value.agg #[(eN D), (eN B), (eN Q)]), (Value.agg #[(eN D), (eN B), (eN Q)]), u1, u28, (Value.agg #[(eN D), (eN B), (eN Q)]), u28, u32, (eN i), u32, (eN ws33.length), (Value.bool (decide (i < ws33.length)))] ++ (zs z 25 78 ++ (us 13))) ?_
 refine wpL.done ?_
 refine then_n ?_
 refine cond_if rfl (fun c39 => ?_) (fun c39 => ?_)
 ·
  refine wpIn_skip ?_
  refine then_n ?_
  refine wpIn_seq ?_
  refine wpIn_block ?_
  refine wpIn_seq ?_
  refine wpIn_seq ?_
  have hin : i < nMin (spoilL D B ls) B D := by omega
  have r40 : Ps (Or1 h0 (Or1 g0 (Old W.heap.size))) (Seq kN (supR (spoilL D B ls) B D i) (ws33.getD i undef)) w38 := fam_at g36 (by omega)
  refine drawn_pure [0, 0, 3, 7, 15, 0, 32, 127] [(0, 27), (1, 28), (2, 29), (3, 30), (4, 31), (5, 32), (6, 33), (7, 34)] [u32, (eN i), (ixp u32 i), (ws33.getD i undef), (eN ((supR (spoilL D B ls) B D i).length)), (ptr h0 0), (eN D), (Value.bool false)] ([(Value.agg #[(eI a), (eI b), (eI c)]), u1, (ptr g0 0), undef, (z 4), (ptr h0 0), u28, u32, (eN i), (z 9), (z 10), (Value.bool true), (Value.bool false), (Value.agg #[(eI a), (eI b), (eI c)]), (Value.agg #[(eN D), (eN B), (eN Q)]), (Value.agg #[(eN D), (eN B), (eN Q)]), u1, u28, (Value.agg #[(eN D), (eN B), (eN Q)]), u28, u32, (eN i), u32, (eN ws33.length), (Value.bool (decide (i < ws33.length))), (z 25), (z 26), u32, (eN i), (ixp u32 i), (ws33.getD i undef), (eN ((supR (spoilL D B ls) B D i).length)), (ptr h0 0), (eN D), (Value.bool false)] ++ (zs z 35 68 ++ (us 13))) s_mx (by kernel_rfl) (by kernel_rfl) rfl (by kernel_rfl) (by kernel_rfl) ?_ ?_
  ·
   intro w_ hO_
   refine AllG.cons (gi rfl (d_move rfl)) ?_
   refine AllG.cons (gi rfl (d_move rfl)) ?_
   refine AllG.cons (gi rfl (d_ix (i := i) (xs := ws33) Try.underlying47 s_ti29 rfl (f35.step0 hO_) (show _ = Value.int _ ((i : Nat) : Int) from rfl) (by first | omega | (simp; done) | (simp; omega)))) ?_
   refine AllG.cons (gi rfl (d_ldx (i := i) (xs := ws33) (enc := eV) (v := (ws33.getD i undef)) ⟨_, Try.underlying29, rfl⟩ rfl (f35.step0 hO_) (g_at (by first | omega | (simp; done) | (simp; omega))))) ?_
   refine AllG.cons (gi rfl (d_lenS rfl Try.underlying29 rfl (r40.step0 hO_))) ?_
   refine AllG.cons (gi rfl (d_fieldAddr (j := 0) Try.underlying25 rfl s_ti3 (by decide) rfl rfl)) ?_
   refine AllG.cons (gi rfl (d_load (v := (eN D)) ⟨_, Try.underlying3, rfl⟩ rfl (a24.step0 hO_) rfl)) ?_
   refine AllG.cons (gi rfl (n_neq (a := ((supR (spoilL D B ls) B D i).length)) (b := D) rfl rfl (by rw [decide_eq_true (supR_len _ _ _ _)] <;> rfl))) ?_
   exact AllG.nil
  intro w41 o42
  replace h1 := h1.step0 o42
  replace f29 := f29.step0 o42
  replace f35 := f35.step0 o42
  replace g36 := g36.step0 o42
  replace r40 := r40.step0 o42
  replace a13 := a13.step0 o42
  replace a24 := a24.step0 o42
  replace oW := oW.tail0 o42
  replace o37 := o37.tail0 o42
  refine then_n ?_
  refine cond_f rfl ?_
  refine wpIn_skip ?_
  refine then_n ?_
  refine wpIn_seq ?_
  refine plain ?_
  refine wI (d_assign rfl) ?_
  refine wF ([(Value.agg #[(eI a), (eI b), (eI c)]), u1, (ptr g0 0), undef, (z 4), (ptr h0 0), u28, u32, (eN i), (eN 0), (z 10), (Value.bool true), (Value.bool false), (Value.agg #[(eI a), (eI b), (eI c)]), (Value.agg #[(eN D), (eN B), (eN Q)]), (Value.agg #[(eN D), (eN B), (eN Q)]), u1, u28, (Value.agg #[(eN D), (eN B), (eN Q)]), u28, u32, (eN i), u32, (eN ws33.length), (Value.bool (decide (i < ws33.length))), (z 25), (z 26), u32, (eN i), (ixp u32 i), (ws33.getD i undef), (eN ((supR (spoilL D B ls) B D i).length)), (ptr h0 0), (eN D), (Value.bool false)] ++ (zs z 35 68 ++ (us 13))) ?_
  refine wpL.done ?_
  refine then_n ?_
  refine wpIn_block ?_
  refine loop2 (fun (d : (Nat)) => fun (z : Nat → Value) => (([(Value.agg #[(eI a), (eI b), (eI c)]), u1, (ptr g0 0), undef, (z 4), (ptr h0 0), u28, u32, (eN i), (eN d), (z 10), (Value.bool true), (Value.bool false), (Value.agg #[(eI a), (eI b), (eI c)]), (Value.agg #[(eN D), (eN B), (eN Q)]), (Value.agg #[(eN D), (eN B), (eN Q)]), u1, u28, (Value.agg #[(eN D), (eN B), (eN Q)]), u28, u32, (eN i), u32, (eN ws33.length), (Value.bool (decide (i < ws33.length))), (z 25), (z 26), u32, (eN i), (ixp u32 i), (ws33.getD i undef), (eN ((supR (spoilL D B ls) B D i).length)), (ptr h0 0), (eN D), (Value.bool false)] ++ (zs z 35 68 ++ (us 13))) : List Value)) (fun (d : (Nat)) => fun (w_ : World) => (d ≤ D) ∧ Only (Or1 h0 (Or1 g0 No)) w41 w_ ∧ Arr 25 g0 [(eI a), (eI b), (eI c)] w_ ∧ Arr 25 h0 [(eN D), (eN B), (eN Q)] w_) (fun (d : (Nat)) => D - d) 0 rfl ?_ ?_
  ·
   refine ⟨?_, ?_, ?_, ?_⟩
   ·
    exact Nat.zero_le _
   ·
    exact Only.refl _ _
   ·
    exact a13
   ·
    exact a24
  rintro d z w44 ⟨hd, o43, a13, a24⟩
  (try dsimp only)
  replace h1 := h1.step o43 (or1_mono (or1_mono no_any))
  replace f29 := f29.step o43 (or1_mono (or1_mono no_any))
  replace f35 := f35.step o43 (or1_mono (or1_mono no_any))
  replace g36 := g36.step o43 (or1_mono (or1_mono no_any))
  replace r40 := r40.step o43 (or1_mono (or1_mono no_any))
  replace oW := oW.tail o43 (tl_new g_oW_h0 (tl_new g_oW_g0 tl_no))
  replace o37 := o37.tail o43 (tl_in in1 (tl_in (in2 in1) tl_no))
  refine wpIn_seq ?_
  refine wpIn_seq ?_
  refine plain ?_
  refine wI (d_move rfl) ?_
  refine wI (d_fieldAddr (j := 0) Try.underlying25 rfl s_ti3 (by decide) rfl rfl) ?_
  refine wI (d_load (v := (eN D)) ⟨_, Try.underlying3, rfl⟩ rfl a24 rfl) ?_
  refine wF ([(Value.agg #[(eI a), (eI b), (eI c)]), u1, (ptr g0 0), undef, (z 4), (ptr h0 0), u28, u32, (eN i), (eN d), (z 10), (Value.bool true), (Value.bool false), (Value.agg #[(eI a), (eI b), (eI c)]), (Value.agg #[(eN D), (eN B), (eN Q)]), (Value.agg #[(eN D), (eN B), (eN Q)]), u1, u28, (Value.agg #[(eN D), (eN B), (eN Q)]), u28, u32, (eN i), u32, (eN ws33.length), (Value.bool (decide (i < ws33.length))), (z 25), (z 26), u32, (eN i), (ixp u32 i), (ws33.getD i undef), (eN ((supR (spoilL D B ls) B D i).length)), (ptr h0 0), (eN D), (Value.bool false), (eN d), (ptr h0 0), (eN D)] ++ (zs z 38 65 ++ (us 13))) ?_
  refine wI (n_lss (a := d) (b := D) rfl rfl rfl) ?_
  refine wF ([(Value.agg #[(eI a), (eI b), (eI c)]), u1, (ptr g0 0), undef, (z 4), (ptr h0 0), u28, u32, (eN i), (eN d), (z 10), (Value.bool true), (Value.bool false), (Value.agg #[(eI a), (eI b), (eI c)]), (Value.agg #[(eN D), (eN B), (eN Q)]), (Value.agg #[(eN D), (eN B), (eN Q)]), u1, u28, (Value.agg #[(eN D), (eN B), (eN Q)]), u28, u32, (eN i), u32, (eN ws33.length), (Value.bool (decide (i < ws33.length))), (z 25), (z 26), u32, (eN i), (ixp u32 i), (ws33.getD i undef), (eN ((supR (spoilL D B ls) B D i).length)), (ptr h0 0), (eN D), (Value.bool false), (eN d), (ptr h0 0), (eN D), (Value.bool (decide (d < D)))] ++ (zs z 39 64 ++ (us 13))) ?_
  refine wpL.done ?_
  refine then_n ?_
  refine cond_if rfl (fun c45 => ?_) (fun c45 => ?_)
  ·
   refine wpIn_skip ?_
   refine then_n ?_
   refine wpIn_seq ?_
   refine wpIn_block ?_
   refine wpIn_seq ?_
   refine wpIn_seq ?_
   by_cases k0 : 0 < i
   ·
    have gl := nMin_good (spoilL D B ls) B (show d < D by omega)
    have ga_ := good_lt (show i < (goodL (spoilL D B ls) d B).length by omega)
    have gb_ := supR_at (bad := (spoilL D B ls)) (B := B) (i := i) (show d < D by omega)
    have sl := supR_len (spoilL D B ls) B D i
    have r46 : Ps (Or1 h0 (Or1 g0 (Old W.heap.size))) (Seq kN (supR (spoilL D B ls) B D (i - 1)) (ws33.getD (i - 1) undef)) w44 := fam_at g36 (by omega)
    have gc_ := good_mono (show i - 1 < i by omega) (show i < (goodL (spoilL D B ls) d B).length by omega)
    have gd_ := supR_at (bad := (spoilL D B ls)) (B := B) (i := i - 1) (show d < D by omega)
    have sm := supR_len (spoilL D B ls) B D (i - 1)
    refine drawn_pure [0, 0, 3, 7, 0, 31, 63, 127, 255, 511, 511, 2047, 4095, 511, 16383, 32767, 511, 66047, 262143, 524287, 1048575, 2097151, 4194303, 8388607, 16777215, 16777215, 67108863, 134217727, 16777215, 536870911, 1073741823, 16777215, 16777215, 4311744511, 15049162751, 32229031935, 16777215, 135308247039, 272747200511, 549755813887, 1099511627775, 2199023255551] [(0, 41), (1, 42), (2, 43), (3, 44), (4, 45), (5, 46), (6, 47), (7, 48), (8, 49), (9, 50), (10, 51), (11, 52), (12, 53), (13, 54), (14, 55), (15, 56), (16, 57), (17, 58), (18, 59), (19, 60), (20, 61), (21, 62), (22, 63), (23, 64), (24, 65), (25, 66), (26, 67), (27, 68), (28, 69), (29, 70), (30, 71), (31, 72), (32, 73), (33, 74), (34, 75), (35, 76), (36, 77), (37, 78), (38, 79), (39, 80), (40, 81), (41, 82)] [u32, (eN i), (ixp u32 i), (ws33.getD i undef), (eN d), (ixp (ws33.getD i undef) d), (eN ((supR (spoilL D B ls) B D i).getD d 0)), (Value.bool false), (Value.bool false), u32, (eN i), (ixp u32 i), (ws33.getD i undef), (eN d), (ixp (ws33.getD i undef) d), (eN ((supR (spoilL D B ls) B D i).getD d 0)), (ptr h0 1), (eN B), (Value.bool false), (Value.bool false), (Value.bool false), (eN i), (Value.bool true), (Value.bool true), u32, (eN i), (ixp u32 i), (ws33.getD i undef), (eN d), (ixp (ws33.getD i undef) d), (eN ((supR (spoilL D B ls) B D i).getD d 0)), u32, (eN i), (eN (i - 1)), (ixp u32 (i - 1)), (ws33.getD (i - 1) undef), (eN d), (ixp (ws33.getD (i - 1) undef) d), (eN ((supR (spoilL D B ls) B D (i - 1)).getD d 0)), (Value.bool false), (Value.bool false), (Value.bool false)] ([(Value.agg #[(eI a), (eI b), (eI c)]), u1, (ptr g0 0), undef, (z 4), (ptr h0 0), u28, u32, (eN i), (eN d), (z 10), (Value.bool true), (Value.bool false), (Value.agg #[(eI a), (eI b), (eI c)]), (Value.agg #[(eN D), (eN B), (eN Q)]), (Value.agg #[(eN D), (eN B), (eN Q)]), u1, u28, (Value.agg #[(eN D), (eN B), (eN Q)]), u28, u32, (eN i), u32, (eN ws33.length), (Value.bool (decide (i < ws33.length))), (z 25), (z 26), u32, (eN i), (ixp u32 i), (ws33.getD i undef), (eN ((supR (spoilL D B ls) B D i).length)), (ptr h0 0), (eN D), (Value.bool false), (eN d), (ptr h0 0), (eN D), (Value.bool (decide (d < D))), (z 39), (z 40), u32, (eN i), (ixp u32 i), (ws33.getD i undef), (eN d), (ixp (ws33.getD i undef) d), (eN ((supR (spoilL D B ls) B D i).getD d 0)), (Value.bool false), (Value.bool false), u32, (eN i), (ixp u32 i), (ws33.getD i undef), (eN d), (ixp (ws33.getD i undef) d), (eN ((supR (spoilL D B ls) B D i).getD d 0)), (ptr h0 1), (eN B), (Value.bool false), (Value.bool false), (Value.bool false), (eN i), (Value.bool true), (Value.bool true), u32, (eN i), (ixp u32 i), (ws33.getD i undef), (eN d), (ixp (ws33.getD i undef) d), (eN ((supR (spoilL D B ls) B D i).getD d 0)), u32, (eN i), (eN (i - 1)), (ixp u32 (i - 1)), (ws33.getD (i - 1) undef), (eN d), (ixp (ws33.getD (i - 1) undef) d), (eN ((supR (spoilL D B ls) B D (i - 1)).getD d 0)), (Value.bool false), (Value.bool false), (Value.bool false)] ++ (zs z 83 20 ++ (us 13))) s_mx (by kernel_rfl) (by kernel_rfl) rfl (by kernel_rfl) (by kernel_rfl) ?_ ?_
    ·
     intro w_ hO_
     refine AllG.cons (gi rfl (d_move rfl)) ?_
     refine AllG.cons (gi rfl (d_move rfl)) ?_
     refine AllG.cons (gi rfl (d_ix (i := i) (xs := ws33) Try.underlying47 s_ti29 rfl (f35.step0 hO_) (show _ = Value.int _ ((i : Nat) : Int) from rfl) (by first | omega | (simp; done) | (simp; omega)))) ?_
     refine AllG.cons (gi rfl (d_ldx (i := i) (xs := ws33) (enc := eV) (v := (ws33.getD i undef)) ⟨_, Try.underlying29, rfl⟩ rfl (f35.step0 hO_) (g_at (by first | omega | (simp; done) | (simp; omega))))) ?_
     refine AllG.cons (gi rfl (d_move rfl)) ?_
     refine AllG.cons (gi rfl (d_ix (i := d) (xs := (supR (spoilL D B ls) B D i)) Try.underlying29 s_ti3 rfl (r40.step0 hO_) (show _ = Value.int _ ((d : Nat) : Int) from rfl) (by have := spoilL_len D B ls; have := supR_len (spoilL D B ls) B D i; first | omega | (simp; done) | (simp; omega)))) ?_
     refine AllG.cons (gi rfl (d_ldx (i := d) (xs := (supR (spoilL D B ls) B D i)) (enc := eN) (v := ((supR (spoilL D B ls) B D i).getD d 0)) ⟨_, Try.underlying3, rfl⟩ rfl (r40.step0 hO_) (g_at (by have := spoilL_len D B ls; have := supR_len (spoilL D B ls) B D i; first | omega | (simp; done) | (simp; omega))))) ?_
     refine AllG.cons (gi rfl (n_lss (a := ((supR (spoilL D B ls) B D i).getD d 0)) (b := 0) rfl rfl (decide_eq_false (by omega)))) ?_
     refine AllG.cons (gi rfl (d_move rfl)) ?_
     refine AllG.cons (gi_on rfl rfl rfl (nb rfl) rfl (d_move rfl)) ?_
     refine AllG.cons (gi_on rfl rfl rfl (nb rfl) rfl (d_move rfl)) ?_
     refine AllG.cons (gi_on rfl rfl rfl (nb rfl) rfl (d_ix (i := i) (xs := ws33) Try.underlying47 s_ti29 rfl (f35.step0 hO_) (show _ = Value.int _ ((i : Nat) : Int) from rfl) (by first | omega | (simp; done) | (simp; omega)))) ?_
     refine AllG.cons (gi_on rfl rfl rfl (nb rfl) rfl (d_ldx (i := i) (xs := ws33) (enc := eV) (v := (ws33.getD i undef)) ⟨_, Try.underlying29, rfl⟩ rfl (f35.step0 hO_) (g_at (by first | omega | (simp; done) | (simp; omega))))) ?_
     refine AllG.cons (gi_on rfl rfl rfl (nb rfl) rfl (d_move rfl)) ?_
     refine AllG.cons (gi_on rfl rfl rfl (nb rfl) rfl (d_ix (i := d) (xs := (supR (spoilL D B ls) B D i)) Try.underlying29 s_ti3 rfl (r40.step0 hO_) (show _ = Value.int _ ((d : Nat) : Int) from rfl) (by have := spoilL_len D B ls; have := supR_len (spoilL D B ls) B D i; first | omega | (simp; done) | (simp; omega)))) ?_
     refine AllG.cons (gi_on rfl rfl rfl (nb rfl) rfl (d_ldx (i := d) (xs := (supR (spoilL D B ls) B D i)) (enc := eN) (v := ((supR (spoilL D B ls) B D i).getD d 0)) ⟨_, Try.underlying3, rfl⟩ rfl (r40.step0 hO_) (g_at (by have := spoilL_len D B ls; have := supR_len (spoilL D B ls) B D i; first | omega | (simp; done) | (simp; omega))))) ?_
     refine AllG.cons (gi_on rfl rfl rfl (nb rfl) rfl (d_fieldAddr (j := 1) Try.underlying25 rfl s_ti3 (by decide) rfl rfl)) ?_
     refine AllG.cons (gi_on rfl rfl rfl (nb rfl) rfl (d_load (v := (eN B)) ⟨_, Try.underlying3, rfl⟩ rfl (a24.step0 hO_) rfl)) ?_
     refine AllG.cons (gi_on rfl rfl rfl (nb rfl) rfl (n_geq (a := ((supR (spoilL D B ls) B D i).getD d 0)) (b := B) rfl rfl (decide_eq_false (by omega)))) ?_
     refine AllG.cons (gi rfl (d_pick (b := false) (v := (Value.bool false)) rfl rfl)) ?_
     refine AllG.cons (gi rfl (d_move rfl)) ?_
     refine AllG.cons (gi_on rfl rfl rfl (nb rfl) rfl (d_move rfl)) ?_
     refine AllG.cons (gi_on rfl rfl rfl (nb rfl) rfl (n_gtr (a := i) (b := 0) rfl rfl (decide_eq_true k0))) ?_
     refine AllG.cons (gi_on rfl rfl rfl (nb rfl) rfl (d_move rfl)) ?_
     refine AllG.cons (gi_on rfl rfl rfl (nb rfl) rfl (d_move rfl)) ?_
     refine AllG.cons (gi_on rfl rfl rfl (nb rfl) rfl (d_move rfl)) ?_
     refine AllG.cons (gi_on rfl rfl rfl (nb rfl) rfl (d_ix (i := i) (xs := ws33) Try.underlying47 s_ti29 rfl (f35.step0 hO_) (show _ = Value.int _ ((i : Nat) : Int) from rfl) (by first | omega | (simp; done) | (simp; omega)))) ?_
     refine AllG.cons (gi_on rfl rfl rfl (nb rfl) rfl (d_ldx (i := i) (xs := ws33) (enc := eV) (v := (ws33.getD i undef)) ⟨_, Try.underlying29, rfl⟩ rfl (f35.step0 hO_) (g_at (by first | omega | (simp; done) | (simp; omega))))) ?_
     refine AllG.cons (gi_on rfl rfl rfl (nb rfl) rfl (d_move rfl)) ?_
     refine AllG.cons (gi_on rfl rfl rfl (nb rfl) rfl (d_ix (i := d) (xs := (supR (spoilL D B ls) B D i)) Try.underlying29 s_ti3 rfl (r40.step0 hO_) (show _ = Value.int _ ((d : Nat) : Int) from rfl) (by have := spoilL_len D B ls; have := supR_len (spoilL D B ls) B D i; first | omega | (simp; done) | (simp; omega)))) ?_
     refine AllG.cons (gi_on rfl rfl rfl (nb rfl) rfl (d_ldx (i := d) (xs := (supR (spoilL D B ls) B D i)) (enc := eN) (v := ((supR (spoilL D B ls) B D i).getD d 0)) ⟨_, Try.underlying3, rfl⟩ rfl (r40.step0 hO_) (g_at (by have := spoilL_len D B ls; have := supR_len (spoilL D B ls) B D i; first | omega | (simp; done) | (simp; omega))))) ?_
     refine AllG.cons (gi_on rfl rfl rfl (nb rfl) rfl (d_move rfl)) ?_
     refine AllG.cons (gi_on rfl rfl rfl (nb rfl) rfl (d_move rfl)) ?_
     refine AllG.cons (gi_on rfl rfl rfl (nb rfl) rfl (n_sub (a := i) (b := 1) rfl rfl (by omega) (by omega))) ?_
     refine AllG.cons (gi_on rfl rfl rfl (nb rfl) rfl (d_ix (i := (i - 1)) (xs := ws33) Try.underlying47 s_ti29 rfl (f35.step0 hO_) (show _ = Value.int _ ((i - 1 : Nat) : Int) from rfl) (by first | omega | (simp; done) | (simp; omega)))) ?_
     refine AllG.cons (gi_on rfl rfl rfl (nb rfl) rfl (d_ldx (i := (i - 1)) (xs := ws33) (enc := eV) (v := (ws33.getD (i - 1) undef)) ⟨_, Try.underlying29, rfl⟩ rfl (f35.step0 hO_) (g_at (by first | omega | (simp; done) | (simp; omega))))) ?_
     refine AllG.cons (gi_on rfl rfl rfl (nb rfl) rfl (d_move rfl)) ?_
     refine AllG.cons (gi_on rfl rfl rfl (nb rfl) rfl (d_ix (i := d) (xs := (supR (spoilL D B ls) B D (i - 1))) Try.underlying29 s_ti3 rfl (r46.step0 hO_) (show _ = Value.int _ ((d : Nat) : Int) from rfl) (by have := spoilL_len D B ls; have := supR_len (spoilL D B ls) B D (i - 1); first | omega | (simp; done) | (simp; omega)))) ?_
     refine AllG.cons (gi_on rfl rfl rfl (nb rfl) rfl (d_ldx (i := d) (xs := (supR (spoilL D B ls) B D (i - 1))) (enc := eN) (v := ((supR (spoilL D B ls) B D (i - 1)).getD d 0)) ⟨_, Try.underlying3, rfl⟩ rfl (r46.step0 hO_) (g_at (by have := spoilL_len D B ls; have := supR_len (spoilL D B ls) B D (i - 1); first | omega | (simp; done) | (simp; omega))))) ?_
     refine AllG.cons (gi_on rfl rfl rfl (nb rfl) rfl (n_leq (a := ((supR (spoilL D B ls) B D i).getD d 0)) (b := ((supR (spoilL D B ls) B D (i - 1)).getD d 0)) rfl rfl (decide_eq_false (by omega)))) ?_
     refine AllG.cons (gi_on rfl rfl rfl (nb rfl) rfl (d_pick (b := true) (v := (Value.bool false)) rfl rfl)) ?_
     refine AllG.cons (gi rfl (d_pick (b := false) (v := (Value.bool false)) rfl rfl)) ?_
     exact AllG.nil
    intro w47 o48
    replace h1 := h1.step0 o48
    replace f29 := f29.step0 o48
    replace f35 := f35.step0 o48
    replace g36 := g36.step0 o48
    replace r40 := r40.step0 o48
    replace r46 := r46.step0 o48
    replace a13 := a13.step0 o48
    replace a24 := a24.step0 o48
    replace oW := oW.tail0 o48
    replace o37 := o37.tail0 o48
    replace o43 := o43.tail0 o48
    refine then_n ?_
    refine cond_f rfl ?_
    refine wpIn_skip ?_
    refine then_n ?_
    refine wpIn_seq ?_
    refine plain ?_
    refine wI (d_assign rfl) ?_
    refine wF ([(Value.agg #[(eI a), (eI b), (eI c)]), u1, (ptr g0 0), undef, (z 4), (ptr h0 0), u28, u32, (eN i), (eN d), (eN 0), (Value.bool true), (Value.bool false), (Value.agg #[(eI a), (eI b), (eI c)]), (Value.agg #[(eN D), (eN B), (eN Q)]), (Value.agg #[(eN D), (eN B), (eN Q)]), u1, u28, (Value.agg #[(eN D), (eN B), (eN Q)]), u28, u32, (eN i), u32, (eN ws33.length), (Value.bool (decide (i < ws33.length))), (z 25), (z 26), u32, (eN i), (ixp u32 i), (ws33.getD i undef), (eN ((supR (spoilL D B ls) B D i).length)), (ptr h0 0), (eN D), (Value.bool false), (eN d), (ptr h0 0), (eN D), (Value.bool (decide (d < D))), (z 39), (z 40), u32, (eN i), (ixp u32 i), (ws33.getD i undef), (eN d), (ixp (ws33.getD i undef) d), (eN ((supR (spoilL D B ls) B D i).getD d 0)), (Value.bool false), (Value.bool false), u32, (eN i), (ixp u32 i), (ws33.getD i undef), (eN d), (ixp (ws33.getD i undef) d), (eN ((supR (spoilL D B ls) B D i).getD d 0)), (ptr h0 1), (eN B), (Value.bool false), (Value.bool false), (Value.bool false), (eN i), (Value.bool true), (Value.bool true), u32, (eN i), (ixp u32 i), (ws33.getD i undef), (eN d), (ixp (ws33.getD i undef) d), (eN ((supR (spoilL D B ls) B D i).getD d 0)), u32, (eN i), (eN (i - 1)), (ixp u32 (i - 1)), (ws33.getD (i - 1) undef), (eN d), (ixp (ws33.getD (i - 1) undef) d), (eN ((supR (spoilL D B ls) B D (i - 1)).getD d 0)), (Value.bool false), (Value.bool false), (Value.bool false)] ++ (zs z 83 20 ++ (us 13))) ?_
    refine wpL.done ?_
    refine then_n ?_
    refine wpIn_block ?_
    refine loop2 (fun (k : (Nat)) => fun (z : Nat → Value) => (([(Value.agg #[(eI a), (eI b), (eI c)]), u1, (ptr g0 0), undef, (z 4), (ptr h0 0), u28, u32, (eN i), (eN d), (eN k), (Value.bool true), (Value.bool false), (Value.agg #[(eI a), (eI b), (eI c)]), (Value.agg #[(eN D), (eN B), (eN Q)]), (Value.agg #[(eN D), (eN B), (eN Q)]), u1, u28, (Value.agg #[(eN D), (eN B), (eN Q)]), u28, u32, (eN i), u32, (eN ws33.length), (Value.bool (decide (i < ws33.length))), (z 25), (z 26), u32, (eN i), (ixp u32 i), (ws33.getD i undef), (eN ((supR (spoilL D B ls) B D i).length)), (ptr h0 0), (eN D), (Value.bool false), (eN d), (ptr h0 0), (eN D), (Value.bool (decide (d < D))), (z 39), (z 40), u32, (eN i), (ixp u32 i), (ws33.getD i undef), (eN d), (ixp (ws33.getD i undef) d), (eN ((supR (spoilL D B ls) B D i).getD d 0)), (Value.bool false), (Value.bool false), u32, (eN i), (ixp u32 i), (ws33.getD i undef), (eN d), (ixp (ws33.getD i undef) d), (eN ((supR (spoilL D B ls) B D i).getD d 0)), (ptr h0 1), (eN B), (Value.bool false), (Value.bool false), (Value.bool false), (eN i), (Value.bool true), (Value.bool true), u32, (eN i), (ixp u32 i), (ws33.getD i undef), (eN d), (ixp (ws33.getD i undef) d), (eN ((supR (spoilL D B ls) B D i).getD d 0)), u32, (eN i), (eN (i - 1)), (ixp u32 (i - 1)), (ws33.getD (i - 1) undef), (eN d), (ixp (ws33.getD (i - 1) undef) d), (eN ((supR (spoilL D B ls) B D (i - 1)).getD d 0)), (Value.bool false), (Value.bool false), (Value.bool false)] ++ (zs z 83 20 ++ (us 13))) : List Value)) (fun (k : (Nat)) => fun (w_ : World) => (k ≤ (spoilL D B ls).length) ∧ Only (Or1 h0 (Or1 g0 No)) w47 w_ ∧ Arr 25 g0 [(eI a), (eI b), (eI c)] w_ ∧ Arr 25 h0 [(eN D), (eN B), (eN Q)] w_) (fun (k : (Nat)) => (spoilL D B ls).length - k) 0 rfl ?_ ?_
    ·
     refine ⟨?_, ?_, ?_, ?_⟩
     ·
      exact Nat.zero_le _
     ·
      exact Only.refl _ _
     ·
      exact a13
     ·
      exact a24
    rintro k z w50 ⟨hk, o49, a13, a24⟩
    (try dsimp only)
    replace h1 := h1.step o49 (or1_mono (or1_mono no_any))
    replace f29 := f29.step o49 (or1_mono (or1_mono no_any))
    replace f35 := f35.step o49 (or1_mono (or1_mono no_any))
    replace g36 := g36.step o49 (or1_mono (or1_mono no_any))
    replace r40 := r40.step o49 (or1_mono (or1_mono no_any))
    replace r46 := r46.step o49 (or1_mono (or1_mono no_any))
    replace oW := oW.tail o49 (tl_new g_oW_h0 (tl_new g_oW_g0 tl_no))
    replace o37 := o37.tail o49 (tl_in in1 (tl_in (in2 in1) tl_no))
    replace o43 := o43.tail o49 (tl_in in1 (tl_in (in2 in1) tl_no))
    refine wpIn_seq ?_
    refine wpIn_seq ?_
    refine plain ?_
    refine wI (d_move rfl) ?_
    refine wI (d_move rfl) ?_
    refine wI (d_lenS rfl Try.underlying42 rfl f29) ?_
    refine wF ([(Value.agg #[(eI a), (eI b), (eI c)]), u1, (ptr g0 0), undef, (z 4), (ptr h0 0), u28, u32, (eN i), (eN d), (eN k), (Value.bool true), (Value.bool false), (Value.agg #[(eI a), (eI b), (eI c)]), (Value.agg #[(eN D), (eN B), (eN Q)]), (Value.agg #[(eN D), (eN B), (eN Q)]), u1, u28, (Value.agg #[(eN D), (eN B), (eN Q)]), u28, u32, (eN i), u32, (eN ws33.length), (Value.bool (decide (i < ws33.length))), (z 25), (z 26), u32, (eN i), (ixp u32 i), (ws33.getD i undef), (eN ((supR (spoilL D B ls) B D i).length)), (ptr h0 0), (eN D), (Value.bool false), (eN d), (ptr h0 0), (eN D), (Value.bool (decide (d < D))), (z 39), (z 40), u32, (eN i), (ixp u32 i), (ws33.getD i undef), (eN d), (ixp (ws33.getD i undef) d), (eN ((supR (spoilL D B ls) B D i).getD d 0)), (Value.bool false), (Value.bool false), u32, (eN i), (ixp u32 i), (ws33.getD i undef), (eN d), (ixp (ws33.getD i undef) d), (eN ((supR (spoilL D B ls) B D i).getD d 0)), (ptr h0 1), (eN B), (Value.bool false), (Value.bool false), (Value.bool false), (eN i), (Value.bool true), (Value.bool true), u32, (eN i), (ixp u32 i), (ws33.getD i undef), (eN d), (ixp (ws33.getD i undef) d), (eN ((supR (spoilL D B ls) B D i).getD d 0)), u32, (eN i), (eN (i - 1)), (ixp u32 (i - 1)), (ws33.getD (i - 1) undef), (eN d), (ixp (ws33.getD (i - 1) undef) d), (eN ((supR (spoilL D B ls) B D (i - 1)).getD d 0)), (Value.bool false), (Value.bool false), (Value.bool false), (eN k), u28, (eN ((spoilL D B ls).length))] ++ (zs z 86 17 ++ (us 13))) ?_
    refine wI (n_lss (a := k) (b := ((spoilL D B ls).length)) rfl rfl rfl) ?_
    refine wF ([(Value.agg #[(eI a), (eI b), (eI c)]), u1, (ptr g0 0), undef, (z 4), (ptr h0 0), u28, u32, (eN i), (eN d), (eN k), (Value.bool true), (Value.bool false), (Value.agg #[(eI a), (eI b), (eI c)]), (Value.agg #[(eN D), (eN B), (eN Q)]), (Value.agg #[(eN D), (eN B), (eN Q)]), u1, u28, (Value.agg #[(eN D), (eN B), (eN Q)]), u28, u32, (eN i), u32, (eN ws33.length), (Value.bool (decide (i < ws33.length))), (z 25), (z 26), u32, (eN i), (ixp u32 i), (ws33.getD i undef), (eN ((supR (spoilL D B ls) B D i).length)), (ptr h0 0), (eN D), (Value.bool false), (eN d), (ptr h0 0), (eN D), (Value.bool (decide (d < D))), (z 39), (z 40), u32, (eN i), (ixp u32 i), (ws33.getD i undef), (eN d), (ixp (ws33.getD i undef) d), (eN ((supR (spoilL D B ls) B D i).getD d 0)), (Value.bool false), (Value.bool false), u32, (eN i), (ixp u32 i), (ws33.getD i undef), (eN d), (ixp (ws33.getD i undef) d), (eN ((supR (spoilL D B ls) B D i).getD d 0)), (ptr h0 1), (eN B), (Value.bool false), (Value.bool false), (Value.bool false), (eN i), (Value.bool true), (Value.bool true), u32, (eN i), (ixp u32 i), (ws33.getD i undef), (eN d), (ixp (ws33.getD i undef) d), (eN ((supR (spoilL D B ls) B D i).getD d 0)), u32, (eN i), (eN (i - 1)), (ixp u32 (i - 1)), (ws33.getD (i - 1) undef), (eN d), (ixp (ws33.getD (i - 1) undef) d), (eN ((supR (spoilL D B ls) B D (i - 1)).getD d 0)), (Value.bool false), (Value.bool false), (Value.bool false), (eN k), u28, (eN ((spoilL D B ls).length)), (Value.bool (decide (k < ((spoilL D B ls).length))))] ++ (zs z 87 16 ++ (us 13))) ?_
    refine wpL.done ?_
    refine then_n ?_
    refine cond_if rfl (fun c51 => ?_) (fun c51 => ?_)
    ·
     refine wpIn_skip ?_
     refine then_n ?_
     refine wpIn_seq ?_
     refine wpIn_block ?_
     refine wpIn_seq ?_
     refine drawn' (O := (Or1 h0 (Or1 g0 No))) (n := 14) [0, 0, 3, 7, 0, 0, 0, 96, 224, 0, 992, 2016, 4080, 8191] [(0, 89), (1, 90), (2, 91), (3, 92), (4, 93), (5, 94), (6, 95), (7, 96), (8, 97), (9, 98), (10, 99), (11, 100), (12, 101), (13, 102)] [0, 1, 2, 3, 4, 5, 6, 7, 8, 9, 10, 11, 12, 13] [] (fun i_ => ([RF.is (Or1 h0 (Or1 g0 No)) u28, RF.is (Or1 h0 (Or1 g0 No)) (eN k), RF.ps (Or1 h0 (Or1 g0 No)) (Or1 h0 (Or1 g0 (Old W.heap.size))) (At (kA 2 eQ) ((spoilL D B ls).getD k (0, 0))) (or1_mono (or1_mono no_any)), RF.is (Or1 h0 (Or1 g0 No)) (Value.agg #[(eI (((spoilL D B ls).getD k (0, 0)).1)), (eI (((spoilL D B ls).getD k (0, 0)).2))]), RF.is (Or1 h0 (Or1 g0 No)) (eN d), RF.is (Or1 h0 (Or1 g0 No)) u32, RF.is (Or1 h0 (Or1 g0 No)) (eN i), RF.is (Or1 h0 (Or1 g0 No)) (ixp u32 i), RF.is (Or1 h0 (Or1 g0 No)) (ws33.getD i undef), RF.is (Or1 h0 (Or1 g0 No)) (eN d), RF.is (Or1 h0 (Or1 g0 No)) (ixp (ws33.getD i undef) d), RF.is (Or1 h0 (Or1 g0 No)) (eN ((supR (spoilL D B ls) B D i).getD d 0)), RF.is (Or1 h0 (Or1 g0 No)) (Value.agg #[(eN d), (eN ((supR (spoilL D B ls) B D i).getD d 0))]), RF.is (Or1 h0 (Or1 g0 No)) (Value.bool false)] : List (RF (Or1 h0 (Or1 g0 No)))).getD i_ (RF.any (Or1 h0 (Or1 g0 No)))) (fun _ w_ => Arr 25 g0 [(eI a), (eI b), (eI c)] w_ ∧ Arr 25 h0 [(eN D), (eN B), (eN Q)] w_) (fun v52 => ([(Value.agg #[(eI a), (eI b), (eI c)]), u1, (ptr g0 0), undef, (z 4), (ptr h0 0), u28, u32, (eN i), (eN d), (eN k), (Value.bool true), (Value.bool false), (Value.agg #[(eI a), (eI b), (eI c)]), (Value.agg #[(eN D), (eN B), (eN Q)]), (Value.agg #[(eN D), (eN B), (eN Q)]), u1, u28, (Value.agg #[(eN D), (eN B), (eN Q)]), u28, u32, (eN i), u32, (eN ws33.length), (Value.bool (decide (i < ws33.length))), (z 25), (z 26), u32, (eN i), (ixp u32 i), (ws33.getD i undef), (eN ((supR (spoilL D B ls) B D i).length)), (ptr h0 0), (eN D), (Value.bool false), (eN d), (ptr h0 0), (eN D), (Value.bool (decide (d < D))), (z 39), (z 40), u32, (eN i), (ixp u32 i), (ws33.getD i undef), (eN d), (ixp (ws33.getD i undef) d), (eN ((supR (spoilL D B ls) B D i).getD d 0)), (Value.bool false), (Value.bool false), u32, (eN i), (ixp u32 i), (ws33.getD i undef), (eN d), (ixp (ws33.getD i undef) d), (eN ((supR (spoilL D B ls) B D i).getD d 0)), (ptr h0 1), (eN B), (Value.bool false), (Value.bool false), (Value.bool false), (eN i), (Value.bool true), (Value.bool true), u32, (eN i), (ixp u32 i), (ws33.getD i undef), (eN d), (ixp (ws33.getD i undef) d), (eN ((supR (spoilL D B ls) B D i).getD d 0)), u32, (eN i), (eN (i - 1)), (ixp u32 (i - 1)), (ws33.getD (i - 1) undef), (eN d), (ixp (ws33.getD (i - 1) undef) d), (eN ((supR (spoilL D B ls) B D (i - 1)).getD d 0)), (Value.bool false), (Value.bool false), (Value.bool false), (eN k), u28, (eN ((spoilL D B ls).length)), (Value.bool (decide (k < ((spoilL D B ls).length)))), (z 87), (z 88), (v52 0), (v52 1), (v52 2), (v52 3), (v52 4), (v52 5), (v52 6), (v52 7), (v52 8), (v52 9), (v52 10), (v52 11), (v52 12), (v52 13)] ++ (us 13))) s_mx (by kernel_rfl) rfl (by kernel_rfl) (by rfl) (fun v_ => by kernel_rfl) (fun _ => fun w_ w2_ h ho => by obtain ⟨r_a13, r_a24⟩ := h; exact ⟨r_a13.step0 ho, r_a24.step0 ho⟩) ⟨a13, a24⟩ ?_ ?_ ?_
     ·
      refine ls_cons ?_ ?_
      ·
       intro v52 lo hi w_ k_ hO hd _ _ hk_ _ hR hold
       obtain ⟨r_a13, r_a24⟩ := hR
       clear hd hold
       refine ⟨_, rfl, gd rfl ?_⟩
       exact Does.is (d_move rfl)
      refine ls_cons ?_ ?_
      ·
       intro v52 lo hi w_ k_ hO hd _ _ hk_ _ hR hold
       obtain ⟨r_a13, r_a24⟩ := hR
       clear hd hold
       refine ⟨_, rfl, gd rfl ?_⟩
       exact Does.is (d_move rfl)
      refine ls_cons ?_ ?_
      ·
       intro v52 lo hi w_ k_ hO hd _ _ hk_ _ hR hold
       obtain ⟨r_a13, r_a24⟩ := hR
       have e0 : v52 0 = u28 := hd 0 (by kernel_rfl)
       have e1 : v52 1 = (eN k) := hd 1 (by kernel_rfl)
       clear hd hold
       refine ⟨_, rfl, gd rfl ?_⟩
       refine Does.mono (d_indexS (q := (kA 2 eQ)) (xs := (spoilL D B ls)) (v := ((spoilL D B ls).getD k (0, 0))) Try.underlying42 s_ti53 e0 (f29.step hO (or1_mono (or1_mono no_any))) (show _ = Value.int _ ((k : Nat) : Int) from e1) (by omega) (g_at (by have := spoilL_len D B ls; first | omega | (simp; done) | (simp; omega)))) (fun u w' h => ⟨h.2 ▸ h.1, h.2 ▸ Only.refl _ _⟩)
      refine ls_cons ?_ ?_
      ·
       intro v52 lo hi w_ k_ hO hd _ _ hk_ _ hR hold
       obtain ⟨r_a13, r_a24⟩ := hR
       have d2 : Ps (Or1 h0 (Or1 g0 (Old W.heap.size))) (At (kA 2 eQ) ((spoilL D B ls).getD k (0, 0)) (v52 2)) w_ := hd 2 (by kernel_rfl)
       clear hd hold
       refine ⟨_, rfl, gd rfl ?_⟩
       exact Does.is (d_loadAtA (enc := eQ) (v := ((spoilL D B ls).getD k (0, 0))) ⟨_, Try.underlying53, rfl⟩ s_ti53 rfl d2)
      refine ls_cons ?_ ?_
      ·
       intro v52 lo hi w_ k_ hO hd _ _ hk_ _ hR hold
       obtain ⟨r_a13, r_a24⟩ := hR
       clear hd hold
       refine ⟨_, rfl, gd rfl ?_⟩
       exact Does.is (d_move rfl)
      refine ls_cons ?_ ?_
      ·
       intro v52 lo hi w_ k_ hO hd _ _ hk_ _ hR hold
       obtain ⟨r_a13, r_a24⟩ := hR
       clear hd hold
       refine ⟨_, rfl, gd rfl ?_⟩
       exact Does.is (d_move rfl)
      refine ls_cons ?_ ?_
      ·
       intro v52 lo hi w_ k_ hO hd _ _ hk_ _ hR hold
       obtain ⟨r_a13, r_a24⟩ := hR
       clear hd hold
       refine ⟨_, rfl, gd rfl ?_⟩
       exact Does.is (d_move rfl)
      refine ls_cons ?_ ?_
      ·
       intro v52 lo hi w_ k_ hO hd _ _ hk_ _ hR hold
       obtain ⟨r_a13, r_a24⟩ := hR
       have e5 : v52 5 = u32 := hd 5 (by kernel_rfl)
       have e6 : v52 6 = (eN i) := hd 6 (by kernel_rfl)
       clear hd hold
       refine ⟨_, rfl, gd rfl ?_⟩
       exact Does.is (d_ix (i := i) (xs := ws33) Try.underlying47 s_ti29 e5 (f35.step hO (or1_mono (or1_mono no_any))) (show _ = Value.int _ ((i : Nat) : Int) from e6) (by first | omega | (simp; done) | (simp; omega)))
      refine ls_cons ?_ ?_
      ·
       intro v52 lo hi w_ k_ hO hd _ _ hk_ _ hR hold
       obtain ⟨r_a13, r_a24⟩ := hR
       have e7 : v52 7 = (ixp u32 i) := hd 7 (by kernel_rfl)
       clear hd hold
       refine ⟨_, rfl, gd rfl ?_⟩
       exact Does.is (d_ldx (i := i) (xs := ws33) (enc := eV) (v := (ws33.getD i undef)) ⟨_, Try.underlying29, rfl⟩ e7 (f35.step hO (or1_mono (or1_mono no_any))) (g_at (by first | omega | (simp; done) | (simp; omega))))
      refine ls_cons ?_ ?_
      ·
       intro v52 lo hi w_ k_ hO hd _ _ hk_ _ hR hold
       obtain ⟨r_a13, r_a24⟩ := hR
       clear hd hold
       refine ⟨_, rfl, gd rfl ?_⟩
       exact Does.is (d_move rfl)
      refine ls_cons ?_ ?_
      ·
       intro v52 lo hi w_ k_ hO hd _ _ hk_ _ hR hold
       obtain ⟨r_a13, r_a24⟩ := hR
       have e8 : v52 8 = (ws33.getD i undef) := hd 8 (by kernel_rfl)
       have e9 : v52 9 = (eN d) := hd 9 (by kernel_rfl)
       clear hd hold
       refine ⟨_, rfl, gd rfl ?_⟩
       exact Does.is (d_ix (i := d) (xs := (supR (spoilL D B ls) B D i)) Try.underlying29 s_ti3 e8 (r40.step hO (or1_mono (or1_mono no_any))) (show _ = Value.int _ ((d : Nat) : Int) from e9) (by have := spoilL_len D B ls; have := supR_len (spoilL D B ls) B D i; first | omega | (simp; done) | (simp; omega)))
      refine ls_cons ?_ ?_
      ·
       intro v52 lo hi w_ k_ hO hd _ _ hk_ _ hR hold
       obtain ⟨r_a13, r_a24⟩ := hR
       have e10 : v52 10 = (ixp (ws33.getD i undef) d) := hd 10 (by kernel_rfl)
       clear hd hold
       refine ⟨_, rfl, gd rfl ?_⟩
       exact Does.is (d_ldx (i := d) (xs := (supR (spoilL D B ls) B D i)) (enc := eN) (v := ((supR (spoilL D B ls) B D i).getD d 0)) ⟨_, Try.underlying3, rfl⟩ e10 (r40.step hO (or1_mono (or1_mono no_any))) (g_at (by have := spoilL_len D B ls; have := supR_len (spoilL D B ls) B D i; first | omega | (simp; done) | (simp; omega))))
      refine ls_cons ?_ ?_
      ·
       intro v52 lo hi w_ k_ hO hd _ _ hk_ _ hR hold
       obtain ⟨r_a13, r_a24⟩ := hR
       have e11 : v52 11 = (eN ((supR (spoilL D B ls) B D i).getD d 0)) := hd 11 (by kernel_rfl)
       have e4 : v52 4 = (eN d) := hd 4 (by kernel_rfl)
       clear hd hold
       refine ⟨_, rfl, gd rfl ?_⟩
       exact Does.is (d_buildA (zs := [(eN 0), (eN 0)]) (cs := [(eN d), (eN ((supR (spoilL D B ls) B D i).getD d 0))]) Try.underlying53 s_ti53 s_ti3 rfl (parts_cons (vs := [(eN d)]) (cells_of (v := (eN d)) e4 rfl) (parts_cons (vs := [(eN ((supR (spoilL D B ls) B D i).getD d 0))]) (cells_of (v := (eN ((supR (spoilL D B ls) B D i).getD d 0))) e11 rfl) parts_nil)) rfl)
      refine ls_cons ?_ ?_
      ·
       intro v52 lo hi w_ k_ hO hd _ _ hk_ _ hR hold
       obtain ⟨r_a13, r_a24⟩ := hR
       have e12 : v52 12 = (Value.agg #[(eN d), (eN ((supR (spoilL D B ls) B D i).getD d 0))]) := hd 12 (by kernel_rfl)
       have e3 : v52 3 = (Value.agg #[(eI (((spoilL D B ls).getD k (0, 0)).1)), (eI (((spoilL D B ls).getD k (0, 0)).2))]) := hd 3 (by kernel_rfl)
       clear hd hold
       refine ⟨_, rfl, gd rfl ?_⟩
       exact Does.is (d_eqlPair (a := (((spoilL D B ls).getD k (0, 0)).1)) (b := (((spoilL D B ls).getD k (0, 0)).2)) (c := ((d : Nat) : Int)) (d := ((((supR (spoilL D B ls) B D i).getD d 0) : Nat) : Int)) Try.underlying53 Try.underlying3 s_ti3 (by kernel_rfl) (by kernel_rfl) e3 e12 (decide_eq_false (fun h_ => by have := ga_.2; rw [← gb_] at this; exact absurd (pair_in (by omega) ⟨h_.1.symm, h_.2.symm⟩) (of_decide_eq_false this))))
      exact ls_nil
     ·
      exact ms_nil
     intro v52 lo_ hi_ w53 o54 hd iv_ hR
     have e0 : v52 0 = u28 := hd 0 (by decide)
     have e1 : v52 1 = (eN k) := hd 1 (by decide)
     have e3 : v52 3 = (Value.agg #[(eI (((spoilL D B ls).getD k (0, 0)).1)), (eI (((spoilL D B ls).getD k (0, 0)).2))]) := hd 3 (by decide)
     have e4 : v52 4 = (eN d) := hd 4 (by decide)
     have e5 : v52 5 = u32 := hd 5 (by decide)
     have e6 : v52 6 = (eN i) := hd 6 (by decide)
     have e7 : v52 7 = (ixp u32 i) := hd 7 (by decide)
     have e8 : v52 8 = (ws33.getD i undef) := hd 8 (by decide)
     have e9 : v52 9 = (eN d) := hd 9 (by decide)
     have e10 : v52 10 = (ixp (ws33.getD i undef) d) := hd 10 (by decide)
     have e11 : v52 11 = (eN ((supR (spoilL D B ls) B D i).getD d 0)) := hd 11 (by decide)
     have e12 : v52 12 = (Value.agg #[(eN d), (eN ((supR (spoilL D B ls) B D i).getD d 0))]) := hd 12 (by decide)
     have e13 : v52 13 = (Value.bool false) := hd 13 (by decide)
     have f_v52_2 : Ps (Or1 h0 (Or1 g0 (Old W.heap.size))) (At (kA 2 eQ) ((spoilL D B ls).getD k (0, 0)) (v52 2)) w53 := hd 2 (by decide)
     clear hd iv_ lo_ hi_
     refine fr_eq (l' := ([(Value.agg #[(eI a), (eI b), (eI c)]), u1, (ptr g0 0), undef, (z 4), (ptr h0 0), u28, u32, (eN i), (eN d), (eN k), (Value.bool true), (Value.bool false), (Value.agg #[(eI a), (eI b), (eI c)]), (Value.agg #[(eN D), (eN B), (eN Q)]), (Value.agg #[(eN D), (eN B), (eN Q)]), u1, u28, (Value.agg #[(eN D), (eN B), (eN Q)]), u28, u32, (eN i), u32, (eN ws33.length), (Value.bool (decide (i < ws33.length))), (z 25), (z 26), u32, (eN i), (ixp u32 i), (ws33.getD i undef), (eN ((supR (spoilL D B ls) B D i).length)), (ptr h0 0), (eN D), (Value.bool false), (eN d), (ptr h0 0), (eN D), (Value.bool (decide (d < D))), (z 39), (z 40), u32, (eN i), (ixp u32 i), (ws33.getD i undef), (eN d), (ixp (ws33.getD i undef) d), (eN ((supR (spoilL D B ls) B D i).getD d 0)), (Value.bool false), (Value.bool false), u32, (eN i), (ixp u32 i), (ws33.getD i undef), (eN d), (ixp (ws33.getD i undef) d), (eN ((supR (spoilL D B ls) B D i).getD d 0)), (ptr h0 1), (eN B), (Value.bool false), (Value.bool false), (Value.bool false), (eN i), (Value.bool true), (Value.bool true), u32, (eN i), (ixp u32 i), (ws33.getD i undef), (eN d), (ixp (ws33.getD i undef) d), (eN ((supR (spoilL D B ls) B D i).getD d 0)), u32, (eN i), (eN (i - 1)), (ixp u32 (i - 1)), (ws33.getD (i - 1) undef), (eN d), (ixp (ws33.getD (i - 1) undef) d), (eN ((supR (spoilL D B ls) B D (i - 1)).getD d 0)), (Value.bool false), (Value.bool false), (Value.bool false), (eN k), u28, (eN ((spoilL D B ls).length)), (Value.bool (decide (k < ((spoilL D B ls).length)))), (z 87), (z 88), u28, (eN k), (v52 2), (Value.agg #[(eI (((spoilL D B ls).getD k (0, 0)).1)), (eI (((spoilL D B ls).getD k (0, 0)).2))]), (eN d), u32, (eN i), (ixp u32 i), (ws33.getD i undef), (eN d), (ixp (ws33.getD i undef) d), (eN ((supR (spoilL D B ls) B D i).getD d 0)), (Value.agg #[(eN d), (eN ((supR (spoilL D B ls) B D i).getD d 0))]), (Value.bool false)] ++ (us 13))) (by rw [e0, e1, e3, e4, e5, e6, e7, e8, e9, e10, e11, e12, e13] <;> rfl) ?_
     clear e0 e1 e3 e4 e5 e6 e7 e8 e9 e10 e11 e12 e13
     replace h1 := h1.step o54 (or1_mono (or1_mono no_any))
     replace f29 := f29.step o54 (or1_mono (or1_mono no_any))
     replace f35 := f35.step o54 (or1_mono (or1_mono no_any))
     replace g36 := g36.step o54 (or1_mono (or1_mono no_any))
     replace r40 := r40.step o54 (or1_mono (or1_mono no_any))
     replace r46 := r46.step o54 (or1_mono (or1_mono no_any))
     obtain ⟨xr_a13, xr_a24⟩ := hR
     replace a13 : Arr 25 g0 [(eI a), (eI b), (eI c)] w53 := xr_a13
     replace a24 : Arr 25 h0 [(eN D), (eN B), (eN Q)] w53 := xr_a24
     clear xr_a13 xr_a24
     replace oW := oW.tail o54 (tl_new g_oW_h0 (tl_new g_oW_g0 tl_no))
     replace o37 := o37.tail o54 (tl_in in1 (tl_in (in2 in1) tl_no))
     replace o43 := o43.tail o54 (tl_in in1 (tl_in (in2 in1) tl_no))
     replace o49 := o49.tail o54 (tl_in in1 (tl_in (in2 in1) tl_no))
     refine then_n ?_
     refine cond_f rfl ?_
     refine wpIn_skip ?_
     refine inb_n (then_n ?_)
     refine plain ?_
     refine wI (d_move rfl) ?_
     refine wI (n_add (a := k) (b := 1) rfl rfl (by omega)) ?_
     refine wI (d_assign rfl) ?_
     refine wF ([(Value.agg #[(eI a), (eI b), (eI c)]), u1, (ptr g0 0), undef, (z 4), (ptr h0 0), u28, u32, (eN i), (eN d), (eN (k + 1)), (Value.bool true), (Value.bool false), (Value.agg #[(eI a), (eI b), (eI c)]), (Value.agg #[(eN D), (eN B), (eN Q)]), (Value.agg #[(eN D), (eN B), (eN Q)]), u1, u28, (Value.agg #[(eN D), (eN B), (eN Q)]), u28, u32, (eN i), u32, (eN ws33.length), (Value.bool (decide (i < ws33.length))), (z 25), (z 26), u32, (eN i), (ixp u32 i), (ws33.getD i undef), (eN ((supR (spoilL D B ls) B D i).length)), (ptr h0 0), (eN D), (Value.bool false), (eN d), (ptr h0 0), (eN D), (Value.bool (decide (d < D))), (z 39), (z 40), u32, (eN i), (ixp u32 i), (ws33.getD i undef), (eN d), (ixp (ws33.getD i undef) d), (eN ((supR (spoilL D B ls) B D i).getD d 0)), (Value.bool false), (Value.bool false), u32, (eN i), (ixp u32 i), (ws33.getD i undef), (eN d), (ixp (ws33.getD i undef) d), (eN ((supR (spoilL D B ls) B D i).getD d 0)), (ptr h0 1), (eN B), (Value.bool false), (Value.bool false), (Value.bool false), (eN i), (Value.bool true), (Value.bool true), u32, (eN i), (ixp u32 i), (ws33.getD i undef), (eN d), (ixp (ws33.getD i undef) d), (eN ((supR (spoilL D B ls) B D i).getD d 0)), u32, (eN i), (eN (i - 1)), (ixp u32 (i - 1)), (ws33.getD (i - 1) undef), (eN d), (ixp (ws33.getD (i - 1) undef) d), (eN ((supR (spoilL D B ls) B D (i - 1)).getD d 0)), (Value.bool false), (Value.bool false), (Value.bool false), (eN k), u28, (eN ((spoilL D B ls).length)), (Value.bool (decide (k < ((spoilL D B ls).length)))), (eN k), (eN (k + 1)), u28, (eN k), (v52 2), (Value.agg #[(eI (((spoilL D B ls).getD k (0, 0)).1)), (eI (((spoilL D B ls).getD k (0, 0)).2))]), (eN d), u32, (eN i), (ixp u32 i), (ws33.getD i undef), (eN d), (ixp (ws33.getD i undef) d), (eN ((supR (spoilL D B ls) B D i).getD d 0)), (Value.agg #[(eN d), (eN ((supR (spoilL D B ls) B D i).getD d 0))]), (Value.bool false)] ++ (us 13)) ?_
     refine wpL.done ?_
     refine then_n ?_
     refine ⟨_, (k + 1), rfl, rfl, ⟨?_, ?_, ?_, ?_⟩, ?_⟩
     ·
      (try dsimp only)
      all_goals (omega)
     ·
      exact o49
     ·
      exact a13
     ·
      exact a24
     ·
      (try dsimp only)
      all_goals (omega)
    refine wpIn_exit ?_
    refine then_x (then_x (inb_e ?_))
    refine inb_n (then_n ?_)
    refine plain ?_
    refine wI (d_move rfl) ?_
    refine wI (n_add (a := d) (b := 1) rfl rfl (by omega)) ?_
    refine wI (d_assign rfl) ?_
    refine wF ([(Value.agg #[(eI a), (eI b), (eI c)]), u1, (ptr g0 0), undef, (z 4), (ptr h0 0), u28, u32, (eN i), (eN (d + 1)), (eN k), (Value.bool true), (Value.bool false), (Value.agg #[(eI a), (eI b), (eI c)]), (Value.agg #[(eN D), (eN B), (eN Q)]), (Value.agg #[(eN D), (eN B), (eN Q)]), u1, u28, (Value.agg #[(eN D), (eN B), (eN Q)]), u28, u32, (eN i), u32, (eN ws33.length), (Value.bool (decide (i < ws33.length))), (z 25), (z 26), u32, (eN i), (ixp u32 i), (ws33.getD i undef), (eN ((supR (spoilL D B ls) B D i).length)), (ptr h0 0), (eN D), (Value.bool false), (eN d), (ptr h0 0), (eN D), (Value.bool (decide (d < D))), (eN d), (eN (d + 1)), u32, (eN i), (ixp u32 i), (ws33.getD i undef), (eN d), (ixp (ws33.getD i undef) d), (eN ((supR (spoilL D B ls) B D i).getD d 0)), (Value.bool false), (Value.bool false), u32, (eN i), (ixp u32 i), (ws33.getD i undef), (eN d), (ixp (ws33.getD i undef) d), (eN ((supR (spoilL D B ls) B D i).getD d 0)), (ptr h0 1), (eN B), (Value.bool false), (Value.bool false), (Value.bool false), (eN i), (Value.bool true), (Value.bool true), u32, (eN i), (ixp u32 i), (ws33.getD i undef), (eN d), (ixp (ws33.getD i undef) d), (eN ((supR (spoilL D B ls) B D i).getD d 0)), u32, (eN i), (eN (i - 1)), (ixp u32 (i - 1)), (ws33.getD (i - 1) undef), (eN d), (ixp (ws33.getD (i - 1) undef) d), (eN ((supR (spoilL D B ls) B D (i - 1)).getD d 0)), (Value.bool false), (Value.bool false), (Value.bool false), (eN k), u28, (eN ((spoilL D B ls).length)), (Value.bool (decide (k < ((spoilL D B ls).length))))] ++ (zs z 87 16 ++ (us 13))) ?_
    refine wpL.done ?_
    refine then_n ?_
    refine ⟨_, (d + 1), rfl, rfl, ⟨?_, ?_, ?_, ?_⟩, ?_⟩
    ·
     (try dsimp only)
     all_goals (omega)
    ·
     exact o43
    ·
     exact a13
    ·
     exact a24
    ·
     (try dsimp only)
     all_goals (omega)
   have gl := nMin_good (spoilL D B ls) B (show d < D by omega)
   have ga_ := good_lt (show i < (goodL (spoilL D B ls) d B).length by omega)
   have gb_ := supR_at (bad := (spoilL D B ls)) (B := B) (i := i) (show d < D by omega)
   have sl := supR_len (spoilL D B ls) B D i
   refine drawn_pure [0, 0, 3, 7, 0, 31, 63, 127, 255, 511, 511, 2047, 4095, 511, 16383, 32767, 511, 66047, 262143, 524287, 1048575, 2097151, 4194303, 8388607, 16777215, 16777215, 67108863, 134217727, 16777215, 536870911, 1073741823, 16777215, 16777215, 4311744511, 15049162751, 32229031935, 16777215, 135308247039, 272747200511, 549755813887, 1099511627775, 2199023255551] [(0, 41), (1, 42), (2, 43), (3, 44), (4, 45), (5, 46), (6, 47), (7, 48), (8, 49), (9, 50), (10, 51), (11, 52), (12, 53), (13, 54), (14, 55), (15, 56), (16, 57), (17, 58), (18, 59), (19, 60), (20, 61), (21, 62), (22, 63), (23, 64), (24, 65), (25, 66), (26, 67), (27, 68), (28, 69), (29, 70), (30, 71), (31, 72), (32, 73), (33, 74), (34, 75), (35, 76), (36, 77), (37, 78), (38, 79), (39, 80), (40, 81), (41, 82)] [u32, (eN i), (ixp u32 i), (ws33.getD i undef), (eN d), (ixp (ws33.getD i undef) d), (eN ((supR (spoilL D B ls) B D i).getD d 0)), (Value.bool false), (Value.bool false), u32, (eN i), (ixp u32 i), (ws33.getD i undef), (eN d), (ixp (ws33.getD i undef) d), (eN ((supR (spoilL D B ls) B D i).getD d 0)), (ptr h0 1), (eN B), (Value.bool false), (Value.bool false), (Value.bool false), (eN i), (Value.bool false), (Value.bool false), undef, undef, undef, undef, undef, undef, undef, undef, undef, undef, undef, undef, undef, undef, undef, undef, (Value.bool false), (Value.bool false)] ([(Value.agg #[(eI a), (eI b), (eI c)]), u1, (ptr g0 0), undef, (z 4), (ptr h0 0), u28, u32, (eN i), (eN d), (z 10), (Value.bool true), (Value.bool false), (Value.agg #[(eI a), (eI b), (eI c)]), (Value.agg #[(eN D), (eN B), (eN Q)]), (Value.agg #[(eN D), (eN B), (eN Q)]), u1, u28, (Value.agg #[(eN D), (eN B), (eN Q)]), u28, u32, (eN i), u32, (eN ws33.length), (Value.bool (decide (i < ws33.length))), (z 25), (z 26), u32, (eN i), (ixp u32 i), (ws33.getD i undef), (eN ((supR (spoilL D B ls) B D i).length)), (ptr h0 0), (eN D), (Value.bool false), (eN d), (ptr h0 0), (eN D), (Value.bool (decide (d < D))), (z 39), (z 40), u32, (eN i), (ixp u32 i), (ws33.getD i undef), (eN d), (ixp (ws33.getD i undef) d), (eN ((supR (spoilL D B ls) B D i).getD d 0)), (Value.bool false), (Value.bool false), u32, (eN i), (ixp u32 i), (ws33.getD i undef), (eN d), (ixp (ws33.getD i undef) d), (eN ((supR (spoilL D B ls) B D i).getD d 0)), (ptr h0 1), (eN B), (Value.bool false), (Value.bool false), (Value.bool false), (eN i), (Value.bool false), (Value.bool false)] ++ (us 16 ++ [(Value.bool false), (Value.bool false)] ++ (zs z 83 20 ++ (us 13)))) s_mx (by kernel_rfl) (by kernel_rfl) rfl (by kernel_rfl) (by kernel_rfl) ?_ ?_
   ·
    intro w_ hO_
    refine AllG.cons (gi rfl (d_move rfl)) ?_
    refine AllG.cons (gi rfl (d_move rfl)) ?_
    refine AllG.cons (gi rfl (d_ix (i := i) (xs := ws33) Try.underlying47 s_ti29 rfl (f35.step0 hO_) (show _ = Value.int _ ((i : Nat) : Int) from rfl) (by first | omega | (simp; done) | (simp; omega)))) ?_
    refine AllG.cons (gi rfl (d_ldx (i := i) (xs := ws33) (enc := eV) (v := (ws33.getD i undef)) ⟨_, Try.underlying29, rfl⟩ rfl (f35.step0 hO_) (g_at (by first | omega | (simp; done) | (simp; omega))))) ?_
    refine AllG.cons (gi rfl (d_move rfl)) ?_
    refine AllG.cons (gi rfl (d_ix (i := d) (xs := (supR (spoilL D B ls) B D i)) Try.underlying29 s_ti3 rfl (r40.step0 hO_) (show _ = Value.int _ ((d : Nat) : Int) from rfl) (by have := spoilL_len D B ls; have := supR_len (spoilL D B ls) B D i; first | omega | (simp; done) | (simp; omega)))) ?_
    refine AllG.cons (gi rfl (d_ldx (i := d) (xs := (supR (spoilL D B ls) B D i)) (enc := eN) (v := ((supR (spoilL D B ls) B D i).getD d 0)) ⟨_, Try.underlying3, rfl⟩ rfl (r40.step0 hO_) (g_at (by have := spoilL_len D B ls; have := supR_len (spoilL D B ls) B D i; first | omega | (simp; done) | (simp; omega))))) ?_
    refine AllG.cons (gi rfl (n_lss (a := ((supR (spoilL D B ls) B D i).getD d 0)) (b := 0) rfl rfl (decide_eq_false (by omega)))) ?_
    refine AllG.cons (gi rfl (d_move rfl)) ?_
    refine AllG.cons (gi_on rfl rfl rfl (nb rfl) rfl (d_move rfl)) ?_
    refine AllG.cons (gi_on rfl rfl rfl (nb rfl) rfl (d_move rfl)) ?_
    refine AllG.cons (gi_on rfl rfl rfl (nb rfl) rfl (d_ix (i := i) (xs := ws33) Try.underlying47 s_ti29 rfl (f35.step0 hO_) (show _ = Value.int _ ((i : Nat) : Int) from rfl) (by first | omega | (simp; done) | (simp; omega)))) ?_
    refine AllG.cons (gi_on rfl rfl rfl (nb rfl) rfl (d_ldx (i := i) (xs := ws33) (enc := eV) (v := (ws33.getD i undef)) ⟨_, Try.underlying29, rfl⟩ rfl (f35.step0 hO_) (g_at (by first | omega | (simp; done) | (simp; omega))))) ?_
    refine AllG.cons (gi_on rfl rfl rfl (nb rfl) rfl (d_move rfl)) ?_
    refine AllG.cons (gi_on rfl rfl rfl (nb rfl) rfl (d_ix (i := d) (xs := (supR (spoilL D B ls) B D i)) Try.underlying29 s_ti3 rfl (r40.step0 hO_) (show _ = Value.int _ ((d : Nat) : Int) from rfl) (by have := spoilL_len D B ls; have := supR_len (spoilL D B ls) B D i; first | omega | (simp; done) | (simp; omega)))) ?_
    refine AllG.cons (gi_on rfl rfl rfl (nb rfl) rfl (d_ldx (i := d) (xs := (supR (spoilL D B ls) B D i)) (enc := eN) (v := ((supR (spoilL D B ls) B D i).getD d 0)) ⟨_, Try.underlying3, rfl⟩ rfl (r40.step0 hO_) (g_at (by have := spoilL_len D B ls; have := supR_len (spoilL D B ls) B D i; first | omega | (simp; done) | (simp; omega))))) ?_
    refine AllG.cons (gi_on rfl rfl rfl (nb rfl) rfl (d_fieldAddr (j := 1) Try.underlying25 rfl s_ti3 (by decide) rfl rfl)) ?_
    refine AllG.cons (gi_on rfl rfl rfl (nb rfl) rfl (d_load (v := (eN B)) ⟨_, Try.underlying3, rfl⟩ rfl (a24.step0 hO_) rfl)) ?_
    refine AllG.cons (gi_on rfl rfl rfl (nb rfl) rfl (n_geq (a := ((supR (spoilL D B ls) B D i).getD d 0)) (b := B) rfl rfl (decide_eq_false (by omega)))) ?_
    refine AllG.cons (gi rfl (d_pick (b := false) (v := (Value.bool false)) rfl rfl)) ?_
    refine AllG.cons (gi rfl (d_move rfl)) ?_
    refine AllG.cons (gi_on rfl rfl rfl (nb rfl) rfl (d_move rfl)) ?_
    refine AllG.cons (gi_on rfl rfl rfl (nb rfl) rfl (n_gtr (a := i) (b := 0) rfl rfl (decide_eq_false k0))) ?_
    refine AllG.cons (gi_on rfl rfl rfl (nb rfl) rfl (d_move rfl)) ?_
    refine AllG.cons (gf rfl rfl rfl (nb rfl) rfl) ?_
    refine AllG.cons (gf rfl rfl rfl (nb rfl) rfl) ?_
    refine AllG.cons (gf rfl rfl rfl (nb rfl) rfl) ?_
    refine AllG.cons (gf rfl rfl rfl (nb rfl) rfl) ?_
    refine AllG.cons (gf rfl rfl rfl (nb rfl) rfl) ?_
    refine AllG.cons (gf rfl rfl rfl (nb rfl) rfl) ?_
    refine AllG.cons (gf rfl rfl rfl (nb rfl) rfl) ?_
    refine AllG.cons (gf rfl rfl rfl (nb rfl) rfl) ?_
    refine AllG.cons (gf rfl rfl rfl (nb rfl) rfl) ?_
    refine AllG.cons (gf rfl rfl rfl (nb rfl) rfl) ?_
    refine AllG.cons (gf rfl rfl rfl (nb rfl) rfl) ?_
    refine AllG.cons (gf rfl rfl rfl (nb rfl) rfl) ?_
    refine AllG.cons (gf rfl rfl rfl (nb rfl) rfl) ?_
    refine AllG.cons (gf rfl rfl rfl (nb rfl) rfl) ?_
    refine AllG.cons (gf rfl rfl rfl (nb rfl) rfl) ?_
    refine AllG.cons (gf rfl rfl rfl (nb rfl) rfl) ?_
    refine AllG.cons (gi_on rfl rfl rfl (nb rfl) rfl (d_pick (b := false) (v := (Value.bool false)) rfl rfl)) ?_
    refine AllG.cons (gi rfl (d_pick (b := false) (v := (Value.bool false)) rfl rfl)) ?_
    exact AllG.nil
   intro w55 o56
   replace h1 := h1.step0 o56
   replace f29 := f29.step0 o56
   replace f35 := f35.step0 o56
   replace g36 := g36.step0 o56
   replace r40 := r40.step0 o56
   replace a13 := a13.step0 o56
   replace a24 := a24.step0 o56
   replace oW := oW.tail0 o56
   replace o37 := o37.tail0 o56
   replace o43 := o43.tail0 o56
   refine then_n ?_
   refine cond_f rfl ?_
   refine wpIn_skip ?_
   refine then_n ?_
   refine wpIn_seq ?_
   refine plain ?_
   refine wI (d_assign rfl) ?_
   refine wF ([(Value.agg #[(eI a), (eI b), (eI c)]), u1, (ptr g0 0), undef, (z 4), (ptr h0 0), u28, u32, (eN i), (eN d), (eN 0), (Value.bool true), (Value.bool false), (Value.agg #[(eI a), (eI b), (eI c)]), (Value.agg #[(eN D), (eN B), (eN Q)]), (Value.agg #[(eN D), (eN B), (eN Q)]), u1, u28, (Value.agg #[(eN D), (eN B), (eN Q)]), u28, u32, (eN i), u32, (eN ws33.length), (Value.bool (decide (i < ws33.length))), (z 25), (z 26), u32, (eN i), (ixp u32 i), (ws33.getD i undef), (eN ((supR (spoilL D B ls) B D i).length)), (ptr h0 0), (eN D), (Value.bool false), (eN d), (ptr h0 0), (eN D), (Value.bool (decide (d < D))), (z 39), (z 40), u32, (eN i), (ixp u32 i), (ws33.getD i undef), (eN d), (ixp (ws33.getD i undef) d), (eN ((supR (spoilL D B ls) B D i).getD d 0)), (Value.bool false), (Value.bool false), u32, (eN i), (ixp u32 i), (ws33.getD i undef), (eN d), (ixp (ws33.getD i undef) d), (eN ((supR (spoilL D B ls) B D i).getD d 0)), (ptr h0 1), (eN B), (Value.bool false), (Value.bool false), (Value.bool false), (eN i), (Value.bool false), (Value.bool false)] ++ (us 16 ++ [(Value.bool false), (Value.bool false)] ++ (zs z 83 20 ++ (us 13)))) ?_
   refine wpL.done ?_
   refine then_n ?_
   refine wpIn_block ?_
   refine loop2 (fun (k : (Nat)) => fun (z : Nat → Value) => (([(Value.agg #[(eI a), (eI b), (eI c)]), u1, (ptr g0 0), undef, (z 4), (ptr h0 0), u28, u32, (eN i), (eN d), (eN k), (Value.bool true), (Value.bool false), (Value.agg #[(eI a), (eI b), (eI c)]), (Value.agg #[(eN D), (eN B), (eN Q)]), (Value.agg #[(eN D), (eN B), (eN Q)]), u1, u28, (Value.agg #[(eN D), (eN B), (eN Q)]), u28, u32, (eN i), u32, (eN ws33.length), (Value.bool (decide (i < ws33.length))), (z 25), (z 26), u32, (eN i), (ixp u32 i), (ws33.getD i undef), (eN ((supR (spoilL D B ls) B D i).length)), (ptr h0 0), (eN D), (Value.bool false), (eN d), (ptr h0 0), (eN D), (Value.bool (decide (d < D))), (z 39), (z 40), u32, (eN i), (ixp u32 i), (ws33.getD i undef), (eN d), (ixp (ws33.getD i undef) d), (eN ((supR (spoilL D B ls) B D i).getD d 0)), (Value.bool false), (Value.bool false), u32, (eN i), (ixp u32 i), (ws33.getD i undef), (eN d), (ixp (ws33.getD i undef) d), (eN ((supR (spoilL D B ls) B D i).getD d 0)), (ptr h0 1), (eN B), (Value.bool false), (Value.bool false), (Value.bool false), (eN i), (Value.bool false), (Value.bool false)] ++ (us 16 ++ [(Value.bool false), (Value.bool false)] ++ (zs z 83 20 ++ (us 13)))) : List Value)) (fun (k : (Nat)) => fun (w_ : World) => (k ≤ (spoilL D B ls).length) ∧ Only (Or1 h0 (Or1 g0 No)) w55 w_ ∧ Arr 25 g0 [(eI a), (eI b), (eI c)] w_ ∧ Arr 25 h0 [(eN D), (eN B), (eN Q)] w_) (fun (k : (Nat)) => (spoilL D B ls).length - k) 0 rfl ?_ ?_
   ·
    refine ⟨?_, ?_, ?_, ?_⟩
    ·
     exact Nat.zero_le _
    ·
     exact Only.refl _ _
    ·
     exact a13
    ·
     exact a24
   rintro k z w58 ⟨hk, o57, a13, a24⟩
   (try dsimp only)
   replace h1 := h1.step o57 (or1_mono (or1_mono no_any))
   replace f29 := f29.step o57 (or1_mono (or1_mono no_any))
   replace f35 := f35.step o57 (or1_mono (or1_mono no_any))
   replace g36 := g36.step o57 (or1_mono (or1_mono no_any))
   replace r40 := r40.step o57 (or1_mono (or1_mono no_any))
   replace oW := oW.tail o57 (tl_new g_oW_h0 (tl_new g_oW_g0 tl_no))
   replace o37 := o37.tail o57 (tl_in in1 (tl_in (in2 in1) tl_no))
   replace o43 := o43.tail o57 (tl_in in1 (tl_in (in2 in1) tl_no))
   refine wpIn_seq ?_
   refine wpIn_seq ?_
   refine plain ?_
   refine wI (d_move rfl) ?_
   refine wI (d_move rfl) ?_
   refine wI (d_lenS rfl Try.underlying42 rfl f29) ?_
   refine wF ([(Value.agg #[(eI a), (eI b), (eI c)]), u1, (ptr g0 0), undef, (z 4), (ptr h0 0), u28, u32, (eN i), (eN d), (eN k), (Value.bool true), (Value.bool false), (Value.agg #[(eI a), (eI b), (eI c)]), (Value.agg #[(eN D), (eN B), (eN Q)]), (Value.agg #[(eN D), (eN B), (eN Q)]), u1, u28, (Value.agg #[(eN D), (eN B), (eN Q)]), u28, u32, (eN i), u32, (eN ws33.length), (Value.bool (decide (i < ws33.length))), (z 25), (z 26), u32, (eN i), (ixp u32 i), (ws33.getD i undef), (eN ((supR (spoilL D B ls) B D i).length)), (ptr h0 0), (eN D), (Value.bool false), (eN d), (ptr h0 0), (eN D), (Value.bool (decide (d < D))), (z 39), (z 40), u32, (eN i), (ixp u32 i), (ws33.getD i undef), (eN d), (ixp (ws33.getD i undef) d), (eN ((supR (spoilL D B ls) B D i).getD d 0)), (Value.bool false), (Value.bool false), u32, (eN i), (ixp u32 i), (ws33.getD i undef), (eN d), (ixp (ws33.getD i undef) d), (eN ((supR (spoilL D B ls) B D i).getD d 0)), (ptr h0 1), (eN B), (Value.bool false), (Value.bool false), (Value.bool false), (eN i), (Value.bool false), (Value.bool false)] ++ (us 16 ++ [(Value.bool false), (Value.bool false), (eN k), u28, (eN ((spoilL D B ls).length))] ++ (zs z 86 17 ++ (us 13)))) ?_
   refine wI (n_lss (a := k) (b := ((spoilL D B ls).length)) rfl rfl rfl) ?_
   refine wF ([(Value.agg #[(eI a), (eI b), (eI c)]), u1, (ptr g0 0), undef, (z 4), (ptr h0 0), u28, u32, (eN i), (eN d), (eN k), (Value.bool true), (Value.bool false), (Value.agg #[(eI a), (eI b), (eI c)]), (Value.agg #[(eN D), (eN B), (eN Q)]), (Value.agg #[(eN D), (eN B), (eN Q)]), u1, u28, (Value.agg #[(eN D), (eN B), (eN Q)]), u28, u32, (eN i), u32, (eN ws33.length), (Value.bool (decide (i < ws33.length))), (z 25), (z 26), u32, (eN i), (ixp u32 i), (ws33.getD i undef), (eN ((supR (spoilL D B ls) B D i).length)), (ptr h0 0), (eN D), (Value.bool false), (eN d), (ptr h0 0), (eN D), (Value.bool (decide (d < D))), (z 39), (z 40), u32, (eN i), (ixp u32 i), (ws33.getD i undef), (eN d), (ixp (ws33.getD i undef) d), (eN ((supR (spoilL D B ls) B D i).getD d 0)), (Value.bool false), (Value.bool false), u32, (eN i), (ixp u32 i), (ws33.getD i undef), (eN d), (ixp (ws33.getD i undef) d), (eN ((supR (spoilL D B ls) B D i).getD d 0)), (ptr h0 1), (eN B), (Value.bool false), (Value.bool false), (Value.bool false), (eN i), (Value.bool false), (Value.bool false)] ++ (us 16 ++ [(Value.bool false), (Value.bool false), (eN k), u28, (eN ((spoilL D B ls).length)), (Value.bool (decide (k < ((spoilL D B ls).length))))] ++ (zs z 87 16 ++ (us 13)))) ?_
   refine wpL.done ?_
   refine then_n ?_
   refine cond_if rfl (fun c59 => ?_) (fun c59 => ?_)
   ·
    refine wpIn_skip ?_
    refine then_n ?_
    refine wpIn_seq ?_
    refine wpIn_block ?_
    refine wpIn_seq ?_
    refine drawn' (O := (Or1 h0 (Or1 g0 No))) (n := 14) [0, 0, 3, 7, 0, 0, 0, 96, 224, 0, 992, 2016, 4080, 8191] [(0, 89), (1, 90), (2, 91), (3, 92), (4, 93), (5, 94), (6, 95), (7, 96), (8, 97), (9, 98), (10, 99), (11, 100), (12, 101), (13, 102)] [0, 1, 2, 3, 4, 5, 6, 7, 8, 9, 10, 11, 12, 13] [] (fun i_ => ([RF.is (Or1 h0 (Or1 g0 No)) u28, RF.is (Or1 h0 (Or1 g0 No)) (eN k), RF.ps (Or1 h0 (Or1 g0 No)) (Or1 h0 (Or1 g0 (Old W.heap.size))) (At (kA 2 eQ) ((spoilL D B ls).getD k (0, 0))) (or1_mono (or1_mono no_any)), RF.is (Or1 h0 (Or1 g0 No)) (Value.agg #[(eI (((spoilL D B ls).getD k (0, 0)).1)), (eI (((spoilL D B ls).getD k (0, 0)).2))]), RF.is (Or1 h0 (Or1 g0 No)) (eN d), RF.is (Or1 h0 (Or1 g0 No)) u32, RF.is (Or1 h0 (Or1 g0 No)) (eN i), RF.is (Or1 h0 (Or1 g0 No)) (ixp u32 i), RF.is (Or1 h0 (Or1 g0 No)) (ws33.getD i undef), RF.is (Or1 h0 (Or1 g0 No)) (eN d), RF.is (Or1 h0 (Or1 g0 No)) (ixp (ws33.getD i undef) d), RF.is (Or1 h0 (Or1 g0 No)) (eN ((supR (spoilL D B ls) B D i).getD d 0)), RF.is (Or1 h0 (Or1 g0 No)) (Value.agg #[(eN d), (eN ((supR (spoilL D B ls) B D i).getD d 0))]), RF.is (Or1 h0 (Or1 g0 No)) (Value.bool false)] : List (RF (Or1 h0 (Or1 g0 No)))).getD i_ (RF.any (Or1 h0 (Or1 g0 No)))) (fun _ w_ => Arr 25 g0 [(eI a), (eI b), (eI c)] w_ ∧ Arr 25 h0 [(eN D), (eN B), (eN Q)] w_) (fun v60 => ([(Value.agg #[(eI a), (eI b), (eI c)]), u1, (ptr g0 0), undef, (z 4), (ptr h0 0), u28, u32, (eN i), (eN d), (eN k), (Value.bool true), (Value.bool false), (Value.agg #[(eI a), (eI b), (eI c)]), (Value.agg #[(eN D), (eN B), (eN Q)]), (Value.agg #[(eN D), (eN B), (eN Q)]), u1, u28, (Value.agg #[(eN D), (eN B), (eN Q)]), u28, u32, (eN i), u32, (eN ws33.length), (Value.bool (decide (i < ws33.length))), (z 25), (z 26), u32, (eN i), (ixp u32 i), (ws33.getD i undef), (eN ((supR (spoilL D B ls) B D i).length)), (ptr h0 0), (eN D), (Value.bool false), (eN d), (ptr h0 0), (eN D), (Value.bool (decide (d < D))), (z 39), (z 40), u32, (eN i), (ixp u32 i), (ws33.getD i undef), (eN d), (ixp (ws33.getD i undef) d), (eN ((supR (spoilL D B ls) B D i).getD d 0)), (Value.bool false), (Value.bool false), u32, (eN i), (ixp u32 i), (ws33.getD i undef), (eN d), (ixp (ws33.getD i undef) d), (eN ((supR (spoilL D B ls) B D i).getD d 0)), (ptr h0 1), (eN B), (Value.bool false), (Value.bool false), (Value.bool false), (eN i), (Value.bool false), (Value.bool false)] ++ (us 16 ++ [(Value.bool false), (Value.bool false), (eN k), u28, (eN ((spoilL D B ls).length)), (Value.bool (decide (k < ((spoilL D B ls).length)))), (z 87), (z 88), (v60 0), (v60 1), (v60 2), (v60 3), (v60 4), (v60 5), (v60 6), (v60 7), (v60 8), (v60 9), (v60 10), (v60 11), (v60 12), (v60 13)] ++ (us 13)))) s_mx (by kernel_rfl) rfl (by kernel_rfl) (by rfl) (fun v_ => by kernel_rfl) (fun _ => fun w_ w2_ h ho => by obtain ⟨r_a13, r_a24⟩ := h; exact ⟨r_a13.step0 ho, r_a24.step0 ho⟩) ⟨a13, a24⟩ ?_ ?_ ?_
    ·
     refine ls_cons ?_ ?_
     ·
      intro v60 lo hi w_ k_ hO hd _ _ hk_ _ hR hold
      obtain ⟨r_a13, r_a24⟩ := hR
      clear hd hold
      refine ⟨_, rfl, gd rfl ?_⟩
      exact Does.is (d_move rfl)
     refine ls_cons ?_ ?_
     ·
      intro v60 lo hi w_ k_ hO hd _ _ hk_ _ hR hold
      obtain ⟨r_a13, r_a24⟩ := hR
      clear hd hold
      refine ⟨_, rfl, gd rfl ?_⟩
      exact Does.is (d_move rfl)
     refine ls_cons ?_ ?_
     ·
      intro v60 lo hi w_ k_ hO hd _ _ hk_ _ hR hold
      obtain ⟨r_a13, r_a24⟩ := hR
      have e0 : v60 0 = u28 := hd 0 (by kernel_rfl)
      have e1 : v60 1 = (eN k) := hd 1 (by kernel_rfl)
      clear hd hold
      refine ⟨_, rfl, gd rfl ?_⟩
      refine Does.mono (d_indexS (q := (kA 2 eQ)) (xs := (spoilL D B ls)) (v := ((spoilL D B ls).getD k (0, 0))) Try.underlying42 s_ti53 e0 (f29.step hO (or1_mono (or1_mono no_any))) (show _ = Value.int _ ((k : Nat) : Int) from e1) (by omega) (g_at (by have := spoilL_len D B ls; first | omega | (simp; done) | (simp; omega)))) (fun u w' h => ⟨h.2 ▸ h.1, h.2 ▸ Only.refl _ _⟩)
     refine ls_cons ?_ ?_
     ·
      intro v60 lo hi w_ k_ hO hd _ _ hk_ _ hR hold
      obtain ⟨r_a13, r_a24⟩ := hR
      have d2 : Ps (Or1 h0 (Or1 g0 (Old W.heap.size))) (At (kA 2 eQ) ((spoilL D B ls).getD k (0, 0)) (v60 2)) w_ := hd 2 (by kernel_rfl)
      clear hd hold
      refine ⟨_, rfl, gd rfl ?_⟩
      exact Does.is (d_loadAtA (enc := eQ) (v := ((spoilL D B ls).getD k (0, 0))) ⟨_, Try.underlying53, rfl⟩ s_ti53 rfl d2)
     refine ls_cons ?_ ?_
     ·
      intro v60 lo hi w_ k_ hO hd _ _ hk_ _ hR hold
      obtain ⟨r_a13, r_a24⟩ := hR
      clear hd hold
      refine ⟨_, rfl, gd rfl ?_⟩
      exact Does.is (d_move rfl)
     refine ls_cons ?_ ?_
     ·
      intro v60 lo hi w_ k_ hO hd _ _ hk_ _ hR hold
      obtain ⟨r_a13, r_a24⟩ := hR
      clear hd hold
      refine ⟨_, rfl, gd rfl ?_⟩
      exact Does.is (d_move rfl)
     refine ls_cons ?_ ?_
     ·
      intro v60 lo hi w_ k_ hO hd _ _ hk_ _ hR hold
      obtain ⟨r_a13, r_a24⟩ := hR
      clear hd hold
      refine ⟨_, rfl, gd rfl ?_⟩
      exact Does.is (d_move rfl)
     refine ls_cons ?_ ?_
     ·
      intro v60 lo hi w_ k_ hO hd _ _ hk_ _ hR hold
      obtain ⟨r_a13, r_a24⟩ := hR
      have e5 : v60 5 = u32 := hd 5 (by kernel_rfl)
      have e6 : v60 6 = (eN i) := hd 6 (by kernel_rfl)
      clear hd hold
      refine ⟨_, rfl, gd rfl ?_⟩
      exact Does.is (d_ix (i := i) (xs := ws33) Try.underlying47 s_ti29 e5 (f35.step hO (or1_mono (or1_mono no_any))) (show _ = Value.int _ ((i : Nat) : Int) from e6) (by first | omega | (simp; done) | (simp; omega)))
     refine ls_cons ?_ ?_
     ·
      intro v60 lo hi w_ k_ hO hd _ _ hk_ _ hR hold
      obtain ⟨r_a13, r_a24⟩ := hR
      have e7 : v60 7 = (ixp u32 i) := hd 7 (by kernel_rfl)
      clear hd hold
      refine ⟨_, rfl, gd rfl ?_⟩
      exact Does.is (d_ldx (i := i) (xs := ws33) (enc := eV) (v := (ws33.getD i undef)) ⟨_, Try.underlying29, rfl⟩ e7 (f35.step hO (or1_mono (or1_mono no_any))) (g_at (by first | omega | (simp; done) | (simp; omega))))
     refine ls_cons ?_ ?_
     ·
      intro v60 lo hi w_ k_ hO hd _ _ hk_ _ hR hold
      obtain ⟨r_a13, r_a24⟩ := hR
      clear hd hold
      refine ⟨_, rfl, gd rfl ?_⟩
      exact Does.is (d_move rfl)
     refine ls_cons ?_ ?_
     ·
      intro v60 lo hi w_ k_ hO hd _ _ hk_ _ hR hold
      obtain ⟨r_a13, r_a24⟩ := hR
      have e8 : v60 8 = (ws33.getD i undef) := hd 8 (by kernel_rfl)
      have e9 : v60 9 = (eN d) := hd 9 (by kernel_rfl)
      clear hd hold
      refine ⟨_, rfl, gd rfl ?_⟩
      exact Does.is (d_ix (i := d) (xs := (supR (spoilL D B ls) B D i)) Try.underlying29 s_ti3 e8 (r40.step hO (or1_mono (or1_mono no_any))) (show _ = Value.int _ ((d : Nat) : Int) from e9) (by have := spoilL_len D B ls; have := supR_len (spoilL D B ls) B D i; first | omega | (simp; done) | (simp; omega)))
     refine ls_cons ?_ ?_
     ·
      intro v60 lo hi w_ k_ hO hd _ _ hk_ _ hR hold
      obtain ⟨r_a13, r_a24⟩ := hR
      have e10 : v60 10 = (ixp (ws33.getD i undef) d) := hd 10 (by kernel_rfl)
      clear hd hold
      refine ⟨_, rfl, gd rfl ?_⟩
      exact Does.is (d_ldx (i := d) (xs := (supR (spoilL D B ls) B D i)) (enc := eN) (v := ((supR (spoilL D B ls) B D i).getD d 0)) ⟨_, Try.underlying3, rfl⟩ e10 (r40.step hO (or1_mono (or1_mono no_any))) (g_at (by have := spoilL_len D B ls; have := supR_len (spoilL D B ls) B D i; first | omega | (simp; done) | (simp; omega))))
     refine ls_cons ?_ ?_
     ·
      intro v60 lo hi w_ k_ hO hd _ _ hk_ _ hR hold
      obtain ⟨r_a13, r_a24⟩ := hR
      have e11 : v60 11 = (eN ((supR (spoilL D B ls) B D i).getD d 0)) := hd 11 (by kernel_rfl)
      have e4 : v60 4 = (eN d) := hd 4 (by kernel_rfl)
      clear hd hold
      refine ⟨_, rfl, gd rfl ?_⟩
      exact Does.is (d_buildA (zs := [(eN 0), (eN 0)]) (cs := [(eN d), (eN ((supR (spoilL D B ls) B D i).getD d 0))]) Try.underlying53 s_ti53 s_ti3 rfl (parts_cons (vs := [(eN d)]) (cells_of (v := (eN d)) e4 rfl) (parts_cons (vs := [(eN ((supR (spoilL D B ls) B D i).getD d 0))]) (cells_of (v := (eN ((supR (spoilL D B ls) B D i).getD d 0))) e11 rfl) parts_nil)) rfl)
     refine ls_cons ?_ ?_
     ·
      intro v60 lo hi w_ k_ hO hd _ _ hk_ _ hR hold
      obtain ⟨r_a13, r_a24⟩ := hR
      have e12 : v60 12 = (Value.agg #[(eN d), (eN ((supR (spoilL D B ls) B D i).getD d 0))]) := hd 12 (by kernel_rfl)
      have e3 : v60 3 = (Value.agg #[(eI (((spoilL D B ls).getD k (0, 0)).1)), (eI (((spoilL D B ls).getD k (0, 0)).2))]) := hd 3 (by kernel_rfl)
      clear hd hold
      refine ⟨_, rfl, gd rfl ?_⟩
      exact Does.is (d_eqlPair (a := (((spoilL D B ls).getD k (0, 0)).1)) (b := (((spoilL D B ls).getD k (0, 0)).2)) (c := ((d : Nat) : Int)) (d := ((((supR (spoilL D B ls) B D i).getD d 0) : Nat) : Int)) Try.underlying53 Try.underlying3 s_ti3 (by kernel_rfl) (by kernel_rfl) e3 e12 (decide_eq_false (fun h_ => by have := ga_.2; rw [← gb_] at this; exact absurd (pair_in (by omega) ⟨h_.1.symm, h_.2.symm⟩) (of_decide_eq_false this))))
     exact ls_nil
    ·
     exact ms_nil
    intro v60 lo_ hi_ w61 o62 hd iv_ hR
    have e0 : v60 0 = u28 := hd 0 (by decide)
    have e1 : v60 1 = (eN k) := hd 1 (by decide)
    have e3 : v60 3 = (Value.agg #[(eI (((spoilL D B ls).getD k (0, 0)).1)), (eI (((spoilL D B ls).getD k (0, 0)).2))]) := hd 3 (by decide)
    have e4 : v60 4 = (eN d) := hd 4 (by decide)
    have e5 : v60 5 = u32 := hd 5 (by decide)
    have e6 : v60 6 = (eN i) := hd 6 (by decide)
    have e7 : v60 7 = (ixp u32 i) := hd 7 (by decide)
    have e8 : v60 8 = (ws33.getD i undef) := hd 8 (by decide)
    have e9 : v60 9 = (eN d) := hd 9 (by decide)
    have e10 : v60 10 = (ixp (ws33.getD i undef) d) := hd 10 (by decide)
    have e11 : v60 11 = (eN ((supR (spoilL D B ls) B D i).getD d 0)) := hd 11 (by decide)
    have e12 : v60 12 = (Value.agg #[(eN d), (eN ((supR (spoilL D B ls) B D i).getD d 0))]) := hd 12 (by decide)
    have e13 : v60 13 = (Value.bool false) := hd 13 (by decide)
    have f_v60_2 : Ps (Or1 h0 (Or1 g0 (Old W.heap.size))) (At (kA 2 eQ) ((spoilL D B ls).getD k (0, 0)) (v60 2)) w61 := hd 2 (by decide)
    clear hd iv_ lo_ hi_
    refine fr_eq (l' := ([(Value.agg #[(eI a), (eI b), (eI c)]), u1, (ptr g0 0), undef, (z 4), (ptr h0 0), u28, u32, (eN i), (eN d), (eN k), (Value.bool true), (Value.bool false), (Value.agg #[(eI a), (eI b), (eI c)]), (Value.agg #[(eN D), (eN B), (eN Q)]), (Value.agg #[(eN D), (eN B), (eN Q)]), u1, u28, (Value.agg #[(eN D), (eN B), (eN Q)]), u28, u32, (eN i), u32, (eN ws33.length), (Value.bool (decide (i < ws33.length))), (z 25), (z 26), u32, (eN i), (ixp u32 i), (ws33.getD i undef), (eN ((supR (spoilL D B ls) B D i).length)), (ptr h0 0), (eN D), (Value.bool false), (eN d), (ptr h0 0), (eN D), (Value.bool (decide (d < D))), (z 39), (z 40), u32, (eN i), (ixp u32 i), (ws33.getD i undef), (eN d), (ixp (ws33.getD i undef) d), (eN ((supR (spoilL D B ls) B D i).getD d 0)), (Value.bool false), (Value.bool false), u32, (eN i), (ixp u32 i), (ws33.getD i undef), (eN d), (ixp (ws33.getD i undef) d), (eN ((supR (spoilL D B ls) B D i).getD d 0)), (ptr h0 1), (eN B), (Value.bool false), (Value.bool false), (Value.bool false), (eN i), (Value.bool false), (Value.bool false)] ++ (us 16 ++ [(Value.bool false), (Value.bool false), (eN k), u28, (eN ((spoilL D B ls).length)), (Value.bool (decide (k < ((spoilL D B ls).length)))), (z 87), (z 88), u28, (eN k), (v60 2), (Value.agg #[(eI (((spoilL D B ls).getD k (0, 0)).1)), (eI (((spoilL D B ls).getD k (0, 0)).2))]), (eN d), u32, (eN i), (ixp u32 i), (ws33.getD i undef), (eN d), (ixp (ws33.getD i undef) d), (eN ((supR (spoilL D B ls) B D i).getD d 0)), (Value.agg #[(eN d), (eN ((supR (spoilL D B ls) B D i).getD d 0))]), (Value.bool false)] ++ (us 13)))) (by rw [e0, e1, e3, e4, e5, e6, e7, e8, e9, e10, e11, e12, e13] <;> rfl) ?_
    clear e0 e1 e3 e4 e5 e6 e7 e8 e9 e10 e11 e12 e13
    replace h1 := h1.step o62 (or1_mono (or1_mono no_any))
    replace f29 := f29.step o62 (or1_mono (or1_mono no_any))
    replace f35 := f35.step o62 (or1_mono (or1_mono no_any))
    replace g36 := g36.step o62 (or1_mono (or1_mono no_any))
    replace r40 := r40.step o62 (or1_mono (or1_mono no_any))
    obtain ⟨xr_a13, xr_a24⟩ := hR
    replace a13 : Arr 25 g0 [(eI a), (eI b), (eI c)] w61 := xr_a13
    replace a24 : Arr 25 h0 [(eN D), (eN B), (eN Q)] w61 := xr_a24
    clear xr_a13 xr_a24
    replace oW := oW.tail o62 (tl_new g_oW_h0 (tl_new g_oW_g0 tl_no))
    replace o37 := o37.tail o62 (tl_in in1 (tl_in (in2 in1) tl_no))
    replace o43 := o43.tail o62 (tl_in in1 (tl_in (in2 in1) tl_no))
    replace o57 := o57.tail o62 (tl_in in1 (tl_in (in2 in1) tl_no))
    refine then_n ?_
    refine cond_f rfl ?_
    refine wpIn_skip ?_
    refine inb_n (then_n ?_)
    refine plain ?_
    refine wI (d_move rfl) ?_
    refine wI (n_add (a := k) (b := 1) rfl rfl (by omega)) ?_
    refine wI (d_assign rfl) ?_
    refine wF ([(Value.agg #[(eI a), (eI b), (eI c)]), u1, (ptr g0 0), undef, (z 4), (ptr h0 0), u28, u32, (eN i), (eN d), (eN (k + 1)), (Value.bool true), (Value.bool false), (Value.agg #[(eI a), (eI b), (eI c)]), (Value.agg #[(eN D), (eN B), (eN Q)]), (Value.agg #[(eN D), (eN B), (eN Q)]), u1, u28, (Value.agg #[(eN D), (eN B), (eN Q)]), u28, u32, (eN i), u32, (eN ws33.length), (Value.bool (decide (i < ws33.length))), (z 25), (z 26), u32, (eN i), (ixp u32 i), (ws33.getD i undef), (eN ((supR (spoilL D B ls) B D i).length)), (ptr h0 0), (eN D), (Value.bool false), (eN d), (ptr h0 0), (eN D), (Value.bool (decide (d < D))), (z 39), (z 40), u32, (eN i), (ixp u32 i), (ws33.getD i undef), (eN d), (ixp (ws33.getD i undef) d), (eN ((supR (spoilL D B ls) B D i).getD d 0)), (Value.bool false), (Value.bool false), u32, (eN i), (ixp u32 i), (ws33.getD i undef), (eN d), (ixp (ws33.getD i undef) d), (eN ((supR (spoilL D B ls) B D i).getD d 0)), (ptr h0 1), (eN B), (Value.bool false), (Value.bool false), (Value.bool false), (eN i), (Value.bool false), (Value.bool false)] ++ (us 16 ++ [(Value.bool false), (Value.bool false), (eN k), u28, (eN ((spoilL D B ls).length)), (Value.bool (decide (k < ((spoilL D B ls).length)))), (eN k), (eN (k + 1)), u28, (eN k), (v60 2), (Value.agg #[(eI (((spoilL D B ls).getD k (0, 0)).1)), (eI (((spoilL D B ls).getD k (0, 0)).2))]), (eN d), u32, (eN i), (ixp u32 i), (ws33.getD i undef), (eN d), (ixp (ws33.getD i undef) d), (eN ((supR (spoilL D B ls) B D i).getD d 0)), (Value.agg #[(eN d), (eN ((supR (spoilL D B ls) B D i).getD d 0))]), (Value.bool false)] ++ (us 13))) ?_
    refine wpL.done ?_
    refine then_n ?_
    refine ⟨_, (k + 1), rfl, rfl, ⟨?_, ?_, ?_, ?_⟩, ?_⟩
    ·
     (try dsimp only)
     all_goals (omega)
    ·
     exact o57
    ·
     exact a13
    ·
     exact a24
    ·
     (try dsimp only)
     all_goals (omega)
   refine wpIn_exit ?_
   refine then_x (then_x (inb_e ?_))
   refine inb_n (then_n ?_)
   refine plain ?_
   refine wI (d_move rfl) ?_
   refine wI (n_add (a := d) (b := 1) rfl rfl (by omega)) ?_
   refine wI (d_assign rfl) ?_
   refine wF ([(Value.agg #[(eI a), (eI b), (eI c)]), u1, (ptr g0 0), undef, (z 4), (ptr h0 0), u28, u32, (eN i), (eN (d + 1)), (eN k), (Value.bool true), (Value.bool false), (Value.agg #[(eI a), (eI b), (eI c)]), (Value.agg #[(eN D), (eN B), (eN Q)]), (Value.agg #[(eN D), (eN B), (eN Q)]), u1, u28, (Value.agg #[(eN D), (eN B), (eN Q)]), u28, u32, (eN i), u32, (eN ws33.length), (Value.bool (decide (i < ws33.length))), (z 25), (z 26), u32, (eN i), (ixp u32 i), (ws33.getD i undef), (eN ((supR (spoilL D B ls) B D i).length)), (ptr h0 0), (eN D), (Value.bool false), (eN d), (ptr h0 0), (eN D), (Value.bool (decide (d < D))), (eN d), (eN (d + 1)), u32, (eN i), (ixp u32 i), (ws33.getD i undef), (eN d), (ixp (ws33.getD i undef) d), (eN ((supR (spoilL D B ls) B D i).getD d 0)), (Value.bool false), (Value.bool false), u32, (eN i), (ixp u32 i), (ws33.getD i undef), (eN d), (ixp (ws33.getD i undef) d), (eN ((supR (spoilL D B ls) B D i).getD d 0)), (ptr h0 1), (eN B), (Value.bool false), (Value.bool false), (Value.bool false), (eN i), (Value.bool false), (Value.bool false)] ++ (us 16 ++ [(Value.bool false), (Value.bool false), (eN k), u28, (eN ((spoilL D B ls).length)), (Value.bool (decide (k < ((spoilL D B ls).length))))] ++ (zs z 87 16 ++ (us 13)))) ?_
   refine wpL.done ?_
   refine then_n ?_
   refine ⟨_, (d + 1), rfl, rfl, ⟨?_, ?_, ?_, ?_⟩, ?_⟩
   ·
    (try dsimp only)
    all_goals (omega)
   ·
    exact o43
   ·
    exact a13
   ·
    exact a24
   ·
    (try dsimp only)
    all_goals (omega)
  refine wpIn_exit ?_
  refine then_x (then_x (inb_e ?_))
  refine inb_n (then_n ?_)
  refine plain ?_
  refine wI (d_move rfl) ?_
  refine wI (n_add (a := i) (b := 1) rfl rfl (by omega)) ?_
  refine wI (d_assign rfl) ?_
  refine wF ([(Value.agg #[(eI a), (eI b), (eI c)]), u1, (ptr g0 0), undef, (z 4), (ptr h0 0), u28, u32, (eN (i + 1)), (eN d), (z 10), (Value.bool true), (Value.bool false), (Value.agg #[(eI a), (eI b), (eI c)]), (Value.agg #[(eN D), (eN B), (eN Q)]), (Value.agg #[(eN D), (eN B), (eN Q)]), u1, u28, (Value.agg #[(eN D), (eN B), (eN Q)]), u28, u32, (eN i), u32, (eN ws33.length), (Value.bool (decide (i < ws33.length))), (eN i), (eN (i + 1)), u32, (eN i), (ixp u32 i), (ws33.getD i undef), (eN ((supR (spoilL D B ls) B D i).length)), (ptr h0 0), (eN D), (Value.bool false), (eN d), (ptr h0 0), (eN D), (Value.bool (decide (d < D)))] ++ (zs z 39 64 ++ (us 13))) ?_
  refine wpL.done ?_
  refine then_n ?_
  refine ⟨_, (i + 1), rfl, rfl, ⟨?_, ?_, ?_, ?_⟩, ?_⟩
  ·
   (try dsimp only)
   all_goals (omega)
  ·
   exact o37
  ·
   exact a13
  ·
   exact a24
  ·
   (try dsimp only)
   all_goals (omega)
 refine wpIn_exit ?_
 refine then_x (then_x (inb_e ?_))
 refine then_n ?_
 refine wpIn_seq ?_
 have sp := spoil_min D B ls
 refine plain ?_
 refine wI (d_move rfl) ?_
 refine wI (d_lenS rfl Try.underlying47 rfl f35) ?_
 refine wI (d_fieldAddr (j := 1) Try.underlying25 rfl s_ti3 (by decide) rfl rfl) ?_
 refine wF ([(Value.agg #[(eI a), (eI b), (eI c)]), u1, (ptr g0 0), undef, (z 4), (ptr h0 0), u28, u32, (eN i), (z 9), (z 10), (Value.bool true), (Value.bool false), (Value.agg #[(eI a), (eI b), (eI c)]), (Value.agg #[(eN D), (eN B), (eN Q)]), (Value.agg #[(eN D), (eN B), (eN Q)]), u1, u28, (Value.agg #[(eN D), (eN B), (eN Q)]), u28, u32, (eN i), u32, (eN ws33.length), (Value.bool (decide (i < ws33.length)))] ++ (zs z 25 78 ++ [u32, (eN ws33.length), (ptr h0 1)] ++ (us 10))) ?_
 refine wI (d_load (v := (eN B)) ⟨_, Try.underlying3, rfl⟩ rfl a24 rfl) ?_
 refine wI (n_sub (a := B) (b := 1) rfl rfl (by omega) (by omega)) ?_
 refine wI (n_geq (a := ws33.length) (b := (B - 1)) rfl rfl (decide_eq_true (by omega))) ?_
 refine wF ([(Value.agg #[(eI a), (eI b), (eI c)]), u1, (ptr g0 0), undef, (z 4), (ptr h0 0), u28, u32, (eN i), (z 9), (z 10), (Value.bool true), (Value.bool false), (Value.agg #[(eI a), (eI b), (eI c)]), (Value.agg #[(eN D), (eN B), (eN Q)]), (Value.agg #[(eN D), (eN B), (eN Q)]), u1, u28, (Value.agg #[(eN D), (eN B), (eN Q)]), u28, u32, (eN i), u32, (eN ws33.length), (Value.bool (decide (i < ws33.length)))] ++ (zs z 25 78 ++ [u32, (eN ws33.length), (ptr h0 1), (eN B), (eN (B - 1)), (Value.bool true)] ++ (us 7))) ?_
 refine wI (d_move rfl) ?_
 refine wpL.onis rfl rfl rfl (nb rfl) rfl (d_move rfl) ?_
 refine wpL.onis rfl rfl rfl (nb rfl) rfl (d_lenS rfl Try.underlying47 rfl f35) ?_
 refine wF ([(Value.agg #[(eI a), (eI b), (eI c)]), u1, (ptr g0 0), undef, (z 4), (ptr h0 0), u28, u32, (eN i), (z 9), (z 10), (Value.bool true), (Value.bool false), (Value.agg #[(eI a), (eI b), (eI c)]), (Value.agg #[(eN D), (eN B), (eN Q)]), (Value.agg #[(eN D), (eN B), (eN Q)]), u1, u28, (Value.agg #[(eN D), (eN B), (eN Q)]), u28, u32, (eN i), u32, (eN ws33.length), (Value.bool (decide (i < ws33.length)))] ++ (zs z 25 78 ++ [u32, (eN ws33.length), (ptr h0 1), (eN B), (eN (B - 1)), (Value.bool true), (Value.bool true), u32, (eN ws33.length), undef, undef, undef, undef])) ?_
 refine wpL.onis rfl rfl rfl (nb rfl) rfl (d_fieldAddr (j := 1) Try.underlying25 rfl s_ti3 (by decide) rfl rfl) ?_
 refine wpL.onis rfl rfl rfl (nb rfl) rfl (d_load (v := (eN B)) ⟨_, Try.underlying3, rfl⟩ rfl a24 rfl) ?_
 refine wpL.onis rfl rfl rfl (nb rfl) rfl (n_leq (a := ws33.length) (b := B) rfl rfl (decide_eq_true (by omega))) ?_
 refine wF ([(Value.agg #[(eI a), (eI b), (eI c)]), u1, (ptr g0 0), undef, (z 4), (ptr h0 0), u28, u32, (eN i), (z 9), (z 10), (Value.bool true), (Value.bool false), (Value.agg #[(eI a), (eI b), (eI c)]), (Value.agg #[(eN D), (eN B), (eN Q)]), (Value.agg #[(eN D), (eN B), (eN Q)]), u1, u28, (Value.agg #[(eN D), (eN B), (eN Q)]), u28, u32, (eN i), u32, (eN ws33.length), (Value.bool (decide (i < ws33.length)))] ++ (zs z 25 78 ++ [u32, (eN ws33.length), (ptr h0 1), (eN B), (eN (B - 1)), (Value.bool true), (Value.bool true), u32, (eN ws33.length), (ptr h0 1), (eN B), (Value.bool true), undef])) ?_
 refine wI (d_pick (b := true) (v := (Value.bool true)) rfl rfl) ?_
 refine wI (d_assign rfl) ?_
 refine wF ([(Value.agg #[(eI a), (eI b), (eI c)]), u1, (ptr g0 0), undef, (Value.bool true), (ptr h0 0), u28, u32, (eN i), (z 9), (z 10), (Value.bool true), (Value.bool false), (Value.agg #[(eI a), (eI b), (eI c)]), (Value.agg #[(eN D), (eN B), (eN Q)]), (Value.agg #[(eN D), (eN B), (eN Q)]), u1, u28, (Value.agg #[(eN D), (eN B), (eN Q)]), u28, u32, (eN i), u32, (eN ws33.length), (Value.bool (decide (i < ws33.length)))] ++ (zs z 25 78 ++ [u32, (eN ws33.length), (ptr h0 1), (eN B), (eN (B - 1)), (Value.bool true), (Value.bool true), u32, (eN ws33.length), (ptr h0 1), (eN B), (Value.bool true), (Value.bool true)])) ?_
 refine wpL.done ?_
 refine then_n ?_
 refine wpIn_ret ?_
 refine leave0 (v := (Value.bool true)) (res1 Try.results12 rfl) ?_
 exact ⟨rfl, oW⟩

end Go.Proofs.YtnlbekdjepkhcaaF
