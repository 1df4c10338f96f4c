import Derived.Test.YtnlbekdjepkhcaaFp
import Derived.Test.YtnlbekdjepkhcaaTy
import Derived.Test.YtnlbekdjepkhcaaHgeom
set_option linter.unusedVariables false
set_option linter.unusedSimpArgs false
namespace Go.Proofs.YtnlbekdjepkhcaaF
open Go Go.Shelf Go.Proofs.YtnlbekdjepkhcaaS Ram
set_option maxRecDepth 20000 in
set_option maxHeartbeats 4000000 in
theorem geomBounds_law (wh : Int) (ab : Bool) (fr : Int) (W : World) :
    CW Try.prog 13 #[(eI wh), (Value.bool ab), (eI fr)] W (Rt (RIs (.bool true) W)) := by
 have oW : Only No W W := Only.refl _ _
 refine enter (al := [(eI wh), (Value.bool ab), (eI fr)]) (k := 84) (l := ([(eI wh), (Value.bool ab), (eI fr)] ++ (us 84))) Try.func13 rfl Try.ntmps13 rfl rfl ?_
 refine wpIn_seq ?_
 refine plain ?_
 refine wI (d_assign rfl) ?_
 refine wF ([(eI wh), (Value.bool ab), (eI fr), undef, undef, undef, (Value.bool false)] ++ (us 80)) ?_
 refine wpL.done ?_
 refine then_n ?_
 refine wpIn_seq ?_
 refine wpIn_seq ?_
 refine plain ?_
 refine wO (d_call (xl := []) (al := []) Try.func15 (by kernel_rfl) rfl rfl rfl (law9Known_ok _)) ?_
 rintro _ w11 ⟨rfl, o12⟩
 replace oW := oW.tail0 o12
 refine wI (d_not rfl rfl) ?_
 refine wF ([(eI wh), (Value.bool ab), (eI fr), undef, undef, undef, (Value.bool false), undef, undef, (Value.bool true), (Value.bool false)] ++ (us 76)) ?_
 refine wpL.done ?_
 refine then_n ?_
 refine cond_f rfl ?_
 refine wpIn_skip ?_
 refine then_n ?_
 refine wpIn_seq ?_
 refine plain ?_
 refine wI (d_assign rfl) ?_
 refine wF ([(eI wh), (Value.bool ab), (eI fr), undef, undef, undef, (Value.bool false), (eN 0), undef, (Value.bool true), (Value.bool false)] ++ (us 76)) ?_
 refine wpL.done ?_
 refine then_n ?_
 refine wpIn_seq ?_
 refine wpIn_seq ?_
 refine plain ?_
 refine wI (d_move rfl) ?_
 refine wF ([(eI wh), (Value.bool ab), (eI fr), undef, undef, undef, (Value.bool false), (eN 0), undef, (Value.bool true), (Value.bool false), (Value.bool ab)] ++ (us 75)) ?_
 refine wpL.done ?_
 refine then_n ?_
 refine cond_b rfl (fun c1 => ?_) (fun c1 => ?_)
 ·
  refine plain ?_
  refine wI (d_move rfl) ?_
  refine wO (d_call (xl := [.tmp 12, .const (.int .i64 1000)]) (al := [(eI fr), (eN 1000)]) Try.func16 (by kernel_rfl) rfl rfl rfl (law9Within_ok fr 1000 _ (by omega) (by omega))) ?_
  rintro _ w13 ⟨rfl, o14⟩
  replace oW := oW.tail0 o14
  refine wI (n_add (a := 1) (b := ((fr % ((1000 : Nat) : Int)).toNat)) rfl rfl (by omega)) ?_
  refine wF ([(eI wh), (Value.bool ab), (eI fr), undef, undef, undef, (Value.bool false), (eN 0), undef, (Value.bool true), (Value.bool false), (Value.bool ab), (eI fr), (eN ((fr % ((1000 : Nat) : Int)).toNat)), (eN (1 + ((fr % ((1000 : Nat) : Int)).toNat)))] ++ (us 72)) ?_
  refine wI (d_assign rfl) ?_
  refine wF ([(eI wh), (Value.bool ab), (eI fr), undef, undef, undef, (Value.bool false), (eN (1 + ((fr % ((1000 : Nat) : Int)).toNat))), undef, (Value.bool true), (Value.bool false), (Value.bool ab), (eI fr), (eN ((fr % ((1000 : Nat) : Int)).toNat)), (eN (1 + ((fr % ((1000 : Nat) : Int)).toNat)))] ++ (us 72)) ?_
  refine wpL.done ?_
  refine then_n ?_
  refine forget (fun zf15 => ([(eI wh), (Value.bool ab)] ++ (zs zf15 2 5 ++ [(eN (1 + ((fr % ((1000 : Nat) : Int)).toNat)))] ++ (zs zf15 8 60 ++ (us 19))))) (by kernel_rfl) (fun zf15 => ?_)
  refine wpIn_seq ?_
  refine plain ?_
  refine wI (d_buildS (pl := [(0, 1), (1, 1), (2, 1)]) (zs := [(eN 0), (eN 0), (eN 0)]) (cs := [(eN 7), (eN 10), (eN 6)]) Try.underlying25 s_ti25 ⟨_, _, _, _, rfl, s_ti3, ⟨_, _, _, _, rfl, s_ti3, ⟨_, _, _, _, rfl, s_ti3, rfl⟩⟩⟩ rfl (parts_cons (vs := [(eN 7)]) (cells_of (v := (eN 7)) rfl rfl) (parts_cons (vs := [(eN 10)]) (cells_of (v := (eN 10)) rfl rfl) (parts_cons (vs := [(eN 6)]) (cells_of (v := (eN 6)) rfl rfl) parts_nil))) rfl) ?_
  refine wO (d_alloc s_ti25 rfl) ?_
  rintro _ w16 ⟨g0, rfl, g17, a18, o19⟩
  have g_oW_g0 : W.heap.size ≤ g0 := Nat.le_trans oW.size g17
  replace oW := oW.tail0 o19
  refine wO (d_storeAg (cs' := [(eN 7), (eN 10), (eN 6)]) s_ti25 rfl rfl rfl (oc_cons rfl (oc_cons rfl (oc_cons rfl oc_nil))) a18 (by decide) rfl) ?_
  rintro _ w20 ⟨a21, o22⟩
  replace oW := oW.tailb o22 g_oW_g0
  refine wF ([(eI wh), (Value.bool ab)] ++ (zs zf15 2 5 ++ [(eN (1 + ((fr % ((1000 : Nat) : Int)).toNat))), (ptr g0 0)] ++ (zs zf15 9 6 ++ [(Value.agg #[(eN 7), (eN 10), (eN 6)])] ++ (zs zf15 16 52 ++ (us 19))))) ?_
  refine wpL.done ?_
  refine then_n ?_
  refine wpIn_seq ?_
  refine wpIn_seq ?_
  refine plain ?_
  refine wI (d_move rfl) ?_
  refine wO (d_call (xl := [.tmp 16, .const (.int .i64 6)]) (al := [(eI wh), (eN 6)]) Try.func16 (by kernel_rfl) rfl rfl rfl (law9Within_ok wh 6 _ (by omega) (by omega))) ?_
  rintro _ w23 ⟨rfl, o24⟩
  replace a21 := a21.step0 o24
  replace oW := oW.tail0 o24
  refine wF ([(eI wh), (Value.bool ab)] ++ (zs zf15 2 5 ++ [(eN (1 + ((fr % ((1000 : Nat) : Int)).toNat))), (ptr g0 0)] ++ (zs zf15 9 6 ++ [(Value.agg #[(eN 7), (eN 10), (eN 6)]), (eI wh), (eN ((wh % ((6 : Nat) : Int)).toNat))] ++ (zs zf15 18 50 ++ (us 19))))) ?_
  refine wpL.done ?_
  refine then_n ?_
  refine wpIn_block ?_
  refine wpIn_seq ?_
  refine plain ?_
  refine wI (n_eql (a := ((wh % ((6 : Nat) : Int)).toNat)) (b := 0) rfl rfl rfl) ?_
  refine wI (d_assign rfl) ?_
  refine wF ([(eI wh), (Value.bool ab)] ++ (zs zf15 2 5 ++ [(eN (1 + ((fr % ((1000 : Nat) : Int)).toNat))), (ptr g0 0)] ++ (zs zf15 9 6 ++ [(Value.agg #[(eN 7), (eN 10), (eN 6)]), (eI wh), (eN ((wh % ((6 : Nat) : Int)).toNat)), (Value.bool (decide (((wh % ((6 : Nat) : Int)).toNat) = 0))), (Value.bool (decide (((wh % ((6 : Nat) : Int)).toNat) = 0)))] ++ (zs zf15 20 48 ++ (us 19))))) ?_
  refine wpL.done ?_
  refine then_n ?_
  refine cond_if rfl (fun c25 => ?_) (fun c25 => ?_)
  ·
   refine plain ?_
   refine wI (d_move rfl) ?_
   refine wI (n_add (a := 8) (b := (1 + ((fr % ((1000 : Nat) : Int)).toNat))) rfl rfl (by omega)) ?_
   refine wI (d_fieldAddr (j := 0) Try.underlying25 rfl s_ti3 (by decide) rfl rfl) ?_
   refine wF ([(eI wh), (Value.bool ab)] ++ (zs zf15 2 5 ++ [(eN (1 + ((fr % ((1000 : Nat) : Int)).toNat))), (ptr g0 0)] ++ (zs zf15 9 6 ++ [(Value.agg #[(eN 7), (eN 10), (eN 6)]), (eI wh), (eN ((wh % ((6 : Nat) : Int)).toNat)), (Value.bool (decide (((wh % ((6 : Nat) : Int)).toNat) = 0))), (Value.bool (decide (((wh % ((6 : Nat) : Int)).toNat) = 0))), (eN (1 + ((fr % ((1000 : Nat) : Int)).toNat))), (eN (8 + (1 + ((fr % ((1000 : Nat) : Int)).toNat)))), (ptr g0 0)] ++ (zs zf15 23 45 ++ (us 19))))) ?_
   refine wO (d_store s_ti3 rfl rfl rfl a21 (nb rfl) rfl) ?_
   rintro _ w26 ⟨a27, o28⟩
   replace oW := oW.tailb o28 g_oW_g0
   refine wF ([(eI wh), (Value.bool ab)] ++ (zs zf15 2 5 ++ [(eN (1 + ((fr % ((1000 : Nat) : Int)).toNat))), (ptr g0 0)] ++ (zs zf15 9 6 ++ [(Value.agg #[(eN 7), (eN 10), (eN 6)]), (eI wh), (eN ((wh % ((6 : Nat) : Int)).toNat)), (Value.bool (decide (((wh % ((6 : Nat) : Int)).toNat) = 0))), (Value.bool (decide (((wh % ((6 : Nat) : Int)).toNat) = 0))), (eN (1 + ((fr % ((1000 : Nat) : Int)).toNat))), (eN (8 + (1 + ((fr % ((1000 : Nat) : Int)).toNat)))), (ptr g0 0)] ++ (zs zf15 23 45 ++ (us 19))))) ?_
   refine wpL.done ?_
   refine inb_n (then_n ?_)
   refine forget (fun zf29 => ([(zf29 0), (Value.bool ab)] ++ (zs zf29 2 6 ++ [(ptr g0 0)] ++ (zs zf29 9 59 ++ (us 19))))) (by kernel_rfl) (fun zf29 => ?_)
   refine wpIn_seq ?_
   refine wpIn_seq ?_
   refine plain ?_
   refine wI (d_move rfl) ?_
   refine wF ([(zf29 0), (Value.bool ab)] ++ (zs zf29 2 6 ++ [(ptr g0 0)] ++ (zs zf29 9 39 ++ [(Value.bool ab)] ++ (zs zf29 49 19 ++ (us 19))))) ?_
   refine wpL.done ?_
   refine then_n ?_
   refine cond_t (congrArg Value.bool c1) ?_
   refine wpIn_seq ?_
   refine plain ?_
   refine wI (d_loadAg (vs := [(eN (8 + (1 + ((fr % ((1000 : Nat) : Int)).toNat)))), (eN 10), (eN 6)]) ⟨_, Try.underlying25, rfl⟩ s_ti25 rfl a27 rfl rfl) ?_
   refine wO (d_call (xl := [.tmp 49]) (al := [(Value.agg #[(eN (8 + (1 + ((fr % ((1000 : Nat) : Int)).toNat)))), (eN 10), (eN 6)])]) Try.func33 (by kernel_rfl) rfl rfl rfl (cw_is (v' := eN 1) (gCheck_ok ((8 + (1 + ((fr % ((1000 : Nat) : Int)).toNat)) : Nat) : Int) 10 6 _) (by rw [(show fitsI ((8 + (1 + ((fr % ((1000 : Nat) : Int)).toNat)) : Nat) : Int) 10 6 = false from (fits_no (by omega)).symm)] <;> rfl))) ?_
   rintro _ w30 ⟨rfl, o31⟩
   replace a27 := a27.step0 o31
   replace oW := oW.tail0 o31
   refine wI (n_eql (a := 1) (b := 1) rfl rfl (decide_eq_true rfl)) ?_
   refine wF ([(zf29 0), (Value.bool ab)] ++ (zs zf29 2 6 ++ [(ptr g0 0)] ++ (zs zf29 9 39 ++ [(Value.bool ab), (Value.agg #[(eN (8 + (1 + ((fr % ((1000 : Nat) : Int)).toNat)))), (eN 10), (eN 6)]), (eN 1), (Value.bool true)] ++ (zs zf29 52 16 ++ (us 19))))) ?_
   refine wI (d_move rfl) ?_
   refine wpL.onis rfl rfl rfl (nb rfl) rfl (d_loadAg (vs := [(eN (8 + (1 + ((fr % ((1000 : Nat) : Int)).toNat)))), (eN 10), (eN 6)]) ⟨_, Try.underlying25, rfl⟩ s_ti25 rfl a27 rfl rfl) ?_
   refine wpL.on rfl rfl rfl (nb rfl) rfl (d_call (xl := [.tmp 53, .const (.slice none 0 0)]) (al := [(Value.agg #[(eN (8 + (1 + ((fr % ((1000 : Nat) : Int)).toNat)))), (eN 10), (eN 6)]), (Value.slice none 0 0)]) Try.func31 (by kernel_rfl) rfl rfl rfl (superso_ok ((8 + (1 + ((fr % ((1000 : Nat) : Int)).toNat)) : Nat) : Int) 10 6 (Value.slice none 0 0) _ (show fitsI ((8 + (1 + ((fr % ((1000 : Nat) : Int)).toNat)) : Nat) : Int) 10 6 = false from (fits_no (by omega)).symm))) ?_
   rintro _ w32 ⟨rfl, o33⟩
   replace a27 := a27.step0 o33
   replace oW := oW.tail0 o33
   refine wF ([(zf29 0), (Value.bool ab)] ++ (zs zf29 2 6 ++ [(ptr g0 0)] ++ (zs zf29 9 39 ++ [(Value.bool ab), (Value.agg #[(eN (8 + (1 + ((fr % ((1000 : Nat) : Int)).toNat)))), (eN 10), (eN 6)]), (eN 1), (Value.bool true), (Value.bool true), (Value.agg #[(eN (8 + (1 + ((fr % ((1000 : Nat) : Int)).toNat)))), (eN 10), (eN 6)]), (Value.slice none 0 0)] ++ (zs zf29 55 13 ++ (us 19))))) ?_
   refine wpL.onis rfl rfl rfl (nb rfl) rfl (d_len rfl Try.underlying47 rfl) ?_
   refine wpL.onis rfl rfl rfl (nb rfl) rfl (n_eql (a := 0) (b := 0) rfl rfl (decide_eq_true rfl)) ?_
   refine wI (d_pick (b := true) (v := (Value.bool true)) rfl rfl) ?_
   refine wF ([(zf29 0), (Value.bool ab)] ++ (zs zf29 2 6 ++ [(ptr g0 0)] ++ (zs zf29 9 39 ++ [(Value.bool ab), (Value.agg #[(eN (8 + (1 + ((fr % ((1000 : Nat) : Int)).toNat)))), (eN 10), (eN 6)]), (eN 1), (Value.bool true), (Value.bool true), (Value.agg #[(eN (8 + (1 + ((fr % ((1000 : Nat) : Int)).toNat)))), (eN 10), (eN 6)]), (Value.slice none 0 0), (eN 0), (Value.bool true), (Value.bool true)] ++ (zs zf29 58 10 ++ (us 19))))) ?_
   refine wI (d_move rfl) ?_
   refine wpL.onis rfl rfl rfl (nb rfl) rfl (d_loadAg (vs := [(eN (8 + (1 + ((fr % ((1000 : Nat) : Int)).toNat)))), (eN 10), (eN 6)]) ⟨_, Try.underlying25, rfl⟩ s_ti25 rfl a27 rfl rfl) ?_
   refine wpL.on rfl rfl rfl (nb rfl) rfl (d_call (xl := [.tmp 59, .const (.int .i64 8)]) (al := [(Value.agg #[(eN (8 + (1 + ((fr % ((1000 : Nat) : Int)).toNat)))), (eN 10), (eN 6)]), (eN 8)]) Try.func17 (by kernel_rfl) rfl rfl rfl (cw_is (gSectors_ok ((8 + (1 + ((fr % ((1000 : Nat) : Int)).toNat)) : Nat) : Int) 10 6 8 _) (congrArg eI (gsec_no (fun h_ => absurd h_.1 (Bool.eq_false_iff.1 (show fitsI ((8 + (1 + ((fr % ((1000 : Nat) : Int)).toNat)) : Nat) : Int) 10 6 = false from (fits_no (by omega)).symm))))))) ?_
   rintro _ w34 ⟨rfl, o35⟩
   replace a27 := a27.step0 o35
   replace oW := oW.tail0 o35
   refine wF ([(zf29 0), (Value.bool ab)] ++ (zs zf29 2 6 ++ [(ptr g0 0)] ++ (zs zf29 9 39 ++ [(Value.bool ab), (Value.agg #[(eN (8 + (1 + ((fr % ((1000 : Nat) : Int)).toNat)))), (eN 10), (eN 6)]), (eN 1), (Value.bool true), (Value.bool true), (Value.agg #[(eN (8 + (1 + ((fr % ((1000 : Nat) : Int)).toNat)))), (eN 10), (eN 6)]), (Value.slice none 0 0), (eN 0), (Value.bool true), (Value.bool true), (Value.bool true), (Value.agg #[(eN (8 + (1 + ((fr % ((1000 : Nat) : Int)).toNat)))), (eN 10), (eN 6)]), (eN 0)] ++ (zs zf29 61 7 ++ (us 19))))) ?_
   refine wpL.onis rfl rfl rfl (nb rfl) rfl (n_eql (a := 0) (b := 0) rfl rfl (decide_eq_true rfl)) ?_
   refine wI (d_pick (b := true) (v := (Value.bool true)) rfl rfl) ?_
   refine wI (d_move rfl) ?_
   refine wF ([(zf29 0), (Value.bool ab)] ++ (zs zf29 2 6 ++ [(ptr g0 0)] ++ (zs zf29 9 39 ++ [(Value.bool ab), (Value.agg #[(eN (8 + (1 + ((fr % ((1000 : Nat) : Int)).toNat)))), (eN 10), (eN 6)]), (eN 1), (Value.bool true), (Value.bool true), (Value.agg #[(eN (8 + (1 + ((fr % ((1000 : Nat) : Int)).toNat)))), (eN 10), (eN 6)]), (Value.slice none 0 0), (eN 0), (Value.bool true), (Value.bool true), (Value.bool true), (Value.agg #[(eN (8 + (1 + ((fr % ((1000 : Nat) : Int)).toNat)))), (eN 10), (eN 6)]), (eN 0), (Value.bool true), (Value.bool true), (Value.bool true), (zf29 64), (zf29 65), (zf29 66), (zf29 67)] ++ (us 19)))) ?_
   refine wpL.onis rfl rfl rfl (nb rfl) rfl (d_loadAg (vs := [(eN (8 + (1 + ((fr % ((1000 : Nat) : Int)).toNat)))), (eN 10), (eN 6)]) ⟨_, Try.underlying25, rfl⟩ s_ti25 rfl a27 rfl rfl) ?_
   refine wpL.on rfl rfl rfl (nb rfl) rfl (d_call (xl := [.tmp 64]) (al := [(Value.agg #[(eN (8 + (1 + ((fr % ((1000 : Nat) : Int)).toNat)))), (eN 10), (eN 6)])]) Try.func35 (by kernel_rfl) rfl rfl rfl (cw_is (gSlots_ok ((8 + (1 + ((fr % ((1000 : Nat) : Int)).toNat)) : Nat) : Int) 10 6 _) (congrArg eI (if_neg (Bool.eq_false_iff.1 (show fitsI ((8 + (1 + ((fr % ((1000 : Nat) : Int)).toNat)) : Nat) : Int) 10 6 = false from (fits_no (by omega)).symm)))))) ?_
   rintro _ w36 ⟨rfl, o37⟩
   replace a27 := a27.step0 o37
   replace oW := oW.tail0 o37
   refine wpL.onis rfl rfl rfl (nb rfl) rfl (n_eql (a := 0) (b := 0) rfl rfl (decide_eq_true rfl)) ?_
   refine wF ([(zf29 0), (Value.bool ab)] ++ (zs zf29 2 6 ++ [(ptr g0 0)] ++ (zs zf29 9 39 ++ [(Value.bool ab), (Value.agg #[(eN (8 + (1 + ((fr % ((1000 : Nat) : Int)).toNat)))), (eN 10), (eN 6)]), (eN 1), (Value.bool true), (Value.bool true), (Value.agg #[(eN (8 + (1 + ((fr % ((1000 : Nat) : Int)).toNat)))), (eN 10), (eN 6)]), (Value.slice none 0 0), (eN 0), (Value.bool true), (Value.bool true), (Value.bool true), (Value.agg #[(eN (8 + (1 + ((fr % ((1000 : Nat) : Int)).toNat)))), (eN 10), (eN 6)]), (eN 0), (Value.bool true), (Value.bool true), (Value.bool true), (Value.agg #[(eN (8 + (1 + ((fr % ((1000 : Nat) : Int)).toNat)))), (eN 10), (eN 6)]), (eN 0), (Value.bool true), (zf29 67)] ++ (us 19)))) ?_
   refine wI (d_pick (b := true) (v := (Value.bool true)) rfl rfl) ?_
   refine wI (d_assign rfl) ?_
   refine wF ([(zf29 0), (Value.bool ab), (zf29 2), (zf29 3), (zf29 4), (zf29 5), (Value.bool true), (zf29 7), (ptr g0 0)] ++ (zs zf29 9 39 ++ [(Value.bool ab), (Value.agg #[(eN (8 + (1 + ((fr % ((1000 : Nat) : Int)).toNat)))), (eN 10), (eN 6)]), (eN 1), (Value.bool true), (Value.bool true), (Value.agg #[(eN (8 + (1 + ((fr % ((1000 : Nat) : Int)).toNat)))), (eN 10), (eN 6)]), (Value.slice none 0 0), (eN 0), (Value.bool true), (Value.bool true), (Value.bool true), (Value.agg #[(eN (8 + (1 + ((fr % ((1000 : Nat) : Int)).toNat)))), (eN 10), (eN 6)]), (eN 0), (Value.bool true), (Value.bool true), (Value.bool true), (Value.agg #[(eN (8 + (1 + ((fr % ((1000 : Nat) : Int)).toNat)))), (eN 10), (eN 6)]), (eN 0), (Value.bool true), (Value.bool true)] ++ (us 19))) ?_
   refine wpL.done ?_
   refine then_n ?_
   refine forget (fun zf38 => (zs zf38 0 6 ++ [(Value.bool true)] ++ (zs zf38 7 80))) (by kernel_rfl) (fun zf38 => ?_)
   refine wpIn_ret ?_
   refine then_r ?_
   refine leave0 (v := (Value.bool true)) (res1 Try.results13 rfl) ?_
   exact ⟨rfl, oW⟩
  refine wpIn_seq ?_
  refine plain ?_
  refine wI (n_eql (a := ((wh % ((6 : Nat) : Int)).toNat)) (b := 1) rfl rfl rfl) ?_
  refine wI (d_assign rfl) ?_
  refine wF ([(eI wh), (Value.bool ab)] ++ (zs zf15 2 5 ++ [(eN (1 + ((fr % ((1000 : Nat) : Int)).toNat))), (ptr g0 0)] ++ (zs zf15 9 6 ++ [(Value.agg #[(eN 7), (eN 10), (eN 6)]), (eI wh), (eN ((wh % ((6 : Nat) : Int)).toNat)), (Value.bool (decide (((wh % ((6 : Nat) : Int)).toNat) = 0))), (Value.bool (decide (((wh % ((6 : Nat) : Int)).toNat) = 0))), (zf15 20), (zf15 21), (zf15 22), (Value.bool (decide (((wh % ((6 : Nat) : Int)).toNat) = 1))), (Value.bool (decide (((wh % ((6 : Nat) : Int)).toNat) = 1)))] ++ (zs zf15 25 43 ++ (us 19))))) ?_
  refine wpL.done ?_
  refine then_n ?_
  refine cond_if rfl (fun c39 => ?_) (fun c39 => ?_)
  ·
   refine plain ?_
   refine wI (d_move rfl) ?_
   refine wI (d_sub (k := .i64) (m := 6) (n := ((1 + ((fr % ((1000 : Nat) : Int)).toNat) : Nat) : Int)) rfl rfl (r := ((6 : Nat) : Int) - ((1 + (fr % ((1000 : Nat) : Int)).toNat : Nat) : Int)) (IntWalk.i64_in _ (by omega))) ?_
   refine wI (d_fieldAddr (j := 0) Try.underlying25 rfl s_ti3 (by decide) rfl rfl) ?_
   refine wF ([(eI wh), (Value.bool ab)] ++ (zs zf15 2 5 ++ [(eN (1 + ((fr % ((1000 : Nat) : Int)).toNat))), (ptr g0 0)] ++ (zs zf15 9 6 ++ [(Value.agg #[(eN 7), (eN 10), (eN 6)]), (eI wh), (eN ((wh % ((6 : Nat) : Int)).toNat)), (Value.bool (decide (((wh % ((6 : Nat) : Int)).toNat) = 0))), (Value.bool (decide (((wh % ((6 : Nat) : Int)).toNat) = 0))), (zf15 20), (zf15 21), (zf15 22), (Value.bool (decide (((wh % ((6 : Nat) : Int)).toNat) = 1))), (Value.bool (decide (((wh % ((6 : Nat) : Int)).toNat) = 1))), (eN (1 + ((fr % ((1000 : Nat) : Int)).toNat))), (eI (((6 : Nat) : Int) - ((1 + (fr % ((1000 : Nat) : Int)).toNat : Nat) : Int))), (ptr g0 0)] ++ (zs zf15 28 40 ++ (us 19))))) ?_
   refine wO (d_store s_ti3 rfl rfl rfl a21 (nb rfl) rfl) ?_
   rintro _ w40 ⟨a41, o42⟩
   replace oW := oW.tailb o42 g_oW_g0
   refine wF ([(eI wh), (Value.bool ab)] ++ (zs zf15 2 5 ++ [(eN (1 + ((fr % ((1000 : Nat) : Int)).toNat))), (ptr g0 0)] ++ (zs zf15 9 6 ++ [(Value.agg #[(eN 7), (eN 10), (eN 6)]), (eI wh), (eN ((wh % ((6 : Nat) : Int)).toNat)), (Value.bool (decide (((wh % ((6 : Nat) : Int)).toNat) = 0))), (Value.bool (decide (((wh % ((6 : Nat) : Int)).toNat) = 0))), (zf15 20), (zf15 21), (zf15 22), (Value.bool (decide (((wh % ((6 : Nat) : Int)).toNat) = 1))), (Value.bool (decide (((wh % ((6 : Nat) : Int)).toNat) = 1))), (eN (1 + ((fr % ((1000 : Nat) : Int)).toNat))), (eI (((6 : Nat) : Int) - ((1 + (fr % ((1000 : Nat) : Int)).toNat : Nat) : Int))), (ptr g0 0)] ++ (zs zf15 28 40 ++ (us 19))))) ?_
   refine wpL.done ?_
   refine inb_n (then_n ?_)
   refine forget (fun zf43 => ([(zf43 0), (Value.bool ab)] ++ (zs zf43 2 6 ++ [(ptr g0 0)] ++ (zs zf43 9 59 ++ (us 19))))) (by kernel_rfl) (fun zf43 => ?_)
   refine wpIn_seq ?_
   refine wpIn_seq ?_
   refine plain ?_
   refine wI (d_move rfl) ?_
   refine wF ([(zf43 0), (Value.bool ab)] ++ (zs zf43 2 6 ++ [(ptr g0 0)] ++ (zs zf43 9 39 ++ [(Value.bool ab)] ++ (zs zf43 49 19 ++ (us 19))))) ?_
   refine wpL.done ?_
   refine then_n ?_
   refine cond_t (congrArg Value.bool c1) ?_
   refine wpIn_seq ?_
   refine plain ?_
   refine wI (d_loadAg (vs := [(eI (((6 : Nat) : Int) - ((1 + (fr % ((1000 : Nat) : Int)).toNat : Nat) : Int))), (eN 10), (eN 6)]) ⟨_, Try.underlying25, rfl⟩ s_ti25 rfl a41 rfl rfl) ?_
   refine wO (d_call (xl := [.tmp 49]) (al := [(Value.agg #[(eI (((6 : Nat) : Int) - ((1 + (fr % ((1000 : Nat) : Int)).toNat : Nat) : Int))), (eN 10), (eN 6)])]) Try.func33 (by kernel_rfl) rfl rfl rfl (cw_is (v' := eN 1) (gCheck_ok (((6 : Nat) : Int) - ((1 + (fr % ((1000 : Nat) : Int)).toNat : Nat) : Int)) 10 6 _) (by rw [(show fitsI (((6 : Nat) : Int) - ((1 + (fr % ((1000 : Nat) : Int)).toNat : Nat) : Int)) 10 6 = false from (fits_no (by omega)).symm)] <;> rfl))) ?_
   rintro _ w44 ⟨rfl, o45⟩
   replace a41 := a41.step0 o45
   replace oW := oW.tail0 o45
   refine wI (n_eql (a := 1) (b := 1) rfl rfl (decide_eq_true rfl)) ?_
   refine wF ([(zf43 0), (Value.bool ab)] ++ (zs zf43 2 6 ++ [(ptr g0 0)] ++ (zs zf43 9 39 ++ [(Value.bool ab), (Value.agg #[(eI (((6 : Nat) : Int) - ((1 + (fr % ((1000 : Nat) : Int)).toNat : Nat) : Int))), (eN 10), (eN 6)]), (eN 1), (Value.bool true)] ++ (zs zf43 52 16 ++ (us 19))))) ?_
   refine wI (d_move rfl) ?_
   refine wpL.onis rfl rfl rfl (nb rfl) rfl (d_loadAg (vs := [(eI (((6 : Nat) : Int) - ((1 + (fr % ((1000 : Nat) : Int)).toNat : Nat) : Int))), (eN 10), (eN 6)]) ⟨_, Try.underlying25, rfl⟩ s_ti25 rfl a41 rfl rfl) ?_
   refine wpL.on rfl rfl rfl (nb rfl) rfl (d_call (xl := [.tmp 53, .const (.slice none 0 0)]) (al := [(Value.agg #[(eI (((6 : Nat) : Int) - ((1 + (fr % ((1000 : Nat) : Int)).toNat : Nat) : Int))), (eN 10), (eN 6)]), (Value.slice none 0 0)]) Try.func31 (by kernel_rfl) rfl rfl rfl (superso_ok (((6 : Nat) : Int) - ((1 + (fr % ((1000 : Nat) : Int)).toNat : Nat) : Int)) 10 6 (Value.slice none 0 0) _ (show fitsI (((6 : Nat) : Int) - ((1 + (fr % ((1000 : Nat) : Int)).toNat : Nat) : Int)) 10 6 = false from (fits_no (by omega)).symm))) ?_
   rintro _ w46 ⟨rfl, o47⟩
   replace a41 := a41.step0 o47
   replace oW := oW.tail0 o47
   refine wF ([(zf43 0), (Value.bool ab)] ++ (zs zf43 2 6 ++ [(ptr g0 0)] ++ (zs zf43 9 39 ++ [(Value.bool ab), (Value.agg #[(eI (((6 : Nat) : Int) - ((1 + (fr % ((1000 : Nat) : Int)).toNat : Nat) : Int))), (eN 10), (eN 6)]), (eN 1), (Value.bool true), (Value.bool true), (Value.agg #[(eI (((6 : Nat) : Int) - ((1 + (fr % ((1000 : Nat) : Int)).toNat : Nat) : Int))), (eN 10), (eN 6)]), (Value.slice none 0 0)] ++ (zs zf43 55 13 ++ (us 19))))) ?_
   refine wpL.onis rfl rfl rfl (nb rfl) rfl (d_len rfl Try.underlying47 rfl) ?_
   refine wpL.onis rfl rfl rfl (nb rfl) rfl (n_eql (a := 0) (b := 0) rfl rfl (decide_eq_true rfl)) ?_
   refine wI (d_pick (b := true) (v := (Value.bool true)) rfl rfl) ?_
   refine wF ([(zf43 0), (Value.bool ab)] ++ (zs zf43 2 6 ++ [(ptr g0 0)] ++ (zs zf43 9 39 ++ [(Value.bool ab), (Value.agg #[(eI (((6 : Nat) : Int) - ((1 + (fr % ((1000 : Nat) : Int)).toNat : Nat) : Int))), (eN 10), (eN 6)]), (eN 1), (Value.bool true), (Value.bool true), (Value.agg #[(eI (((6 : Nat) : Int) - ((1 + (fr % ((1000 : Nat) : Int)).toNat : Nat) : Int))), (eN 10), (eN 6)]), (Value.slice none 0 0), (eN 0), (Value.bool true), (Value.bool true)] ++ (zs zf43 58 10 ++ (us 19))))) ?_
   refine wI (d_move rfl) ?_
   refine wpL.onis rfl rfl rfl (nb rfl) rfl (d_loadAg (vs := [(eI (((6 : Nat) : Int) - ((1 + (fr % ((1000 : Nat) : Int)).toNat : Nat) : Int))), (eN 10), (eN 6)]) ⟨_, Try.underlying25, rfl⟩ s_ti25 rfl a41 rfl rfl) ?_
   refine wpL.on rfl rfl rfl (nb rfl) rfl (d_call (xl := [.tmp 59, .const (.int .i64 8)]) (al := [(Value.agg #[(eI (((6 : Nat) : Int) - ((1 + (fr % ((1000 : Nat) : Int)).toNat : Nat) : Int))), (eN 10), (eN 6)]), (eN 8)]) Try.func17 (by kernel_rfl) rfl rfl rfl (cw_is (gSectors_ok (((6 : Nat) : Int) - ((1 + (fr % ((1000 : Nat) : Int)).toNat : Nat) : Int)) 10 6 8 _) (congrArg eI (gsec_no (fun h_ => absurd h_.1 (Bool.eq_false_iff.1 (show fitsI (((6 : Nat) : Int) - ((1 + (fr % ((1000 : Nat) : Int)).toNat : Nat) : Int)) 10 6 = false from (fits_no (by omega)).symm))))))) ?_
   rintro _ w48 ⟨rfl, o49⟩
   replace a41 := a41.step0 o49
   replace oW := oW.tail0 o49
   refine wF ([(zf43 0), (Value.bool ab)] ++ (zs zf43 2 6 ++ [(ptr g0 0)] ++ (zs zf43 9 39 ++ [(Value.bool ab), (Value.agg #[(eI (((6 : Nat) : Int) - ((1 + (fr % ((1000 : Nat) : Int)).toNat : Nat) : Int))), (eN 10), (eN 6)]), (eN 1), (Value.bool true), (Value.bool true), (Value.agg #[(eI (((6 : Nat) : Int) - ((1 + (fr % ((1000 : Nat) : Int)).toNat : Nat) : Int))), (eN 10), (eN 6)]), (Value.slice none 0 0), (eN 0), (Value.bool true), (Value.bool true), (Value.bool true), (Value.agg #[(eI (((6 : Nat) : Int) - ((1 + (fr % ((1000 : Nat) : Int)).toNat : Nat) : Int))), (eN 10), (eN 6)]), (eN 0)] ++ (zs zf43 61 7 ++ (us 19))))) ?_
   refine wpL.onis rfl rfl rfl (nb rfl) rfl (n_eql (a := 0) (b := 0) rfl rfl (decide_eq_true rfl)) ?_
   refine wI (d_pick (b := true) (v := (Value.bool true)) rfl rfl) ?_
   refine wI (d_move rfl) ?_
   refine wF ([(zf43 0), (Value.bool ab)] ++ (zs zf43 2 6 ++ [(ptr g0 0)] ++ (zs zf43 9 39 ++ [(Value.bool ab), (Value.agg #[(eI (((6 : Nat) : Int) - ((1 + (fr % ((1000 : Nat) : Int)).toNat : Nat) : Int))), (eN 10), (eN 6)]), (eN 1), (Value.bool true), (Value.bool true), (Value.agg #[(eI (((6 : Nat) : Int) - ((1 + (fr % ((1000 : Nat) : Int)).toNat : Nat) : Int))), (eN 10), (eN 6)]), (Value.slice none 0 0), (eN 0), (Value.bool true), (Value.bool true), (Value.bool true), (Value.agg #[(eI (((6 : Nat) : Int) - ((1 + (fr % ((1000 : Nat) : Int)).toNat : Nat) : Int))), (eN 10), (eN 6)]), (eN 0), (Value.bool true), (Value.bool true), (Value.bool true), (zf43 64), (zf43 65), (zf43 66), (zf43 67)] ++ (us 19)))) ?_
   refine wpL.onis rfl rfl rfl (nb rfl) rfl (d_loadAg (vs := [(eI (((6 : Nat) : Int) - ((1 + (fr % ((1000 : Nat) : Int)).toNat : Nat) : Int))), (eN 10), (eN 6)]) ⟨_, Try.underlying25, rfl⟩ s_ti25 rfl a41 rfl rfl) ?_
   refine wpL.on rfl rfl rfl (nb rfl) rfl (d_call (xl := [.tmp 64]) (al := [(Value.agg #[(eI (((6 : Nat) : Int) - ((1 + (fr % ((1000 : Nat) : Int)).toNat : Nat) : Int))), (eN 10), (eN 6)])]) Try.func35 (by kernel_rfl) rfl rfl rfl (cw_is (gSlots_ok (((6 : Nat) : Int) - ((1 + (fr % ((1000 : Nat) : Int)).toNat : Nat) : Int)) 10 6 _) (congrArg eI (if_neg (Bool.eq_false_iff.1 (show fitsI (((6 : Nat) : Int) - ((1 + (fr % ((1000 : Nat) : Int)).toNat : Nat) : Int)) 10 6 = false from (fits_no (by omega)).symm)))))) ?_
   rintro _ w50 ⟨rfl, o51⟩
   replace a41 := a41.step0 o51
   replace oW := oW.tail0 o51
   refine wpL.onis rfl rfl rfl (nb rfl) rfl (n_eql (a := 0) (b := 0) rfl rfl (decide_eq_true rfl)) ?_
   refine wF ([(zf43 0), (Value.bool ab)] ++ (zs zf43 2 6 ++ [(ptr g0 0)] ++ (zs zf43 9 39 ++ [(Value.bool ab), (Value.agg #[(eI (((6 : Nat) : Int) - ((1 + (fr % ((1000 : Nat) : Int)).toNat : Nat) : Int))), (eN 10), (eN 6)]), (eN 1), (Value.bool true), (Value.bool true), (Value.agg #[(eI (((6 : Nat) : Int) - ((1 + (fr % ((1000 : Nat) : Int)).toNat : Nat) : Int))), (eN 10), (eN 6)]), (Value.slice none 0 0), (eN 0), (Value.bool true), (Value.bool true), (Value.bool true), (Value.agg #[(eI (((6 : Nat) : Int) - ((1 + (fr % ((1000 : Nat) : Int)).toNat : Nat) : Int))), (eN 10), (eN 6)]), (eN 0), (Value.bool true), (Value.bool true), (Value.bool true), (Value.agg #[(eI (((6 : Nat) : Int) - ((1 + (fr % ((1000 : Nat) : Int)).toNat : Nat) : Int))), (eN 10), (eN 6)]), (eN 0), (Value.bool true), (zf43 67)] ++ (us 19)))) ?_
   refine wI (d_pick (b := true) (v := (Value.bool true)) rfl rfl) ?_
   refine wI (d_assign rfl) ?_
   refine wF ([(zf43 0), (Value.bool ab), (zf43 2), (zf43 3), (zf43 4), (zf43 5), (Value.bool true), (zf43 7), (ptr g0 0)] ++ (zs zf43 9 39 ++ [(Value.bool ab), (Value.agg #[(eI (((6 : Nat) : Int) - ((1 + (fr % ((1000 : Nat) : Int)).toNat : Nat) : Int))), (eN 10), (eN 6)]), (eN 1), (Value.bool true), (Value.bool true), (Value.agg #[(eI (((6 : Nat) : Int) - ((1 + (fr % ((1000 : Nat) : Int)).toNat : Nat) : Int))), (eN 10), (eN 6)]), (Value.slice none 0 0), (eN 0), (Value.bool true), (Value.bool true), (Value.bool true), (Value.agg #[(eI (((6 : Nat) : Int) - ((1 + (fr % ((1000 : Nat) : Int)).toNat : Nat) : Int))), (eN 10), (eN 6)]), (eN 0), (Value.bool true), (Value.bool true), (Value.bool true), (Value.agg #[(eI (((6 : Nat) : Int) - ((1 + (fr % ((1000 : Nat) : Int)).toNat : Nat) : Int))), (eN 10), (eN 6)]), (eN 0), (Value.bool true), (Value.bool true)] ++ (us 19))) ?_
   refine wpL.done ?_
   refine then_n ?_
   refine forget (fun zf52 => (zs zf52 0 6 ++ [(Value.bool true)] ++ (zs zf52 7 80))) (by kernel_rfl) (fun zf52 => ?_)
   refine wpIn_ret ?_
   refine then_r ?_
   refine leave0 (v := (Value.bool true)) (res1 Try.results13 rfl) ?_
   exact ⟨rfl, oW⟩
  refine wpIn_seq ?_
  refine plain ?_
  refine wI (n_eql (a := ((wh % ((6 : Nat) : Int)).toNat)) (b := 2) rfl rfl rfl) ?_
  refine wI (d_assign rfl) ?_
  refine wF ([(eI wh), (Value.bool ab)] ++ (zs zf15 2 5 ++ [(eN (1 + ((fr % ((1000 : Nat) : Int)).toNat))), (ptr g0 0)] ++ (zs zf15 9 6 ++ [(Value.agg #[(eN 7), (eN 10), (eN 6)]), (eI wh), (eN ((wh % ((6 : Nat) : Int)).toNat)), (Value.bool (decide (((wh % ((6 : Nat) : Int)).toNat) = 0))), (Value.bool (decide (((wh % ((6 : Nat) : Int)).toNat) = 0))), (zf15 20), (zf15 21), (zf15 22), (Value.bool (decide (((wh % ((6 : Nat) : Int)).toNat) = 1))), (Value.bool (decide (((wh % ((6 : Nat) : Int)).toNat) = 1))), (zf15 25), (zf15 26), (zf15 27), (Value.bool (decide (((wh % ((6 : Nat) : Int)).toNat) = 2))), (Value.bool (decide (((wh % ((6 : Nat) : Int)).toNat) = 2)))] ++ (zs zf15 30 38 ++ (us 19))))) ?_
  refine wpL.done ?_
  refine then_n ?_
  refine forget (fun zf53 => ([(zf53 0), (Value.bool ab)] ++ (zs zf53 2 5 ++ [(eN (1 + ((fr % ((1000 : Nat) : Int)).toNat))), (ptr g0 0)] ++ (zs zf53 9 8 ++ [(eN ((wh % ((6 : Nat) : Int)).toNat))] ++ (zs zf53 18 10 ++ [(Value.bool (decide (((wh % ((6 : Nat) : Int)).toNat) = 2)))] ++ (zs zf53 29 39 ++ (us 19))))))) (by kernel_rfl) (fun zf53 => ?_)
  refine cond_if rfl (fun c54 => ?_) (fun c54 => ?_)
  ·
   refine plain ?_
   refine wI (d_move rfl) ?_
   refine wI (n_add (a := 12) (b := (1 + ((fr % ((1000 : Nat) : Int)).toNat))) rfl rfl (by omega)) ?_
   refine wI (d_fieldAddr (j := 1) Try.underlying25 rfl s_ti3 (by decide) rfl rfl) ?_
   refine wF ([(zf53 0), (Value.bool ab)] ++ (zs zf53 2 5 ++ [(eN (1 + ((fr % ((1000 : Nat) : Int)).toNat))), (ptr g0 0)] ++ (zs zf53 9 8 ++ [(eN ((wh % ((6 : Nat) : Int)).toNat))] ++ (zs zf53 18 10 ++ [(Value.bool (decide (((wh % ((6 : Nat) : Int)).toNat) = 2))), (zf53 29), (eN (1 + ((fr % ((1000 : Nat) : Int)).toNat))), (eN (12 + (1 + ((fr % ((1000 : Nat) : Int)).toNat)))), (ptr g0 1)] ++ (zs zf53 33 35 ++ (us 19)))))) ?_
   refine wO (d_store s_ti3 rfl rfl rfl a21 (nb rfl) rfl) ?_
   rintro _ w55 ⟨a56, o57⟩
   replace oW := oW.tailb o57 g_oW_g0
   refine wF ([(zf53 0), (Value.bool ab)] ++ (zs zf53 2 5 ++ [(eN (1 + ((fr % ((1000 : Nat) : Int)).toNat))), (ptr g0 0)] ++ (zs zf53 9 8 ++ [(eN ((wh % ((6 : Nat) : Int)).toNat))] ++ (zs zf53 18 10 ++ [(Value.bool (decide (((wh % ((6 : Nat) : Int)).toNat) = 2))), (zf53 29), (eN (1 + ((fr % ((1000 : Nat) : Int)).toNat))), (eN (12 + (1 + ((fr % ((1000 : Nat) : Int)).toNat)))), (ptr g0 1)] ++ (zs zf53 33 35 ++ (us 19)))))) ?_
   refine wpL.done ?_
   refine inb_n (then_n ?_)
   refine wpIn_seq ?_
   refine wpIn_seq ?_
   refine plain ?_
   refine wI (d_move rfl) ?_
   refine wF ([(zf53 0), (Value.bool ab)] ++ (zs zf53 2 5 ++ [(eN (1 + ((fr % ((1000 : Nat) : Int)).toNat))), (ptr g0 0)] ++ (zs zf53 9 8 ++ [(eN ((wh % ((6 : Nat) : Int)).toNat))] ++ (zs zf53 18 10 ++ [(Value.bool (decide (((wh % ((6 : Nat) : Int)).toNat) = 2))), (zf53 29), (eN (1 + ((fr % ((1000 : Nat) : Int)).toNat))), (eN (12 + (1 + ((fr % ((1000 : Nat) : Int)).toNat)))), (ptr g0 1)] ++ (zs zf53 33 15 ++ [(Value.bool ab)] ++ (zs zf53 49 19 ++ (us 19))))))) ?_
   refine wpL.done ?_
   refine then_n ?_
   refine cond_t (congrArg Value.bool c1) ?_
   refine wpIn_seq ?_
   refine plain ?_
   refine wI (d_loadAg (vs := [(eN 7), (eN (12 + (1 + ((fr % ((1000 : Nat) : Int)).toNat)))), (eN 6)]) ⟨_, Try.underlying25, rfl⟩ s_ti25 rfl a56 rfl rfl) ?_
   refine wO (d_call (xl := [.tmp 49]) (al := [(Value.agg #[(eN 7), (eN (12 + (1 + ((fr % ((1000 : Nat) : Int)).toNat)))), (eN 6)])]) Try.func33 (by kernel_rfl) rfl rfl rfl (cw_is (v' := eN 1) (gCheck_ok 7 ((12 + (1 + ((fr % ((1000 : Nat) : Int)).toNat)) : Nat) : Int) 6 _) (by rw [(show fitsI 7 ((12 + (1 + ((fr % ((1000 : Nat) : Int)).toNat)) : Nat) : Int) 6 = false from (fits_no (by omega)).symm)] <;> rfl))) ?_
   rintro _ w58 ⟨rfl, o59⟩
   replace a56 := a56.step0 o59
   replace oW := oW.tail0 o59
   refine wI (n_eql (a := 1) (b := 1) rfl rfl (decide_eq_true rfl)) ?_
   refine wF ([(zf53 0), (Value.bool ab)] ++ (zs zf53 2 5 ++ [(eN (1 + ((fr % ((1000 : Nat) : Int)).toNat))), (ptr g0 0)] ++ (zs zf53 9 8 ++ [(eN ((wh % ((6 : Nat) : Int)).toNat))] ++ (zs zf53 18 10 ++ [(Value.bool (decide (((wh % ((6 : Nat) : Int)).toNat) = 2))), (zf53 29), (eN (1 + ((fr % ((1000 : Nat) : Int)).toNat))), (eN (12 + (1 + ((fr % ((1000 : Nat) : Int)).toNat)))), (ptr g0 1)] ++ (zs zf53 33 15 ++ [(Value.bool ab), (Value.agg #[(eN 7), (eN (12 + (1 + ((fr % ((1000 : Nat) : Int)).toNat)))), (eN 6)]), (eN 1), (Value.bool true)] ++ (zs zf53 52 16 ++ (us 19))))))) ?_
   refine wI (d_move rfl) ?_
   refine wpL.onis rfl rfl rfl (nb rfl) rfl (d_loadAg (vs := [(eN 7), (eN (12 + (1 + ((fr % ((1000 : Nat) : Int)).toNat)))), (eN 6)]) ⟨_, Try.underlying25, rfl⟩ s_ti25 rfl a56 rfl rfl) ?_
   refine wpL.on rfl rfl rfl (nb rfl) rfl (d_call (xl := [.tmp 53, .const (.slice none 0 0)]) (al := [(Value.agg #[(eN 7), (eN (12 + (1 + ((fr % ((1000 : Nat) : Int)).toNat)))), (eN 6)]), (Value.slice none 0 0)]) Try.func31 (by kernel_rfl) rfl rfl rfl (superso_ok 7 ((12 + (1 + ((fr % ((1000 : Nat) : Int)).toNat)) : Nat) : Int) 6 (Value.slice none 0 0) _ (show fitsI 7 ((12 + (1 + ((fr % ((1000 : Nat) : Int)).toNat)) : Nat) : Int) 6 = false from (fits_no (by omega)).symm))) ?_
   rintro _ w60 ⟨rfl, o61⟩
   replace a56 := a56.step0 o61
   replace oW := oW.tail0 o61
   refine wF ([(zf53 0), (Value.bool ab)] ++ (zs zf53 2 5 ++ [(eN (1 + ((fr % ((1000 : Nat) : Int)).toNat))), (ptr g0 0)] ++ (zs zf53 9 8 ++ [(eN ((wh % ((6 : Nat) : Int)).toNat))] ++ (zs zf53 18 10 ++ [(Value.bool (decide (((wh % ((6 : Nat) : Int)).toNat) = 2))), (zf53 29), (eN (1 + ((fr % ((1000 : Nat) : Int)).toNat))), (eN (12 + (1 + ((fr % ((1000 : Nat) : Int)).toNat)))), (ptr g0 1)] ++ (zs zf53 33 15 ++ [(Value.bool ab), (Value.agg #[(eN 7), (eN (12 + (1 + ((fr % ((1000 : Nat) : Int)).toNat)))), (eN 6)]), (eN 1), (Value.bool true), (Value.bool true), (Value.agg #[(eN 7), (eN (12 + (1 + ((fr % ((1000 : Nat) : Int)).toNat)))), (eN 6)]), (Value.slice none 0 0)] ++ (zs zf53 55 13 ++ (us 19))))))) ?_
   refine wpL.onis rfl rfl rfl (nb rfl) rfl (d_len rfl Try.underlying47 rfl) ?_
   refine wpL.onis rfl rfl rfl (nb rfl) rfl (n_eql (a := 0) (b := 0) rfl rfl (decide_eq_true rfl)) ?_
   refine wI (d_pick (b := true) (v := (Value.bool true)) rfl rfl) ?_
   refine wF ([(zf53 0), (Value.bool ab)] ++ (zs zf53 2 5 ++ [(eN (1 + ((fr % ((1000 : Nat) : Int)).toNat))), (ptr g0 0)] ++ (zs zf53 9 8 ++ [(eN ((wh % ((6 : Nat) : Int)).toNat))] ++ (zs zf53 18 10 ++ [(Value.bool (decide (((wh % ((6 : Nat) : Int)).toNat) = 2))), (zf53 29), (eN (1 + ((fr % ((1000 : Nat) : Int)).toNat))), (eN (12 + (1 + ((fr % ((1000 : Nat) : Int)).toNat)))), (ptr g0 1)] ++ (zs zf53 33 15 ++ [(Value.bool ab), (Value.agg #[(eN 7), (eN (12 + (1 + ((fr % ((1000 : Nat) : Int)).toNat)))), (eN 6)]), (eN 1), (Value.bool true), (Value.bool true), (Value.agg #[(eN 7), (eN (12 + (1 + ((fr % ((1000 : Nat) : Int)).toNat)))), (eN 6)]), (Value.slice none 0 0), (eN 0), (Value.bool true), (Value.bool true)] ++ (zs zf53 58 10 ++ (us 19))))))) ?_
   refine wI (d_move rfl) ?_
   refine wpL.onis rfl rfl rfl (nb rfl) rfl (d_loadAg (vs := [(eN 7), (eN (12 + (1 + ((fr % ((1000 : Nat) : Int)).toNat)))), (eN 6)]) ⟨_, Try.underlying25, rfl⟩ s_ti25 rfl a56 rfl rfl) ?_
   refine wpL.on rfl rfl rfl (nb rfl) rfl (d_call (xl := [.tmp 59, .const (.int .i64 8)]) (al := [(Value.agg #[(eN 7), (eN (12 + (1 + ((fr % ((1000 : Nat) : Int)).toNat)))), (eN 6)]), (eN 8)]) Try.func17 (by kernel_rfl) rfl rfl rfl (cw_is (gSectors_ok 7 ((12 + (1 + ((fr % ((1000 : Nat) : Int)).toNat)) : Nat) : Int) 6 8 _) (congrArg eI (gsec_no (fun h_ => absurd h_.1 (Bool.eq_false_iff.1 (show fitsI 7 ((12 + (1 + ((fr % ((1000 : Nat) : Int)).toNat)) : Nat) : Int) 6 = false from (fits_no (by omega)).symm))))))) ?_
   rintro _ w62 ⟨rfl, o63⟩
   replace a56 := a56.step0 o63
   replace oW := oW.tail0 o63
   refine wF ([(zf53 0), (Value.bool ab)] ++ (zs zf53 2 5 ++ [(eN (1 + ((fr % ((1000 : Nat) : Int)).toNat))), (ptr g0 0)] ++ (zs zf53 9 8 ++ [(eN ((wh % ((6 : Nat) : Int)).toNat))] ++ (zs zf53 18 10 ++ [(Value.bool (decide (((wh % ((6 : Nat) : Int)).toNat) = 2))), (zf53 29), (eN (1 + ((fr % ((1000 : Nat) : Int)).toNat))), (eN (12 + (1 + ((fr % ((1000 : Nat) : Int)).toNat)))), (ptr g0 1)] ++ (zs zf53 33 15 ++ [(Value.bool ab), (Value.agg #[(eN 7), (eN (12 + (1 + ((fr % ((1000 : Nat) : Int)).toNat)))), (eN 6)]), (eN 1), (Value.bool true), (Value.bool true), (Value.agg #[(eN 7), (eN (12 + (1 + ((fr % ((1000 : Nat) : Int)).toNat)))), (eN 6)]), (Value.slice none 0 0), (eN 0), (Value.bool true), (Value.bool true), (Value.bool true), (Value.agg #[(eN 7), (eN (12 + (1 + ((fr % ((1000 : Nat) : Int)).toNat)))), (eN 6)]), (eN 0)] ++ (zs zf53 61 7 ++ (us 19))))))) ?_
   refine wpL.onis rfl rfl rfl (nb rfl) rfl (n_eql (a := 0) (b := 0) rfl rfl (decide_eq_true rfl)) ?_
   refine wI (d_pick (b := true) (v := (Value.bool true)) rfl rfl) ?_
   refine wI (d_move rfl) ?_
   refine wF ([(zf53 0), (Value.bool ab)] ++ (zs zf53 2 5 ++ [(eN (1 + ((fr % ((1000 : Nat) : Int)).toNat))), (ptr g0 0)] ++ (zs zf53 9 8 ++ [(eN ((wh % ((6 : Nat) : Int)).toNat))] ++ (zs zf53 18 10 ++ [(Value.bool (decide (((wh % ((6 : Nat) : Int)).toNat) = 2))), (zf53 29), (eN (1 + ((fr % ((1000 : Nat) : Int)).toNat))), (eN (12 + (1 + ((fr % ((1000 : Nat) : Int)).toNat)))), (ptr g0 1)] ++ (zs zf53 33 15 ++ [(Value.bool ab), (Value.agg #[(eN 7), (eN (12 + (1 + ((fr % ((1000 : Nat) : Int)).toNat)))), (eN 6)]), (eN 1), (Value.bool true), (Value.bool true), (Value.agg #[(eN 7), (eN (12 + (1 + ((fr % ((1000 : Nat) : Int)).toNat)))), (eN 6)]), (Value.slice none 0 0), (eN 0), (Value.bool true), (Value.bool true), (Value.bool true), (Value.agg #[(eN 7), (eN (12 + (1 + ((fr % ((1000 : Nat) : Int)).toNat)))), (eN 6)]), (eN 0), (Value.bool true), (Value.bool true), (Value.bool true), (zf53 64), (zf53 65), (zf53 66), (zf53 67)] ++ (us 19)))))) ?_
   refine wpL.onis rfl rfl rfl (nb rfl) rfl (d_loadAg (vs := [(eN 7), (eN (12 + (1 + ((fr % ((1000 : Nat) : Int)).toNat)))), (eN 6)]) ⟨_, Try.underlying25, rfl⟩ s_ti25 rfl a56 rfl rfl) ?_
   refine wpL.on rfl rfl rfl (nb rfl) rfl (d_call (xl := [.tmp 64]) (al := [(Value.agg #[(eN 7), (eN (12 + (1 + ((fr % ((1000 : Nat) : Int)).toNat)))), (eN 6)])]) Try.func35 (by kernel_rfl) rfl rfl rfl (cw_is (gSlots_ok 7 ((12 + (1 + ((fr % ((1000 : Nat) : Int)).toNat)) : Nat) : Int) 6 _) (congrArg eI (if_neg (Bool.eq_false_iff.1 (show fitsI 7 ((12 + (1 + ((fr % ((1000 : Nat) : Int)).toNat)) : Nat) : Int) 6 = false from (fits_no (by omega)).symm)))))) ?_
   rintro _ w64 ⟨rfl, o65⟩
   replace a56 := a56.step0 o65
   replace oW := oW.tail0 o65
   refine wpL.onis rfl rfl rfl (nb rfl) rfl (n_eql (a := 0) (b := 0) rfl rfl (decide_eq_true rfl)) ?_
   refine wF ([(zf53 0), (Value.bool ab)] ++ (zs zf53 2 5 ++ [(eN (1 + ((fr % ((1000 : Nat) : Int)).toNat))), (ptr g0 0)] ++ (zs zf53 9 8 ++ [(eN ((wh % ((6 : Nat) : Int)).toNat))] ++ (zs zf53 18 10 ++ [(Value.bool (decide (((wh % ((6 : Nat) : Int)).toNat) = 2))), (zf53 29), (eN (1 + ((fr % ((1000 : Nat) : Int)).toNat))), (eN (12 + (1 + ((fr % ((1000 : Nat) : Int)).toNat)))), (ptr g0 1)] ++ (zs zf53 33 15 ++ [(Value.bool ab), (Value.agg #[(eN 7), (eN (12 + (1 + ((fr % ((1000 : Nat) : Int)).toNat)))), (eN 6)]), (eN 1), (Value.bool true), (Value.bool true), (Value.agg #[(eN 7), (eN (12 + (1 + ((fr % ((1000 : Nat) : Int)).toNat)))), (eN 6)]), (Value.slice none 0 0), (eN 0), (Value.bool true), (Value.bool true), (Value.bool true), (Value.agg #[(eN 7), (eN (12 + (1 + ((fr % ((1000 : Nat) : Int)).toNat)))), (eN 6)]), (eN 0), (Value.bool true), (Value.bool true), (Value.bool true), (Value.agg #[(eN 7), (eN (12 + (1 + ((fr % ((1000 : Nat) : Int)).toNat)))), (eN 6)]), (eN 0), (Value.bool true), (zf53 67)] ++ (us 19)))))) ?_
   refine wI (d_pick (b := true) (v := (Value.bool true)) rfl rfl) ?_
   refine wI (d_assign rfl) ?_
   refine wF ([(zf53 0), (Value.bool ab), (zf53 2), (zf53 3), (zf53 4), (zf53 5), (Value.bool true), (eN (1 + ((fr % ((1000 : Nat) : Int)).toNat))), (ptr g0 0)] ++ (zs zf53 9 8 ++ [(eN ((wh % ((6 : Nat) : Int)).toNat))] ++ (zs zf53 18 10 ++ [(Value.bool (decide (((wh % ((6 : Nat) : Int)).toNat) = 2))), (zf53 29), (eN (1 + ((fr % ((1000 : Nat) : Int)).toNat))), (eN (12 + (1 + ((fr % ((1000 : Nat) : Int)).toNat)))), (ptr g0 1)] ++ (zs zf53 33 15 ++ [(Value.bool ab), (Value.agg #[(eN 7), (eN (12 + (1 + ((fr % ((1000 : Nat) : Int)).toNat)))), (eN 6)]), (eN 1), (Value.bool true), (Value.bool true), (Value.agg #[(eN 7), (eN (12 + (1 + ((fr % ((1000 : Nat) : Int)).toNat)))), (eN 6)]), (Value.slice none 0 0), (eN 0), (Value.bool true), (Value.bool true), (Value.bool true), (Value.agg #[(eN 7), (eN (12 + (1 + ((fr % ((1000 : Nat) : Int)).toNat)))), (eN 6)]), (eN 0), (Value.bool true), (Value.bool true), (Value.bool true), (Value.agg #[(eN 7), (eN (12 + (1 + ((fr % ((1000 : Nat) : Int)).toNat)))), (eN 6)]), (eN 0), (Value.bool true), (Value.bool true)] ++ (us 19))))) ?_
   refine wpL.done ?_
   refine then_n ?_
   refine forget (fun zf66 => (zs zf66 0 6 ++ [(Value.bool true)] ++ (zs zf66 7 80))) (by kernel_rfl) (fun zf66 => ?_)
   refine wpIn_ret ?_
   refine then_r ?_
   refine leave0 (v := (Value.bool true)) (res1 Try.results13 rfl) ?_
   exact ⟨rfl, oW⟩
  refine wpIn_seq ?_
  refine plain ?_
  refine wI (n_eql (a := ((wh % ((6 : Nat) : Int)).toNat)) (b := 3) rfl rfl rfl) ?_
  refine wI (d_assign rfl) ?_
  refine wF ([(zf53 0), (Value.bool ab)] ++ (zs zf53 2 5 ++ [(eN (1 + ((fr % ((1000 : Nat) : Int)).toNat))), (ptr g0 0)] ++ (zs zf53 9 8 ++ [(eN ((wh % ((6 : Nat) : Int)).toNat))] ++ (zs zf53 18 10 ++ [(Value.bool (decide (((wh % ((6 : Nat) : Int)).toNat) = 2))), (zf53 29), (zf53 30), (zf53 31), (zf53 32), (Value.bool (decide (((wh % ((6 : Nat) : Int)).toNat) = 3))), (Value.bool (decide (((wh % ((6 : Nat) : Int)).toNat) = 3)))] ++ (zs zf53 35 33 ++ (us 19)))))) ?_
  refine wpL.done ?_
  refine then_n ?_
  refine cond_if rfl (fun c67 => ?_) (fun c67 => ?_)
  ·
   refine plain ?_
   refine wI (d_move rfl) ?_
   refine wI (d_sub (k := .i64) (m := 8) (n := ((1 + ((fr % ((1000 : Nat) : Int)).toNat) : Nat) : Int)) rfl rfl (r := ((8 : Nat) : Int) - ((1 + (fr % ((1000 : Nat) : Int)).toNat : Nat) : Int)) (IntWalk.i64_in _ (by omega))) ?_
   refine wI (d_fieldAddr (j := 1) Try.underlying25 rfl s_ti3 (by decide) rfl rfl) ?_
   refine wF ([(zf53 0), (Value.bool ab)] ++ (zs zf53 2 5 ++ [(eN (1 + ((fr % ((1000 : Nat) : Int)).toNat))), (ptr g0 0)] ++ (zs zf53 9 8 ++ [(eN ((wh % ((6 : Nat) : Int)).toNat))] ++ (zs zf53 18 10 ++ [(Value.bool (decide (((wh % ((6 : Nat) : Int)).toNat) = 2))), (zf53 29), (zf53 30), (zf53 31), (zf53 32), (Value.bool (decide (((wh % ((6 : Nat) : Int)).toNat) = 3))), (Value.bool (decide (((wh % ((6 : Nat) : Int)).toNat) = 3))), (eN (1 + ((fr % ((1000 : Nat) : Int)).toNat))), (eI (((8 : Nat) : Int) - ((1 + (fr % ((1000 : Nat) : Int)).toNat : Nat) : Int))), (ptr g0 1)] ++ (zs zf53 38 30 ++ (us 19)))))) ?_
   refine wO (d_store s_ti3 rfl rfl rfl a21 (nb rfl) rfl) ?_
   rintro _ w68 ⟨a69, o70⟩
   replace oW := oW.tailb o70 g_oW_g0
   refine wF ([(zf53 0), (Value.bool ab)] ++ (zs zf53 2 5 ++ [(eN (1 + ((fr % ((1000 : Nat) : Int)).toNat))), (ptr g0 0)] ++ (zs zf53 9 8 ++ [(eN ((wh % ((6 : Nat) : Int)).toNat))] ++ (zs zf53 18 10 ++ [(Value.bool (decide (((wh % ((6 : Nat) : Int)).toNat) = 2))), (zf53 29), (zf53 30), (zf53 31), (zf53 32), (Value.bool (decide (((wh % ((6 : Nat) : Int)).toNat) = 3))), (Value.bool (decide (((wh % ((6 : Nat) : Int)).toNat) = 3))), (eN (1 + ((fr % ((1000 : Nat) : Int)).toNat))), (eI (((8 : Nat) : Int) - ((1 + (fr % ((1000 : Nat) : Int)).toNat : Nat) : Int))), (ptr g0 1)] ++ (zs zf53 38 30 ++ (us 19)))))) ?_
   refine wpL.done ?_
   refine inb_n (then_n ?_)
   refine forget (fun zf71 => ([(zf71 0), (Value.bool ab)] ++ (zs zf71 2 6 ++ [(ptr g0 0)] ++ (zs zf71 9 59 ++ (us 19))))) (by kernel_rfl) (fun zf71 => ?_)
   refine wpIn_seq ?_
   refine wpIn_seq ?_
   refine plain ?_
   refine wI (d_move rfl) ?_
   refine wF ([(zf71 0), (Value.bool ab)] ++ (zs zf71 2 6 ++ [(ptr g0 0)] ++ (zs zf71 9 39 ++ [(Value.bool ab)] ++ (zs zf71 49 19 ++ (us 19))))) ?_
   refine wpL.done ?_
   refine then_n ?_
   refine cond_t (congrArg Value.bool c1) ?_
   refine wpIn_seq ?_
   refine plain ?_
   refine wI (d_loadAg (vs := [(eN 7), (eI (((8 : Nat) : Int) - ((1 + (fr % ((1000 : Nat) : Int)).toNat : Nat) : Int))), (eN 6)]) ⟨_, Try.underlying25, rfl⟩ s_ti25 rfl a69 rfl rfl) ?_
   refine wO (d_call (xl := [.tmp 49]) (al := [(Value.agg #[(eN 7), (eI (((8 : Nat) : Int) - ((1 + (fr % ((1000 : Nat) : Int)).toNat : Nat) : Int))), (eN 6)])]) Try.func33 (by kernel_rfl) rfl rfl rfl (cw_is (v' := eN 1) (gCheck_ok 7 (((8 : Nat) : Int) - ((1 + (fr % ((1000 : Nat) : Int)).toNat : Nat) : Int)) 6 _) (by rw [(show fitsI 7 (((8 : Nat) : Int) - ((1 + (fr % ((1000 : Nat) : Int)).toNat : Nat) : Int)) 6 = false from (fits_no (by omega)).symm)] <;> rfl))) ?_
   rintro _ w72 ⟨rfl, o73⟩
   replace a69 := a69.step0 o73
   replace oW := oW.tail0 o73
   refine wI (n_eql (a := 1) (b := 1) rfl rfl (decide_eq_true rfl)) ?_
   refine wF ([(zf71 0), (Value.bool ab)] ++ (zs zf71 2 6 ++ [(ptr g0 0)] ++ (zs zf71 9 39 ++ [(Value.bool ab), (Value.agg #[(eN 7), (eI (((8 : Nat) : Int) - ((1 + (fr % ((1000 : Nat) : Int)).toNat : Nat) : Int))), (eN 6)]), (eN 1), (Value.bool true)] ++ (zs zf71 52 16 ++ (us 19))))) ?_
   refine wI (d_move rfl) ?_
   refine wpL.onis rfl rfl rfl (nb rfl) rfl (d_loadAg (vs := [(eN 7), (eI (((8 : Nat) : Int) - ((1 + (fr % ((1000 : Nat) : Int)).toNat : Nat) : Int))), (eN 6)]) ⟨_, Try.underlying25, rfl⟩ s_ti25 rfl a69 rfl rfl) ?_
   refine wpL.on rfl rfl rfl (nb rfl) rfl (d_call (xl := [.tmp 53, .const (.slice none 0 0)]) (al := [(Value.agg #[(eN 7), (eI (((8 : Nat) : Int) - ((1 + (fr % ((1000 : Nat) : Int)).toNat : Nat) : Int))), (eN 6)]), (Value.slice none 0 0)]) Try.func31 (by kernel_rfl) rfl rfl rfl (superso_ok 7 (((8 : Nat) : Int) - ((1 + (fr % ((1000 : Nat) : Int)).toNat : Nat) : Int)) 6 (Value.slice none 0 0) _ (show fitsI 7 (((8 : Nat) : Int) - ((1 + (fr % ((1000 : Nat) : Int)).toNat : Nat) : Int)) 6 = false from (fits_no (by omega)).symm))) ?_
   rintro _ w74 ⟨rfl, o75⟩
   replace a69 := a69.step0 o75
   replace oW := oW.tail0 o75
   refine wF ([(zf71 0), (Value.bool ab)] ++ (zs zf71 2 6 ++ [(ptr g0 0)] ++ (zs zf71 9 39 ++ [(Value.bool ab), (Value.agg #[(eN 7), (eI (((8 : Nat) : Int) - ((1 + (fr % ((1000 : Nat) : Int)).toNat : Nat) : Int))), (eN 6)]), (eN 1), (Value.bool true), (Value.bool true), (Value.agg #[(eN 7), (eI (((8 : Nat) : Int) - ((1 + (fr % ((1000 : Nat) : Int)).toNat : Nat) : Int))), (eN 6)]), (Value.slice none 0 0)] ++ (zs zf71 55 13 ++ (us 19))))) ?_
   refine wpL.onis rfl rfl rfl (nb rfl) rfl (d_len rfl Try.underlying47 rfl) ?_
   refine wpL.onis rfl rfl rfl (nb rfl) rfl (n_eql (a := 0) (b := 0) rfl rfl (decide_eq_true rfl)) ?_
   refine wI (d_pick (b := true) (v := (Value.bool true)) rfl rfl) ?_
   refine wF ([(zf71 0), (Value.bool ab)] ++ (zs zf71 2 6 ++ [(ptr g0 0)] ++ (zs zf71 9 39 ++ [(Value.bool ab), (Value.agg #[(eN 7), (eI (((8 : Nat) : Int) - ((1 + (fr % ((1000 : Nat) : Int)).toNat : Nat) : Int))), (eN 6)]), (eN 1), (Value.bool true), (Value.bool true), (Value.agg #[(eN 7), (eI (((8 : Nat) : Int) - ((1 + (fr % ((1000 : Nat) : Int)).toNat : Nat) : Int))), (eN 6)]), (Value.slice none 0 0), (eN 0), (Value.bool true), (Value.bool true)] ++ (zs zf71 58 10 ++ (us 19))))) ?_
   refine wI (d_move rfl) ?_
   refine wpL.onis rfl rfl rfl (nb rfl) rfl (d_loadAg (vs := [(eN 7), (eI (((8 : Nat) : Int) - ((1 + (fr % ((1000 : Nat) : Int)).toNat : Nat) : Int))), (eN 6)]) ⟨_, Try.underlying25, rfl⟩ s_ti25 rfl a69 rfl rfl) ?_
   refine wpL.on rfl rfl rfl (nb rfl) rfl (d_call (xl := [.tmp 59, .const (.int .i64 8)]) (al := [(Value.agg #[(eN 7), (eI (((8 : Nat) : Int) - ((1 + (fr % ((1000 : Nat) : Int)).toNat : Nat) : Int))), (eN 6)]), (eN 8)]) Try.func17 (by kernel_rfl) rfl rfl rfl (cw_is (gSectors_ok 7 (((8 : Nat) : Int) - ((1 + (fr % ((1000 : Nat) : Int)).toNat : Nat) : Int)) 6 8 _) (congrArg eI (gsec_no (fun h_ => absurd h_.1 (Bool.eq_false_iff.1 (show fitsI 7 (((8 : Nat) : Int) - ((1 + (fr % ((1000 : Nat) : Int)).toNat : Nat) : Int)) 6 = false from (fits_no (by omega)).symm))))))) ?_
   rintro _ w76 ⟨rfl, o77⟩
   replace a69 := a69.step0 o77
   replace oW := oW.tail0 o77
   refine wF ([(zf71 0), (Value.bool ab)] ++ (zs zf71 2 6 ++ [(ptr g0 0)] ++ (zs zf71 9 39 ++ [(Value.bool ab), (Value.agg #[(eN 7), (eI (((8 : Nat) : Int) - ((1 + (fr % ((1000 : Nat) : Int)).toNat : Nat) : Int))), (eN 6)]), (eN 1), (Value.bool true), (Value.bool true), (Value.agg #[(eN 7), (eI (((8 : Nat) : Int) - ((1 + (fr % ((1000 : Nat) : Int)).toNat : Nat) : Int))), (eN 6)]), (Value.slice none 0 0), (eN 0), (Value.bool true), (Value.bool true), (Value.bool true), (Value.agg #[(eN 7), (eI (((8 : Nat) : Int) - ((1 + (fr % ((1000 : Nat) : Int)).toNat : Nat) : Int))), (eN 6)]), (eN 0)] ++ (zs zf71 61 7 ++ (us 19))))) ?_
   refine wpL.onis rfl rfl rfl (nb rfl) rfl (n_eql (a := 0) (b := 0) rfl rfl (decide_eq_true rfl)) ?_
   refine wI (d_pick (b := true) (v := (Value.bool true)) rfl rfl) ?_
   refine wI (d_move rfl) ?_
   refine wF ([(zf71 0), (Value.bool ab)] ++ (zs zf71 2 6 ++ [(ptr g0 0)] ++ (zs zf71 9 39 ++ [(Value.bool ab), (Value.agg #[(eN 7), (eI (((8 : Nat) : Int) - ((1 + (fr % ((1000 : Nat) : Int)).toNat : Nat) : Int))), (eN 6)]), (eN 1), (Value.bool true), (Value.bool true), (Value.agg #[(eN 7), (eI (((8 : Nat) : Int) - ((1 + (fr % ((1000 : Nat) : Int)).toNat : Nat) : Int))), (eN 6)]), (Value.slice none 0 0), (eN 0), (Value.bool true), (Value.bool true), (Value.bool true), (Value.agg #[(eN 7), (eI (((8 : Nat) : Int) - ((1 + (fr % ((1000 : Nat) : Int)).toNat : Nat) : Int))), (eN 6)]), (eN 0), (Value.bool true), (Value.bool true), (Value.bool true), (zf71 64), (zf71 65), (zf71 66), (zf71 67)] ++ (us 19)))) ?_
   refine wpL.onis rfl rfl rfl (nb rfl) rfl (d_loadAg (vs := [(eN 7), (eI (((8 : Nat) : Int) - ((1 + (fr % ((1000 : Nat) : Int)).toNat : Nat) : Int))), (eN 6)]) ⟨_, Try.underlying25, rfl⟩ s_ti25 rfl a69 rfl rfl) ?_
   refine wpL.on rfl rfl rfl (nb rfl) rfl (d_call (xl := [.tmp 64]) (al := [(Value.agg #[(eN 7), (eI (((8 : Nat) : Int) - ((1 + (fr % ((1000 : Nat) : Int)).toNat : Nat) : Int))), (eN 6)])]) Try.func35 (by kernel_rfl) rfl rfl rfl (cw_is (gSlots_ok 7 (((8 : Nat) : Int) - ((1 + (fr % ((1000 : Nat) : Int)).toNat : Nat) : Int)) 6 _) (congrArg eI (if_neg (Bool.eq_false_iff.1 (show fitsI 7 (((8 : Nat) : Int) - ((1 + (fr % ((1000 : Nat) : Int)).toNat : Nat) : Int)) 6 = false from (fits_no (by omega)).symm)))))) ?_
   rintro _ w78 ⟨rfl, o79⟩
   replace a69 := a69.step0 o79
   replace oW := oW.tail0 o79
   refine wpL.onis rfl rfl rfl (nb rfl) rfl (n_eql (a := 0) (b := 0) rfl rfl (decide_eq_true rfl)) ?_
   refine wF ([(zf71 0), (Value.bool ab)] ++ (zs zf71 2 6 ++ [(ptr g0 0)] ++ (zs zf71 9 39 ++ [(Value.bool ab), (Value.agg #[(eN 7), (eI (((8 : Nat) : Int) - ((1 + (fr % ((1000 : Nat) : Int)).toNat : Nat) : Int))), (eN 6)]), (eN 1), (Value.bool true), (Value.bool true), (Value.agg #[(eN 7), (eI (((8 : Nat) : Int) - ((1 + (fr % ((1000 : Nat) : Int)).toNat : Nat) : Int))), (eN 6)]), (Value.slice none 0 0), (eN 0), (Value.bool true), (Value.bool true), (Value.bool true), (Value.agg #[(eN 7), (eI (((8 : Nat) : Int) - ((1 + (fr % ((1000 : Nat) : Int)).toNat : Nat) : Int))), (eN 6)]), (eN 0), (Value.bool true), (Value.bool true), (Value.bool true), (Value.agg #[(eN 7), (eI (((8 : Nat) : Int) - ((1 + (fr % ((1000 : Nat) : Int)).toNat : Nat) : Int))), (eN 6)]), (eN 0), (Value.bool true), (zf71 67)] ++ (us 19)))) ?_
   refine wI (d_pick (b := true) (v := (Value.bool true)) rfl rfl) ?_
   refine wI (d_assign rfl) ?_
   refine wF ([(zf71 0), (Value.bool ab), (zf71 2), (zf71 3), (zf71 4), (zf71 5), (Value.bool true), (zf71 7), (ptr g0 0)] ++ (zs zf71 9 39 ++ [(Value.bool ab), (Value.agg #[(eN 7), (eI (((8 : Nat) : Int) - ((1 + (fr % ((1000 : Nat) : Int)).toNat : Nat) : Int))), (eN 6)]), (eN 1), (Value.bool true), (Value.bool true), (Value.agg #[(eN 7), (eI (((8 : Nat) : Int) - ((1 + (fr % ((1000 : Nat) : Int)).toNat : Nat) : Int))), (eN 6)]), (Value.slice none 0 0), (eN 0), (Value.bool true), (Value.bool true), (Value.bool true), (Value.agg #[(eN 7), (eI (((8 : Nat) : Int) - ((1 + (fr % ((1000 : Nat) : Int)).toNat : Nat) : Int))), (eN 6)]), (eN 0), (Value.bool true), (Value.bool true), (Value.bool true), (Value.agg #[(eN 7), (eI (((8 : Nat) : Int) - ((1 + (fr % ((1000 : Nat) : Int)).toNat : Nat) : Int))), (eN 6)]), (eN 0), (Value.bool true), (Value.bool true)] ++ (us 19))) ?_
   refine wpL.done ?_
   refine then_n ?_
   refine forget (fun zf80 => (zs zf80 0 6 ++ [(Value.bool true)] ++ (zs zf80 7 80))) (by kernel_rfl) (fun zf80 => ?_)
   refine wpIn_ret ?_
   refine then_r ?_
   refine leave0 (v := (Value.bool true)) (res1 Try.results13 rfl) ?_
   exact ⟨rfl, oW⟩
  refine wpIn_seq ?_
  refine plain ?_
  refine wI (n_eql (a := ((wh % ((6 : Nat) : Int)).toNat)) (b := 4) rfl rfl rfl) ?_
  refine wI (d_assign rfl) ?_
  refine wF ([(zf53 0), (Value.bool ab)] ++ (zs zf53 2 5 ++ [(eN (1 + ((fr % ((1000 : Nat) : Int)).toNat))), (ptr g0 0)] ++ (zs zf53 9 8 ++ [(eN ((wh % ((6 : Nat) : Int)).toNat))] ++ (zs zf53 18 10 ++ [(Value.bool (decide (((wh % ((6 : Nat) : Int)).toNat) = 2))), (zf53 29), (zf53 30), (zf53 31), (zf53 32), (Value.bool (decide (((wh % ((6 : Nat) : Int)).toNat) = 3))), (Value.bool (decide (((wh % ((6 : Nat) : Int)).toNat) = 3))), (zf53 35), (zf53 36), (zf53 37), (Value.bool (decide (((wh % ((6 : Nat) : Int)).toNat) = 4))), (Value.bool (decide (((wh % ((6 : Nat) : Int)).toNat) = 4)))] ++ (zs zf53 40 28 ++ (us 19)))))) ?_
  refine wpL.done ?_
  refine then_n ?_
  refine cond_if rfl (fun c81 => ?_) (fun c81 => ?_)
  ·
   refine plain ?_
   refine wI (d_move rfl) ?_
   refine wI (n_add (a := 8) (b := (1 + ((fr % ((1000 : Nat) : Int)).toNat))) rfl rfl (by omega)) ?_
   refine wI (d_fieldAddr (j := 2) Try.underlying25 rfl s_ti3 (by decide) rfl rfl) ?_
   refine wF ([(zf53 0), (Value.bool ab)] ++ (zs zf53 2 5 ++ [(eN (1 + ((fr % ((1000 : Nat) : Int)).toNat))), (ptr g0 0)] ++ (zs zf53 9 8 ++ [(eN ((wh % ((6 : Nat) : Int)).toNat))] ++ (zs zf53 18 10 ++ [(Value.bool (decide (((wh % ((6 : Nat) : Int)).toNat) = 2))), (zf53 29), (zf53 30), (zf53 31), (zf53 32), (Value.bool (decide (((wh % ((6 : Nat) : Int)).toNat) = 3))), (Value.bool (decide (((wh % ((6 : Nat) : Int)).toNat) = 3))), (zf53 35), (zf53 36), (zf53 37), (Value.bool (decide (((wh % ((6 : Nat) : Int)).toNat) = 4))), (Value.bool (decide (((wh % ((6 : Nat) : Int)).toNat) = 4))), (eN (1 + ((fr % ((1000 : Nat) : Int)).toNat))), (eN (8 + (1 + ((fr % ((1000 : Nat) : Int)).toNat)))), (ptr g0 2)] ++ (zs zf53 43 25 ++ (us 19)))))) ?_
   refine wO (d_store s_ti3 rfl rfl rfl a21 (nb rfl) rfl) ?_
   rintro _ w82 ⟨a83, o84⟩
   replace oW := oW.tailb o84 g_oW_g0
   refine wF ([(zf53 0), (Value.bool ab)] ++ (zs zf53 2 5 ++ [(eN (1 + ((fr % ((1000 : Nat) : Int)).toNat))), (ptr g0 0)] ++ (zs zf53 9 8 ++ [(eN ((wh % ((6 : Nat) : Int)).toNat))] ++ (zs zf53 18 10 ++ [(Value.bool (decide (((wh % ((6 : Nat) : Int)).toNat) = 2))), (zf53 29), (zf53 30), (zf53 31), (zf53 32), (Value.bool (decide (((wh % ((6 : Nat) : Int)).toNat) = 3))), (Value.bool (decide (((wh % ((6 : Nat) : Int)).toNat) = 3))), (zf53 35), (zf53 36), (zf53 37), (Value.bool (decide (((wh % ((6 : Nat) : Int)).toNat) = 4))), (Value.bool (decide (((wh % ((6 : Nat) : Int)).toNat) = 4))), (eN (1 + ((fr % ((1000 : Nat) : Int)).toNat))), (eN (8 + (1 + ((fr % ((1000 : Nat) : Int)).toNat)))), (ptr g0 2)] ++ (zs zf53 43 25 ++ (us 19)))))) ?_
   refine wpL.done ?_
   refine inb_n (then_n ?_)
   refine forget (fun zf85 => ([(zf85 0), (Value.bool ab)] ++ (zs zf85 2 6 ++ [(ptr g0 0)] ++ (zs zf85 9 59 ++ (us 19))))) (by kernel_rfl) (fun zf85 => ?_)
   refine wpIn_seq ?_
   refine wpIn_seq ?_
   refine plain ?_
   refine wI (d_move rfl) ?_
   refine wF ([(zf85 0), (Value.bool ab)] ++ (zs zf85 2 6 ++ [(ptr g0 0)] ++ (zs zf85 9 39 ++ [(Value.bool ab)] ++ (zs zf85 49 19 ++ (us 19))))) ?_
   refine wpL.done ?_
   refine then_n ?_
   refine cond_t (congrArg Value.bool c1) ?_
   refine wpIn_seq ?_
   refine plain ?_
   refine wI (d_loadAg (vs := [(eN 7), (eN 10), (eN (8 + (1 + ((fr % ((1000 : Nat) : Int)).toNat))))]) ⟨_, Try.underlying25, rfl⟩ s_ti25 rfl a83 rfl rfl) ?_
   refine wO (d_call (xl := [.tmp 49]) (al := [(Value.agg #[(eN 7), (eN 10), (eN (8 + (1 + ((fr % ((1000 : Nat) : Int)).toNat))))])]) Try.func33 (by kernel_rfl) rfl rfl rfl (cw_is (v' := eN 1) (gCheck_ok 7 10 ((8 + (1 + ((fr % ((1000 : Nat) : Int)).toNat)) : Nat) : Int) _) (by rw [(show fitsI 7 10 ((8 + (1 + ((fr % ((1000 : Nat) : Int)).toNat)) : Nat) : Int) = false from (fits_no (by omega)).symm)] <;> rfl))) ?_
   rintro _ w86 ⟨rfl, o87⟩
   replace a83 := a83.step0 o87
   replace oW := oW.tail0 o87
   refine wI (n_eql (a := 1) (b := 1) rfl rfl (decide_eq_true rfl)) ?_
   refine wF ([(zf85 0), (Value.bool ab)] ++ (zs zf85 2 6 ++ [(ptr g0 0)] ++ (zs zf85 9 39 ++ [(Value.bool ab), (Value.agg #[(eN 7), (eN 10), (eN (8 + (1 + ((fr % ((1000 : Nat) : Int)).toNat))))]), (eN 1), (Value.bool true)] ++ (zs zf85 52 16 ++ (us 19))))) ?_
   refine wI (d_move rfl) ?_
   refine wpL.onis rfl rfl rfl (nb rfl) rfl (d_loadAg (vs := [(eN 7), (eN 10), (eN (8 + (1 + ((fr % ((1000 : Nat) : Int)).toNat))))]) ⟨_, Try.underlying25, rfl⟩ s_ti25 rfl a83 rfl rfl) ?_
   refine wpL.on rfl rfl rfl (nb rfl) rfl (d_call (xl := [.tmp 53, .const (.slice none 0 0)]) (al := [(Value.agg #[(eN 7), (eN 10), (eN (8 + (1 + ((fr % ((1000 : Nat) : Int)).toNat))))]), (Value.slice none 0 0)]) Try.func31 (by kernel_rfl) rfl rfl rfl (superso_ok 7 10 ((8 + (1 + ((fr % ((1000 : Nat) : Int)).toNat)) : Nat) : Int) (Value.slice none 0 0) _ (show fitsI 7 10 ((8 + (1 + ((fr % ((1000 : Nat) : Int)).toNat)) : Nat) : Int) = false from (fits_no (by omega)).symm))) ?_
   rintro _ w88 ⟨rfl, o89⟩
   replace a83 := a83.step0 o89
   replace oW := oW.tail0 o89
   refine wF ([(zf85 0), (Value.bool ab)] ++ (zs zf85 2 6 ++ [(ptr g0 0)] ++ (zs zf85 9 39 ++ [(Value.bool ab), (Value.agg #[(eN 7), (eN 10), (eN (8 + (1 + ((fr % ((1000 : Nat) : Int)).toNat))))]), (eN 1), (Value.bool true), (Value.bool true), (Value.agg #[(eN 7), (eN 10), (eN (8 + (1 + ((fr % ((1000 : Nat) : Int)).toNat))))]), (Value.slice none 0 0)] ++ (zs zf85 55 13 ++ (us 19))))) ?_
   refine wpL.onis rfl rfl rfl (nb rfl) rfl (d_len rfl Try.underlying47 rfl) ?_
   refine wpL.onis rfl rfl rfl (nb rfl) rfl (n_eql (a := 0) (b := 0) rfl rfl (decide_eq_true rfl)) ?_
   refine wI (d_pick (b := true) (v := (Value.bool true)) rfl rfl) ?_
   refine wF ([(zf85 0), (Value.bool ab)] ++ (zs zf85 2 6 ++ [(ptr g0 0)] ++ (zs zf85 9 39 ++ [(Value.bool ab), (Value.agg #[(eN 7), (eN 10), (eN (8 + (1 + ((fr % ((1000 : Nat) : Int)).toNat))))]), (eN 1), (Value.bool true), (Value.bool true), (Value.agg #[(eN 7), (eN 10), (eN (8 + (1 + ((fr % ((1000 : Nat) : Int)).toNat))))]), (Value.slice none 0 0), (eN 0), (Value.bool true), (Value.bool true)] ++ (zs zf85 58 10 ++ (us 19))))) ?_
   refine wI (d_move rfl) ?_
   refine wpL.onis rfl rfl rfl (nb rfl) rfl (d_loadAg (vs := [(eN 7), (eN 10), (eN (8 + (1 + ((fr % ((1000 : Nat) : Int)).toNat))))]) ⟨_, Try.underlying25, rfl⟩ s_ti25 rfl a83 rfl rfl) ?_
   refine wpL.on rfl rfl rfl (nb rfl) rfl (d_call (xl := [.tmp 59, .const (.int .i64 8)]) (al := [(Value.agg #[(eN 7), (eN 10), (eN (8 + (1 + ((fr % ((1000 : Nat) : Int)).toNat))))]), (eN 8)]) Try.func17 (by kernel_rfl) rfl rfl rfl (cw_is (gSectors_ok 7 10 ((8 + (1 + ((fr % ((1000 : Nat) : Int)).toNat)) : Nat) : Int) 8 _) (congrArg eI (gsec_no (fun h_ => absurd h_.1 (Bool.eq_false_iff.1 (show fitsI 7 10 ((8 + (1 + ((fr % ((1000 : Nat) : Int)).toNat)) : Nat) : Int) = false from (fits_no (by omega)).symm))))))) ?_
   rintro _ w90 ⟨rfl, o91⟩
   replace a83 := a83.step0 o91
   replace oW := oW.tail0 o91
   refine wF ([(zf85 0), (Value.bool ab)] ++ (zs zf85 2 6 ++ [(ptr g0 0)] ++ (zs zf85 9 39 ++ [(Value.bool ab), (Value.agg #[(eN 7), (eN 10), (eN (8 + (1 + ((fr % ((1000 : Nat) : Int)).toNat))))]), (eN 1), (Value.bool true), (Value.bool true), (Value.agg #[(eN 7), (eN 10), (eN (8 + (1 + ((fr % ((1000 : Nat) : Int)).toNat))))]), (Value.slice none 0 0), (eN 0), (Value.bool true), (Value.bool true), (Value.bool true), (Value.agg #[(eN 7), (eN 10), (eN (8 + (1 + ((fr % ((1000 : Nat) : Int)).toNat))))]), (eN 0)] ++ (zs zf85 61 7 ++ (us 19))))) ?_
   refine wpL.onis rfl rfl rfl (nb rfl) rfl (n_eql (a := 0) (b := 0) rfl rfl (decide_eq_true rfl)) ?_
   refine wI (d_pick (b := true) (v := (Value.bool true)) rfl rfl) ?_
   refine wI (d_move rfl) ?_
   refine wF ([(zf85 0), (Value.bool ab)] ++ (zs zf85 2 6 ++ [(ptr g0 0)] ++ (zs zf85 9 39 ++ [(Value.bool ab), (Value.agg #[(eN 7), (eN 10), (eN (8 + (1 + ((fr % ((1000 : Nat) : Int)).toNat))))]), (eN 1), (Value.bool true), (Value.bool true), (Value.agg #[(eN 7), (eN 10), (eN (8 + (1 + ((fr % ((1000 : Nat) : Int)).toNat))))]), (Value.slice none 0 0), (eN 0), (Value.bool true), (Value.bool true), (Value.bool true), (Value.agg #[(eN 7), (eN 10), (eN (8 + (1 + ((fr % ((1000 : Nat) : Int)).toNat))))]), (eN 0), (Value.bool true), (Value.bool true), (Value.bool true), (zf85 64), (zf85 65), (zf85 66), (zf85 67)] ++ (us 19)))) ?_
   refine wpL.onis rfl rfl rfl (nb rfl) rfl (d_loadAg (vs := [(eN 7), (eN 10), (eN (8 + (1 + ((fr % ((1000 : Nat) : Int)).toNat))))]) ⟨_, Try.underlying25, rfl⟩ s_ti25 rfl a83 rfl rfl) ?_
   refine wpL.on rfl rfl rfl (nb rfl) rfl (d_call (xl := [.tmp 64]) (al := [(Value.agg #[(eN 7), (eN 10), (eN (8 + (1 + ((fr % ((1000 : Nat) : Int)).toNat))))])]) Try.func35 (by kernel_rfl) rfl rfl rfl (cw_is (gSlots_ok 7 10 ((8 + (1 + ((fr % ((1000 : Nat) : Int)).toNat)) : Nat) : Int) _) (congrArg eI (if_neg (Bool.eq_false_iff.1 (show fitsI 7 10 ((8 + (1 + ((fr % ((1000 : Nat) : Int)).toNat)) : Nat) : Int) = false from (fits_no (by omega)).symm)))))) ?_
   rintro _ w92 ⟨rfl, o93⟩
   replace a83 := a83.step0 o93
   replace oW := oW.tail0 o93
   refine wpL.onis rfl rfl rfl (nb rfl) rfl (n_eql (a := 0) (b := 0) rfl rfl (decide_eq_true rfl)) ?_
   refine wF ([(zf85 0), (Value.bool ab)] ++ (zs zf85 2 6 ++ [(ptr g0 0)] ++ (zs zf85 9 39 ++ [(Value.bool ab), (Value.agg #[(eN 7), (eN 10), (eN (8 + (1 + ((fr % ((1000 : Nat) : Int)).toNat))))]), (eN 1), (Value.bool true), (Value.bool true), (Value.agg #[(eN 7), (eN 10), (eN (8 + (1 + ((fr % ((1000 : Nat) : Int)).toNat))))]), (Value.slice none 0 0), (eN 0), (Value.bool true), (Value.bool true), (Value.bool true), (Value.agg #[(eN 7), (eN 10), (eN (8 + (1 + ((fr % ((1000 : Nat) : Int)).toNat))))]), (eN 0), (Value.bool true), (Value.bool true), (Value.bool true), (Value.agg #[(eN 7), (eN 10), (eN (8 + (1 + ((fr % ((1000 : Nat) : Int)).toNat))))]), (eN 0), (Value.bool true), (zf85 67)] ++ (us 19)))) ?_
   refine wI (d_pick (b := true) (v := (Value.bool true)) rfl rfl) ?_
   refine wI (d_assign rfl) ?_
   refine wF ([(zf85 0), (Value.bool ab), (zf85 2), (zf85 3), (zf85 4), (zf85 5), (Value.bool true), (zf85 7), (ptr g0 0)] ++ (zs zf85 9 39 ++ [(Value.bool ab), (Value.agg #[(eN 7), (eN 10), (eN (8 + (1 + ((fr % ((1000 : Nat) : Int)).toNat))))]), (eN 1), (Value.bool true), (Value.bool true), (Value.agg #[(eN 7), (eN 10), (eN (8 + (1 + ((fr % ((1000 : Nat) : Int)).toNat))))]), (Value.slice none 0 0), (eN 0), (Value.bool true), (Value.bool true), (Value.bool true), (Value.agg #[(eN 7), (eN 10), (eN (8 + (1 + ((fr % ((1000 : Nat) : Int)).toNat))))]), (eN 0), (Value.bool true), (Value.bool true), (Value.bool true), (Value.agg #[(eN 7), (eN 10), (eN (8 + (1 + ((fr % ((1000 : Nat) : Int)).toNat))))]), (eN 0), (Value.bool true), (Value.bool true)] ++ (us 19))) ?_
   refine wpL.done ?_
   refine then_n ?_
   refine forget (fun zf94 => (zs zf94 0 6 ++ [(Value.bool true)] ++ (zs zf94 7 80))) (by kernel_rfl) (fun zf94 => ?_)
   refine wpIn_ret ?_
   refine then_r ?_
   refine leave0 (v := (Value.bool true)) (res1 Try.results13 rfl) ?_
   exact ⟨rfl, oW⟩
  refine wpIn_seq ?_
  refine plain ?_
  refine wI (n_eql (a := ((wh % ((6 : Nat) : Int)).toNat)) (b := 5) rfl rfl rfl) ?_
  refine wI (d_assign rfl) ?_
  refine wF ([(zf53 0), (Value.bool ab)] ++ (zs zf53 2 5 ++ [(eN (1 + ((fr % ((1000 : Nat) : Int)).toNat))), (ptr g0 0)] ++ (zs zf53 9 8 ++ [(eN ((wh % ((6 : Nat) : Int)).toNat))] ++ (zs zf53 18 10 ++ [(Value.bool (decide (((wh % ((6 : Nat) : Int)).toNat) = 2))), (zf53 29), (zf53 30), (zf53 31), (zf53 32), (Value.bool (decide (((wh % ((6 : Nat) : Int)).toNat) = 3))), (Value.bool (decide (((wh % ((6 : Nat) : Int)).toNat) = 3))), (zf53 35), (zf53 36), (zf53 37), (Value.bool (decide (((wh % ((6 : Nat) : Int)).toNat) = 4))), (Value.bool (decide (((wh % ((6 : Nat) : Int)).toNat) = 4))), (zf53 40), (zf53 41), (zf53 42), (Value.bool (decide (((wh % ((6 : Nat) : Int)).toNat) = 5))), (Value.bool (decide (((wh % ((6 : Nat) : Int)).toNat) = 5)))] ++ (zs zf53 45 23 ++ (us 19)))))) ?_
  refine wpL.done ?_
  refine then_n ?_
  refine cond_if rfl (fun c95 => ?_) (fun c95 => ?_)
  ·
   refine plain ?_
   refine wI (d_move rfl) ?_
   refine wI (d_sub (k := .i64) (m := 4) (n := ((1 + ((fr % ((1000 : Nat) : Int)).toNat) : Nat) : Int)) rfl rfl (r := ((4 : Nat) : Int) - ((1 + (fr % ((1000 : Nat) : Int)).toNat : Nat) : Int)) (IntWalk.i64_in _ (by omega))) ?_
   refine wI (d_fieldAddr (j := 2) Try.underlying25 rfl s_ti3 (by decide) rfl rfl) ?_
   refine wF ([(zf53 0), (Value.bool ab)] ++ (zs zf53 2 5 ++ [(eN (1 + ((fr % ((1000 : Nat) : Int)).toNat))), (ptr g0 0)] ++ (zs zf53 9 8 ++ [(eN ((wh % ((6 : Nat) : Int)).toNat))] ++ (zs zf53 18 10 ++ [(Value.bool (decide (((wh % ((6 : Nat) : Int)).toNat) = 2))), (zf53 29), (zf53 30), (zf53 31), (zf53 32), (Value.bool (decide (((wh % ((6 : Nat) : Int)).toNat) = 3))), (Value.bool (decide (((wh % ((6 : Nat) : Int)).toNat) = 3))), (zf53 35), (zf53 36), (zf53 37), (Value.bool (decide (((wh % ((6 : Nat) : Int)).toNat) = 4))), (Value.bool (decide (((wh % ((6 : Nat) : Int)).toNat) = 4))), (zf53 40), (zf53 41), (zf53 42), (Value.bool (decide (((wh % ((6 : Nat) : Int)).toNat) = 5))), (Value.bool (decide (((wh % ((6 : Nat) : Int)).toNat) = 5))), (eN (1 + ((fr % ((1000 : Nat) : Int)).toNat))), (eI (((4 : Nat) : Int) - ((1 + (fr % ((1000 : Nat) : Int)).toNat : Nat) : Int))), (ptr g0 2)] ++ (zs zf53 48 20 ++ (us 19)))))) ?_
   refine wO (d_store s_ti3 rfl rfl rfl a21 (nb rfl) rfl) ?_
   rintro _ w96 ⟨a97, o98⟩
   replace oW := oW.tailb o98 g_oW_g0
   refine wF ([(zf53 0), (Value.bool ab)] ++ (zs zf53 2 5 ++ [(eN (1 + ((fr % ((1000 : Nat) : Int)).toNat))), (ptr g0 0)] ++ (zs zf53 9 8 ++ [(eN ((wh % ((6 : Nat) : Int)).toNat))] ++ (zs zf53 18 10 ++ [(Value.bool (decide (((wh % ((6 : Nat) : Int)).toNat) = 2))), (zf53 29), (zf53 30), (zf53 31), (zf53 32), (Value.bool (decide (((wh % ((6 : Nat) : Int)).toNat) = 3))), (Value.bool (decide (((wh % ((6 : Nat) : Int)).toNat) = 3))), (zf53 35), (zf53 36), (zf53 37), (Value.bool (decide (((wh % ((6 : Nat) : Int)).toNat) = 4))), (Value.bool (decide (((wh % ((6 : Nat) : Int)).toNat) = 4))), (zf53 40), (zf53 41), (zf53 42), (Value.bool (decide (((wh % ((6 : Nat) : Int)).toNat) = 5))), (Value.bool (decide (((wh % ((6 : Nat) : Int)).toNat) = 5))), (eN (1 + ((fr % ((1000 : Nat) : Int)).toNat))), (eI (((4 : Nat) : Int) - ((1 + (fr % ((1000 : Nat) : Int)).toNat : Nat) : Int))), (ptr g0 2)] ++ (zs zf53 48 20 ++ (us 19)))))) ?_
   refine wpL.done ?_
   refine inb_n (then_n ?_)
   refine forget (fun zf99 => ([(zf99 0), (Value.bool ab)] ++ (zs zf99 2 6 ++ [(ptr g0 0)] ++ (zs zf99 9 59 ++ (us 19))))) (by kernel_rfl) (fun zf99 => ?_)
   refine wpIn_seq ?_
   refine wpIn_seq ?_
   refine plain ?_
   refine wI (d_move rfl) ?_
   refine wF ([(zf99 0), (Value.bool ab)] ++ (zs zf99 2 6 ++ [(ptr g0 0)] ++ (zs zf99 9 39 ++ [(Value.bool ab)] ++ (zs zf99 49 19 ++ (us 19))))) ?_
   refine wpL.done ?_
   refine then_n ?_
   refine cond_t (congrArg Value.bool c1) ?_
   refine wpIn_seq ?_
   refine plain ?_
   refine wI (d_loadAg (vs := [(eN 7), (eN 10), (eI (((4 : Nat) : Int) - ((1 + (fr % ((1000 : Nat) : Int)).toNat : Nat) : Int)))]) ⟨_, Try.underlying25, rfl⟩ s_ti25 rfl a97 rfl rfl) ?_
   refine wO (d_call (xl := [.tmp 49]) (al := [(Value.agg #[(eN 7), (eN 10), (eI (((4 : Nat) : Int) - ((1 + (fr % ((1000 : Nat) : Int)).toNat : Nat) : Int)))])]) Try.func33 (by kernel_rfl) rfl rfl rfl (cw_is (v' := eN 1) (gCheck_ok 7 10 (((4 : Nat) : Int) - ((1 + (fr % ((1000 : Nat) : Int)).toNat : Nat) : Int)) _) (by rw [(show fitsI 7 10 (((4 : Nat) : Int) - ((1 + (fr % ((1000 : Nat) : Int)).toNat : Nat) : Int)) = false from (fits_no (by omega)).symm)] <;> rfl))) ?_
   rintro _ w100 ⟨rfl, o101⟩
   replace a97 := a97.step0 o101
   replace oW := oW.tail0 o101
   refine wI (n_eql (a := 1) (b := 1) rfl rfl (decide_eq_true rfl)) ?_
   refine wF ([(zf99 0), (Value.bool ab)] ++ (zs zf99 2 6 ++ [(ptr g0 0)] ++ (zs zf99 9 39 ++ [(Value.bool ab), (Value.agg #[(eN 7), (eN 10), (eI (((4 : Nat) : Int) - ((1 + (fr % ((1000 : Nat) : Int)).toNat : Nat) : Int)))]), (eN 1), (Value.bool true)] ++ (zs zf99 52 16 ++ (us 19))))) ?_
   refine wI (d_move rfl) ?_
   refine wpL.onis rfl rfl rfl (nb rfl) rfl (d_loadAg (vs := [(eN 7), (eN 10), (eI (((4 : Nat) : Int) - ((1 + (fr % ((1000 : Nat) : Int)).toNat : Nat) : Int)))]) ⟨_, Try.underlying25, rfl⟩ s_ti25 rfl a97 rfl rfl) ?_
   refine wpL.on rfl rfl rfl (nb rfl) rfl (d_call (xl := [.tmp 53, .const (.slice none 0 0)]) (al := [(Value.agg #[(eN 7), (eN 10), (eI (((4 : Nat) : Int) - ((1 + (fr % ((1000 : Nat) : Int)).toNat : Nat) : Int)))]), (Value.slice none 0 0)]) Try.func31 (by kernel_rfl) rfl rfl rfl (superso_ok 7 10 (((4 : Nat) : Int) - ((1 + (fr % ((1000 : Nat) : Int)).toNat : Nat) : Int)) (Value.slice none 0 0) _ (show fitsI 7 10 (((4 : Nat) : Int) - ((1 + (fr % ((1000 : Nat) : Int)).toNat : Nat) : Int)) = false from (fits_no (by omega)).symm))) ?_
   rintro _ w102 ⟨rfl, o103⟩
   replace a97 := a97.step0 o103
   replace oW := oW.tail0 o103
   refine wF ([(zf99 0), (Value.bool ab)] ++ (zs zf99 2 6 ++ [(ptr g0 0)] ++ (zs zf99 9 39 ++ [(Value.bool ab), (Value.agg #[(eN 7), (eN 10), (eI (((4 : Nat) : Int) - ((1 + (fr % ((1000 : Nat) : Int)).toNat : Nat) : Int)))]), (eN 1), (Value.bool true), (Value.bool true), (Value.agg #[(eN 7), (eN 10), (eI (((4 : Nat) : Int) - ((1 + (fr % ((1000 : Nat) : Int)).toNat : Nat) : Int)))]), (Value.slice none 0 0)] ++ (zs zf99 55 13 ++ (us 19))))) ?_
   refine wpL.onis rfl rfl rfl (nb rfl) rfl (d_len rfl Try.underlying47 rfl) ?_
   refine wpL.onis rfl rfl rfl (nb rfl) rfl (n_eql (a := 0) (b := 0) rfl rfl (decide_eq_true rfl)) ?_
   refine wI (d_pick (b := true) (v := (Value.bool true)) rfl rfl) ?_
   refine wF ([(zf99 0), (Value.bool ab)] ++ (zs zf99 2 6 ++ [(ptr g0 0)] ++ (zs zf99 9 39 ++ [(Value.bool ab), (Value.agg #[(eN 7), (eN 10), (eI (((4 : Nat) : Int) - ((1 + (fr % ((1000 : Nat) : Int)).toNat : Nat) : Int)))]), (eN 1), (Value.bool true), (Value.bool true), (Value.agg #[(eN 7), (eN 10), (eI (((4 : Nat) : Int) - ((1 + (fr % ((1000 : Nat) : Int)).toNat : Nat) : Int)))]), (Value.slice none 0 0), (eN 0), (Value.bool true), (Value.bool true)] ++ (zs zf99 58 10 ++ (us 19))))) ?_
   refine wI (d_move rfl) ?_
   refine wpL.onis rfl rfl rfl (nb rfl) rfl (d_loadAg (vs := [(eN 7), (eN 10), (eI (((4 : Nat) : Int) - ((1 + (fr % ((1000 : Nat) : Int)).toNat : Nat) : Int)))]) ⟨_, Try.underlying25, rfl⟩ s_ti25 rfl a97 rfl rfl) ?_
   refine wpL.on rfl rfl rfl (nb rfl) rfl (d_call (xl := [.tmp 59, .const (.int .i64 8)]) (al := [(Value.agg #[(eN 7), (eN 10), (eI (((4 : Nat) : Int) - ((1 + (fr % ((1000 : Nat) : Int)).toNat : Nat) : Int)))]), (eN 8)]) Try.func17 (by kernel_rfl) rfl rfl rfl (cw_is (gSectors_ok 7 10 (((4 : Nat) : Int) - ((1 + (fr % ((1000 : Nat) : Int)).toNat : Nat) : Int)) 8 _) (congrArg eI (gsec_no (fun h_ => absurd h_.1 (Bool.eq_false_iff.1 (show fitsI 7 10 (((4 : Nat) : Int) - ((1 + (fr % ((1000 : Nat) : Int)).toNat : Nat) : Int)) = false from (fits_no (by omega)).symm))))))) ?_
   rintro _ w104 ⟨rfl, o105⟩
   replace a97 := a97.step0 o105
   replace oW := oW.tail0 o105
   refine wF ([(zf99 0), (Value.bool ab)] ++ (zs zf99 2 6 ++ [(ptr g0 0)] ++ (zs zf99 9 39 ++ [(Value.bool ab), (Value.agg #[(eN 7), (eN 10), (eI (((4 : Nat) : Int) - ((1 + (fr % ((1000 : Nat) : Int)).toNat : Nat) : Int)))]), (eN 1), (Value.bool true), (Value.bool true), (Value.agg #[(eN 7), (eN 10), (eI (((4 : Nat) : Int) - ((1 + (fr % ((1000 : Nat) : Int)).toNat : Nat) : Int)))]), (Value.slice none 0 0), (eN 0), (Value.bool true), (Value.bool true), (Value.bool true), (Value.agg #[(eN 7), (eN 10), (eI (((4 : Nat) : Int) - ((1 + (fr % ((1000 : Nat) : Int)).toNat : Nat) : Int)))]), (eN 0)] ++ (zs zf99 61 7 ++ (us 19))))) ?_
   refine wpL.onis rfl rfl rfl (nb rfl) rfl (n_eql (a := 0) (b := 0) rfl rfl (decide_eq_true rfl)) ?_
   refine wI (d_pick (b := true) (v := (Value.bool true)) rfl rfl) ?_
   refine wI (d_move rfl) ?_
   refine wF ([(zf99 0), (Value.bool ab)] ++ (zs zf99 2 6 ++ [(ptr g0 0)] ++ (zs zf99 9 39 ++ [(Value.bool ab), (Value.agg #[(eN 7), (eN 10), (eI (((4 : Nat) : Int) - ((1 + (fr % ((1000 : Nat) : Int)).toNat : Nat) : Int)))]), (eN 1), (Value.bool true), (Value.bool true), (Value.agg #[(eN 7), (eN 10), (eI (((4 : Nat) : Int) - ((1 + (fr % ((1000 : Nat) : Int)).toNat : Nat) : Int)))]), (Value.slice none 0 0), (eN 0), (Value.bool true), (Value.bool true), (Value.bool true), (Value.agg #[(eN 7), (eN 10), (eI (((4 : Nat) : Int) - ((1 + (fr % ((1000 : Nat) : Int)).toNat : Nat) : Int)))]), (eN 0), (Value.bool true), (Value.bool true), (Value.bool true), (zf99 64), (zf99 65), (zf99 66), (zf99 67)] ++ (us 19)))) ?_
   refine wpL.onis rfl rfl rfl (nb rfl) rfl (d_loadAg (vs := [(eN 7), (eN 10), (eI (((4 : Nat) : Int) - ((1 + (fr % ((1000 : Nat) : Int)).toNat : Nat) : Int)))]) ⟨_, Try.underlying25, rfl⟩ s_ti25 rfl a97 rfl rfl) ?_
   refine wpL.on rfl rfl rfl (nb rfl) rfl (d_call (xl := [.tmp 64]) (al := [(Value.agg #[(eN 7), (eN 10), (eI (((4 : Nat) : Int) - ((1 + (fr % ((1000 : Nat) : Int)).toNat : Nat) : Int)))])]) Try.func35 (by kernel_rfl) rfl rfl rfl (cw_is (gSlots_ok 7 10 (((4 : Nat) : Int) - ((1 + (fr % ((1000 : Nat) : Int)).toNat : Nat) : Int)) _) (congrArg eI (if_neg (Bool.eq_false_iff.1 (show fitsI 7 10 (((4 : Nat) : Int) - ((1 + (fr % ((1000 : Nat) : Int)).toNat : Nat) : Int)) = false from (fits_no (by omega)).symm)))))) ?_
   rintro _ w106 ⟨rfl, o107⟩
   replace a97 := a97.step0 o107
   replace oW := oW.tail0 o107
   refine wpL.onis rfl rfl rfl (nb rfl) rfl (n_eql (a := 0) (b := 0) rfl rfl (decide_eq_true rfl)) ?_
   refine wF ([(zf99 0), (Value.bool ab)] ++ (zs zf99 2 6 ++ [(ptr g0 0)] ++ (zs zf99 9 39 ++ [(Value.bool ab), (Value.agg #[(eN 7), (eN 10), (eI (((4 : Nat) : Int) - ((1 + (fr % ((1000 : Nat) : Int)).toNat : Nat) : Int)))]), (eN 1), (Value.bool true), (Value.bool true), (Value.agg #[(eN 7), (eN 10), (eI (((4 : Nat) : Int) - ((1 + (fr % ((1000 : Nat) : Int)).toNat : Nat) : Int)))]), (Value.slice none 0 0), (eN 0), (Value.bool true), (Value.bool true), (Value.bool true), (Value.agg #[(eN 7), (eN 10), (eI (((4 : Nat) : Int) - ((1 + (fr % ((1000 : Nat) : Int)).toNat : Nat) : Int)))]), (eN 0), (Value.bool true), (Value.bool true), (Value.bool true), (Value.agg #[(eN 7), (eN 10), (eI (((4 : Nat) : Int) - ((1 + (fr % ((1000 : Nat) : Int)).toNat : Nat) : Int)))]), (eN 0), (Value.bool true), (zf99 67)] ++ (us 19)))) ?_
   refine wI (d_pick (b := true) (v := (Value.bool true)) rfl rfl) ?_
   refine wI (d_assign rfl) ?_
   refine wF ([(zf99 0), (Value.bool ab), (zf99 2), (zf99 3), (zf99 4), (zf99 5), (Value.bool true), (zf99 7), (ptr g0 0)] ++ (zs zf99 9 39 ++ [(Value.bool ab), (Value.agg #[(eN 7), (eN 10), (eI (((4 : Nat) : Int) - ((1 + (fr % ((1000 : Nat) : Int)).toNat : Nat) : Int)))]), (eN 1), (Value.bool true), (Value.bool true), (Value.agg #[(eN 7), (eN 10), (eI (((4 : Nat) : Int) - ((1 + (fr % ((1000 : Nat) : Int)).toNat : Nat) : Int)))]), (Value.slice none 0 0), (eN 0), (Value.bool true), (Value.bool true), (Value.bool true), (Value.agg #[(eN 7), (eN 10), (eI (((4 : Nat) : Int) - ((1 + (fr % ((1000 : Nat) : Int)).toNat : Nat) : Int)))]), (eN 0), (Value.bool true), (Value.bool true), (Value.bool true), (Value.agg #[(eN 7), (eN 10), (eI (((4 : Nat) : Int) - ((1 + (fr % ((1000 : Nat) : Int)).toNat : Nat) : Int)))]), (eN 0), (Value.bool true), (Value.bool true)] ++ (us 19))) ?_
   refine wpL.done ?_
   refine then_n ?_
   refine forget (fun zf108 => (zs zf108 0 6 ++ [(Value.bool true)] ++ (zs zf108 7 80))) (by kernel_rfl) (fun zf108 => ?_)
   refine wpIn_ret ?_
   refine then_r ?_
   refine leave0 (v := (Value.bool true)) (res1 Try.results13 rfl) ?_
   exact ⟨rfl, oW⟩
  omega
 refine wpIn_skip ?_
 refine then_n ?_
 refine wpIn_seq ?_
 refine plain ?_
 refine wI (d_buildS (pl := [(0, 1), (1, 1), (2, 1)]) (zs := [(eN 0), (eN 0), (eN 0)]) (cs := [(eN 7), (eN 10), (eN 6)]) Try.underlying25 s_ti25 ⟨_, _, _, _, rfl, s_ti3, ⟨_, _, _, _, rfl, s_ti3, ⟨_, _, _, _, rfl, s_ti3, rfl⟩⟩⟩ rfl (parts_cons (vs := [(eN 7)]) (cells_of (v := (eN 7)) rfl rfl) (parts_cons (vs := [(eN 10)]) (cells_of (v := (eN 10)) rfl rfl) (parts_cons (vs := [(eN 6)]) (cells_of (v := (eN 6)) rfl rfl) parts_nil))) rfl) ?_
 refine wO (d_alloc s_ti25 rfl) ?_
 rintro _ w109 ⟨g0, rfl, g110, a111, o112⟩
 have g_oW_g0 : W.heap.size ≤ g0 := Nat.le_trans oW.size g110
 replace oW := oW.tail0 o112
 refine wO (d_storeAg (cs' := [(eN 7), (eN 10), (eN 6)]) s_ti25 rfl rfl rfl (oc_cons rfl (oc_cons rfl (oc_cons rfl oc_nil))) a111 (by decide) rfl) ?_
 rintro _ w113 ⟨a114, o115⟩
 replace oW := oW.tailb o115 g_oW_g0
 refine wF ([(eI wh), (Value.bool ab), (eI fr), undef, undef, undef, (Value.bool false), (eN 0), (ptr g0 0), (Value.bool true), (Value.bool false), (Value.bool ab), undef, undef, undef, (Value.agg #[(eN 7), (eN 10), (eN 6)])] ++ (us 71)) ?_
 refine wpL.done ?_
 refine then_n ?_
 refine wpIn_seq ?_
 refine wpIn_seq ?_
 refine plain ?_
 refine wI (d_move rfl) ?_
 refine wO (d_call (xl := [.tmp 16, .const (.int .i64 6)]) (al := [(eI wh), (eN 6)]) Try.func16 (by kernel_rfl) rfl rfl rfl (law9Within_ok wh 6 _ (by omega) (by omega))) ?_
 rintro _ w116 ⟨rfl, o117⟩
 replace a114 := a114.step0 o117
 replace oW := oW.tail0 o117
 refine wF ([(eI wh), (Value.bool ab), (eI fr), undef, undef, undef, (Value.bool false), (eN 0), (ptr g0 0), (Value.bool true), (Value.bool false), (Value.bool ab), undef, undef, undef, (Value.agg #[(eN 7), (eN 10), (eN 6)]), (eI wh), (eN ((wh % ((6 : Nat) : Int)).toNat))] ++ (us 69)) ?_
 refine wpL.done ?_
 refine then_n ?_
 refine forget (fun zf118 => ([(zf118 0), (Value.bool ab)] ++ (zs zf118 2 5 ++ [(eN 0), (ptr g0 0)] ++ (zs zf118 9 8 ++ [(eN ((wh % ((6 : Nat) : Int)).toNat))] ++ (zs zf118 18 50 ++ (us 19)))))) (by kernel_rfl) (fun zf118 => ?_)
 refine wpIn_block ?_
 refine wpIn_seq ?_
 refine plain ?_
 refine wI (n_eql (a := ((wh % ((6 : Nat) : Int)).toNat)) (b := 0) rfl rfl rfl) ?_
 refine wI (d_assign rfl) ?_
 refine wF ([(zf118 0), (Value.bool ab)] ++ (zs zf118 2 5 ++ [(eN 0), (ptr g0 0)] ++ (zs zf118 9 8 ++ [(eN ((wh % ((6 : Nat) : Int)).toNat)), (Value.bool (decide (((wh % ((6 : Nat) : Int)).toNat) = 0))), (Value.bool (decide (((wh % ((6 : Nat) : Int)).toNat) = 0)))] ++ (zs zf118 20 48 ++ (us 19))))) ?_
 refine wpL.done ?_
 refine then_n ?_
 refine cond_if rfl (fun c119 => ?_) (fun c119 => ?_)
 ·
  refine plain ?_
  refine wI (d_move rfl) ?_
  refine wI (n_add (a := 8) (b := 0) rfl rfl (by omega)) ?_
  refine wI (d_fieldAddr (j := 0) Try.underlying25 rfl s_ti3 (by decide) rfl rfl) ?_
  refine wF ([(zf118 0), (Value.bool ab)] ++ (zs zf118 2 5 ++ [(eN 0), (ptr g0 0)] ++ (zs zf118 9 8 ++ [(eN ((wh % ((6 : Nat) : Int)).toNat)), (Value.bool (decide (((wh % ((6 : Nat) : Int)).toNat) = 0))), (Value.bool (decide (((wh % ((6 : Nat) : Int)).toNat) = 0))), (eN 0), (eN 8), (ptr g0 0)] ++ (zs zf118 23 45 ++ (us 19))))) ?_
  refine wO (d_store s_ti3 rfl rfl rfl a114 (nb rfl) rfl) ?_
  rintro _ w120 ⟨a121, o122⟩
  replace oW := oW.tailb o122 g_oW_g0
  refine wF ([(zf118 0), (Value.bool ab)] ++ (zs zf118 2 5 ++ [(eN 0), (ptr g0 0)] ++ (zs zf118 9 8 ++ [(eN ((wh % ((6 : Nat) : Int)).toNat)), (Value.bool (decide (((wh % ((6 : Nat) : Int)).toNat) = 0))), (Value.bool (decide (((wh % ((6 : Nat) : Int)).toNat) = 0))), (eN 0), (eN 8), (ptr g0 0)] ++ (zs zf118 23 45 ++ (us 19))))) ?_
  refine wpL.done ?_
  refine inb_n (then_n ?_)
  refine wpIn_seq ?_
  refine wpIn_seq ?_
  refine plain ?_
  refine wI (d_move rfl) ?_
  refine wF ([(zf118 0), (Value.bool ab)] ++ (zs zf118 2 5 ++ [(eN 0), (ptr g0 0)] ++ (zs zf118 9 8 ++ [(eN ((wh % ((6 : Nat) : Int)).toNat)), (Value.bool (decide (((wh % ((6 : Nat) : Int)).toNat) = 0))), (Value.bool (decide (((wh % ((6 : Nat) : Int)).toNat) = 0))), (eN 0), (eN 8), (ptr g0 0)] ++ (zs zf118 23 25 ++ [(Value.bool ab)] ++ (zs zf118 49 19 ++ (us 19)))))) ?_
  refine wpL.done ?_
  refine then_n ?_
  refine forget (fun zf123 => (zs zf123 0 8 ++ [(ptr g0 0)] ++ (zs zf123 9 39 ++ [(Value.bool ab)] ++ (zs zf123 49 19 ++ (us 19))))) (by kernel_rfl) (fun zf123 => ?_)
  refine cond_f (congrArg Value.bool c1) ?_
  refine wpIn_skip ?_
  refine then_n ?_
  refine wpIn_seq ?_
  refine drawnG (O := (Or1 g0 No)) (n := 20) 0 [0, 1, 3, 7, 15, 31, 63, 15, 143, 511, 1023, 2047, 4095, 8191, 4095, 20479, 53247, 131071, 262143, 524287] [(0, 68), (1, 69), (2, 70), (3, 71), (4, 72), (5, 73), (6, 74), (7, 75), (8, 76), (9, 77), (10, 78), (11, 79), (12, 80), (13, 81), (14, 82), (15, 83), (16, 84), (17, 85), (18, 86), (19, 6)] [] [] [] (fun i_ => ([] : List (RF (Or1 g0 No))).getD i_ (RF.any (Or1 g0 No))) (fun _ w_ => Arr 25 g0 [(eN 8), (eN 10), (eN 6)] w_) (fun v124 => (zs zf123 0 6 ++ [(v124 19), (zf123 7), (ptr g0 0)] ++ (zs zf123 9 39 ++ [(Value.bool ab)] ++ (zs zf123 49 19 ++ [(v124 0), (v124 1), (v124 2), (v124 3), (v124 4), (v124 5), (v124 6), (v124 7), (v124 8), (v124 9), (v124 10), (v124 11), (v124 12), (v124 13), (v124 14), (v124 15), (v124 16), (v124 17), (v124 18)])))) (fun v124 => (zs zf123 0 8 ++ [(ptr g0 0)] ++ (zs zf123 9 39 ++ [(Value.bool ab)] ++ (zs zf123 49 19 ++ (us 19))))) s_mx (by kernel_rfl) rfl (by decide) (by rfl) (by kernel_rfl) (by kernel_rfl) (by kernel_rfl) (by rfl) (fun v_ => by kernel_rfl) (fun v_ => by kernel_rfl) (fun _ => fun w_ w2_ h ho => by have r_a121 := h; exact r_a121.step0 ho) a121 ?_ ?_ ?_
  ·
   exact ls_nil
  ·
   exact ms_nil
  intro v124 lo_ hi_ w125 o126 hd hR
  clear hd lo_ hi_
  replace a121 : Arr 25 g0 [(eN 8), (eN 10), (eN 6)] w125 := hR
  clear hR
  replace oW := oW.tail o126 (tl_new g_oW_g0 tl_no)
  refine rest_seg (n := 20) (p := 0) (q := 4) [0] [1, 2, 3] [(0, 68)] [(0, 68), (1, 69), (2, 70), (3, 71), (4, 72), (5, 73), (6, 74), (7, 75), (8, 76), (9, 77), (10, 78), (11, 79), (12, 80), (13, 81), (14, 82), (15, 83), (16, 84), (17, 85), (18, 86), (19, 6)] [0, 1, 3, 7, 15, 31, 63, 15, 143, 511, 1023, 2047, 4095, 8191, 4095, 20479, 53247, 131071, 262143, 524287] (fun i_ => nth [(Value.agg #[(eN 8), (eN 10), (eN 6)])] i_) (zs zf123 0 8 ++ [(ptr g0 0)] ++ (zs zf123 9 39 ++ [(Value.bool ab)] ++ (zs zf123 49 19 ++ [(Value.agg #[(eN 8), (eN 10), (eN 6)])] ++ (us 18)))) (fun w_ => Arr 25 g0 [(eN 8), (eN 10), (eN 6)] w_ ∧ True) (by kernel_rfl) rfl (by decide) (by kernel_rfl) (by kernel_rfl) (by rfl) (by kernel_rfl) (by kernel_rfl) (by kernel_rfl) (by kernel_rfl) (by kernel_rfl) (by decide) ?_ ?_
  ·
   rintro w_ ⟨a121, _⟩
   refine fl_cons ⟨_, rfl, gd rfl (d_loadAg (vs := [(eN 8), (eN 10), (eN 6)]) ⟨_, Try.underlying25, rfl⟩ s_ti25 rfl a121 rfl rfl)⟩ ?_
   exact fl_nil
  refine wJ.op ⟨a121, trivial⟩ rfl rfl (d_call (xl := [.tmp 68]) (al := [(Value.agg #[(eN 8), (eN 10), (eN 6)])]) Try.func33 (by kernel_rfl) rfl rfl rfl (cw_is (v' := eN 0) (gCheck_ok 8 10 6 _) (by rw [(show fitsI 8 10 6 = true from (fits_is (by omega)).symm)] <;> rfl))) ?_
  rintro _ w127 ⟨rfl, o128⟩
  replace a121 := a121.step0 o128
  replace oW := oW.tail0 o128
  refine wJ.flat (zs zf123 0 8 ++ [(ptr g0 0)] ++ (zs zf123 9 39 ++ [(Value.bool ab)] ++ (zs zf123 49 19 ++ [(Value.agg #[(eN 8), (eN 10), (eN 6)]), (eN 0)] ++ (us 17)))) (by kernel_rfl) ?_
  refine wJ.is ⟨a121, trivial⟩ rfl rfl (n_eql (a := 0) (b := 0) rfl rfl (decide_eq_true rfl)) ?_
  refine wJ.flat (zs zf123 0 8 ++ [(ptr g0 0)] ++ (zs zf123 9 39 ++ [(Value.bool ab)] ++ (zs zf123 49 19 ++ [(Value.agg #[(eN 8), (eN 10), (eN 6)]), (eN 0), (Value.bool true)] ++ (us 16)))) (by kernel_rfl) ?_
  refine wJ.is ⟨a121, trivial⟩ rfl rfl (d_move rfl) ?_
  refine wJ.flat (zs zf123 0 8 ++ [(ptr g0 0)] ++ (zs zf123 9 39 ++ [(Value.bool ab)] ++ (zs zf123 49 19 ++ [(Value.agg #[(eN 8), (eN 10), (eN 6)]), (eN 0), (Value.bool true), (Value.bool true)] ++ (us 15)))) (by kernel_rfl) ?_
  refine wJ.done ⟨a121, trivial⟩ ?_
  refine rest_seg (n := 20) (p := 4) (q := 12) [4, 7, 8] [5, 6, 9, 10, 11] [(4, 72), (7, 75), (8, 76)] [(0, 68), (1, 69), (2, 70), (3, 71), (4, 72), (5, 73), (6, 74), (7, 75), (8, 76), (9, 77), (10, 78), (11, 79), (12, 80), (13, 81), (14, 82), (15, 83), (16, 84), (17, 85), (18, 86), (19, 6)] [0, 1, 3, 7, 15, 31, 63, 15, 143, 511, 1023, 2047, 4095, 8191, 4095, 20479, 53247, 131071, 262143, 524287] (fun i_ => nth [undef, undef, undef, undef, (Value.agg #[(eN 8), (eN 10), (eN 6)]), undef, undef, (ptr g0 1), (eN 10)] i_) (zs zf123 0 8 ++ [(ptr g0 0)] ++ (zs zf123 9 39 ++ [(Value.bool ab)] ++ (zs zf123 49 19 ++ [(Value.agg #[(eN 8), (eN 10), (eN 6)]), (eN 0), (Value.bool true), (Value.bool true), (Value.agg #[(eN 8), (eN 10), (eN 6)]), undef, undef, (ptr g0 1), (eN 10)] ++ (us 10)))) (fun w_ => Arr 25 g0 [(eN 8), (eN 10), (eN 6)] w_ ∧ True) (by kernel_rfl) rfl (by decide) (by kernel_rfl) (by kernel_rfl) (by rfl) (by kernel_rfl) (by kernel_rfl) (by kernel_rfl) (by kernel_rfl) (by kernel_rfl) (by decide) ?_ ?_
  ·
   rintro w_ ⟨a121, _⟩
   refine fl_cons ⟨_, rfl, gd_on rfl rfl rfl (nb rfl) rfl (d_loadAg (vs := [(eN 8), (eN 10), (eN 6)]) ⟨_, Try.underlying25, rfl⟩ s_ti25 rfl a121 rfl rfl)⟩ ?_
   refine fl_cons ⟨_, rfl, gd_on rfl rfl rfl (nb rfl) rfl (d_fieldAddr (j := 1) Try.underlying25 rfl s_ti3 (by decide) rfl rfl)⟩ ?_
   refine fl_cons ⟨_, rfl, gd_on rfl rfl rfl (nb rfl) rfl (d_load (v := (eN 10)) ⟨_, Try.underlying3, rfl⟩ rfl a121 rfl)⟩ ?_
   exact fl_nil
  refine wJ.on ⟨a121, trivial⟩ rfl rfl rfl rfl (nb rfl) rfl (d_call (xl := [.tmp 72, .const (.slice none 0 0)]) (al := [(Value.agg #[(eN 8), (eN 10), (eN 6)]), (Value.slice none 0 0)]) Try.func31 (by kernel_rfl) rfl rfl rfl (supers_ok 8 10 6 ([] : List (Int × Int)) (Value.slice none 0 0) _ seqA_nil (by first | omega | (simp; done) | (simp; omega)) (by omega) (by omega) (by omega))) ?_
  rintro u131 w129 ⟨ws132, hw133, f134, g135, o130⟩
  replace f134 := f134.less (Y := (Or1 g0 (Old W.heap.size))) (or1_old a121.lt (old_old oW.size))
  replace g135 := g135.less (Y := (Or1 g0 (Old W.heap.size))) (or1_old a121.lt (old_old oW.size))
  replace a121 := a121.step0 o130
  replace oW := oW.tail0 o130
  refine wJ.flat (zs zf123 0 8 ++ [(ptr g0 0)] ++ (zs zf123 9 39 ++ [(Value.bool ab)] ++ (zs zf123 49 19 ++ [(Value.agg #[(eN 8), (eN 10), (eN 6)]), (eN 0), (Value.bool true), (Value.bool true), (Value.agg #[(eN 8), (eN 10), (eN 6)]), u131, undef, (ptr g0 1), (eN 10)] ++ (us 10)))) (by kernel_rfl) ?_
  refine wJ.onis ⟨a121, trivial⟩ rfl rfl rfl rfl (nb rfl) rfl (d_lenS rfl Try.underlying47 rfl f134) ?_
  refine wJ.flat (zs zf123 0 8 ++ [(ptr g0 0)] ++ (zs zf123 9 39 ++ [(Value.bool ab)] ++ (zs zf123 49 19 ++ [(Value.agg #[(eN 8), (eN 10), (eN 6)]), (eN 0), (Value.bool true), (Value.bool true), (Value.agg #[(eN 8), (eN 10), (eN 6)]), u131, (eN ws132.length), (ptr g0 1), (eN 10)] ++ (us 10)))) (by kernel_rfl) ?_
  refine wJ.onis ⟨a121, trivial⟩ rfl rfl rfl rfl (nb rfl) rfl (n_eql (a := ws132.length) (b := 10) rfl rfl (decide_eq_true (by rw [hw133]; exact nMin_none _ _))) ?_
  refine wJ.flat (zs zf123 0 8 ++ [(ptr g0 0)] ++ (zs zf123 9 39 ++ [(Value.bool ab)] ++ (zs zf123 49 19 ++ [(Value.agg #[(eN 8), (eN 10), (eN 6)]), (eN 0), (Value.bool true), (Value.bool true), (Value.agg #[(eN 8), (eN 10), (eN 6)]), u131, (eN ws132.length), (ptr g0 1), (eN 10), (Value.bool true)] ++ (us 9)))) (by kernel_rfl) ?_
  refine wJ.is ⟨a121, trivial⟩ rfl rfl (d_pick (b := true) (v := (Value.bool true)) rfl rfl) ?_
  refine wJ.flat (zs zf123 0 8 ++ [(ptr g0 0)] ++ (zs zf123 9 39 ++ [(Value.bool ab)] ++ (zs zf123 49 19 ++ [(Value.agg #[(eN 8), (eN 10), (eN 6)]), (eN 0), (Value.bool true), (Value.bool true), (Value.agg #[(eN 8), (eN 10), (eN 6)]), u131, (eN ws132.length), (ptr g0 1), (eN 10), (Value.bool true), (Value.bool true)] ++ (us 8)))) (by kernel_rfl) ?_
  refine wJ.is ⟨a121, trivial⟩ rfl rfl (d_move rfl) ?_
  refine wJ.flat (zs zf123 0 8 ++ [(ptr g0 0)] ++ (zs zf123 9 39 ++ [(Value.bool ab)] ++ (zs zf123 49 19 ++ [(Value.agg #[(eN 8), (eN 10), (eN 6)]), (eN 0), (Value.bool true), (Value.bool true), (Value.agg #[(eN 8), (eN 10), (eN 6)]), u131, (eN ws132.length), (ptr g0 1), (eN 10), (Value.bool true), (Value.bool true), (Value.bool true)] ++ (us 7)))) (by kernel_rfl) ?_
  refine wJ.done ⟨a121, trivial⟩ ?_
  refine rest_seg (n := 20) (p := 12) (q := 20) [12, 14, 15, 16] [13, 17, 18, 19] [(12, 80), (14, 82), (15, 83), (16, 84)] [(0, 68), (1, 69), (2, 70), (3, 71), (4, 72), (5, 73), (6, 74), (7, 75), (8, 76), (9, 77), (10, 78), (11, 79), (12, 80), (13, 81), (14, 82), (15, 83), (16, 84), (17, 85), (18, 86), (19, 6)] [0, 1, 3, 7, 15, 31, 63, 15, 143, 511, 1023, 2047, 4095, 8191, 4095, 20479, 53247, 131071, 262143, 524287] (fun i_ => nth [undef, undef, undef, undef, undef, undef, undef, undef, undef, undef, undef, undef, (Value.agg #[(eN 8), (eN 10), (eN 6)]), undef, (ptr g0 0), (eN 8), (eN 6)] i_) (zs zf123 0 8 ++ [(ptr g0 0)] ++ (zs zf123 9 39 ++ [(Value.bool ab)] ++ (zs zf123 49 19 ++ [(Value.agg #[(eN 8), (eN 10), (eN 6)]), (eN 0), (Value.bool true), (Value.bool true), (Value.agg #[(eN 8), (eN 10), (eN 6)]), u131, (eN ws132.length), (ptr g0 1), (eN 10), (Value.bool true), (Value.bool true), (Value.bool true), (Value.agg #[(eN 8), (eN 10), (eN 6)]), undef, (ptr g0 0), (eN 8), (eN 6), undef, undef]))) (fun w_ => Ps (Or1 g0 (Old W.heap.size)) (Seq (kS eV) ws132 u131) w_ ∧ Arr 25 g0 [(eN 8), (eN 10), (eN 6)] w_ ∧ True) (by kernel_rfl) rfl (by decide) (by kernel_rfl) (by kernel_rfl) (by rfl) (by kernel_rfl) (by kernel_rfl) (by kernel_rfl) (by kernel_rfl) (by kernel_rfl) (by decide) ?_ ?_
  ·
   rintro w_ ⟨f134, a121, _⟩
   refine fl_cons ⟨_, rfl, gd_on rfl rfl rfl (nb rfl) rfl (d_loadAg (vs := [(eN 8), (eN 10), (eN 6)]) ⟨_, Try.underlying25, rfl⟩ s_ti25 rfl a121 rfl rfl)⟩ ?_
   refine fl_cons ⟨_, rfl, gd_on rfl rfl rfl (nb rfl) rfl (d_fieldAddr (j := 0) Try.underlying25 rfl s_ti3 (by decide) rfl rfl)⟩ ?_
   refine fl_cons ⟨_, rfl, gd_on rfl rfl rfl (nb rfl) rfl (d_load (v := (eN 8)) ⟨_, Try.underlying3, rfl⟩ rfl a121 rfl)⟩ ?_
   refine fl_cons ⟨_, rfl, gd_on rfl rfl rfl (nb rfl) rfl (n_sub (a := 8) (b := 2) rfl rfl (by omega) (by omega))⟩ ?_
   exact fl_nil
  refine wJ.on ⟨f134, a121, trivial⟩ rfl rfl rfl rfl (nb rfl) rfl (d_call (xl := [.tmp 80]) (al := [(Value.agg #[(eN 8), (eN 10), (eN 6)])]) Try.func35 (by kernel_rfl) rfl rfl rfl (cw_is (v' := eN (8 - 2)) (gSlots_ok 8 10 6 _) (congrArg eI ((if_pos (show fitsI 8 10 6 = true from (fits_is (by omega)).symm)).trans (by omega))))) ?_
  rintro _ w136 ⟨rfl, o137⟩
  replace f134 := f134.step0 o137
  replace g135 := g135.step0 o137
  replace a121 := a121.step0 o137
  replace oW := oW.tail0 o137
  refine wJ.flat (zs zf123 0 8 ++ [(ptr g0 0)] ++ (zs zf123 9 39 ++ [(Value.bool ab)] ++ (zs zf123 49 19 ++ [(Value.agg #[(eN 8), (eN 10), (eN 6)]), (eN 0), (Value.bool true), (Value.bool true), (Value.agg #[(eN 8), (eN 10), (eN 6)]), u131, (eN ws132.length), (ptr g0 1), (eN 10), (Value.bool true), (Value.bool true), (Value.bool true), (Value.agg #[(eN 8), (eN 10), (eN 6)]), (eN (8 - 2)), (ptr g0 0), (eN 8), (eN 6), undef, undef]))) (by kernel_rfl) ?_
  refine wJ.onis ⟨f134, a121, trivial⟩ rfl rfl rfl rfl (nb rfl) rfl (n_eql (a := (8 - 2)) (b := 6) rfl rfl rfl) ?_
  refine wJ.flat (zs zf123 0 8 ++ [(ptr g0 0)] ++ (zs zf123 9 39 ++ [(Value.bool ab)] ++ (zs zf123 49 19 ++ [(Value.agg #[(eN 8), (eN 10), (eN 6)]), (eN 0), (Value.bool true), (Value.bool true), (Value.agg #[(eN 8), (eN 10), (eN 6)]), u131, (eN ws132.length), (ptr g0 1), (eN 10), (Value.bool true), (Value.bool true), (Value.bool true), (Value.agg #[(eN 8), (eN 10), (eN 6)]), (eN (8 - 2)), (ptr g0 0), (eN 8), (eN 6), (Value.bool (decide ((8 - 2) = 6))), undef]))) (by kernel_rfl) ?_
  refine wJ.is ⟨f134, a121, trivial⟩ rfl rfl (d_pick (b := true) (v := (Value.bool (decide ((8 - 2) = 6)))) rfl rfl) ?_
  refine wJ.flat (zs zf123 0 8 ++ [(ptr g0 0)] ++ (zs zf123 9 39 ++ [(Value.bool ab)] ++ (zs zf123 49 19 ++ [(Value.agg #[(eN 8), (eN 10), (eN 6)]), (eN 0), (Value.bool true), (Value.bool true), (Value.agg #[(eN 8), (eN 10), (eN 6)]), u131, (eN ws132.length), (ptr g0 1), (eN 10), (Value.bool true), (Value.bool true), (Value.bool true), (Value.agg #[(eN 8), (eN 10), (eN 6)]), (eN (8 - 2)), (ptr g0 0), (eN 8), (eN 6), (Value.bool (decide ((8 - 2) = 6))), (Value.bool (decide ((8 - 2) = 6)))]))) (by kernel_rfl) ?_
  refine wJ.is ⟨f134, a121, trivial⟩ rfl rfl (d_assign rfl) ?_
  refine wJ.flat (zs zf123 0 6 ++ [(Value.bool (decide ((8 - 2) = 6))), (zf123 7), (ptr g0 0)] ++ (zs zf123 9 39 ++ [(Value.bool ab)] ++ (zs zf123 49 19 ++ [(Value.agg #[(eN 8), (eN 10), (eN 6)]), (eN 0), (Value.bool true), (Value.bool true), (Value.agg #[(eN 8), (eN 10), (eN 6)]), u131, (eN ws132.length), (ptr g0 1), (eN 10), (Value.bool true), (Value.bool true), (Value.bool true), (Value.agg #[(eN 8), (eN 10), (eN 6)]), (eN (8 - 2)), (ptr g0 0), (eN 8), (eN 6), (Value.bool (decide ((8 - 2) = 6))), (Value.bool (decide ((8 - 2) = 6)))]))) (by kernel_rfl) ?_
  refine wJ.done ⟨f134, a121, trivial⟩ ?_
  refine rest_done rfl ?_
  refine then_n ?_
  refine forget (fun zf138 => (zs zf138 0 6 ++ [(Value.bool (decide ((8 - 2) = 6)))] ++ (zs zf138 7 80))) (by kernel_rfl) (fun zf138 => ?_)
  refine wpIn_ret ?_
  refine leave0 (v := (Value.bool (decide ((8 - 2) = 6)))) (res1 Try.results13 rfl) ?_
  exact ⟨rfl, oW⟩
 refine wpIn_seq ?_
 refine plain ?_
 refine wI (n_eql (a := ((wh % ((6 : Nat) : Int)).toNat)) (b := 1) rfl rfl rfl) ?_
 refine wI (d_assign rfl) ?_
 refine wF ([(zf118 0), (Value.bool ab)] ++ (zs zf118 2 5 ++ [(eN 0), (ptr g0 0)] ++ (zs zf118 9 8 ++ [(eN ((wh % ((6 : Nat) : Int)).toNat)), (Value.bool (decide (((wh % ((6 : Nat) : Int)).toNat) = 0))), (Value.bool (decide (((wh % ((6 : Nat) : Int)).toNat) = 0))), (zf118 20), (zf118 21), (zf118 22), (Value.bool (decide (((wh % ((6 : Nat) : Int)).toNat) = 1))), (Value.bool (decide (((wh % ((6 : Nat) : Int)).toNat) = 1)))] ++ (zs zf118 25 43 ++ (us 19))))) ?_
 refine wpL.done ?_
 refine then_n ?_
 refine cond_if rfl (fun c139 => ?_) (fun c139 => ?_)
 ·
  refine plain ?_
  refine wI (d_move rfl) ?_
  refine wI (d_sub (k := .i64) (m := 6) (n := 0) rfl rfl (r := 6) (by decide)) ?_
  refine wI (d_fieldAddr (j := 0) Try.underlying25 rfl s_ti3 (by decide) rfl rfl) ?_
  refine wF ([(zf118 0), (Value.bool ab)] ++ (zs zf118 2 5 ++ [(eN 0), (ptr g0 0)] ++ (zs zf118 9 8 ++ [(eN ((wh % ((6 : Nat) : Int)).toNat)), (Value.bool (decide (((wh % ((6 : Nat) : Int)).toNat) = 0))), (Value.bool (decide (((wh % ((6 : Nat) : Int)).toNat) = 0))), (zf118 20), (zf118 21), (zf118 22), (Value.bool (decide (((wh % ((6 : Nat) : Int)).toNat) = 1))), (Value.bool (decide (((wh % ((6 : Nat) : Int)).toNat) = 1))), (eN 0), (eN 6), (ptr g0 0)] ++ (zs zf118 28 40 ++ (us 19))))) ?_
  refine wO (d_store s_ti3 rfl rfl rfl a114 (nb rfl) rfl) ?_
  rintro _ w140 ⟨a141, o142⟩
  replace oW := oW.tailb o142 g_oW_g0
  refine wF ([(zf118 0), (Value.bool ab)] ++ (zs zf118 2 5 ++ [(eN 0), (ptr g0 0)] ++ (zs zf118 9 8 ++ [(eN ((wh % ((6 : Nat) : Int)).toNat)), (Value.bool (decide (((wh % ((6 : Nat) : Int)).toNat) = 0))), (Value.bool (decide (((wh % ((6 : Nat) : Int)).toNat) = 0))), (zf118 20), (zf118 21), (zf118 22), (Value.bool (decide (((wh % ((6 : Nat) : Int)).toNat) = 1))), (Value.bool (decide (((wh % ((6 : Nat) : Int)).toNat) = 1))), (eN 0), (eN 6), (ptr g0 0)] ++ (zs zf118 28 40 ++ (us 19))))) ?_
  refine wpL.done ?_
  refine inb_n (then_n ?_)
  refine forget (fun zf143 => ([(zf143 0), (Value.bool ab)] ++ (zs zf143 2 6 ++ [(ptr g0 0)] ++ (zs zf143 9 59 ++ (us 19))))) (by kernel_rfl) (fun zf143 => ?_)
  refine wpIn_seq ?_
  refine wpIn_seq ?_
  refine plain ?_
  refine wI (d_move rfl) ?_
  refine wF ([(zf143 0), (Value.bool ab)] ++ (zs zf143 2 6 ++ [(ptr g0 0)] ++ (zs zf143 9 39 ++ [(Value.bool ab)] ++ (zs zf143 49 19 ++ (us 19))))) ?_
  refine wpL.done ?_
  refine then_n ?_
  refine cond_f (congrArg Value.bool c1) ?_
  refine wpIn_skip ?_
  refine then_n ?_
  refine wpIn_seq ?_
  refine drawnG (O := (Or1 g0 No)) (n := 20) 0 [0, 1, 3, 7, 15, 31, 63, 15, 143, 511, 1023, 2047, 4095, 8191, 4095, 20479, 53247, 131071, 262143, 524287] [(0, 68), (1, 69), (2, 70), (3, 71), (4, 72), (5, 73), (6, 74), (7, 75), (8, 76), (9, 77), (10, 78), (11, 79), (12, 80), (13, 81), (14, 82), (15, 83), (16, 84), (17, 85), (18, 86), (19, 6)] [] [] [] (fun i_ => ([] : List (RF (Or1 g0 No))).getD i_ (RF.any (Or1 g0 No))) (fun _ w_ => Arr 25 g0 [(eN 6), (eN 10), (eN 6)] w_) (fun v144 => ([(zf143 0), (Value.bool ab), (zf143 2), (zf143 3), (zf143 4), (zf143 5), (v144 19), (zf143 7), (ptr g0 0)] ++ (zs zf143 9 39 ++ [(Value.bool ab)] ++ (zs zf143 49 19 ++ [(v144 0), (v144 1), (v144 2), (v144 3), (v144 4), (v144 5), (v144 6), (v144 7), (v144 8), (v144 9), (v144 10), (v144 11), (v144 12), (v144 13), (v144 14), (v144 15), (v144 16), (v144 17), (v144 18)])))) (fun v144 => ([(zf143 0), (Value.bool ab)] ++ (zs zf143 2 6 ++ [(ptr g0 0)] ++ (zs zf143 9 39 ++ [(Value.bool ab)] ++ (zs zf143 49 19 ++ (us 19)))))) s_mx (by kernel_rfl) rfl (by decide) (by rfl) (by kernel_rfl) (by kernel_rfl) (by kernel_rfl) (by rfl) (fun v_ => by kernel_rfl) (fun v_ => by kernel_rfl) (fun _ => fun w_ w2_ h ho => by have r_a141 := h; exact r_a141.step0 ho) a141 ?_ ?_ ?_
  ·
   exact ls_nil
  ·
   exact ms_nil
  intro v144 lo_ hi_ w145 o146 hd hR
  clear hd lo_ hi_
  replace a141 : Arr 25 g0 [(eN 6), (eN 10), (eN 6)] w145 := hR
  clear hR
  replace oW := oW.tail o146 (tl_new g_oW_g0 tl_no)
  refine rest_seg (n := 20) (p := 0) (q := 4) [0] [1, 2, 3] [(0, 68)] [(0, 68), (1, 69), (2, 70), (3, 71), (4, 72), (5, 73), (6, 74), (7, 75), (8, 76), (9, 77), (10, 78), (11, 79), (12, 80), (13, 81), (14, 82), (15, 83), (16, 84), (17, 85), (18, 86), (19, 6)] [0, 1, 3, 7, 15, 31, 63, 15, 143, 511, 1023, 2047, 4095, 8191, 4095, 20479, 53247, 131071, 262143, 524287] (fun i_ => nth [(Value.agg #[(eN 6), (eN 10), (eN 6)])] i_) ([(zf143 0), (Value.bool ab)] ++ (zs zf143 2 6 ++ [(ptr g0 0)] ++ (zs zf143 9 39 ++ [(Value.bool ab)] ++ (zs zf143 49 19 ++ [(Value.agg #[(eN 6), (eN 10), (eN 6)])] ++ (us 18))))) (fun w_ => Arr 25 g0 [(eN 6), (eN 10), (eN 6)] w_ ∧ True) (by kernel_rfl) rfl (by decide) (by kernel_rfl) (by kernel_rfl) (by rfl) (by kernel_rfl) (by kernel_rfl) (by kernel_rfl) (by kernel_rfl) (by kernel_rfl) (by decide) ?_ ?_
  ·
   rintro w_ ⟨a141, _⟩
   refine fl_cons ⟨_, rfl, gd rfl (d_loadAg (vs := [(eN 6), (eN 10), (eN 6)]) ⟨_, Try.underlying25, rfl⟩ s_ti25 rfl a141 rfl rfl)⟩ ?_
   exact fl_nil
  refine wJ.op ⟨a141, trivial⟩ rfl rfl (d_call (xl := [.tmp 68]) (al := [(Value.agg #[(eN 6), (eN 10), (eN 6)])]) Try.func33 (by kernel_rfl) rfl rfl rfl (cw_is (v' := eN 0) (gCheck_ok 6 10 6 _) (by rw [(show fitsI 6 10 6 = true from (fits_is (by omega)).symm)] <;> rfl))) ?_
  rintro _ w147 ⟨rfl, o148⟩
  replace a141 := a141.step0 o148
  replace oW := oW.tail0 o148
  refine wJ.flat ([(zf143 0), (Value.bool ab)] ++ (zs zf143 2 6 ++ [(ptr g0 0)] ++ (zs zf143 9 39 ++ [(Value.bool ab)] ++ (zs zf143 49 19 ++ [(Value.agg #[(eN 6), (eN 10), (eN 6)]), (eN 0)] ++ (us 17))))) (by kernel_rfl) ?_
  refine wJ.is ⟨a141, trivial⟩ rfl rfl (n_eql (a := 0) (b := 0) rfl rfl (decide_eq_true rfl)) ?_
  refine wJ.flat ([(zf143 0), (Value.bool ab)] ++ (zs zf143 2 6 ++ [(ptr g0 0)] ++ (zs zf143 9 39 ++ [(Value.bool ab)] ++ (zs zf143 49 19 ++ [(Value.agg #[(eN 6), (eN 10), (eN 6)]), (eN 0), (Value.bool true)] ++ (us 16))))) (by kernel_rfl) ?_
  refine wJ.is ⟨a141, trivial⟩ rfl rfl (d_move rfl) ?_
  refine wJ.flat ([(zf143 0), (Value.bool ab)] ++ (zs zf143 2 6 ++ [(ptr g0 0)] ++ (zs zf143 9 39 ++ [(Value.bool ab)] ++ (zs zf143 49 19 ++ [(Value.agg #[(eN 6), (eN 10), (eN 6)]), (eN 0), (Value.bool true), (Value.bool true)] ++ (us 15))))) (by kernel_rfl) ?_
  refine wJ.done ⟨a141, trivial⟩ ?_
  refine rest_seg (n := 20) (p := 4) (q := 12) [4, 7, 8] [5, 6, 9, 10, 11] [(4, 72), (7, 75), (8, 76)] [(0, 68), (1, 69), (2, 70), (3, 71), (4, 72), (5, 73), (6, 74), (7, 75), (8, 76), (9, 77), (10, 78), (11, 79), (12, 80), (13, 81), (14, 82), (15, 83), (16, 84), (17, 85), (18, 86), (19, 6)] [0, 1, 3, 7, 15, 31, 63, 15, 143, 511, 1023, 2047, 4095, 8191, 4095, 20479, 53247, 131071, 262143, 524287] (fun i_ => nth [undef, undef, undef, undef, (Value.agg #[(eN 6), (eN 10), (eN 6)]), undef, undef, (ptr g0 1), (eN 10)] i_) ([(zf143 0), (Value.bool ab)] ++ (zs zf143 2 6 ++ [(ptr g0 0)] ++ (zs zf143 9 39 ++ [(Value.bool ab)] ++ (zs zf143 49 19 ++ [(Value.agg #[(eN 6), (eN 10), (eN 6)]), (eN 0), (Value.bool true), (Value.bool true), (Value.agg #[(eN 6), (eN 10), (eN 6)]), undef, undef, (ptr g0 1), (eN 10)] ++ (us 10))))) (fun w_ => Arr 25 g0 [(eN 6), (eN 10), (eN 6)] w_ ∧ True) (by kernel_rfl) rfl (by decide) (by kernel_rfl) (by kernel_rfl) (by rfl) (by kernel_rfl) (by kernel_rfl) (by kernel_rfl) (by kernel_rfl) (by kernel_rfl) (by decide) ?_ ?_
  ·
   rintro w_ ⟨a141, _⟩
   refine fl_cons ⟨_, rfl, gd_on rfl rfl rfl (nb rfl) rfl (d_loadAg (vs := [(eN 6), (eN 10), (eN 6)]) ⟨_, Try.underlying25, rfl⟩ s_ti25 rfl a141 rfl rfl)⟩ ?_
   refine fl_cons ⟨_, rfl, gd_on rfl rfl rfl (nb rfl) rfl (d_fieldAddr (j := 1) Try.underlying25 rfl s_ti3 (by decide) rfl rfl)⟩ ?_
   refine fl_cons ⟨_, rfl, gd_on rfl rfl rfl (nb rfl) rfl (d_load (v := (eN 10)) ⟨_, Try.underlying3, rfl⟩ rfl a141 rfl)⟩ ?_
   exact fl_nil
  refine wJ.on ⟨a141, trivial⟩ rfl rfl rfl rfl (nb rfl) rfl (d_call (xl := [.tmp 72, .const (.slice none 0 0)]) (al := [(Value.agg #[(eN 6), (eN 10), (eN 6)]), (Value.slice none 0 0)]) Try.func31 (by kernel_rfl) rfl rfl rfl (supers_ok 6 10 6 ([] : List (Int × Int)) (Value.slice none 0 0) _ seqA_nil (by first | omega | (simp; done) | (simp; omega)) (by omega) (by omega) (by omega))) ?_
  rintro u151 w149 ⟨ws152, hw153, f154, g155, o150⟩
  replace f154 := f154.less (Y := (Or1 g0 (Old W.heap.size))) (or1_old a141.lt (old_old oW.size))
  replace g155 := g155.less (Y := (Or1 g0 (Old W.heap.size))) (or1_old a141.lt (old_old oW.size))
  replace a141 := a141.step0 o150
  replace oW := oW.tail0 o150
  refine wJ.flat ([(zf143 0), (Value.bool ab)] ++ (zs zf143 2 6 ++ [(ptr g0 0)] ++ (zs zf143 9 39 ++ [(Value.bool ab)] ++ (zs zf143 49 19 ++ [(Value.agg #[(eN 6), (eN 10), (eN 6)]), (eN 0), (Value.bool true), (Value.bool true), (Value.agg #[(eN 6), (eN 10), (eN 6)]), u151, undef, (ptr g0 1), (eN 10)] ++ (us 10))))) (by kernel_rfl) ?_
  refine wJ.onis ⟨a141, trivial⟩ rfl rfl rfl rfl (nb rfl) rfl (d_lenS rfl Try.underlying47 rfl f154) ?_
  refine wJ.flat ([(zf143 0), (Value.bool ab)] ++ (zs zf143 2 6 ++ [(ptr g0 0)] ++ (zs zf143 9 39 ++ [(Value.bool ab)] ++ (zs zf143 49 19 ++ [(Value.agg #[(eN 6), (eN 10), (eN 6)]), (eN 0), (Value.bool true), (Value.bool true), (Value.agg #[(eN 6), (eN 10), (eN 6)]), u151, (eN ws152.length), (ptr g0 1), (eN 10)] ++ (us 10))))) (by kernel_rfl) ?_
  refine wJ.onis ⟨a141, trivial⟩ rfl rfl rfl rfl (nb rfl) rfl (n_eql (a := ws152.length) (b := 10) rfl rfl (decide_eq_true (by rw [hw153]; exact nMin_none _ _))) ?_
  refine wJ.flat ([(zf143 0), (Value.bool ab)] ++ (zs zf143 2 6 ++ [(ptr g0 0)] ++ (zs zf143 9 39 ++ [(Value.bool ab)] ++ (zs zf143 49 19 ++ [(Value.agg #[(eN 6), (eN 10), (eN 6)]), (eN 0), (Value.bool true), (Value.bool true), (Value.agg #[(eN 6), (eN 10), (eN 6)]), u151, (eN ws152.length), (ptr g0 1), (eN 10), (Value.bool true)] ++ (us 9))))) (by kernel_rfl) ?_
  refine wJ.is ⟨a141, trivial⟩ rfl rfl (d_pick (b := true) (v := (Value.bool true)) rfl rfl) ?_
  refine wJ.flat ([(zf143 0), (Value.bool ab)] ++ (zs zf143 2 6 ++ [(ptr g0 0)] ++ (zs zf143 9 39 ++ [(Value.bool ab)] ++ (zs zf143 49 19 ++ [(Value.agg #[(eN 6), (eN 10), (eN 6)]), (eN 0), (Value.bool true), (Value.bool true), (Value.agg #[(eN 6), (eN 10), (eN 6)]), u151, (eN ws152.length), (ptr g0 1), (eN 10), (Value.bool true), (Value.bool true)] ++ (us 8))))) (by kernel_rfl) ?_
  refine wJ.is ⟨a141, trivial⟩ rfl rfl (d_move rfl) ?_
  refine wJ.flat ([(zf143 0), (Value.bool ab)] ++ (zs zf143 2 6 ++ [(ptr g0 0)] ++ (zs zf143 9 39 ++ [(Value.bool ab)] ++ (zs zf143 49 19 ++ [(Value.agg #[(eN 6), (eN 10), (eN 6)]), (eN 0), (Value.bool true), (Value.bool true), (Value.agg #[(eN 6), (eN 10), (eN 6)]), u151, (eN ws152.length), (ptr g0 1), (eN 10), (Value.bool true), (Value.bool true), (Value.bool true)] ++ (us 7))))) (by kernel_rfl) ?_
  refine wJ.done ⟨a141, trivial⟩ ?_
  refine rest_seg (n := 20) (p := 12) (q := 20) [12, 14, 15, 16] [13, 17, 18, 19] [(12, 80), (14, 82), (15, 83), (16, 84)] [(0, 68), (1, 69), (2, 70), (3, 71), (4, 72), (5, 73), (6, 74), (7, 75), (8, 76), (9, 77), (10, 78), (11, 79), (12, 80), (13, 81), (14, 82), (15, 83), (16, 84), (17, 85), (18, 86), (19, 6)] [0, 1, 3, 7, 15, 31, 63, 15, 143, 511, 1023, 2047, 4095, 8191, 4095, 20479, 53247, 131071, 262143, 524287] (fun i_ => nth [undef, undef, undef, undef, undef, undef, undef, undef, undef, undef, undef, undef, (Value.agg #[(eN 6), (eN 10), (eN 6)]), undef, (ptr g0 0), (eN 6), (eN 4)] i_) ([(zf143 0), (Value.bool ab)] ++ (zs zf143 2 6 ++ [(ptr g0 0)] ++ (zs zf143 9 39 ++ [(Value.bool ab)] ++ (zs zf143 49 19 ++ [(Value.agg #[(eN 6), (eN 10), (eN 6)]), (eN 0), (Value.bool true), (Value.bool true), (Value.agg #[(eN 6), (eN 10), (eN 6)]), u151, (eN ws152.length), (ptr g0 1), (eN 10), (Value.bool true), (Value.bool true), (Value.bool true), (Value.agg #[(eN 6), (eN 10), (eN 6)]), undef, (ptr g0 0), (eN 6), (eN 4), undef, undef])))) (fun w_ => Ps (Or1 g0 (Old W.heap.size)) (Seq (kS eV) ws152 u151) w_ ∧ Arr 25 g0 [(eN 6), (eN 10), (eN 6)] w_ ∧ True) (by kernel_rfl) rfl (by decide) (by kernel_rfl) (by kernel_rfl) (by rfl) (by kernel_rfl) (by kernel_rfl) (by kernel_rfl) (by kernel_rfl) (by kernel_rfl) (by decide) ?_ ?_
  ·
   rintro w_ ⟨f154, a141, _⟩
   refine fl_cons ⟨_, rfl, gd_on rfl rfl rfl (nb rfl) rfl (d_loadAg (vs := [(eN 6), (eN 10), (eN 6)]) ⟨_, Try.underlying25, rfl⟩ s_ti25 rfl a141 rfl rfl)⟩ ?_
   refine fl_cons ⟨_, rfl, gd_on rfl rfl rfl (nb rfl) rfl (d_fieldAddr (j := 0) Try.underlying25 rfl s_ti3 (by decide) rfl rfl)⟩ ?_
   refine fl_cons ⟨_, rfl, gd_on rfl rfl rfl (nb rfl) rfl (d_load (v := (eN 6)) ⟨_, Try.underlying3, rfl⟩ rfl a141 rfl)⟩ ?_
   refine fl_cons ⟨_, rfl, gd_on rfl rfl rfl (nb rfl) rfl (n_sub (a := 6) (b := 2) rfl rfl (by omega) (by omega))⟩ ?_
   exact fl_nil
  refine wJ.on ⟨f154, a141, trivial⟩ rfl rfl rfl rfl (nb rfl) rfl (d_call (xl := [.tmp 80]) (al := [(Value.agg #[(eN 6), (eN 10), (eN 6)])]) Try.func35 (by kernel_rfl) rfl rfl rfl (cw_is (v' := eN (6 - 2)) (gSlots_ok 6 10 6 _) (congrArg eI ((if_pos (show fitsI 6 10 6 = true from (fits_is (by omega)).symm)).trans (by omega))))) ?_
  rintro _ w156 ⟨rfl, o157⟩
  replace f154 := f154.step0 o157
  replace g155 := g155.step0 o157
  replace a141 := a141.step0 o157
  replace oW := oW.tail0 o157
  refine wJ.flat ([(zf143 0), (Value.bool ab)] ++ (zs zf143 2 6 ++ [(ptr g0 0)] ++ (zs zf143 9 39 ++ [(Value.bool ab)] ++ (zs zf143 49 19 ++ [(Value.agg #[(eN 6), (eN 10), (eN 6)]), (eN 0), (Value.bool true), (Value.bool true), (Value.agg #[(eN 6), (eN 10), (eN 6)]), u151, (eN ws152.length), (ptr g0 1), (eN 10), (Value.bool true), (Value.bool true), (Value.bool true), (Value.agg #[(eN 6), (eN 10), (eN 6)]), (eN (6 - 2)), (ptr g0 0), (eN 6), (eN 4), undef, undef])))) (by kernel_rfl) ?_
  refine wJ.onis ⟨f154, a141, trivial⟩ rfl rfl rfl rfl (nb rfl) rfl (n_eql (a := (6 - 2)) (b := 4) rfl rfl rfl) ?_
  refine wJ.flat ([(zf143 0), (Value.bool ab)] ++ (zs zf143 2 6 ++ [(ptr g0 0)] ++ (zs zf143 9 39 ++ [(Value.bool ab)] ++ (zs zf143 49 19 ++ [(Value.agg #[(eN 6), (eN 10), (eN 6)]), (eN 0), (Value.bool true), (Value.bool true), (Value.agg #[(eN 6), (eN 10), (eN 6)]), u151, (eN ws152.length), (ptr g0 1), (eN 10), (Value.bool true), (Value.bool true), (Value.bool true), (Value.agg #[(eN 6), (eN 10), (eN 6)]), (eN (6 - 2)), (ptr g0 0), (eN 6), (eN 4), (Value.bool (decide ((6 - 2) = 4))), undef])))) (by kernel_rfl) ?_
  refine wJ.is ⟨f154, a141, trivial⟩ rfl rfl (d_pick (b := true) (v := (Value.bool (decide ((6 - 2) = 4)))) rfl rfl) ?_
  refine wJ.flat ([(zf143 0), (Value.bool ab)] ++ (zs zf143 2 6 ++ [(ptr g0 0)] ++ (zs zf143 9 39 ++ [(Value.bool ab)] ++ (zs zf143 49 19 ++ [(Value.agg #[(eN 6), (eN 10), (eN 6)]), (eN 0), (Value.bool true), (Value.bool true), (Value.agg #[(eN 6), (eN 10), (eN 6)]), u151, (eN ws152.length), (ptr g0 1), (eN 10), (Value.bool true), (Value.bool true), (Value.bool true), (Value.agg #[(eN 6), (eN 10), (eN 6)]), (eN (6 - 2)), (ptr g0 0), (eN 6), (eN 4), (Value.bool (decide ((6 - 2) = 4))), (Value.bool (decide ((6 - 2) = 4)))])))) (by kernel_rfl) ?_
  refine wJ.is ⟨f154, a141, trivial⟩ rfl rfl (d_assign rfl) ?_
  refine wJ.flat ([(zf143 0), (Value.bool ab), (zf143 2), (zf143 3), (zf143 4), (zf143 5), (Value.bool (decide ((6 - 2) = 4))), (zf143 7), (ptr g0 0)] ++ (zs zf143 9 39 ++ [(Value.bool ab)] ++ (zs zf143 49 19 ++ [(Value.agg #[(eN 6), (eN 10), (eN 6)]), (eN 0), (Value.bool true), (Value.bool true), (Value.agg #[(eN 6), (eN 10), (eN 6)]), u151, (eN ws152.length), (ptr g0 1), (eN 10), (Value.bool true), (Value.bool true), (Value.bool true), (Value.agg #[(eN 6), (eN 10), (eN 6)]), (eN (6 - 2)), (ptr g0 0), (eN 6), (eN 4), (Value.bool (decide ((6 - 2) = 4))), (Value.bool (decide ((6 - 2) = 4)))]))) (by kernel_rfl) ?_
  refine wJ.done ⟨f154, a141, trivial⟩ ?_
  refine rest_done rfl ?_
  refine then_n ?_
  refine forget (fun zf158 => (zs zf158 0 6 ++ [(Value.bool (decide ((6 - 2) = 4)))] ++ (zs zf158 7 80))) (by kernel_rfl) (fun zf158 => ?_)
  refine wpIn_ret ?_
  refine leave0 (v := (Value.bool (decide ((6 - 2) = 4)))) (res1 Try.results13 rfl) ?_
  exact ⟨rfl, oW⟩
 refine wpIn_seq ?_
 refine plain ?_
 refine wI (n_eql (a := ((wh % ((6 : Nat) : Int)).toNat)) (b := 2) rfl rfl rfl) ?_
 refine wI (d_assign rfl) ?_
 refine wF ([(zf118 0), (Value.bool ab)] ++ (zs zf118 2 5 ++ [(eN 0), (ptr g0 0)] ++ (zs zf118 9 8 ++ [(eN ((wh % ((6 : Nat) : Int)).toNat)), (Value.bool (decide (((wh % ((6 : Nat) : Int)).toNat) = 0))), (Value.bool (decide (((wh % ((6 : Nat) : Int)).toNat) = 0))), (zf118 20), (zf118 21), (zf118 22), (Value.bool (decide (((wh % ((6 : Nat) : Int)).toNat) = 1))), (Value.bool (decide (((wh % ((6 : Nat) : Int)).toNat) = 1))), (zf118 25), (zf118 26), (zf118 27), (Value.bool (decide (((wh % ((6 : Nat) : Int)).toNat) = 2))), (Value.bool (decide (((wh % ((6 : Nat) : Int)).toNat) = 2)))] ++ (zs zf118 30 38 ++ (us 19))))) ?_
 refine wpL.done ?_
 refine then_n ?_
 refine cond_if rfl (fun c159 => ?_) (fun c159 => ?_)
 ·
  refine plain ?_
  refine wI (d_move rfl) ?_
  refine wI (n_add (a := 12) (b := 0) rfl rfl (by omega)) ?_
  refine wI (d_fieldAddr (j := 1) Try.underlying25 rfl s_ti3 (by decide) rfl rfl) ?_
  refine wF ([(zf118 0), (Value.bool ab)] ++ (zs zf118 2 5 ++ [(eN 0), (ptr g0 0)] ++ (zs zf118 9 8 ++ [(eN ((wh % ((6 : Nat) : Int)).toNat)), (Value.bool (decide (((wh % ((6 : Nat) : Int)).toNat) = 0))), (Value.bool (decide (((wh % ((6 : Nat) : Int)).toNat) = 0))), (zf118 20), (zf118 21), (zf118 22), (Value.bool (decide (((wh % ((6 : Nat) : Int)).toNat) = 1))), (Value.bool (decide (((wh % ((6 : Nat) : Int)).toNat) = 1))), (zf118 25), (zf118 26), (zf118 27), (Value.bool (decide (((wh % ((6 : Nat) : Int)).toNat) = 2))), (Value.bool (decide (((wh % ((6 : Nat) : Int)).toNat) = 2))), (eN 0), (eN 12), (ptr g0 1)] ++ (zs zf118 33 35 ++ (us 19))))) ?_
  refine wO (d_store s_ti3 rfl rfl rfl a114 (nb rfl) rfl) ?_
  rintro _ w160 ⟨a161, o162⟩
  replace oW := oW.tailb o162 g_oW_g0
  refine wF ([(zf118 0), (Value.bool ab)] ++ (zs zf118 2 5 ++ [(eN 0), (ptr g0 0)] ++ (zs zf118 9 8 ++ [(eN ((wh % ((6 : Nat) : Int)).toNat)), (Value.bool (decide (((wh % ((6 : Nat) : Int)).toNat) = 0))), (Value.bool (decide (((wh % ((6 : Nat) : Int)).toNat) = 0))), (zf118 20), (zf118 21), (zf118 22), (Value.bool (decide (((wh % ((6 : Nat) : Int)).toNat) = 1))), (Value.bool (decide (((wh % ((6 : Nat) : Int)).toNat) = 1))), (zf118 25), (zf118 26), (zf118 27), (Value.bool (decide (((wh % ((6 : Nat) : Int)).toNat) = 2))), (Value.bool (decide (((wh % ((6 : Nat) : Int)).toNat) = 2))), (eN 0), (eN 12), (ptr g0 1)] ++ (zs zf118 33 35 ++ (us 19))))) ?_
  refine wpL.done ?_
  refine inb_n (then_n ?_)
  refine forget (fun zf163 => ([(zf163 0), (Value.bool ab)] ++ (zs zf163 2 6 ++ [(ptr g0 0)] ++ (zs zf163 9 59 ++ (us 19))))) (by kernel_rfl) (fun zf163 => ?_)
  refine wpIn_seq ?_
  refine wpIn_seq ?_
  refine plain ?_
  refine wI (d_move rfl) ?_
  refine wF ([(zf163 0), (Value.bool ab)] ++ (zs zf163 2 6 ++ [(ptr g0 0)] ++ (zs zf163 9 39 ++ [(Value.bool ab)] ++ (zs zf163 49 19 ++ (us 19))))) ?_
  refine wpL.done ?_
  refine then_n ?_
  refine cond_f (congrArg Value.bool c1) ?_
  refine wpIn_skip ?_
  refine then_n ?_
  refine wpIn_seq ?_
  refine drawnG (O := (Or1 g0 No)) (n := 20) 0 [0, 1, 3, 7, 15, 31, 63, 15, 143, 511, 1023, 2047, 4095, 8191, 4095, 20479, 53247, 131071, 262143, 524287] [(0, 68), (1, 69), (2, 70), (3, 71), (4, 72), (5, 73), (6, 74), (7, 75), (8, 76), (9, 77), (10, 78), (11, 79), (12, 80), (13, 81), (14, 82), (15, 83), (16, 84), (17, 85), (18, 86), (19, 6)] [] [] [] (fun i_ => ([] : List (RF (Or1 g0 No))).getD i_ (RF.any (Or1 g0 No))) (fun _ w_ => Arr 25 g0 [(eN 7), (eN 12), (eN 6)] w_) (fun v164 => ([(zf163 0), (Value.bool ab), (zf163 2), (zf163 3), (zf163 4), (zf163 5), (v164 19), (zf163 7), (ptr g0 0)] ++ (zs zf163 9 39 ++ [(Value.bool ab)] ++ (zs zf163 49 19 ++ [(v164 0), (v164 1), (v164 2), (v164 3), (v164 4), (v164 5), (v164 6), (v164 7), (v164 8), (v164 9), (v164 10), (v164 11), (v164 12), (v164 13), (v164 14), (v164 15), (v164 16), (v164 17), (v164 18)])))) (fun v164 => ([(zf163 0), (Value.bool ab)] ++ (zs zf163 2 6 ++ [(ptr g0 0)] ++ (zs zf163 9 39 ++ [(Value.bool ab)] ++ (zs zf163 49 19 ++ (us 19)))))) s_mx (by kernel_rfl) rfl (by decide) (by rfl) (by kernel_rfl) (by kernel_rfl) (by kernel_rfl) (by rfl) (fun v_ => by kernel_rfl) (fun v_ => by kernel_rfl) (fun _ => fun w_ w2_ h ho => by have r_a161 := h; exact r_a161.step0 ho) a161 ?_ ?_ ?_
  ·
   exact ls_nil
  ·
   exact ms_nil
  intro v164 lo_ hi_ w165 o166 hd hR
  clear hd lo_ hi_
  replace a161 : Arr 25 g0 [(eN 7), (eN 12), (eN 6)] w165 := hR
  clear hR
  replace oW := oW.tail o166 (tl_new g_oW_g0 tl_no)
  refine rest_seg (n := 20) (p := 0) (q := 4) [0] [1, 2, 3] [(0, 68)] [(0, 68), (1, 69), (2, 70), (3, 71), (4, 72), (5, 73), (6, 74), (7, 75), (8, 76), (9, 77), (10, 78), (11, 79), (12, 80), (13, 81), (14, 82), (15, 83), (16, 84), (17, 85), (18, 86), (19, 6)] [0, 1, 3, 7, 15, 31, 63, 15, 143, 511, 1023, 2047, 4095, 8191, 4095, 20479, 53247, 131071, 262143, 524287] (fun i_ => nth [(Value.agg #[(eN 7), (eN 12), (eN 6)])] i_) ([(zf163 0), (Value.bool ab)] ++ (zs zf163 2 6 ++ [(ptr g0 0)] ++ (zs zf163 9 39 ++ [(Value.bool ab)] ++ (zs zf163 49 19 ++ [(Value.agg #[(eN 7), (eN 12), (eN 6)])] ++ (us 18))))) (fun w_ => Arr 25 g0 [(eN 7), (eN 12), (eN 6)] w_ ∧ True) (by kernel_rfl) rfl (by decide) (by kernel_rfl) (by kernel_rfl) (by rfl) (by kernel_rfl) (by kernel_rfl) (by kernel_rfl) (by kernel_rfl) (by kernel_rfl) (by decide) ?_ ?_
  ·
   rintro w_ ⟨a161, _⟩
   refine fl_cons ⟨_, rfl, gd rfl (d_loadAg (vs := [(eN 7), (eN 12), (eN 6)]) ⟨_, Try.underlying25, rfl⟩ s_ti25 rfl a161 rfl rfl)⟩ ?_
   exact fl_nil
  refine wJ.op ⟨a161, trivial⟩ rfl rfl (d_call (xl := [.tmp 68]) (al := [(Value.agg #[(eN 7), (eN 12), (eN 6)])]) Try.func33 (by kernel_rfl) rfl rfl rfl (cw_is (v' := eN 0) (gCheck_ok 7 12 6 _) (by rw [(show fitsI 7 12 6 = true from (fits_is (by omega)).symm)] <;> rfl))) ?_
  rintro _ w167 ⟨rfl, o168⟩
  replace a161 := a161.step0 o168
  replace oW := oW.tail0 o168
  refine wJ.flat ([(zf163 0), (Value.bool ab)] ++ (zs zf163 2 6 ++ [(ptr g0 0)] ++ (zs zf163 9 39 ++ [(Value.bool ab)] ++ (zs zf163 49 19 ++ [(Value.agg #[(eN 7), (eN 12), (eN 6)]), (eN 0)] ++ (us 17))))) (by kernel_rfl) ?_
  refine wJ.is ⟨a161, trivial⟩ rfl rfl (n_eql (a := 0) (b := 0) rfl rfl (decide_eq_true rfl)) ?_
  refine wJ.flat ([(zf163 0), (Value.bool ab)] ++ (zs zf163 2 6 ++ [(ptr g0 0)] ++ (zs zf163 9 39 ++ [(Value.bool ab)] ++ (zs zf163 49 19 ++ [(Value.agg #[(eN 7), (eN 12), (eN 6)]), (eN 0), (Value.bool true)] ++ (us 16))))) (by kernel_rfl) ?_
  refine wJ.is ⟨a161, trivial⟩ rfl rfl (d_move rfl) ?_
  refine wJ.flat ([(zf163 0), (Value.bool ab)] ++ (zs zf163 2 6 ++ [(ptr g0 0)] ++ (zs zf163 9 39 ++ [(Value.bool ab)] ++ (zs zf163 49 19 ++ [(Value.agg #[(eN 7), (eN 12), (eN 6)]), (eN 0), (Value.bool true), (Value.bool true)] ++ (us 15))))) (by kernel_rfl) ?_
  refine wJ.done ⟨a161, trivial⟩ ?_
  refine rest_seg (n := 20) (p := 4) (q := 12) [4, 7, 8] [5, 6, 9, 10, 11] [(4, 72), (7, 75), (8, 76)] [(0, 68), (1, 69), (2, 70), (3, 71), (4, 72), (5, 73), (6, 74), (7, 75), (8, 76), (9, 77), (10, 78), (11, 79), (12, 80), (13, 81), (14, 82), (15, 83), (16, 84), (17, 85), (18, 86), (19, 6)] [0, 1, 3, 7, 15, 31, 63, 15, 143, 511, 1023, 2047, 4095, 8191, 4095, 20479, 53247, 131071, 262143, 524287] (fun i_ => nth [undef, undef, undef, undef, (Value.agg #[(eN 7), (eN 12), (eN 6)]), undef, undef, (ptr g0 1), (eN 12)] i_) ([(zf163 0), (Value.bool ab)] ++ (zs zf163 2 6 ++ [(ptr g0 0)] ++ (zs zf163 9 39 ++ [(Value.bool ab)] ++ (zs zf163 49 19 ++ [(Value.agg #[(eN 7), (eN 12), (eN 6)]), (eN 0), (Value.bool true), (Value.bool true), (Value.agg #[(eN 7), (eN 12), (eN 6)]), undef, undef, (ptr g0 1), (eN 12)] ++ (us 10))))) (fun w_ => Arr 25 g0 [(eN 7), (eN 12), (eN 6)] w_ ∧ True) (by kernel_rfl) rfl (by decide) (by kernel_rfl) (by kernel_rfl) (by rfl) (by kernel_rfl) (by kernel_rfl) (by kernel_rfl) (by kernel_rfl) (by kernel_rfl) (by decide) ?_ ?_
  ·
   rintro w_ ⟨a161, _⟩
   refine fl_cons ⟨_, rfl, gd_on rfl rfl rfl (nb rfl) rfl (d_loadAg (vs := [(eN 7), (eN 12), (eN 6)]) ⟨_, Try.underlying25, rfl⟩ s_ti25 rfl a161 rfl rfl)⟩ ?_
   refine fl_cons ⟨_, rfl, gd_on rfl rfl rfl (nb rfl) rfl (d_fieldAddr (j := 1) Try.underlying25 rfl s_ti3 (by decide) rfl rfl)⟩ ?_
   refine fl_cons ⟨_, rfl, gd_on rfl rfl rfl (nb rfl) rfl (d_load (v := (eN 12)) ⟨_, Try.underlying3, rfl⟩ rfl a161 rfl)⟩ ?_
   exact fl_nil
  refine wJ.on ⟨a161, trivial⟩ rfl rfl rfl rfl (nb rfl) rfl (d_call (xl := [.tmp 72, .const (.slice none 0 0)]) (al := [(Value.agg #[(eN 7), (eN 12), (eN 6)]), (Value.slice none 0 0)]) Try.func31 (by kernel_rfl) rfl rfl rfl (supers_ok 7 12 6 ([] : List (Int × Int)) (Value.slice none 0 0) _ seqA_nil (by first | omega | (simp; done) | (simp; omega)) (by omega) (by omega) (by omega))) ?_
  rintro u171 w169 ⟨ws172, hw173, f174, g175, o170⟩
  replace f174 := f174.less (Y := (Or1 g0 (Old W.heap.size))) (or1_old a161.lt (old_old oW.size))
  replace g175 := g175.less (Y := (Or1 g0 (Old W.heap.size))) (or1_old a161.lt (old_old oW.size))
  replace a161 := a161.step0 o170
  replace oW := oW.tail0 o170
  refine wJ.flat ([(zf163 0), (Value.bool ab)] ++ (zs zf163 2 6 ++ [(ptr g0 0)] ++ (zs zf163 9 39 ++ [(Value.bool ab)] ++ (zs zf163 49 19 ++ [(Value.agg #[(eN 7), (eN 12), (eN 6)]), (eN 0), (Value.bool true), (Value.bool true), (Value.agg #[(eN 7), (eN 12), (eN 6)]), u171, undef, (ptr g0 1), (eN 12)] ++ (us 10))))) (by kernel_rfl) ?_
  refine wJ.onis ⟨a161, trivial⟩ rfl rfl rfl rfl (nb rfl) rfl (d_lenS rfl Try.underlying47 rfl f174) ?_
  refine wJ.flat ([(zf163 0), (Value.bool ab)] ++ (zs zf163 2 6 ++ [(ptr g0 0)] ++ (zs zf163 9 39 ++ [(Value.bool ab)] ++ (zs zf163 49 19 ++ [(Value.agg #[(eN 7), (eN 12), (eN 6)]), (eN 0), (Value.bool true), (Value.bool true), (Value.agg #[(eN 7), (eN 12), (eN 6)]), u171, (eN ws172.length), (ptr g0 1), (eN 12)] ++ (us 10))))) (by kernel_rfl) ?_
  refine wJ.onis ⟨a161, trivial⟩ rfl rfl rfl rfl (nb rfl) rfl (n_eql (a := ws172.length) (b := 12) rfl rfl (decide_eq_true (by rw [hw173]; exact nMin_none _ _))) ?_
  refine wJ.flat ([(zf163 0), (Value.bool ab)] ++ (zs zf163 2 6 ++ [(ptr g0 0)] ++ (zs zf163 9 39 ++ [(Value.bool ab)] ++ (zs zf163 49 19 ++ [(Value.agg #[(eN 7), (eN 12), (eN 6)]), (eN 0), (Value.bool true), (Value.bool true), (Value.agg #[(eN 7), (eN 12), (eN 6)]), u171, (eN ws172.length), (ptr g0 1), (eN 12), (Value.bool true)] ++ (us 9))))) (by kernel_rfl) ?_
  refine wJ.is ⟨a161, trivial⟩ rfl rfl (d_pick (b := true) (v := (Value.bool true)) rfl rfl) ?_
  refine wJ.flat ([(zf163 0), (Value.bool ab)] ++ (zs zf163 2 6 ++ [(ptr g0 0)] ++ (zs zf163 9 39 ++ [(Value.bool ab)] ++ (zs zf163 49 19 ++ [(Value.agg #[(eN 7), (eN 12), (eN 6)]), (eN 0), (Value.bool true), (Value.bool true), (Value.agg #[(eN 7), (eN 12), (eN 6)]), u171, (eN ws172.length), (ptr g0 1), (eN 12), (Value.bool true), (Value.bool true)] ++ (us 8))))) (by kernel_rfl) ?_
  refine wJ.is ⟨a161, trivial⟩ rfl rfl (d_move rfl) ?_
  refine wJ.flat ([(zf163 0), (Value.bool ab)] ++ (zs zf163 2 6 ++ [(ptr g0 0)] ++ (zs zf163 9 39 ++ [(Value.bool ab)] ++ (zs zf163 49 19 ++ [(Value.agg #[(eN 7), (eN 12), (eN 6)]), (eN 0), (Value.bool true), (Value.bool true), (Value.agg #[(eN 7), (eN 12), (eN 6)]), u171, (eN ws172.length), (ptr g0 1), (eN 12), (Value.bool true), (Value.bool true), (Value.bool true)] ++ (us 7))))) (by kernel_rfl) ?_
  refine wJ.done ⟨a161, trivial⟩ ?_
  refine rest_seg (n := 20) (p := 12) (q := 20) [12, 14, 15, 16] [13, 17, 18, 19] [(12, 80), (14, 82), (15, 83), (16, 84)] [(0, 68), (1, 69), (2, 70), (3, 71), (4, 72), (5, 73), (6, 74), (7, 75), (8, 76), (9, 77), (10, 78), (11, 79), (12, 80), (13, 81), (14, 82), (15, 83), (16, 84), (17, 85), (18, 86), (19, 6)] [0, 1, 3, 7, 15, 31, 63, 15, 143, 511, 1023, 2047, 4095, 8191, 4095, 20479, 53247, 131071, 262143, 524287] (fun i_ => nth [undef, undef, undef, undef, undef, undef, undef, undef, undef, undef, undef, undef, (Value.agg #[(eN 7), (eN 12), (eN 6)]), undef, (ptr g0 0), (eN 7), (eN 5)] i_) ([(zf163 0), (Value.bool ab)] ++ (zs zf163 2 6 ++ [(ptr g0 0)] ++ (zs zf163 9 39 ++ [(Value.bool ab)] ++ (zs zf163 49 19 ++ [(Value.agg #[(eN 7), (eN 12), (eN 6)]), (eN 0), (Value.bool true), (Value.bool true), (Value.agg #[(eN 7), (eN 12), (eN 6)]), u171, (eN ws172.length), (ptr g0 1), (eN 12), (Value.bool true), (Value.bool true), (Value.bool true), (Value.agg #[(eN 7), (eN 12), (eN 6)]), undef, (ptr g0 0), (eN 7), (eN 5), undef, undef])))) (fun w_ => Ps (Or1 g0 (Old W.heap.size)) (Seq (kS eV) ws172 u171) w_ ∧ Arr 25 g0 [(eN 7), (eN 12), (eN 6)] w_ ∧ True) (by kernel_rfl) rfl (by decide) (by kernel_rfl) (by kernel_rfl) (by rfl) (by kernel_rfl) (by kernel_rfl) (by kernel_rfl) (by kernel_rfl) (by kernel_rfl) (by decide) ?_ ?_
  ·
   rintro w_ ⟨f174, a161, _⟩
   refine fl_cons ⟨_, rfl, gd_on rfl rfl rfl (nb rfl) rfl (d_loadAg (vs := [(eN 7), (eN 12), (eN 6)]) ⟨_, Try.underlying25, rfl⟩ s_ti25 rfl a161 rfl rfl)⟩ ?_
   refine fl_cons ⟨_, rfl, gd_on rfl rfl rfl (nb rfl) rfl (d_fieldAddr (j := 0) Try.underlying25 rfl s_ti3 (by decide) rfl rfl)⟩ ?_
   refine fl_cons ⟨_, rfl, gd_on rfl rfl rfl (nb rfl) rfl (d_load (v := (eN 7)) ⟨_, Try.underlying3, rfl⟩ rfl a161 rfl)⟩ ?_
   refine fl_cons ⟨_, rfl, gd_on rfl rfl rfl (nb rfl) rfl (n_sub (a := 7) (b := 2) rfl rfl (by omega) (by omega))⟩ ?_
   exact fl_nil
  refine wJ.on ⟨f174, a161, trivial⟩ rfl rfl rfl rfl (nb rfl) rfl (d_call (xl := [.tmp 80]) (al := [(Value.agg #[(eN 7), (eN 12), (eN 6)])]) Try.func35 (by kernel_rfl) rfl rfl rfl (cw_is (v' := eN (7 - 2)) (gSlots_ok 7 12 6 _) (congrArg eI ((if_pos (show fitsI 7 12 6 = true from (fits_is (by omega)).symm)).trans (by omega))))) ?_
  rintro _ w176 ⟨rfl, o177⟩
  replace f174 := f174.step0 o177
  replace g175 := g175.step0 o177
  replace a161 := a161.step0 o177
  replace oW := oW.tail0 o177
  refine wJ.flat ([(zf163 0), (Value.bool ab)] ++ (zs zf163 2 6 ++ [(ptr g0 0)] ++ (zs zf163 9 39 ++ [(Value.bool ab)] ++ (zs zf163 49 19 ++ [(Value.agg #[(eN 7), (eN 12), (eN 6)]), (eN 0), (Value.bool true), (Value.bool true), (Value.agg #[(eN 7), (eN 12), (eN 6)]), u171, (eN ws172.length), (ptr g0 1), (eN 12), (Value.bool true), (Value.bool true), (Value.bool true), (Value.agg #[(eN 7), (eN 12), (eN 6)]), (eN (7 - 2)), (ptr g0 0), (eN 7), (eN 5), undef, undef])))) (by kernel_rfl) ?_
  refine wJ.onis ⟨f174, a161, trivial⟩ rfl rfl rfl rfl (nb rfl) rfl (n_eql (a := (7 - 2)) (b := 5) rfl rfl rfl) ?_
  refine wJ.flat ([(zf163 0), (Value.bool ab)] ++ (zs zf163 2 6 ++ [(ptr g0 0)] ++ (zs zf163 9 39 ++ [(Value.bool ab)] ++ (zs zf163 49 19 ++ [(Value.agg #[(eN 7), (eN 12), (eN 6)]), (eN 0), (Value.bool true), (Value.bool true), (Value.agg #[(eN 7), (eN 12), (eN 6)]), u171, (eN ws172.length), (ptr g0 1), (eN 12), (Value.bool true), (Value.bool true), (Value.bool true), (Value.agg #[(eN 7), (eN 12), (eN 6)]), (eN (7 - 2)), (ptr g0 0), (eN 7), (eN 5), (Value.bool (decide ((7 - 2) = 5))), undef])))) (by kernel_rfl) ?_
  refine wJ.is ⟨f174, a161, trivial⟩ rfl rfl (d_pick (b := true) (v := (Value.bool (decide ((7 - 2) = 5)))) rfl rfl) ?_
  refine wJ.flat ([(zf163 0), (Value.bool ab)] ++ (zs zf163 2 6 ++ [(ptr g0 0)] ++ (zs zf163 9 39 ++ [(Value.bool ab)] ++ (zs zf163 49 19 ++ [(Value.agg #[(eN 7), (eN 12), (eN 6)]), (eN 0), (Value.bool true), (Value.bool true), (Value.agg #[(eN 7), (eN 12), (eN 6)]), u171, (eN ws172.length), (ptr g0 1), (eN 12), (Value.bool true), (Value.bool true), (Value.bool true), (Value.agg #[(eN 7), (eN 12), (eN 6)]), (eN (7 - 2)), (ptr g0 0), (eN 7), (eN 5), (Value.bool (decide ((7 - 2) = 5))), (Value.bool (decide ((7 - 2) = 5)))])))) (by kernel_rfl) ?_
  refine wJ.is ⟨f174, a161, trivial⟩ rfl rfl (d_assign rfl) ?_
  refine wJ.flat ([(zf163 0), (Value.bool ab), (zf163 2), (zf163 3), (zf163 4), (zf163 5), (Value.bool (decide ((7 - 2) = 5))), (zf163 7), (ptr g0 0)] ++ (zs zf163 9 39 ++ [(Value.bool ab)] ++ (zs zf163 49 19 ++ [(Value.agg #[(eN 7), (eN 12), (eN 6)]), (eN 0), (Value.bool true), (Value.bool true), (Value.agg #[(eN 7), (eN 12), (eN 6)]), u171, (eN ws172.length), (ptr g0 1), (eN 12), (Value.bool true), (Value.bool true), (Value.bool true), (Value.agg #[(eN 7), (eN 12), (eN 6)]), (eN (7 - 2)), (ptr g0 0), (eN 7), (eN 5), (Value.bool (decide ((7 - 2) = 5))), (Value.bool (decide ((7 - 2) = 5)))]))) (by kernel_rfl) ?_
  refine wJ.done ⟨f174, a161, trivial⟩ ?_
  refine rest_done rfl ?_
  refine then_n ?_
  refine forget (fun zf178 => (zs zf178 0 6 ++ [(Value.bool (decide ((7 - 2) = 5)))] ++ (zs zf178 7 80))) (by kernel_rfl) (fun zf178 => ?_)
  refine wpIn_ret ?_
  refine leave0 (v := (Value.bool (decide ((7 - 2) = 5)))) (res1 Try.results13 rfl) ?_
  exact ⟨rfl, oW⟩
 refine wpIn_seq ?_
 refine plain ?_
 refine wI (n_eql (a := ((wh % ((6 : Nat) : Int)).toNat)) (b := 3) rfl rfl rfl) ?_
 refine wI (d_assign rfl) ?_
 refine wF ([(zf118 0), (Value.bool ab)] ++ (zs zf118 2 5 ++ [(eN 0), (ptr g0 0)] ++ (zs zf118 9 8 ++ [(eN ((wh % ((6 : Nat) : Int)).toNat)), (Value.bool (decide (((wh % ((6 : Nat) : Int)).toNat) = 0))), (Value.bool (decide (((wh % ((6 : Nat) : Int)).toNat) = 0))), (zf118 20), (zf118 21), (zf118 22), (Value.bool (decide (((wh % ((6 : Nat) : Int)).toNat) = 1))), (Value.bool (decide (((wh % ((6 : Nat) : Int)).toNat) = 1))), (zf118 25), (zf118 26), (zf118 27), (Value.bool (decide (((wh % ((6 : Nat) : Int)).toNat) = 2))), (Value.bool (decide (((wh % ((6 : Nat) : Int)).toNat) = 2))), (zf118 30), (zf118 31), (zf118 32), (Value.bool (decide (((wh % ((6 : Nat) : Int)).toNat) = 3))), (Value.bool (decide (((wh % ((6 : Nat) : Int)).toNat) = 3)))] ++ (zs zf118 35 33 ++ (us 19))))) ?_
 refine wpL.done ?_
 refine then_n ?_
 refine cond_if rfl (fun c179 => ?_) (fun c179 => ?_)
 ·
  refine plain ?_
  refine wI (d_move rfl) ?_
  refine wI (d_sub (k := .i64) (m := 8) (n := 0) rfl rfl (r := 8) (by decide)) ?_
  refine wI (d_fieldAddr (j := 1) Try.underlying25 rfl s_ti3 (by decide) rfl rfl) ?_
  refine wF ([(zf118 0), (Value.bool ab)] ++ (zs zf118 2 5 ++ [(eN 0), (ptr g0 0)] ++ (zs zf118 9 8 ++ [(eN ((wh % ((6 : Nat) : Int)).toNat)), (Value.bool (decide (((wh % ((6 : Nat) : Int)).toNat) = 0))), (Value.bool (decide (((wh % ((6 : Nat) : Int)).toNat) = 0))), (zf118 20), (zf118 21), (zf118 22), (Value.bool (decide (((wh % ((6 : Nat) : Int)).toNat) = 1))), (Value.bool (decide (((wh % ((6 : Nat) : Int)).toNat) = 1))), (zf118 25), (zf118 26), (zf118 27), (Value.bool (decide (((wh % ((6 : Nat) : Int)).toNat) = 2))), (Value.bool (decide (((wh % ((6 : Nat) : Int)).toNat) = 2))), (zf118 30), (zf118 31), (zf118 32), (Value.bool (decide (((wh % ((6 : Nat) : Int)).toNat) = 3))), (Value.bool (decide (((wh % ((6 : Nat) : Int)).toNat) = 3))), (eN 0), (eN 8), (ptr g0 1)] ++ (zs zf118 38 30 ++ (us 19))))) ?_
  refine wO (d_store s_ti3 rfl rfl rfl a114 (nb rfl) rfl) ?_
  rintro _ w180 ⟨a181, o182⟩
  replace oW := oW.tailb o182 g_oW_g0
  refine wF ([(zf118 0), (Value.bool ab)] ++ (zs zf118 2 5 ++ [(eN 0), (ptr g0 0)] ++ (zs zf118 9 8 ++ [(eN ((wh % ((6 : Nat) : Int)).toNat)), (Value.bool (decide (((wh % ((6 : Nat) : Int)).toNat) = 0))), (Value.bool (decide (((wh % ((6 : Nat) : Int)).toNat) = 0))), (zf118 20), (zf118 21), (zf118 22), (Value.bool (decide (((wh % ((6 : Nat) : Int)).toNat) = 1))), (Value.bool (decide (((wh % ((6 : Nat) : Int)).toNat) = 1))), (zf118 25), (zf118 26), (zf118 27), (Value.bool (decide (((wh % ((6 : Nat) : Int)).toNat) = 2))), (Value.bool (decide (((wh % ((6 : Nat) : Int)).toNat) = 2))), (zf118 30), (zf118 31), (zf118 32), (Value.bool (decide (((wh % ((6 : Nat) : Int)).toNat) = 3))), (Value.bool (decide (((wh % ((6 : Nat) : Int)).toNat) = 3))), (eN 0), (eN 8), (ptr g0 1)] ++ (zs zf118 38 30 ++ (us 19))))) ?_
  refine wpL.done ?_
  refine inb_n (then_n ?_)
  refine forget (fun zf183 => ([(zf183 0), (Value.bool ab)] ++ (zs zf183 2 6 ++ [(ptr g0 0)] ++ (zs zf183 9 59 ++ (us 19))))) (by kernel_rfl) (fun zf183 => ?_)
  refine wpIn_seq ?_
  refine wpIn_seq ?_
  refine plain ?_
  refine wI (d_move rfl) ?_
  refine wF ([(zf183 0), (Value.bool ab)] ++ (zs zf183 2 6 ++ [(ptr g0 0)] ++ (zs zf183 9 39 ++ [(Value.bool ab)] ++ (zs zf183 49 19 ++ (us 19))))) ?_
  refine wpL.done ?_
  refine then_n ?_
  refine cond_f (congrArg Value.bool c1) ?_
  refine wpIn_skip ?_
  refine then_n ?_
  refine wpIn_seq ?_
  refine drawnG (O := (Or1 g0 No)) (n := 20) 0 [0, 1, 3, 7, 15, 31, 63, 15, 143, 511, 1023, 2047, 4095, 8191, 4095, 20479, 53247, 131071, 262143, 524287] [(0, 68), (1, 69), (2, 70), (3, 71), (4, 72), (5, 73), (6, 74), (7, 75), (8, 76), (9, 77), (10, 78), (11, 79), (12, 80), (13, 81), (14, 82), (15, 83), (16, 84), (17, 85), (18, 86), (19, 6)] [] [] [] (fun i_ => ([] : List (RF (Or1 g0 No))).getD i_ (RF.any (Or1 g0 No))) (fun _ w_ => Arr 25 g0 [(eN 7), (eN 8), (eN 6)] w_) (fun v184 => ([(zf183 0), (Value.bool ab), (zf183 2), (zf183 3), (zf183 4), (zf183 5), (v184 19), (zf183 7), (ptr g0 0)] ++ (zs zf183 9 39 ++ [(Value.bool ab)] ++ (zs zf183 49 19 ++ [(v184 0), (v184 1), (v184 2), (v184 3), (v184 4), (v184 5), (v184 6), (v184 7), (v184 8), (v184 9), (v184 10), (v184 11), (v184 12), (v184 13), (v184 14), (v184 15), (v184 16), (v184 17), (v184 18)])))) (fun v184 => ([(zf183 0), (Value.bool ab)] ++ (zs zf183 2 6 ++ [(ptr g0 0)] ++ (zs zf183 9 39 ++ [(Value.bool ab)] ++ (zs zf183 49 19 ++ (us 19)))))) s_mx (by kernel_rfl) rfl (by decide) (by rfl) (by kernel_rfl) (by kernel_rfl) (by kernel_rfl) (by rfl) (fun v_ => by kernel_rfl) (fun v_ => by kernel_rfl) (fun _ => fun w_ w2_ h ho => by have r_a181 := h; exact r_a181.step0 ho) a181 ?_ ?_ ?_
  ·
   exact ls_nil
  ·
   exact ms_nil
  intro v184 lo_ hi_ w185 o186 hd hR
  clear hd lo_ hi_
  replace a181 : Arr 25 g0 [(eN 7), (eN 8), (eN 6)] w185 := hR
  clear hR
  replace oW := oW.tail o186 (tl_new g_oW_g0 tl_no)
  refine rest_seg (n := 20) (p := 0) (q := 4) [0] [1, 2, 3] [(0, 68)] [(0, 68), (1, 69), (2, 70), (3, 71), (4, 72), (5, 73), (6, 74), (7, 75), (8, 76), (9, 77), (10, 78), (11, 79), (12, 80), (13, 81), (14, 82), (15, 83), (16, 84), (17, 85), (18, 86), (19, 6)] [0, 1, 3, 7, 15, 31, 63, 15, 143, 511, 1023, 2047, 4095, 8191, 4095, 20479, 53247, 131071, 262143, 524287] (fun i_ => nth [(Value.agg #[(eN 7), (eN 8), (eN 6)])] i_) ([(zf183 0), (Value.bool ab)] ++ (zs zf183 2 6 ++ [(ptr g0 0)] ++ (zs zf183 9 39 ++ [(Value.bool ab)] ++ (zs zf183 49 19 ++ [(Value.agg #[(eN 7), (eN 8), (eN 6)])] ++ (us 18))))) (fun w_ => Arr 25 g0 [(eN 7), (eN 8), (eN 6)] w_ ∧ True) (by kernel_rfl) rfl (by decide) (by kernel_rfl) (by kernel_rfl) (by rfl) (by kernel_rfl) (by kernel_rfl) (by kernel_rfl) (by kernel_rfl) (by kernel_rfl) (by decide) ?_ ?_
  ·
   rintro w_ ⟨a181, _⟩
   refine fl_cons ⟨_, rfl, gd rfl (d_loadAg (vs := [(eN 7), (eN 8), (eN 6)]) ⟨_, Try.underlying25, rfl⟩ s_ti25 rfl a181 rfl rfl)⟩ ?_
   exact fl_nil
  refine wJ.op ⟨a181, trivial⟩ rfl rfl (d_call (xl := [.tmp 68]) (al := [(Value.agg #[(eN 7), (eN 8), (eN 6)])]) Try.func33 (by kernel_rfl) rfl rfl rfl (cw_is (v' := eN 0) (gCheck_ok 7 8 6 _) (by rw [(show fitsI 7 8 6 = true from (fits_is (by omega)).symm)] <;> rfl))) ?_
  rintro _ w187 ⟨rfl, o188⟩
  replace a181 := a181.step0 o188
  replace oW := oW.tail0 o188
  refine wJ.flat ([(zf183 0), (Value.bool ab)] ++ (zs zf183 2 6 ++ [(ptr g0 0)] ++ (zs zf183 9 39 ++ [(Value.bool ab)] ++ (zs zf183 49 19 ++ [(Value.agg #[(eN 7), (eN 8), (eN 6)]), (eN 0)] ++ (us 17))))) (by kernel_rfl) ?_
  refine wJ.is ⟨a181, trivial⟩ rfl rfl (n_eql (a := 0) (b := 0) rfl rfl (decide_eq_true rfl)) ?_
  refine wJ.flat ([(zf183 0), (Value.bool ab)] ++ (zs zf183 2 6 ++ [(ptr g0 0)] ++ (zs zf183 9 39 ++ [(Value.bool ab)] ++ (zs zf183 49 19 ++ [(Value.agg #[(eN 7), (eN 8), (eN 6)]), (eN 0), (Value.bool true)] ++ (us 16))))) (by kernel_rfl) ?_
  refine wJ.is ⟨a181, trivial⟩ rfl rfl (d_move rfl) ?_
  refine wJ.flat ([(zf183 0), (Value.bool ab)] ++ (zs zf183 2 6 ++ [(ptr g0 0)] ++ (zs zf183 9 39 ++ [(Value.bool ab)] ++ (zs zf183 49 19 ++ [(Value.agg #[(eN 7), (eN 8), (eN 6)]), (eN 0), (Value.bool true), (Value.bool true)] ++ (us 15))))) (by kernel_rfl) ?_
  refine wJ.done ⟨a181, trivial⟩ ?_
  refine rest_seg (n := 20) (p := 4) (q := 12) [4, 7, 8] [5, 6, 9, 10, 11] [(4, 72), (7, 75), (8, 76)] [(0, 68), (1, 69), (2, 70), (3, 71), (4, 72), (5, 73), (6, 74), (7, 75), (8, 76), (9, 77), (10, 78), (11, 79), (12, 80), (13, 81), (14, 82), (15, 83), (16, 84), (17, 85), (18, 86), (19, 6)] [0, 1, 3, 7, 15, 31, 63, 15, 143, 511, 1023, 2047, 4095, 8191, 4095, 20479, 53247, 131071, 262143, 524287] (fun i_ => nth [undef, undef, undef, undef, (Value.agg #[(eN 7), (eN 8), (eN 6)]), undef, undef, (ptr g0 1), (eN 8)] i_) ([(zf183 0), (Value.bool ab)] ++ (zs zf183 2 6 ++ [(ptr g0 0)] ++ (zs zf183 9 39 ++ [(Value.bool ab)] ++ (zs zf183 49 19 ++ [(Value.agg #[(eN 7), (eN 8), (eN 6)]), (eN 0), (Value.bool true), (Value.bool true), (Value.agg #[(eN 7), (eN 8), (eN 6)]), undef, undef, (ptr g0 1), (eN 8)] ++ (us 10))))) (fun w_ => Arr 25 g0 [(eN 7), (eN 8), (eN 6)] w_ ∧ True) (by kernel_rfl) rfl (by decide) (by kernel_rfl) (by kernel_rfl) (by rfl) (by kernel_rfl) (by kernel_rfl) (by kernel_rfl) (by kernel_rfl) (by kernel_rfl) (by decide) ?_ ?_
  ·
   rintro w_ ⟨a181, _⟩
   refine fl_cons ⟨_, rfl, gd_on rfl rfl rfl (nb rfl) rfl (d_loadAg (vs := [(eN 7), (eN 8), (eN 6)]) ⟨_, Try.underlying25, rfl⟩ s_ti25 rfl a181 rfl rfl)⟩ ?_
   refine fl_cons ⟨_, rfl, gd_on rfl rfl rfl (nb rfl) rfl (d_fieldAddr (j := 1) Try.underlying25 rfl s_ti3 (by decide) rfl rfl)⟩ ?_
   refine fl_cons ⟨_, rfl, gd_on rfl rfl rfl (nb rfl) rfl (d_load (v := (eN 8)) ⟨_, Try.underlying3, rfl⟩ rfl a181 rfl)⟩ ?_
   exact fl_nil
  refine wJ.on ⟨a181, trivial⟩ rfl rfl rfl rfl (nb rfl) rfl (d_call (xl := [.tmp 72, .const (.slice none 0 0)]) (al := [(Value.agg #[(eN 7), (eN 8), (eN 6)]), (Value.slice none 0 0)]) Try.func31 (by kernel_rfl) rfl rfl rfl (supers_ok 7 8 6 ([] : List (Int × Int)) (Value.slice none 0 0) _ seqA_nil (by first | omega | (simp; done) | (simp; omega)) (by omega) (by omega) (by omega))) ?_
  rintro u191 w189 ⟨ws192, hw193, f194, g195, o190⟩
  replace f194 := f194.less (Y := (Or1 g0 (Old W.heap.size))) (or1_old a181.lt (old_old oW.size))
  replace g195 := g195.less (Y := (Or1 g0 (Old W.heap.size))) (or1_old a181.lt (old_old oW.size))
  replace a181 := a181.step0 o190
  replace oW := oW.tail0 o190
  refine wJ.flat ([(zf183 0), (Value.bool ab)] ++ (zs zf183 2 6 ++ [(ptr g0 0)] ++ (zs zf183 9 39 ++ [(Value.bool ab)] ++ (zs zf183 49 19 ++ [(Value.agg #[(eN 7), (eN 8), (eN 6)]), (eN 0), (Value.bool true), (Value.bool true), (Value.agg #[(eN 7), (eN 8), (eN 6)]), u191, undef, (ptr g0 1), (eN 8)] ++ (us 10))))) (by kernel_rfl) ?_
  refine wJ.onis ⟨a181, trivial⟩ rfl rfl rfl rfl (nb rfl) rfl (d_lenS rfl Try.underlying47 rfl f194) ?_
  refine wJ.flat ([(zf183 0), (Value.bool ab)] ++ (zs zf183 2 6 ++ [(ptr g0 0)] ++ (zs zf183 9 39 ++ [(Value.bool ab)] ++ (zs zf183 49 19 ++ [(Value.agg #[(eN 7), (eN 8), (eN 6)]), (eN 0), (Value.bool true), (Value.bool true), (Value.agg #[(eN 7), (eN 8), (eN 6)]), u191, (eN ws192.length), (ptr g0 1), (eN 8)] ++ (us 10))))) (by kernel_rfl) ?_
  refine wJ.onis ⟨a181, trivial⟩ rfl rfl rfl rfl (nb rfl) rfl (n_eql (a := ws192.length) (b := 8) rfl rfl (decide_eq_true (by rw [hw193]; exact nMin_none _ _))) ?_
  refine wJ.flat ([(zf183 0), (Value.bool ab)] ++ (zs zf183 2 6 ++ [(ptr g0 0)] ++ (zs zf183 9 39 ++ [(Value.bool ab)] ++ (zs zf183 49 19 ++ [(Value.agg #[(eN 7), (eN 8), (eN 6)]), (eN 0), (Value.bool true), (Value.bool true), (Value.agg #[(eN 7), (eN 8), (eN 6)]), u191, (eN ws192.length), (ptr g0 1), (eN 8), (Value.bool true)] ++ (us 9))))) (by kernel_rfl) ?_
  refine wJ.is ⟨a181, trivial⟩ rfl rfl (d_pick (b := true) (v := (Value.bool true)) rfl rfl) ?_
  refine wJ.flat ([(zf183 0), (Value.bool ab)] ++ (zs zf183 2 6 ++ [(ptr g0 0)] ++ (zs zf183 9 39 ++ [(Value.bool ab)] ++ (zs zf183 49 19 ++ [(Value.agg #[(eN 7), (eN 8), (eN 6)]), (eN 0), (Value.bool true), (Value.bool true), (Value.agg #[(eN 7), (eN 8), (eN 6)]), u191, (eN ws192.length), (ptr g0 1), (eN 8), (Value.bool true), (Value.bool true)] ++ (us 8))))) (by kernel_rfl) ?_
  refine wJ.is ⟨a181, trivial⟩ rfl rfl (d_move rfl) ?_
  refine wJ.flat ([(zf183 0), (Value.bool ab)] ++ (zs zf183 2 6 ++ [(ptr g0 0)] ++ (zs zf183 9 39 ++ [(Value.bool ab)] ++ (zs zf183 49 19 ++ [(Value.agg #[(eN 7), (eN 8), (eN 6)]), (eN 0), (Value.bool true), (Value.bool true), (Value.agg #[(eN 7), (eN 8), (eN 6)]), u191, (eN ws192.length), (ptr g0 1), (eN 8), (Value.bool true), (Value.bool true), (Value.bool true)] ++ (us 7))))) (by kernel_rfl) ?_
  refine wJ.done ⟨a181, trivial⟩ ?_
  refine rest_seg (n := 20) (p := 12) (q := 20) [12, 14, 15, 16] [13, 17, 18, 19] [(12, 80), (14, 82), (15, 83), (16, 84)] [(0, 68), (1, 69), (2, 70), (3, 71), (4, 72), (5, 73), (6, 74), (7, 75), (8, 76), (9, 77), (10, 78), (11, 79), (12, 80), (13, 81), (14, 82), (15, 83), (16, 84), (17, 85), (18, 86), (19, 6)] [0, 1, 3, 7, 15, 31, 63, 15, 143, 511, 1023, 2047, 4095, 8191, 4095, 20479, 53247, 131071, 262143, 524287] (fun i_ => nth [undef, undef, undef, undef, undef, undef, undef, undef, undef, undef, undef, undef, (Value.agg #[(eN 7), (eN 8), (eN 6)]), undef, (ptr g0 0), (eN 7), (eN 5)] i_) ([(zf183 0), (Value.bool ab)] ++ (zs zf183 2 6 ++ [(ptr g0 0)] ++ (zs zf183 9 39 ++ [(Value.bool ab)] ++ (zs zf183 49 19 ++ [(Value.agg #[(eN 7), (eN 8), (eN 6)]), (eN 0), (Value.bool true), (Value.bool true), (Value.agg #[(eN 7), (eN 8), (eN 6)]), u191, (eN ws192.length), (ptr g0 1), (eN 8), (Value.bool true), (Value.bool true), (Value.bool true), (Value.agg #[(eN 7), (eN 8), (eN 6)]), undef, (ptr g0 0), (eN 7), (eN 5), undef, undef])))) (fun w_ => Ps (Or1 g0 (Old W.heap.size)) (Seq (kS eV) ws192 u191) w_ ∧ Arr 25 g0 [(eN 7), (eN 8), (eN 6)] w_ ∧ True) (by kernel_rfl) rfl (by decide) (by kernel_rfl) (by kernel_rfl) (by rfl) (by kernel_rfl) (by kernel_rfl) (by kernel_rfl) (by kernel_rfl) (by kernel_rfl) (by decide) ?_ ?_
  ·
   rintro w_ ⟨f194, a181, _⟩
   refine fl_cons ⟨_, rfl, gd_on rfl rfl rfl (nb rfl) rfl (d_loadAg (vs := [(eN 7), (eN 8), (eN 6)]) ⟨_, Try.underlying25, rfl⟩ s_ti25 rfl a181 rfl rfl)⟩ ?_
   refine fl_cons ⟨_, rfl, gd_on rfl rfl rfl (nb rfl) rfl (d_fieldAddr (j := 0) Try.underlying25 rfl s_ti3 (by decide) rfl rfl)⟩ ?_
   refine fl_cons ⟨_, rfl, gd_on rfl rfl rfl (nb rfl) rfl (d_load (v := (eN 7)) ⟨_, Try.underlying3, rfl⟩ rfl a181 rfl)⟩ ?_
   refine fl_cons ⟨_, rfl, gd_on rfl rfl rfl (nb rfl) rfl (n_sub (a := 7) (b := 2) rfl rfl (by omega) (by omega))⟩ ?_
   exact fl_nil
  refine wJ.on ⟨f194, a181, trivial⟩ rfl rfl rfl rfl (nb rfl) rfl (d_call (xl := [.tmp 80]) (al := [(Value.agg #[(eN 7), (eN 8), (eN 6)])]) Try.func35 (by kernel_rfl) rfl rfl rfl (cw_is (v' := eN (7 - 2)) (gSlots_ok 7 8 6 _) (congrArg eI ((if_pos (show fitsI 7 8 6 = true from (fits_is (by omega)).symm)).trans (by omega))))) ?_
  rintro _ w196 ⟨rfl, o197⟩
  replace f194 := f194.step0 o197
  replace g195 := g195.step0 o197
  replace a181 := a181.step0 o197
  replace oW := oW.tail0 o197
  refine wJ.flat ([(zf183 0), (Value.bool ab)] ++ (zs zf183 2 6 ++ [(ptr g0 0)] ++ (zs zf183 9 39 ++ [(Value.bool ab)] ++ (zs zf183 49 19 ++ [(Value.agg #[(eN 7), (eN 8), (eN 6)]), (eN 0), (Value.bool true), (Value.bool true), (Value.agg #[(eN 7), (eN 8), (eN 6)]), u191, (eN ws192.length), (ptr g0 1), (eN 8), (Value.bool true), (Value.bool true), (Value.bool true), (Value.agg #[(eN 7), (eN 8), (eN 6)]), (eN (7 - 2)), (ptr g0 0), (eN 7), (eN 5), undef, undef])))) (by kernel_rfl) ?_
  refine wJ.onis ⟨f194, a181, trivial⟩ rfl rfl rfl rfl (nb rfl) rfl (n_eql (a := (7 - 2)) (b := 5) rfl rfl rfl) ?_
  refine wJ.flat ([(zf183 0), (Value.bool ab)] ++ (zs zf183 2 6 ++ [(ptr g0 0)] ++ (zs zf183 9 39 ++ [(Value.bool ab)] ++ (zs zf183 49 19 ++ [(Value.agg #[(eN 7), (eN 8), (eN 6)]), (eN 0), (Value.bool true), (Value.bool true), (Value.agg #[(eN 7), (eN 8), (eN 6)]), u191, (eN ws192.length), (ptr g0 1), (eN 8), (Value.bool true), (Value.bool true), (Value.bool true), (Value.agg #[(eN 7), (eN 8), (eN 6)]), (eN (7 - 2)), (ptr g0 0), (eN 7), (eN 5), (Value.bool (decide ((7 - 2) = 5))), undef])))) (by kernel_rfl) ?_
  refine wJ.is ⟨f194, a181, trivial⟩ rfl rfl (d_pick (b := true) (v := (Value.bool (decide ((7 - 2) = 5)))) rfl rfl) ?_
  refine wJ.flat ([(zf183 0), (Value.bool ab)] ++ (zs zf183 2 6 ++ [(ptr g0 0)] ++ (zs zf183 9 39 ++ [(Value.bool ab)] ++ (zs zf183 49 19 ++ [(Value.agg #[(eN 7), (eN 8), (eN 6)]), (eN 0), (Value.bool true), (Value.bool true), (Value.agg #[(eN 7), (eN 8), (eN 6)]), u191, (eN ws192.length), (ptr g0 1), (eN 8), (Value.bool true), (Value.bool true), (Value.bool true), (Value.agg #[(eN 7), (eN 8), (eN 6)]), (eN (7 - 2)), (ptr g0 0), (eN 7), (eN 5), (Value.bool (decide ((7 - 2) = 5))), (Value.bool (decide ((7 - 2) = 5)))])))) (by kernel_rfl) ?_
  refine wJ.is ⟨f194, a181, trivial⟩ rfl rfl (d_assign rfl) ?_
  refine wJ.flat ([(zf183 0), (Value.bool ab), (zf183 2), (zf183 3), (zf183 4), (zf183 5), (Value.bool (decide ((7 - 2) = 5))), (zf183 7), (ptr g0 0)] ++ (zs zf183 9 39 ++ [(Value.bool ab)] ++ (zs zf183 49 19 ++ [(Value.agg #[(eN 7), (eN 8), (eN 6)]), (eN 0), (Value.bool true), (Value.bool true), (Value.agg #[(eN 7), (eN 8), (eN 6)]), u191, (eN ws192.length), (ptr g0 1), (eN 8), (Value.bool true), (Value.bool true), (Value.bool true), (Value.agg #[(eN 7), (eN 8), (eN 6)]), (eN (7 - 2)), (ptr g0 0), (eN 7), (eN 5), (Value.bool (decide ((7 - 2) = 5))), (Value.bool (decide ((7 - 2) = 5)))]))) (by kernel_rfl) ?_
  refine wJ.done ⟨f194, a181, trivial⟩ ?_
  refine rest_done rfl ?_
  refine then_n ?_
  refine forget (fun zf198 => (zs zf198 0 6 ++ [(Value.bool (decide ((7 - 2) = 5)))] ++ (zs zf198 7 80))) (by kernel_rfl) (fun zf198 => ?_)
  refine wpIn_ret ?_
  refine leave0 (v := (Value.bool (decide ((7 - 2) = 5)))) (res1 Try.results13 rfl) ?_
  exact ⟨rfl, oW⟩
 refine wpIn_seq ?_
 refine plain ?_
 refine wI (n_eql (a := ((wh % ((6 : Nat) : Int)).toNat)) (b := 4) rfl rfl rfl) ?_
 refine wI (d_assign rfl) ?_
 refine wF ([(zf118 0), (Value.bool ab)] ++ (zs zf118 2 5 ++ [(eN 0), (ptr g0 0)] ++ (zs zf118 9 8 ++ [(eN ((wh % ((6 : Nat) : Int)).toNat)), (Value.bool (decide (((wh % ((6 : Nat) : Int)).toNat) = 0))), (Value.bool (decide (((wh % ((6 : Nat) : Int)).toNat) = 0))), (zf118 20), (zf118 21), (zf118 22), (Value.bool (decide (((wh % ((6 : Nat) : Int)).toNat) = 1))), (Value.bool (decide (((wh % ((6 : Nat) : Int)).toNat) = 1))), (zf118 25), (zf118 26), (zf118 27), (Value.bool (decide (((wh % ((6 : Nat) : Int)).toNat) = 2))), (Value.bool (decide (((wh % ((6 : Nat) : Int)).toNat) = 2))), (zf118 30), (zf118 31), (zf118 32), (Value.bool (decide (((wh % ((6 : Nat) : Int)).toNat) = 3))), (Value.bool (decide (((wh % ((6 : Nat) : Int)).toNat) = 3))), (zf118 35), (zf118 36), (zf118 37), (Value.bool (decide (((wh % ((6 : Nat) : Int)).toNat) = 4))), (Value.bool (decide (((wh % ((6 : Nat) : Int)).toNat) = 4)))] ++ (zs zf118 40 28 ++ (us 19))))) ?_
 refine wpL.done ?_
 refine then_n ?_
 refine forget (fun zf199 => ([(zf199 0), (Value.bool ab)] ++ (zs zf199 2 5 ++ [(eN 0), (ptr g0 0)] ++ (zs zf199 9 8 ++ [(eN ((wh % ((6 : Nat) : Int)).toNat))] ++ (zs zf199 18 20 ++ [(Value.bool (decide (((wh % ((6 : Nat) : Int)).toNat) = 4)))] ++ (zs zf199 39 29 ++ (us 19))))))) (by kernel_rfl) (fun zf199 => ?_)
 refine cond_if rfl (fun c200 => ?_) (fun c200 => ?_)
 ·
  refine plain ?_
  refine wI (d_move rfl) ?_
  refine wI (n_add (a := 8) (b := 0) rfl rfl (by omega)) ?_
  refine wI (d_fieldAddr (j := 2) Try.underlying25 rfl s_ti3 (by decide) rfl rfl) ?_
  refine wF ([(zf199 0), (Value.bool ab)] ++ (zs zf199 2 5 ++ [(eN 0), (ptr g0 0)] ++ (zs zf199 9 8 ++ [(eN ((wh % ((6 : Nat) : Int)).toNat))] ++ (zs zf199 18 20 ++ [(Value.bool (decide (((wh % ((6 : Nat) : Int)).toNat) = 4))), (zf199 39), (eN 0), (eN 8), (ptr g0 2)] ++ (zs zf199 43 25 ++ (us 19)))))) ?_
  refine wO (d_store s_ti3 rfl rfl rfl a114 (nb rfl) rfl) ?_
  rintro _ w201 ⟨a202, o203⟩
  replace oW := oW.tailb o203 g_oW_g0
  refine wF ([(zf199 0), (Value.bool ab)] ++ (zs zf199 2 5 ++ [(eN 0), (ptr g0 0)] ++ (zs zf199 9 8 ++ [(eN ((wh % ((6 : Nat) : Int)).toNat))] ++ (zs zf199 18 20 ++ [(Value.bool (decide (((wh % ((6 : Nat) : Int)).toNat) = 4))), (zf199 39), (eN 0), (eN 8), (ptr g0 2)] ++ (zs zf199 43 25 ++ (us 19)))))) ?_
  refine wpL.done ?_
  refine inb_n (then_n ?_)
  refine wpIn_seq ?_
  refine wpIn_seq ?_
  refine plain ?_
  refine wI (d_move rfl) ?_
  refine wF ([(zf199 0), (Value.bool ab)] ++ (zs zf199 2 5 ++ [(eN 0), (ptr g0 0)] ++ (zs zf199 9 8 ++ [(eN ((wh % ((6 : Nat) : Int)).toNat))] ++ (zs zf199 18 20 ++ [(Value.bool (decide (((wh % ((6 : Nat) : Int)).toNat) = 4))), (zf199 39), (eN 0), (eN 8), (ptr g0 2)] ++ (zs zf199 43 5 ++ [(Value.bool ab)] ++ (zs zf199 49 19 ++ (us 19))))))) ?_
  refine wpL.done ?_
  refine then_n ?_
  refine cond_f (congrArg Value.bool c1) ?_
  refine wpIn_skip ?_
  refine then_n ?_
  refine forget (fun zf204 => (zs zf204 0 8 ++ [(ptr g0 0)] ++ (zs zf204 9 59 ++ (us 19)))) (by kernel_rfl) (fun zf204 => ?_)
  refine wpIn_seq ?_
  refine drawnG (O := (Or1 g0 No)) (n := 20) 0 [0, 1, 3, 7, 15, 31, 63, 15, 143, 511, 1023, 2047, 4095, 8191, 4095, 20479, 53247, 131071, 262143, 524287] [(0, 68), (1, 69), (2, 70), (3, 71), (4, 72), (5, 73), (6, 74), (7, 75), (8, 76), (9, 77), (10, 78), (11, 79), (12, 80), (13, 81), (14, 82), (15, 83), (16, 84), (17, 85), (18, 86), (19, 6)] [] [] [] (fun i_ => ([] : List (RF (Or1 g0 No))).getD i_ (RF.any (Or1 g0 No))) (fun _ w_ => Arr 25 g0 [(eN 7), (eN 10), (eN 8)] w_) (fun v205 => (zs zf204 0 6 ++ [(v205 19), (zf204 7), (ptr g0 0)] ++ (zs zf204 9 59 ++ [(v205 0), (v205 1), (v205 2), (v205 3), (v205 4), (v205 5), (v205 6), (v205 7), (v205 8), (v205 9), (v205 10), (v205 11), (v205 12), (v205 13), (v205 14), (v205 15), (v205 16), (v205 17), (v205 18)]))) (fun v205 => (zs zf204 0 8 ++ [(ptr g0 0)] ++ (zs zf204 9 59 ++ (us 19)))) s_mx (by kernel_rfl) rfl (by decide) (by rfl) (by kernel_rfl) (by kernel_rfl) (by kernel_rfl) (by rfl) (fun v_ => by kernel_rfl) (fun v_ => by kernel_rfl) (fun _ => fun w_ w2_ h ho => by have r_a202 := h; exact r_a202.step0 ho) a202 ?_ ?_ ?_
  ·
   exact ls_nil
  ·
   exact ms_nil
  intro v205 lo_ hi_ w206 o207 hd hR
  clear hd lo_ hi_
  replace a202 : Arr 25 g0 [(eN 7), (eN 10), (eN 8)] w206 := hR
  clear hR
  replace oW := oW.tail o207 (tl_new g_oW_g0 tl_no)
  refine rest_seg (n := 20) (p := 0) (q := 4) [0] [1, 2, 3] [(0, 68)] [(0, 68), (1, 69), (2, 70), (3, 71), (4, 72), (5, 73), (6, 74), (7, 75), (8, 76), (9, 77), (10, 78), (11, 79), (12, 80), (13, 81), (14, 82), (15, 83), (16, 84), (17, 85), (18, 86), (19, 6)] [0, 1, 3, 7, 15, 31, 63, 15, 143, 511, 1023, 2047, 4095, 8191, 4095, 20479, 53247, 131071, 262143, 524287] (fun i_ => nth [(Value.agg #[(eN 7), (eN 10), (eN 8)])] i_) (zs zf204 0 8 ++ [(ptr g0 0)] ++ (zs zf204 9 59 ++ [(Value.agg #[(eN 7), (eN 10), (eN 8)])] ++ (us 18))) (fun w_ => Arr 25 g0 [(eN 7), (eN 10), (eN 8)] w_ ∧ True) (by kernel_rfl) rfl (by decide) (by kernel_rfl) (by kernel_rfl) (by rfl) (by kernel_rfl) (by kernel_rfl) (by kernel_rfl) (by kernel_rfl) (by kernel_rfl) (by decide) ?_ ?_
  ·
   rintro w_ ⟨a202, _⟩
   refine fl_cons ⟨_, rfl, gd rfl (d_loadAg (vs := [(eN 7), (eN 10), (eN 8)]) ⟨_, Try.underlying25, rfl⟩ s_ti25 rfl a202 rfl rfl)⟩ ?_
   exact fl_nil
  refine wJ.op ⟨a202, trivial⟩ rfl rfl (d_call (xl := [.tmp 68]) (al := [(Value.agg #[(eN 7), (eN 10), (eN 8)])]) Try.func33 (by kernel_rfl) rfl rfl rfl (cw_is (v' := eN 0) (gCheck_ok 7 10 8 _) (by rw [(show fitsI 7 10 8 = true from (fits_is (by omega)).symm)] <;> rfl))) ?_
  rintro _ w208 ⟨rfl, o209⟩
  replace a202 := a202.step0 o209
  replace oW := oW.tail0 o209
  refine wJ.flat (zs zf204 0 8 ++ [(ptr g0 0)] ++ (zs zf204 9 59 ++ [(Value.agg #[(eN 7), (eN 10), (eN 8)]), (eN 0)] ++ (us 17))) (by kernel_rfl) ?_
  refine wJ.is ⟨a202, trivial⟩ rfl rfl (n_eql (a := 0) (b := 0) rfl rfl (decide_eq_true rfl)) ?_
  refine wJ.flat (zs zf204 0 8 ++ [(ptr g0 0)] ++ (zs zf204 9 59 ++ [(Value.agg #[(eN 7), (eN 10), (eN 8)]), (eN 0), (Value.bool true)] ++ (us 16))) (by kernel_rfl) ?_
  refine wJ.is ⟨a202, trivial⟩ rfl rfl (d_move rfl) ?_
  refine wJ.flat (zs zf204 0 8 ++ [(ptr g0 0)] ++ (zs zf204 9 59 ++ [(Value.agg #[(eN 7), (eN 10), (eN 8)]), (eN 0), (Value.bool true), (Value.bool true)] ++ (us 15))) (by kernel_rfl) ?_
  refine wJ.done ⟨a202, trivial⟩ ?_
  refine rest_seg (n := 20) (p := 4) (q := 12) [4, 7, 8] [5, 6, 9, 10, 11] [(4, 72), (7, 75), (8, 76)] [(0, 68), (1, 69), (2, 70), (3, 71), (4, 72), (5, 73), (6, 74), (7, 75), (8, 76), (9, 77), (10, 78), (11, 79), (12, 80), (13, 81), (14, 82), (15, 83), (16, 84), (17, 85), (18, 86), (19, 6)] [0, 1, 3, 7, 15, 31, 63, 15, 143, 511, 1023, 2047, 4095, 8191, 4095, 20479, 53247, 131071, 262143, 524287] (fun i_ => nth [undef, undef, undef, undef, (Value.agg #[(eN 7), (eN 10), (eN 8)]), undef, undef, (ptr g0 1), (eN 10)] i_) (zs zf204 0 8 ++ [(ptr g0 0)] ++ (zs zf204 9 59 ++ [(Value.agg #[(eN 7), (eN 10), (eN 8)]), (eN 0), (Value.bool true), (Value.bool true), (Value.agg #[(eN 7), (eN 10), (eN 8)]), undef, undef, (ptr g0 1), (eN 10)] ++ (us 10))) (fun w_ => Arr 25 g0 [(eN 7), (eN 10), (eN 8)] w_ ∧ True) (by kernel_rfl) rfl (by decide) (by kernel_rfl) (by kernel_rfl) (by rfl) (by kernel_rfl) (by kernel_rfl) (by kernel_rfl) (by kernel_rfl) (by kernel_rfl) (by decide) ?_ ?_
  ·
   rintro w_ ⟨a202, _⟩
   refine fl_cons ⟨_, rfl, gd_on rfl rfl rfl (nb rfl) rfl (d_loadAg (vs := [(eN 7), (eN 10), (eN 8)]) ⟨_, Try.underlying25, rfl⟩ s_ti25 rfl a202 rfl rfl)⟩ ?_
   refine fl_cons ⟨_, rfl, gd_on rfl rfl rfl (nb rfl) rfl (d_fieldAddr (j := 1) Try.underlying25 rfl s_ti3 (by decide) rfl rfl)⟩ ?_
   refine fl_cons ⟨_, rfl, gd_on rfl rfl rfl (nb rfl) rfl (d_load (v := (eN 10)) ⟨_, Try.underlying3, rfl⟩ rfl a202 rfl)⟩ ?_
   exact fl_nil
  refine wJ.on ⟨a202, trivial⟩ rfl rfl rfl rfl (nb rfl) rfl (d_call (xl := [.tmp 72, .const (.slice none 0 0)]) (al := [(Value.agg #[(eN 7), (eN 10), (eN 8)]), (Value.slice none 0 0)]) Try.func31 (by kernel_rfl) rfl rfl rfl (supers_ok 7 10 8 ([] : List (Int × Int)) (Value.slice none 0 0) _ seqA_nil (by first | omega | (simp; done) | (simp; omega)) (by omega) (by omega) (by omega))) ?_
  rintro u212 w210 ⟨ws213, hw214, f215, g216, o211⟩
  replace f215 := f215.less (Y := (Or1 g0 (Old W.heap.size))) (or1_old a202.lt (old_old oW.size))
  replace g216 := g216.less (Y := (Or1 g0 (Old W.heap.size))) (or1_old a202.lt (old_old oW.size))
  replace a202 := a202.step0 o211
  replace oW := oW.tail0 o211
  refine wJ.flat (zs zf204 0 8 ++ [(ptr g0 0)] ++ (zs zf204 9 59 ++ [(Value.agg #[(eN 7), (eN 10), (eN 8)]), (eN 0), (Value.bool true), (Value.bool true), (Value.agg #[(eN 7), (eN 10), (eN 8)]), u212, undef, (ptr g0 1), (eN 10)] ++ (us 10))) (by kernel_rfl) ?_
  refine wJ.onis ⟨a202, trivial⟩ rfl rfl rfl rfl (nb rfl) rfl (d_lenS rfl Try.underlying47 rfl f215) ?_
  refine wJ.flat (zs zf204 0 8 ++ [(ptr g0 0)] ++ (zs zf204 9 59 ++ [(Value.agg #[(eN 7), (eN 10), (eN 8)]), (eN 0), (Value.bool true), (Value.bool true), (Value.agg #[(eN 7), (eN 10), (eN 8)]), u212, (eN ws213.length), (ptr g0 1), (eN 10)] ++ (us 10))) (by kernel_rfl) ?_
  refine wJ.onis ⟨a202, trivial⟩ rfl rfl rfl rfl (nb rfl) rfl (n_eql (a := ws213.length) (b := 10) rfl rfl (decide_eq_true (by rw [hw214]; exact nMin_none _ _))) ?_
  refine wJ.flat (zs zf204 0 8 ++ [(ptr g0 0)] ++ (zs zf204 9 59 ++ [(Value.agg #[(eN 7), (eN 10), (eN 8)]), (eN 0), (Value.bool true), (Value.bool true), (Value.agg #[(eN 7), (eN 10), (eN 8)]), u212, (eN ws213.length), (ptr g0 1), (eN 10), (Value.bool true)] ++ (us 9))) (by kernel_rfl) ?_
  refine wJ.is ⟨a202, trivial⟩ rfl rfl (d_pick (b := true) (v := (Value.bool true)) rfl rfl) ?_
  refine wJ.flat (zs zf204 0 8 ++ [(ptr g0 0)] ++ (zs zf204 9 59 ++ [(Value.agg #[(eN 7), (eN 10), (eN 8)]), (eN 0), (Value.bool true), (Value.bool true), (Value.agg #[(eN 7), (eN 10), (eN 8)]), u212, (eN ws213.length), (ptr g0 1), (eN 10), (Value.bool true), (Value.bool true)] ++ (us 8))) (by kernel_rfl) ?_
  refine wJ.is ⟨a202, trivial⟩ rfl rfl (d_move rfl) ?_
  refine wJ.flat (zs zf204 0 8 ++ [(ptr g0 0)] ++ (zs zf204 9 59 ++ [(Value.agg #[(eN 7), (eN 10), (eN 8)]), (eN 0), (Value.bool true), (Value.bool true), (Value.agg #[(eN 7), (eN 10), (eN 8)]), u212, (eN ws213.length), (ptr g0 1), (eN 10), (Value.bool true), (Value.bool true), (Value.bool true)] ++ (us 7))) (by kernel_rfl) ?_
  refine wJ.done ⟨a202, trivial⟩ ?_
  refine rest_seg (n := 20) (p := 12) (q := 20) [12, 14, 15, 16] [13, 17, 18, 19] [(12, 80), (14, 82), (15, 83), (16, 84)] [(0, 68), (1, 69), (2, 70), (3, 71), (4, 72), (5, 73), (6, 74), (7, 75), (8, 76), (9, 77), (10, 78), (11, 79), (12, 80), (13, 81), (14, 82), (15, 83), (16, 84), (17, 85), (18, 86), (19, 6)] [0, 1, 3, 7, 15, 31, 63, 15, 143, 511, 1023, 2047, 4095, 8191, 4095, 20479, 53247, 131071, 262143, 524287] (fun i_ => nth [undef, undef, undef, undef, undef, undef, undef, undef, undef, undef, undef, undef, (Value.agg #[(eN 7), (eN 10), (eN 8)]), undef, (ptr g0 0), (eN 7), (eN 5)] i_) (zs zf204 0 8 ++ [(ptr g0 0)] ++ (zs zf204 9 59 ++ [(Value.agg #[(eN 7), (eN 10), (eN 8)]), (eN 0), (Value.bool true), (Value.bool true), (Value.agg #[(eN 7), (eN 10), (eN 8)]), u212, (eN ws213.length), (ptr g0 1), (eN 10), (Value.bool true), (Value.bool true), (Value.bool true), (Value.agg #[(eN 7), (eN 10), (eN 8)]), undef, (ptr g0 0), (eN 7), (eN 5), undef, undef])) (fun w_ => Ps (Or1 g0 (Old W.heap.size)) (Seq (kS eV) ws213 u212) w_ ∧ Arr 25 g0 [(eN 7), (eN 10), (eN 8)] w_ ∧ True) (by kernel_rfl) rfl (by decide) (by kernel_rfl) (by kernel_rfl) (by rfl) (by kernel_rfl) (by kernel_rfl) (by kernel_rfl) (by kernel_rfl) (by kernel_rfl) (by decide) ?_ ?_
  ·
   rintro w_ ⟨f215, a202, _⟩
   refine fl_cons ⟨_, rfl, gd_on rfl rfl rfl (nb rfl) rfl (d_loadAg (vs := [(eN 7), (eN 10), (eN 8)]) ⟨_, Try.underlying25, rfl⟩ s_ti25 rfl a202 rfl rfl)⟩ ?_
   refine fl_cons ⟨_, rfl, gd_on rfl rfl rfl (nb rfl) rfl (d_fieldAddr (j := 0) Try.underlying25 rfl s_ti3 (by decide) rfl rfl)⟩ ?_
   refine fl_cons ⟨_, rfl, gd_on rfl rfl rfl (nb rfl) rfl (d_load (v := (eN 7)) ⟨_, Try.underlying3, rfl⟩ rfl a202 rfl)⟩ ?_
   refine fl_cons ⟨_, rfl, gd_on rfl rfl rfl (nb rfl) rfl (n_sub (a := 7) (b := 2) rfl rfl (by omega) (by omega))⟩ ?_
   exact fl_nil
  refine wJ.on ⟨f215, a202, trivial⟩ rfl rfl rfl rfl (nb rfl) rfl (d_call (xl := [.tmp 80]) (al := [(Value.agg #[(eN 7), (eN 10), (eN 8)])]) Try.func35 (by kernel_rfl) rfl rfl rfl (cw_is (v' := eN (7 - 2)) (gSlots_ok 7 10 8 _) (congrArg eI ((if_pos (show fitsI 7 10 8 = true from (fits_is (by omega)).symm)).trans (by omega))))) ?_
  rintro _ w217 ⟨rfl, o218⟩
  replace f215 := f215.step0 o218
  replace g216 := g216.step0 o218
  replace a202 := a202.step0 o218
  replace oW := oW.tail0 o218
  refine wJ.flat (zs zf204 0 8 ++ [(ptr g0 0)] ++ (zs zf204 9 59 ++ [(Value.agg #[(eN 7), (eN 10), (eN 8)]), (eN 0), (Value.bool true), (Value.bool true), (Value.agg #[(eN 7), (eN 10), (eN 8)]), u212, (eN ws213.length), (ptr g0 1), (eN 10), (Value.bool true), (Value.bool true), (Value.bool true), (Value.agg #[(eN 7), (eN 10), (eN 8)]), (eN (7 - 2)), (ptr g0 0), (eN 7), (eN 5), undef, undef])) (by kernel_rfl) ?_
  refine wJ.onis ⟨f215, a202, trivial⟩ rfl rfl rfl rfl (nb rfl) rfl (n_eql (a := (7 - 2)) (b := 5) rfl rfl rfl) ?_
  refine wJ.flat (zs zf204 0 8 ++ [(ptr g0 0)] ++ (zs zf204 9 59 ++ [(Value.agg #[(eN 7), (eN 10), (eN 8)]), (eN 0), (Value.bool true), (Value.bool true), (Value.agg #[(eN 7), (eN 10), (eN 8)]), u212, (eN ws213.length), (ptr g0 1), (eN 10), (Value.bool true), (Value.bool true), (Value.bool true), (Value.agg #[(eN 7), (eN 10), (eN 8)]), (eN (7 - 2)), (ptr g0 0), (eN 7), (eN 5), (Value.bool (decide ((7 - 2) = 5))), undef])) (by kernel_rfl) ?_
  refine wJ.is ⟨f215, a202, trivial⟩ rfl rfl (d_pick (b := true) (v := (Value.bool (decide ((7 - 2) = 5)))) rfl rfl) ?_
  refine wJ.flat (zs zf204 0 8 ++ [(ptr g0 0)] ++ (zs zf204 9 59 ++ [(Value.agg #[(eN 7), (eN 10), (eN 8)]), (eN 0), (Value.bool true), (Value.bool true), (Value.agg #[(eN 7), (eN 10), (eN 8)]), u212, (eN ws213.length), (ptr g0 1), (eN 10), (Value.bool true), (Value.bool true), (Value.bool true), (Value.agg #[(eN 7), (eN 10), (eN 8)]), (eN (7 - 2)), (ptr g0 0), (eN 7), (eN 5), (Value.bool (decide ((7 - 2) = 5))), (Value.bool (decide ((7 - 2) = 5)))])) (by kernel_rfl) ?_
  refine wJ.is ⟨f215, a202, trivial⟩ rfl rfl (d_assign rfl) ?_
  refine wJ.flat (zs zf204 0 6 ++ [(Value.bool (decide ((7 - 2) = 5))), (zf204 7), (ptr g0 0)] ++ (zs zf204 9 59 ++ [(Value.agg #[(eN 7), (eN 10), (eN 8)]), (eN 0), (Value.bool true), (Value.bool true), (Value.agg #[(eN 7), (eN 10), (eN 8)]), u212, (eN ws213.length), (ptr g0 1), (eN 10), (Value.bool true), (Value.bool true), (Value.bool true), (Value.agg #[(eN 7), (eN 10), (eN 8)]), (eN (7 - 2)), (ptr g0 0), (eN 7), (eN 5), (Value.bool (decide ((7 - 2) = 5))), (Value.bool (decide ((7 - 2) = 5)))])) (by kernel_rfl) ?_
  refine wJ.done ⟨f215, a202, trivial⟩ ?_
  refine rest_done rfl ?_
  refine then_n ?_
  refine forget (fun zf219 => (zs zf219 0 6 ++ [(Value.bool (decide ((7 - 2) = 5)))] ++ (zs zf219 7 80))) (by kernel_rfl) (fun zf219 => ?_)
  refine wpIn_ret ?_
  refine leave0 (v := (Value.bool (decide ((7 - 2) = 5)))) (res1 Try.results13 rfl) ?_
  exact ⟨rfl, oW⟩
 refine wpIn_seq ?_
 refine plain ?_
 refine wI (n_eql (a := ((wh % ((6 : Nat) : Int)).toNat)) (b := 5) rfl rfl rfl) ?_
 refine wI (d_assign rfl) ?_
 refine wF ([(zf199 0), (Value.bool ab)] ++ (zs zf199 2 5 ++ [(eN 0), (ptr g0 0)] ++ (zs zf199 9 8 ++ [(eN ((wh % ((6 : Nat) : Int)).toNat))] ++ (zs zf199 18 20 ++ [(Value.bool (decide (((wh % ((6 : Nat) : Int)).toNat) = 4))), (zf199 39), (zf199 40), (zf199 41), (zf199 42), (Value.bool (decide (((wh % ((6 : Nat) : Int)).toNat) = 5))), (Value.bool (decide (((wh % ((6 : Nat) : Int)).toNat) = 5)))] ++ (zs zf199 45 23 ++ (us 19)))))) ?_
 refine wpL.done ?_
 refine then_n ?_
 refine cond_if rfl (fun c220 => ?_) (fun c220 => ?_)
 ·
  refine plain ?_
  refine wI (d_move rfl) ?_
  refine wI (d_sub (k := .i64) (m := 4) (n := 0) rfl rfl (r := 4) (by decide)) ?_
  refine wI (d_fieldAddr (j := 2) Try.underlying25 rfl s_ti3 (by decide) rfl rfl) ?_
  refine wF ([(zf199 0), (Value.bool ab)] ++ (zs zf199 2 5 ++ [(eN 0), (ptr g0 0)] ++ (zs zf199 9 8 ++ [(eN ((wh % ((6 : Nat) : Int)).toNat))] ++ (zs zf199 18 20 ++ [(Value.bool (decide (((wh % ((6 : Nat) : Int)).toNat) = 4))), (zf199 39), (zf199 40), (zf199 41), (zf199 42), (Value.bool (decide (((wh % ((6 : Nat) : Int)).toNat) = 5))), (Value.bool (decide (((wh % ((6 : Nat) : Int)).toNat) = 5))), (eN 0), (eN 4), (ptr g0 2)] ++ (zs zf199 48 20 ++ (us 19)))))) ?_
  refine wO (d_store s_ti3 rfl rfl rfl a114 (nb rfl) rfl) ?_
  rintro _ w221 ⟨a222, o223⟩
  replace oW := oW.tailb o223 g_oW_g0
  refine wF ([(zf199 0), (Value.bool ab)] ++ (zs zf199 2 5 ++ [(eN 0), (ptr g0 0)] ++ (zs zf199 9 8 ++ [(eN ((wh % ((6 : Nat) : Int)).toNat))] ++ (zs zf199 18 20 ++ [(Value.bool (decide (((wh % ((6 : Nat) : Int)).toNat) = 4))), (zf199 39), (zf199 40), (zf199 41), (zf199 42), (Value.bool (decide (((wh % ((6 : Nat) : Int)).toNat) = 5))), (Value.bool (decide (((wh % ((6 : Nat) : Int)).toNat) = 5))), (eN 0), (eN 4), (ptr g0 2)] ++ (zs zf199 48 20 ++ (us 19)))))) ?_
  refine wpL.done ?_
  refine inb_n (then_n ?_)
  refine forget (fun zf224 => ([(zf224 0), (Value.bool ab)] ++ (zs zf224 2 6 ++ [(ptr g0 0)] ++ (zs zf224 9 59 ++ (us 19))))) (by kernel_rfl) (fun zf224 => ?_)
  refine wpIn_seq ?_
  refine wpIn_seq ?_
  refine plain ?_
  refine wI (d_move rfl) ?_
  refine wF ([(zf224 0), (Value.bool ab)] ++ (zs zf224 2 6 ++ [(ptr g0 0)] ++ (zs zf224 9 39 ++ [(Value.bool ab)] ++ (zs zf224 49 19 ++ (us 19))))) ?_
  refine wpL.done ?_
  refine then_n ?_
  refine cond_f (congrArg Value.bool c1) ?_
  refine wpIn_skip ?_
  refine then_n ?_
  refine wpIn_seq ?_
  refine drawnG (O := (Or1 g0 No)) (n := 20) 0 [0, 1, 3, 7, 15, 31, 63, 15, 143, 511, 1023, 2047, 4095, 8191, 4095, 20479, 53247, 131071, 262143, 524287] [(0, 68), (1, 69), (2, 70), (3, 71), (4, 72), (5, 73), (6, 74), (7, 75), (8, 76), (9, 77), (10, 78), (11, 79), (12, 80), (13, 81), (14, 82), (15, 83), (16, 84), (17, 85), (18, 86), (19, 6)] [] [] [] (fun i_ => ([] : List (RF (Or1 g0 No))).getD i_ (RF.any (Or1 g0 No))) (fun _ w_ => Arr 25 g0 [(eN 7), (eN 10), (eN 4)] w_) (fun v225 => ([(zf224 0), (Value.bool ab), (zf224 2), (zf224 3), (zf224 4), (zf224 5), (v225 19), (zf224 7), (ptr g0 0)] ++ (zs zf224 9 39 ++ [(Value.bool ab)] ++ (zs zf224 49 19 ++ [(v225 0), (v225 1), (v225 2), (v225 3), (v225 4), (v225 5), (v225 6), (v225 7), (v225 8), (v225 9), (v225 10), (v225 11), (v225 12), (v225 13), (v225 14), (v225 15), (v225 16), (v225 17), (v225 18)])))) (fun v225 => ([(zf224 0), (Value.bool ab)] ++ (zs zf224 2 6 ++ [(ptr g0 0)] ++ (zs zf224 9 39 ++ [(Value.bool ab)] ++ (zs zf224 49 19 ++ (us 19)))))) s_mx (by kernel_rfl) rfl (by decide) (by rfl) (by kernel_rfl) (by kernel_rfl) (by kernel_rfl) (by rfl) (fun v_ => by kernel_rfl) (fun v_ => by kernel_rfl) (fun _ => fun w_ w2_ h ho => by have r_a222 := h; exact r_a222.step0 ho) a222 ?_ ?_ ?_
  ·
   exact ls_nil
  ·
   exact ms_nil
  intro v225 lo_ hi_ w226 o227 hd hR
  clear hd lo_ hi_
  replace a222 : Arr 25 g0 [(eN 7), (eN 10), (eN 4)] w226 := hR
  clear hR
  replace oW := oW.tail o227 (tl_new g_oW_g0 tl_no)
  refine rest_seg (n := 20) (p := 0) (q := 4) [0] [1, 2, 3] [(0, 68)] [(0, 68), (1, 69), (2, 70), (3, 71), (4, 72), (5, 73), (6, 74), (7, 75), (8, 76), (9, 77), (10, 78), (11, 79), (12, 80), (13, 81), (14, 82), (15, 83), (16, 84), (17, 85), (18, 86), (19, 6)] [0, 1, 3, 7, 15, 31, 63, 15, 143, 511, 1023, 2047, 4095, 8191, 4095, 20479, 53247, 131071, 262143, 524287] (fun i_ => nth [(Value.agg #[(eN 7), (eN 10), (eN 4)])] i_) ([(zf224 0), (Value.bool ab)] ++ (zs zf224 2 6 ++ [(ptr g0 0)] ++ (zs zf224 9 39 ++ [(Value.bool ab)] ++ (zs zf224 49 19 ++ [(Value.agg #[(eN 7), (eN 10), (eN 4)])] ++ (us 18))))) (fun w_ => Arr 25 g0 [(eN 7), (eN 10), (eN 4)] w_ ∧ True) (by kernel_rfl) rfl (by decide) (by kernel_rfl) (by kernel_rfl) (by rfl) (by kernel_rfl) (by kernel_rfl) (by kernel_rfl) (by kernel_rfl) (by kernel_rfl) (by decide) ?_ ?_
  ·
   rintro w_ ⟨a222, _⟩
   refine fl_cons ⟨_, rfl, gd rfl (d_loadAg (vs := [(eN 7), (eN 10), (eN 4)]) ⟨_, Try.underlying25, rfl⟩ s_ti25 rfl a222 rfl rfl)⟩ ?_
   exact fl_nil
  refine wJ.op ⟨a222, trivial⟩ rfl rfl (d_call (xl := [.tmp 68]) (al := [(Value.agg #[(eN 7), (eN 10), (eN 4)])]) Try.func33 (by kernel_rfl) rfl rfl rfl (cw_is (v' := eN 0) (gCheck_ok 7 10 4 _) (by rw [(show fitsI 7 10 4 = true from (fits_is (by omega)).symm)] <;> rfl))) ?_
  rintro _ w228 ⟨rfl, o229⟩
  replace a222 := a222.step0 o229
  replace oW := oW.tail0 o229
  refine wJ.flat ([(zf224 0), (Value.bool ab)] ++ (zs zf224 2 6 ++ [(ptr g0 0)] ++ (zs zf224 9 39 ++ [(Value.bool ab)] ++ (zs zf224 49 19 ++ [(Value.agg #[(eN 7), (eN 10), (eN 4)]), (eN 0)] ++ (us 17))))) (by kernel_rfl) ?_
  refine wJ.is ⟨a222, trivial⟩ rfl rfl (n_eql (a := 0) (b := 0) rfl rfl (decide_eq_true rfl)) ?_
  refine wJ.flat ([(zf224 0), (Value.bool ab)] ++ (zs zf224 2 6 ++ [(ptr g0 0)] ++ (zs zf224 9 39 ++ [(Value.bool ab)] ++ (zs zf224 49 19 ++ [(Value.agg #[(eN 7), (eN 10), (eN 4)]), (eN 0), (Value.bool true)] ++ (us 16))))) (by kernel_rfl) ?_
  refine wJ.is ⟨a222, trivial⟩ rfl rfl (d_move rfl) ?_
  refine wJ.flat ([(zf224 0), (Value.bool ab)] ++ (zs zf224 2 6 ++ [(ptr g0 0)] ++ (zs zf224 9 39 ++ [(Value.bool ab)] ++ (zs zf224 49 19 ++ [(Value.agg #[(eN 7), (eN 10), (eN 4)]), (eN 0), (Value.bool true), (Value.bool true)] ++ (us 15))))) (by kernel_rfl) ?_
  refine wJ.done ⟨a222, trivial⟩ ?_
  refine rest_seg (n := 20) (p := 4) (q := 12) [4, 7, 8] [5, 6, 9, 10, 11] [(4, 72), (7, 75), (8, 76)] [(0, 68), (1, 69), (2, 70), (3, 71), (4, 72), (5, 73), (6, 74), (7, 75), (8, 76), (9, 77), (10, 78), (11, 79), (12, 80), (13, 81), (14, 82), (15, 83), (16, 84), (17, 85), (18, 86), (19, 6)] [0, 1, 3, 7, 15, 31, 63, 15, 143, 511, 1023, 2047, 4095, 8191, 4095, 20479, 53247, 131071, 262143, 524287] (fun i_ => nth [undef, undef, undef, undef, (Value.agg #[(eN 7), (eN 10), (eN 4)]), undef, undef, (ptr g0 1), (eN 10)] i_) ([(zf224 0), (Value.bool ab)] ++ (zs zf224 2 6 ++ [(ptr g0 0)] ++ (zs zf224 9 39 ++ [(Value.bool ab)] ++ (zs zf224 49 19 ++ [(Value.agg #[(eN 7), (eN 10), (eN 4)]), (eN 0), (Value.bool true), (Value.bool true), (Value.agg #[(eN 7), (eN 10), (eN 4)]), undef, undef, (ptr g0 1), (eN 10)] ++ (us 10))))) (fun w_ => Arr 25 g0 [(eN 7), (eN 10), (eN 4)] w_ ∧ True) (by kernel_rfl) rfl (by decide) (by kernel_rfl) (by kernel_rfl) (by rfl) (by kernel_rfl) (by kernel_rfl) (by kernel_rfl) (by kernel_rfl) (by kernel_rfl) (by decide) ?_ ?_
  ·
   rintro w_ ⟨a222, _⟩
   refine fl_cons ⟨_, rfl, gd_on rfl rfl rfl (nb rfl) rfl (d_loadAg (vs := [(eN 7), (eN 10), (eN 4)]) ⟨_, Try.underlying25, rfl⟩ s_ti25 rfl a222 rfl rfl)⟩ ?_
   refine fl_cons ⟨_, rfl, gd_on rfl rfl rfl (nb rfl) rfl (d_fieldAddr (j := 1) Try.underlying25 rfl s_ti3 (by decide) rfl rfl)⟩ ?_
   refine fl_cons ⟨_, rfl, gd_on rfl rfl rfl (nb rfl) rfl (d_load (v := (eN 10)) ⟨_, Try.underlying3, rfl⟩ rfl a222 rfl)⟩ ?_
   exact fl_nil
  refine wJ.on ⟨a222, trivial⟩ rfl rfl rfl rfl (nb rfl) rfl (d_call (xl := [.tmp 72, .const (.slice none 0 0)]) (al := [(Value.agg #[(eN 7), (eN 10), (eN 4)]), (Value.slice none 0 0)]) Try.func31 (by kernel_rfl) rfl rfl rfl (supers_ok 7 10 4 ([] : List (Int × Int)) (Value.slice none 0 0) _ seqA_nil (by first | omega | (simp; done) | (simp; omega)) (by omega) (by omega) (by omega))) ?_
  rintro u232 w230 ⟨ws233, hw234, f235, g236, o231⟩
  replace f235 := f235.less (Y := (Or1 g0 (Old W.heap.size))) (or1_old a222.lt (old_old oW.size))
  replace g236 := g236.less (Y := (Or1 g0 (Old W.heap.size))) (or1_old a222.lt (old_old oW.size))
  replace a222 := a222.step0 o231
  replace oW := oW.tail0 o231
  refine wJ.flat ([(zf224 0), (Value.bool ab)] ++ (zs zf224 2 6 ++ [(ptr g0 0)] ++ (zs zf224 9 39 ++ [(Value.bool ab)] ++ (zs zf224 49 19 ++ [(Value.agg #[(eN 7), (eN 10), (eN 4)]), (eN 0), (Value.bool true), (Value.bool true), (Value.agg #[(eN 7), (eN 10), (eN 4)]), u232, undef, (ptr g0 1), (eN 10)] ++ (us 10))))) (by kernel_rfl) ?_
  refine wJ.onis ⟨a222, trivial⟩ rfl rfl rfl rfl (nb rfl) rfl (d_lenS rfl Try.underlying47 rfl f235) ?_
  refine wJ.flat ([(zf224 0), (Value.bool ab)] ++ (zs zf224 2 6 ++ [(ptr g0 0)] ++ (zs zf224 9 39 ++ [(Value.bool ab)] ++ (zs zf224 49 19 ++ [(Value.agg #[(eN 7), (eN 10), (eN 4)]), (eN 0), (Value.bool true), (Value.bool true), (Value.agg #[(eN 7), (eN 10), (eN 4)]), u232, (eN ws233.length), (ptr g0 1), (eN 10)] ++ (us 10))))) (by kernel_rfl) ?_
  refine wJ.onis ⟨a222, trivial⟩ rfl rfl rfl rfl (nb rfl) rfl (n_eql (a := ws233.length) (b := 10) rfl rfl (decide_eq_true (by rw [hw234]; exact nMin_none _ _))) ?_
  refine wJ.flat ([(zf224 0), (Value.bool ab)] ++ (zs zf224 2 6 ++ [(ptr g0 0)] ++ (zs zf224 9 39 ++ [(Value.bool ab)] ++ (zs zf224 49 19 ++ [(Value.agg #[(eN 7), (eN 10), (eN 4)]), (eN 0), (Value.bool true), (Value.bool true), (Value.agg #[(eN 7), (eN 10), (eN 4)]), u232, (eN ws233.length), (ptr g0 1), (eN 10), (Value.bool true)] ++ (us 9))))) (by kernel_rfl) ?_
  refine wJ.is ⟨a222, trivial⟩ rfl rfl (d_pick (b := true) (v := (Value.bool true)) rfl rfl) ?_
  refine wJ.flat ([(zf224 0), (Value.bool ab)] ++ (zs zf224 2 6 ++ [(ptr g0 0)] ++ (zs zf224 9 39 ++ [(Value.bool ab)] ++ (zs zf224 49 19 ++ [(Value.agg #[(eN 7), (eN 10), (eN 4)]), (eN 0), (Value.bool true), (Value.bool true), (Value.agg #[(eN 7), (eN 10), (eN 4)]), u232, (eN ws233.length), (ptr g0 1), (eN 10), (Value.bool true), (Value.bool true)] ++ (us 8))))) (by kernel_rfl) ?_
  refine wJ.is ⟨a222, trivial⟩ rfl rfl (d_move rfl) ?_
  refine wJ.flat ([(zf224 0), (Value.bool ab)] ++ (zs zf224 2 6 ++ [(ptr g0 0)] ++ (zs zf224 9 39 ++ [(Value.bool ab)] ++ (zs zf224 49 19 ++ [(Value.agg #[(eN 7), (eN 10), (eN 4)]), (eN 0), (Value.bool true), (Value.bool true), (Value.agg #[(eN 7), (eN 10), (eN 4)]), u232, (eN ws233.length), (ptr g0 1), (eN 10), (Value.bool true), (Value.bool true), (Value.bool true)] ++ (us 7))))) (by kernel_rfl) ?_
  refine wJ.done ⟨a222, trivial⟩ ?_
  refine rest_seg (n := 20) (p := 12) (q := 20) [12, 14, 15, 16] [13, 17, 18, 19] [(12, 80), (14, 82), (15, 83), (16, 84)] [(0, 68), (1, 69), (2, 70), (3, 71), (4, 72), (5, 73), (6, 74), (7, 75), (8, 76), (9, 77), (10, 78), (11, 79), (12, 80), (13, 81), (14, 82), (15, 83), (16, 84), (17, 85), (18, 86), (19, 6)] [0, 1, 3, 7, 15, 31, 63, 15, 143, 511, 1023, 2047, 4095, 8191, 4095, 20479, 53247, 131071, 262143, 524287] (fun i_ => nth [undef, undef, undef, undef, undef, undef, undef, undef, undef, undef, undef, undef, (Value.agg #[(eN 7), (eN 10), (eN 4)]), undef, (ptr g0 0), (eN 7), (eN 5)] i_) ([(zf224 0), (Value.bool ab)] ++ (zs zf224 2 6 ++ [(ptr g0 0)] ++ (zs zf224 9 39 ++ [(Value.bool ab)] ++ (zs zf224 49 19 ++ [(Value.agg #[(eN 7), (eN 10), (eN 4)]), (eN 0), (Value.bool true), (Value.bool true), (Value.agg #[(eN 7), (eN 10), (eN 4)]), u232, (eN ws233.length), (ptr g0 1), (eN 10), (Value.bool true), (Value.bool true), (Value.bool true), (Value.agg #[(eN 7), (eN 10), (eN 4)]), undef, (ptr g0 0), (eN 7), (eN 5), undef, undef])))) (fun w_ => Ps (Or1 g0 (Old W.heap.size)) (Seq (kS eV) ws233 u232) w_ ∧ Arr 25 g0 [(eN 7), (eN 10), (eN 4)] w_ ∧ True) (by kernel_rfl) rfl (by decide) (by kernel_rfl) (by kernel_rfl) (by rfl) (by kernel_rfl) (by kernel_rfl) (by kernel_rfl) (by kernel_rfl) (by kernel_rfl) (by decide) ?_ ?_
  ·
   rintro w_ ⟨f235, a222, _⟩
   refine fl_cons ⟨_, rfl, gd_on rfl rfl rfl (nb rfl) rfl (d_loadAg (vs := [(eN 7), (eN 10), (eN 4)]) ⟨_, Try.underlying25, rfl⟩ s_ti25 rfl a222 rfl rfl)⟩ ?_
   refine fl_cons ⟨_, rfl, gd_on rfl rfl rfl (nb rfl) rfl (d_fieldAddr (j := 0) Try.underlying25 rfl s_ti3 (by decide) rfl rfl)⟩ ?_
   refine fl_cons ⟨_, rfl, gd_on rfl rfl rfl (nb rfl) rfl (d_load (v := (eN 7)) ⟨_, Try.underlying3, rfl⟩ rfl a222 rfl)⟩ ?_
   refine fl_cons ⟨_, rfl, gd_on rfl rfl rfl (nb rfl) rfl (n_sub (a := 7) (b := 2) rfl rfl (by omega) (by omega))⟩ ?_
   exact fl_nil
  refine wJ.on ⟨f235, a222, trivial⟩ rfl rfl rfl rfl (nb rfl) rfl (d_call (xl := [.tmp 80]) (al := [(Value.agg #[(eN 7), (eN 10), (eN 4)])]) Try.func35 (by kernel_rfl) rfl rfl rfl (cw_is (v' := eN (7 - 2)) (gSlots_ok 7 10 4 _) (congrArg eI ((if_pos (show fitsI 7 10 4 = true from (fits_is (by omega)).symm)).trans (by omega))))) ?_
  rintro _ w237 ⟨rfl, o238⟩
  replace f235 := f235.step0 o238
  replace g236 := g236.step0 o238
  replace a222 := a222.step0 o238
  replace oW := oW.tail0 o238
  refine wJ.flat ([(zf224 0), (Value.bool ab)] ++ (zs zf224 2 6 ++ [(ptr g0 0)] ++ (zs zf224 9 39 ++ [(Value.bool ab)] ++ (zs zf224 49 19 ++ [(Value.agg #[(eN 7), (eN 10), (eN 4)]), (eN 0), (Value.bool true), (Value.bool true), (Value.agg #[(eN 7), (eN 10), (eN 4)]), u232, (eN ws233.length), (ptr g0 1), (eN 10), (Value.bool true), (Value.bool true), (Value.bool true), (Value.agg #[(eN 7), (eN 10), (eN 4)]), (eN (7 - 2)), (ptr g0 0), (eN 7), (eN 5), undef, undef])))) (by kernel_rfl) ?_
  refine wJ.onis ⟨f235, a222, trivial⟩ rfl rfl rfl rfl (nb rfl) rfl (n_eql (a := (7 - 2)) (b := 5) rfl rfl rfl) ?_
  refine wJ.flat ([(zf224 0), (Value.bool ab)] ++ (zs zf224 2 6 ++ [(ptr g0 0)] ++ (zs zf224 9 39 ++ [(Value.bool ab)] ++ (zs zf224 49 19 ++ [(Value.agg #[(eN 7), (eN 10), (eN 4)]), (eN 0), (Value.bool true), (Value.bool true), (Value.agg #[(eN 7), (eN 10), (eN 4)]), u232, (eN ws233.length), (ptr g0 1), (eN 10), (Value.bool true), (Value.bool true), (Value.bool true), (Value.agg #[(eN 7), (eN 10), (eN 4)]), (eN (7 - 2)), (ptr g0 0), (eN 7), (eN 5), (Value.bool (decide ((7 - 2) = 5))), undef])))) (by kernel_rfl) ?_
  refine wJ.is ⟨f235, a222, trivial⟩ rfl rfl (d_pick (b := true) (v := (Value.bool (decide ((7 - 2) = 5)))) rfl rfl) ?_
  refine wJ.flat ([(zf224 0), (Value.bool ab)] ++ (zs zf224 2 6 ++ [(ptr g0 0)] ++ (zs zf224 9 39 ++ [(Value.bool ab)] ++ (zs zf224 49 19 ++ [(Value.agg #[(eN 7), (eN 10), (eN 4)]), (eN 0), (Value.bool true), (Value.bool true), (Value.agg #[(eN 7), (eN 10), (eN 4)]), u232, (eN ws233.length), (ptr g0 1), (eN 10), (Value.bool true), (Value.bool true), (Value.bool true), (Value.agg #[(eN 7), (eN 10), (eN 4)]), (eN (7 - 2)), (ptr g0 0), (eN 7), (eN 5), (Value.bool (decide ((7 - 2) = 5))), (Value.bool (decide ((7 - 2) = 5)))])))) (by kernel_rfl) ?_
  refine wJ.is ⟨f235, a222, trivial⟩ rfl rfl (d_assign rfl) ?_
  refine wJ.flat ([(zf224 0), (Value.bool ab), (zf224 2), (zf224 3), (zf224 4), (zf224 5), (Value.bool (decide ((7 - 2) = 5))), (zf224 7), (ptr g0 0)] ++ (zs zf224 9 39 ++ [(Value.bool ab)] ++ (zs zf224 49 19 ++ [(Value.agg #[(eN 7), (eN 10), (eN 4)]), (eN 0), (Value.bool true), (Value.bool true), (Value.agg #[(eN 7), (eN 10), (eN 4)]), u232, (eN ws233.length), (ptr g0 1), (eN 10), (Value.bool true), (Value.bool true), (Value.bool true), (Value.agg #[(eN 7), (eN 10), (eN 4)]), (eN (7 - 2)), (ptr g0 0), (eN 7), (eN 5), (Value.bool (decide ((7 - 2) = 5))), (Value.bool (decide ((7 - 2) = 5)))]))) (by kernel_rfl) ?_
  refine wJ.done ⟨f235, a222, trivial⟩ ?_
  refine rest_done rfl ?_
  refine then_n ?_
  refine forget (fun zf239 => (zs zf239 0 6 ++ [(Value.bool (decide ((7 - 2) = 5)))] ++ (zs zf239 7 80))) (by kernel_rfl) (fun zf239 => ?_)
  refine wpIn_ret ?_
  refine leave0 (v := (Value.bool (decide ((7 - 2) = 5)))) (res1 Try.results13 rfl) ?_
  exact ⟨rfl, oW⟩
 omega

end Go.Proofs.YtnlbekdjepkhcaaF
